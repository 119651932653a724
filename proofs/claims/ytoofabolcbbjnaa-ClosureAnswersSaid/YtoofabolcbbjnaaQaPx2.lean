/- Functions of the program as Lean functions, and the walks that show that the calls answer so; written by a program of this session (a changed print) and by hand. -/
import Derived.Test.YtoofabolcbbjnaaQaPx0
import Derived.Test.YtoofabolcbbjnaaQaPx1
namespace Go.Proofs.Ytoofabolcbbjnaa.P
open Go.RowKit Go.Proofs.YtoofabolcbbjnaaW.PrintWords Go.Proofs.YtoofabolcbbjnaaW.PrintLast Go.Proofs.YtoofabolcbbjnaaW.PrintMore
attribute [local go_sem] kR kP Qa Qc kE kD kQ kN
set_option linter.unusedVariables false
set_option linter.unusedSimpArgs false
def zY.l0 : Nat→Int→List Int→Int→Int→List (S51)→Option (Int × Bool)
 | 0,_,_,_,_,_=>none
 | k + 1,x1,x9,x10,x11,x123000=>if x11 < x10 then (if 0 ≤ x11 then (if x11 < (x9.length : Int) then ((jX.f k x123000 (rd x9 x11) x1).bind fun t127=>(if t127 = true then (zY.l0 k x1 x9 x10 (wrap64 (x11 + 1)) x123000) else (some (rd x9 x11,true)))) else (none)) else (none)) else (some (0,false))
def zY.f (k : Nat) (l0_0 : List (S51)) (a1 : Int) : Option (Int × Bool):=(jL.f k a1).bind fun t123=>(zY.l0 k a1 t123 (t123.length : Int) 0 l0_0)
theorem zY.mono_l : ∀ k,(∀ y0 y1 y2 y3 y4,LeO (zY.l0 k y0 y1 y2 y3 y4) (zY.l0 (k + 1) y0 y1 y2 y3 y4))
 | 0=>fun _ _ _ _ _ r h=>by simp [zY.l0] at h
 | k + 1=>by
  have ih0:=zY.mono_l k
  ·intro y0 y1 y2 y3 y4
   unfold zY.l0
   repeat' first
   | (with_reducible exact ih0 _ _ _ _ _)
   | (with_reducible exact jX.mono _ _ _ _)
   | (with_reducible exact jL.mono _ _)
   | (with_reducible exact LeO.refl _)
   | (with_reducible exact LeO.none _)
   | (with_reducible refine LeO.ite ?_ ?_)
   | (with_reducible refine LeO.bind ?_ (fun _=>?_))
   | exact ih0 _ _ _ _ _
   | exact jX.mono _ _ _ _
   | exact jL.mono _ _
   | exact LeO.none _
   | refine LeO.ite ?_ ?_
   | refine LeO.bind ?_ (fun _=>?_)
theorem zY.mono : ∀ a0 a1 k,LeO (zY.f k a0 a1) (zY.f (k + 1) a0 a1):=by
 intro a0 a1 k
 have ih0:=zY.mono_l k
 unfold zY.f
 repeat' first
   | (with_reducible exact ih0 _ _ _ _ _)
   | (with_reducible exact jX.mono _ _ _ _)
   | (with_reducible exact jL.mono _ _)
   | (with_reducible exact LeO.refl _)
   | (with_reducible exact LeO.none _)
   | (with_reducible refine LeO.ite ?_ ?_)
   | (with_reducible refine LeO.bind ?_ (fun _=>?_))
   | exact ih0 _ _ _ _ _
   | exact jX.mono _ _ _ _
   | exact jL.mono _ _
   | exact LeO.none _
   | refine LeO.ite ?_ ?_
   | refine LeO.bind ?_ (fun _=>?_)
set_option maxHeartbeats 8000000 in
set_option maxRecDepth 100000 in
theorem zY.calls (k : Nat) (A0_0 : Option Addr) (c0_0 : Nat) (l0_0 : List (S51)) (a1 : Int) (r1 : Int) (r2 : Bool) (w : World) (hr0_0 : Kd.C k51 w A0_0 l0_0.length l0_0) (hc0_0 : l0_0.length ≤ c0_0) (h : zY.f k l0_0 a1 = some (r1,r2)) :
  Calls Try.prog 39 #[.agg #[.slice A0_0 l0_0.length c0_0],.int .i64 a1] w fun e w'=>e = .returned (.tuple #[.int .i64 r1,.bool r2])∧Below w.heap.size w w':=by
 have hu25:=Try.underlying25
 have HR0_0:=qA.mk hr0_0
 have HC0_0:=qA.mk hc0_0
 clear hr0_0 hc0_0
 have HB:=qA.mk (Below.refl w.heap.size w)
 unfold zY.f at h
 have H:=h
 clear h
 replace H:=Option.bind_eq_some_iff.mp H
 obtain ⟨t123,A30,H⟩:=H
 try dsimp only at H
 have A3:=qA.mk A30
 clear A30
 have H':=qA.mk H
 clear H
 go_enter Try.func39,Try.ntmps39
 go_wp2_with (first|((with_reducible refine qX (N:=2) rfl ?_);refine zD ?hg (N:=2) ?hd (cs:=#[.slice A0_0 l0_0.length c0_0]) (t:=25) ?hr ?_;(case hd=>rfl);(case hg=>rfl);(case hr=>exact byad);intro gb122 hg w4 hbox hb;have n_:=q_4 (qE byae hb) (hbox) ((byck : w.heap.size ≤ gb122)) ((byck : w.heap.size ≤ gb122));clear HB;obtain ⟨HB,BK122,GW122,GE122⟩:=n_;clear hb hbox hg)|((with_reducible refine qF (f:=48) rfl ?_);refine zC (some 9) rfl rfl Try.func48 (by kernel_rfl) rfl #[.int .i64 a1] rfl byac ?_;(with_reducible refine (jL.calls k a1 t123 _ A3.out).mono ?_);rintro e w5 ⟨v124,rfl,ho0,hb⟩;refine ⟨_,rfl,?_⟩;have n_:=q_3 (Kd.vG ho0 (zJ (byag GE122.out))) (qI BK122.out hb) (qE (byag GE122.out) hb);clear BK122 HB;obtain ⟨HO125,BK122,HB⟩:=n_;clear hb;(try clear ho0);obtain ⟨Ao6,co6,eo6⟩:=Kd.jI HO125.out;subst eo6))
 go_loopg [11] k (fun kq v11 w'=>∃ (x11_1 : Int),v11 = .int .i64 x11_1∧qA (zY.l0 kq a1 t123 (t123.length : Int) x11_1 l0_0 = some (r1,r2))∧qA (kq ≤ k)∧qA (Kd.R (Kd.int .i64) 3 w' w.heap.size (fun _=>True) (.slice Ao6 t123.length co6) t123)∧qA (w'.heap[gb122]? = some (.cells #[(.slice A0_0 l0_0.length c0_0)] 25 (0,0)))∧qA (Below w.heap.size w w'))
 case atStart=>exact ⟨(0),byab,H',⟨Nat.le_refl _⟩,⟨byas HO125.out⟩,⟨byaf BK122.out⟩,⟨byag GE122.out⟩⟩
 case round =>
  clear H'
  obtain ⟨x11_1,rfl,HA,HK1,HO_9,BK122,HB⟩:=hrel
  cases gk with
  | zero=>exact absurd HA.out (by simp [zY.l0])
  | succ k1 =>
   have H:=HA.out
   clear HA
   simp only [zY.l0] at H
   by_cases c7 : x11_1 < (t123.length : Int)
   ·rw [if_pos c7] at H
    have c7b0:=decide_eq_true c7
    clear c7
    by_cases c8 : 0 ≤ x11_1
    ·rw [if_pos c8] at H
     have c8b0:=decide_eq_true c8
     clear c8
     by_cases c9 : x11_1 < (t123.length : Int)
     ·rw [if_pos c9] at H
      have c9b0:=decide_eq_true c9
      clear c9
      replace H:=Option.bind_eq_some_iff.mp H
      obtain ⟨t127,A100,H⟩:=H
      try dsimp only at H
      have A10:=qA.mk A100
      clear A100
      by_cases c11 : t127 = true
      ·subst c11
       rw [if_pos rfl] at H
       have H':=qA.mk H
       clear H
       have p126 : 0 ≤ (x11_1 : Int):=of_decide_eq_true byah
       have q126 : x11_1 < (t123.length : Int):=of_decide_eq_true byah
       obtain ⟨ad126,e126,hx126_0⟩:=Kd.uV (Kd.vS HO_9.out).2.2 x11_1 p126 q126
       cases e126
       replace p126:=eq_true p126
       replace q126:=eq_true q126
       obtain ⟨hcz12_0,hfz12_0⟩:=cz1 BK122.out
       go_wp2_with (first|((with_reducible refine qF (f:=43) rfl ?_);refine zC (some 18) rfl rfl Try.func43 (by kernel_rfl) rfl #[.agg #[.slice A0_0 l0_0.length c0_0],.int .i64 (rd t123 x11_1),.int .i64 a1] rfl byac ?_;(with_reducible refine (jX.calls k1 _ _ l0_0 (rd t123 x11_1) a1 true _ ?side1 ?side2 A10.out).mono ?_);(case side1=>exact byan HR0_0.out);(case side2=>exact HC0_0.out);rintro e w13 ⟨rfl,hb⟩;refine ⟨_,rfl,?_⟩;have n_:=q_3 (Kd.jH (byas HO_9.out) hb) (qI BK122.out hb) (qE (byag GE122.out) hb);clear HO_9 BK122 HB;obtain ⟨HO_9,BK122,HB⟩:=n_;clear hb))
       go_roundg k1
       case measure=>have:=HK1.out;omega
       case rel=>exact ⟨(wrap64 (x11_1 + 1)),byab,H',⟨byaj⟩,⟨byas HO_9.out⟩,⟨byaf BK122.out⟩,⟨byag GE122.out⟩⟩
      ·replace c11:=Bool.eq_false_iff.mpr c11
       subst c11
       rw [if_neg (show ¬ (false = true) by decide)] at H
       simp only [Option.some.injEq,Prod.mk.injEq] at H
       obtain ⟨rfl,rfl⟩:=H
       have p126 : 0 ≤ (x11_1 : Int):=of_decide_eq_true byah
       have q126 : x11_1 < (t123.length : Int):=of_decide_eq_true byah
       obtain ⟨ad126,e126,hx126_0⟩:=Kd.uV (Kd.vS HO_9.out).2.2 x11_1 p126 q126
       cases e126
       replace p126:=eq_true p126
       replace q126:=eq_true q126
       obtain ⟨hcz14_0,hfz14_0⟩:=cz1 BK122.out
       go_wp2_with (first|((with_reducible refine qF (f:=43) rfl ?_);refine zC (some 18) rfl rfl Try.func43 (by kernel_rfl) rfl #[.agg #[.slice A0_0 l0_0.length c0_0],.int .i64 (rd t123 x11_1),.int .i64 a1] rfl byac ?_;(with_reducible refine (jX.calls k1 _ _ l0_0 (rd t123 x11_1) a1 false _ ?side1 ?side2 A10.out).mono ?_);(case side1=>exact byan HR0_0.out);(case side2=>exact HC0_0.out);rintro e w15 ⟨rfl,hb⟩;refine ⟨_,rfl,?_⟩;have n_:=q_3 (Kd.jH (byas HO_9.out) hb) (qI BK122.out hb) (qE (byag GE122.out) hb);clear HO_9 BK122 HB;obtain ⟨HO_9,BK122,HB⟩:=n_;clear hb))
       go_ret2
       exact ⟨byam,byag GE122.out⟩
     ·rw [if_neg c9] at H
      exact absurd H (by simp)
    ·rw [if_neg c8] at H
     exact absurd H (by simp)
   ·rw [if_neg c7] at H
    have c7b0:=decide_eq_false c7
    clear c7
    simp only [Option.some.injEq,Prod.mk.injEq] at H
    obtain ⟨rfl,rfl⟩:=H
    go_wp2
    go_ret2
    exact ⟨byam,byag GE122.out⟩
def closure_Quorum.f (k : Nat) (l0_0 : List (S51)) (a1 : Int) : Option (Bool):=(vC.f a1).bind fun t129=>(if t129 = true then (if a1 = 0 then (some false) else ((uD.f k l0_0 a1).bind fun t130=>(if t130 = true then ((zY.f k l0_0 a1).bind fun bt131=>(some (!bt131.2))) else (some false)))) else (some false))
theorem closure_Quorum.mono : ∀ a0 a1 k,LeO (closure_Quorum.f k a0 a1) (closure_Quorum.f (k + 1) a0 a1):=by
 intro a0 a1 k
 unfold closure_Quorum.f
 repeat' first
   | (with_reducible exact uD.mono _ _ _)
   | (with_reducible exact zY.mono _ _ _)
   | (with_reducible exact LeO.refl _)
   | (with_reducible exact LeO.none _)
   | (with_reducible refine LeO.ite ?_ ?_)
   | (with_reducible refine LeO.bind ?_ (fun _=>?_))
   | exact uD.mono _ _ _
   | exact zY.mono _ _ _
   | exact LeO.none _
   | refine LeO.ite ?_ ?_
   | refine LeO.bind ?_ (fun _=>?_)
set_option maxHeartbeats 8000000 in
set_option maxRecDepth 100000 in
theorem closure_Quorum.calls (k : Nat) (A0_0 : Option Addr) (c0_0 : Nat) (l0_0 : List (S51)) (a1 : Int) (r : Bool) (w : World) (hr0_0 : Kd.C k51 w A0_0 l0_0.length l0_0) (hc0_0 : l0_0.length ≤ c0_0) (h : closure_Quorum.f k l0_0 a1 = some r) :
  Calls Try.prog 15 #[.agg #[.slice A0_0 l0_0.length c0_0],.int .i64 a1] w fun e w'=>e = .returned (.bool r)∧Below w.heap.size w w':=by
 have hu25:=Try.underlying25
 have HR0_0:=qA.mk hr0_0
 have HC0_0:=qA.mk hc0_0
 clear hr0_0 hc0_0
 have HB:=qA.mk (Below.refl w.heap.size w)
 unfold closure_Quorum.f at h
 have H:=h
 clear h
 replace H:=Option.bind_eq_some_iff.mp H
 obtain ⟨t129,A30,H⟩:=H
 try dsimp only at H
 have A3:=qA.mk A30
 clear A30
 by_cases c4 : t129 = true
 ·subst c4
  rw [if_pos rfl] at H
  by_cases c5 : a1 = 0
  ·rw [if_pos c5] at H
   obtain ⟨c5b0,c5b1⟩:=eqT c5
   clear c5
   obtain rfl:=Option.some.inj H
   go_enter Try.func15,Try.ntmps15
   go_wp2_with (first|((with_reducible refine qX (N:=2) rfl ?_);refine zD ?hg (N:=2) ?hd (cs:=#[.slice A0_0 l0_0.length c0_0]) (t:=25) ?hr ?_;(case hd=>rfl);(case hg=>rfl);(case hr=>exact byad);intro gb128 hg w6 hbox hb;have n_:=q_4 (qE byae hb) (hbox) ((byck : w.heap.size ≤ gb128)) ((byck : w.heap.size ≤ gb128));clear HB;obtain ⟨HB,BK128,GW128,GE128⟩:=n_;clear hb hbox hg)|((with_reducible refine qF (f:=37) rfl ?_);refine zC (some 8) rfl rfl Try.func37 (by kernel_rfl) rfl #[.int .i64 a1] rfl byac ?_;(with_reducible refine (vC.calls a1 true _ A3.out).mono ?_);rintro e w' ⟨rfl,⟨nd,rfl⟩⟩;refine ⟨_,rfl,?_⟩))
   go_ret
   exact ⟨byam,byag GE128.out⟩
  ·rw [if_neg c5] at H
   obtain ⟨c5b0,c5b1⟩:=eqF c5
   replace H:=Option.bind_eq_some_iff.mp H
   obtain ⟨t130,A70,H⟩:=H
   try dsimp only at H
   have A7:=qA.mk A70
   clear A70
   by_cases c8 : t130 = true
   ·subst c8
    rw [if_pos rfl] at H
    replace H:=Option.bind_eq_some_iff.mp H
    obtain ⟨⟨t131,t132⟩,A90,H⟩:=H
    try dsimp only at H
    have A9:=qA.mk A90
    clear A90
    obtain rfl:=Option.some.inj H
    go_enter Try.func15,Try.ntmps15
    go_wp2_with (first|((with_reducible refine qX (N:=2) rfl ?_);refine zD ?hg (N:=2) ?hd (cs:=#[.slice A0_0 l0_0.length c0_0]) (t:=25) ?hr ?_;(case hd=>rfl);(case hg=>rfl);(case hr=>exact byad);intro gb128 hg w10 hbox hb;have n_:=q_4 (qE byae hb) (hbox) ((byck : w.heap.size ≤ gb128)) ((byck : w.heap.size ≤ gb128));clear HB;obtain ⟨HB,BK128,GW128,GE128⟩:=n_;clear hb hbox hg)|((with_reducible refine qF (f:=37) rfl ?_);refine zC (some 8) rfl rfl Try.func37 (by kernel_rfl) rfl #[.int .i64 a1] rfl byac ?_;(with_reducible refine (vC.calls a1 true _ A3.out).mono ?_);rintro e w' ⟨rfl,⟨nd,rfl⟩⟩;refine ⟨_,rfl,?_⟩;obtain ⟨hcz11_0,hfz11_0⟩:=cz1 BK128.out)|(go_at_call 38;(with_reducible refine (uD.calls k _ _ l0_0 a1 true _ ?side1 ?side2 A7.out).mono ?_);(case side1=>exact bycm HR0_0.out GE128.out);(case side2=>exact HC0_0.out);rintro e w12 ⟨rfl,hb⟩;have n_:=q_2 (qI BK128.out hb) (qE (byag GE128.out) hb);clear BK128 HB;obtain ⟨BK128,HB⟩:=n_;clear hb;obtain ⟨hcz13_0,hfz13_0⟩:=cz1 BK128.out)|((with_reducible refine qF (f:=39) rfl ?_);refine zC (some 23) rfl rfl Try.func39 (by kernel_rfl) rfl #[.agg #[.slice A0_0 l0_0.length c0_0],.int .i64 a1] rfl byac ?_;(with_reducible refine (zY.calls k _ _ l0_0 a1 t131 t132 _ ?side1 ?side2 A9.out).mono ?_);(case side1=>exact byan HR0_0.out);(case side2=>exact HC0_0.out);rintro e w14 ⟨rfl,hb⟩;refine ⟨_,rfl,?_⟩;have n_:=q_2 (qI BK128.out hb) (qE (byag GE128.out) hb);clear BK128 HB;obtain ⟨BK128,HB⟩:=n_;clear hb))
    go_ret
    exact ⟨byam,byag GE128.out⟩
   ·replace c8:=Bool.eq_false_iff.mpr c8
    subst c8
    rw [if_neg (show ¬ (false = true) by decide)] at H
    obtain rfl:=Option.some.inj H
    go_enter Try.func15,Try.ntmps15
    go_wp2_with (first|((with_reducible refine qX (N:=2) rfl ?_);refine zD ?hg (N:=2) ?hd (cs:=#[.slice A0_0 l0_0.length c0_0]) (t:=25) ?hr ?_;(case hd=>rfl);(case hg=>rfl);(case hr=>exact byad);intro gb128 hg w15 hbox hb;have n_:=q_4 (qE byae hb) (hbox) ((byck : w.heap.size ≤ gb128)) ((byck : w.heap.size ≤ gb128));clear HB;obtain ⟨HB,BK128,GW128,GE128⟩:=n_;clear hb hbox hg)|((with_reducible refine qF (f:=37) rfl ?_);refine zC (some 8) rfl rfl Try.func37 (by kernel_rfl) rfl #[.int .i64 a1] rfl byac ?_;(with_reducible refine (vC.calls a1 true _ A3.out).mono ?_);rintro e w' ⟨rfl,⟨nd,rfl⟩⟩;refine ⟨_,rfl,?_⟩;obtain ⟨hcz16_0,hfz16_0⟩:=cz1 BK128.out)|(go_at_call 38;(with_reducible refine (uD.calls k _ _ l0_0 a1 false _ ?side1 ?side2 A7.out).mono ?_);(case side1=>exact bycm HR0_0.out GE128.out);(case side2=>exact HC0_0.out);rintro e w17 ⟨rfl,hb⟩;have n_:=q_2 (qI BK128.out hb) (qE (byag GE128.out) hb);clear BK128 HB;obtain ⟨BK128,HB⟩:=n_;clear hb))
    go_ret
    exact ⟨byam,byag GE128.out⟩
 ·replace c4:=Bool.eq_false_iff.mpr c4
  subst c4
  rw [if_neg (show ¬ (false = true) by decide)] at H
  obtain rfl:=Option.some.inj H
  go_enter Try.func15,Try.ntmps15
  go_wp2_with (first|((with_reducible refine qX (N:=2) rfl ?_);refine zD ?hg (N:=2) ?hd (cs:=#[.slice A0_0 l0_0.length c0_0]) (t:=25) ?hr ?_;(case hd=>rfl);(case hg=>rfl);(case hr=>exact byad);intro gb128 hg w18 hbox hb;have n_:=q_4 (qE byae hb) (hbox) ((byck : w.heap.size ≤ gb128)) ((byck : w.heap.size ≤ gb128));clear HB;obtain ⟨HB,BK128,GW128,GE128⟩:=n_;clear hb hbox hg)|((with_reducible refine qF (f:=37) rfl ?_);refine zC (some 8) rfl rfl Try.func37 (by kernel_rfl) rfl #[.int .i64 a1] rfl byac ?_;(with_reducible refine (vC.calls a1 false _ A3.out).mono ?_);rintro e w' ⟨rfl,⟨nd,rfl⟩⟩;refine ⟨_,rfl,?_⟩))
  go_ret
  exact ⟨byam,byag GE128.out⟩
def zN.l0 : Nat→Int→List Int→List (S51)→Option (Int × List Int)
 | 0,_,_,_=>none
 | k + 1,x1,x6,x134000=>(zY.f k x134000 x1).bind fun bt136=>(if bt136.2 = true then (if x6.length < 17592186044416 then (if 0 ≤ bt136.1 then (zN.l0 k (Go.bits .andNot .i64 x1 (shl .i64 1 bt136.1)) (x6 ++ [bt136.1]) x134000) else (none)) else (none)) else (some (x1,x6)))
def zN.f (k : Nat) (l0_0 : List (S51)) (a1 : Int) : Option (Int × List Int):=(vC.f a1).bind fun t134=>(if t134 = true then ((qO.f k l0_0).bind fun t135=>(zN.l0 k (Go.bits .and .i64 a1 t135) ([] : List Int) l0_0)) else (some (0,([] : List Int))))
theorem zN.mono_l : ∀ k,(∀ y0 y1 y2,LeO (zN.l0 k y0 y1 y2) (zN.l0 (k + 1) y0 y1 y2))
 | 0=>fun _ _ _ r h=>by simp [zN.l0] at h
 | k + 1=>by
  have ih0:=zN.mono_l k
  ·intro y0 y1 y2
   unfold zN.l0
   repeat' first
   | (with_reducible exact ih0 _ _ _)
   | (with_reducible exact zY.mono _ _ _)
   | (with_reducible exact qO.mono _ _)
   | (with_reducible exact LeO.refl _)
   | (with_reducible exact LeO.none _)
   | (with_reducible refine LeO.ite ?_ ?_)
   | (with_reducible refine LeO.bind ?_ (fun _=>?_))
   | exact ih0 _ _ _
   | exact zY.mono _ _ _
   | exact qO.mono _ _
   | exact LeO.none _
   | refine LeO.ite ?_ ?_
   | refine LeO.bind ?_ (fun _=>?_)
theorem zN.mono : ∀ a0 a1 k,LeO (zN.f k a0 a1) (zN.f (k + 1) a0 a1):=by
 intro a0 a1 k
 have ih0:=zN.mono_l k
 unfold zN.f
 repeat' first
   | (with_reducible exact ih0 _ _ _)
   | (with_reducible exact zY.mono _ _ _)
   | (with_reducible exact qO.mono _ _)
   | (with_reducible exact LeO.refl _)
   | (with_reducible exact LeO.none _)
   | (with_reducible refine LeO.ite ?_ ?_)
   | (with_reducible refine LeO.bind ?_ (fun _=>?_))
   | exact ih0 _ _ _
   | exact zY.mono _ _ _
   | exact qO.mono _ _
   | exact LeO.none _
   | refine LeO.ite ?_ ?_
   | refine LeO.bind ?_ (fun _=>?_)
set_option maxHeartbeats 8000000 in
set_option maxRecDepth 100000 in
theorem zN.calls (k : Nat) (A0_0 : Option Addr) (c0_0 : Nat) (l0_0 : List (S51)) (a1 : Int) (r1 : Int) (r2 : List Int) (w : World) (hr0_0 : Kd.C k51 w A0_0 l0_0.length l0_0) (hc0_0 : l0_0.length ≤ c0_0) (h : zN.f k l0_0 a1 = some (r1,r2)) :
  Calls Try.prog 40 #[.agg #[.slice A0_0 l0_0.length c0_0],.int .i64 a1] w fun e w'=>∃ v1_ : Value,e = .returned (.tuple #[.int .i64 r1,v1_])∧Kd.R (Kd.int .i64) 3 w' w.heap.size (fun _=>True) v1_ r2∧Below w.heap.size w w':=by
 have hu25:=Try.underlying25
 have HR0_0:=qA.mk hr0_0
 have HC0_0:=qA.mk hc0_0
 clear hr0_0 hc0_0
 have HB:=qA.mk (Below.refl w.heap.size w)
 unfold zN.f at h
 have H:=h
 clear h
 replace H:=Option.bind_eq_some_iff.mp H
 obtain ⟨t134,A30,H⟩:=H
 try dsimp only at H
 have A3:=qA.mk A30
 clear A30
 by_cases c4 : t134 = true
 ·subst c4
  rw [if_pos rfl] at H
  replace H:=Option.bind_eq_some_iff.mp H
  obtain ⟨t135,A50,H⟩:=H
  try dsimp only at H
  have A5:=qA.mk A50
  clear A50
  have H':=qA.mk H
  clear H
  go_enter Try.func40,Try.ntmps40
  go_wp2_with (first|((with_reducible refine qX (N:=2) rfl ?_);refine zD ?hg (N:=2) ?hd (cs:=#[.slice A0_0 l0_0.length c0_0]) (t:=25) ?hr ?_;(case hd=>rfl);(case hg=>rfl);(case hr=>exact byad);intro gb133 hg w6 hbox hb;have n_:=q_4 (qE byae hb) (hbox) ((byck : w.heap.size ≤ gb133)) ((byck : w.heap.size ≤ gb133));clear HB;obtain ⟨HB,BK133,GW133,GE133⟩:=n_;clear hb hbox hg)|((with_reducible refine qF (f:=37) rfl ?_);refine zC (some 10) rfl rfl Try.func37 (by kernel_rfl) rfl #[.int .i64 a1] rfl byac ?_;(with_reducible refine (vC.calls a1 true _ A3.out).mono ?_);rintro e w' ⟨rfl,⟨nd,rfl⟩⟩;refine ⟨_,rfl,?_⟩;obtain ⟨hcz7_0,hfz7_0⟩:=cz1 BK133.out)|((with_reducible refine qF (f:=41) rfl ?_);refine zC (some 14) rfl rfl Try.func41 (by kernel_rfl) rfl #[.agg #[.slice A0_0 l0_0.length c0_0]] rfl byac ?_;(with_reducible refine (qO.calls k _ _ l0_0 t135 _ ?side1 ?side2 A5.out).mono ?_);(case side1=>exact bycm HR0_0.out GE133.out);(case side2=>exact HC0_0.out);rintro e w8 ⟨rfl,hb⟩;refine ⟨_,rfl,?_⟩;have n_:=q_2 (qI BK133.out hb) (qE (byag GE133.out) hb);clear BK133 HB;obtain ⟨BK133,HB⟩:=n_;clear hb))
  go_loopg [1,6] k (fun kq v1 v6 w'=>∃ (x1_1 : Int) (x6_1 : List Int),v1 = .int .i64 x1_1∧qA (zN.l0 kq x1_1 x6_1 l0_0 = some (r1,r2))∧qA (kq ≤ k)∧qA (Kd.R (Kd.int .i64) 3 w' w.heap.size (fun _=>True) v6 x6_1)∧qA (w'.heap[gb133]? = some (.cells #[(.slice A0_0 l0_0.length c0_0)] 25 (0,0)))∧qA (Below w.heap.size w w'))
  case atStart=>exact ⟨(Go.bits .and .i64 a1 t135),(([] : List Int)),byab,H',⟨Nat.le_refl _⟩,⟨byar⟩,⟨byaf BK133.out⟩,⟨byag GE133.out⟩⟩
  case round =>
   clear H'
   obtain ⟨x1_1,x6_1,rfl,HA,HK1,HO_6,BK133,HB⟩:=hrel
   cases gk with
   | zero=>exact absurd HA.out (by simp [zN.l0])
   | succ k1 =>
    have H:=HA.out
    clear HA
    simp only [zN.l0] at H
    replace H:=Option.bind_eq_some_iff.mp H
    obtain ⟨⟨t136,t137⟩,A90,H⟩:=H
    try dsimp only at H
    have A9:=qA.mk A90
    clear A90
    by_cases c10 : t137 = true
    ·subst c10
     rw [if_pos rfl] at H
     by_cases c11 : x6_1.length < 17592186044416
     ·rw [if_pos c11] at H
      have LMc11:=qA.mk c11
      clear c11
      obtain ⟨y138,hy138⟩ : ∃ y_ : List Int,y_ = (x6_1 ++ [t136]):=⟨_,rfl⟩
      replace H : (if 0 ≤ t136 then (zN.l0 k1 (Go.bits .andNot .i64 x1_1 (shl .i64 1 t136)) y138 l0_0) else (none)) = some (r1,r2):=by first|(rw [hy138];with_reducible exact H)|(have H2_:=(Option.bind_some _ _).symm.trans H;rw [hy138];with_reducible exact H2_)|(have H2_:=(Option.bind_some _ _).symm.trans H;with_reducible exact H2_)|with_reducible exact H|(rw [hy138];exact H)|exact H
      have Ny138:=qA.mk hy138
      clear hy138
      by_cases c12 : 0 ≤ t136
      ·rw [if_pos c12] at H
       have c12b0:=eq_true c12
       have c12b1:=decide_eq_true c12
       clear c12
       obtain ⟨ji13,hji13⟩ : ∃ j_ : Int,(shl .i64 1 t136) = j_:=⟨_,rfl⟩
       (first|rw [hji13] at H|(simp only [hji13] at H))
       (try rw [hji13] at A9)
       obtain ⟨hji13_,hji13z,hji13u,hji13v,hji13y,hji13x⟩:=jiA hji13
       have H':=qA.mk H
       clear H
       obtain ⟨hcz14_0,hfz14_0⟩:=cz1 BK133.out
       go_wp2_with (first|((with_reducible refine qF (f:=39) rfl ?_);refine zC (some 19) rfl rfl Try.func39 (by kernel_rfl) rfl #[.agg #[.slice A0_0 l0_0.length c0_0],.int .i64 x1_1] rfl byac ?_;(with_reducible refine (zY.calls k1 _ _ l0_0 x1_1 t136 true _ ?side1 ?side2 A9.out).mono ?_);(case side1=>exact byan HR0_0.out);(case side2=>exact HC0_0.out);rintro e w15 ⟨rfl,hb⟩;refine ⟨_,rfl,?_⟩;have n_:=q_3 (Kd.jH (byas HO_6.out) hb) (qI BK133.out hb) (qE (byag GE133.out) hb);clear HO_6 BK133 HB;obtain ⟨HO_6,BK133,HB⟩:=n_;clear hb)|((with_reducible refine jU (b:=.append) (xs:=#[.tmp 26,.tmp 28]) rfl ?_);at_builtin;refine Kd.kF (Kd.int .i64) (w0:=w) w.heap.size rfl (.tmp 26) (.tmp 28) 22 3 (.int .i64 0) 8 rfl Try.underlying22 info3 rfl (by decide) (by omega) u6 x6_1 t136 [.int .i64 t136] (fun _=>True) (fun _=>False) rfl rfl ?aP (fun _ hk=>hk.elim) ?aF ?aO ?aB ?aS ?aL ?_;(case aP=>exact rfl);(case aB=>exact (byag GE133.out));(case aF=>exact (fun _ _=>trivial));(case aO=>exact (byas HO_6.out));(case aS=>exact (zJ (byag GE133.out)));(case aL=>have:=LMc11.out;omega);intro v139 w16 ho hb hg hat;rw [← Ny138.out] at ho;have n_:=q_3 (zS (g:=gb133) (o:=.cells #[.slice A0_0 l0_0.length c0_0] 25 (0,0)) (byaf BK133.out) hg (Kd.R_ne HO_6.out BK133.out (by decide))) (hb) (ho);clear BK133 HB HO_6;obtain ⟨BK133,HB,HO140⟩:=n_;clear ho hb hg hat))
       go_roundg k1
       case measure=>have:=HK1.out;omega
       case rel=>exact ⟨(Go.bits .andNot .i64 x1_1 (ji13)),(y138),(by first|rfl|(simp;done)|(simp only [← hji13]<;>(first|rfl|simp))|(simp [*];done)),H',⟨byaj⟩,⟨byas HO140.out⟩,⟨byaf BK133.out⟩,⟨byag GE133.out⟩⟩
      ·rw [if_neg c12] at H
       exact absurd H (by simp)
     ·rw [if_neg c11] at H
      exact absurd H (by simp)
    ·replace c10:=Bool.eq_false_iff.mpr c10
     subst c10
     rw [if_neg (show ¬ (false = true) by decide)] at H
     simp only [Option.some.injEq,Prod.mk.injEq] at H
     obtain ⟨rfl,rfl⟩:=H
     obtain ⟨hcz17_0,hfz17_0⟩:=cz1 BK133.out
     go_wp2_with (first|((with_reducible refine qF (f:=39) rfl ?_);refine zC (some 19) rfl rfl Try.func39 (by kernel_rfl) rfl #[.agg #[.slice A0_0 l0_0.length c0_0],.int .i64 x1_1] rfl byac ?_;(with_reducible refine (zY.calls k1 _ _ l0_0 x1_1 t136 false _ ?side1 ?side2 A9.out).mono ?_);(case side1=>exact byan HR0_0.out);(case side2=>exact HC0_0.out);rintro e w18 ⟨rfl,hb⟩;refine ⟨_,rfl,?_⟩;have n_:=q_3 (Kd.jH (byas HO_6.out) hb) (qI BK133.out hb) (qE (byag GE133.out) hb);clear HO_6 BK133 HB;obtain ⟨HO_6,BK133,HB⟩:=n_;clear hb))
     go_ret2
     exact ⟨_,byam,byas HO_6.out,byag GE133.out⟩
 ·replace c4:=Bool.eq_false_iff.mpr c4
  subst c4
  rw [if_neg (show ¬ (false = true) by decide)] at H
  simp only [Option.some.injEq,Prod.mk.injEq] at H
  obtain ⟨rfl,rfl⟩:=H
  go_enter Try.func40,Try.ntmps40
  go_wp2_with (first|((with_reducible refine qX (N:=2) rfl ?_);refine zD ?hg (N:=2) ?hd (cs:=#[.slice A0_0 l0_0.length c0_0]) (t:=25) ?hr ?_;(case hd=>rfl);(case hg=>rfl);(case hr=>exact byad);intro gb133 hg w19 hbox hb;have n_:=q_4 (qE byae hb) (hbox) ((byck : w.heap.size ≤ gb133)) ((byck : w.heap.size ≤ gb133));clear HB;obtain ⟨HB,BK133,GW133,GE133⟩:=n_;clear hb hbox hg)|((with_reducible refine qF (f:=37) rfl ?_);refine zC (some 10) rfl rfl Try.func37 (by kernel_rfl) rfl #[.int .i64 a1] rfl byac ?_;(with_reducible refine (vC.calls a1 false _ A3.out).mono ?_);rintro e w' ⟨rfl,⟨nd,rfl⟩⟩;refine ⟨_,rfl,?_⟩))
  go_ret2
  exact ⟨_,byam,byar,byag GE133.out⟩
def closure_Greatest.f (k : Nat) (l0_0 : List (S51)) (a1 : Int) : Option (Int):=(zN.f k l0_0 a1).bind fun bt142=>(some bt142.1)
theorem closure_Greatest.mono : ∀ a0 a1 k,LeO (closure_Greatest.f k a0 a1) (closure_Greatest.f (k + 1) a0 a1):=by
 intro a0 a1 k
 unfold closure_Greatest.f
 repeat' first
   | (with_reducible exact zN.mono _ _ _)
   | (with_reducible exact LeO.refl _)
   | (with_reducible exact LeO.none _)
   | (with_reducible refine LeO.ite ?_ ?_)
   | (with_reducible refine LeO.bind ?_ (fun _=>?_))
   | exact zN.mono _ _ _
   | exact LeO.none _
   | refine LeO.ite ?_ ?_
   | refine LeO.bind ?_ (fun _=>?_)
set_option maxHeartbeats 8000000 in
set_option maxRecDepth 100000 in
theorem closure_Greatest.calls (k : Nat) (A0_0 : Option Addr) (c0_0 : Nat) (l0_0 : List (S51)) (a1 : Int) (r : Int) (w : World) (hr0_0 : Kd.C k51 w A0_0 l0_0.length l0_0) (hc0_0 : l0_0.length ≤ c0_0) (h : closure_Greatest.f k l0_0 a1 = some r) :
  Calls Try.prog 17 #[.agg #[.slice A0_0 l0_0.length c0_0],.int .i64 a1] w fun e w'=>e = .returned (.int .i64 r)∧Below w.heap.size w w':=by
 have hu25:=Try.underlying25
 have HR0_0:=qA.mk hr0_0
 have HC0_0:=qA.mk hc0_0
 clear hr0_0 hc0_0
 have HB:=qA.mk (Below.refl w.heap.size w)
 unfold closure_Greatest.f at h
 have H:=h
 clear h
 replace H:=Option.bind_eq_some_iff.mp H
 obtain ⟨⟨t142,t143⟩,A30,H⟩:=H
 try dsimp only at H
 have A3:=qA.mk A30
 clear A30
 obtain rfl:=Option.some.inj H
 go_enter Try.func17,Try.ntmps17
 go_wp2_with (first|((with_reducible refine qX (N:=2) rfl ?_);refine zD ?hg (N:=2) ?hd (cs:=#[.slice A0_0 l0_0.length c0_0]) (t:=25) ?hr ?_;(case hd=>rfl);(case hg=>rfl);(case hr=>exact byad);intro gb141 hg w4 hbox hb;have n_:=q_4 (qE byae hb) (hbox) ((byck : w.heap.size ≤ gb141)) ((byck : w.heap.size ≤ gb141));clear HB;obtain ⟨HB,BK141,GW141,GE141⟩:=n_;clear hb hbox hg;obtain ⟨hcz5_0,hfz5_0⟩:=cz1 BK141.out)|((with_reducible refine qF (f:=40) rfl ?_);refine zC (some 10) rfl rfl Try.func40 (by kernel_rfl) rfl #[.agg #[.slice A0_0 l0_0.length c0_0],.int .i64 a1] rfl byac ?_;(with_reducible refine (zN.calls k _ _ l0_0 a1 t142 t143 _ ?side1 ?side2 A3.out).mono ?_);(case side1=>exact byan HR0_0.out);(case side2=>exact HC0_0.out);rintro e w6 ⟨v144,rfl,ho0,hb⟩;refine ⟨_,rfl,?_⟩;have n_:=q_3 (Kd.vG ho0 (zJ (byag GE141.out))) (qI BK141.out hb) (qE (byag GE141.out) hb);clear BK141 HB;obtain ⟨HO145,BK141,HB⟩:=n_;clear hb;(try clear ho0)))
 go_ret
 exact ⟨byam,byag GE141.out⟩
def zH.l0 : Nat→List Int→List Int→Int→Int→Option (Bool)
 | 0,_,_,_,_=>none
 | k + 1,x0,x1,x12,x13=>if x13 < x12 then (if 0 ≤ x13 then (if x13 < (x0.length : Int) then (if x13 < (x1.length : Int) then (if (rd x0 x13) = (rd x1 x13) then (zH.l0 k x0 x1 x12 (wrap64 (x13 + 1))) else (some false)) else (none)) else (none)) else (none)) else (some true)
def zH.f (k : Nat) (l0 : List Int) (l1 : List Int) : Option (Bool):=if (l0.length : Int) = (l1.length : Int) then (zH.l0 k l0 l1 (l0.length : Int) 0) else (some false)
theorem zH.mono_l : ∀ k,(∀ y0 y1 y2 y3,LeO (zH.l0 k y0 y1 y2 y3) (zH.l0 (k + 1) y0 y1 y2 y3))
 | 0=>fun _ _ _ _ r h=>by simp [zH.l0] at h
 | k + 1=>by
  have ih0:=zH.mono_l k
  ·intro y0 y1 y2 y3
   unfold zH.l0
   repeat' first
   | (with_reducible exact ih0 _ _ _ _)
   | (with_reducible exact LeO.refl _)
   | (with_reducible exact LeO.none _)
   | (with_reducible refine LeO.ite ?_ ?_)
   | (with_reducible refine LeO.bind ?_ (fun _=>?_))
   | exact ih0 _ _ _ _
   | exact LeO.none _
   | refine LeO.ite ?_ ?_
   | refine LeO.bind ?_ (fun _=>?_)
theorem zH.mono : ∀ a0 a1 k,LeO (zH.f k a0 a1) (zH.f (k + 1) a0 a1):=by
 intro a0 a1 k
 have ih0:=zH.mono_l k
 unfold zH.f
 repeat' first
   | (with_reducible exact ih0 _ _ _ _)
   | (with_reducible exact LeO.refl _)
   | (with_reducible exact LeO.none _)
   | (with_reducible refine LeO.ite ?_ ?_)
   | (with_reducible refine LeO.bind ?_ (fun _=>?_))
   | exact ih0 _ _ _ _
   | exact LeO.none _
   | refine LeO.ite ?_ ?_
   | refine LeO.bind ?_ (fun _=>?_)
set_option maxHeartbeats 8000000 in
set_option maxRecDepth 100000 in
theorem zH.calls (k : Nat) (A0 : Option Addr) (c0 : Nat) (l0 : List Int) (A1 : Option Addr) (c1 : Nat) (l1 : List Int) (r : Bool) (w : World) (hr0 : Kd.C (Kd.int .i64) w A0 l0.length l0) (hc0 : l0.length ≤ c0) (hr1 : Kd.C (Kd.int .i64) w A1 l1.length l1) (hc1 : l1.length ≤ c1) (h : zH.f k l0 l1 = some r) :
  Calls Try.prog 19 #[.slice A0 l0.length c0,.slice A1 l1.length c1] w fun e w'=>e = .returned (.bool r)∧kY w w':=by
 have HR0:=qA.mk hr0
 have HC0:=qA.mk hc0
 clear hr0 hc0
 have HR1:=qA.mk hr1
 have HC1:=qA.mk hc1
 clear hr1 hc1
 unfold zH.f at h
 have H:=h
 clear h
 by_cases c3 : (l0.length : Int) = (l1.length : Int)
 ·rw [if_pos c3] at H
  obtain ⟨c3b0,c3b1⟩:=eqT c3
  have c3b2 : (l0.length == l1.length) = true:=by first|simpa using c3|(simp at c3 ⊢;omega)
  clear c3
  have H':=qA.mk H
  clear H
  go_enter Try.func19,Try.ntmps19
  go_wp2
  repeat (go_quiet (fail);try go_wp2)
  go_loopg [13] k (fun kq v13 w'=>∃ (x13_1 : Int),v13 = .int .i64 x13_1∧qA (zH.l0 kq l0 l1 (l0.length : Int) x13_1 = some r)∧qA (kq ≤ k)∧kY w w')
  case atStart=>exact ⟨(0),byab,H',⟨Nat.le_refl _⟩,byaa⟩
  case round =>
   clear H'
   obtain ⟨x13_1,rfl,HA,HK1,⟨m1,rfl⟩⟩:=hrel
   cases gk with
   | zero=>exact absurd HA.out (by simp [zH.l0])
   | succ k1 =>
    have H:=HA.out
    clear HA
    simp only [zH.l0] at H
    by_cases c4 : x13_1 < (l0.length : Int)
    ·rw [if_pos c4] at H
     have c4b0:=decide_eq_true c4
     clear c4
     by_cases c5 : 0 ≤ x13_1
     ·rw [if_pos c5] at H
      have c5b0:=decide_eq_true c5
      clear c5
      by_cases c6 : x13_1 < (l0.length : Int)
      ·rw [if_pos c6] at H
       have c6b0:=decide_eq_true c6
       clear c6
       by_cases c7 : x13_1 < (l1.length : Int)
       ·rw [if_pos c7] at H
        have c7b0:=decide_eq_true c7
        clear c7
        by_cases c8 : (rd l0 x13_1) = (rd l1 x13_1)
        ·rw [if_pos c8] at H
         obtain ⟨c8b0,c8b1⟩:=eqT c8
         clear c8
         have H':=qA.mk H
         clear H
         have p146 : 0 ≤ (x13_1 : Int):=of_decide_eq_true byah
         have q146 : x13_1 < (l0.length : Int):=of_decide_eq_true byah
         obtain ⟨ad146,e146,hx146_0⟩:=Kd.uV HR0.out x13_1 p146 q146
         cases e146
         replace p146:=eq_true p146
         replace q146:=eq_true q146
         have p147 : 0 ≤ (x13_1 : Int):=of_decide_eq_true byah
         have q147 : x13_1 < (l1.length : Int):=of_decide_eq_true byah
         obtain ⟨ad147,e147,hx147_0⟩:=Kd.uV HR1.out x13_1 p147 q147
         cases e147
         replace p147:=eq_true p147
         replace q147:=eq_true q147
         go_wp2
         repeat (go_quiet (fail);try go_wp2)
         go_roundg k1
         case measure=>have:=HK1.out;omega
         case rel=>exact ⟨(wrap64 (x13_1 + 1)),byab,H',⟨byaj⟩,byaa⟩
        ·rw [if_neg c8] at H
         obtain ⟨c8b0,c8b1⟩:=eqF c8
         obtain rfl:=Option.some.inj H
         have p146 : 0 ≤ (x13_1 : Int):=of_decide_eq_true byah
         have q146 : x13_1 < (l0.length : Int):=of_decide_eq_true byah
         obtain ⟨ad146,e146,hx146_0⟩:=Kd.uV HR0.out x13_1 p146 q146
         cases e146
         replace p146:=eq_true p146
         replace q146:=eq_true q146
         have p147 : 0 ≤ (x13_1 : Int):=of_decide_eq_true byah
         have q147 : x13_1 < (l1.length : Int):=of_decide_eq_true byah
         obtain ⟨ad147,e147,hx147_0⟩:=Kd.uV HR1.out x13_1 p147 q147
         cases e147
         replace p147:=eq_true p147
         replace q147:=eq_true q147
         go_wp2
         repeat (go_quiet (fail);try go_wp2)
         go_ret
         exact ⟨byab,byaa⟩
       ·rw [if_neg c7] at H
        exact absurd H (by simp)
      ·rw [if_neg c6] at H
       exact absurd H (by simp)
     ·rw [if_neg c5] at H
      exact absurd H (by simp)
    ·rw [if_neg c4] at H
     have c4b0:=decide_eq_false c4
     clear c4
     obtain rfl:=Option.some.inj H
     go_wp2
     repeat (go_quiet (fail);try go_wp2)
     go_ret
     exact ⟨byab,byaa⟩
 ·rw [if_neg c3] at H
  obtain ⟨c3b0,c3b1⟩:=eqF c3
  have c3b2 : (l0.length == l1.length) = false:=by first|simpa using c3|(simp at c3 ⊢;omega)
  obtain rfl:=Option.some.inj H
  go_enter Try.func19,Try.ntmps19
  go_wp2
  repeat (go_quiet (fail);try go_wp2)
  go_ret
  exact ⟨byab,byaa⟩
def closure_Elimination.f (k : Nat) (l0_0 : List (S51)) (a1 : Int) : Option (List Int):=(zN.f k l0_0 a1).bind fun bt149=>(some bt149.2)
theorem closure_Elimination.mono : ∀ a0 a1 k,LeO (closure_Elimination.f k a0 a1) (closure_Elimination.f (k + 1) a0 a1):=by
 intro a0 a1 k
 unfold closure_Elimination.f
 repeat' first
   | (with_reducible exact zN.mono _ _ _)
   | (with_reducible exact LeO.refl _)
   | (with_reducible exact LeO.none _)
   | (with_reducible refine LeO.ite ?_ ?_)
   | (with_reducible refine LeO.bind ?_ (fun _=>?_))
   | exact zN.mono _ _ _
   | exact LeO.none _
   | refine LeO.ite ?_ ?_
   | refine LeO.bind ?_ (fun _=>?_)
set_option maxHeartbeats 8000000 in
set_option maxRecDepth 100000 in
theorem closure_Elimination.calls (k : Nat) (A0_0 : Option Addr) (c0_0 : Nat) (l0_0 : List (S51)) (a1 : Int) (r : List Int) (w : World) (hr0_0 : Kd.C k51 w A0_0 l0_0.length l0_0) (hc0_0 : l0_0.length ≤ c0_0) (h : closure_Elimination.f k l0_0 a1 = some r) :
  Calls Try.prog 20 #[.agg #[.slice A0_0 l0_0.length c0_0],.int .i64 a1] w fun e w'=>∃ v0_ : Value,e = .returned (v0_)∧Kd.R (Kd.int .i64) 3 w' w.heap.size (fun _=>True) v0_ r∧Below w.heap.size w w':=by
 have hu25:=Try.underlying25
 have HR0_0:=qA.mk hr0_0
 have HC0_0:=qA.mk hc0_0
 clear hr0_0 hc0_0
 have HB:=qA.mk (Below.refl w.heap.size w)
 unfold closure_Elimination.f at h
 have H:=h
 clear h
 replace H:=Option.bind_eq_some_iff.mp H
 obtain ⟨⟨t149,t150⟩,A30,H⟩:=H
 try dsimp only at H
 have A3:=qA.mk A30
 clear A30
 obtain rfl:=Option.some.inj H
 go_enter Try.func20,Try.ntmps20
 go_wp2_with (first|((with_reducible refine qX (N:=2) rfl ?_);refine zD ?hg (N:=2) ?hd (cs:=#[.slice A0_0 l0_0.length c0_0]) (t:=25) ?hr ?_;(case hd=>rfl);(case hg=>rfl);(case hr=>exact byad);intro gb148 hg w4 hbox hb;have n_:=q_4 (qE byae hb) (hbox) ((byck : w.heap.size ≤ gb148)) ((byck : w.heap.size ≤ gb148));clear HB;obtain ⟨HB,BK148,GW148,GE148⟩:=n_;clear hb hbox hg;obtain ⟨hcz5_0,hfz5_0⟩:=cz1 BK148.out)|((with_reducible refine qF (f:=40) rfl ?_);refine zC (some 10) rfl rfl Try.func40 (by kernel_rfl) rfl #[.agg #[.slice A0_0 l0_0.length c0_0],.int .i64 a1] rfl byac ?_;(with_reducible refine (zN.calls k _ _ l0_0 a1 t149 t150 _ ?side1 ?side2 A3.out).mono ?_);(case side1=>exact byan HR0_0.out);(case side2=>exact HC0_0.out);rintro e w6 ⟨v151,rfl,ho0,hb⟩;refine ⟨_,rfl,?_⟩;have n_:=q_3 (Kd.vG ho0 (zJ (byag GE148.out))) (qI BK148.out hb) (qE (byag GE148.out) hb);clear BK148 HB;obtain ⟨HO152,BK148,HB⟩:=n_;clear hb;(try clear ho0)))
 go_ret
 exact ⟨_,byam,byas HO152.out,byag GE148.out⟩
def closure_Check.l0 : Nat→Int→List Int→Int→Int→List (S51)→Option (Int × Int)
 | 0,_,_,_,_,_=>none
 | k + 1,x1,x17,x18,x19,x154000=>if x19 < x18 then (if 0 ≤ x19 then (if x19 < (x17.length : Int) then ((uS.f x1 (rd x17 x19)).bind fun t158=>(if t158 = true then ((jX.f k x154000 (rd x17 x19) x1).bind fun t159=>(if t159 = true then (some (0,12)) else (if 0 ≤ (rd x17 x19) then (closure_Check.l0 k (Go.bits .andNot .i64 x1 (shl .i64 1 (rd x17 x19))) x17 x18 (wrap64 (x19 + 1)) x154000) else (none)))) else (some (0,12)))) else (none)) else (none)) else (if x1 = 0 then (some (x1,0)) else ((closure_Quorum.f k x154000 x1).bind fun t156=>(if t156 = true then (some (x1,0)) else (some (0,12)))))
def closure_Check.f (k : Nat) (l0_0 : List (S51)) (a1 : Int) (l2 : List Int) : Option (Int × Int):=(vC.f a1).bind fun t154=>(if t154 = true then ((qO.f k l0_0).bind fun t155=>(closure_Check.l0 k (Go.bits .and .i64 a1 t155) l2 (l2.length : Int) 0 l0_0)) else (some (0,1)))
theorem closure_Check.mono_l : ∀ k,(∀ y0 y1 y2 y3 y4,LeO (closure_Check.l0 k y0 y1 y2 y3 y4) (closure_Check.l0 (k + 1) y0 y1 y2 y3 y4))
 | 0=>fun _ _ _ _ _ r h=>by simp [closure_Check.l0] at h
 | k + 1=>by
  have ih0:=closure_Check.mono_l k
  ·intro y0 y1 y2 y3 y4
   unfold closure_Check.l0
   repeat' first
   | (with_reducible exact ih0 _ _ _ _ _)
   | (with_reducible exact closure_Quorum.mono _ _ _)
   | (with_reducible exact jX.mono _ _ _ _)
   | (with_reducible exact qO.mono _ _)
   | (with_reducible exact LeO.refl _)
   | (with_reducible exact LeO.none _)
   | (with_reducible refine LeO.ite ?_ ?_)
   | (with_reducible refine LeO.bind ?_ (fun _=>?_))
   | exact ih0 _ _ _ _ _
   | exact closure_Quorum.mono _ _ _
   | exact jX.mono _ _ _ _
   | exact qO.mono _ _
   | exact LeO.none _
   | refine LeO.ite ?_ ?_
   | refine LeO.bind ?_ (fun _=>?_)
theorem closure_Check.mono : ∀ a0 a1 a2 k,LeO (closure_Check.f k a0 a1 a2) (closure_Check.f (k + 1) a0 a1 a2):=by
 intro a0 a1 a2 k
 have ih0:=closure_Check.mono_l k
 unfold closure_Check.f
 repeat' first
   | (with_reducible exact ih0 _ _ _ _ _)
   | (with_reducible exact closure_Quorum.mono _ _ _)
   | (with_reducible exact jX.mono _ _ _ _)
   | (with_reducible exact qO.mono _ _)
   | (with_reducible exact LeO.refl _)
   | (with_reducible exact LeO.none _)
   | (with_reducible refine LeO.ite ?_ ?_)
   | (with_reducible refine LeO.bind ?_ (fun _=>?_))
   | exact ih0 _ _ _ _ _
   | exact closure_Quorum.mono _ _ _
   | exact jX.mono _ _ _ _
   | exact qO.mono _ _
   | exact LeO.none _
   | refine LeO.ite ?_ ?_
   | refine LeO.bind ?_ (fun _=>?_)
set_option maxHeartbeats 8000000 in
set_option maxRecDepth 100000 in
theorem closure_Check.calls (k : Nat) (A0_0 : Option Addr) (c0_0 : Nat) (l0_0 : List (S51)) (a1 : Int) (A2 : Option Addr) (c2 : Nat) (l2 : List Int) (r1 : Int) (r2 : Int) (w : World) (hr0_0 : Kd.C k51 w A0_0 l0_0.length l0_0) (hc0_0 : l0_0.length ≤ c0_0) (hr2 : Kd.C (Kd.int .i64) w A2 l2.length l2) (hc2 : l2.length ≤ c2) (h : closure_Check.f k l0_0 a1 l2 = some (r1,r2)) :
  Calls Try.prog 22 #[.agg #[.slice A0_0 l0_0.length c0_0],.int .i64 a1,.slice A2 l2.length c2] w fun e w'=>e = .returned (.tuple #[.int .i64 r1,.int .i64 r2])∧Below w.heap.size w w':=by
 have hu25:=Try.underlying25
 have HR0_0:=qA.mk hr0_0
 have HC0_0:=qA.mk hc0_0
 clear hr0_0 hc0_0
 have HR2:=qA.mk hr2
 have HC2:=qA.mk hc2
 clear hr2 hc2
 have HB:=qA.mk (Below.refl w.heap.size w)
 unfold closure_Check.f at h
 have H:=h
 clear h
 replace H:=Option.bind_eq_some_iff.mp H
 obtain ⟨t154,A40,H⟩:=H
 try dsimp only at H
 have A4:=qA.mk A40
 clear A40
 by_cases c5 : t154 = true
 ·subst c5
  rw [if_pos rfl] at H
  replace H:=Option.bind_eq_some_iff.mp H
  obtain ⟨t155,A60,H⟩:=H
  try dsimp only at H
  have A6:=qA.mk A60
  clear A60
  have H':=qA.mk H
  clear H
  go_enter Try.func22,Try.ntmps22
  go_wp2_with (first|((with_reducible refine qX (N:=3) rfl ?_);refine zD ?hg (N:=3) ?hd (cs:=#[.slice A0_0 l0_0.length c0_0]) (t:=25) ?hr ?_;(case hd=>rfl);(case hg=>rfl);(case hr=>exact byad);intro gb153 hg w7 hbox hb;have n_:=q_4 (qE byae hb) (hbox) ((byck : w.heap.size ≤ gb153)) ((byck : w.heap.size ≤ gb153));clear HB;obtain ⟨HB,BK153,GW153,GE153⟩:=n_;clear hb hbox hg)|((with_reducible refine qF (f:=37) rfl ?_);refine zC (some 11) rfl rfl Try.func37 (by kernel_rfl) rfl #[.int .i64 a1] rfl byac ?_;(with_reducible refine (vC.calls a1 true _ A4.out).mono ?_);rintro e w' ⟨rfl,⟨nd,rfl⟩⟩;refine ⟨_,rfl,?_⟩;obtain ⟨hcz8_0,hfz8_0⟩:=cz1 BK153.out)|((with_reducible refine qF (f:=41) rfl ?_);refine zC (some 15) rfl rfl Try.func41 (by kernel_rfl) rfl #[.agg #[.slice A0_0 l0_0.length c0_0]] rfl byac ?_;(with_reducible refine (qO.calls k _ _ l0_0 t155 _ ?side1 ?side2 A6.out).mono ?_);(case side1=>exact bycm HR0_0.out GE153.out);(case side2=>exact HC0_0.out);rintro e w9 ⟨rfl,hb⟩;refine ⟨_,rfl,?_⟩;have n_:=q_2 (qI BK153.out hb) (qE (byag GE153.out) hb);clear BK153 HB;obtain ⟨BK153,HB⟩:=n_;clear hb))
  go_loopg [1,19] k (fun kq v1 v19 w'=>∃ (x1_1 : Int) (x19_1 : Int),v1 = .int .i64 x1_1∧v19 = .int .i64 x19_1∧qA (closure_Check.l0 kq x1_1 l2 (l2.length : Int) x19_1 l0_0 = some (r1,r2))∧qA (kq ≤ k)∧qA (w'.heap[gb153]? = some (.cells #[(.slice A0_0 l0_0.length c0_0)] 25 (0,0)))∧qA (Below w.heap.size w w'))
  case atStart=>exact ⟨(Go.bits .and .i64 a1 t155),(0),byab,byab,H',⟨Nat.le_refl _⟩,⟨byaf BK153.out⟩,⟨byag GE153.out⟩⟩
  case round =>
   clear H'
   obtain ⟨x1_1,x19_1,rfl,rfl,HA,HK1,BK153,HB⟩:=hrel
   cases gk with
   | zero=>exact absurd HA.out (by simp [closure_Check.l0])
   | succ k1 =>
    have H:=HA.out
    clear HA
    simp only [closure_Check.l0] at H
    by_cases c10 : x19_1 < (l2.length : Int)
    ·rw [if_pos c10] at H
     have c10b0:=decide_eq_true c10
     clear c10
     by_cases c11 : 0 ≤ x19_1
     ·rw [if_pos c11] at H
      have c11b0:=decide_eq_true c11
      clear c11
      by_cases c12 : x19_1 < (l2.length : Int)
      ·rw [if_pos c12] at H
       have c12b0:=decide_eq_true c12
       clear c12
       replace H:=Option.bind_eq_some_iff.mp H
       obtain ⟨t158,A130,H⟩:=H
       try dsimp only at H
       have A13:=qA.mk A130
       clear A130
       by_cases c14 : t158 = true
       ·subst c14
        rw [if_pos rfl] at H
        replace H:=Option.bind_eq_some_iff.mp H
        obtain ⟨t159,A150,H⟩:=H
        try dsimp only at H
        have A15:=qA.mk A150
        clear A150
        by_cases c16 : t159 = true
        ·subst c16
         rw [if_pos rfl] at H
         simp only [Option.some.injEq,Prod.mk.injEq] at H
         obtain ⟨rfl,rfl⟩:=H
         have p157 : 0 ≤ (x19_1 : Int):=of_decide_eq_true byah
         have q157 : x19_1 < (l2.length : Int):=of_decide_eq_true byah
         obtain ⟨ad157,e157,hx157_0⟩:=Kd.uV HR2.out x19_1 p157 q157
         cases e157
         replace hx157_0:=(HB.out.cell (World.block_lt_of_cell? w _ hx157_0)).trans hx157_0
         replace p157:=eq_true p157
         replace q157:=eq_true q157
         go_wp2_with (first|((with_reducible refine qF (f:=42) rfl ?_);refine zC (some 25) rfl rfl Try.func42 (by kernel_rfl) rfl #[.int .i64 x1_1,.int .i64 (rd l2 x19_1)] rfl byac ?_;(with_reducible refine (uS.calls x1_1 (rd l2 x19_1) true _ A13.out).mono ?_);rintro e w' ⟨rfl,⟨nd,rfl⟩⟩;refine ⟨_,rfl,?_⟩;obtain ⟨hcz17_0,hfz17_0⟩:=cz1 BK153.out)|(go_at_call 43;(with_reducible refine (jX.calls k1 _ _ l0_0 (rd l2 x19_1) x1_1 true _ ?side1 ?side2 A15.out).mono ?_);(case side1=>exact bycm HR0_0.out GE153.out);(case side2=>exact HC0_0.out);rintro e w18 ⟨rfl,hb⟩;have n_:=q_2 (qI BK153.out hb) (qE (byag GE153.out) hb);clear BK153 HB;obtain ⟨BK153,HB⟩:=n_;clear hb))
         go_ret2
         exact ⟨byam,byag GE153.out⟩
        ·replace c16:=Bool.eq_false_iff.mpr c16
         subst c16
         rw [if_neg (show ¬ (false = true) by decide)] at H
         by_cases c19 : 0 ≤ (rd l2 x19_1)
         ·rw [if_pos c19] at H
          have c19b0:=eq_true c19
          have c19b1:=decide_eq_true c19
          clear c19
          obtain ⟨ji20,hji20⟩ : ∃ j_ : Int,(shl .i64 1 (rd l2 x19_1)) = j_:=⟨_,rfl⟩
          (first|rw [hji20] at H|(simp only [hji20] at H))
          (try rw [hji20] at A13)
          (try rw [hji20] at A15)
          obtain ⟨hji20_,hji20z,hji20u,hji20v,hji20y,hji20x⟩:=jiA hji20
          have H':=qA.mk H
          clear H
          have p157 : 0 ≤ (x19_1 : Int):=of_decide_eq_true byah
          have q157 : x19_1 < (l2.length : Int):=of_decide_eq_true byah
          obtain ⟨ad157,e157,hx157_0⟩:=Kd.uV HR2.out x19_1 p157 q157
          cases e157
          replace hx157_0:=(HB.out.cell (World.block_lt_of_cell? w _ hx157_0)).trans hx157_0
          replace p157:=eq_true p157
          replace q157:=eq_true q157
          go_wp2_with (first|((with_reducible refine qF (f:=42) rfl ?_);refine zC (some 25) rfl rfl Try.func42 (by kernel_rfl) rfl #[.int .i64 x1_1,.int .i64 (rd l2 x19_1)] rfl byac ?_;(with_reducible refine (uS.calls x1_1 (rd l2 x19_1) true _ A13.out).mono ?_);rintro e w' ⟨rfl,⟨nd,rfl⟩⟩;refine ⟨_,rfl,?_⟩;obtain ⟨hcz21_0,hfz21_0⟩:=cz1 BK153.out)|(go_at_call 43;(with_reducible refine (jX.calls k1 _ _ l0_0 (rd l2 x19_1) x1_1 false _ ?side1 ?side2 A15.out).mono ?_);(case side1=>exact bycm HR0_0.out GE153.out);(case side2=>exact HC0_0.out);rintro e w22 ⟨rfl,hb⟩;have n_:=q_2 (qI BK153.out hb) (qE (byag GE153.out) hb);clear BK153 HB;obtain ⟨BK153,HB⟩:=n_;clear hb))
          go_roundg k1
          case measure=>have:=HK1.out;omega
          case rel=>exact ⟨(Go.bits .andNot .i64 x1_1 (ji20)),(wrap64 (x19_1 + 1)),(by first|rfl|(simp;done)|(simp only [← hji20]<;>(first|rfl|simp))|(simp [*];done)),byab,H',⟨byaj⟩,⟨byaf BK153.out⟩,⟨byag GE153.out⟩⟩
         ·rw [if_neg c19] at H
          exact absurd H (by simp)
       ·replace c14:=Bool.eq_false_iff.mpr c14
        subst c14
        rw [if_neg (show ¬ (false = true) by decide)] at H
        simp only [Option.some.injEq,Prod.mk.injEq] at H
        obtain ⟨rfl,rfl⟩:=H
        have p157 : 0 ≤ (x19_1 : Int):=of_decide_eq_true byah
        have q157 : x19_1 < (l2.length : Int):=of_decide_eq_true byah
        obtain ⟨ad157,e157,hx157_0⟩:=Kd.uV HR2.out x19_1 p157 q157
        cases e157
        replace hx157_0:=(HB.out.cell (World.block_lt_of_cell? w _ hx157_0)).trans hx157_0
        replace p157:=eq_true p157
        replace q157:=eq_true q157
        go_wp2_with (first|((with_reducible refine qF (f:=42) rfl ?_);refine zC (some 25) rfl rfl Try.func42 (by kernel_rfl) rfl #[.int .i64 x1_1,.int .i64 (rd l2 x19_1)] rfl byac ?_;(with_reducible refine (uS.calls x1_1 (rd l2 x19_1) false _ A13.out).mono ?_);rintro e w' ⟨rfl,⟨nd,rfl⟩⟩;refine ⟨_,rfl,?_⟩))
        go_ret2
        exact ⟨byam,byag GE153.out⟩
      ·rw [if_neg c12] at H
       exact absurd H (by simp)
     ·rw [if_neg c11] at H
      exact absurd H (by simp)
    ·rw [if_neg c10] at H
     have c10b0:=decide_eq_false c10
     clear c10
     by_cases c23 : x1_1 = 0
     ·rw [if_pos c23] at H
      obtain ⟨c23b0,c23b1⟩:=eqT c23
      clear c23
      simp only [Option.some.injEq,Prod.mk.injEq] at H
      obtain ⟨rfl,rfl⟩:=H
      go_wp2
      go_ret2
      exact ⟨byam,byag GE153.out⟩
     ·rw [if_neg c23] at H
      obtain ⟨c23b0,c23b1⟩:=eqF c23
      replace H:=Option.bind_eq_some_iff.mp H
      obtain ⟨t156,A240,H⟩:=H
      try dsimp only at H
      have A24:=qA.mk A240
      clear A240
      by_cases c25 : t156 = true
      ·subst c25
       rw [if_pos rfl] at H
       simp only [Option.some.injEq,Prod.mk.injEq] at H
       obtain ⟨rfl,rfl⟩:=H
       obtain ⟨hcz26_0,hfz26_0⟩:=cz1 BK153.out
       go_wp2_with (first|(go_at_call 15;(with_reducible refine (closure_Quorum.calls k1 _ _ l0_0 x1_1 true _ ?side1 ?side2 A24.out).mono ?_);(case side1=>exact byan HR0_0.out);(case side2=>exact HC0_0.out);rintro e w27 ⟨rfl,hb⟩;have n_:=q_2 (qI BK153.out hb) (qE (byag GE153.out) hb);clear BK153 HB;obtain ⟨BK153,HB⟩:=n_;clear hb))
       go_ret2
       exact ⟨byam,byag GE153.out⟩
      ·replace c25:=Bool.eq_false_iff.mpr c25
       subst c25
       rw [if_neg (show ¬ (false = true) by decide)] at H
       simp only [Option.some.injEq,Prod.mk.injEq] at H
       obtain ⟨rfl,rfl⟩:=H
       obtain ⟨hcz28_0,hfz28_0⟩:=cz1 BK153.out
       go_wp2_with (first|(go_at_call 15;(with_reducible refine (closure_Quorum.calls k1 _ _ l0_0 x1_1 false _ ?side1 ?side2 A24.out).mono ?_);(case side1=>exact byan HR0_0.out);(case side2=>exact HC0_0.out);rintro e w29 ⟨rfl,hb⟩;have n_:=q_2 (qI BK153.out hb) (qE (byag GE153.out) hb);clear BK153 HB;obtain ⟨BK153,HB⟩:=n_;clear hb))
       go_ret2
       exact ⟨byam,byag GE153.out⟩
 ·replace c5:=Bool.eq_false_iff.mpr c5
  subst c5
  rw [if_neg (show ¬ (false = true) by decide)] at H
  simp only [Option.some.injEq,Prod.mk.injEq] at H
  obtain ⟨rfl,rfl⟩:=H
  go_enter Try.func22,Try.ntmps22
  go_wp2_with (first|((with_reducible refine qX (N:=3) rfl ?_);refine zD ?hg (N:=3) ?hd (cs:=#[.slice A0_0 l0_0.length c0_0]) (t:=25) ?hr ?_;(case hd=>rfl);(case hg=>rfl);(case hr=>exact byad);intro gb153 hg w30 hbox hb;have n_:=q_4 (qE byae hb) (hbox) ((byck : w.heap.size ≤ gb153)) ((byck : w.heap.size ≤ gb153));clear HB;obtain ⟨HB,BK153,GW153,GE153⟩:=n_;clear hb hbox hg)|((with_reducible refine qF (f:=37) rfl ?_);refine zC (some 11) rfl rfl Try.func37 (by kernel_rfl) rfl #[.int .i64 a1] rfl byac ?_;(with_reducible refine (vC.calls a1 false _ A4.out).mono ?_);rintro e w' ⟨rfl,⟨nd,rfl⟩⟩;refine ⟨_,rfl,?_⟩))
  go_ret2
  exact ⟨byam,byag GE153.out⟩
end Go.Proofs.Ytoofabolcbbjnaa.P
