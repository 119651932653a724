/- Functions of the program as Lean functions, and the walks that show that the calls answer so; written by a program of this session (a changed print) and by hand. -/
import Derived.Test.YtoofabolcbbjnaaQrPx0
import Derived.Test.YtoofabolcbbjnaaQrPx1
namespace Go.Proofs.Ytoofabolcbbjnaa.P
open Go.RowKit Go.Proofs.YtoofabolcbbjnaaW.PrintWords Go.Proofs.YtoofabolcbbjnaaW.PrintLast Go.Proofs.YtoofabolcbbjnaaW.PrintMore
attribute [local go_sem] kH kJ kQ kR uS uR kF kG
set_option linter.unusedVariables false
set_option linter.unusedSimpArgs false
def z8.l0 : Nat→Int→List Int→Int→Int→List (S51)→Option (Int × Bool)
 | 0,_,_,_,_,_=>none
 | k + 1,x1,x9,x10,x11,x123000=>if x11 < x10 then (if 0 ≤ x11 then (if x11 < (x9.length : Int) then ((j3.f k x123000 (rd x9 x11) x1).bind fun t127=>(if t127 = true then (z8.l0 k x1 x9 x10 (wrap64 (x11 + 1)) x123000) else (some (rd x9 x11,true)))) else (none)) else (none)) else (some (0,false))
def z8.f (k : Nat) (l0_0 : List (S51)) (a1 : Int) : Option (Int × Bool):=(jT.f k a1).bind fun t123=>(z8.l0 k a1 t123 (t123.length : Int) 0 l0_0)
theorem z8.mono_l : ∀ k,(∀ y0 y1 y2 y3 y4,LeO (z8.l0 k y0 y1 y2 y3 y4) (z8.l0 (k + 1) y0 y1 y2 y3 y4))
 | 0=>fun _ _ _ _ _ r h=>by simp [z8.l0] at h
 | k + 1=>by
  have ih0:=z8.mono_l k
  ·intro y0 y1 y2 y3 y4
   unfold z8.l0
   repeat' first
   | (with_reducible exact ih0 _ _ _ _ _)
   | (with_reducible exact j3.mono _ _ _ _)
   | (with_reducible exact jT.mono _ _)
   | (with_reducible exact LeO.refl _)
   | (with_reducible exact LeO.none _)
   | (with_reducible refine LeO.ite ?_ ?_)
   | (with_reducible refine LeO.bind ?_ (fun _=>?_))
   | exact ih0 _ _ _ _ _
   | exact j3.mono _ _ _ _
   | exact jT.mono _ _
   | exact LeO.none _
   | refine LeO.ite ?_ ?_
   | refine LeO.bind ?_ (fun _=>?_)
theorem z8.mono : ∀ a0 a1 k,LeO (z8.f k a0 a1) (z8.f (k + 1) a0 a1):=by
 intro a0 a1 k
 have ih0:=z8.mono_l k
 unfold z8.f
 repeat' first
   | (with_reducible exact ih0 _ _ _ _ _)
   | (with_reducible exact j3.mono _ _ _ _)
   | (with_reducible exact jT.mono _ _)
   | (with_reducible exact LeO.refl _)
   | (with_reducible exact LeO.none _)
   | (with_reducible refine LeO.ite ?_ ?_)
   | (with_reducible refine LeO.bind ?_ (fun _=>?_))
   | exact ih0 _ _ _ _ _
   | exact j3.mono _ _ _ _
   | exact jT.mono _ _
   | exact LeO.none _
   | refine LeO.ite ?_ ?_
   | refine LeO.bind ?_ (fun _=>?_)
set_option maxHeartbeats 8000000 in
set_option maxRecDepth 100000 in
theorem z8.calls (k : Nat) (A0_0 : Option Addr) (c0_0 : Nat) (l0_0 : List (S51)) (a1 : Int) (r1 : Int) (r2 : Bool) (w : World) (hr0_0 : Kd.C k51 w A0_0 l0_0.length l0_0) (hc0_0 : l0_0.length ≤ c0_0) (h : z8.f k l0_0 a1 = some (r1,r2)) :
  Calls Try.prog 39 #[.agg #[.slice A0_0 l0_0.length c0_0],.int .i64 a1] w fun e w'=>e = .returned (.tuple #[.int .i64 r1,.bool r2])∧Below w.heap.size w w':=by
 have hu25:=Try.underlying25
 have HR0_0:=qA.mk hr0_0
 have HC0_0:=qA.mk hc0_0
 clear hr0_0 hc0_0
 have HB:=qA.mk (Below.refl w.heap.size w)
 have H : ((jT.f k a1).bind fun t123=>(z8.l0 k a1 t123 (t123.length : Int) 0 l0_0)) = some (r1,r2):=h
 clear h
 replace H:=Option.bind_eq_some_iff.mp H
 obtain ⟨t123,A30,H⟩:=H
 replace H : (z8.l0 k a1 t123 (t123.length : Int) 0 l0_0) = some (r1,r2):=H
 have A3:=qA.mk A30
 clear A30
 have H':=qA.mk H
 clear H
 go_enter Try.func39,Try.ntmps39
 go_wp2_with (first|((with_reducible refine jH (N:=2) rfl ?_);refine jL ?hg (N:=2) ?hd (cs:=#[.slice A0_0 l0_0.length c0_0]) (t:=25) ?hr ?_;(case hd=>rfl);(case hg=>rfl);(case hr=>first|(go_simp;done)|(go_simp;rfl));intro gb122 hg w4 hbox hb;have n0_:=qA.mk (qN (by repeat (first|(with_reducible first|exact HB.out|apply qH|apply qB|apply qG)|exact HB.out)) hb);have n1_:=qA.mk (hbox);have n2_:=qA.mk ((by rw [hg];exact (qQ (by repeat (first|(with_reducible first|exact HB.out|apply qH|apply qB|apply qG)|exact HB.out))) : w.heap.size ≤ gb122));have n3_:=qA.mk ((by rw [hg];exact (qQ (by repeat (first|(with_reducible first|exact HB.out|apply qH|apply qB|apply qG)|exact HB.out))) : w.heap.size ≤ gb122));clear HB;have HB:=n0_;have BK122:=n1_;have GW122:=n2_;have GE122:=n3_;clear n0_ n1_ n2_ n3_;clear hb hbox hg)|((with_reducible refine q8 (f:=48) rfl ?_);refine jB (some 9) rfl rfl Try.func48 (by kernel_rfl) rfl #[.int .i64 a1] rfl (by (try simp only [List.map_toArray,List.map_cons,List.map_nil]);first|done|rfl|(simp only [List.length_drop,List.length_take];rfl)|(simp only [List.length_nil,Int.natCast_zero,Int.zero_add,Int.ofNat_zero];rfl)) ?_;(with_reducible refine (jT.calls k a1 t123 _ A3.out).mono ?_);rintro e w5 ⟨v124,rfl,ho0,hb⟩;refine ⟨_,rfl,?_⟩;have n0_:=qA.mk (Kd.vL ho0 (qQ (by repeat (first|(with_reducible first|exact HB.out|apply qH|apply qB|apply qG|refine qD ?_ GE122.out)|exact HB.out))));have n1_:=qA.mk (zD (g:=gb122) (o:=.cells #[.slice A0_0 l0_0.length c0_0] 25 (0,0)) (by (with_reducible repeat (first|refine qF ?_ _|refine qI ?_|refine qE ?_ _));exact BK122.out) hb);have n2_:=qA.mk (qN (by repeat (first|(with_reducible first|exact HB.out|apply qH|apply qB|apply qG|refine qD ?_ GE122.out)|exact HB.out)) hb);clear BK122;clear HB;have HO125:=n0_;have BK122:=n1_;have HB:=n2_;clear n0_ n1_ n2_;(try clear hb);(try clear hb2);(try clear hk);(try clear hi);(try clear ho0);obtain ⟨Ao6,co6,eo6⟩:=Kd.j4 HO125.out;subst eo6))
 go_loopg [11] k (fun kq v11 w'=>∃ (x11_1 : Int),v11 = .int .i64 x11_1∧qA (z8.l0 kq a1 t123 (t123.length : Int) x11_1 l0_0 = some (r1,r2))∧qA (kq ≤ k)∧qA (Kd.R (Kd.int .i64) 3 w' w.heap.size (fun _=>True) (.slice Ao6 t123.length co6) t123)∧qA (w'.heap[gb122]? = some (.cells #[(.slice A0_0 l0_0.length c0_0)] 25 (0,0)))∧qA (Below w.heap.size w w'))
 case atStart=>exact ⟨(0),(by first|rfl|(simp;done)|(simp [*];done)),H',⟨Nat.le_refl _⟩,⟨by (with_reducible repeat (first|apply Kd.qX|apply Kd.qW|apply Kd.zC));exact HO125.out⟩,⟨by (with_reducible repeat (first|refine qF ?_ _|refine qI ?_|refine qE ?_ _));exact BK122.out⟩,⟨by repeat (first|(with_reducible first|exact HB.out|apply qH|apply qB|apply qG|refine qD ?_ GE122.out)|exact HB.out)⟩⟩
 case round =>
  clear H'
  try clear p2
  try clear c3
  try clear c4
  obtain ⟨x11_1,rfl,HA,HK1,HO_9,BK122,HB⟩:=hrel
  cases gk with
  | zero=>exact absurd HA.out (by simp [z8.l0])
  | succ k1 =>
   have H:=HA.out
   clear HA
   simp only [z8.l0] at H
   by_cases c7 : x11_1 < (t123.length : Int)
   ·rw [if_pos c7] at H
    have c7b0 : decide (x11_1 < (t123.length : Int)) = true:=decide_eq_true c7
    clear c7
    by_cases c8 : 0 ≤ x11_1
    ·rw [if_pos c8] at H
     have c8b0 : decide (0 ≤ x11_1) = true:=decide_eq_true c8
     clear c8
     by_cases c9 : x11_1 < (t123.length : Int)
     ·rw [if_pos c9] at H
      have c9b0 : decide (x11_1 < (t123.length : Int)) = true:=decide_eq_true c9
      clear c9
      replace H:=Option.bind_eq_some_iff.mp H
      obtain ⟨t127,A100,H⟩:=H
      replace H : (if t127 = true then (z8.l0 k1 a1 t123 (t123.length : Int) (wrap64 (x11_1 + 1)) l0_0) else (some (rd t123 x11_1,true))) = some (r1,r2):=H
      have A10:=qA.mk A100
      clear A100
      by_cases c11 : t127 = true
      ·subst c11
       have H1 : (z8.l0 k1 a1 t123 (t123.length : Int) (wrap64 (x11_1 + 1)) l0_0) = some (r1,r2):=by rw [if_pos rfl] at H;exact H
       clear H
       have H:=H1
       clear H1
       have H':=qA.mk H
       clear H
       have p126 : 0 ≤ (x11_1 : Int):=of_decide_eq_true (by first|(with_reducible assumption)|assumption)
       have q126 : x11_1 < (t123.length : Int):=of_decide_eq_true (by first|(with_reducible assumption)|assumption)
       obtain ⟨ad126,e126,hx126_0⟩:=Kd.uP (Kd.jZ HO_9.out).2.2 x11_1 p126 q126
       cases e126
       replace p126:=eq_true p126
       replace q126:=eq_true q126
       have hcz12_0 : wr.cell? ⟨gb122,0,none⟩ = some (.slice A0_0 l0_0.length c0_0):=(qK BK122.out 0).trans rfl
       have hfz12_0:=qJ BK122.out 0
       go_wp2_with (first|((with_reducible refine q8 (f:=43) rfl ?_);refine jB (some 18) rfl rfl Try.func43 (by kernel_rfl) rfl #[.agg #[.slice A0_0 l0_0.length c0_0],.int .i64 (rd t123 x11_1),.int .i64 a1] rfl (by (try simp only [List.map_toArray,List.map_cons,List.map_nil]);first|done|rfl|(simp only [List.length_drop,List.length_take];rfl)|(simp only [List.length_nil,Int.natCast_zero,Int.zero_add,Int.ofNat_zero];rfl)) ?_;(with_reducible refine (j3.calls k1 _ _ l0_0 (rd t123 x11_1) a1 true _ ?side1 ?side2 A10.out).mono ?_);(case side1=>repeat (first|exact (Kd.vD HR0_0.out HB.out)|(with_reducible refine Kd.jK ?_ _)|(with_reducible refine Kd.jJ ?_ _)|(with_reducible refine Kd.jV ?_)));(case side2=>exact HC0_0.out);rintro e w13 ⟨rfl,hb⟩;refine ⟨_,rfl,?_⟩;have n0_:=qA.mk (Kd.j6 (by (with_reducible repeat (first|apply Kd.qX|apply Kd.qW|apply Kd.zC));exact HO_9.out) hb);have n1_:=qA.mk (zD (g:=gb122) (o:=.cells #[.slice A0_0 l0_0.length c0_0] 25 (0,0)) (by (with_reducible repeat (first|refine qF ?_ _|refine qI ?_|refine qE ?_ _));exact BK122.out) hb);have n2_:=qA.mk (qN (by repeat (first|(with_reducible first|exact HB.out|apply qH|apply qB|apply qG|refine qD ?_ GE122.out)|exact HB.out)) hb);clear HO_9;clear BK122;clear HB;have HO_9:=n0_;have BK122:=n1_;have HB:=n2_;clear n0_ n1_ n2_;(try clear hb);(try clear hb2);(try clear hk);(try clear hi)))
       go_roundg k1
       case measure=>have:=HK1.out;omega
       case rel=>exact ⟨(wrap64 (x11_1 + 1)),(by first|rfl|(simp;done)|(simp [*];done)),H',⟨by have:=HK1.out;omega⟩,⟨by (with_reducible repeat (first|apply Kd.qX|apply Kd.qW|apply Kd.zC));exact HO_9.out⟩,⟨by (with_reducible repeat (first|refine qF ?_ _|refine qI ?_|refine qE ?_ _));exact BK122.out⟩,⟨by repeat (first|(with_reducible first|exact HB.out|apply qH|apply qB|apply qG|refine qD ?_ GE122.out)|exact HB.out)⟩⟩
      ·replace c11:=Bool.eq_false_iff.mpr c11
       subst c11
       have H1 : (some (rd t123 x11_1,true)) = some (r1,r2):=by rw [if_neg (show ¬ (false = true) by decide)] at H;exact H
       clear H
       have H:=H1
       clear H1
       simp only [Option.some.injEq,Prod.mk.injEq] at H
       obtain ⟨rfl,rfl⟩:=H
       have p126 : 0 ≤ (x11_1 : Int):=of_decide_eq_true (by first|(with_reducible assumption)|assumption)
       have q126 : x11_1 < (t123.length : Int):=of_decide_eq_true (by first|(with_reducible assumption)|assumption)
       obtain ⟨ad126,e126,hx126_0⟩:=Kd.uP (Kd.jZ HO_9.out).2.2 x11_1 p126 q126
       cases e126
       replace p126:=eq_true p126
       replace q126:=eq_true q126
       have hcz14_0 : wr.cell? ⟨gb122,0,none⟩ = some (.slice A0_0 l0_0.length c0_0):=(qK BK122.out 0).trans rfl
       have hfz14_0:=qJ BK122.out 0
       go_wp2_with (first|((with_reducible refine q8 (f:=43) rfl ?_);refine jB (some 18) rfl rfl Try.func43 (by kernel_rfl) rfl #[.agg #[.slice A0_0 l0_0.length c0_0],.int .i64 (rd t123 x11_1),.int .i64 a1] rfl (by (try simp only [List.map_toArray,List.map_cons,List.map_nil]);first|done|rfl|(simp only [List.length_drop,List.length_take];rfl)|(simp only [List.length_nil,Int.natCast_zero,Int.zero_add,Int.ofNat_zero];rfl)) ?_;(with_reducible refine (j3.calls k1 _ _ l0_0 (rd t123 x11_1) a1 false _ ?side1 ?side2 A10.out).mono ?_);(case side1=>repeat (first|exact (Kd.vD HR0_0.out HB.out)|(with_reducible refine Kd.jK ?_ _)|(with_reducible refine Kd.jJ ?_ _)|(with_reducible refine Kd.jV ?_)));(case side2=>exact HC0_0.out);rintro e w15 ⟨rfl,hb⟩;refine ⟨_,rfl,?_⟩;have n0_:=qA.mk (Kd.j6 (by (with_reducible repeat (first|apply Kd.qX|apply Kd.qW|apply Kd.zC));exact HO_9.out) hb);have n1_:=qA.mk (zD (g:=gb122) (o:=.cells #[.slice A0_0 l0_0.length c0_0] 25 (0,0)) (by (with_reducible repeat (first|refine qF ?_ _|refine qI ?_|refine qE ?_ _));exact BK122.out) hb);have n2_:=qA.mk (qN (by repeat (first|(with_reducible first|exact HB.out|apply qH|apply qB|apply qG|refine qD ?_ GE122.out)|exact HB.out)) hb);clear HO_9;clear BK122;clear HB;have HO_9:=n0_;have BK122:=n1_;have HB:=n2_;clear n0_ n1_ n2_;(try clear hb);(try clear hb2);(try clear hk);(try clear hi)))
       go_ret2
       exact ⟨by first|rfl|(simp [zK,zJ]<;>rfl)|(simp [*,zK,zJ]<;>rfl),by repeat (first|(with_reducible first|exact HB.out|apply qH|apply qB|apply qG|refine qD ?_ GE122.out)|exact HB.out)⟩
     ·rw [if_neg c9] at H
      exact absurd H (by simp)
    ·rw [if_neg c8] at H
     exact absurd H (by simp)
   ·rw [if_neg c7] at H
    have c7b0 : decide (x11_1 < (t123.length : Int)) = false:=decide_eq_false c7
    clear c7
    simp only [Option.some.injEq,Prod.mk.injEq] at H
    obtain ⟨rfl,rfl⟩:=H
    go_wp2
    go_ret2
    exact ⟨by first|rfl|(simp [zK,zJ]<;>rfl)|(simp [*,zK,zJ]<;>rfl),by repeat (first|(with_reducible first|exact HB.out|apply qH|apply qB|apply qG|refine qD ?_ GE122.out)|exact HB.out)⟩
def zR.f (k : Nat) (l0_0 : List (S51)) (a1 : Int) : Option (Bool):=(j5.f a1).bind fun t129=>(if t129 = true then (if a1 = 0 then (some false) else ((vN.f k l0_0 a1).bind fun t130=>(if t130 = true then ((z8.f k l0_0 a1).bind fun bt131=>(some (!bt131.2))) else (some false)))) else (some false))
theorem zR.mono : ∀ a0 a1 k,LeO (zR.f k a0 a1) (zR.f (k + 1) a0 a1):=by
 intro a0 a1 k
 unfold zR.f
 repeat' first
   | (with_reducible exact vN.mono _ _ _)
   | (with_reducible exact z8.mono _ _ _)
   | (with_reducible exact LeO.refl _)
   | (with_reducible exact LeO.none _)
   | (with_reducible refine LeO.ite ?_ ?_)
   | (with_reducible refine LeO.bind ?_ (fun _=>?_))
   | exact vN.mono _ _ _
   | exact z8.mono _ _ _
   | exact LeO.none _
   | refine LeO.ite ?_ ?_
   | refine LeO.bind ?_ (fun _=>?_)
set_option maxHeartbeats 8000000 in
set_option maxRecDepth 100000 in
theorem zR.calls (k : Nat) (A0_0 : Option Addr) (c0_0 : Nat) (l0_0 : List (S51)) (a1 : Int) (r : Bool) (w : World) (hr0_0 : Kd.C k51 w A0_0 l0_0.length l0_0) (hc0_0 : l0_0.length ≤ c0_0) (h : zR.f k l0_0 a1 = some r) :
  Calls Try.prog 15 #[.agg #[.slice A0_0 l0_0.length c0_0],.int .i64 a1] w fun e w'=>e = .returned (.bool r)∧Below w.heap.size w w':=by
 have hu25:=Try.underlying25
 have HR0_0:=qA.mk hr0_0
 have HC0_0:=qA.mk hc0_0
 clear hr0_0 hc0_0
 have HB:=qA.mk (Below.refl w.heap.size w)
 have H : ((j5.f a1).bind fun t129=>(if t129 = true then (if a1 = 0 then (some false) else ((vN.f k l0_0 a1).bind fun t130=>(if t130 = true then ((z8.f k l0_0 a1).bind fun bt131=>(some (!bt131.2))) else (some false)))) else (some false))) = some r:=h
 clear h
 replace H:=Option.bind_eq_some_iff.mp H
 obtain ⟨t129,A30,H⟩:=H
 replace H : (if t129 = true then (if a1 = 0 then (some false) else ((vN.f k l0_0 a1).bind fun t130=>(if t130 = true then ((z8.f k l0_0 a1).bind fun bt131=>(some (!bt131.2))) else (some false)))) else (some false)) = some r:=H
 have A3:=qA.mk A30
 clear A30
 by_cases c4 : t129 = true
 ·subst c4
  have H1 : (if a1 = 0 then (some false) else ((vN.f k l0_0 a1).bind fun t130=>(if t130 = true then ((z8.f k l0_0 a1).bind fun bt131=>(some (!bt131.2))) else (some false)))) = some r:=by rw [if_pos rfl] at H;exact H
  clear H
  have H:=H1
  clear H1
  by_cases c5 : a1 = 0
  ·rw [if_pos c5] at H
   have c5b0 : (a1 == 0) = true:=beq_iff_eq.mpr c5
   have c5b1 : (a1 != 0) = false:=bne_eq_false_iff_eq.mpr c5
   clear c5
   obtain rfl:=Option.some.inj H
   go_enter Try.func15,Try.ntmps15
   go_wp2_with (first|((with_reducible refine jH (N:=2) rfl ?_);refine jL ?hg (N:=2) ?hd (cs:=#[.slice A0_0 l0_0.length c0_0]) (t:=25) ?hr ?_;(case hd=>rfl);(case hg=>rfl);(case hr=>first|(go_simp;done)|(go_simp;rfl));intro gb128 hg w6 hbox hb;have n0_:=qA.mk (qN (by repeat (first|(with_reducible first|exact HB.out|apply qH|apply qB|apply qG)|exact HB.out)) hb);have n1_:=qA.mk (hbox);have n2_:=qA.mk ((by rw [hg];exact (qQ (by repeat (first|(with_reducible first|exact HB.out|apply qH|apply qB|apply qG)|exact HB.out))) : w.heap.size ≤ gb128));have n3_:=qA.mk ((by rw [hg];exact (qQ (by repeat (first|(with_reducible first|exact HB.out|apply qH|apply qB|apply qG)|exact HB.out))) : w.heap.size ≤ gb128));clear HB;have HB:=n0_;have BK128:=n1_;have GW128:=n2_;have GE128:=n3_;clear n0_ n1_ n2_ n3_;clear hb hbox hg)|((with_reducible refine q8 (f:=37) rfl ?_);refine jB (some 8) rfl rfl Try.func37 (by kernel_rfl) rfl #[.int .i64 a1] rfl (by (try simp only [List.map_toArray,List.map_cons,List.map_nil]);first|done|rfl|(simp only [List.length_drop,List.length_take];rfl)|(simp only [List.length_nil,Int.natCast_zero,Int.zero_add,Int.ofNat_zero];rfl)) ?_;(with_reducible refine (j5.calls a1 true _ A3.out).mono ?_);rintro e w' ⟨rfl,⟨nd,rfl⟩⟩;refine ⟨_,rfl,?_⟩))
   go_ret
   exact ⟨by first|rfl|(simp [zK,zJ]<;>rfl)|(simp [*,zK,zJ]<;>rfl),by repeat (first|(with_reducible first|exact HB.out|apply qH|apply qB|apply qG|refine qD ?_ GE128.out)|exact HB.out)⟩
  ·rw [if_neg c5] at H
   have c5b0 : (a1 == 0) = false:=beq_eq_false_iff_ne.mpr c5
   have c5b1 : (a1 != 0) = true:=bne_iff_ne.mpr c5
   replace H:=Option.bind_eq_some_iff.mp H
   obtain ⟨t130,A70,H⟩:=H
   replace H : (if t130 = true then ((z8.f k l0_0 a1).bind fun bt131=>(some (!bt131.2))) else (some false)) = some r:=H
   have A7:=qA.mk A70
   clear A70
   by_cases c8 : t130 = true
   ·subst c8
    have H1 : ((z8.f k l0_0 a1).bind fun bt131=>(some (!bt131.2))) = some r:=by rw [if_pos rfl] at H;exact H
    clear H
    have H:=H1
    clear H1
    replace H:=Option.bind_eq_some_iff.mp H
    obtain ⟨⟨t131,t132⟩,A90,H⟩:=H
    replace H : (some (!t132)) = some r:=H
    have A9:=qA.mk A90
    clear A90
    obtain rfl:=Option.some.inj H
    go_enter Try.func15,Try.ntmps15
    go_wp2_with (first|((with_reducible refine jH (N:=2) rfl ?_);refine jL ?hg (N:=2) ?hd (cs:=#[.slice A0_0 l0_0.length c0_0]) (t:=25) ?hr ?_;(case hd=>rfl);(case hg=>rfl);(case hr=>first|(go_simp;done)|(go_simp;rfl));intro gb128 hg w10 hbox hb;have n0_:=qA.mk (qN (by repeat (first|(with_reducible first|exact HB.out|apply qH|apply qB|apply qG)|exact HB.out)) hb);have n1_:=qA.mk (hbox);have n2_:=qA.mk ((by rw [hg];exact (qQ (by repeat (first|(with_reducible first|exact HB.out|apply qH|apply qB|apply qG)|exact HB.out))) : w.heap.size ≤ gb128));have n3_:=qA.mk ((by rw [hg];exact (qQ (by repeat (first|(with_reducible first|exact HB.out|apply qH|apply qB|apply qG)|exact HB.out))) : w.heap.size ≤ gb128));clear HB;have HB:=n0_;have BK128:=n1_;have GW128:=n2_;have GE128:=n3_;clear n0_ n1_ n2_ n3_;clear hb hbox hg)|((with_reducible refine q8 (f:=37) rfl ?_);refine jB (some 8) rfl rfl Try.func37 (by kernel_rfl) rfl #[.int .i64 a1] rfl (by (try simp only [List.map_toArray,List.map_cons,List.map_nil]);first|done|rfl|(simp only [List.length_drop,List.length_take];rfl)|(simp only [List.length_nil,Int.natCast_zero,Int.zero_add,Int.ofNat_zero];rfl)) ?_;(with_reducible refine (j5.calls a1 true _ A3.out).mono ?_);rintro e w' ⟨rfl,⟨nd,rfl⟩⟩;refine ⟨_,rfl,?_⟩;have hcz11_0 : w10.cell? ⟨gb128,0,none⟩ = some (.slice A0_0 l0_0.length c0_0):=(qK BK128.out 0).trans rfl;have hfz11_0:=qJ BK128.out 0)|(go_at_call 38;(with_reducible refine (vN.calls k _ _ l0_0 a1 true _ ?side1 ?side2 A7.out).mono ?_);(case side1=>repeat (first|exact (Kd.vD HR0_0.out (by repeat (first|(with_reducible first|exact HB.out|apply qH|apply qB|apply qG|refine qD ?_ GE128.out)|exact HB.out)))|(with_reducible refine Kd.jK ?_ _)|(with_reducible refine Kd.jJ ?_ _)|(with_reducible refine Kd.jV ?_)));(case side2=>exact HC0_0.out);rintro e w12 ⟨rfl,hb⟩;have n0_:=qA.mk (zD (g:=gb128) (o:=.cells #[.slice A0_0 l0_0.length c0_0] 25 (0,0)) (by (with_reducible repeat (first|refine qF ?_ _|refine qI ?_|refine qE ?_ _));exact BK128.out) hb);have n1_:=qA.mk (qN (by repeat (first|(with_reducible first|exact HB.out|apply qH|apply qB|apply qG|refine qD ?_ GE128.out)|exact HB.out)) hb);clear BK128;clear HB;have BK128:=n0_;have HB:=n1_;clear n0_ n1_;(try clear hb);(try clear hb2);(try clear hk);(try clear hi);have hcz13_0 : w12.cell? ⟨gb128,0,none⟩ = some (.slice A0_0 l0_0.length c0_0):=(qK BK128.out 0).trans rfl;have hfz13_0:=qJ BK128.out 0)|((with_reducible refine q8 (f:=39) rfl ?_);refine jB (some 23) rfl rfl Try.func39 (by kernel_rfl) rfl #[.agg #[.slice A0_0 l0_0.length c0_0],.int .i64 a1] rfl (by (try simp only [List.map_toArray,List.map_cons,List.map_nil]);first|done|rfl|(simp only [List.length_drop,List.length_take];rfl)|(simp only [List.length_nil,Int.natCast_zero,Int.zero_add,Int.ofNat_zero];rfl)) ?_;(with_reducible refine (z8.calls k _ _ l0_0 a1 t131 t132 _ ?side1 ?side2 A9.out).mono ?_);(case side1=>repeat (first|exact (Kd.vD HR0_0.out HB.out)|(with_reducible refine Kd.jK ?_ _)|(with_reducible refine Kd.jJ ?_ _)|(with_reducible refine Kd.jV ?_)));(case side2=>exact HC0_0.out);rintro e w14 ⟨rfl,hb⟩;refine ⟨_,rfl,?_⟩;have n0_:=qA.mk (zD (g:=gb128) (o:=.cells #[.slice A0_0 l0_0.length c0_0] 25 (0,0)) (by (with_reducible repeat (first|refine qF ?_ _|refine qI ?_|refine qE ?_ _));exact BK128.out) hb);have n1_:=qA.mk (qN (by repeat (first|(with_reducible first|exact HB.out|apply qH|apply qB|apply qG|refine qD ?_ GE128.out)|exact HB.out)) hb);clear BK128;clear HB;have BK128:=n0_;have HB:=n1_;clear n0_ n1_;(try clear hb);(try clear hb2);(try clear hk);(try clear hi)))
    go_ret
    exact ⟨by first|rfl|(simp [zK,zJ]<;>rfl)|(simp [*,zK,zJ]<;>rfl),by repeat (first|(with_reducible first|exact HB.out|apply qH|apply qB|apply qG|refine qD ?_ GE128.out)|exact HB.out)⟩
   ·replace c8:=Bool.eq_false_iff.mpr c8
    subst c8
    have H1 : (some false) = some r:=by rw [if_neg (show ¬ (false = true) by decide)] at H;exact H
    clear H
    have H:=H1
    clear H1
    obtain rfl:=Option.some.inj H
    go_enter Try.func15,Try.ntmps15
    go_wp2_with (first|((with_reducible refine jH (N:=2) rfl ?_);refine jL ?hg (N:=2) ?hd (cs:=#[.slice A0_0 l0_0.length c0_0]) (t:=25) ?hr ?_;(case hd=>rfl);(case hg=>rfl);(case hr=>first|(go_simp;done)|(go_simp;rfl));intro gb128 hg w15 hbox hb;have n0_:=qA.mk (qN (by repeat (first|(with_reducible first|exact HB.out|apply qH|apply qB|apply qG)|exact HB.out)) hb);have n1_:=qA.mk (hbox);have n2_:=qA.mk ((by rw [hg];exact (qQ (by repeat (first|(with_reducible first|exact HB.out|apply qH|apply qB|apply qG)|exact HB.out))) : w.heap.size ≤ gb128));have n3_:=qA.mk ((by rw [hg];exact (qQ (by repeat (first|(with_reducible first|exact HB.out|apply qH|apply qB|apply qG)|exact HB.out))) : w.heap.size ≤ gb128));clear HB;have HB:=n0_;have BK128:=n1_;have GW128:=n2_;have GE128:=n3_;clear n0_ n1_ n2_ n3_;clear hb hbox hg)|((with_reducible refine q8 (f:=37) rfl ?_);refine jB (some 8) rfl rfl Try.func37 (by kernel_rfl) rfl #[.int .i64 a1] rfl (by (try simp only [List.map_toArray,List.map_cons,List.map_nil]);first|done|rfl|(simp only [List.length_drop,List.length_take];rfl)|(simp only [List.length_nil,Int.natCast_zero,Int.zero_add,Int.ofNat_zero];rfl)) ?_;(with_reducible refine (j5.calls a1 true _ A3.out).mono ?_);rintro e w' ⟨rfl,⟨nd,rfl⟩⟩;refine ⟨_,rfl,?_⟩;have hcz16_0 : w15.cell? ⟨gb128,0,none⟩ = some (.slice A0_0 l0_0.length c0_0):=(qK BK128.out 0).trans rfl;have hfz16_0:=qJ BK128.out 0)|(go_at_call 38;(with_reducible refine (vN.calls k _ _ l0_0 a1 false _ ?side1 ?side2 A7.out).mono ?_);(case side1=>repeat (first|exact (Kd.vD HR0_0.out (by repeat (first|(with_reducible first|exact HB.out|apply qH|apply qB|apply qG|refine qD ?_ GE128.out)|exact HB.out)))|(with_reducible refine Kd.jK ?_ _)|(with_reducible refine Kd.jJ ?_ _)|(with_reducible refine Kd.jV ?_)));(case side2=>exact HC0_0.out);rintro e w17 ⟨rfl,hb⟩;have n0_:=qA.mk (zD (g:=gb128) (o:=.cells #[.slice A0_0 l0_0.length c0_0] 25 (0,0)) (by (with_reducible repeat (first|refine qF ?_ _|refine qI ?_|refine qE ?_ _));exact BK128.out) hb);have n1_:=qA.mk (qN (by repeat (first|(with_reducible first|exact HB.out|apply qH|apply qB|apply qG|refine qD ?_ GE128.out)|exact HB.out)) hb);clear BK128;clear HB;have BK128:=n0_;have HB:=n1_;clear n0_ n1_;(try clear hb);(try clear hb2);(try clear hk);(try clear hi)))
    go_ret
    exact ⟨by first|rfl|(simp [zK,zJ]<;>rfl)|(simp [*,zK,zJ]<;>rfl),by repeat (first|(with_reducible first|exact HB.out|apply qH|apply qB|apply qG|refine qD ?_ GE128.out)|exact HB.out)⟩
 ·replace c4:=Bool.eq_false_iff.mpr c4
  subst c4
  have H1 : (some false) = some r:=by rw [if_neg (show ¬ (false = true) by decide)] at H;exact H
  clear H
  have H:=H1
  clear H1
  obtain rfl:=Option.some.inj H
  go_enter Try.func15,Try.ntmps15
  go_wp2_with (first|((with_reducible refine jH (N:=2) rfl ?_);refine jL ?hg (N:=2) ?hd (cs:=#[.slice A0_0 l0_0.length c0_0]) (t:=25) ?hr ?_;(case hd=>rfl);(case hg=>rfl);(case hr=>first|(go_simp;done)|(go_simp;rfl));intro gb128 hg w18 hbox hb;have n0_:=qA.mk (qN (by repeat (first|(with_reducible first|exact HB.out|apply qH|apply qB|apply qG)|exact HB.out)) hb);have n1_:=qA.mk (hbox);have n2_:=qA.mk ((by rw [hg];exact (qQ (by repeat (first|(with_reducible first|exact HB.out|apply qH|apply qB|apply qG)|exact HB.out))) : w.heap.size ≤ gb128));have n3_:=qA.mk ((by rw [hg];exact (qQ (by repeat (first|(with_reducible first|exact HB.out|apply qH|apply qB|apply qG)|exact HB.out))) : w.heap.size ≤ gb128));clear HB;have HB:=n0_;have BK128:=n1_;have GW128:=n2_;have GE128:=n3_;clear n0_ n1_ n2_ n3_;clear hb hbox hg)|((with_reducible refine q8 (f:=37) rfl ?_);refine jB (some 8) rfl rfl Try.func37 (by kernel_rfl) rfl #[.int .i64 a1] rfl (by (try simp only [List.map_toArray,List.map_cons,List.map_nil]);first|done|rfl|(simp only [List.length_drop,List.length_take];rfl)|(simp only [List.length_nil,Int.natCast_zero,Int.zero_add,Int.ofNat_zero];rfl)) ?_;(with_reducible refine (j5.calls a1 false _ A3.out).mono ?_);rintro e w' ⟨rfl,⟨nd,rfl⟩⟩;refine ⟨_,rfl,?_⟩))
  go_ret
  exact ⟨by first|rfl|(simp [zK,zJ]<;>rfl)|(simp [*,zK,zJ]<;>rfl),by repeat (first|(with_reducible first|exact HB.out|apply qH|apply qB|apply qG|refine qD ?_ GE128.out)|exact HB.out)⟩
def zS.l0 : Nat→Int→List Int→List (S51)→Option (Int × List Int)
 | 0,_,_,_=>none
 | k + 1,x1,x6,x134000=>(z8.f k x134000 x1).bind fun bt136=>(if bt136.2 = true then (if x6.length < 17592186044416 then (if 0 ≤ bt136.1 then (zS.l0 k (Go.bits .andNot .i64 x1 (shl .i64 1 bt136.1)) (x6 ++ [bt136.1]) x134000) else (none)) else (none)) else (some (x1,x6)))
def zS.f (k : Nat) (l0_0 : List (S51)) (a1 : Int) : Option (Int × List Int):=(j5.f a1).bind fun t134=>(if t134 = true then ((q9.f k l0_0).bind fun t135=>(zS.l0 k (Go.bits .and .i64 a1 t135) ([] : List Int) l0_0)) else (some (0,([] : List Int))))
theorem zS.mono_l : ∀ k,(∀ y0 y1 y2,LeO (zS.l0 k y0 y1 y2) (zS.l0 (k + 1) y0 y1 y2))
 | 0=>fun _ _ _ r h=>by simp [zS.l0] at h
 | k + 1=>by
  have ih0:=zS.mono_l k
  ·intro y0 y1 y2
   unfold zS.l0
   repeat' first
   | (with_reducible exact ih0 _ _ _)
   | (with_reducible exact z8.mono _ _ _)
   | (with_reducible exact q9.mono _ _)
   | (with_reducible exact LeO.refl _)
   | (with_reducible exact LeO.none _)
   | (with_reducible refine LeO.ite ?_ ?_)
   | (with_reducible refine LeO.bind ?_ (fun _=>?_))
   | exact ih0 _ _ _
   | exact z8.mono _ _ _
   | exact q9.mono _ _
   | exact LeO.none _
   | refine LeO.ite ?_ ?_
   | refine LeO.bind ?_ (fun _=>?_)
theorem zS.mono : ∀ a0 a1 k,LeO (zS.f k a0 a1) (zS.f (k + 1) a0 a1):=by
 intro a0 a1 k
 have ih0:=zS.mono_l k
 unfold zS.f
 repeat' first
   | (with_reducible exact ih0 _ _ _)
   | (with_reducible exact z8.mono _ _ _)
   | (with_reducible exact q9.mono _ _)
   | (with_reducible exact LeO.refl _)
   | (with_reducible exact LeO.none _)
   | (with_reducible refine LeO.ite ?_ ?_)
   | (with_reducible refine LeO.bind ?_ (fun _=>?_))
   | exact ih0 _ _ _
   | exact z8.mono _ _ _
   | exact q9.mono _ _
   | exact LeO.none _
   | refine LeO.ite ?_ ?_
   | refine LeO.bind ?_ (fun _=>?_)
set_option maxHeartbeats 8000000 in
set_option maxRecDepth 100000 in
theorem zS.calls (k : Nat) (A0_0 : Option Addr) (c0_0 : Nat) (l0_0 : List (S51)) (a1 : Int) (r1 : Int) (r2 : List Int) (w : World) (hr0_0 : Kd.C k51 w A0_0 l0_0.length l0_0) (hc0_0 : l0_0.length ≤ c0_0) (h : zS.f k l0_0 a1 = some (r1,r2)) :
  Calls Try.prog 40 #[.agg #[.slice A0_0 l0_0.length c0_0],.int .i64 a1] w fun e w'=>∃ v1_ : Value,e = .returned (.tuple #[.int .i64 r1,v1_])∧Kd.R (Kd.int .i64) 3 w' w.heap.size (fun _=>True) v1_ r2∧Below w.heap.size w w':=by
 have hu25:=Try.underlying25
 have HR0_0:=qA.mk hr0_0
 have HC0_0:=qA.mk hc0_0
 clear hr0_0 hc0_0
 have HB:=qA.mk (Below.refl w.heap.size w)
 have H : ((j5.f a1).bind fun t134=>(if t134 = true then ((q9.f k l0_0).bind fun t135=>(zS.l0 k (Go.bits .and .i64 a1 t135) ([] : List Int) l0_0)) else (some (0,([] : List Int))))) = some (r1,r2):=h
 clear h
 replace H:=Option.bind_eq_some_iff.mp H
 obtain ⟨t134,A30,H⟩:=H
 replace H : (if t134 = true then ((q9.f k l0_0).bind fun t135=>(zS.l0 k (Go.bits .and .i64 a1 t135) ([] : List Int) l0_0)) else (some (0,([] : List Int)))) = some (r1,r2):=H
 have A3:=qA.mk A30
 clear A30
 by_cases c4 : t134 = true
 ·subst c4
  have H1 : ((q9.f k l0_0).bind fun t135=>(zS.l0 k (Go.bits .and .i64 a1 t135) ([] : List Int) l0_0)) = some (r1,r2):=by rw [if_pos rfl] at H;exact H
  clear H
  have H:=H1
  clear H1
  replace H:=Option.bind_eq_some_iff.mp H
  obtain ⟨t135,A50,H⟩:=H
  replace H : (zS.l0 k (Go.bits .and .i64 a1 t135) ([] : List Int) l0_0) = some (r1,r2):=H
  have A5:=qA.mk A50
  clear A50
  have H':=qA.mk H
  clear H
  go_enter Try.func40,Try.ntmps40
  go_wp2_with (first|((with_reducible refine jH (N:=2) rfl ?_);refine jL ?hg (N:=2) ?hd (cs:=#[.slice A0_0 l0_0.length c0_0]) (t:=25) ?hr ?_;(case hd=>rfl);(case hg=>rfl);(case hr=>first|(go_simp;done)|(go_simp;rfl));intro gb133 hg w6 hbox hb;have n0_:=qA.mk (qN (by repeat (first|(with_reducible first|exact HB.out|apply qH|apply qB|apply qG)|exact HB.out)) hb);have n1_:=qA.mk (hbox);have n2_:=qA.mk ((by rw [hg];exact (qQ (by repeat (first|(with_reducible first|exact HB.out|apply qH|apply qB|apply qG)|exact HB.out))) : w.heap.size ≤ gb133));have n3_:=qA.mk ((by rw [hg];exact (qQ (by repeat (first|(with_reducible first|exact HB.out|apply qH|apply qB|apply qG)|exact HB.out))) : w.heap.size ≤ gb133));clear HB;have HB:=n0_;have BK133:=n1_;have GW133:=n2_;have GE133:=n3_;clear n0_ n1_ n2_ n3_;clear hb hbox hg)|((with_reducible refine q8 (f:=37) rfl ?_);refine jB (some 10) rfl rfl Try.func37 (by kernel_rfl) rfl #[.int .i64 a1] rfl (by (try simp only [List.map_toArray,List.map_cons,List.map_nil]);first|done|rfl|(simp only [List.length_drop,List.length_take];rfl)|(simp only [List.length_nil,Int.natCast_zero,Int.zero_add,Int.ofNat_zero];rfl)) ?_;(with_reducible refine (j5.calls a1 true _ A3.out).mono ?_);rintro e w' ⟨rfl,⟨nd,rfl⟩⟩;refine ⟨_,rfl,?_⟩;have hcz7_0 : w6.cell? ⟨gb133,0,none⟩ = some (.slice A0_0 l0_0.length c0_0):=(qK BK133.out 0).trans rfl;have hfz7_0:=qJ BK133.out 0)|((with_reducible refine q8 (f:=41) rfl ?_);refine jB (some 14) rfl rfl Try.func41 (by kernel_rfl) rfl #[.agg #[.slice A0_0 l0_0.length c0_0]] rfl (by (try simp only [List.map_toArray,List.map_cons,List.map_nil]);first|done|rfl|(simp only [List.length_drop,List.length_take];rfl)|(simp only [List.length_nil,Int.natCast_zero,Int.zero_add,Int.ofNat_zero];rfl)) ?_;(with_reducible refine (q9.calls k _ _ l0_0 t135 _ ?side1 ?side2 A5.out).mono ?_);(case side1=>repeat (first|exact (Kd.vD HR0_0.out (by repeat (first|(with_reducible first|exact HB.out|apply qH|apply qB|apply qG|refine qD ?_ GE133.out)|exact HB.out)))|(with_reducible refine Kd.jK ?_ _)|(with_reducible refine Kd.jJ ?_ _)|(with_reducible refine Kd.jV ?_)));(case side2=>exact HC0_0.out);rintro e w8 ⟨rfl,hb⟩;refine ⟨_,rfl,?_⟩;have n0_:=qA.mk (zD (g:=gb133) (o:=.cells #[.slice A0_0 l0_0.length c0_0] 25 (0,0)) (by (with_reducible repeat (first|refine qF ?_ _|refine qI ?_|refine qE ?_ _));exact BK133.out) hb);have n1_:=qA.mk (qN (by repeat (first|(with_reducible first|exact HB.out|apply qH|apply qB|apply qG|refine qD ?_ GE133.out)|exact HB.out)) hb);clear BK133;clear HB;have BK133:=n0_;have HB:=n1_;clear n0_ n1_;(try clear hb);(try clear hb2);(try clear hk);(try clear hi)))
  go_loopg [1,6] k (fun kq v1 v6 w'=>∃ (x1_1 : Int) (x6_1 : List Int),v1 = .int .i64 x1_1∧qA (zS.l0 kq x1_1 x6_1 l0_0 = some (r1,r2))∧qA (kq ≤ k)∧qA (Kd.R (Kd.int .i64) 3 w' w.heap.size (fun _=>True) v6 x6_1)∧qA (w'.heap[gb133]? = some (.cells #[(.slice A0_0 l0_0.length c0_0)] 25 (0,0)))∧qA (Below w.heap.size w w'))
  case atStart=>exact ⟨(Go.bits .and .i64 a1 t135),(([] : List Int)),(by first|rfl|(simp;done)|(simp [*];done)),H',⟨Nat.le_refl _⟩,⟨by first|exact Kd.uT _ _ _ _ _|exact Kd.N_nil _ _ _ _ _|exact Kd.V_nil _ _ _ _ _|exact Kd.Q_nil _ _ _ _ _|exact Kd.S_nil _ _ _ _ _⟩,⟨by (with_reducible repeat (first|refine qF ?_ _|refine qI ?_|refine qE ?_ _));exact BK133.out⟩,⟨by repeat (first|(with_reducible first|exact HB.out|apply qH|apply qB|apply qG|refine qD ?_ GE133.out)|exact HB.out)⟩⟩
  case round =>
   clear H'
   try clear p2
   try clear c3
   try clear c4
   try clear hcz7_0
   try clear hfz7_0
   obtain ⟨x1_1,x6_1,rfl,HA,HK1,HO_6,BK133,HB⟩:=hrel
   cases gk with
   | zero=>exact absurd HA.out (by simp [zS.l0])
   | succ k1 =>
    have H:=HA.out
    clear HA
    simp only [zS.l0] at H
    replace H:=Option.bind_eq_some_iff.mp H
    obtain ⟨⟨t136,t137⟩,A90,H⟩:=H
    replace H : (if t137 = true then (if x6_1.length < 17592186044416 then (if 0 ≤ t136 then (zS.l0 k1 (Go.bits .andNot .i64 x1_1 (shl .i64 1 t136)) (x6_1 ++ [t136]) l0_0) else (none)) else (none)) else (some (x1_1,x6_1))) = some (r1,r2):=H
    have A9:=qA.mk A90
    clear A90
    by_cases c10 : t137 = true
    ·subst c10
     have H1 : (if x6_1.length < 17592186044416 then (if 0 ≤ t136 then (zS.l0 k1 (Go.bits .andNot .i64 x1_1 (shl .i64 1 t136)) (x6_1 ++ [t136]) l0_0) else (none)) else (none)) = some (r1,r2):=by rw [if_pos rfl] at H;exact H
     clear H
     have H:=H1
     clear H1
     by_cases c11 : x6_1.length < 17592186044416
     ·rw [if_pos c11] at H
      have LMc11:=qA.mk c11
      clear c11
      obtain ⟨y138,hy138⟩ : ∃ y_ : List Int,y_ = (x6_1 ++ [t136]):=⟨_,rfl⟩
      replace H : (if 0 ≤ t136 then (zS.l0 k1 (Go.bits .andNot .i64 x1_1 (shl .i64 1 t136)) y138 l0_0) else (none)) = some (r1,r2):=by first|(rw [hy138];with_reducible exact H)|(have H2_:=(Option.bind_some _ _).symm.trans H;rw [hy138];with_reducible exact H2_)|(have H2_:=(Option.bind_some _ _).symm.trans H;with_reducible exact H2_)|with_reducible exact H|(rw [hy138];exact H)|exact H
      have Ny138:=qA.mk hy138
      clear hy138
      by_cases c12 : 0 ≤ t136
      ·rw [if_pos c12] at H
       have c12b0:=eq_true c12
       have c12b1 : decide (0 ≤ t136) = true:=decide_eq_true c12
       clear c12
       obtain ⟨ji13,hji13⟩ : ∃ j_ : Int,(shl .i64 1 t136) = j_:=⟨_,rfl⟩
       replace H : (zS.l0 k1 (Go.bits .andNot .i64 x1_1 (ji13)) y138 l0_0) = some (r1,r2):=by first|(rw [hji13] at H;exact H)|(simp only [hji13] at H ⊢;exact H)
       (try rw [hji13] at A9)
       have hji13_ : (IntKind.i64.wrap (1 * 2 ^ min t136.toNat 64)) = ji13:=hji13
       have hji13z : t136 ≤ 64→(IntKind.i64.wrap (1 * 2 ^ t136.toNat)) = ji13:=shl_small hji13
       have hji13u : (IntKind.i64.wrap (2 ^ min t136.toNat 64)) = ji13:=by have h_:=hji13_;rw [Int.one_mul] at h_;exact h_
       have hji13v : t136 ≤ 64→(IntKind.i64.wrap (2 ^ t136.toNat)) = ji13:=fun hle_=>by have h_:=hji13z hle_;rw [Int.one_mul] at h_;exact h_
       have hji13y : (wrap64 (1 * 2 ^ min t136.toNat 64)) = ji13:=(zT _).symm.trans hji13_
       have hji13x : t136 ≤ 64→(wrap64 (1 * 2 ^ t136.toNat)) = ji13:=fun h_=>(zT _).symm.trans (hji13z h_)
       have H':=qA.mk H
       clear H
       have hcz14_0 : wr.cell? ⟨gb133,0,none⟩ = some (.slice A0_0 l0_0.length c0_0):=(qK BK133.out 0).trans rfl
       have hfz14_0:=qJ BK133.out 0
       go_wp2_with (first|((with_reducible refine q8 (f:=39) rfl ?_);refine jB (some 19) rfl rfl Try.func39 (by kernel_rfl) rfl #[.agg #[.slice A0_0 l0_0.length c0_0],.int .i64 x1_1] rfl (by (try simp only [List.map_toArray,List.map_cons,List.map_nil]);first|done|rfl|(simp only [List.length_drop,List.length_take];rfl)|(simp only [List.length_nil,Int.natCast_zero,Int.zero_add,Int.ofNat_zero];rfl)) ?_;(with_reducible refine (z8.calls k1 _ _ l0_0 x1_1 t136 true _ ?side1 ?side2 A9.out).mono ?_);(case side1=>repeat (first|exact (Kd.vD HR0_0.out HB.out)|(with_reducible refine Kd.jK ?_ _)|(with_reducible refine Kd.jJ ?_ _)|(with_reducible refine Kd.jV ?_)));(case side2=>exact HC0_0.out);rintro e w15 ⟨rfl,hb⟩;refine ⟨_,rfl,?_⟩;have n0_:=qA.mk (Kd.j6 (by (with_reducible repeat (first|apply Kd.qX|apply Kd.qW|apply Kd.zC));exact HO_6.out) hb);have n1_:=qA.mk (zD (g:=gb133) (o:=.cells #[.slice A0_0 l0_0.length c0_0] 25 (0,0)) (by (with_reducible repeat (first|refine qF ?_ _|refine qI ?_|refine qE ?_ _));exact BK133.out) hb);have n2_:=qA.mk (qN (by repeat (first|(with_reducible first|exact HB.out|apply qH|apply qB|apply qG|refine qD ?_ GE133.out)|exact HB.out)) hb);clear HO_6;clear BK133;clear HB;have HO_6:=n0_;have BK133:=n1_;have HB:=n2_;clear n0_ n1_ n2_;(try clear hb);(try clear hb2);(try clear hk);(try clear hi))|((with_reducible refine vQ (b:=.append) (xs:=#[.tmp 26,.tmp 28]) rfl ?_);at_builtin;refine Kd.uO (Kd.int .i64) (w0:=w) w.heap.size rfl (.tmp 26) (.tmp 28) 22 3 (.int .i64 0) 8 rfl Try.underlying22 info3 rfl (by decide) (by omega) u6 x6_1 t136 [.int .i64 t136] (fun _=>True) (fun _=>False) rfl rfl ?aP (fun _ hk=>hk.elim) ?aF ?aO ?aB ?aS ?aL ?_;(case aP=>exact rfl);(case aB=>exact (by repeat (first|(with_reducible first|exact HB.out|apply qH|apply qB|apply qG|refine qD ?_ GE133.out)|exact HB.out)));(case aF=>exact (fun _ _=>trivial));(case aO=>exact (by (with_reducible repeat (first|apply Kd.qX|apply Kd.qW|apply Kd.zC));exact HO_6.out));(case aS=>exact (qQ (by repeat (first|(with_reducible first|exact HB.out|apply qH|apply qB|apply qG|refine qD ?_ GE133.out)|exact HB.out))));(case aL=>have:=LMc11.out;omega);intro v139 w16 ho hb hg hat;rw [← Ny138.out] at ho;have n0_:=qA.mk (jX (g:=gb133) (o:=.cells #[.slice A0_0 l0_0.length c0_0] 25 (0,0)) (by (with_reducible repeat (first|refine qF ?_ _|refine qI ?_|refine qE ?_ _));exact BK133.out) hg (Kd.R_ne HO_6.out BK133.out (by decide)));have n1_:=qA.mk (hb);have n2_:=qA.mk (ho);clear BK133;clear HB;clear HO_6;have BK133:=n0_;have HB:=n1_;have HO140:=n2_;clear n0_ n1_ n2_;clear ho hb hg hat))
       go_roundg k1
       case measure=>have:=HK1.out;omega
       case rel=>exact ⟨(Go.bits .andNot .i64 x1_1 (ji13)),(y138),(by first|rfl|(simp;done)|(simp only [← hji13]<;>(first|rfl|simp))|(simp [*];done)),H',⟨by have:=HK1.out;omega⟩,⟨by (with_reducible repeat (first|apply Kd.qX|apply Kd.qW|apply Kd.zC));exact HO140.out⟩,⟨by (with_reducible repeat (first|refine qF ?_ _|refine qI ?_|refine qE ?_ _));exact BK133.out⟩,⟨by repeat (first|(with_reducible first|exact HB.out|apply qH|apply qB|apply qG|refine qD ?_ GE133.out)|exact HB.out)⟩⟩
      ·rw [if_neg c12] at H
       exact absurd H (by simp)
     ·rw [if_neg c11] at H
      exact absurd H (by simp)
    ·replace c10:=Bool.eq_false_iff.mpr c10
     subst c10
     have H1 : (some (x1_1,x6_1)) = some (r1,r2):=by rw [if_neg (show ¬ (false = true) by decide)] at H;exact H
     clear H
     have H:=H1
     clear H1
     simp only [Option.some.injEq,Prod.mk.injEq] at H
     obtain ⟨rfl,rfl⟩:=H
     have hcz17_0 : wr.cell? ⟨gb133,0,none⟩ = some (.slice A0_0 l0_0.length c0_0):=(qK BK133.out 0).trans rfl
     have hfz17_0:=qJ BK133.out 0
     go_wp2_with (first|((with_reducible refine q8 (f:=39) rfl ?_);refine jB (some 19) rfl rfl Try.func39 (by kernel_rfl) rfl #[.agg #[.slice A0_0 l0_0.length c0_0],.int .i64 x1_1] rfl (by (try simp only [List.map_toArray,List.map_cons,List.map_nil]);first|done|rfl|(simp only [List.length_drop,List.length_take];rfl)|(simp only [List.length_nil,Int.natCast_zero,Int.zero_add,Int.ofNat_zero];rfl)) ?_;(with_reducible refine (z8.calls k1 _ _ l0_0 x1_1 t136 false _ ?side1 ?side2 A9.out).mono ?_);(case side1=>repeat (first|exact (Kd.vD HR0_0.out HB.out)|(with_reducible refine Kd.jK ?_ _)|(with_reducible refine Kd.jJ ?_ _)|(with_reducible refine Kd.jV ?_)));(case side2=>exact HC0_0.out);rintro e w18 ⟨rfl,hb⟩;refine ⟨_,rfl,?_⟩;have n0_:=qA.mk (Kd.j6 (by (with_reducible repeat (first|apply Kd.qX|apply Kd.qW|apply Kd.zC));exact HO_6.out) hb);have n1_:=qA.mk (zD (g:=gb133) (o:=.cells #[.slice A0_0 l0_0.length c0_0] 25 (0,0)) (by (with_reducible repeat (first|refine qF ?_ _|refine qI ?_|refine qE ?_ _));exact BK133.out) hb);have n2_:=qA.mk (qN (by repeat (first|(with_reducible first|exact HB.out|apply qH|apply qB|apply qG|refine qD ?_ GE133.out)|exact HB.out)) hb);clear HO_6;clear BK133;clear HB;have HO_6:=n0_;have BK133:=n1_;have HB:=n2_;clear n0_ n1_ n2_;(try clear hb);(try clear hb2);(try clear hk);(try clear hi)))
     go_ret2
     exact ⟨_,by first|rfl|(simp [zK,zJ]<;>rfl)|(simp [*,zK,zJ]<;>rfl),by (with_reducible repeat (first|apply Kd.qX|apply Kd.qW|apply Kd.zC));exact HO_6.out,by repeat (first|(with_reducible first|exact HB.out|apply qH|apply qB|apply qG|refine qD ?_ GE133.out)|exact HB.out)⟩
 ·replace c4:=Bool.eq_false_iff.mpr c4
  subst c4
  have H1 : (some (0,([] : List Int))) = some (r1,r2):=by rw [if_neg (show ¬ (false = true) by decide)] at H;exact H
  clear H
  have H:=H1
  clear H1
  simp only [Option.some.injEq,Prod.mk.injEq] at H
  obtain ⟨rfl,rfl⟩:=H
  go_enter Try.func40,Try.ntmps40
  go_wp2_with (first|((with_reducible refine jH (N:=2) rfl ?_);refine jL ?hg (N:=2) ?hd (cs:=#[.slice A0_0 l0_0.length c0_0]) (t:=25) ?hr ?_;(case hd=>rfl);(case hg=>rfl);(case hr=>first|(go_simp;done)|(go_simp;rfl));intro gb133 hg w19 hbox hb;have n0_:=qA.mk (qN (by repeat (first|(with_reducible first|exact HB.out|apply qH|apply qB|apply qG)|exact HB.out)) hb);have n1_:=qA.mk (hbox);have n2_:=qA.mk ((by rw [hg];exact (qQ (by repeat (first|(with_reducible first|exact HB.out|apply qH|apply qB|apply qG)|exact HB.out))) : w.heap.size ≤ gb133));have n3_:=qA.mk ((by rw [hg];exact (qQ (by repeat (first|(with_reducible first|exact HB.out|apply qH|apply qB|apply qG)|exact HB.out))) : w.heap.size ≤ gb133));clear HB;have HB:=n0_;have BK133:=n1_;have GW133:=n2_;have GE133:=n3_;clear n0_ n1_ n2_ n3_;clear hb hbox hg)|((with_reducible refine q8 (f:=37) rfl ?_);refine jB (some 10) rfl rfl Try.func37 (by kernel_rfl) rfl #[.int .i64 a1] rfl (by (try simp only [List.map_toArray,List.map_cons,List.map_nil]);first|done|rfl|(simp only [List.length_drop,List.length_take];rfl)|(simp only [List.length_nil,Int.natCast_zero,Int.zero_add,Int.ofNat_zero];rfl)) ?_;(with_reducible refine (j5.calls a1 false _ A3.out).mono ?_);rintro e w' ⟨rfl,⟨nd,rfl⟩⟩;refine ⟨_,rfl,?_⟩))
  go_ret2
  exact ⟨_,by first|rfl|(simp [zK,zJ]<;>rfl)|(simp [*,zK,zJ]<;>rfl),by first|exact Kd.uT _ _ _ _ _|exact Kd.N_nil _ _ _ _ _|exact Kd.V_nil _ _ _ _ _|exact Kd.Q_nil _ _ _ _ _|exact Kd.S_nil _ _ _ _ _,by repeat (first|(with_reducible first|exact HB.out|apply qH|apply qB|apply qG|refine qD ?_ GE133.out)|exact HB.out)⟩
def zL.f (k : Nat) (l0_0 : List (S51)) (a1 : Int) : Option (Int):=(zS.f k l0_0 a1).bind fun bt142=>(some bt142.1)
theorem zL.mono : ∀ a0 a1 k,LeO (zL.f k a0 a1) (zL.f (k + 1) a0 a1):=by
 intro a0 a1 k
 unfold zL.f
 repeat' first
   | (with_reducible exact zS.mono _ _ _)
   | (with_reducible exact LeO.refl _)
   | (with_reducible exact LeO.none _)
   | (with_reducible refine LeO.ite ?_ ?_)
   | (with_reducible refine LeO.bind ?_ (fun _=>?_))
   | exact zS.mono _ _ _
   | exact LeO.none _
   | refine LeO.ite ?_ ?_
   | refine LeO.bind ?_ (fun _=>?_)
set_option maxHeartbeats 8000000 in
set_option maxRecDepth 100000 in
theorem zL.calls (k : Nat) (A0_0 : Option Addr) (c0_0 : Nat) (l0_0 : List (S51)) (a1 : Int) (r : Int) (w : World) (hr0_0 : Kd.C k51 w A0_0 l0_0.length l0_0) (hc0_0 : l0_0.length ≤ c0_0) (h : zL.f k l0_0 a1 = some r) :
  Calls Try.prog 17 #[.agg #[.slice A0_0 l0_0.length c0_0],.int .i64 a1] w fun e w'=>e = .returned (.int .i64 r)∧Below w.heap.size w w':=by
 have hu25:=Try.underlying25
 have HR0_0:=qA.mk hr0_0
 have HC0_0:=qA.mk hc0_0
 clear hr0_0 hc0_0
 have HB:=qA.mk (Below.refl w.heap.size w)
 have H : ((zS.f k l0_0 a1).bind fun bt142=>(some bt142.1)) = some r:=h
 clear h
 replace H:=Option.bind_eq_some_iff.mp H
 obtain ⟨⟨t142,t143⟩,A30,H⟩:=H
 replace H : (some t142) = some r:=H
 have A3:=qA.mk A30
 clear A30
 obtain rfl:=Option.some.inj H
 go_enter Try.func17,Try.ntmps17
 go_wp2_with (first|((with_reducible refine jH (N:=2) rfl ?_);refine jL ?hg (N:=2) ?hd (cs:=#[.slice A0_0 l0_0.length c0_0]) (t:=25) ?hr ?_;(case hd=>rfl);(case hg=>rfl);(case hr=>first|(go_simp;done)|(go_simp;rfl));intro gb141 hg w4 hbox hb;have n0_:=qA.mk (qN (by repeat (first|(with_reducible first|exact HB.out|apply qH|apply qB|apply qG)|exact HB.out)) hb);have n1_:=qA.mk (hbox);have n2_:=qA.mk ((by rw [hg];exact (qQ (by repeat (first|(with_reducible first|exact HB.out|apply qH|apply qB|apply qG)|exact HB.out))) : w.heap.size ≤ gb141));have n3_:=qA.mk ((by rw [hg];exact (qQ (by repeat (first|(with_reducible first|exact HB.out|apply qH|apply qB|apply qG)|exact HB.out))) : w.heap.size ≤ gb141));clear HB;have HB:=n0_;have BK141:=n1_;have GW141:=n2_;have GE141:=n3_;clear n0_ n1_ n2_ n3_;clear hb hbox hg;have hcz5_0 : w4.cell? ⟨gb141,0,none⟩ = some (.slice A0_0 l0_0.length c0_0):=(qK BK141.out 0).trans rfl;have hfz5_0:=qJ BK141.out 0)|((with_reducible refine q8 (f:=40) rfl ?_);refine jB (some 10) rfl rfl Try.func40 (by kernel_rfl) rfl #[.agg #[.slice A0_0 l0_0.length c0_0],.int .i64 a1] rfl (by (try simp only [List.map_toArray,List.map_cons,List.map_nil]);first|done|rfl|(simp only [List.length_drop,List.length_take];rfl)|(simp only [List.length_nil,Int.natCast_zero,Int.zero_add,Int.ofNat_zero];rfl)) ?_;(with_reducible refine (zS.calls k _ _ l0_0 a1 t142 t143 _ ?side1 ?side2 A3.out).mono ?_);(case side1=>repeat (first|exact (Kd.vD HR0_0.out HB.out)|(with_reducible refine Kd.jK ?_ _)|(with_reducible refine Kd.jJ ?_ _)|(with_reducible refine Kd.jV ?_)));(case side2=>exact HC0_0.out);rintro e w6 ⟨v144,rfl,ho0,hb⟩;refine ⟨_,rfl,?_⟩;have n0_:=qA.mk (Kd.vL ho0 (qQ (by repeat (first|(with_reducible first|exact HB.out|apply qH|apply qB|apply qG|refine qD ?_ GE141.out)|exact HB.out))));have n1_:=qA.mk (zD (g:=gb141) (o:=.cells #[.slice A0_0 l0_0.length c0_0] 25 (0,0)) (by (with_reducible repeat (first|refine qF ?_ _|refine qI ?_|refine qE ?_ _));exact BK141.out) hb);have n2_:=qA.mk (qN (by repeat (first|(with_reducible first|exact HB.out|apply qH|apply qB|apply qG|refine qD ?_ GE141.out)|exact HB.out)) hb);clear BK141;clear HB;have HO145:=n0_;have BK141:=n1_;have HB:=n2_;clear n0_ n1_ n2_;(try clear hb);(try clear hb2);(try clear hk);(try clear hi);(try clear ho0)))
 go_ret
 exact ⟨by first|rfl|(simp [zK,zJ]<;>rfl)|(simp [*,zK,zJ]<;>rfl),by repeat (first|(with_reducible first|exact HB.out|apply qH|apply qB|apply qG|refine qD ?_ GE141.out)|exact HB.out)⟩
def zP.l0 : Nat→List Int→List Int→Int→Int→Option (Bool)
 | 0,_,_,_,_=>none
 | k + 1,x0,x1,x12,x13=>if x13 < x12 then (if 0 ≤ x13 then (if x13 < (x0.length : Int) then (if x13 < (x1.length : Int) then (if (rd x0 x13) = (rd x1 x13) then (zP.l0 k x0 x1 x12 (wrap64 (x13 + 1))) else (some false)) else (none)) else (none)) else (none)) else (some true)
def zP.f (k : Nat) (l0 : List Int) (l1 : List Int) : Option (Bool):=if (l0.length : Int) = (l1.length : Int) then (zP.l0 k l0 l1 (l0.length : Int) 0) else (some false)
theorem zP.mono_l : ∀ k,(∀ y0 y1 y2 y3,LeO (zP.l0 k y0 y1 y2 y3) (zP.l0 (k + 1) y0 y1 y2 y3))
 | 0=>fun _ _ _ _ r h=>by simp [zP.l0] at h
 | k + 1=>by
  have ih0:=zP.mono_l k
  ·intro y0 y1 y2 y3
   unfold zP.l0
   repeat' first
   | (with_reducible exact ih0 _ _ _ _)
   | (with_reducible exact LeO.refl _)
   | (with_reducible exact LeO.none _)
   | (with_reducible refine LeO.ite ?_ ?_)
   | (with_reducible refine LeO.bind ?_ (fun _=>?_))
   | exact ih0 _ _ _ _
   | exact LeO.none _
   | refine LeO.ite ?_ ?_
   | refine LeO.bind ?_ (fun _=>?_)
theorem zP.mono : ∀ a0 a1 k,LeO (zP.f k a0 a1) (zP.f (k + 1) a0 a1):=by
 intro a0 a1 k
 have ih0:=zP.mono_l k
 unfold zP.f
 repeat' first
   | (with_reducible exact ih0 _ _ _ _)
   | (with_reducible exact LeO.refl _)
   | (with_reducible exact LeO.none _)
   | (with_reducible refine LeO.ite ?_ ?_)
   | (with_reducible refine LeO.bind ?_ (fun _=>?_))
   | exact ih0 _ _ _ _
   | exact LeO.none _
   | refine LeO.ite ?_ ?_
   | refine LeO.bind ?_ (fun _=>?_)
set_option maxHeartbeats 8000000 in
set_option maxRecDepth 100000 in
theorem zP.calls (k : Nat) (A0 : Option Addr) (c0 : Nat) (l0 : List Int) (A1 : Option Addr) (c1 : Nat) (l1 : List Int) (r : Bool) (w : World) (hr0 : Kd.C (Kd.int .i64) w A0 l0.length l0) (hc0 : l0.length ≤ c0) (hr1 : Kd.C (Kd.int .i64) w A1 l1.length l1) (hc1 : l1.length ≤ c1) (h : zP.f k l0 l1 = some r) :
  Calls Try.prog 19 #[.slice A0 l0.length c0,.slice A1 l1.length c1] w fun e w'=>e = .returned (.bool r)∧vF w w':=by
 have HR0:=qA.mk hr0
 have HC0:=qA.mk hc0
 clear hr0 hc0
 have HR1:=qA.mk hr1
 have HC1:=qA.mk hc1
 clear hr1 hc1
 have H : (if (l0.length : Int) = (l1.length : Int) then (zP.l0 k l0 l1 (l0.length : Int) 0) else (some false)) = some r:=h
 clear h
 by_cases c3 : (l0.length : Int) = (l1.length : Int)
 ·rw [if_pos c3] at H
  have c3b0 : ((l0.length : Int) == (l1.length : Int)) = true:=beq_iff_eq.mpr c3
  have c3b1 : ((l0.length : Int) != (l1.length : Int)) = false:=bne_eq_false_iff_eq.mpr c3
  have c3b2 : (l0.length == l1.length) = true:=by first|simpa using c3|(simp at c3 ⊢;omega)
  clear c3
  have H':=qA.mk H
  clear H
  go_enter Try.func19,Try.ntmps19
  go_wp2
  repeat (go_quiet (fail);try go_wp2)
  go_loopg [13] k (fun kq v13 w'=>∃ (x13_1 : Int),v13 = .int .i64 x13_1∧qA (zP.l0 kq l0 l1 (l0.length : Int) x13_1 = some r)∧qA (kq ≤ k)∧vF w w')
  case atStart=>exact ⟨(0),(by first|rfl|(simp;done)|(simp [*];done)),H',⟨Nat.le_refl _⟩,by repeat (first|exact vF.refl _|apply vF.step)⟩
  case round =>
   clear H'
   try clear c1
   try clear p2
   try clear c3
   try clear c3b0
   try clear c3b1
   try clear c3b2
   obtain ⟨x13_1,rfl,HA,HK1,⟨m1,rfl⟩⟩:=hrel
   cases gk with
   | zero=>exact absurd HA.out (by simp [zP.l0])
   | succ k1 =>
    have H:=HA.out
    clear HA
    simp only [zP.l0] at H
    by_cases c4 : x13_1 < (l0.length : Int)
    ·rw [if_pos c4] at H
     have c4b0 : decide (x13_1 < (l0.length : Int)) = true:=decide_eq_true c4
     clear c4
     by_cases c5 : 0 ≤ x13_1
     ·rw [if_pos c5] at H
      have c5b0 : decide (0 ≤ x13_1) = true:=decide_eq_true c5
      clear c5
      by_cases c6 : x13_1 < (l0.length : Int)
      ·rw [if_pos c6] at H
       have c6b0 : decide (x13_1 < (l0.length : Int)) = true:=decide_eq_true c6
       clear c6
       by_cases c7 : x13_1 < (l1.length : Int)
       ·rw [if_pos c7] at H
        have c7b0 : decide (x13_1 < (l1.length : Int)) = true:=decide_eq_true c7
        clear c7
        by_cases c8 : (rd l0 x13_1) = (rd l1 x13_1)
        ·rw [if_pos c8] at H
         have c8b0 : ((rd l0 x13_1) == (rd l1 x13_1)) = true:=beq_iff_eq.mpr c8
         have c8b1 : ((rd l0 x13_1) != (rd l1 x13_1)) = false:=bne_eq_false_iff_eq.mpr c8
         clear c8
         have H':=qA.mk H
         clear H
         have p146 : 0 ≤ (x13_1 : Int):=of_decide_eq_true (by first|(with_reducible assumption)|assumption)
         have q146 : x13_1 < (l0.length : Int):=of_decide_eq_true (by first|(with_reducible assumption)|assumption)
         obtain ⟨ad146,e146,hx146_0⟩:=Kd.uP HR0.out x13_1 p146 q146
         cases e146
         replace p146:=eq_true p146
         replace q146:=eq_true q146
         have p147 : 0 ≤ (x13_1 : Int):=of_decide_eq_true (by first|(with_reducible assumption)|assumption)
         have q147 : x13_1 < (l1.length : Int):=of_decide_eq_true (by first|(with_reducible assumption)|assumption)
         obtain ⟨ad147,e147,hx147_0⟩:=Kd.uP HR1.out x13_1 p147 q147
         cases e147
         replace p147:=eq_true p147
         replace q147:=eq_true q147
         go_wp2
         repeat (go_quiet (fail);try go_wp2)
         go_roundg k1
         case measure=>have:=HK1.out;omega
         case rel=>exact ⟨(wrap64 (x13_1 + 1)),(by first|rfl|(simp;done)|(simp [*];done)),H',⟨by have:=HK1.out;omega⟩,by repeat (first|exact vF.refl _|apply vF.step)⟩
        ·rw [if_neg c8] at H
         have c8b0 : ((rd l0 x13_1) == (rd l1 x13_1)) = false:=beq_eq_false_iff_ne.mpr c8
         have c8b1 : ((rd l0 x13_1) != (rd l1 x13_1)) = true:=bne_iff_ne.mpr c8
         obtain rfl:=Option.some.inj H
         have p146 : 0 ≤ (x13_1 : Int):=of_decide_eq_true (by first|(with_reducible assumption)|assumption)
         have q146 : x13_1 < (l0.length : Int):=of_decide_eq_true (by first|(with_reducible assumption)|assumption)
         obtain ⟨ad146,e146,hx146_0⟩:=Kd.uP HR0.out x13_1 p146 q146
         cases e146
         replace p146:=eq_true p146
         replace q146:=eq_true q146
         have p147 : 0 ≤ (x13_1 : Int):=of_decide_eq_true (by first|(with_reducible assumption)|assumption)
         have q147 : x13_1 < (l1.length : Int):=of_decide_eq_true (by first|(with_reducible assumption)|assumption)
         obtain ⟨ad147,e147,hx147_0⟩:=Kd.uP HR1.out x13_1 p147 q147
         cases e147
         replace p147:=eq_true p147
         replace q147:=eq_true q147
         go_wp2
         repeat (go_quiet (fail);try go_wp2)
         go_ret
         exact ⟨by first|rfl|(simp;done)|(simp [*];done),by repeat (first|exact vF.refl _|apply vF.step)⟩
       ·rw [if_neg c7] at H
        exact absurd H (by simp)
      ·rw [if_neg c6] at H
       exact absurd H (by simp)
     ·rw [if_neg c5] at H
      exact absurd H (by simp)
    ·rw [if_neg c4] at H
     have c4b0 : decide (x13_1 < (l0.length : Int)) = false:=decide_eq_false c4
     clear c4
     obtain rfl:=Option.some.inj H
     go_wp2
     repeat (go_quiet (fail);try go_wp2)
     go_ret
     exact ⟨by first|rfl|(simp;done)|(simp [*];done),by repeat (first|exact vF.refl _|apply vF.step)⟩
 ·rw [if_neg c3] at H
  have c3b0 : ((l0.length : Int) == (l1.length : Int)) = false:=beq_eq_false_iff_ne.mpr c3
  have c3b1 : ((l0.length : Int) != (l1.length : Int)) = true:=bne_iff_ne.mpr c3
  have c3b2 : (l0.length == l1.length) = false:=by first|simpa using c3|(simp at c3 ⊢;omega)
  obtain rfl:=Option.some.inj H
  go_enter Try.func19,Try.ntmps19
  go_wp2
  repeat (go_quiet (fail);try go_wp2)
  go_ret
  exact ⟨by first|rfl|(simp;done)|(simp [*];done),by repeat (first|exact vF.refl _|apply vF.step)⟩
def jU.f (k : Nat) (l0_0 : List (S51)) (a1 : Int) : Option (List Int):=(zS.f k l0_0 a1).bind fun bt149=>(some bt149.2)
theorem jU.mono : ∀ a0 a1 k,LeO (jU.f k a0 a1) (jU.f (k + 1) a0 a1):=by
 intro a0 a1 k
 unfold jU.f
 repeat' first
   | (with_reducible exact zS.mono _ _ _)
   | (with_reducible exact LeO.refl _)
   | (with_reducible exact LeO.none _)
   | (with_reducible refine LeO.ite ?_ ?_)
   | (with_reducible refine LeO.bind ?_ (fun _=>?_))
   | exact zS.mono _ _ _
   | exact LeO.none _
   | refine LeO.ite ?_ ?_
   | refine LeO.bind ?_ (fun _=>?_)
set_option maxHeartbeats 8000000 in
set_option maxRecDepth 100000 in
theorem jU.calls (k : Nat) (A0_0 : Option Addr) (c0_0 : Nat) (l0_0 : List (S51)) (a1 : Int) (r : List Int) (w : World) (hr0_0 : Kd.C k51 w A0_0 l0_0.length l0_0) (hc0_0 : l0_0.length ≤ c0_0) (h : jU.f k l0_0 a1 = some r) :
  Calls Try.prog 20 #[.agg #[.slice A0_0 l0_0.length c0_0],.int .i64 a1] w fun e w'=>∃ v0_ : Value,e = .returned (v0_)∧Kd.R (Kd.int .i64) 3 w' w.heap.size (fun _=>True) v0_ r∧Below w.heap.size w w':=by
 have hu25:=Try.underlying25
 have HR0_0:=qA.mk hr0_0
 have HC0_0:=qA.mk hc0_0
 clear hr0_0 hc0_0
 have HB:=qA.mk (Below.refl w.heap.size w)
 have H : ((zS.f k l0_0 a1).bind fun bt149=>(some bt149.2)) = some r:=h
 clear h
 replace H:=Option.bind_eq_some_iff.mp H
 obtain ⟨⟨t149,t150⟩,A30,H⟩:=H
 replace H : (some t150) = some r:=H
 have A3:=qA.mk A30
 clear A30
 obtain rfl:=Option.some.inj H
 go_enter Try.func20,Try.ntmps20
 go_wp2_with (first|((with_reducible refine jH (N:=2) rfl ?_);refine jL ?hg (N:=2) ?hd (cs:=#[.slice A0_0 l0_0.length c0_0]) (t:=25) ?hr ?_;(case hd=>rfl);(case hg=>rfl);(case hr=>first|(go_simp;done)|(go_simp;rfl));intro gb148 hg w4 hbox hb;have n0_:=qA.mk (qN (by repeat (first|(with_reducible first|exact HB.out|apply qH|apply qB|apply qG)|exact HB.out)) hb);have n1_:=qA.mk (hbox);have n2_:=qA.mk ((by rw [hg];exact (qQ (by repeat (first|(with_reducible first|exact HB.out|apply qH|apply qB|apply qG)|exact HB.out))) : w.heap.size ≤ gb148));have n3_:=qA.mk ((by rw [hg];exact (qQ (by repeat (first|(with_reducible first|exact HB.out|apply qH|apply qB|apply qG)|exact HB.out))) : w.heap.size ≤ gb148));clear HB;have HB:=n0_;have BK148:=n1_;have GW148:=n2_;have GE148:=n3_;clear n0_ n1_ n2_ n3_;clear hb hbox hg;have hcz5_0 : w4.cell? ⟨gb148,0,none⟩ = some (.slice A0_0 l0_0.length c0_0):=(qK BK148.out 0).trans rfl;have hfz5_0:=qJ BK148.out 0)|((with_reducible refine q8 (f:=40) rfl ?_);refine jB (some 10) rfl rfl Try.func40 (by kernel_rfl) rfl #[.agg #[.slice A0_0 l0_0.length c0_0],.int .i64 a1] rfl (by (try simp only [List.map_toArray,List.map_cons,List.map_nil]);first|done|rfl|(simp only [List.length_drop,List.length_take];rfl)|(simp only [List.length_nil,Int.natCast_zero,Int.zero_add,Int.ofNat_zero];rfl)) ?_;(with_reducible refine (zS.calls k _ _ l0_0 a1 t149 t150 _ ?side1 ?side2 A3.out).mono ?_);(case side1=>repeat (first|exact (Kd.vD HR0_0.out HB.out)|(with_reducible refine Kd.jK ?_ _)|(with_reducible refine Kd.jJ ?_ _)|(with_reducible refine Kd.jV ?_)));(case side2=>exact HC0_0.out);rintro e w6 ⟨v151,rfl,ho0,hb⟩;refine ⟨_,rfl,?_⟩;have n0_:=qA.mk (Kd.vL ho0 (qQ (by repeat (first|(with_reducible first|exact HB.out|apply qH|apply qB|apply qG|refine qD ?_ GE148.out)|exact HB.out))));have n1_:=qA.mk (zD (g:=gb148) (o:=.cells #[.slice A0_0 l0_0.length c0_0] 25 (0,0)) (by (with_reducible repeat (first|refine qF ?_ _|refine qI ?_|refine qE ?_ _));exact BK148.out) hb);have n2_:=qA.mk (qN (by repeat (first|(with_reducible first|exact HB.out|apply qH|apply qB|apply qG|refine qD ?_ GE148.out)|exact HB.out)) hb);clear BK148;clear HB;have HO152:=n0_;have BK148:=n1_;have HB:=n2_;clear n0_ n1_ n2_;(try clear hb);(try clear hb2);(try clear hk);(try clear hi);(try clear ho0)))
 go_ret
 exact ⟨_,by first|rfl|(simp [zK,zJ]<;>rfl)|(simp [*,zK,zJ]<;>rfl),by (with_reducible repeat (first|apply Kd.qX|apply Kd.qW|apply Kd.zC));exact HO152.out,by repeat (first|(with_reducible first|exact HB.out|apply qH|apply qB|apply qG|refine qD ?_ GE148.out)|exact HB.out)⟩
def jP.l0 : Nat→Int→List Int→Int→Int→List (S51)→Option (Int × Int)
 | 0,_,_,_,_,_=>none
 | k + 1,x1,x17,x18,x19,x154000=>if x19 < x18 then (if 0 ≤ x19 then (if x19 < (x17.length : Int) then ((vZ.f x1 (rd x17 x19)).bind fun t158=>(if t158 = true then ((j3.f k x154000 (rd x17 x19) x1).bind fun t159=>(if t159 = true then (some (0,12)) else (if 0 ≤ (rd x17 x19) then (jP.l0 k (Go.bits .andNot .i64 x1 (shl .i64 1 (rd x17 x19))) x17 x18 (wrap64 (x19 + 1)) x154000) else (none)))) else (some (0,12)))) else (none)) else (none)) else (if x1 = 0 then (some (x1,0)) else ((zR.f k x154000 x1).bind fun t156=>(if t156 = true then (some (x1,0)) else (some (0,12)))))
def jP.f (k : Nat) (l0_0 : List (S51)) (a1 : Int) (l2 : List Int) : Option (Int × Int):=(j5.f a1).bind fun t154=>(if t154 = true then ((q9.f k l0_0).bind fun t155=>(jP.l0 k (Go.bits .and .i64 a1 t155) l2 (l2.length : Int) 0 l0_0)) else (some (0,1)))
theorem jP.mono_l : ∀ k,(∀ y0 y1 y2 y3 y4,LeO (jP.l0 k y0 y1 y2 y3 y4) (jP.l0 (k + 1) y0 y1 y2 y3 y4))
 | 0=>fun _ _ _ _ _ r h=>by simp [jP.l0] at h
 | k + 1=>by
  have ih0:=jP.mono_l k
  ·intro y0 y1 y2 y3 y4
   unfold jP.l0
   repeat' first
   | (with_reducible exact ih0 _ _ _ _ _)
   | (with_reducible exact zR.mono _ _ _)
   | (with_reducible exact j3.mono _ _ _ _)
   | (with_reducible exact q9.mono _ _)
   | (with_reducible exact LeO.refl _)
   | (with_reducible exact LeO.none _)
   | (with_reducible refine LeO.ite ?_ ?_)
   | (with_reducible refine LeO.bind ?_ (fun _=>?_))
   | exact ih0 _ _ _ _ _
   | exact zR.mono _ _ _
   | exact j3.mono _ _ _ _
   | exact q9.mono _ _
   | exact LeO.none _
   | refine LeO.ite ?_ ?_
   | refine LeO.bind ?_ (fun _=>?_)
theorem jP.mono : ∀ a0 a1 a2 k,LeO (jP.f k a0 a1 a2) (jP.f (k + 1) a0 a1 a2):=by
 intro a0 a1 a2 k
 have ih0:=jP.mono_l k
 unfold jP.f
 repeat' first
   | (with_reducible exact ih0 _ _ _ _ _)
   | (with_reducible exact zR.mono _ _ _)
   | (with_reducible exact j3.mono _ _ _ _)
   | (with_reducible exact q9.mono _ _)
   | (with_reducible exact LeO.refl _)
   | (with_reducible exact LeO.none _)
   | (with_reducible refine LeO.ite ?_ ?_)
   | (with_reducible refine LeO.bind ?_ (fun _=>?_))
   | exact ih0 _ _ _ _ _
   | exact zR.mono _ _ _
   | exact j3.mono _ _ _ _
   | exact q9.mono _ _
   | exact LeO.none _
   | refine LeO.ite ?_ ?_
   | refine LeO.bind ?_ (fun _=>?_)
set_option maxHeartbeats 8000000 in
set_option maxRecDepth 100000 in
theorem jP.calls (k : Nat) (A0_0 : Option Addr) (c0_0 : Nat) (l0_0 : List (S51)) (a1 : Int) (A2 : Option Addr) (c2 : Nat) (l2 : List Int) (r1 : Int) (r2 : Int) (w : World) (hr0_0 : Kd.C k51 w A0_0 l0_0.length l0_0) (hc0_0 : l0_0.length ≤ c0_0) (hr2 : Kd.C (Kd.int .i64) w A2 l2.length l2) (hc2 : l2.length ≤ c2) (h : jP.f k l0_0 a1 l2 = some (r1,r2)) :
  Calls Try.prog 22 #[.agg #[.slice A0_0 l0_0.length c0_0],.int .i64 a1,.slice A2 l2.length c2] w fun e w'=>e = .returned (.tuple #[.int .i64 r1,.int .i64 r2])∧Below w.heap.size w w':=by
 have hu25:=Try.underlying25
 have HR0_0:=qA.mk hr0_0
 have HC0_0:=qA.mk hc0_0
 clear hr0_0 hc0_0
 have HR2:=qA.mk hr2
 have HC2:=qA.mk hc2
 clear hr2 hc2
 have HB:=qA.mk (Below.refl w.heap.size w)
 have H : ((j5.f a1).bind fun t154=>(if t154 = true then ((q9.f k l0_0).bind fun t155=>(jP.l0 k (Go.bits .and .i64 a1 t155) l2 (l2.length : Int) 0 l0_0)) else (some (0,1)))) = some (r1,r2):=h
 clear h
 replace H:=Option.bind_eq_some_iff.mp H
 obtain ⟨t154,A40,H⟩:=H
 replace H : (if t154 = true then ((q9.f k l0_0).bind fun t155=>(jP.l0 k (Go.bits .and .i64 a1 t155) l2 (l2.length : Int) 0 l0_0)) else (some (0,1))) = some (r1,r2):=H
 have A4:=qA.mk A40
 clear A40
 by_cases c5 : t154 = true
 ·subst c5
  have H1 : ((q9.f k l0_0).bind fun t155=>(jP.l0 k (Go.bits .and .i64 a1 t155) l2 (l2.length : Int) 0 l0_0)) = some (r1,r2):=by rw [if_pos rfl] at H;exact H
  clear H
  have H:=H1
  clear H1
  replace H:=Option.bind_eq_some_iff.mp H
  obtain ⟨t155,A60,H⟩:=H
  replace H : (jP.l0 k (Go.bits .and .i64 a1 t155) l2 (l2.length : Int) 0 l0_0) = some (r1,r2):=H
  have A6:=qA.mk A60
  clear A60
  have H':=qA.mk H
  clear H
  go_enter Try.func22,Try.ntmps22
  go_wp2_with (first|((with_reducible refine jH (N:=3) rfl ?_);refine jL ?hg (N:=3) ?hd (cs:=#[.slice A0_0 l0_0.length c0_0]) (t:=25) ?hr ?_;(case hd=>rfl);(case hg=>rfl);(case hr=>first|(go_simp;done)|(go_simp;rfl));intro gb153 hg w7 hbox hb;have n0_:=qA.mk (qN (by repeat (first|(with_reducible first|exact HB.out|apply qH|apply qB|apply qG)|exact HB.out)) hb);have n1_:=qA.mk (hbox);have n2_:=qA.mk ((by rw [hg];exact (qQ (by repeat (first|(with_reducible first|exact HB.out|apply qH|apply qB|apply qG)|exact HB.out))) : w.heap.size ≤ gb153));have n3_:=qA.mk ((by rw [hg];exact (qQ (by repeat (first|(with_reducible first|exact HB.out|apply qH|apply qB|apply qG)|exact HB.out))) : w.heap.size ≤ gb153));clear HB;have HB:=n0_;have BK153:=n1_;have GW153:=n2_;have GE153:=n3_;clear n0_ n1_ n2_ n3_;clear hb hbox hg)|((with_reducible refine q8 (f:=37) rfl ?_);refine jB (some 11) rfl rfl Try.func37 (by kernel_rfl) rfl #[.int .i64 a1] rfl (by (try simp only [List.map_toArray,List.map_cons,List.map_nil]);first|done|rfl|(simp only [List.length_drop,List.length_take];rfl)|(simp only [List.length_nil,Int.natCast_zero,Int.zero_add,Int.ofNat_zero];rfl)) ?_;(with_reducible refine (j5.calls a1 true _ A4.out).mono ?_);rintro e w' ⟨rfl,⟨nd,rfl⟩⟩;refine ⟨_,rfl,?_⟩;have hcz8_0 : w7.cell? ⟨gb153,0,none⟩ = some (.slice A0_0 l0_0.length c0_0):=(qK BK153.out 0).trans rfl;have hfz8_0:=qJ BK153.out 0)|((with_reducible refine q8 (f:=41) rfl ?_);refine jB (some 15) rfl rfl Try.func41 (by kernel_rfl) rfl #[.agg #[.slice A0_0 l0_0.length c0_0]] rfl (by (try simp only [List.map_toArray,List.map_cons,List.map_nil]);first|done|rfl|(simp only [List.length_drop,List.length_take];rfl)|(simp only [List.length_nil,Int.natCast_zero,Int.zero_add,Int.ofNat_zero];rfl)) ?_;(with_reducible refine (q9.calls k _ _ l0_0 t155 _ ?side1 ?side2 A6.out).mono ?_);(case side1=>repeat (first|exact (Kd.vD HR0_0.out (by repeat (first|(with_reducible first|exact HB.out|apply qH|apply qB|apply qG|refine qD ?_ GE153.out)|exact HB.out)))|(with_reducible refine Kd.jK ?_ _)|(with_reducible refine Kd.jJ ?_ _)|(with_reducible refine Kd.jV ?_)));(case side2=>exact HC0_0.out);rintro e w9 ⟨rfl,hb⟩;refine ⟨_,rfl,?_⟩;have n0_:=qA.mk (zD (g:=gb153) (o:=.cells #[.slice A0_0 l0_0.length c0_0] 25 (0,0)) (by (with_reducible repeat (first|refine qF ?_ _|refine qI ?_|refine qE ?_ _));exact BK153.out) hb);have n1_:=qA.mk (qN (by repeat (first|(with_reducible first|exact HB.out|apply qH|apply qB|apply qG|refine qD ?_ GE153.out)|exact HB.out)) hb);clear BK153;clear HB;have BK153:=n0_;have HB:=n1_;clear n0_ n1_;(try clear hb);(try clear hb2);(try clear hk);(try clear hi)))
  go_loopg [1,19] k (fun kq v1 v19 w'=>∃ (x1_1 : Int) (x19_1 : Int),v1 = .int .i64 x1_1∧v19 = .int .i64 x19_1∧qA (jP.l0 kq x1_1 l2 (l2.length : Int) x19_1 l0_0 = some (r1,r2))∧qA (kq ≤ k)∧qA (w'.heap[gb153]? = some (.cells #[(.slice A0_0 l0_0.length c0_0)] 25 (0,0)))∧qA (Below w.heap.size w w'))
  case atStart=>exact ⟨(Go.bits .and .i64 a1 t155),(0),(by first|rfl|(simp;done)|(simp [*];done)),(by first|rfl|(simp;done)|(simp [*];done)),H',⟨Nat.le_refl _⟩,⟨by (with_reducible repeat (first|refine qF ?_ _|refine qI ?_|refine qE ?_ _));exact BK153.out⟩,⟨by repeat (first|(with_reducible first|exact HB.out|apply qH|apply qB|apply qG|refine qD ?_ GE153.out)|exact HB.out)⟩⟩
  case round =>
   clear H'
   try clear c2
   try clear p2
   try clear c3
   try clear c4
   try clear c5
   try clear hcz8_0
   try clear hfz8_0
   obtain ⟨x1_1,x19_1,rfl,rfl,HA,HK1,BK153,HB⟩:=hrel
   cases gk with
   | zero=>exact absurd HA.out (by simp [jP.l0])
   | succ k1 =>
    have H:=HA.out
    clear HA
    simp only [jP.l0] at H
    by_cases c10 : x19_1 < (l2.length : Int)
    ·rw [if_pos c10] at H
     have c10b0 : decide (x19_1 < (l2.length : Int)) = true:=decide_eq_true c10
     clear c10
     by_cases c11 : 0 ≤ x19_1
     ·rw [if_pos c11] at H
      have c11b0 : decide (0 ≤ x19_1) = true:=decide_eq_true c11
      clear c11
      by_cases c12 : x19_1 < (l2.length : Int)
      ·rw [if_pos c12] at H
       have c12b0 : decide (x19_1 < (l2.length : Int)) = true:=decide_eq_true c12
       clear c12
       replace H:=Option.bind_eq_some_iff.mp H
       obtain ⟨t158,A130,H⟩:=H
       replace H : (if t158 = true then ((j3.f k1 l0_0 (rd l2 x19_1) x1_1).bind fun t159=>(if t159 = true then (some (0,12)) else (if 0 ≤ (rd l2 x19_1) then (jP.l0 k1 (Go.bits .andNot .i64 x1_1 (shl .i64 1 (rd l2 x19_1))) l2 (l2.length : Int) (wrap64 (x19_1 + 1)) l0_0) else (none)))) else (some (0,12))) = some (r1,r2):=H
       have A13:=qA.mk A130
       clear A130
       by_cases c14 : t158 = true
       ·subst c14
        have H1 : ((j3.f k1 l0_0 (rd l2 x19_1) x1_1).bind fun t159=>(if t159 = true then (some (0,12)) else (if 0 ≤ (rd l2 x19_1) then (jP.l0 k1 (Go.bits .andNot .i64 x1_1 (shl .i64 1 (rd l2 x19_1))) l2 (l2.length : Int) (wrap64 (x19_1 + 1)) l0_0) else (none)))) = some (r1,r2):=by rw [if_pos rfl] at H;exact H
        clear H
        have H:=H1
        clear H1
        replace H:=Option.bind_eq_some_iff.mp H
        obtain ⟨t159,A150,H⟩:=H
        replace H : (if t159 = true then (some (0,12)) else (if 0 ≤ (rd l2 x19_1) then (jP.l0 k1 (Go.bits .andNot .i64 x1_1 (shl .i64 1 (rd l2 x19_1))) l2 (l2.length : Int) (wrap64 (x19_1 + 1)) l0_0) else (none))) = some (r1,r2):=H
        have A15:=qA.mk A150
        clear A150
        by_cases c16 : t159 = true
        ·subst c16
         have H1 : (some (0,12)) = some (r1,r2):=by rw [if_pos rfl] at H;exact H
         clear H
         have H:=H1
         clear H1
         simp only [Option.some.injEq,Prod.mk.injEq] at H
         obtain ⟨rfl,rfl⟩:=H
         have p157 : 0 ≤ (x19_1 : Int):=of_decide_eq_true (by first|(with_reducible assumption)|assumption)
         have q157 : x19_1 < (l2.length : Int):=of_decide_eq_true (by first|(with_reducible assumption)|assumption)
         obtain ⟨ad157,e157,hx157_0⟩:=Kd.uP HR2.out x19_1 p157 q157
         cases e157
         replace hx157_0:=(HB.out.cell (World.block_lt_of_cell? w _ hx157_0)).trans hx157_0
         replace p157:=eq_true p157
         replace q157:=eq_true q157
         go_wp2_with (first|((with_reducible refine q8 (f:=42) rfl ?_);refine jB (some 25) rfl rfl Try.func42 (by kernel_rfl) rfl #[.int .i64 x1_1,.int .i64 (rd l2 x19_1)] rfl (by (try simp only [List.map_toArray,List.map_cons,List.map_nil]);first|done|rfl|(simp only [List.length_drop,List.length_take];rfl)|(simp only [List.length_nil,Int.natCast_zero,Int.zero_add,Int.ofNat_zero];rfl)) ?_;(with_reducible refine (vZ.calls x1_1 (rd l2 x19_1) true _ A13.out).mono ?_);rintro e w' ⟨rfl,⟨nd,rfl⟩⟩;refine ⟨_,rfl,?_⟩;have hcz17_0 : wr.cell? ⟨gb153,0,none⟩ = some (.slice A0_0 l0_0.length c0_0):=(qK BK153.out 0).trans rfl;have hfz17_0:=qJ BK153.out 0)|(go_at_call 43;(with_reducible refine (j3.calls k1 _ _ l0_0 (rd l2 x19_1) x1_1 true _ ?side1 ?side2 A15.out).mono ?_);(case side1=>repeat (first|exact (Kd.vD HR0_0.out (by repeat (first|(with_reducible first|exact HB.out|apply qH|apply qB|apply qG|refine qD ?_ GE153.out)|exact HB.out)))|(with_reducible refine Kd.jK ?_ _)|(with_reducible refine Kd.jJ ?_ _)|(with_reducible refine Kd.jV ?_)));(case side2=>exact HC0_0.out);rintro e w18 ⟨rfl,hb⟩;have n0_:=qA.mk (zD (g:=gb153) (o:=.cells #[.slice A0_0 l0_0.length c0_0] 25 (0,0)) (by (with_reducible repeat (first|refine qF ?_ _|refine qI ?_|refine qE ?_ _));exact BK153.out) hb);have n1_:=qA.mk (qN (by repeat (first|(with_reducible first|exact HB.out|apply qH|apply qB|apply qG|refine qD ?_ GE153.out)|exact HB.out)) hb);clear BK153;clear HB;have BK153:=n0_;have HB:=n1_;clear n0_ n1_;(try clear hb);(try clear hb2);(try clear hk);(try clear hi)))
         go_ret2
         exact ⟨by first|rfl|(simp [zK,zJ]<;>rfl)|(simp [*,zK,zJ]<;>rfl),by repeat (first|(with_reducible first|exact HB.out|apply qH|apply qB|apply qG|refine qD ?_ GE153.out)|exact HB.out)⟩
        ·replace c16:=Bool.eq_false_iff.mpr c16
         subst c16
         have H1 : (if 0 ≤ (rd l2 x19_1) then (jP.l0 k1 (Go.bits .andNot .i64 x1_1 (shl .i64 1 (rd l2 x19_1))) l2 (l2.length : Int) (wrap64 (x19_1 + 1)) l0_0) else (none)) = some (r1,r2):=by rw [if_neg (show ¬ (false = true) by decide)] at H;exact H
         clear H
         have H:=H1
         clear H1
         by_cases c19 : 0 ≤ (rd l2 x19_1)
         ·rw [if_pos c19] at H
          have c19b0:=eq_true c19
          have c19b1 : decide (0 ≤ (rd l2 x19_1)) = true:=decide_eq_true c19
          clear c19
          obtain ⟨ji20,hji20⟩ : ∃ j_ : Int,(shl .i64 1 (rd l2 x19_1)) = j_:=⟨_,rfl⟩
          replace H : (jP.l0 k1 (Go.bits .andNot .i64 x1_1 (ji20)) l2 (l2.length : Int) (wrap64 (x19_1 + 1)) l0_0) = some (r1,r2):=by first|(rw [hji20] at H;exact H)|(simp only [hji20] at H ⊢;exact H)
          (try rw [hji20] at A13)
          (try rw [hji20] at A15)
          have hji20_ : (IntKind.i64.wrap (1 * 2 ^ min (rd l2 x19_1).toNat 64)) = ji20:=hji20
          have hji20z : (rd l2 x19_1) ≤ 64→(IntKind.i64.wrap (1 * 2 ^ (rd l2 x19_1).toNat)) = ji20:=shl_small hji20
          have hji20u : (IntKind.i64.wrap (2 ^ min (rd l2 x19_1).toNat 64)) = ji20:=by have h_:=hji20_;rw [Int.one_mul] at h_;exact h_
          have hji20v : (rd l2 x19_1) ≤ 64→(IntKind.i64.wrap (2 ^ (rd l2 x19_1).toNat)) = ji20:=fun hle_=>by have h_:=hji20z hle_;rw [Int.one_mul] at h_;exact h_
          have hji20y : (wrap64 (1 * 2 ^ min (rd l2 x19_1).toNat 64)) = ji20:=(zT _).symm.trans hji20_
          have hji20x : (rd l2 x19_1) ≤ 64→(wrap64 (1 * 2 ^ (rd l2 x19_1).toNat)) = ji20:=fun h_=>(zT _).symm.trans (hji20z h_)
          have H':=qA.mk H
          clear H
          have p157 : 0 ≤ (x19_1 : Int):=of_decide_eq_true (by first|(with_reducible assumption)|assumption)
          have q157 : x19_1 < (l2.length : Int):=of_decide_eq_true (by first|(with_reducible assumption)|assumption)
          obtain ⟨ad157,e157,hx157_0⟩:=Kd.uP HR2.out x19_1 p157 q157
          cases e157
          replace hx157_0:=(HB.out.cell (World.block_lt_of_cell? w _ hx157_0)).trans hx157_0
          replace p157:=eq_true p157
          replace q157:=eq_true q157
          go_wp2_with (first|((with_reducible refine q8 (f:=42) rfl ?_);refine jB (some 25) rfl rfl Try.func42 (by kernel_rfl) rfl #[.int .i64 x1_1,.int .i64 (rd l2 x19_1)] rfl (by (try simp only [List.map_toArray,List.map_cons,List.map_nil]);first|done|rfl|(simp only [List.length_drop,List.length_take];rfl)|(simp only [List.length_nil,Int.natCast_zero,Int.zero_add,Int.ofNat_zero];rfl)) ?_;(with_reducible refine (vZ.calls x1_1 (rd l2 x19_1) true _ A13.out).mono ?_);rintro e w' ⟨rfl,⟨nd,rfl⟩⟩;refine ⟨_,rfl,?_⟩;have hcz21_0 : wr.cell? ⟨gb153,0,none⟩ = some (.slice A0_0 l0_0.length c0_0):=(qK BK153.out 0).trans rfl;have hfz21_0:=qJ BK153.out 0)|(go_at_call 43;(with_reducible refine (j3.calls k1 _ _ l0_0 (rd l2 x19_1) x1_1 false _ ?side1 ?side2 A15.out).mono ?_);(case side1=>repeat (first|exact (Kd.vD HR0_0.out (by repeat (first|(with_reducible first|exact HB.out|apply qH|apply qB|apply qG|refine qD ?_ GE153.out)|exact HB.out)))|(with_reducible refine Kd.jK ?_ _)|(with_reducible refine Kd.jJ ?_ _)|(with_reducible refine Kd.jV ?_)));(case side2=>exact HC0_0.out);rintro e w22 ⟨rfl,hb⟩;have n0_:=qA.mk (zD (g:=gb153) (o:=.cells #[.slice A0_0 l0_0.length c0_0] 25 (0,0)) (by (with_reducible repeat (first|refine qF ?_ _|refine qI ?_|refine qE ?_ _));exact BK153.out) hb);have n1_:=qA.mk (qN (by repeat (first|(with_reducible first|exact HB.out|apply qH|apply qB|apply qG|refine qD ?_ GE153.out)|exact HB.out)) hb);clear BK153;clear HB;have BK153:=n0_;have HB:=n1_;clear n0_ n1_;(try clear hb);(try clear hb2);(try clear hk);(try clear hi)))
          go_roundg k1
          case measure=>have:=HK1.out;omega
          case rel=>exact ⟨(Go.bits .andNot .i64 x1_1 (ji20)),(wrap64 (x19_1 + 1)),(by first|rfl|(simp;done)|(simp only [← hji20]<;>(first|rfl|simp))|(simp [*];done)),(by first|rfl|(simp;done)|(simp [*];done)),H',⟨by have:=HK1.out;omega⟩,⟨by (with_reducible repeat (first|refine qF ?_ _|refine qI ?_|refine qE ?_ _));exact BK153.out⟩,⟨by repeat (first|(with_reducible first|exact HB.out|apply qH|apply qB|apply qG|refine qD ?_ GE153.out)|exact HB.out)⟩⟩
         ·rw [if_neg c19] at H
          exact absurd H (by simp)
       ·replace c14:=Bool.eq_false_iff.mpr c14
        subst c14
        have H1 : (some (0,12)) = some (r1,r2):=by rw [if_neg (show ¬ (false = true) by decide)] at H;exact H
        clear H
        have H:=H1
        clear H1
        simp only [Option.some.injEq,Prod.mk.injEq] at H
        obtain ⟨rfl,rfl⟩:=H
        have p157 : 0 ≤ (x19_1 : Int):=of_decide_eq_true (by first|(with_reducible assumption)|assumption)
        have q157 : x19_1 < (l2.length : Int):=of_decide_eq_true (by first|(with_reducible assumption)|assumption)
        obtain ⟨ad157,e157,hx157_0⟩:=Kd.uP HR2.out x19_1 p157 q157
        cases e157
        replace hx157_0:=(HB.out.cell (World.block_lt_of_cell? w _ hx157_0)).trans hx157_0
        replace p157:=eq_true p157
        replace q157:=eq_true q157
        go_wp2_with (first|((with_reducible refine q8 (f:=42) rfl ?_);refine jB (some 25) rfl rfl Try.func42 (by kernel_rfl) rfl #[.int .i64 x1_1,.int .i64 (rd l2 x19_1)] rfl (by (try simp only [List.map_toArray,List.map_cons,List.map_nil]);first|done|rfl|(simp only [List.length_drop,List.length_take];rfl)|(simp only [List.length_nil,Int.natCast_zero,Int.zero_add,Int.ofNat_zero];rfl)) ?_;(with_reducible refine (vZ.calls x1_1 (rd l2 x19_1) false _ A13.out).mono ?_);rintro e w' ⟨rfl,⟨nd,rfl⟩⟩;refine ⟨_,rfl,?_⟩))
        go_ret2
        exact ⟨by first|rfl|(simp [zK,zJ]<;>rfl)|(simp [*,zK,zJ]<;>rfl),by repeat (first|(with_reducible first|exact HB.out|apply qH|apply qB|apply qG|refine qD ?_ GE153.out)|exact HB.out)⟩
      ·rw [if_neg c12] at H
       exact absurd H (by simp)
     ·rw [if_neg c11] at H
      exact absurd H (by simp)
    ·rw [if_neg c10] at H
     have c10b0 : decide (x19_1 < (l2.length : Int)) = false:=decide_eq_false c10
     clear c10
     by_cases c23 : x1_1 = 0
     ·rw [if_pos c23] at H
      have c23b0 : (x1_1 == 0) = true:=beq_iff_eq.mpr c23
      have c23b1 : (x1_1 != 0) = false:=bne_eq_false_iff_eq.mpr c23
      clear c23
      simp only [Option.some.injEq,Prod.mk.injEq] at H
      obtain ⟨rfl,rfl⟩:=H
      go_wp2
      go_ret2
      exact ⟨by first|rfl|(simp [zK,zJ]<;>rfl)|(simp [*,zK,zJ]<;>rfl),by repeat (first|(with_reducible first|exact HB.out|apply qH|apply qB|apply qG|refine qD ?_ GE153.out)|exact HB.out)⟩
     ·rw [if_neg c23] at H
      have c23b0 : (x1_1 == 0) = false:=beq_eq_false_iff_ne.mpr c23
      have c23b1 : (x1_1 != 0) = true:=bne_iff_ne.mpr c23
      replace H:=Option.bind_eq_some_iff.mp H
      obtain ⟨t156,A240,H⟩:=H
      replace H : (if t156 = true then (some (x1_1,0)) else (some (0,12))) = some (r1,r2):=H
      have A24:=qA.mk A240
      clear A240
      by_cases c25 : t156 = true
      ·subst c25
       have H1 : (some (x1_1,0)) = some (r1,r2):=by rw [if_pos rfl] at H;exact H
       clear H
       have H:=H1
       clear H1
       simp only [Option.some.injEq,Prod.mk.injEq] at H
       obtain ⟨rfl,rfl⟩:=H
       have hcz26_0 : wr.cell? ⟨gb153,0,none⟩ = some (.slice A0_0 l0_0.length c0_0):=(qK BK153.out 0).trans rfl
       have hfz26_0:=qJ BK153.out 0
       go_wp2_with (first|(go_at_call 15;(with_reducible refine (zR.calls k1 _ _ l0_0 x1_1 true _ ?side1 ?side2 A24.out).mono ?_);(case side1=>repeat (first|exact (Kd.vD HR0_0.out HB.out)|(with_reducible refine Kd.jK ?_ _)|(with_reducible refine Kd.jJ ?_ _)|(with_reducible refine Kd.jV ?_)));(case side2=>exact HC0_0.out);rintro e w27 ⟨rfl,hb⟩;have n0_:=qA.mk (zD (g:=gb153) (o:=.cells #[.slice A0_0 l0_0.length c0_0] 25 (0,0)) (by (with_reducible repeat (first|refine qF ?_ _|refine qI ?_|refine qE ?_ _));exact BK153.out) hb);have n1_:=qA.mk (qN (by repeat (first|(with_reducible first|exact HB.out|apply qH|apply qB|apply qG|refine qD ?_ GE153.out)|exact HB.out)) hb);clear BK153;clear HB;have BK153:=n0_;have HB:=n1_;clear n0_ n1_;(try clear hb);(try clear hb2);(try clear hk);(try clear hi)))
       go_ret2
       exact ⟨by first|rfl|(simp [zK,zJ]<;>rfl)|(simp [*,zK,zJ]<;>rfl),by repeat (first|(with_reducible first|exact HB.out|apply qH|apply qB|apply qG|refine qD ?_ GE153.out)|exact HB.out)⟩
      ·replace c25:=Bool.eq_false_iff.mpr c25
       subst c25
       have H1 : (some (0,12)) = some (r1,r2):=by rw [if_neg (show ¬ (false = true) by decide)] at H;exact H
       clear H
       have H:=H1
       clear H1
       simp only [Option.some.injEq,Prod.mk.injEq] at H
       obtain ⟨rfl,rfl⟩:=H
       have hcz28_0 : wr.cell? ⟨gb153,0,none⟩ = some (.slice A0_0 l0_0.length c0_0):=(qK BK153.out 0).trans rfl
       have hfz28_0:=qJ BK153.out 0
       go_wp2_with (first|(go_at_call 15;(with_reducible refine (zR.calls k1 _ _ l0_0 x1_1 false _ ?side1 ?side2 A24.out).mono ?_);(case side1=>repeat (first|exact (Kd.vD HR0_0.out HB.out)|(with_reducible refine Kd.jK ?_ _)|(with_reducible refine Kd.jJ ?_ _)|(with_reducible refine Kd.jV ?_)));(case side2=>exact HC0_0.out);rintro e w29 ⟨rfl,hb⟩;have n0_:=qA.mk (zD (g:=gb153) (o:=.cells #[.slice A0_0 l0_0.length c0_0] 25 (0,0)) (by (with_reducible repeat (first|refine qF ?_ _|refine qI ?_|refine qE ?_ _));exact BK153.out) hb);have n1_:=qA.mk (qN (by repeat (first|(with_reducible first|exact HB.out|apply qH|apply qB|apply qG|refine qD ?_ GE153.out)|exact HB.out)) hb);clear BK153;clear HB;have BK153:=n0_;have HB:=n1_;clear n0_ n1_;(try clear hb);(try clear hb2);(try clear hk);(try clear hi)))
       go_ret2
       exact ⟨by first|rfl|(simp [zK,zJ]<;>rfl)|(simp [*,zK,zJ]<;>rfl),by repeat (first|(with_reducible first|exact HB.out|apply qH|apply qB|apply qG|refine qD ?_ GE153.out)|exact HB.out)⟩
 ·replace c5:=Bool.eq_false_iff.mpr c5
  subst c5
  have H1 : (some (0,1)) = some (r1,r2):=by rw [if_neg (show ¬ (false = true) by decide)] at H;exact H
  clear H
  have H:=H1
  clear H1
  simp only [Option.some.injEq,Prod.mk.injEq] at H
  obtain ⟨rfl,rfl⟩:=H
  go_enter Try.func22,Try.ntmps22
  go_wp2_with (first|((with_reducible refine jH (N:=3) rfl ?_);refine jL ?hg (N:=3) ?hd (cs:=#[.slice A0_0 l0_0.length c0_0]) (t:=25) ?hr ?_;(case hd=>rfl);(case hg=>rfl);(case hr=>first|(go_simp;done)|(go_simp;rfl));intro gb153 hg w30 hbox hb;have n0_:=qA.mk (qN (by repeat (first|(with_reducible first|exact HB.out|apply qH|apply qB|apply qG)|exact HB.out)) hb);have n1_:=qA.mk (hbox);have n2_:=qA.mk ((by rw [hg];exact (qQ (by repeat (first|(with_reducible first|exact HB.out|apply qH|apply qB|apply qG)|exact HB.out))) : w.heap.size ≤ gb153));have n3_:=qA.mk ((by rw [hg];exact (qQ (by repeat (first|(with_reducible first|exact HB.out|apply qH|apply qB|apply qG)|exact HB.out))) : w.heap.size ≤ gb153));clear HB;have HB:=n0_;have BK153:=n1_;have GW153:=n2_;have GE153:=n3_;clear n0_ n1_ n2_ n3_;clear hb hbox hg)|((with_reducible refine q8 (f:=37) rfl ?_);refine jB (some 11) rfl rfl Try.func37 (by kernel_rfl) rfl #[.int .i64 a1] rfl (by (try simp only [List.map_toArray,List.map_cons,List.map_nil]);first|done|rfl|(simp only [List.length_drop,List.length_take];rfl)|(simp only [List.length_nil,Int.natCast_zero,Int.zero_add,Int.ofNat_zero];rfl)) ?_;(with_reducible refine (j5.calls a1 false _ A4.out).mono ?_);rintro e w' ⟨rfl,⟨nd,rfl⟩⟩;refine ⟨_,rfl,?_⟩))
  go_ret2
  exact ⟨by first|rfl|(simp [zK,zJ]<;>rfl)|(simp [*,zK,zJ]<;>rfl),by repeat (first|(with_reducible first|exact HB.out|apply qH|apply qB|apply qG|refine qD ?_ GE153.out)|exact HB.out)⟩
end Go.Proofs.Ytoofabolcbbjnaa.P
