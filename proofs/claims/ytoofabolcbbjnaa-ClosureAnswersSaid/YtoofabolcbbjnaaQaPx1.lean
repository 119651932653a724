/- Functions of the program as Lean functions, and the walks that show that the calls answer so; written by a program of this session (a changed print) and by hand. -/
import Derived.Test.YtoofabolcbbjnaaQaPx0
namespace Go.Proofs.Ytoofabolcbbjnaa.P
open Go.RowKit Go.Proofs.YtoofabolcbbjnaaW.PrintWords Go.Proofs.YtoofabolcbbjnaaW.PrintLast Go.Proofs.YtoofabolcbbjnaaW.PrintMore
attribute [local go_sem] kR kP Qa Qc kE kD kQ kN
set_option linter.unusedVariables false
set_option linter.unusedSimpArgs false
def kZ.f (a0 : Int) (a1 : Int) : Option (Bool):=if a0 ≥ 0 then (if 0 ≤ a1 then (some (decide (a0 < (shl .i64 1 a1)))) else (none)) else (some false)
set_option maxHeartbeats 8000000 in
set_option maxRecDepth 100000 in
theorem kZ.calls (a0 : Int) (a1 : Int) (r : Bool) (w : World) (h : kZ.f a0 a1 = some r) :
  Calls Try.prog 47 #[.int .i64 a0,.int .i64 a1] w fun e w'=>e = .returned (.bool r)∧kY w w':=by
 unfold kZ.f at h
 have H:=h
 clear h
 by_cases c3 : a0 ≥ 0
 ·rw [if_pos c3] at H
  have c3b0:=decide_eq_true c3
  clear c3
  by_cases c4 : 0 ≤ a1
  ·rw [if_pos c4] at H
   have c4b0:=eq_true c4
   have c4b1:=decide_eq_true c4
   clear c4
   obtain ⟨ji5,hji5⟩ : ∃ j_ : Int,(shl .i64 1 a1) = j_:=⟨_,rfl⟩
   (first|rw [hji5] at H|(simp only [hji5] at H))
   obtain ⟨hji5_,hji5z,hji5u,hji5v,hji5y,hji5x⟩:=jiA hji5
   obtain rfl:=Option.some.inj H
   go_enter Try.func47,Try.ntmps47
   go_wp2
   go_ret
   exact ⟨by first|rfl|(simp;done)|(simp only [← hji5]<;>(first|rfl|simp))|(simp [*];done),byaa⟩
  ·rw [if_neg c4] at H
   exact absurd H (by simp)
 ·rw [if_neg c3] at H
  have c3b0:=decide_eq_false c3
  clear c3
  obtain rfl:=Option.some.inj H
  go_enter Try.func47,Try.ntmps47
  go_wp2
  go_ret
  exact ⟨byab,byaa⟩
def vC.f (a0 : Int) : Option (Bool):=(kZ.f a0 10).bind fun t101=>(some t101)
set_option maxHeartbeats 8000000 in
set_option maxRecDepth 100000 in
theorem vC.calls (a0 : Int) (r : Bool) (w : World) (h : vC.f a0 = some r) :
  Calls Try.prog 37 #[.int .i64 a0] w fun e w'=>e = .returned (.bool r)∧kY w w':=by
 unfold vC.f at h
 have H:=h
 clear h
 replace H:=Option.bind_eq_some_iff.mp H
 obtain ⟨t101,A20,H⟩:=H
 try dsimp only at H
 have A2:=qA.mk A20
 clear A20
 obtain rfl:=Option.some.inj H
 go_enter Try.func37,Try.ntmps37
 go_wp2_with (first|((with_reducible refine qF (f:=47) rfl ?_);refine zC (some 4) rfl rfl Try.func47 (by kernel_rfl) rfl #[.int .i64 a0,.int .i64 10] rfl byac ?_;(with_reducible refine (kZ.calls a0 10 t101 _ A2.out).mono ?_);rintro e w' ⟨rfl,⟨nd,rfl⟩⟩;refine ⟨_,rfl,?_⟩))
 go_ret
 exact ⟨byab,byaa⟩
def qO.l0 : Nat→Int→List (S51)→Int→Int→Option (Int)
 | 0,_,_,_,_=>none
 | k + 1,x3,x7,x8,x9=>if x9 < x8 then (if 0 ≤ x9 then (if x9 < (x7.length : Int) then (if (zF x7 x9).f0 = true then (if x9 < 10 then (qO.l0 k (Go.bits .or .i64 x3 (shl .i64 1 x9)) x7 x8 (wrap64 (x9 + 1))) else (qO.l0 k x3 x7 x8 (wrap64 (x9 + 1)))) else (qO.l0 k x3 x7 x8 (wrap64 (x9 + 1)))) else (none)) else (none)) else (some x3)
def qO.f (k : Nat) (l0_0 : List (S51)) : Option (Int):=qO.l0 k 0 l0_0 (l0_0.length : Int) 0
theorem qO.mono_l : ∀ k,(∀ y0 y1 y2 y3,LeO (qO.l0 k y0 y1 y2 y3) (qO.l0 (k + 1) y0 y1 y2 y3))
 | 0=>fun _ _ _ _ r h=>by simp [qO.l0] at h
 | k + 1=>by
  have ih0:=qO.mono_l k
  ·intro y0 y1 y2 y3
   unfold qO.l0
   repeat' first
   | (with_reducible exact ih0 _ _ _ _)
   | (with_reducible exact LeO.refl _)
   | (with_reducible exact LeO.none _)
   | (with_reducible refine LeO.ite ?_ ?_)
   | (with_reducible refine LeO.bind ?_ (fun _=>?_))
   | exact ih0 _ _ _ _
   | exact LeO.none _
   | refine LeO.ite ?_ ?_
   | refine LeO.bind ?_ (fun _=>?_)
theorem qO.mono : ∀ a0 k,LeO (qO.f k a0) (qO.f (k + 1) a0):=by
 intro a0 k
 have ih0:=qO.mono_l k
 unfold qO.f
 repeat' first
   | (with_reducible exact ih0 _ _ _ _)
   | (with_reducible exact LeO.refl _)
   | (with_reducible exact LeO.none _)
   | (with_reducible refine LeO.ite ?_ ?_)
   | (with_reducible refine LeO.bind ?_ (fun _=>?_))
   | exact ih0 _ _ _ _
   | exact LeO.none _
   | refine LeO.ite ?_ ?_
   | refine LeO.bind ?_ (fun _=>?_)
set_option maxHeartbeats 8000000 in
set_option maxRecDepth 100000 in
theorem qO.calls (k : Nat) (A0_0 : Option Addr) (c0_0 : Nat) (l0_0 : List (S51)) (r : Int) (w : World) (hr0_0 : Kd.C k51 w A0_0 l0_0.length l0_0) (hc0_0 : l0_0.length ≤ c0_0) (h : qO.f k l0_0 = some r) :
  Calls Try.prog 41 #[.agg #[.slice A0_0 l0_0.length c0_0]] w fun e w'=>e = .returned (.int .i64 r)∧Below w.heap.size w w':=by
 have hu25:=Try.underlying25
 have hu51:=Try.underlying51
 have HR0_0:=qA.mk hr0_0
 have HC0_0:=qA.mk hc0_0
 clear hr0_0 hc0_0
 have HB:=qA.mk (Below.refl w.heap.size w)
 unfold qO.f at h
 have H:=h
 clear h
 have H':=qA.mk H
 clear H
 go_enter Try.func41,Try.ntmps41
 go_wp2_with (first|((with_reducible refine qX (N:=1) rfl ?_);refine zD ?hg (N:=1) ?hd (cs:=#[.slice A0_0 l0_0.length c0_0]) (t:=25) ?hr ?_;(case hd=>rfl);(case hg=>rfl);(case hr=>exact byad);intro gb102 hg w2 hbox hb;have n_:=q_4 (qE byae hb) (hbox) ((byck : w.heap.size ≤ gb102)) ((byck : w.heap.size ≤ gb102));clear HB;obtain ⟨HB,BK102,GW102,GE102⟩:=n_;clear hb hbox hg;obtain ⟨hcz3_0,hfz3_0⟩:=cz1 BK102.out))
 go_loopg [3,9] k (fun kq v3 v9 w'=>∃ (x3_1 : Int) (x9_1 : Int),v3 = .int .i64 x3_1∧v9 = .int .i64 x9_1∧qA (qO.l0 kq x3_1 l0_0 (l0_0.length : Int) x9_1 = some r)∧qA (kq ≤ k)∧qA (w'.heap[gb102]? = some (.cells #[(.slice A0_0 l0_0.length c0_0)] 25 (0,0)))∧qA (Below w.heap.size w w'))
 case atStart=>exact ⟨(0),(0),byab,byab,H',⟨Nat.le_refl _⟩,⟨byaf BK102.out⟩,⟨byag GE102.out⟩⟩
 case round =>
  clear H'
  obtain ⟨x3_1,x9_1,rfl,rfl,HA,HK1,BK102,HB⟩:=hrel
  cases gk with
  | zero=>exact absurd HA.out (by simp [qO.l0])
  | succ k1 =>
   have H:=HA.out
   clear HA
   simp only [qO.l0] at H
   by_cases c4 : x9_1 < (l0_0.length : Int)
   ·rw [if_pos c4] at H
    have c4b0:=decide_eq_true c4
    clear c4
    by_cases c5 : 0 ≤ x9_1
    ·rw [if_pos c5] at H
     have c5b0:=decide_eq_true c5
     clear c5
     by_cases c6 : x9_1 < (l0_0.length : Int)
     ·rw [if_pos c6] at H
      have c6b0:=decide_eq_true c6
      clear c6
      obtain ⟨bq7,hbq7⟩ : ∃ b_ : Bool,b_ = ((zF l0_0 x9_1).f0):=⟨_,rfl⟩
      replace H : (if bq7 = true then (if x9_1 < 10 then (qO.l0 k1 (Go.bits .or .i64 x3_1 (shl .i64 1 x9_1)) l0_0 (l0_0.length : Int) (wrap64 (x9_1 + 1))) else (qO.l0 k1 x3_1 l0_0 (l0_0.length : Int) (wrap64 (x9_1 + 1)))) else (qO.l0 k1 x3_1 l0_0 (l0_0.length : Int) (wrap64 (x9_1 + 1)))) = some r:=by rw [← hbq7] at H;exact H
      have Nbq7:=qA.mk hbq7
      clear hbq7
      by_cases c8 : bq7 = true
      ·subst c8
       rw [if_pos rfl] at H
       by_cases c9 : x9_1 < 10
       ·rw [if_pos c9] at H
        have c9b0:=decide_eq_true c9
        clear c9
        have c10b0:=eq_true (of_decide_eq_true byah : 0 ≤ x9_1)
        obtain ⟨ji11,hji11⟩ : ∃ j_ : Int,(shl .i64 1 x9_1) = j_:=⟨_,rfl⟩
        (first|rw [hji11] at H|(simp only [hji11] at H))
        obtain ⟨hji11_,hji11z,hji11u,hji11v,hji11y,hji11x⟩:=jiA hji11
        have H':=qA.mk H
        clear H
        have p103 : 0 ≤ (x9_1 : Int):=of_decide_eq_true byah
        have q103 : x9_1 < (l0_0.length : Int):=of_decide_eq_true byah
        obtain ⟨ad103,A103_2,c103_2,A103_3,c103_3,e103,hx103_0,hx103_1,hx103_2,hx103_3,hl103_2,hi103_2,hl103_3,hi103_3⟩:=Qm HR0_0.out x9_1 p103 q103
        (try rw [← Nbq7.out] at hx103_0)
        cases e103
        replace hx103_0:=(HB.out.cell (World.block_lt_of_cell? w _ hx103_0)).trans hx103_0
        replace hx103_1:=(HB.out.cell (World.block_lt_of_cell? w _ hx103_1)).trans hx103_1
        replace hx103_2:=(HB.out.cell (World.block_lt_of_cell? w _ hx103_2)).trans hx103_2
        replace hx103_3:=(HB.out.cell (World.block_lt_of_cell? w _ hx103_3)).trans hx103_3
        have HR103_2:=qA.mk hi103_2
        have HC103_2:=qA.mk hl103_2
        clear hi103_2 hl103_2
        have HR103_3:=qA.mk hi103_3
        have HC103_3:=qA.mk hl103_3
        clear hi103_3 hl103_3
        replace p103:=eq_true p103
        replace q103:=eq_true q103
        go_wp2_with (first|((with_reducible refine qX (N:=5) rfl ?_);refine zD ?hg (N:=5) ?hd (cs:=#[.bool false,.int .i64 0,.slice none 0 0,.slice none 0 0]) (t:=51) ?hr ?_;(case hd=>rfl);(case hg=>rfl);(case hr=>exact byad);intro gb104 hg w12 hbox hb;have n_:=q_6 (qI BK102.out hb) (qE (byag GE102.out) hb) (hbox) ((bycl GE102.out : w.heap.size ≤ gb104)) ((bycl GE102.out : w.heap.size ≤ gb104)) ((by rw [hg];exact Nat.ne_of_lt (vH BK102.out) : gb102≠gb104));clear BK102 HB;obtain ⟨BK102,HB,BK104,GW104,GE104,NB102_104⟩:=n_;have NB104_102:=ns NB102_104;clear hb hbox hg;have hnb13:=NB104_102.out;have hnc13:=NB102_104.out;obtain ⟨hcz14_0,hcz14_1,hcz14_2,hcz14_3,hfz14_0,hfz14_1,hfz14_2,hfz14_3⟩:=cz4 BK104.out))
        go_roundg k1
        case measure=>have:=HK1.out;omega
        case rel=>exact ⟨(Go.bits .or .i64 x3_1 (ji11)),(wrap64 (x9_1 + 1)),byai,byab,H',⟨byaj⟩,⟨byak NB102_104.out BK102.out⟩,⟨byal GE102.out GE104.out⟩⟩
       ·rw [if_neg c9] at H
        have c9b0:=decide_eq_false c9
        clear c9
        have H':=qA.mk H
        clear H
        have p103 : 0 ≤ (x9_1 : Int):=of_decide_eq_true byah
        have q103 : x9_1 < (l0_0.length : Int):=of_decide_eq_true byah
        obtain ⟨ad103,A103_2,c103_2,A103_3,c103_3,e103,hx103_0,hx103_1,hx103_2,hx103_3,hl103_2,hi103_2,hl103_3,hi103_3⟩:=Qm HR0_0.out x9_1 p103 q103
        (try rw [← Nbq7.out] at hx103_0)
        cases e103
        replace hx103_0:=(HB.out.cell (World.block_lt_of_cell? w _ hx103_0)).trans hx103_0
        replace hx103_1:=(HB.out.cell (World.block_lt_of_cell? w _ hx103_1)).trans hx103_1
        replace hx103_2:=(HB.out.cell (World.block_lt_of_cell? w _ hx103_2)).trans hx103_2
        replace hx103_3:=(HB.out.cell (World.block_lt_of_cell? w _ hx103_3)).trans hx103_3
        have HR103_2:=qA.mk hi103_2
        have HC103_2:=qA.mk hl103_2
        clear hi103_2 hl103_2
        have HR103_3:=qA.mk hi103_3
        have HC103_3:=qA.mk hl103_3
        clear hi103_3 hl103_3
        replace p103:=eq_true p103
        replace q103:=eq_true q103
        go_wp2_with (first|((with_reducible refine qX (N:=5) rfl ?_);refine zD ?hg (N:=5) ?hd (cs:=#[.bool false,.int .i64 0,.slice none 0 0,.slice none 0 0]) (t:=51) ?hr ?_;(case hd=>rfl);(case hg=>rfl);(case hr=>exact byad);intro gb104 hg w15 hbox hb;have n_:=q_6 (qI BK102.out hb) (qE (byag GE102.out) hb) (hbox) ((bycl GE102.out : w.heap.size ≤ gb104)) ((bycl GE102.out : w.heap.size ≤ gb104)) ((by rw [hg];exact Nat.ne_of_lt (vH BK102.out) : gb102≠gb104));clear BK102 HB;obtain ⟨BK102,HB,BK104,GW104,GE104,NB102_104⟩:=n_;have NB104_102:=ns NB102_104;clear hb hbox hg;have hnb16:=NB104_102.out;have hnc16:=NB102_104.out;obtain ⟨hcz17_0,hcz17_1,hcz17_2,hcz17_3,hfz17_0,hfz17_1,hfz17_2,hfz17_3⟩:=cz4 BK104.out))
        go_roundg k1
        case measure=>have:=HK1.out;omega
        case rel=>exact ⟨(x3_1),(wrap64 (x9_1 + 1)),byab,byab,H',⟨byaj⟩,⟨byak NB102_104.out BK102.out⟩,⟨byal GE102.out GE104.out⟩⟩
      ·replace c8:=Bool.eq_false_iff.mpr c8
       subst c8
       rw [if_neg (show ¬ (false = true) by decide)] at H
       have H':=qA.mk H
       clear H
       have p103 : 0 ≤ (x9_1 : Int):=of_decide_eq_true byah
       have q103 : x9_1 < (l0_0.length : Int):=of_decide_eq_true byah
       obtain ⟨ad103,A103_2,c103_2,A103_3,c103_3,e103,hx103_0,hx103_1,hx103_2,hx103_3,hl103_2,hi103_2,hl103_3,hi103_3⟩:=Qm HR0_0.out x9_1 p103 q103
       (try rw [← Nbq7.out] at hx103_0)
       cases e103
       replace hx103_0:=(HB.out.cell (World.block_lt_of_cell? w _ hx103_0)).trans hx103_0
       replace hx103_1:=(HB.out.cell (World.block_lt_of_cell? w _ hx103_1)).trans hx103_1
       replace hx103_2:=(HB.out.cell (World.block_lt_of_cell? w _ hx103_2)).trans hx103_2
       replace hx103_3:=(HB.out.cell (World.block_lt_of_cell? w _ hx103_3)).trans hx103_3
       have HR103_2:=qA.mk hi103_2
       have HC103_2:=qA.mk hl103_2
       clear hi103_2 hl103_2
       have HR103_3:=qA.mk hi103_3
       have HC103_3:=qA.mk hl103_3
       clear hi103_3 hl103_3
       replace p103:=eq_true p103
       replace q103:=eq_true q103
       go_wp2_with (first|((with_reducible refine qX (N:=5) rfl ?_);refine zD ?hg (N:=5) ?hd (cs:=#[.bool false,.int .i64 0,.slice none 0 0,.slice none 0 0]) (t:=51) ?hr ?_;(case hd=>rfl);(case hg=>rfl);(case hr=>exact byad);intro gb104 hg w18 hbox hb;have n_:=q_6 (qI BK102.out hb) (qE (byag GE102.out) hb) (hbox) ((bycl GE102.out : w.heap.size ≤ gb104)) ((bycl GE102.out : w.heap.size ≤ gb104)) ((by rw [hg];exact Nat.ne_of_lt (vH BK102.out) : gb102≠gb104));clear BK102 HB;obtain ⟨BK102,HB,BK104,GW104,GE104,NB102_104⟩:=n_;have NB104_102:=ns NB102_104;clear hb hbox hg;have hnb19:=NB104_102.out;have hnc19:=NB102_104.out;obtain ⟨hcz20_0,hcz20_1,hcz20_2,hcz20_3,hfz20_0,hfz20_1,hfz20_2,hfz20_3⟩:=cz4 BK104.out))
       go_roundg k1
       case measure=>have:=HK1.out;omega
       case rel=>exact ⟨(x3_1),(wrap64 (x9_1 + 1)),byab,byab,H',⟨byaj⟩,⟨byak NB102_104.out BK102.out⟩,⟨byal GE102.out GE104.out⟩⟩
     ·rw [if_neg c6] at H
      exact absurd H (by simp)
    ·rw [if_neg c5] at H
     exact absurd H (by simp)
   ·rw [if_neg c4] at H
    have c4b0:=decide_eq_false c4
    clear c4
    obtain rfl:=Option.some.inj H
    go_wp2
    go_ret
    exact ⟨byam,byag GE102.out⟩
def uD.f (k : Nat) (l0_0 : List (S51)) (a1 : Int) : Option (Bool):=(qO.f k l0_0).bind fun t106=>(some ((Go.bits .andNot .i64 a1 t106) == 0))
theorem uD.mono : ∀ a0 a1 k,LeO (uD.f k a0 a1) (uD.f (k + 1) a0 a1):=by
 intro a0 a1 k
 unfold uD.f
 repeat' first
   | (with_reducible exact qO.mono _ _)
   | (with_reducible exact LeO.refl _)
   | (with_reducible exact LeO.none _)
   | (with_reducible refine LeO.ite ?_ ?_)
   | (with_reducible refine LeO.bind ?_ (fun _=>?_))
   | exact qO.mono _ _
   | exact LeO.none _
   | refine LeO.ite ?_ ?_
   | refine LeO.bind ?_ (fun _=>?_)
set_option maxHeartbeats 8000000 in
set_option maxRecDepth 100000 in
theorem uD.calls (k : Nat) (A0_0 : Option Addr) (c0_0 : Nat) (l0_0 : List (S51)) (a1 : Int) (r : Bool) (w : World) (hr0_0 : Kd.C k51 w A0_0 l0_0.length l0_0) (hc0_0 : l0_0.length ≤ c0_0) (h : uD.f k l0_0 a1 = some r) :
  Calls Try.prog 38 #[.agg #[.slice A0_0 l0_0.length c0_0],.int .i64 a1] w fun e w'=>e = .returned (.bool r)∧Below w.heap.size w w':=by
 have hu25:=Try.underlying25
 have HR0_0:=qA.mk hr0_0
 have HC0_0:=qA.mk hc0_0
 clear hr0_0 hc0_0
 have HB:=qA.mk (Below.refl w.heap.size w)
 unfold uD.f at h
 have H:=h
 clear h
 replace H:=Option.bind_eq_some_iff.mp H
 obtain ⟨t106,A30,H⟩:=H
 try dsimp only at H
 have A3:=qA.mk A30
 clear A30
 obtain rfl:=Option.some.inj H
 go_enter Try.func38,Try.ntmps38
 go_wp2_with (first|((with_reducible refine qX (N:=2) rfl ?_);refine zD ?hg (N:=2) ?hd (cs:=#[.slice A0_0 l0_0.length c0_0]) (t:=25) ?hr ?_;(case hd=>rfl);(case hg=>rfl);(case hr=>exact byad);intro gb105 hg w4 hbox hb;have n_:=q_4 (qE byae hb) (hbox) ((byck : w.heap.size ≤ gb105)) ((byck : w.heap.size ≤ gb105));clear HB;obtain ⟨HB,BK105,GW105,GE105⟩:=n_;clear hb hbox hg;obtain ⟨hcz5_0,hfz5_0⟩:=cz1 BK105.out)|((with_reducible refine qF (f:=41) rfl ?_);refine zC (some 7) rfl rfl Try.func41 (by kernel_rfl) rfl #[.agg #[.slice A0_0 l0_0.length c0_0]] rfl byac ?_;(with_reducible refine (qO.calls k _ _ l0_0 t106 _ ?side1 ?side2 A3.out).mono ?_);(case side1=>exact byan HR0_0.out);(case side2=>exact HC0_0.out);rintro e w6 ⟨rfl,hb⟩;refine ⟨_,rfl,?_⟩;have n_:=q_2 (qI BK105.out hb) (qE (byag GE105.out) hb);clear BK105 HB;obtain ⟨BK105,HB⟩:=n_;clear hb))
 go_ret
 exact ⟨byam,byag GE105.out⟩
def uS.f (a0 : Int) (a1 : Int) : Option (Bool):=(vC.f a0).bind fun t107=>(if t107 = true then (if a1 ≥ 0 then (if a1 < 10 then (if 0 ≤ a1 then (some ((Go.bits .and .i64 a0 (shl .i64 1 a1)) != 0)) else (none)) else (some false)) else (some false)) else (some false))
set_option maxHeartbeats 8000000 in
set_option maxRecDepth 100000 in
theorem uS.calls (a0 : Int) (a1 : Int) (r : Bool) (w : World) (h : uS.f a0 a1 = some r) :
  Calls Try.prog 42 #[.int .i64 a0,.int .i64 a1] w fun e w'=>e = .returned (.bool r)∧kY w w':=by
 unfold uS.f at h
 have H:=h
 clear h
 replace H:=Option.bind_eq_some_iff.mp H
 obtain ⟨t107,A30,H⟩:=H
 try dsimp only at H
 have A3:=qA.mk A30
 clear A30
 by_cases c4 : t107 = true
 ·subst c4
  rw [if_pos rfl] at H
  by_cases c5 : a1 ≥ 0
  ·rw [if_pos c5] at H
   have c5b0:=decide_eq_true c5
   clear c5
   by_cases c6 : a1 < 10
   ·rw [if_pos c6] at H
    have c6b0:=decide_eq_true c6
    clear c6
    by_cases c7 : 0 ≤ a1
    ·rw [if_pos c7] at H
     have c7b0:=eq_true c7
     have c7b1:=decide_eq_true c7
     clear c7
     obtain ⟨ji8,hji8⟩ : ∃ j_ : Int,(shl .i64 1 a1) = j_:=⟨_,rfl⟩
     (first|rw [hji8] at H|(simp only [hji8] at H))
     (try rw [hji8] at A3)
     obtain ⟨hji8_,hji8z,hji8u,hji8v,hji8y,hji8x⟩:=jiA hji8
     obtain rfl:=Option.some.inj H
     go_enter Try.func42,Try.ntmps42
     go_wp2_with (first|((with_reducible refine qF (f:=37) rfl ?_);refine zC (some 6) rfl rfl Try.func37 (by kernel_rfl) rfl #[.int .i64 a0] rfl byac ?_;(with_reducible refine (vC.calls a0 true _ A3.out).mono ?_);rintro e w' ⟨rfl,⟨nd,rfl⟩⟩;refine ⟨_,rfl,?_⟩))
     go_ret
     exact ⟨byao,byaa⟩
    ·rw [if_neg c7] at H
     exact absurd H (by simp)
   ·rw [if_neg c6] at H
    have c6b0:=decide_eq_false c6
    clear c6
    obtain rfl:=Option.some.inj H
    go_enter Try.func42,Try.ntmps42
    go_wp2_with (first|((with_reducible refine qF (f:=37) rfl ?_);refine zC (some 6) rfl rfl Try.func37 (by kernel_rfl) rfl #[.int .i64 a0] rfl byac ?_;(with_reducible refine (vC.calls a0 true _ A3.out).mono ?_);rintro e w' ⟨rfl,⟨nd,rfl⟩⟩;refine ⟨_,rfl,?_⟩))
    go_ret
    exact ⟨byab,byaa⟩
  ·rw [if_neg c5] at H
   have c5b0:=decide_eq_false c5
   clear c5
   obtain rfl:=Option.some.inj H
   go_enter Try.func42,Try.ntmps42
   go_wp2_with (first|((with_reducible refine qF (f:=37) rfl ?_);refine zC (some 6) rfl rfl Try.func37 (by kernel_rfl) rfl #[.int .i64 a0] rfl byac ?_;(with_reducible refine (vC.calls a0 true _ A3.out).mono ?_);rintro e w' ⟨rfl,⟨nd,rfl⟩⟩;refine ⟨_,rfl,?_⟩))
   go_ret
   exact ⟨byab,byaa⟩
 ·replace c4:=Bool.eq_false_iff.mpr c4
  subst c4
  rw [if_neg (show ¬ (false = true) by decide)] at H
  obtain rfl:=Option.some.inj H
  go_enter Try.func42,Try.ntmps42
  go_wp2_with (first|((with_reducible refine qF (f:=37) rfl ?_);refine zC (some 6) rfl rfl Try.func37 (by kernel_rfl) rfl #[.int .i64 a0] rfl byac ?_;(with_reducible refine (vC.calls a0 false _ A3.out).mono ?_);rintro e w' ⟨rfl,⟨nd,rfl⟩⟩;refine ⟨_,rfl,?_⟩))
  go_ret
  exact ⟨byab,byaa⟩
mutual
def qU.l0 : Nat→Int→Int→List Int→Int→Int→Int→List Int→List (S49)→Option (Bool)
 | 0,_,_,_,_,_,_,_,_=>none
 | k + 1,x1,x5,x14,x15,x16,x109000,x109001,x109002=>if x16 < x15 then (if 0 ≤ x16 then (if x16 < (x14.length : Int) then ((uS.f x1 (rd x14 x16)).bind fun t111=>(if t111 = true then (qU.l0 k x1 (wrap64 (x5 + 1)) x14 x15 (wrap64 (x16 + 1)) x109000 x109001 x109002) else (qU.l0 k x1 x5 x14 x15 (wrap64 (x16 + 1)) x109000 x109001 x109002))) else (none)) else (none)) else (qU.l1 k x1 x5 x109002 (x109002.length : Int) 0 x109000 x109001 x109002)
def qU.l1 : Nat→Int→Int→List (S49)→Int→Int→Int→List Int→List (S49)→Option (Bool)
 | 0,_,_,_,_,_,_,_,_=>none
 | k + 1,x1,x5,x27,x28,x29,x109000,x109001,x109002=>if x29 < x28 then (if 0 ≤ x29 then (if x29 < (x27.length : Int) then ((qU.f k ((zB x27 x29).f0) ((zB x27 x29).f1) ((zB x27 x29).f2) x1).bind fun t114=>(if t114 = true then (qU.l1 k x1 (wrap64 (x5 + 1)) x27 x28 (wrap64 (x29 + 1)) x109000 x109001 x109002) else (qU.l1 k x1 x5 x27 x28 (wrap64 (x29 + 1)) x109000 x109001 x109002))) else (none)) else (none)) else (some (decide (x5 ≥ x109000)))
def qU.f : Nat→Int→List Int→List (S49)→Int→Option (Bool)
 | 0,_,_,_,_=>none
 | k + 1,a0_0,l0_1,l0_2,a1=>(vC.f a1).bind fun t109=>(if t109 = true then (qU.l0 k a1 0 l0_1 (l0_1.length : Int) 0 a0_0 l0_1 l0_2) else (some false))
end
theorem qU.mono_l : ∀ k,(∀ y0 y1 y2 y3,LeO (qU.f k y0 y1 y2 y3) (qU.f (k + 1) y0 y1 y2 y3))∧(∀ y0 y1 y2 y3 y4 y5 y6 y7,LeO (qU.l0 k y0 y1 y2 y3 y4 y5 y6 y7) (qU.l0 (k + 1) y0 y1 y2 y3 y4 y5 y6 y7))∧(∀ y0 y1 y2 y3 y4 y5 y6 y7,LeO (qU.l1 k y0 y1 y2 y3 y4 y5 y6 y7) (qU.l1 (k + 1) y0 y1 y2 y3 y4 y5 y6 y7))
 | 0=>⟨fun _ _ _ _ r h=>by simp [qU.f] at h,fun _ _ _ _ _ _ _ _ r h=>by simp [qU.l0] at h,fun _ _ _ _ _ _ _ _ r h=>by simp [qU.l1] at h⟩
 | k + 1=>by
  obtain ⟨ih0,ih1,ih2⟩:=qU.mono_l k
  refine ⟨?_,?_,?_⟩
  ·intro y0 y1 y2 y3
   unfold qU.f
   repeat' first
   | (with_reducible exact ih0 _ _ _ _)
   | (with_reducible exact ih1 _ _ _ _ _ _ _ _)
   | (with_reducible exact ih2 _ _ _ _ _ _ _ _)
   | (with_reducible exact LeO.refl _)
   | (with_reducible exact LeO.none _)
   | (with_reducible refine LeO.ite ?_ ?_)
   | (with_reducible refine LeO.bind ?_ (fun _=>?_))
   | exact ih0 _ _ _ _
   | exact ih1 _ _ _ _ _ _ _ _
   | exact ih2 _ _ _ _ _ _ _ _
   | exact LeO.none _
   | refine LeO.ite ?_ ?_
   | refine LeO.bind ?_ (fun _=>?_)
  ·intro y0 y1 y2 y3 y4 y5 y6 y7
   unfold qU.l0
   repeat' first
   | (with_reducible exact ih0 _ _ _ _)
   | (with_reducible exact ih1 _ _ _ _ _ _ _ _)
   | (with_reducible exact ih2 _ _ _ _ _ _ _ _)
   | (with_reducible exact LeO.refl _)
   | (with_reducible exact LeO.none _)
   | (with_reducible refine LeO.ite ?_ ?_)
   | (with_reducible refine LeO.bind ?_ (fun _=>?_))
   | exact ih0 _ _ _ _
   | exact ih1 _ _ _ _ _ _ _ _
   | exact ih2 _ _ _ _ _ _ _ _
   | exact LeO.none _
   | refine LeO.ite ?_ ?_
   | refine LeO.bind ?_ (fun _=>?_)
  ·intro y0 y1 y2 y3 y4 y5 y6 y7
   unfold qU.l1
   repeat' first
   | (with_reducible exact ih0 _ _ _ _)
   | (with_reducible exact ih1 _ _ _ _ _ _ _ _)
   | (with_reducible exact ih2 _ _ _ _ _ _ _ _)
   | (with_reducible exact LeO.refl _)
   | (with_reducible exact LeO.none _)
   | (with_reducible refine LeO.ite ?_ ?_)
   | (with_reducible refine LeO.bind ?_ (fun _=>?_))
   | exact ih0 _ _ _ _
   | exact ih1 _ _ _ _ _ _ _ _
   | exact ih2 _ _ _ _ _ _ _ _
   | exact LeO.none _
   | refine LeO.ite ?_ ?_
   | refine LeO.bind ?_ (fun _=>?_)
theorem qU.mono : ∀ a0 a1 a2 a3 k,LeO (qU.f k a0 a1 a2 a3) (qU.f (k + 1) a0 a1 a2 a3):=by
 intro a0 a1 a2 a3 k
 obtain ⟨ih0,ih1,ih2⟩:=qU.mono_l k
 exact ih0 a0 a1 a2 a3
set_option maxHeartbeats 8000000 in
set_option maxRecDepth 100000 in
theorem qU.calls (k : Nat) : ∀ (a0_0 : Int) (A0_1 : Option Addr) (c0_1 : Nat) (l0_1 : List Int) (A0_2 : Option Addr) (c0_2 : Nat) (l0_2 : List (S49)) (a1 : Int) (r : Bool) (w : World) (hr0_1 : Kd.C (Kd.int .i64) w A0_1 l0_1.length l0_1) (hc0_1 : l0_1.length ≤ c0_1) (hr0_2 : Kd.C k49 w A0_2 l0_2.length l0_2) (hc0_2 : l0_2.length ≤ c0_2) (h : qU.f k a0_0 l0_1 l0_2 a1 = some r),
  Calls Try.prog 49 #[.agg #[.int .i64 a0_0,.slice A0_1 l0_1.length c0_1,.slice A0_2 l0_2.length c0_2],.int .i64 a1] w fun e w'=>e = .returned (.bool r)∧Below w.heap.size w w':=by
 induction k using Nat.strongRecOn with
 | _ k ih =>
 intro a0_0 A0_1 c0_1 l0_1 A0_2 c0_2 l0_2 a1 r w hr0_1 hc0_1 hr0_2 hc0_2 h
 cases k with
 | zero=>exact absurd h (by simp [qU.f])
 | succ k =>
 simp only [qU.f] at h
 have hu49:=Try.underlying49
 have HR0_1:=qA.mk hr0_1
 have HC0_1:=qA.mk hc0_1
 clear hr0_1 hc0_1
 have HR0_2:=qA.mk hr0_2
 have HC0_2:=qA.mk hc0_2
 clear hr0_2 hc0_2
 have HB:=qA.mk (Below.refl w.heap.size w)
 have H:=h
 clear h
 replace H:=Option.bind_eq_some_iff.mp H
 obtain ⟨t109,A30,H⟩:=H
 try dsimp only at H
 have A3:=qA.mk A30
 clear A30
 by_cases c4 : t109 = true
 ·subst c4
  rw [if_pos rfl] at H
  have H':=qA.mk H
  clear H
  go_enter Try.func49,Try.ntmps49
  go_wp2_with (first|((with_reducible refine qX (N:=2) rfl ?_);refine zD ?hg (N:=2) ?hd (cs:=#[.int .i64 a0_0,.slice A0_1 l0_1.length c0_1,.slice A0_2 l0_2.length c0_2]) (t:=49) ?hr ?_;(case hd=>rfl);(case hg=>rfl);(case hr=>exact byad);intro gb108 hg w5 hbox hb;have n_:=q_4 (qE byae hb) (hbox) ((byck : w.heap.size ≤ gb108)) ((byck : w.heap.size ≤ gb108));clear HB;obtain ⟨HB,BK108,GW108,GE108⟩:=n_;clear hb hbox hg)|((with_reducible refine qF (f:=37) rfl ?_);refine zC (some 11) rfl rfl Try.func37 (by kernel_rfl) rfl #[.int .i64 a1] rfl byac ?_;(with_reducible refine (vC.calls a1 true _ A3.out).mono ?_);rintro e w' ⟨rfl,⟨nd,rfl⟩⟩;refine ⟨_,rfl,?_⟩;obtain ⟨hcz6_0,hcz6_1,hcz6_2,hfz6_0,hfz6_1,hfz6_2⟩:=cz3 BK108.out))
  go_loopg [5,16] k (fun kq v5 v16 w'=>∃ (x5_1 : Int) (x16_1 : Int),v5 = .int .i64 x5_1∧v16 = .int .i64 x16_1∧qA (qU.l0 kq a1 x5_1 l0_1 (l0_1.length : Int) x16_1 a0_0 l0_1 l0_2 = some r)∧qA (kq ≤ k)∧qA (w'.heap[gb108]? = some (.cells #[.int .i64 a0_0,(.slice A0_1 l0_1.length c0_1),(.slice A0_2 l0_2.length c0_2)] 49 (0,0)))∧qA (Below w.heap.size w w'))
  case atStart=>exact ⟨(0),(0),byab,byab,H',⟨Nat.le_refl _⟩,⟨byaf BK108.out⟩,⟨byag GE108.out⟩⟩
  case round =>
   clear H'
   obtain ⟨x5_1,x16_1,rfl,rfl,HA,HK1,BK108,HB⟩:=hrel
   cases gk with
   | zero=>exact absurd HA.out (by simp [qU.l0])
   | succ k1 =>
    have H:=HA.out
    clear HA
    simp only [qU.l0] at H
    by_cases c7 : x16_1 < (l0_1.length : Int)
    ·rw [if_pos c7] at H
     have c7b0:=decide_eq_true c7
     clear c7
     by_cases c8 : 0 ≤ x16_1
     ·rw [if_pos c8] at H
      have c8b0:=decide_eq_true c8
      clear c8
      by_cases c9 : x16_1 < (l0_1.length : Int)
      ·rw [if_pos c9] at H
       have c9b0:=decide_eq_true c9
       clear c9
       replace H:=Option.bind_eq_some_iff.mp H
       obtain ⟨t111,A100,H⟩:=H
       try dsimp only at H
       have A10:=qA.mk A100
       clear A100
       by_cases c11 : t111 = true
       ·subst c11
        rw [if_pos rfl] at H
        have H':=qA.mk H
        clear H
        have p110 : 0 ≤ (x16_1 : Int):=of_decide_eq_true byah
        have q110 : x16_1 < (l0_1.length : Int):=of_decide_eq_true byah
        obtain ⟨ad110,e110,hx110_0⟩:=Kd.uV HR0_1.out x16_1 p110 q110
        cases e110
        replace hx110_0:=(HB.out.cell (World.block_lt_of_cell? w _ hx110_0)).trans hx110_0
        replace p110:=eq_true p110
        replace q110:=eq_true q110
        go_wp2_with (first|((with_reducible refine qF (f:=42) rfl ?_);refine zC (some 22) rfl rfl Try.func42 (by kernel_rfl) rfl #[.int .i64 a1,.int .i64 (rd l0_1 x16_1)] rfl byac ?_;(with_reducible refine (uS.calls a1 (rd l0_1 x16_1) true _ A10.out).mono ?_);rintro e w' ⟨rfl,⟨nd,rfl⟩⟩;refine ⟨_,rfl,?_⟩))
        go_roundg k1
        case measure=>have:=HK1.out;omega
        case rel=>exact ⟨(wrap64 (x5_1 + 1)),(wrap64 (x16_1 + 1)),byab,byab,H',⟨byaj⟩,⟨byaf BK108.out⟩,⟨byag GE108.out⟩⟩
       ·replace c11:=Bool.eq_false_iff.mpr c11
        subst c11
        rw [if_neg (show ¬ (false = true) by decide)] at H
        have H':=qA.mk H
        clear H
        have p110 : 0 ≤ (x16_1 : Int):=of_decide_eq_true byah
        have q110 : x16_1 < (l0_1.length : Int):=of_decide_eq_true byah
        obtain ⟨ad110,e110,hx110_0⟩:=Kd.uV HR0_1.out x16_1 p110 q110
        cases e110
        replace hx110_0:=(HB.out.cell (World.block_lt_of_cell? w _ hx110_0)).trans hx110_0
        replace p110:=eq_true p110
        replace q110:=eq_true q110
        go_wp2_with (first|((with_reducible refine qF (f:=42) rfl ?_);refine zC (some 22) rfl rfl Try.func42 (by kernel_rfl) rfl #[.int .i64 a1,.int .i64 (rd l0_1 x16_1)] rfl byac ?_;(with_reducible refine (uS.calls a1 (rd l0_1 x16_1) false _ A10.out).mono ?_);rintro e w' ⟨rfl,⟨nd,rfl⟩⟩;refine ⟨_,rfl,?_⟩))
        go_roundg k1
        case measure=>have:=HK1.out;omega
        case rel=>exact ⟨(x5_1),(wrap64 (x16_1 + 1)),byab,byab,H',⟨byaj⟩,⟨byaf BK108.out⟩,⟨byag GE108.out⟩⟩
      ·rw [if_neg c9] at H
       exact absurd H (by simp)
     ·rw [if_neg c8] at H
      exact absurd H (by simp)
    ·rw [if_neg c7] at H
     have c7b0:=decide_eq_false c7
     clear c7
     have H':=qA.mk H
     clear H
     obtain ⟨hcz12_0,hcz12_1,hcz12_2,hfz12_0,hfz12_1,hfz12_2⟩:=cz3 BK108.out
     go_wp2
     go_loopg [5,29] k1 (fun kq v5 v29 w'=>∃ (x5_2 : Int) (x29_2 : Int),v5 = .int .i64 x5_2∧v29 = .int .i64 x29_2∧qA (qU.l1 kq a1 x5_2 l0_2 (l0_2.length : Int) x29_2 a0_0 l0_1 l0_2 = some r)∧qA (kq ≤ k1)∧qA (w'.heap[gb108]? = some (.cells #[.int .i64 a0_0,(.slice A0_1 l0_1.length c0_1),(.slice A0_2 l0_2.length c0_2)] 49 (0,0)))∧qA (Below w.heap.size w w'))
     case atStart=>exact ⟨(x5_1),(0),byab,byab,H',⟨Nat.le_refl _⟩,⟨byaf BK108.out⟩,⟨byag GE108.out⟩⟩
     case round =>
      clear H'
      try clear hx1
      try clear hx11
      try clear hx110_0
      obtain ⟨x5_2,x29_2,rfl,rfl,HA,HK2,BK108,HB⟩:=hrel
      cases gk with
      | zero=>exact absurd HA.out (by simp [qU.l1])
      | succ k2 =>
       have H:=HA.out
       clear HA
       simp only [qU.l1] at H
       by_cases c13 : x29_2 < (l0_2.length : Int)
       ·rw [if_pos c13] at H
        have c13b0:=decide_eq_true c13
        clear c13
        by_cases c14 : 0 ≤ x29_2
        ·rw [if_pos c14] at H
         have c14b0:=decide_eq_true c14
         clear c14
         by_cases c15 : x29_2 < (l0_2.length : Int)
         ·rw [if_pos c15] at H
          have c15b0:=decide_eq_true c15
          clear c15
          replace H:=Option.bind_eq_some_iff.mp H
          obtain ⟨t114,A160,H⟩:=H
          try dsimp only at H
          have A16:=qA.mk A160
          clear A160
          by_cases c17 : t114 = true
          ·subst c17
           rw [if_pos rfl] at H
           have H':=qA.mk H
           clear H
           have p112 : 0 ≤ (x29_2 : Int):=of_decide_eq_true byah
           have q112 : x29_2 < (l0_2.length : Int):=of_decide_eq_true byah
           obtain ⟨ad112,A112_1,c112_1,A112_2,c112_2,e112,hx112_0,hx112_1,hx112_2,hl112_1,hi112_1,hl112_2,hi112_2⟩:=at_T49 HR0_2.out x29_2 p112 q112
           cases e112
           replace hx112_0:=(HB.out.cell (World.block_lt_of_cell? w _ hx112_0)).trans hx112_0
           replace hx112_1:=(HB.out.cell (World.block_lt_of_cell? w _ hx112_1)).trans hx112_1
           replace hx112_2:=(HB.out.cell (World.block_lt_of_cell? w _ hx112_2)).trans hx112_2
           have HR112_1:=qA.mk hi112_1
           have HC112_1:=qA.mk hl112_1
           clear hi112_1 hl112_1
           have HR112_2:=qA.mk hi112_2
           have HC112_2:=qA.mk hl112_2
           clear hi112_2 hl112_2
           replace p112:=eq_true p112
           replace q112:=eq_true q112
           go_wp2_with (first|((with_reducible refine qX (N:=9) rfl ?_);refine zD ?hg (N:=9) ?hd (cs:=#[.int .i64 0,.slice none 0 0,.slice none 0 0]) (t:=49) ?hr ?_;(case hd=>rfl);(case hg=>rfl);(case hr=>exact byad);intro gb113 hg w18 hbox hb;have n_:=q_6 (qI BK108.out hb) (qE (byag GE108.out) hb) (hbox) ((bycl GE108.out : w.heap.size ≤ gb113)) ((bycl GE108.out : w.heap.size ≤ gb113)) ((by rw [hg];exact Nat.ne_of_lt (vH BK108.out) : gb108≠gb113));clear BK108 HB;obtain ⟨BK108,HB,BK113,GW113,GE113,NB108_113⟩:=n_;have NB113_108:=ns NB108_113;clear hb hbox hg;have hnb19:=NB113_108.out;have hnc19:=NB108_113.out;obtain ⟨hcz20_0,hcz20_1,hcz20_2,hfz20_0,hfz20_1,hfz20_2⟩:=cz3 BK113.out)|((with_reducible refine qF (f:=49) rfl ?_);refine zC (some 35) rfl rfl Try.func49 (by kernel_rfl) rfl #[.agg #[.int .i64 ((zB l0_2 x29_2).f0),.slice A112_1 ((zB l0_2 x29_2).f1).length c112_1,.slice A112_2 ((zB l0_2 x29_2).f2).length c112_2],.int .i64 a1] rfl byac ?_;(with_reducible refine (ih k2 byap ((zB l0_2 x29_2).f0) _ _ ((zB l0_2 x29_2).f1) _ _ ((zB l0_2 x29_2).f2) a1 true _ ?side1 ?side2 ?side3 ?side4 A16.out).mono ?_);(case side1=>exact Kd.uX HR112_1.out (byal GE108.out GE113.out));(case side2=>exact HC112_1.out);(case side3=>exact Kd.uX HR112_2.out (byal GE108.out GE113.out));(case side4=>exact HC112_2.out);rintro e w21 ⟨rfl,hb⟩;refine ⟨_,rfl,?_⟩;have n_:=q_3 (uA (g:=gb108) (o:=.cells #[.int .i64 a0_0,.slice A0_1 l0_1.length c0_1,.slice (some ad112) l0_2.length c0_2] 49 (0,0)) (byaq NB108_113.out BK108.out) hb) (uA (g:=gb113) (o:=.cells #[.int .i64 ((zB l0_2 x29_2).f0),.slice A112_1 ((zB l0_2 x29_2).f1).length c112_1,.slice A112_2 ((zB l0_2 x29_2).f2).length c112_2] 49 (0,0)) (by (with_reducible repeat (first|refine qH ?_ _|refine qJ ?_|refine qG ?_ _));refine zG (cs:=#[.int .i64 ((zB l0_2 x29_2).f0),.slice A112_1 ((zB l0_2 x29_2).f1).length c112_1,.slice none 0 0]) ?_ 2 _ rfl;(with_reducible repeat (first|refine qH ?_ _|refine qJ ?_|refine qG ?_ _));refine zG (cs:=#[.int .i64 ((zB l0_2 x29_2).f0),.slice none 0 0,.slice none 0 0]) ?_ 1 _ rfl;(with_reducible repeat (first|refine qH ?_ _|refine qJ ?_|refine qG ?_ _));refine zG (cs:=#[.int .i64 0,.slice none 0 0,.slice none 0 0]) ?_ 0 _ rfl;(with_reducible repeat (first|refine qH ?_ _|refine qJ ?_|refine qG ?_ _));exact BK113.out) hb) (qE (byal GE108.out GE113.out) hb);clear BK108 BK113 HB;obtain ⟨BK108,BK113,HB⟩:=n_;clear hb))
           go_roundg k2
           case measure=>have:=HK1.out;have:=HK2.out;omega
           case rel=>exact ⟨(wrap64 (x5_2 + 1)),(wrap64 (x29_2 + 1)),byab,byab,H',⟨byap⟩,⟨byaf BK108.out⟩,⟨byal GE108.out GE113.out⟩⟩
          ·replace c17:=Bool.eq_false_iff.mpr c17
           subst c17
           rw [if_neg (show ¬ (false = true) by decide)] at H
           have H':=qA.mk H
           clear H
           have p112 : 0 ≤ (x29_2 : Int):=of_decide_eq_true byah
           have q112 : x29_2 < (l0_2.length : Int):=of_decide_eq_true byah
           obtain ⟨ad112,A112_1,c112_1,A112_2,c112_2,e112,hx112_0,hx112_1,hx112_2,hl112_1,hi112_1,hl112_2,hi112_2⟩:=at_T49 HR0_2.out x29_2 p112 q112
           cases e112
           replace hx112_0:=(HB.out.cell (World.block_lt_of_cell? w _ hx112_0)).trans hx112_0
           replace hx112_1:=(HB.out.cell (World.block_lt_of_cell? w _ hx112_1)).trans hx112_1
           replace hx112_2:=(HB.out.cell (World.block_lt_of_cell? w _ hx112_2)).trans hx112_2
           have HR112_1:=qA.mk hi112_1
           have HC112_1:=qA.mk hl112_1
           clear hi112_1 hl112_1
           have HR112_2:=qA.mk hi112_2
           have HC112_2:=qA.mk hl112_2
           clear hi112_2 hl112_2
           replace p112:=eq_true p112
           replace q112:=eq_true q112
           go_wp2_with (first|((with_reducible refine qX (N:=9) rfl ?_);refine zD ?hg (N:=9) ?hd (cs:=#[.int .i64 0,.slice none 0 0,.slice none 0 0]) (t:=49) ?hr ?_;(case hd=>rfl);(case hg=>rfl);(case hr=>exact byad);intro gb113 hg w22 hbox hb;have n_:=q_6 (qI BK108.out hb) (qE (byag GE108.out) hb) (hbox) ((bycl GE108.out : w.heap.size ≤ gb113)) ((bycl GE108.out : w.heap.size ≤ gb113)) ((by rw [hg];exact Nat.ne_of_lt (vH BK108.out) : gb108≠gb113));clear BK108 HB;obtain ⟨BK108,HB,BK113,GW113,GE113,NB108_113⟩:=n_;have NB113_108:=ns NB108_113;clear hb hbox hg;have hnb23:=NB113_108.out;have hnc23:=NB108_113.out;obtain ⟨hcz24_0,hcz24_1,hcz24_2,hfz24_0,hfz24_1,hfz24_2⟩:=cz3 BK113.out)|((with_reducible refine qF (f:=49) rfl ?_);refine zC (some 35) rfl rfl Try.func49 (by kernel_rfl) rfl #[.agg #[.int .i64 ((zB l0_2 x29_2).f0),.slice A112_1 ((zB l0_2 x29_2).f1).length c112_1,.slice A112_2 ((zB l0_2 x29_2).f2).length c112_2],.int .i64 a1] rfl byac ?_;(with_reducible refine (ih k2 byap ((zB l0_2 x29_2).f0) _ _ ((zB l0_2 x29_2).f1) _ _ ((zB l0_2 x29_2).f2) a1 false _ ?side1 ?side2 ?side3 ?side4 A16.out).mono ?_);(case side1=>exact Kd.uX HR112_1.out (byal GE108.out GE113.out));(case side2=>exact HC112_1.out);(case side3=>exact Kd.uX HR112_2.out (byal GE108.out GE113.out));(case side4=>exact HC112_2.out);rintro e w25 ⟨rfl,hb⟩;refine ⟨_,rfl,?_⟩;have n_:=q_3 (uA (g:=gb108) (o:=.cells #[.int .i64 a0_0,.slice A0_1 l0_1.length c0_1,.slice (some ad112) l0_2.length c0_2] 49 (0,0)) (byaq NB108_113.out BK108.out) hb) (uA (g:=gb113) (o:=.cells #[.int .i64 ((zB l0_2 x29_2).f0),.slice A112_1 ((zB l0_2 x29_2).f1).length c112_1,.slice A112_2 ((zB l0_2 x29_2).f2).length c112_2] 49 (0,0)) (by (with_reducible repeat (first|refine qH ?_ _|refine qJ ?_|refine qG ?_ _));refine zG (cs:=#[.int .i64 ((zB l0_2 x29_2).f0),.slice A112_1 ((zB l0_2 x29_2).f1).length c112_1,.slice none 0 0]) ?_ 2 _ rfl;(with_reducible repeat (first|refine qH ?_ _|refine qJ ?_|refine qG ?_ _));refine zG (cs:=#[.int .i64 ((zB l0_2 x29_2).f0),.slice none 0 0,.slice none 0 0]) ?_ 1 _ rfl;(with_reducible repeat (first|refine qH ?_ _|refine qJ ?_|refine qG ?_ _));refine zG (cs:=#[.int .i64 0,.slice none 0 0,.slice none 0 0]) ?_ 0 _ rfl;(with_reducible repeat (first|refine qH ?_ _|refine qJ ?_|refine qG ?_ _));exact BK113.out) hb) (qE (byal GE108.out GE113.out) hb);clear BK108 BK113 HB;obtain ⟨BK108,BK113,HB⟩:=n_;clear hb))
           go_roundg k2
           case measure=>have:=HK1.out;have:=HK2.out;omega
           case rel=>exact ⟨(x5_2),(wrap64 (x29_2 + 1)),byab,byab,H',⟨byap⟩,⟨byaf BK108.out⟩,⟨byal GE108.out GE113.out⟩⟩
         ·rw [if_neg c15] at H
          exact absurd H (by simp)
        ·rw [if_neg c14] at H
         exact absurd H (by simp)
       ·rw [if_neg c13] at H
        have c13b0:=decide_eq_false c13
        clear c13
        obtain rfl:=Option.some.inj H
        obtain ⟨hcz26_0,hcz26_1,hcz26_2,hfz26_0,hfz26_1,hfz26_2⟩:=cz3 BK108.out
        go_wp2
        go_ret
        exact ⟨byam,byag GE108.out⟩
 ·replace c4:=Bool.eq_false_iff.mpr c4
  subst c4
  rw [if_neg (show ¬ (false = true) by decide)] at H
  obtain rfl:=Option.some.inj H
  go_enter Try.func49,Try.ntmps49
  go_wp2_with (first|((with_reducible refine qX (N:=2) rfl ?_);refine zD ?hg (N:=2) ?hd (cs:=#[.int .i64 a0_0,.slice A0_1 l0_1.length c0_1,.slice A0_2 l0_2.length c0_2]) (t:=49) ?hr ?_;(case hd=>rfl);(case hg=>rfl);(case hr=>exact byad);intro gb108 hg w27 hbox hb;have n_:=q_4 (qE byae hb) (hbox) ((byck : w.heap.size ≤ gb108)) ((byck : w.heap.size ≤ gb108));clear HB;obtain ⟨HB,BK108,GW108,GE108⟩:=n_;clear hb hbox hg)|((with_reducible refine qF (f:=37) rfl ?_);refine zC (some 11) rfl rfl Try.func37 (by kernel_rfl) rfl #[.int .i64 a1] rfl byac ?_;(with_reducible refine (vC.calls a1 false _ A3.out).mono ?_);rintro e w' ⟨rfl,⟨nd,rfl⟩⟩;refine ⟨_,rfl,?_⟩))
  go_ret
  exact ⟨byam,byag GE108.out⟩
def jX.f (k : Nat) (l0_0 : List (S51)) (a1 : Int) (a2 : Int) : Option (Bool):=if 0 ≤ a1 then (if a1 < (l0_0.length : Int) then ((qU.f k ((zF l0_0 a1).f1.f0) ((zF l0_0 a1).f1.f1) ((zF l0_0 a1).f1.f2) a2).bind fun t117=>(some t117)) else (none)) else (none)
theorem jX.mono : ∀ a0 a1 a2 k,LeO (jX.f k a0 a1 a2) (jX.f (k + 1) a0 a1 a2):=by
 intro a0 a1 a2 k
 unfold jX.f
 repeat' first
   | (with_reducible exact qU.mono _ _ _ _ _)
   | (with_reducible exact LeO.refl _)
   | (with_reducible exact LeO.none _)
   | (with_reducible refine LeO.ite ?_ ?_)
   | (with_reducible refine LeO.bind ?_ (fun _=>?_))
   | exact qU.mono _ _ _ _ _
   | exact LeO.none _
   | refine LeO.ite ?_ ?_
   | refine LeO.bind ?_ (fun _=>?_)
set_option maxHeartbeats 8000000 in
set_option maxRecDepth 100000 in
theorem jX.calls (k : Nat) (A0_0 : Option Addr) (c0_0 : Nat) (l0_0 : List (S51)) (a1 : Int) (a2 : Int) (r : Bool) (w : World) (hr0_0 : Kd.C k51 w A0_0 l0_0.length l0_0) (hc0_0 : l0_0.length ≤ c0_0) (h : jX.f k l0_0 a1 a2 = some r) :
  Calls Try.prog 43 #[.agg #[.slice A0_0 l0_0.length c0_0],.int .i64 a1,.int .i64 a2] w fun e w'=>e = .returned (.bool r)∧Below w.heap.size w w':=by
 have hu25:=Try.underlying25
 have hu49:=Try.underlying49
 have HR0_0:=qA.mk hr0_0
 have HC0_0:=qA.mk hc0_0
 clear hr0_0 hc0_0
 have HB:=qA.mk (Below.refl w.heap.size w)
 unfold jX.f at h
 have H:=h
 clear h
 by_cases c4 : 0 ≤ a1
 ·rw [if_pos c4] at H
  have c4b0:=decide_eq_true c4
  clear c4
  by_cases c5 : a1 < (l0_0.length : Int)
  ·rw [if_pos c5] at H
   have c5b0:=decide_eq_true c5
   clear c5
   replace H:=Option.bind_eq_some_iff.mp H
   obtain ⟨t117,A60,H⟩:=H
   try dsimp only at H
   have A6:=qA.mk A60
   clear A60
   obtain rfl:=Option.some.inj H
   go_enter Try.func43,Try.ntmps43
   go_wp2_with (first|((with_reducible refine qX (N:=3) rfl ?_);refine zD ?hg (N:=3) ?hd (cs:=#[.slice A0_0 l0_0.length c0_0]) (t:=25) ?hr ?_;(case hd=>rfl);(case hg=>rfl);(case hr=>exact byad);intro gb115 hg w7 hbox hb;have n_:=q_4 (qE byae hb) (hbox) ((byck : w.heap.size ≤ gb115)) ((byck : w.heap.size ≤ gb115));clear HB;obtain ⟨HB,BK115,GW115,GE115⟩:=n_;clear hb hbox hg;obtain ⟨hcz8_0,hfz8_0⟩:=cz1 BK115.out;have p116 : 0 ≤ (a1 : Int):=of_decide_eq_true byah;have q116 : a1 < (l0_0.length : Int):=of_decide_eq_true byah;obtain ⟨ad116,A116_2,c116_2,A116_3,c116_3,e116,hx116_0,hx116_1,hx116_2,hx116_3,hl116_2,hi116_2,hl116_3,hi116_3⟩:=Qm HR0_0.out a1 p116 q116;cases e116;replace hx116_0:=(HB.out.cell (World.block_lt_of_cell? w _ hx116_0)).trans hx116_0;replace hx116_1:=(HB.out.cell (World.block_lt_of_cell? w _ hx116_1)).trans hx116_1;replace hx116_2:=(HB.out.cell (World.block_lt_of_cell? w _ hx116_2)).trans hx116_2;replace hx116_3:=(HB.out.cell (World.block_lt_of_cell? w _ hx116_3)).trans hx116_3;have HR116_2:=qA.mk hi116_2;have HC116_2:=qA.mk hl116_2;clear hi116_2 hl116_2;have HR116_3:=qA.mk hi116_3;have HC116_3:=qA.mk hl116_3;clear hi116_3 hl116_3;replace p116:=eq_true p116;replace q116:=eq_true q116)|((with_reducible refine qF (f:=49) rfl ?_);refine zC (some 14) rfl rfl Try.func49 (by kernel_rfl) rfl #[.agg #[.int .i64 ((zF l0_0 a1).f1.f0),.slice A116_2 ((zF l0_0 a1).f1.f1).length c116_2,.slice A116_3 ((zF l0_0 a1).f1.f2).length c116_3],.int .i64 a2] rfl byac ?_;(with_reducible refine (qU.calls k ((zF l0_0 a1).f1.f0) _ _ ((zF l0_0 a1).f1.f1) _ _ ((zF l0_0 a1).f1.f2) a2 t117 _ ?side1 ?side2 ?side3 ?side4 A6.out).mono ?_);(case side1=>exact byan HR116_2.out);(case side2=>exact HC116_2.out);(case side3=>exact byan HR116_3.out);(case side4=>exact HC116_3.out);rintro e w9 ⟨rfl,hb⟩;refine ⟨_,rfl,?_⟩;have n_:=q_2 (qI BK115.out hb) (qE (byag GE115.out) hb);clear BK115 HB;obtain ⟨BK115,HB⟩:=n_;clear hb))
   go_ret
   exact ⟨byam,byag GE115.out⟩
  ·rw [if_neg c5] at H
   exact absurd H (by simp)
 ·rw [if_neg c4] at H
  exact absurd H (by simp)
def jL.l0 : Nat→Int→List Int→Int→Option (List Int)
 | 0,_,_,_=>none
 | k + 1,x0,x3,x5=>if x5 < 10 then ((uS.f x0 x5).bind fun t118=>(if t118 = true then (if x3.length < 17592186044416 then (jL.l0 k x0 (x3 ++ [x5]) (wrap64 (x5 + 1))) else (none)) else (jL.l0 k x0 x3 (wrap64 (x5 + 1))))) else (some x3)
def jL.f (k : Nat) (a0 : Int) : Option (List Int):=jL.l0 k a0 ([] : List Int) 0
theorem jL.mono_l : ∀ k,(∀ y0 y1 y2,LeO (jL.l0 k y0 y1 y2) (jL.l0 (k + 1) y0 y1 y2))
 | 0=>fun _ _ _ r h=>by simp [jL.l0] at h
 | k + 1=>by
  have ih0:=jL.mono_l k
  ·intro y0 y1 y2
   unfold jL.l0
   repeat' first
   | (with_reducible exact ih0 _ _ _)
   | (with_reducible exact LeO.refl _)
   | (with_reducible exact LeO.none _)
   | (with_reducible refine LeO.ite ?_ ?_)
   | (with_reducible refine LeO.bind ?_ (fun _=>?_))
   | exact ih0 _ _ _
   | exact LeO.none _
   | refine LeO.ite ?_ ?_
   | refine LeO.bind ?_ (fun _=>?_)
theorem jL.mono : ∀ a0 k,LeO (jL.f k a0) (jL.f (k + 1) a0):=by
 intro a0 k
 have ih0:=jL.mono_l k
 unfold jL.f
 repeat' first
   | (with_reducible exact ih0 _ _ _)
   | (with_reducible exact LeO.refl _)
   | (with_reducible exact LeO.none _)
   | (with_reducible refine LeO.ite ?_ ?_)
   | (with_reducible refine LeO.bind ?_ (fun _=>?_))
   | exact ih0 _ _ _
   | exact LeO.none _
   | refine LeO.ite ?_ ?_
   | refine LeO.bind ?_ (fun _=>?_)
set_option maxHeartbeats 8000000 in
set_option maxRecDepth 100000 in
theorem jL.calls (k : Nat) (a0 : Int) (r : List Int) (w : World) (h : jL.f k a0 = some r) :
  Calls Try.prog 48 #[.int .i64 a0] w fun e w'=>∃ v0_ : Value,e = .returned (v0_)∧Kd.R (Kd.int .i64) 3 w' w.heap.size (fun _=>True) v0_ r∧Below w.heap.size w w':=by
 have HB:=qA.mk (Below.refl w.heap.size w)
 unfold jL.f at h
 have H:=h
 clear h
 have H':=qA.mk H
 clear H
 go_enter Try.func48,Try.ntmps48
 go_wp2
 go_loopg [3,5] k (fun kq v3 v5 w'=>∃ (x3_1 : List Int) (x5_1 : Int),v5 = .int .i64 x5_1∧qA (jL.l0 kq a0 x3_1 x5_1 = some r)∧qA (kq ≤ k)∧qA (Kd.R (Kd.int .i64) 3 w' w.heap.size (fun _=>True) v3 x3_1)∧qA (Below w.heap.size w w'))
 case atStart=>exact ⟨(([] : List Int)),(0),byab,H',⟨Nat.le_refl _⟩,⟨byar⟩,⟨byae⟩⟩
 case round =>
  clear H'
  obtain ⟨x3_1,x5_1,rfl,HA,HK1,HO_3,HB⟩:=hrel
  cases gk with
  | zero=>exact absurd HA.out (by simp [jL.l0])
  | succ k1 =>
   have H:=HA.out
   clear HA
   simp only [jL.l0] at H
   by_cases c2 : x5_1 < 10
   ·rw [if_pos c2] at H
    have c2b0:=decide_eq_true c2
    clear c2
    replace H:=Option.bind_eq_some_iff.mp H
    obtain ⟨t118,A30,H⟩:=H
    try dsimp only at H
    have A3:=qA.mk A30
    clear A30
    by_cases c4 : t118 = true
    ·subst c4
     rw [if_pos rfl] at H
     by_cases c5 : x3_1.length < 17592186044416
     ·rw [if_pos c5] at H
      have LMc5:=qA.mk c5
      clear c5
      obtain ⟨y119,hy119⟩ : ∃ y_ : List Int,y_ = (x3_1 ++ [x5_1]):=⟨_,rfl⟩
      replace H : (jL.l0 k1 a0 y119 (wrap64 (x5_1 + 1))) = some r:=by first|(rw [hy119];with_reducible exact H)|(have H2_:=(Option.bind_some _ _).symm.trans H;rw [hy119];with_reducible exact H2_)|(have H2_:=(Option.bind_some _ _).symm.trans H;with_reducible exact H2_)|with_reducible exact H|(rw [hy119];exact H)|exact H
      have Ny119:=qA.mk hy119
      clear hy119
      have H':=qA.mk H
      clear H
      go_wp2_with (first|((with_reducible refine qF (f:=42) rfl ?_);refine zC (some 10) rfl rfl Try.func42 (by kernel_rfl) rfl #[.int .i64 a0,.int .i64 x5_1] rfl byac ?_;(with_reducible refine (uS.calls a0 x5_1 true _ A3.out).mono ?_);rintro e w' ⟨rfl,⟨nd,rfl⟩⟩;refine ⟨_,rfl,?_⟩)|((with_reducible refine jU (b:=.append) (xs:=#[.tmp 11,.tmp 13]) rfl ?_);at_builtin;refine Kd.kF (Kd.int .i64) (w0:=w) w.heap.size rfl (.tmp 11) (.tmp 13) 22 3 (.int .i64 0) 8 rfl Try.underlying22 info3 rfl (by decide) (by omega) u3 x3_1 x5_1 [.int .i64 x5_1] (fun _=>True) (fun _=>False) rfl rfl ?aP (fun _ hk=>hk.elim) ?aF ?aO ?aB ?aS ?aL ?_;(case aP=>exact rfl);(case aB=>exact byae);(case aF=>exact (fun _ _=>trivial));(case aO=>exact (byas HO_3.out));(case aS=>exact (zJ byae));(case aL=>have:=LMc5.out;omega);intro v120 w6 ho hb hg hat;rw [← Ny119.out] at ho;have n_:=q_2 (hb) (ho);clear HB HO_3;obtain ⟨HB,HO121⟩:=n_;clear ho hb hg hat))
      go_roundg k1
      case measure=>have:=HK1.out;omega
      case rel=>exact ⟨(y119),(wrap64 (x5_1 + 1)),byab,H',⟨byaj⟩,⟨byas HO121.out⟩,⟨byae⟩⟩
     ·rw [if_neg c5] at H
      exact absurd H (by simp)
    ·replace c4:=Bool.eq_false_iff.mpr c4
     subst c4
     rw [if_neg (show ¬ (false = true) by decide)] at H
     have H':=qA.mk H
     clear H
     go_wp2_with (first|((with_reducible refine qF (f:=42) rfl ?_);refine zC (some 10) rfl rfl Try.func42 (by kernel_rfl) rfl #[.int .i64 a0,.int .i64 x5_1] rfl byac ?_;(with_reducible refine (uS.calls a0 x5_1 false _ A3.out).mono ?_);rintro e w' ⟨rfl,⟨nd,rfl⟩⟩;refine ⟨_,rfl,?_⟩))
     go_roundg k1
     case measure=>have:=HK1.out;omega
     case rel=>exact ⟨(x3_1),(wrap64 (x5_1 + 1)),byab,H',⟨byaj⟩,⟨byas HO_3.out⟩,⟨byae⟩⟩
   ·rw [if_neg c2] at H
    have c2b0:=decide_eq_false c2
    clear c2
    obtain rfl:=Option.some.inj H
    go_wp2
    go_ret
    exact ⟨_,byam,byas HO_3.out,byae⟩
end Go.Proofs.Ytoofabolcbbjnaa.P
