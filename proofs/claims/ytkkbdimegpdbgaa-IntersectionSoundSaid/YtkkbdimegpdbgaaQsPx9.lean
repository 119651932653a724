/- Functions of the program as Lean functions, and the walks that show that the calls answer so; written by a program of this session (a changed print) and by hand. -/
import Derived.Test.YtkkbdimegpdbgaaQsPx0
import Derived.Test.YtkkbdimegpdbgaaQsPx3
import Derived.Test.YtkkbdimegpdbgaaQsPx7
import Derived.Test.YtkkbdimegpdbgaaQsPx8
namespace Go.Proofs.Ytkkbdimegpdbgaa.P
open Go.RowKit Go.Proofs.YtkkbdimegpdbgaaW.PrintWords Go.Proofs.YtkkbdimegpdbgaaW.PrintLast Go.Proofs.YtkkbdimegpdbgaaW.PrintMore
attribute [local go_sem] kF kD kV kU uJ uK kG kE
set_option linter.unusedVariables false
set_option linter.unusedSimpArgs false
def vT.f (k : Nat) (l0_0 : List (S58)) (a1_0 : Int) (a1_1 : Int) (l1_2 : List (S28)) : Option (Bool):=(zI.f k l0_0).bind fun t260=>(if t260 = 0 then ((zQ.f k a1_0 a1_1 l1_2).bind fun t261=>(if t261 ≤ 20000 then ((qL.f k l0_0 a1_0 a1_1 l1_2 0 0).bind fun t262=>(some t262)) else (some false))) else (some false))
theorem vT.mono : ∀ a0 a1 a2 a3 k,LeO (vT.f k a0 a1 a2 a3) (vT.f (k + 1) a0 a1 a2 a3):=by
 intro a0 a1 a2 a3 k
 unfold vT.f
 repeat' first
   | (with_reducible exact zI.mono _ _)
   | (with_reducible exact zQ.mono _ _ _ _)
   | (with_reducible exact qL.mono _ _ _ _ _ _ _)
   | (with_reducible exact LeO.refl _)
   | (with_reducible exact LeO.none _)
   | (with_reducible refine LeO.ite ?_ ?_)
   | (with_reducible refine LeO.bind ?_ (fun _=>?_))
   | exact zI.mono _ _
   | exact zQ.mono _ _ _ _
   | exact qL.mono _ _ _ _ _ _ _
   | exact LeO.none _
   | refine LeO.ite ?_ ?_
   | refine LeO.bind ?_ (fun _=>?_)
set_option maxHeartbeats 8000000 in
set_option maxRecDepth 100000 in
theorem vT.calls (k : Nat) (A0_0 : Option Addr) (c0_0 : Nat) (l0_0 : List (S58)) (a1_0 : Int) (a1_1 : Int) (A1_2 : Option Addr) (c1_2 : Nat) (l1_2 : List (S28)) (r : Bool) (w : World) (hr0_0 : Kd.C k58 w A0_0 l0_0.length l0_0) (hc0_0 : l0_0.length ≤ c0_0) (hr1_2 : Kd.C k28 w A1_2 l1_2.length l1_2) (hc1_2 : l1_2.length ≤ c1_2) (h : vT.f k l0_0 a1_0 a1_1 l1_2 = some r) :
  Calls Try.prog 20 #[.agg #[.slice A0_0 l0_0.length c0_0],.agg #[.int .i64 a1_0,.int .i64 a1_1,.slice A1_2 l1_2.length c1_2]] w fun e w'=>e = .returned (.bool r)∧Below w.heap.size w w':=by
 have hu25:=Try.underlying25
 have hu28:=Try.underlying28
 have HR0_0:=qA.mk hr0_0
 have HC0_0:=qA.mk hc0_0
 clear hr0_0 hc0_0
 have HR1_2:=qA.mk hr1_2
 have HC1_2:=qA.mk hc1_2
 clear hr1_2 hc1_2
 have HB:=qA.mk (Below.refl w.heap.size w)
 unfold vT.f at h
 have H:=h
 clear h
 replace H:=Option.bind_eq_some_iff.mp H
 obtain ⟨t260,A30,H⟩:=H
 try dsimp only at H
 have A3:=qA.mk A30
 clear A30
 by_cases c4 : t260 = 0
 ·rw [if_pos c4] at H
  obtain ⟨c4b0,c4b1⟩:=eqT c4
  clear c4
  replace H:=Option.bind_eq_some_iff.mp H
  obtain ⟨t261,A50,H⟩:=H
  try dsimp only at H
  have A5:=qA.mk A50
  clear A50
  by_cases c6 : t261 ≤ 20000
  ·rw [if_pos c6] at H
   have c6b0:=decide_eq_true c6
   clear c6
   replace H:=Option.bind_eq_some_iff.mp H
   obtain ⟨t262,A70,H⟩:=H
   try dsimp only at H
   have A7:=qA.mk A70
   clear A70
   obtain rfl:=Option.some.inj H
   go_enter Try.func20,Try.ntmps20
   go_wp2_with (first|((with_reducible refine qP (N:=2) rfl ?_);refine zV (N:=2) (cs:=#[.slice A0_0 l0_0.length c0_0]) (t:=25) ?_;intro gb258 hg w8 hbox hb;have n_:=q_4 (qC byab hb) (hbox) ((byck : w.heap.size ≤ gb258)) ((byck : w.heap.size ≤ gb258));clear HB;obtain ⟨HB,BK258,GW258,GE258⟩:=n_;clear hb hbox hg)|((with_reducible refine qP (N:=3) rfl ?_);refine zV (N:=3) (cs:=#[.int .i64 a1_0,.int .i64 a1_1,.slice A1_2 l1_2.length c1_2]) (t:=28) ?_;intro gb259 hg w9 hbox hb;have n_:=q_6 (qH BK258.out hb) (qC (byad GE258.out) hb) (hbox) ((bycl GE258.out : w.heap.size ≤ gb259)) ((bycl GE258.out : w.heap.size ≤ gb259)) ((by rw [hg];exact Nat.ne_of_lt (vF BK258.out) : gb258≠gb259));clear BK258 HB;obtain ⟨BK258,HB,BK259,GW259,GE259,NB258_259⟩:=n_;have NB259_258:=ns NB258_259;clear hb hbox hg;have hnb10:=NB258_259.out;have hnc10:=NB259_258.out;obtain ⟨hcz11_0,hfz11_0⟩:=cz1 BK258.out)|((with_reducible refine qI (f:=35) rfl ?_);refine qY (some 6) rfl rfl Try.func35 (by kernel_rfl) rfl #[.agg #[.slice A0_0 l0_0.length c0_0]] rfl byah ?_;(with_reducible refine (zI.calls k _ _ l0_0 t260 _ ?side1 ?side2 A3.out).mono ?_);(case side1=>exact byaq HR0_0.out);(case side2=>exact HC0_0.out);rintro e w12 ⟨rfl,hb⟩;refine ⟨_,rfl,?_⟩;have n_:=q_3 (qH BK258.out hb) (qH BK259.out hb) (qC (byaj GE258.out GE259.out) hb);clear BK258 BK259 HB;obtain ⟨BK258,BK259,HB⟩:=n_;clear hb;obtain ⟨hcz13_0,hcz13_1,hcz13_2,hfz13_0,hfz13_1,hfz13_2⟩:=cz3 BK259.out)|(go_at_call 22;(with_reducible refine (zQ.calls k a1_0 a1_1 _ _ l1_2 t261 _ ?side1 ?side2 A5.out).mono ?_);(case side1=>exact byaq HR1_2.out);(case side2=>exact HC1_2.out);rintro e w14 ⟨rfl,hb⟩;have n_:=q_3 (qH BK258.out hb) (qH BK259.out hb) (qC (byaj GE258.out GE259.out) hb);clear BK258 BK259 HB;obtain ⟨BK258,BK259,HB⟩:=n_;clear hb;obtain ⟨hcz15_0,hfz15_0⟩:=cz1 BK258.out;obtain ⟨hcz16_0,hcz16_1,hcz16_2,hfz16_0,hfz16_1,hfz16_2⟩:=cz3 BK259.out)|(go_at_call 41;(with_reducible refine (qL.calls k _ _ l0_0 a1_0 a1_1 _ _ l1_2 0 0 t262 _ ?side1 ?side2 ?side3 ?side4 A7.out).mono ?_);(case side1=>exact byaq HR0_0.out);(case side2=>exact HC0_0.out);(case side3=>exact byaq HR1_2.out);(case side4=>exact HC1_2.out);rintro e w17 ⟨rfl,hb⟩;have n_:=q_3 (qH BK258.out hb) (qH BK259.out hb) (qC (byaj GE258.out GE259.out) hb);clear BK258 BK259 HB;obtain ⟨BK258,BK259,HB⟩:=n_;clear hb))
   go_ret
   exact ⟨byac,byaj GE258.out GE259.out⟩
  ·rw [if_neg c6] at H
   have c6b0:=decide_eq_false c6
   clear c6
   obtain rfl:=Option.some.inj H
   go_enter Try.func20,Try.ntmps20
   go_wp2_with (first|((with_reducible refine qP (N:=2) rfl ?_);refine zV (N:=2) (cs:=#[.slice A0_0 l0_0.length c0_0]) (t:=25) ?_;intro gb258 hg w18 hbox hb;have n_:=q_4 (qC byab hb) (hbox) ((byck : w.heap.size ≤ gb258)) ((byck : w.heap.size ≤ gb258));clear HB;obtain ⟨HB,BK258,GW258,GE258⟩:=n_;clear hb hbox hg)|((with_reducible refine qP (N:=3) rfl ?_);refine zV (N:=3) (cs:=#[.int .i64 a1_0,.int .i64 a1_1,.slice A1_2 l1_2.length c1_2]) (t:=28) ?_;intro gb259 hg w19 hbox hb;have n_:=q_6 (qH BK258.out hb) (qC (byad GE258.out) hb) (hbox) ((bycl GE258.out : w.heap.size ≤ gb259)) ((bycl GE258.out : w.heap.size ≤ gb259)) ((by rw [hg];exact Nat.ne_of_lt (vF BK258.out) : gb258≠gb259));clear BK258 HB;obtain ⟨BK258,HB,BK259,GW259,GE259,NB258_259⟩:=n_;have NB259_258:=ns NB258_259;clear hb hbox hg;have hnb20:=NB258_259.out;have hnc20:=NB259_258.out;obtain ⟨hcz21_0,hfz21_0⟩:=cz1 BK258.out)|((with_reducible refine qI (f:=35) rfl ?_);refine qY (some 6) rfl rfl Try.func35 (by kernel_rfl) rfl #[.agg #[.slice A0_0 l0_0.length c0_0]] rfl byah ?_;(with_reducible refine (zI.calls k _ _ l0_0 t260 _ ?side1 ?side2 A3.out).mono ?_);(case side1=>exact byaq HR0_0.out);(case side2=>exact HC0_0.out);rintro e w22 ⟨rfl,hb⟩;refine ⟨_,rfl,?_⟩;have n_:=q_3 (qH BK258.out hb) (qH BK259.out hb) (qC (byaj GE258.out GE259.out) hb);clear BK258 BK259 HB;obtain ⟨BK258,BK259,HB⟩:=n_;clear hb;obtain ⟨hcz23_0,hcz23_1,hcz23_2,hfz23_0,hfz23_1,hfz23_2⟩:=cz3 BK259.out)|(go_at_call 22;(with_reducible refine (zQ.calls k a1_0 a1_1 _ _ l1_2 t261 _ ?side1 ?side2 A5.out).mono ?_);(case side1=>exact byaq HR1_2.out);(case side2=>exact HC1_2.out);rintro e w24 ⟨rfl,hb⟩;have n_:=q_3 (qH BK258.out hb) (qH BK259.out hb) (qC (byaj GE258.out GE259.out) hb);clear BK258 BK259 HB;obtain ⟨BK258,BK259,HB⟩:=n_;clear hb))
   go_ret
   exact ⟨byac,byaj GE258.out GE259.out⟩
 ·rw [if_neg c4] at H
  obtain ⟨c4b0,c4b1⟩:=eqF c4
  obtain rfl:=Option.some.inj H
  go_enter Try.func20,Try.ntmps20
  go_wp2_with (first|((with_reducible refine qP (N:=2) rfl ?_);refine zV (N:=2) (cs:=#[.slice A0_0 l0_0.length c0_0]) (t:=25) ?_;intro gb258 hg w25 hbox hb;have n_:=q_4 (qC byab hb) (hbox) ((byck : w.heap.size ≤ gb258)) ((byck : w.heap.size ≤ gb258));clear HB;obtain ⟨HB,BK258,GW258,GE258⟩:=n_;clear hb hbox hg)|((with_reducible refine qP (N:=3) rfl ?_);refine zV (N:=3) (cs:=#[.int .i64 a1_0,.int .i64 a1_1,.slice A1_2 l1_2.length c1_2]) (t:=28) ?_;intro gb259 hg w26 hbox hb;have n_:=q_6 (qH BK258.out hb) (qC (byad GE258.out) hb) (hbox) ((bycl GE258.out : w.heap.size ≤ gb259)) ((bycl GE258.out : w.heap.size ≤ gb259)) ((by rw [hg];exact Nat.ne_of_lt (vF BK258.out) : gb258≠gb259));clear BK258 HB;obtain ⟨BK258,HB,BK259,GW259,GE259,NB258_259⟩:=n_;have NB259_258:=ns NB258_259;clear hb hbox hg;have hnb27:=NB258_259.out;have hnc27:=NB259_258.out;obtain ⟨hcz28_0,hfz28_0⟩:=cz1 BK258.out)|((with_reducible refine qI (f:=35) rfl ?_);refine qY (some 6) rfl rfl Try.func35 (by kernel_rfl) rfl #[.agg #[.slice A0_0 l0_0.length c0_0]] rfl byah ?_;(with_reducible refine (zI.calls k _ _ l0_0 t260 _ ?side1 ?side2 A3.out).mono ?_);(case side1=>exact byaq HR0_0.out);(case side2=>exact HC0_0.out);rintro e w29 ⟨rfl,hb⟩;refine ⟨_,rfl,?_⟩;have n_:=q_3 (qH BK258.out hb) (qH BK259.out hb) (qC (byaj GE258.out GE259.out) hb);clear BK258 BK259 HB;obtain ⟨BK258,BK259,HB⟩:=n_;clear hb))
  go_ret
  exact ⟨byac,byaj GE258.out GE259.out⟩
mutual
def zA.l0 : Nat→Int→Int→Int→List Int→Option ((List (S58)))
 | 0,_,_,_,_=>none
 | k + 1,x0,x6,x265000,x265001=>if x6 < x0 then (if x265001.length < 17592186044416 then (zA.l0 k x0 (wrap64 (x6 + 1)) x265000 (x265001 ++ [x6])) else (none)) else (zA.l1 k x0 0 x265000 x265001 ([] : List (S58)))
def zA.l1 : Nat→Int→Int→Int→List Int→List (S58)→Option ((List (S58)))
 | 0,_,_,_,_,_=>none
 | k + 1,x0,x8,x265000,x265001,x269000=>if x8 < x0 then (if x269000.length < 2199023255552 then (zA.l1 k x0 (wrap64 (x8 + 1)) x265000 x265001 (x269000 ++ [(⟨true,(⟨x265000,x265001,([] : List (S56))⟩ : S56)⟩ : S58)])) else (none)) else (some x269000)
end
def zA.f (k : Nat) (a0 : Int) (a1 : Int) : Option ((List (S58))):=zA.l0 k a0 0 a1 ([] : List Int)
theorem zA.mono_l : ∀ k,(∀ y0 y1 y2 y3,LeO (zA.l0 k y0 y1 y2 y3) (zA.l0 (k + 1) y0 y1 y2 y3))∧(∀ y0 y1 y2 y3 y4,LeO (zA.l1 k y0 y1 y2 y3 y4) (zA.l1 (k + 1) y0 y1 y2 y3 y4))
 | 0=>⟨fun _ _ _ _ r h=>by simp [zA.l0] at h,fun _ _ _ _ _ r h=>by simp [zA.l1] at h⟩
 | k + 1=>by
  obtain ⟨ih0,ih1⟩:=zA.mono_l k
  refine ⟨?_,?_⟩
  ·intro y0 y1 y2 y3
   unfold zA.l0
   repeat' first
   | (with_reducible exact ih0 _ _ _ _)
   | (with_reducible exact ih1 _ _ _ _ _)
   | (with_reducible exact LeO.refl _)
   | (with_reducible exact LeO.none _)
   | (with_reducible refine LeO.ite ?_ ?_)
   | (with_reducible refine LeO.bind ?_ (fun _=>?_))
   | exact ih0 _ _ _ _
   | exact ih1 _ _ _ _ _
   | exact LeO.none _
   | refine LeO.ite ?_ ?_
   | refine LeO.bind ?_ (fun _=>?_)
  ·intro y0 y1 y2 y3 y4
   unfold zA.l1
   repeat' first
   | (with_reducible exact ih0 _ _ _ _)
   | (with_reducible exact ih1 _ _ _ _ _)
   | (with_reducible exact LeO.refl _)
   | (with_reducible exact LeO.none _)
   | (with_reducible refine LeO.ite ?_ ?_)
   | (with_reducible refine LeO.bind ?_ (fun _=>?_))
   | exact ih0 _ _ _ _
   | exact ih1 _ _ _ _ _
   | exact LeO.none _
   | refine LeO.ite ?_ ?_
   | refine LeO.bind ?_ (fun _=>?_)
theorem zA.mono : ∀ a0 a1 k,LeO (zA.f k a0 a1) (zA.f (k + 1) a0 a1):=by
 intro a0 a1 k
 obtain ⟨ih0,ih1⟩:=zA.mono_l k
 unfold zA.f
 repeat' first
   | (with_reducible exact ih0 _ _ _ _)
   | (with_reducible exact ih1 _ _ _ _ _)
   | (with_reducible exact LeO.refl _)
   | (with_reducible exact LeO.none _)
   | (with_reducible refine LeO.ite ?_ ?_)
   | (with_reducible refine LeO.bind ?_ (fun _=>?_))
   | exact ih0 _ _ _ _
   | exact ih1 _ _ _ _ _
   | exact LeO.none _
   | refine LeO.ite ?_ ?_
   | refine LeO.bind ?_ (fun _=>?_)
set_option maxHeartbeats 8000000 in
set_option maxRecDepth 100000 in
theorem zA.calls (k : Nat) (a0 : Int) (a1 : Int) (r : List (S58)) (w : World) (h : zA.f k a0 a1 = some r) :
  Calls Try.prog 25 #[.int .i64 a0,.int .i64 a1] w fun e w'=>∃ v0_ : Value,e = .returned (.agg #[v0_])∧Kd.R k58 58 w' w.heap.size (fun _=>True) v0_ r∧Below w.heap.size w w':=by
 have hu25:=Try.underlying25
 have hu56:=Try.underlying56
 have hu58:=Try.underlying58
 have HB:=qA.mk (Below.refl w.heap.size w)
 unfold zA.f at h
 have H:=h
 clear h
 have H':=qA.mk H
 clear H
 go_enter Try.func25,Try.ntmps25
 go_wp2_with (first|((with_reducible refine qP (N:=4) rfl ?_);refine zV (N:=4) (cs:=#[.slice none 0 0]) (t:=25) ?_;intro gb263 hg w3 hbox hb;have n_:=q_4 (qC byab hb) (hbox) ((byck : w.heap.size ≤ gb263)) ((byck : w.heap.size ≤ gb263));clear HB;obtain ⟨HB,BK263,GW263,GE263⟩:=n_;clear hb hbox hg)|((with_reducible refine qP (N:=5) rfl ?_);refine zV (N:=5) (cs:=#[.int .i64 0,.slice none 0 0,.slice none 0 0]) (t:=56) ?_;intro gb264 hg w4 hbox hb;have n_:=q_6 (qH BK263.out hb) (qC (byad GE263.out) hb) (hbox) ((bycl GE263.out : w.heap.size ≤ gb264)) ((bycl GE263.out : w.heap.size ≤ gb264)) ((by rw [hg];exact Nat.ne_of_lt (vF BK263.out) : gb263≠gb264));clear BK263 HB;obtain ⟨BK263,HB,BK264,GW264,GE264,NB263_264⟩:=n_;have NB264_263:=ns NB263_264;clear hb hbox hg;have hnb5:=NB264_263.out;have hnc5:=NB263_264.out;obtain ⟨hcz6_0,hcz6_1,hcz6_2,hfz6_0,hfz6_1,hfz6_2⟩:=cz3 BK264.out))
 go_loopg [6] k (fun kq v6 w'=>∃ (x6_1 : Int) (x265001_1 : List Int) (u265001 : Value),v6 = .int .i64 x6_1∧qA (zA.l0 kq a0 x6_1 a1 x265001_1 = some r)∧qA (kq ≤ k)∧qA (Kd.R (Kd.int .i64) 3 w' w.heap.size (fun _=>True) u265001 x265001_1)∧qA (w'.heap[gb263]? = some (.cells #[(.slice none 0 0)] 25 (0,0)))∧qA (w'.heap[gb264]? = some (.cells #[.int .i64 a1,u265001,(.slice none 0 0)] 56 (0,0)))∧qA (Below w.heap.size w w'))
 case atStart=>exact ⟨(0),(([] : List Int)),(.slice none 0 0),byae,H',⟨Nat.le_refl _⟩,⟨byau⟩,⟨byak NB263_264.out BK263.out⟩,⟨by (with_reducible repeat (first|refine qF ?_ _|refine qG ?_|refine qE ?_ _));refine qO (cs:=#[.int .i64 a1,.slice none 0 0,.slice none 0 0]) ?_ 2 _ rfl;(with_reducible repeat (first|refine qF ?_ _|refine qG ?_|refine qE ?_ _));refine qO (cs:=#[.int .i64 a1,.slice none 0 0,.slice none 0 0]) ?_ 1 _ rfl;(with_reducible repeat (first|refine qF ?_ _|refine qG ?_|refine qE ?_ _));refine qO (cs:=#[.int .i64 0,.slice none 0 0,.slice none 0 0]) ?_ 0 _ rfl;(with_reducible repeat (first|refine qF ?_ _|refine qG ?_|refine qE ?_ _));exact BK264.out⟩,⟨byaj GE263.out GE264.out⟩⟩
 case round =>
  clear H'
  obtain ⟨x6_1,x265001_1,u265001,rfl,HA,HK1,HO_265001,BK263,BK264,HB⟩:=hrel
  cases gk with
  | zero=>exact absurd HA.out (by simp [zA.l0])
  | succ k1 =>
   have H:=HA.out
   clear HA
   simp only [zA.l0] at H
   by_cases c7 : x6_1 < a0
   ·rw [if_pos c7] at H
    have c7b0:=decide_eq_true c7
    clear c7
    by_cases c8 : x265001_1.length < 17592186044416
    ·rw [if_pos c8] at H
     have LMc8:=qA.mk c8
     clear c8
     obtain ⟨y265,hy265⟩ : ∃ y_ : List Int,y_ = (x265001_1 ++ [x6_1]):=⟨_,rfl⟩
     replace H : (zA.l0 k1 a0 (wrap64 (x6_1 + 1)) a1 y265) = some r:=by first|(rw [hy265];with_reducible exact H)|(have H2_:=(Option.bind_some _ _).symm.trans H;rw [hy265];with_reducible exact H2_)|(have H2_:=(Option.bind_some _ _).symm.trans H;with_reducible exact H2_)|with_reducible exact H|(rw [hy265];exact H)|exact H
     have Ny265:=qA.mk hy265
     clear hy265
     have H':=qA.mk H
     clear H
     have hnb9:=NB264_263.out
     have hnc9:=NB263_264.out
     obtain ⟨hcz10_0,hcz10_1,hcz10_2,hfz10_0,hfz10_1,hfz10_2⟩:=cz3 BK264.out
     go_wp2_with (first|((with_reducible refine uU (b:=.append) (xs:=#[.tmp 17,.tmp 19]) rfl ?_);at_builtin;refine Kd.Qk (Kd.int .i64) (w0:=w) w.heap.size rfl (.tmp 17) (.tmp 19) 22 3 (.int .i64 0) 8 rfl Try.underlying22 info3 rfl (by decide) (by omega) u265001 x265001_1 x6_1 [.int .i64 x6_1] (fun _=>True) (fun _=>False) rfl rfl ?aP (fun _ hk=>hk.elim) ?aF ?aO ?aB ?aS ?aL ?_;(case aP=>exact rfl);(case aB=>exact (byaj GE263.out GE264.out));(case aF=>exact (fun _ _=>trivial));(case aO=>exact (byav HO_265001.out));(case aS=>exact (jX (byaj GE263.out GE264.out)));(case aL=>have:=LMc8.out;omega);intro v266 w11 ho hb hg hat;rw [← Ny265.out] at ho;have n_:=q_4 (vP (g:=gb263) (o:=.cells #[.slice none 0 0] 25 (0,0)) (byaf BK263.out) hg (Kd.R_ne HO_265001.out BK263.out (by decide))) (vP (g:=gb264) (o:=.cells #[.int .i64 a1,u265001,.slice none 0 0] 56 (0,0)) (byaf BK264.out) hg (Kd.R_ne HO_265001.out BK264.out (by decide))) (hb) (ho);clear BK263 BK264 HB HO_265001;obtain ⟨BK263,BK264,HB,HO267⟩:=n_;clear ho hb hg hat;obtain ⟨Ao12,co12,eo12⟩:=Kd.vJ HO267.out;subst eo12;obtain ⟨hcz13_0,hcz13_1,hcz13_2,hfz13_0,hfz13_1,hfz13_2⟩:=cz3 BK264.out))
     go_roundg k1
     case measure=>have:=HK1.out;omega
     case rel=>exact ⟨(wrap64 (x6_1 + 1)),(y265),(.slice Ao12 y265.length co12),byae,H',⟨byai⟩,⟨by (with_reducible repeat (first|apply Kd.jP|apply Kd.jO|apply Kd.jZ));exact Kd.zB (Kd.jF (p:=⟨gb264,1,none⟩) (Kd.uB HO267.out BK264.out (by decide)) (fun _ hk=>hk.2) (.slice Ao12 y265.length co12)) (fun _ hk=>trivial)⟩,⟨bybe NB263_264.out BK263.out⟩,⟨by (with_reducible repeat (first|refine qF ?_ _|refine qG ?_|refine qE ?_ _));refine qO (cs:=#[.int .i64 a1,u265001,.slice none 0 0]) ?_ 1 _ rfl;(with_reducible repeat (first|refine qF ?_ _|refine qG ?_|refine qE ?_ _));exact BK264.out⟩,⟨byaj GE263.out GE264.out⟩⟩
    ·rw [if_neg c8] at H
     exact absurd H (by simp)
   ·rw [if_neg c7] at H
    have c7b0:=decide_eq_false c7
    clear c7
    have H':=qA.mk H
    clear H
    go_wp2_with (first|((with_reducible refine qP (N:=7) rfl ?_);refine zV (N:=7) (cs:=#[.slice none 0 0]) (t:=25) ?_;intro gb268 hg w14 hbox hb;have n_:=q_9 (Kd.uP (byav HO_265001.out) hb) (qH BK263.out hb) (qH BK264.out hb) (qC (byaj GE263.out GE264.out) hb) (hbox) ((by rw [hg];exact (jX (byaj GE263.out GE264.out)) : w.heap.size ≤ gb268)) ((by rw [hg];exact (jX (byaj GE263.out GE264.out)) : w.heap.size ≤ gb268)) ((by rw [hg];exact Nat.ne_of_lt (vF BK263.out) : gb263≠gb268)) ((by rw [hg];exact Nat.ne_of_lt (vF BK264.out) : gb264≠gb268));clear HO_265001 BK263 BK264 HB;obtain ⟨HO_265001,BK263,BK264,HB,BK268,GW268,GE268,NB263_268,NB264_268⟩:=n_;have NB268_263:=ns NB263_268;have NB268_264:=ns NB264_268;clear hb hbox hg))
    go_loopg [8] k1 (fun kq v8 w'=>∃ (x8_2 : Int) (x269000_2 : List (S58)) (u269000 : Value),v8 = .int .i64 x8_2∧qA (zA.l1 kq a0 x8_2 a1 x265001_1 x269000_2 = some r)∧qA (kq ≤ k1)∧qA (Kd.R (Kd.int .i64) 3 w' w.heap.size (fun _=>True) u265001 x265001_1)∧qA (Kd.R k58 58 w' w.heap.size (fun k_=>k_≠gb264) u269000 x269000_2)∧qA (w'.heap[gb263]? = some (.cells #[(.slice none 0 0)] 25 (0,0)))∧qA (w'.heap[gb264]? = some (.cells #[.int .i64 a1,u265001,(.slice none 0 0)] 56 (0,0)))∧qA (w'.heap[gb268]? = some (.cells #[u269000] 25 (0,0)))∧qA (Below w.heap.size w w'))
    case atStart=>exact ⟨(0),(([] : List (S58))),(.slice none 0 0),byae,H',⟨Nat.le_refl _⟩,⟨byav HO_265001.out⟩,⟨byau⟩,⟨byaf BK263.out⟩,⟨byaf BK264.out⟩,⟨byaf BK268.out⟩,⟨bybf GE263.out GE264.out GE268.out⟩⟩
    case round =>
     clear H'
     obtain ⟨x8_2,x269000_2,u269000,rfl,HA,HK2,HO_265001,HO_269000,BK263,BK264,BK268,HB⟩:=hrel
     cases gk with
     | zero=>exact absurd HA.out (by simp [zA.l1])
     | succ k2 =>
      have H:=HA.out
      clear HA
      simp only [zA.l1] at H
      by_cases c15 : x8_2 < a0
      ·rw [if_pos c15] at H
       have c15b0:=decide_eq_true c15
       clear c15
       by_cases c16 : x269000_2.length < 2199023255552
       ·rw [if_pos c16] at H
        have LMc16:=qA.mk c16
        clear c16
        obtain ⟨y269,hy269⟩ : ∃ y_ : List (S58),y_ = (x269000_2 ++ [(⟨true,(⟨a1,x265001_1,([] : List (S56))⟩ : S56)⟩ : S58)]):=⟨_,rfl⟩
        replace H : (zA.l1 k2 a0 (wrap64 (x8_2 + 1)) a1 x265001_1 y269) = some r:=by first|(rw [hy269];with_reducible exact H)|(have H2_:=(Option.bind_some _ _).symm.trans H;rw [hy269];with_reducible exact H2_)|(have H2_:=(Option.bind_some _ _).symm.trans H;with_reducible exact H2_)|with_reducible exact H|(rw [hy269];exact H)|exact H
        have Ny269:=qA.mk hy269
        clear hy269
        have H':=qA.mk H
        clear H
        have hnb17:=NB268_263.out
        have hnc17:=NB263_268.out
        have hnb18:=NB268_264.out
        have hnc18:=NB264_268.out
        obtain ⟨hcz19_0,hfz19_0⟩:=cz1 BK268.out
        have hnb20:=NB264_263.out
        have hnc20:=NB263_264.out
        obtain ⟨hcz21_0,hcz21_1,hcz21_2,hfz21_0,hfz21_1,hfz21_2⟩:=cz3 BK264.out
        obtain ⟨Ao22,co22,eo22⟩:=Kd.vJ HO_265001.out
        subst eo22
        go_wp2_with (first|((with_reducible refine uU (b:=.append) (xs:=#[.tmp 28,.tmp 31]) rfl ?_);at_builtin;refine Kd.Qk k58 (w0:=w) w.heap.size rfl (.tmp 28) (.tmp 31) 23 58 (.agg #[(.bool false),(.int .i64 0),(.slice none 0 0),(.slice none 0 0)]) 64 rfl Try.underlying23 info58 rfl (by decide) (by omega) u269000 x269000_2 (⟨true,(⟨a1,x265001_1,([] : List (S56))⟩ : S56)⟩ : S58) [.bool true,.int .i64 a1,.slice Ao22 x265001_1.length co22,.slice none 0 0] (fun k_=>k_≠gb264) (fun k_=>((fun k_=>k_≠gb264)) k_∧some k_≠(u269000 : Value).ownBlock) rfl rfl ?aP (fun _ hk=>hk) ?aF ?aO ?aB ?aS ?aL ?_;(case aP=>exact k58_mkM _ _ _ (⟨true,(⟨a1,x265001_1,([] : List (S56))⟩ : S56)⟩ : S58) (Kd.zB (Kd.uB (Kd.Zx (HO_265001.out) (Kd.Zb HO_269000.out) (by decide)) BK264.out (by decide)) (fun k_ hk=>⟨hk.2,hk.1.2⟩)) (Kd.R_nil _ _ _ _ _));(case aB=>exact (bybf GE263.out GE264.out GE268.out));(case aF=>exact (fun k_ hk=>Kd.Qd (g:=gb264) (o:=.cells #[.int .i64 a1,.slice Ao22 x265001_1.length co22,.slice none 0 0] 56 (0,0)) (byaf BK264.out) k_ hk));(case aO=>exact (by (with_reducible repeat (first|apply Kd.jP|apply Kd.jO|apply Kd.jZ));exact Kd.zB HO_269000.out (fun _ hk=>hk)));(case aS=>exact (jX (bybf GE263.out GE264.out GE268.out)));(case aL=>have:=LMc16.out;omega);intro v270 w23 ho hb hg hat;rw [← Ny269.out] at ho;have n0_:=qA.mk (vP (g:=gb263) (o:=.cells #[.slice none 0 0] 25 (0,0)) (byaf BK263.out) hg (Kd.R_ne HO_269000.out BK263.out (by decide)));have n1_:=qA.mk (vP (g:=gb264) (o:=.cells #[.int .i64 a1,.slice Ao22 x265001_1.length co22,.slice none 0 0] 56 (0,0)) (byaf BK264.out) hg (Kd.R_ne HO_269000.out BK264.out (by decide)));have n2_:=qA.mk (vP (g:=gb268) (o:=.cells #[u269000] 25 (0,0)) (byaf BK268.out) hg (Kd.R_ne HO_269000.out BK268.out (by decide)));have n3_:=qA.mk (hb);have n4_:=qA.mk (ho);have m0_:=qA.mk (Kd.R_over' (byav HO_265001.out) (Kd.Zb HO_269000.out) (by decide) hg);clear BK263;clear BK264;clear BK268;clear HB;clear HO_269000;clear HO_265001;have HO_265001:=m0_;have BK263:=n0_;have BK264:=n1_;have BK268:=n2_;have HB:=n3_;have HO271:=n4_;clear n0_ n1_ n2_ n3_ n4_;clear ho hb hg hat;obtain ⟨Ao24,co24,eo24⟩:=Kd.vJ HO271.out;subst eo24;obtain ⟨hcz25_0,hfz25_0⟩:=cz1 BK268.out))
        go_roundg k2
        case measure=>have:=HK1.out;have:=HK2.out;omega
        case rel=>exact ⟨(wrap64 (x8_2 + 1)),(y269),(.slice Ao24 y269.length co24),byae,H',⟨byar⟩,⟨by (with_reducible repeat (first|apply Kd.jP|apply Kd.jO|apply Kd.jZ));exact Kd.zB (Kd.jF (p:=⟨gb268,0,none⟩) (Kd.uB HO_265001.out BK268.out (by decide)) (fun _ hk=>hk.2) (.slice Ao24 y269.length co24)) (fun _ hk=>trivial)⟩,⟨by (with_reducible repeat (first|apply Kd.jP|apply Kd.jO|apply Kd.jZ));exact Kd.zB (Kd.jF (p:=⟨gb268,0,none⟩) (Kd.uB HO271.out BK268.out (by decide)) (fun _ hk=>hk.2) (.slice Ao24 y269.length co24)) (fun _ hk=>hk.1)⟩,⟨bybe NB263_268.out BK263.out⟩,⟨bybe NB264_268.out BK264.out⟩,⟨by (with_reducible repeat (first|refine qF ?_ _|refine qG ?_|refine qE ?_ _));refine qO (cs:=#[u269000]) ?_ 0 _ rfl;(with_reducible repeat (first|refine qF ?_ _|refine qG ?_|refine qE ?_ _));exact BK268.out⟩,⟨bybf GE263.out GE264.out GE268.out⟩⟩
       ·rw [if_neg c16] at H
        exact absurd H (by simp)
      ·rw [if_neg c15] at H
       have c15b0:=decide_eq_false c15
       clear c15
       obtain rfl:=Option.some.inj H
       have hnb26:=NB268_263.out
       have hnc26:=NB263_268.out
       have hnb27:=NB268_264.out
       have hnc27:=NB264_268.out
       obtain ⟨hcz28_0,hfz28_0⟩:=cz1 BK268.out
       obtain ⟨Ao29,co29,eo29⟩:=Kd.vJ HO_269000.out
       subst eo29
       have hnb30:=NB263_264.out
       have hnc30:=NB264_263.out
       obtain ⟨hcz31_0,hfz31_0⟩:=cz1 BK263.out
       go_wp2
       refine bodyPost_ret (results_cell_row rfl _ _ gb263 25 #[.slice Ao29 x269000_2.length co29] (0,0) _ rfl (bybg BK263.out) Try.underlying25 rfl (by kernel_rfl)) rfl ?_
       exact ⟨_,byac,by (with_reducible repeat (first|apply Kd.jP|apply Kd.jO|apply Kd.jZ));exact Kd.zB (Kd.jF (p:=⟨gb263,0,none⟩) (Kd.uB HO_269000.out BK263.out (by decide)) (fun _ hk=>hk.2) (.slice Ao29 x269000_2.length co29)) (fun _ hk=>trivial),bybf GE263.out GE264.out GE268.out⟩
end Go.Proofs.Ytkkbdimegpdbgaa.P
