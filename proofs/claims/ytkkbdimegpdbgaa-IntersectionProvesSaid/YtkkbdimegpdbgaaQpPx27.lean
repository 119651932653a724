/- Functions of the program as Lean functions, and the walks that show that the calls answer so; written by a program of this session (a changed print) and by hand. -/
import Derived.Test.YtkkbdimegpdbgaaQpPx0
import Derived.Test.YtkkbdimegpdbgaaQpPx21
import Derived.Test.YtkkbdimegpdbgaaQpPx25
import Derived.Test.YtkkbdimegpdbgaaQpPx26
namespace Go.Proofs.Ytkkbdimegpdbgaa.P
open Go.RowKit Go.Proofs.YtkkbdimegpdbgaaW.PrintWords Go.Proofs.YtkkbdimegpdbgaaW.PrintLast Go.Proofs.YtkkbdimegpdbgaaW.PrintMore
attribute [local go_sem] kK kM Qb Qc uV uU kL kN
set_option linter.unusedVariables false
set_option linter.unusedSimpArgs false
def kS.f (k : Nat) (l0_0 : List (S58)) (a1_0 : Int) (a1_1 : Int) (l1_2 : List (S28)) : Option (Bool):=(zK.f k l0_0).bind fun t675=>(if t675 = 0 then ((jW.f k a1_0 a1_1 l1_2).bind fun t676=>(if t676 ≤ 20000 then ((qR.f k l0_0 a1_0 a1_1 l1_2 0 0).bind fun t677=>(some t677)) else (some false))) else (some false))
set_option maxHeartbeats 8000000 in
set_option maxRecDepth 100000 in
theorem kS.calls (k : Nat) (A0_0 : Option Addr) (c0_0 : Nat) (l0_0 : List (S58)) (a1_0 : Int) (a1_1 : Int) (A1_2 : Option Addr) (c1_2 : Nat) (l1_2 : List (S28)) (r : Bool) (w : World) (hr0_0 : Kd.C k58 w A0_0 l0_0.length l0_0) (hc0_0 : l0_0.length ≤ c0_0) (hr1_2 : Kd.C k28 w A1_2 l1_2.length l1_2) (hc1_2 : l1_2.length ≤ c1_2) (h : kS.f k l0_0 a1_0 a1_1 l1_2 = some r) :
  Calls Try.prog 21 #[.agg #[.slice A0_0 l0_0.length c0_0],.agg #[.int .i64 a1_0,.int .i64 a1_1,.slice A1_2 l1_2.length c1_2]] w fun e w'=>e = .returned (.bool r)∧Below w.heap.size w w':=by
 have hu25:=Try.underlying25
 have hu28:=Try.underlying28
 have HR0_0:=qA.mk hr0_0
 have HC0_0:=qA.mk hc0_0
 clear hr0_0 hc0_0
 have HR1_2:=qA.mk hr1_2
 have HC1_2:=qA.mk hc1_2
 clear hr1_2 hc1_2
 have HB:=qA.mk (Below.refl w.heap.size w)
 unfold kS.f at h
 have H:=h
 clear h
 replace H:=Option.bind_eq_some_iff.mp H
 obtain ⟨t675,A30,H⟩:=H
 try dsimp only at H
 have A3:=qA.mk A30
 clear A30
 by_cases c4 : t675 = 0
 ·rw [if_pos c4] at H
  obtain ⟨c4b0,c4b1⟩:=eqT c4
  clear c4
  replace H:=Option.bind_eq_some_iff.mp H
  obtain ⟨t676,A50,H⟩:=H
  try dsimp only at H
  have A5:=qA.mk A50
  clear A50
  by_cases c6 : t676 ≤ 20000
  ·rw [if_pos c6] at H
   have c6b0:=decide_eq_true c6
   clear c6
   replace H:=Option.bind_eq_some_iff.mp H
   obtain ⟨t677,A70,H⟩:=H
   try dsimp only at H
   have A7:=qA.mk A70
   clear A70
   obtain rfl:=Option.some.inj H
   go_enter Try.func21,Try.ntmps21
   go_wp2_with (first|((with_reducible refine qO (N:=2) rfl ?_);refine zM (N:=2) (cs:=#[.slice A0_0 l0_0.length c0_0]) (t:=25) ?_;intro gb673 hg w8 hbox hb;have n_:=q_4 (qB byab hb) (hbox) ((bych : w.heap.size ≤ gb673)) ((bych : w.heap.size ≤ gb673));clear HB;obtain ⟨HB,BK673,GW673,GE673⟩:=n_;clear hb hbox hg)|((with_reducible refine qO (N:=3) rfl ?_);refine zM (N:=3) (cs:=#[.int .i64 a1_0,.int .i64 a1_1,.slice A1_2 l1_2.length c1_2]) (t:=28) ?_;intro gb674 hg w9 hbox hb;have n_:=q_6 (qE BK673.out hb) (qB (byad GE673.out) hb) (hbox) ((byci GE673.out : w.heap.size ≤ gb674)) ((byci GE673.out : w.heap.size ≤ gb674)) ((by rw [hg];exact Nat.ne_of_lt (jZ BK673.out) : gb673≠gb674));clear BK673 HB;obtain ⟨BK673,HB,BK674,GW674,GE674,NB673_674⟩:=n_;have NB674_673:=ns NB673_674;clear hb hbox hg;have hnb10:=NB673_674.out;have hnc10:=NB674_673.out;obtain ⟨hcz11_0,hfz11_0⟩:=cz1 BK673.out)|((with_reducible refine qI (f:=37) rfl ?_);refine zA (some 6) rfl rfl Try.func37 (by kernel_rfl) rfl #[.agg #[.slice A0_0 l0_0.length c0_0]] rfl byah ?_;(with_reducible refine (zK.calls k _ _ l0_0 t675 _ ?side1 ?side2 A3.out).mono ?_);(case side1=>exact byaq HR0_0.out);(case side2=>exact HC0_0.out);rintro e w12 ⟨rfl,hb⟩;refine ⟨_,rfl,?_⟩;have n_:=q_3 (qE BK673.out hb) (qE BK674.out hb) (qB (byaj GE673.out GE674.out) hb);clear BK673 BK674 HB;obtain ⟨BK673,BK674,HB⟩:=n_;clear hb;obtain ⟨hcz13_0,hcz13_1,hcz13_2,hfz13_0,hfz13_1,hfz13_2⟩:=cz3 BK674.out)|(go_at_call 23;(with_reducible refine (jW.calls k a1_0 a1_1 _ _ l1_2 t676 _ ?side1 ?side2 A5.out).mono ?_);(case side1=>exact byaq HR1_2.out);(case side2=>exact HC1_2.out);rintro e w14 ⟨rfl,hb⟩;have n_:=q_3 (qE BK673.out hb) (qE BK674.out hb) (qB (byaj GE673.out GE674.out) hb);clear BK673 BK674 HB;obtain ⟨BK673,BK674,HB⟩:=n_;clear hb;obtain ⟨hcz15_0,hfz15_0⟩:=cz1 BK673.out;obtain ⟨hcz16_0,hcz16_1,hcz16_2,hfz16_0,hfz16_1,hfz16_2⟩:=cz3 BK674.out)|(go_at_call 42;(with_reducible refine (qR.calls k _ _ l0_0 a1_0 a1_1 _ _ l1_2 0 0 t677 _ ?side1 ?side2 ?side3 ?side4 A7.out).mono ?_);(case side1=>exact byaq HR0_0.out);(case side2=>exact HC0_0.out);(case side3=>exact byaq HR1_2.out);(case side4=>exact HC1_2.out);rintro e w17 ⟨rfl,hb⟩;have n_:=q_3 (qE BK673.out hb) (qE BK674.out hb) (qB (byaj GE673.out GE674.out) hb);clear BK673 BK674 HB;obtain ⟨BK673,BK674,HB⟩:=n_;clear hb))
   go_ret
   exact ⟨byac,byaj GE673.out GE674.out⟩
  ·rw [if_neg c6] at H
   have c6b0:=decide_eq_false c6
   clear c6
   obtain rfl:=Option.some.inj H
   go_enter Try.func21,Try.ntmps21
   go_wp2_with (first|((with_reducible refine qO (N:=2) rfl ?_);refine zM (N:=2) (cs:=#[.slice A0_0 l0_0.length c0_0]) (t:=25) ?_;intro gb673 hg w18 hbox hb;have n_:=q_4 (qB byab hb) (hbox) ((bych : w.heap.size ≤ gb673)) ((bych : w.heap.size ≤ gb673));clear HB;obtain ⟨HB,BK673,GW673,GE673⟩:=n_;clear hb hbox hg)|((with_reducible refine qO (N:=3) rfl ?_);refine zM (N:=3) (cs:=#[.int .i64 a1_0,.int .i64 a1_1,.slice A1_2 l1_2.length c1_2]) (t:=28) ?_;intro gb674 hg w19 hbox hb;have n_:=q_6 (qE BK673.out hb) (qB (byad GE673.out) hb) (hbox) ((byci GE673.out : w.heap.size ≤ gb674)) ((byci GE673.out : w.heap.size ≤ gb674)) ((by rw [hg];exact Nat.ne_of_lt (jZ BK673.out) : gb673≠gb674));clear BK673 HB;obtain ⟨BK673,HB,BK674,GW674,GE674,NB673_674⟩:=n_;have NB674_673:=ns NB673_674;clear hb hbox hg;have hnb20:=NB673_674.out;have hnc20:=NB674_673.out;obtain ⟨hcz21_0,hfz21_0⟩:=cz1 BK673.out)|((with_reducible refine qI (f:=37) rfl ?_);refine zA (some 6) rfl rfl Try.func37 (by kernel_rfl) rfl #[.agg #[.slice A0_0 l0_0.length c0_0]] rfl byah ?_;(with_reducible refine (zK.calls k _ _ l0_0 t675 _ ?side1 ?side2 A3.out).mono ?_);(case side1=>exact byaq HR0_0.out);(case side2=>exact HC0_0.out);rintro e w22 ⟨rfl,hb⟩;refine ⟨_,rfl,?_⟩;have n_:=q_3 (qE BK673.out hb) (qE BK674.out hb) (qB (byaj GE673.out GE674.out) hb);clear BK673 BK674 HB;obtain ⟨BK673,BK674,HB⟩:=n_;clear hb;obtain ⟨hcz23_0,hcz23_1,hcz23_2,hfz23_0,hfz23_1,hfz23_2⟩:=cz3 BK674.out)|(go_at_call 23;(with_reducible refine (jW.calls k a1_0 a1_1 _ _ l1_2 t676 _ ?side1 ?side2 A5.out).mono ?_);(case side1=>exact byaq HR1_2.out);(case side2=>exact HC1_2.out);rintro e w24 ⟨rfl,hb⟩;have n_:=q_3 (qE BK673.out hb) (qE BK674.out hb) (qB (byaj GE673.out GE674.out) hb);clear BK673 BK674 HB;obtain ⟨BK673,BK674,HB⟩:=n_;clear hb))
   go_ret
   exact ⟨byac,byaj GE673.out GE674.out⟩
 ·rw [if_neg c4] at H
  obtain ⟨c4b0,c4b1⟩:=eqF c4
  obtain rfl:=Option.some.inj H
  go_enter Try.func21,Try.ntmps21
  go_wp2_with (first|((with_reducible refine qO (N:=2) rfl ?_);refine zM (N:=2) (cs:=#[.slice A0_0 l0_0.length c0_0]) (t:=25) ?_;intro gb673 hg w25 hbox hb;have n_:=q_4 (qB byab hb) (hbox) ((bych : w.heap.size ≤ gb673)) ((bych : w.heap.size ≤ gb673));clear HB;obtain ⟨HB,BK673,GW673,GE673⟩:=n_;clear hb hbox hg)|((with_reducible refine qO (N:=3) rfl ?_);refine zM (N:=3) (cs:=#[.int .i64 a1_0,.int .i64 a1_1,.slice A1_2 l1_2.length c1_2]) (t:=28) ?_;intro gb674 hg w26 hbox hb;have n_:=q_6 (qE BK673.out hb) (qB (byad GE673.out) hb) (hbox) ((byci GE673.out : w.heap.size ≤ gb674)) ((byci GE673.out : w.heap.size ≤ gb674)) ((by rw [hg];exact Nat.ne_of_lt (jZ BK673.out) : gb673≠gb674));clear BK673 HB;obtain ⟨BK673,HB,BK674,GW674,GE674,NB673_674⟩:=n_;have NB674_673:=ns NB673_674;clear hb hbox hg;have hnb27:=NB673_674.out;have hnc27:=NB674_673.out;obtain ⟨hcz28_0,hfz28_0⟩:=cz1 BK673.out)|((with_reducible refine qI (f:=37) rfl ?_);refine zA (some 6) rfl rfl Try.func37 (by kernel_rfl) rfl #[.agg #[.slice A0_0 l0_0.length c0_0]] rfl byah ?_;(with_reducible refine (zK.calls k _ _ l0_0 t675 _ ?side1 ?side2 A3.out).mono ?_);(case side1=>exact byaq HR0_0.out);(case side2=>exact HC0_0.out);rintro e w29 ⟨rfl,hb⟩;refine ⟨_,rfl,?_⟩;have n_:=q_3 (qE BK673.out hb) (qE BK674.out hb) (qB (byaj GE673.out GE674.out) hb);clear BK673 BK674 HB;obtain ⟨BK673,BK674,HB⟩:=n_;clear hb))
  go_ret
  exact ⟨byac,byaj GE673.out GE674.out⟩
end Go.Proofs.Ytkkbdimegpdbgaa.P
