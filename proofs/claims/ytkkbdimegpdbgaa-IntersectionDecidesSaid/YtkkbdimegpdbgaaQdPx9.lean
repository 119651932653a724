/- Functions of the program as Lean functions, and the walks that show that the calls answer so; written by a program of this session (a changed print) and by hand. -/
import Derived.Test.YtkkbdimegpdbgaaQdPx0
import Derived.Test.YtkkbdimegpdbgaaQdPx3
import Derived.Test.YtkkbdimegpdbgaaQdPx7
import Derived.Test.YtkkbdimegpdbgaaQdPx8
namespace Go.Proofs.Ytkkbdimegpdbgaa.P
open Go.RowKit Go.Proofs.YtkkbdimegpdbgaaW.PrintWords Go.Proofs.YtkkbdimegpdbgaaW.PrintLast Go.Proofs.YtkkbdimegpdbgaaW.PrintMore
attribute [local go_sem] uH uI uQ uR vW vV uF uG
set_option linter.unusedVariables false
set_option linter.unusedSimpArgs false
def jP.f (k : Nat) (l0_0 : List (S58)) (a1_0 : Int) (a1_1 : Int) (l1_2 : List (S28)) : Option (Bool):=(zB.f k l0_0).bind fun t260=>(if t260 = 0 then ((zH.f k a1_0 a1_1 l1_2).bind fun t261=>(if t261 ≤ 20000 then ((qL.f k l0_0 a1_0 a1_1 l1_2 0 0).bind fun t262=>(some t262)) else (some false))) else (some false))
theorem jP.mono : ∀ a0 a1 a2 a3 k,LeO (jP.f k a0 a1 a2 a3) (jP.f (k + 1) a0 a1 a2 a3):=by
 intro a0 a1 a2 a3 k
 unfold jP.f
 repeat' first
   | (with_reducible exact zB.mono _ _)
   | (with_reducible exact zH.mono _ _ _ _)
   | (with_reducible exact qL.mono _ _ _ _ _ _ _)
   | (with_reducible exact LeO.refl _)
   | (with_reducible exact LeO.none _)
   | (with_reducible refine LeO.ite ?_ ?_)
   | (with_reducible refine LeO.bind ?_ (fun _=>?_))
   | exact zB.mono _ _
   | exact zH.mono _ _ _ _
   | exact qL.mono _ _ _ _ _ _ _
   | exact LeO.none _
   | refine LeO.ite ?_ ?_
   | refine LeO.bind ?_ (fun _=>?_)
set_option maxHeartbeats 8000000 in
set_option maxRecDepth 100000 in
theorem jP.calls (k : Nat) (A0_0 : Option Addr) (c0_0 : Nat) (l0_0 : List (S58)) (a1_0 : Int) (a1_1 : Int) (A1_2 : Option Addr) (c1_2 : Nat) (l1_2 : List (S28)) (r : Bool) (w : World) (hr0_0 : Kd.C k58 w A0_0 l0_0.length l0_0) (hc0_0 : l0_0.length ≤ c0_0) (hr1_2 : Kd.C k28 w A1_2 l1_2.length l1_2) (hc1_2 : l1_2.length ≤ c1_2) (h : jP.f k l0_0 a1_0 a1_1 l1_2 = some r) :
  Calls Try.prog 20 #[.agg #[.slice A0_0 l0_0.length c0_0],.agg #[.int .i64 a1_0,.int .i64 a1_1,.slice A1_2 l1_2.length c1_2]] w fun e w'=>e = .returned (.bool r)∧Below w.heap.size w w':=by
 have hu25:=Try.underlying25
 have hu28:=Try.underlying28
 have HR0_0:=qA.mk hr0_0
 have HC0_0:=qA.mk hc0_0
 clear hr0_0 hc0_0
 have HR1_2:=qA.mk hr1_2
 have HC1_2:=qA.mk hc1_2
 clear hr1_2 hc1_2
 have HB:=qA.mk (Below.refl w.heap.size w)
 have H : ((zB.f k l0_0).bind fun t260=>(if t260 = 0 then ((zH.f k a1_0 a1_1 l1_2).bind fun t261=>(if t261 ≤ 20000 then ((qL.f k l0_0 a1_0 a1_1 l1_2 0 0).bind fun t262=>(some t262)) else (some false))) else (some false))) = some r:=h
 clear h
 replace H:=Option.bind_eq_some_iff.mp H
 obtain ⟨t260,A30,H⟩:=H
 replace H : (if t260 = 0 then ((zH.f k a1_0 a1_1 l1_2).bind fun t261=>(if t261 ≤ 20000 then ((qL.f k l0_0 a1_0 a1_1 l1_2 0 0).bind fun t262=>(some t262)) else (some false))) else (some false)) = some r:=H
 have A3:=qA.mk A30
 clear A30
 by_cases c4 : t260 = 0
 ·rw [if_pos c4] at H
  have c4b0 : (t260 == 0) = true:=beq_iff_eq.mpr c4
  have c4b1 : (t260 != 0) = false:=bne_eq_false_iff_eq.mpr c4
  clear c4
  replace H:=Option.bind_eq_some_iff.mp H
  obtain ⟨t261,A50,H⟩:=H
  replace H : (if t261 ≤ 20000 then ((qL.f k l0_0 a1_0 a1_1 l1_2 0 0).bind fun t262=>(some t262)) else (some false)) = some r:=H
  have A5:=qA.mk A50
  clear A50
  by_cases c6 : t261 ≤ 20000
  ·rw [if_pos c6] at H
   have c6b0 : decide (t261 ≤ 20000) = true:=decide_eq_true c6
   clear c6
   replace H:=Option.bind_eq_some_iff.mp H
   obtain ⟨t262,A70,H⟩:=H
   replace H : (some t262) = some r:=H
   have A7:=qA.mk A70
   clear A70
   obtain rfl:=Option.some.inj H
   go_enter Try.func20,Try.ntmps20
   go_wp2_with (first|((with_reducible refine zK (N:=2) rfl ?_);refine q9 ?hg (N:=2) ?hd (cs:=#[.slice A0_0 l0_0.length c0_0]) (t:=25) ?hr ?_;(case hd=>rfl);(case hg=>rfl);(case hr=>exact byaa);intro gb258 hg w8 hbox hb;have n0_:=qA.mk (qE byab hb);have n1_:=qA.mk (hbox);have n2_:=qA.mk ((byby : w.heap.size ≤ gb258));have n3_:=qA.mk ((byby : w.heap.size ≤ gb258));clear HB;have HB:=n0_;have BK258:=n1_;have GW258:=n2_;have GE258:=n3_;clear n0_ n1_ n2_ n3_;clear hb hbox hg)|((with_reducible refine zK (N:=3) rfl ?_);refine q9 ?hg (N:=3) ?hd (cs:=#[.int .i64 a1_0,.int .i64 a1_1,.slice A1_2 l1_2.length c1_2]) (t:=28) ?hr ?_;(case hd=>rfl);(case hg=>rfl);(case hr=>exact byaa);intro gb259 hg w9 hbox hb;have n0_:=qA.mk (qH (g:=gb258) (o:=.cells #[.slice A0_0 l0_0.length c0_0] 25 (0,0)) (byaf BK258.out) hb);have n1_:=qA.mk (qE (byad GE258.out) hb);have n2_:=qA.mk (hbox);have n3_:=qA.mk ((bybz GE258.out : w.heap.size ≤ gb259));have n4_:=qA.mk ((bybz GE258.out : w.heap.size ≤ gb259));have n5_:=qA.mk ((by rw [hg];exact Nat.ne_of_lt (jF (g:=gb258) (o:=.cells #[.slice A0_0 l0_0.length c0_0] 25 (0,0)) (byaf BK258.out)) : gb258≠gb259));have n6_:=qA.mk ((by rw [hg];exact Nat.ne_of_gt (jF (g:=gb258) (o:=.cells #[.slice A0_0 l0_0.length c0_0] 25 (0,0)) (byaf BK258.out)) : gb259≠gb258));clear BK258;clear HB;have BK258:=n0_;have HB:=n1_;have BK259:=n2_;have GW259:=n3_;have GE259:=n4_;have NB258_259:=n5_;have NB259_258:=n6_;clear n0_ n1_ n2_ n3_ n4_ n5_ n6_;clear hb hbox hg;have hnb10:=NB258_259.out;have hnc10:=NB259_258.out;have hcz11_0 : w9.cell? ⟨gb258,0,none⟩ = some (.slice A0_0 l0_0.length c0_0):=(qC BK258.out 0).trans rfl;have hfz11_0:=qB BK258.out 0)|((with_reducible refine qI (f:=35) rfl ?_);refine zL (some 6) rfl rfl Try.func35 (by kernel_rfl) rfl #[.agg #[.slice A0_0 l0_0.length c0_0]] rfl byah ?_;(with_reducible refine (zB.calls k _ _ l0_0 t260 _ ?side1 ?side2 A3.out).mono ?_);(case side1=>exact byaq HR0_0.out);(case side2=>exact HC0_0.out);rintro e w12 ⟨rfl,hb⟩;refine ⟨_,rfl,?_⟩;have n0_:=qA.mk (qH (g:=gb258) (o:=.cells #[.slice A0_0 l0_0.length c0_0] 25 (0,0)) (byaf BK258.out) hb);have n1_:=qA.mk (qH (g:=gb259) (o:=.cells #[.int .i64 a1_0,.int .i64 a1_1,.slice A1_2 l1_2.length c1_2] 28 (0,0)) (byaf BK259.out) hb);have n2_:=qA.mk (qE (byaj GE258.out GE259.out) hb);clear BK258;clear BK259;clear HB;have BK258:=n0_;have BK259:=n1_;have HB:=n2_;clear n0_ n1_ n2_;(try clear hb);(try clear hb2);(try clear hk);(try clear hi);have hcz13_0 : w12.cell? ⟨gb259,0,none⟩ = some (.int .i64 a1_0):=(qC BK259.out 0).trans rfl;have hcz13_1 : w12.cell? ⟨gb259,1,none⟩ = some (.int .i64 a1_1):=(qC BK259.out 1).trans rfl;have hcz13_2 : w12.cell? ⟨gb259,2,none⟩ = some (.slice A1_2 l1_2.length c1_2):=(qC BK259.out 2).trans rfl;have hfz13_0:=qB BK259.out 0;have hfz13_1:=qB BK259.out 1;have hfz13_2:=qB BK259.out 2)|(go_at_call 22;(with_reducible refine (zH.calls k a1_0 a1_1 _ _ l1_2 t261 _ ?side1 ?side2 A5.out).mono ?_);(case side1=>exact byaq HR1_2.out);(case side2=>exact HC1_2.out);rintro e w14 ⟨rfl,hb⟩;have n0_:=qA.mk (qH (g:=gb258) (o:=.cells #[.slice A0_0 l0_0.length c0_0] 25 (0,0)) (byaf BK258.out) hb);have n1_:=qA.mk (qH (g:=gb259) (o:=.cells #[.int .i64 a1_0,.int .i64 a1_1,.slice A1_2 l1_2.length c1_2] 28 (0,0)) (byaf BK259.out) hb);have n2_:=qA.mk (qE (byaj GE258.out GE259.out) hb);clear BK258;clear BK259;clear HB;have BK258:=n0_;have BK259:=n1_;have HB:=n2_;clear n0_ n1_ n2_;(try clear hb);(try clear hb2);(try clear hk);(try clear hi);have hcz15_0 : w14.cell? ⟨gb258,0,none⟩ = some (.slice A0_0 l0_0.length c0_0):=(qC BK258.out 0).trans rfl;have hfz15_0:=qB BK258.out 0;have hcz16_0 : w14.cell? ⟨gb259,0,none⟩ = some (.int .i64 a1_0):=(qC BK259.out 0).trans rfl;have hcz16_1 : w14.cell? ⟨gb259,1,none⟩ = some (.int .i64 a1_1):=(qC BK259.out 1).trans rfl;have hcz16_2 : w14.cell? ⟨gb259,2,none⟩ = some (.slice A1_2 l1_2.length c1_2):=(qC BK259.out 2).trans rfl;have hfz16_0:=qB BK259.out 0;have hfz16_1:=qB BK259.out 1;have hfz16_2:=qB BK259.out 2)|(go_at_call 41;(with_reducible refine (qL.calls k _ _ l0_0 a1_0 a1_1 _ _ l1_2 0 0 t262 _ ?side1 ?side2 ?side3 ?side4 A7.out).mono ?_);(case side1=>exact byaq HR0_0.out);(case side2=>exact HC0_0.out);(case side3=>exact byaq HR1_2.out);(case side4=>exact HC1_2.out);rintro e w17 ⟨rfl,hb⟩;have n0_:=qA.mk (qH (g:=gb258) (o:=.cells #[.slice A0_0 l0_0.length c0_0] 25 (0,0)) (byaf BK258.out) hb);have n1_:=qA.mk (qH (g:=gb259) (o:=.cells #[.int .i64 a1_0,.int .i64 a1_1,.slice A1_2 l1_2.length c1_2] 28 (0,0)) (byaf BK259.out) hb);have n2_:=qA.mk (qE (byaj GE258.out GE259.out) hb);clear BK258;clear BK259;clear HB;have BK258:=n0_;have BK259:=n1_;have HB:=n2_;clear n0_ n1_ n2_;(try clear hb);(try clear hb2);(try clear hk);(try clear hi)))
   go_ret
   exact ⟨byac,byaj GE258.out GE259.out⟩
  ·rw [if_neg c6] at H
   have c6b0 : decide (t261 ≤ 20000) = false:=decide_eq_false c6
   clear c6
   obtain rfl:=Option.some.inj H
   go_enter Try.func20,Try.ntmps20
   go_wp2_with (first|((with_reducible refine zK (N:=2) rfl ?_);refine q9 ?hg (N:=2) ?hd (cs:=#[.slice A0_0 l0_0.length c0_0]) (t:=25) ?hr ?_;(case hd=>rfl);(case hg=>rfl);(case hr=>exact byaa);intro gb258 hg w18 hbox hb;have n0_:=qA.mk (qE byab hb);have n1_:=qA.mk (hbox);have n2_:=qA.mk ((byby : w.heap.size ≤ gb258));have n3_:=qA.mk ((byby : w.heap.size ≤ gb258));clear HB;have HB:=n0_;have BK258:=n1_;have GW258:=n2_;have GE258:=n3_;clear n0_ n1_ n2_ n3_;clear hb hbox hg)|((with_reducible refine zK (N:=3) rfl ?_);refine q9 ?hg (N:=3) ?hd (cs:=#[.int .i64 a1_0,.int .i64 a1_1,.slice A1_2 l1_2.length c1_2]) (t:=28) ?hr ?_;(case hd=>rfl);(case hg=>rfl);(case hr=>exact byaa);intro gb259 hg w19 hbox hb;have n0_:=qA.mk (qH (g:=gb258) (o:=.cells #[.slice A0_0 l0_0.length c0_0] 25 (0,0)) (byaf BK258.out) hb);have n1_:=qA.mk (qE (byad GE258.out) hb);have n2_:=qA.mk (hbox);have n3_:=qA.mk ((bybz GE258.out : w.heap.size ≤ gb259));have n4_:=qA.mk ((bybz GE258.out : w.heap.size ≤ gb259));have n5_:=qA.mk ((by rw [hg];exact Nat.ne_of_lt (jF (g:=gb258) (o:=.cells #[.slice A0_0 l0_0.length c0_0] 25 (0,0)) (byaf BK258.out)) : gb258≠gb259));have n6_:=qA.mk ((by rw [hg];exact Nat.ne_of_gt (jF (g:=gb258) (o:=.cells #[.slice A0_0 l0_0.length c0_0] 25 (0,0)) (byaf BK258.out)) : gb259≠gb258));clear BK258;clear HB;have BK258:=n0_;have HB:=n1_;have BK259:=n2_;have GW259:=n3_;have GE259:=n4_;have NB258_259:=n5_;have NB259_258:=n6_;clear n0_ n1_ n2_ n3_ n4_ n5_ n6_;clear hb hbox hg;have hnb20:=NB258_259.out;have hnc20:=NB259_258.out;have hcz21_0 : w19.cell? ⟨gb258,0,none⟩ = some (.slice A0_0 l0_0.length c0_0):=(qC BK258.out 0).trans rfl;have hfz21_0:=qB BK258.out 0)|((with_reducible refine qI (f:=35) rfl ?_);refine zL (some 6) rfl rfl Try.func35 (by kernel_rfl) rfl #[.agg #[.slice A0_0 l0_0.length c0_0]] rfl byah ?_;(with_reducible refine (zB.calls k _ _ l0_0 t260 _ ?side1 ?side2 A3.out).mono ?_);(case side1=>exact byaq HR0_0.out);(case side2=>exact HC0_0.out);rintro e w22 ⟨rfl,hb⟩;refine ⟨_,rfl,?_⟩;have n0_:=qA.mk (qH (g:=gb258) (o:=.cells #[.slice A0_0 l0_0.length c0_0] 25 (0,0)) (byaf BK258.out) hb);have n1_:=qA.mk (qH (g:=gb259) (o:=.cells #[.int .i64 a1_0,.int .i64 a1_1,.slice A1_2 l1_2.length c1_2] 28 (0,0)) (byaf BK259.out) hb);have n2_:=qA.mk (qE (byaj GE258.out GE259.out) hb);clear BK258;clear BK259;clear HB;have BK258:=n0_;have BK259:=n1_;have HB:=n2_;clear n0_ n1_ n2_;(try clear hb);(try clear hb2);(try clear hk);(try clear hi);have hcz23_0 : w22.cell? ⟨gb259,0,none⟩ = some (.int .i64 a1_0):=(qC BK259.out 0).trans rfl;have hcz23_1 : w22.cell? ⟨gb259,1,none⟩ = some (.int .i64 a1_1):=(qC BK259.out 1).trans rfl;have hcz23_2 : w22.cell? ⟨gb259,2,none⟩ = some (.slice A1_2 l1_2.length c1_2):=(qC BK259.out 2).trans rfl;have hfz23_0:=qB BK259.out 0;have hfz23_1:=qB BK259.out 1;have hfz23_2:=qB BK259.out 2)|(go_at_call 22;(with_reducible refine (zH.calls k a1_0 a1_1 _ _ l1_2 t261 _ ?side1 ?side2 A5.out).mono ?_);(case side1=>exact byaq HR1_2.out);(case side2=>exact HC1_2.out);rintro e w24 ⟨rfl,hb⟩;have n0_:=qA.mk (qH (g:=gb258) (o:=.cells #[.slice A0_0 l0_0.length c0_0] 25 (0,0)) (byaf BK258.out) hb);have n1_:=qA.mk (qH (g:=gb259) (o:=.cells #[.int .i64 a1_0,.int .i64 a1_1,.slice A1_2 l1_2.length c1_2] 28 (0,0)) (byaf BK259.out) hb);have n2_:=qA.mk (qE (byaj GE258.out GE259.out) hb);clear BK258;clear BK259;clear HB;have BK258:=n0_;have BK259:=n1_;have HB:=n2_;clear n0_ n1_ n2_;(try clear hb);(try clear hb2);(try clear hk);(try clear hi)))
   go_ret
   exact ⟨byac,byaj GE258.out GE259.out⟩
 ·rw [if_neg c4] at H
  have c4b0 : (t260 == 0) = false:=beq_eq_false_iff_ne.mpr c4
  have c4b1 : (t260 != 0) = true:=bne_iff_ne.mpr c4
  obtain rfl:=Option.some.inj H
  go_enter Try.func20,Try.ntmps20
  go_wp2_with (first|((with_reducible refine zK (N:=2) rfl ?_);refine q9 ?hg (N:=2) ?hd (cs:=#[.slice A0_0 l0_0.length c0_0]) (t:=25) ?hr ?_;(case hd=>rfl);(case hg=>rfl);(case hr=>exact byaa);intro gb258 hg w25 hbox hb;have n0_:=qA.mk (qE byab hb);have n1_:=qA.mk (hbox);have n2_:=qA.mk ((byby : w.heap.size ≤ gb258));have n3_:=qA.mk ((byby : w.heap.size ≤ gb258));clear HB;have HB:=n0_;have BK258:=n1_;have GW258:=n2_;have GE258:=n3_;clear n0_ n1_ n2_ n3_;clear hb hbox hg)|((with_reducible refine zK (N:=3) rfl ?_);refine q9 ?hg (N:=3) ?hd (cs:=#[.int .i64 a1_0,.int .i64 a1_1,.slice A1_2 l1_2.length c1_2]) (t:=28) ?hr ?_;(case hd=>rfl);(case hg=>rfl);(case hr=>exact byaa);intro gb259 hg w26 hbox hb;have n0_:=qA.mk (qH (g:=gb258) (o:=.cells #[.slice A0_0 l0_0.length c0_0] 25 (0,0)) (byaf BK258.out) hb);have n1_:=qA.mk (qE (byad GE258.out) hb);have n2_:=qA.mk (hbox);have n3_:=qA.mk ((bybz GE258.out : w.heap.size ≤ gb259));have n4_:=qA.mk ((bybz GE258.out : w.heap.size ≤ gb259));have n5_:=qA.mk ((by rw [hg];exact Nat.ne_of_lt (jF (g:=gb258) (o:=.cells #[.slice A0_0 l0_0.length c0_0] 25 (0,0)) (byaf BK258.out)) : gb258≠gb259));have n6_:=qA.mk ((by rw [hg];exact Nat.ne_of_gt (jF (g:=gb258) (o:=.cells #[.slice A0_0 l0_0.length c0_0] 25 (0,0)) (byaf BK258.out)) : gb259≠gb258));clear BK258;clear HB;have BK258:=n0_;have HB:=n1_;have BK259:=n2_;have GW259:=n3_;have GE259:=n4_;have NB258_259:=n5_;have NB259_258:=n6_;clear n0_ n1_ n2_ n3_ n4_ n5_ n6_;clear hb hbox hg;have hnb27:=NB258_259.out;have hnc27:=NB259_258.out;have hcz28_0 : w26.cell? ⟨gb258,0,none⟩ = some (.slice A0_0 l0_0.length c0_0):=(qC BK258.out 0).trans rfl;have hfz28_0:=qB BK258.out 0)|((with_reducible refine qI (f:=35) rfl ?_);refine zL (some 6) rfl rfl Try.func35 (by kernel_rfl) rfl #[.agg #[.slice A0_0 l0_0.length c0_0]] rfl byah ?_;(with_reducible refine (zB.calls k _ _ l0_0 t260 _ ?side1 ?side2 A3.out).mono ?_);(case side1=>exact byaq HR0_0.out);(case side2=>exact HC0_0.out);rintro e w29 ⟨rfl,hb⟩;refine ⟨_,rfl,?_⟩;have n0_:=qA.mk (qH (g:=gb258) (o:=.cells #[.slice A0_0 l0_0.length c0_0] 25 (0,0)) (byaf BK258.out) hb);have n1_:=qA.mk (qH (g:=gb259) (o:=.cells #[.int .i64 a1_0,.int .i64 a1_1,.slice A1_2 l1_2.length c1_2] 28 (0,0)) (byaf BK259.out) hb);have n2_:=qA.mk (qE (byaj GE258.out GE259.out) hb);clear BK258;clear BK259;clear HB;have BK258:=n0_;have BK259:=n1_;have HB:=n2_;clear n0_ n1_ n2_;(try clear hb);(try clear hb2);(try clear hk);(try clear hi)))
  go_ret
  exact ⟨byac,byaj GE258.out GE259.out⟩
mutual
def qN.l0 : Nat→Int→Int→Int→List Int→Option ((List (S58)))
 | 0,_,_,_,_=>none
 | k + 1,x0,x6,x265000,x265001=>if x6 < x0 then (if x265001.length < 17592186044416 then (qN.l0 k x0 (wrap64 (x6 + 1)) x265000 (x265001 ++ [x6])) else (none)) else (qN.l1 k x0 0 x265000 x265001 ([] : List (S58)))
def qN.l1 : Nat→Int→Int→Int→List Int→List (S58)→Option ((List (S58)))
 | 0,_,_,_,_,_=>none
 | k + 1,x0,x8,x265000,x265001,x269000=>if x8 < x0 then (if x269000.length < 2199023255552 then (qN.l1 k x0 (wrap64 (x8 + 1)) x265000 x265001 (x269000 ++ [(⟨true,(⟨x265000,x265001,([] : List (S56))⟩ : S56)⟩ : S58)])) else (none)) else (some x269000)
end
def qN.f (k : Nat) (a0 : Int) (a1 : Int) : Option ((List (S58))):=qN.l0 k a0 0 a1 ([] : List Int)
theorem qN.mono_l : ∀ k,(∀ y0 y1 y2 y3,LeO (qN.l0 k y0 y1 y2 y3) (qN.l0 (k + 1) y0 y1 y2 y3))∧(∀ y0 y1 y2 y3 y4,LeO (qN.l1 k y0 y1 y2 y3 y4) (qN.l1 (k + 1) y0 y1 y2 y3 y4))
 | 0=>⟨fun _ _ _ _ r h=>by simp [qN.l0] at h,fun _ _ _ _ _ r h=>by simp [qN.l1] at h⟩
 | k + 1=>by
  obtain ⟨ih0,ih1⟩:=qN.mono_l k
  refine ⟨?_,?_⟩
  ·intro y0 y1 y2 y3
   unfold qN.l0
   repeat' first
   | (with_reducible exact ih0 _ _ _ _)
   | (with_reducible exact ih1 _ _ _ _ _)
   | (with_reducible exact LeO.refl _)
   | (with_reducible exact LeO.none _)
   | (with_reducible refine LeO.ite ?_ ?_)
   | (with_reducible refine LeO.bind ?_ (fun _=>?_))
   | exact ih0 _ _ _ _
   | exact ih1 _ _ _ _ _
   | exact LeO.none _
   | refine LeO.ite ?_ ?_
   | refine LeO.bind ?_ (fun _=>?_)
  ·intro y0 y1 y2 y3 y4
   unfold qN.l1
   repeat' first
   | (with_reducible exact ih0 _ _ _ _)
   | (with_reducible exact ih1 _ _ _ _ _)
   | (with_reducible exact LeO.refl _)
   | (with_reducible exact LeO.none _)
   | (with_reducible refine LeO.ite ?_ ?_)
   | (with_reducible refine LeO.bind ?_ (fun _=>?_))
   | exact ih0 _ _ _ _
   | exact ih1 _ _ _ _ _
   | exact LeO.none _
   | refine LeO.ite ?_ ?_
   | refine LeO.bind ?_ (fun _=>?_)
theorem qN.mono : ∀ a0 a1 k,LeO (qN.f k a0 a1) (qN.f (k + 1) a0 a1):=by
 intro a0 a1 k
 obtain ⟨ih0,ih1⟩:=qN.mono_l k
 unfold qN.f
 repeat' first
   | (with_reducible exact ih0 _ _ _ _)
   | (with_reducible exact ih1 _ _ _ _ _)
   | (with_reducible exact LeO.refl _)
   | (with_reducible exact LeO.none _)
   | (with_reducible refine LeO.ite ?_ ?_)
   | (with_reducible refine LeO.bind ?_ (fun _=>?_))
   | exact ih0 _ _ _ _
   | exact ih1 _ _ _ _ _
   | exact LeO.none _
   | refine LeO.ite ?_ ?_
   | refine LeO.bind ?_ (fun _=>?_)
set_option maxHeartbeats 8000000 in
set_option maxRecDepth 100000 in
theorem qN.calls (k : Nat) (a0 : Int) (a1 : Int) (r : List (S58)) (w : World) (h : qN.f k a0 a1 = some r) :
  Calls Try.prog 25 #[.int .i64 a0,.int .i64 a1] w fun e w'=>∃ v0_ : Value,e = .returned (.agg #[v0_])∧Kd.R k58 58 w' w.heap.size (fun _=>True) v0_ r∧Below w.heap.size w w':=by
 have hu25:=Try.underlying25
 have hu56:=Try.underlying56
 have hu58:=Try.underlying58
 have HB:=qA.mk (Below.refl w.heap.size w)
 have H : (qN.l0 k a0 0 a1 ([] : List Int)) = some r:=h
 clear h
 have H':=qA.mk H
 clear H
 go_enter Try.func25,Try.ntmps25
 go_wp2_with (first|((with_reducible refine zK (N:=4) rfl ?_);refine q9 ?hg (N:=4) ?hd (cs:=#[.slice none 0 0]) (t:=25) ?hr ?_;(case hd=>rfl);(case hg=>rfl);(case hr=>exact byaa);intro gb263 hg w3 hbox hb;have n0_:=qA.mk (qE byab hb);have n1_:=qA.mk (hbox);have n2_:=qA.mk ((byby : w.heap.size ≤ gb263));have n3_:=qA.mk ((byby : w.heap.size ≤ gb263));clear HB;have HB:=n0_;have BK263:=n1_;have GW263:=n2_;have GE263:=n3_;clear n0_ n1_ n2_ n3_;clear hb hbox hg)|((with_reducible refine zK (N:=5) rfl ?_);refine q9 ?hg (N:=5) ?hd (cs:=#[.int .i64 0,.slice none 0 0,.slice none 0 0]) (t:=56) ?hr ?_;(case hd=>rfl);(case hg=>rfl);(case hr=>exact byaa);intro gb264 hg w4 hbox hb;have n0_:=qA.mk (qH (g:=gb263) (o:=.cells #[.slice none 0 0] 25 (0,0)) (byaf BK263.out) hb);have n1_:=qA.mk (qE (byad GE263.out) hb);have n2_:=qA.mk (hbox);have n3_:=qA.mk ((bybz GE263.out : w.heap.size ≤ gb264));have n4_:=qA.mk ((bybz GE263.out : w.heap.size ≤ gb264));have n5_:=qA.mk ((by rw [hg];exact Nat.ne_of_lt (jF (g:=gb263) (o:=.cells #[.slice none 0 0] 25 (0,0)) (byaf BK263.out)) : gb263≠gb264));have n6_:=qA.mk ((by rw [hg];exact Nat.ne_of_gt (jF (g:=gb263) (o:=.cells #[.slice none 0 0] 25 (0,0)) (byaf BK263.out)) : gb264≠gb263));clear BK263;clear HB;have BK263:=n0_;have HB:=n1_;have BK264:=n2_;have GW264:=n3_;have GE264:=n4_;have NB263_264:=n5_;have NB264_263:=n6_;clear n0_ n1_ n2_ n3_ n4_ n5_ n6_;clear hb hbox hg;have hnb5:=NB264_263.out;have hnc5:=NB263_264.out;have hcz6_0 : w4.cell? ⟨gb264,0,none⟩ = some (.int .i64 0):=(qC BK264.out 0).trans rfl;have hcz6_1 : w4.cell? ⟨gb264,1,none⟩ = some (.slice none 0 0):=(qC BK264.out 1).trans rfl;have hcz6_2 : w4.cell? ⟨gb264,2,none⟩ = some (.slice none 0 0):=(qC BK264.out 2).trans rfl;have hfz6_0:=qB BK264.out 0;have hfz6_1:=qB BK264.out 1;have hfz6_2:=qB BK264.out 2))
 go_loopg [6] k (fun kq v6 w'=>∃ (x6_1 : Int) (x265001_1 : List Int) (u265001 : Value),v6 = .int .i64 x6_1∧qA (qN.l0 kq a0 x6_1 a1 x265001_1 = some r)∧qA (kq ≤ k)∧qA (Kd.R (Kd.int .i64) 3 w' w.heap.size (fun _=>True) u265001 x265001_1)∧qA (w'.heap[gb263]? = some (.cells #[(.slice none 0 0)] 25 (0,0)))∧qA (w'.heap[gb264]? = some (.cells #[.int .i64 a1,u265001,(.slice none 0 0)] 56 (0,0)))∧qA (Below w.heap.size w w'))
 case atStart=>exact ⟨(0),(([] : List Int)),(.slice none 0 0),byae,H',⟨Nat.le_refl _⟩,⟨byau⟩,⟨byak NB263_264.out BK263.out⟩,⟨by (with_reducible repeat (first|refine qG ?_ _|refine qJ ?_|refine qF ?_ _));refine zJ (cs:=#[.int .i64 a1,.slice none 0 0,.slice none 0 0]) ?_ 2 _ rfl;(with_reducible repeat (first|refine qG ?_ _|refine qJ ?_|refine qF ?_ _));refine zJ (cs:=#[.int .i64 a1,.slice none 0 0,.slice none 0 0]) ?_ 1 _ rfl;(with_reducible repeat (first|refine qG ?_ _|refine qJ ?_|refine qF ?_ _));refine zJ (cs:=#[.int .i64 0,.slice none 0 0,.slice none 0 0]) ?_ 0 _ rfl;(with_reducible repeat (first|refine qG ?_ _|refine qJ ?_|refine qF ?_ _));exact BK264.out⟩,⟨byaj GE263.out GE264.out⟩⟩
 case round =>
  clear H'
  try clear c2
  try clear p2
  try clear c5
  try clear hcz6_0
  try clear hcz6_1
  try clear hcz6_2
  try clear hfz6_0
  try clear hfz6_1
  try clear hfz6_2
  obtain ⟨x6_1,x265001_1,u265001,rfl,HA,HK1,HO_265001,BK263,BK264,HB⟩:=hrel
  cases gk with
  | zero=>exact absurd HA.out (by simp [qN.l0])
  | succ k1 =>
   have H:=HA.out
   clear HA
   simp only [qN.l0] at H
   by_cases c7 : x6_1 < a0
   ·rw [if_pos c7] at H
    have c7b0 : decide (x6_1 < a0) = true:=decide_eq_true c7
    clear c7
    by_cases c8 : x265001_1.length < 17592186044416
    ·rw [if_pos c8] at H
     have LMc8:=qA.mk c8
     clear c8
     obtain ⟨y265,hy265⟩ : ∃ y_ : List Int,y_ = (x265001_1 ++ [x6_1]):=⟨_,rfl⟩
     replace H : (qN.l0 k1 a0 (wrap64 (x6_1 + 1)) a1 y265) = some r:=by first|(rw [hy265];with_reducible exact H)|(have H2_:=(Option.bind_some _ _).symm.trans H;rw [hy265];with_reducible exact H2_)|(have H2_:=(Option.bind_some _ _).symm.trans H;with_reducible exact H2_)|with_reducible exact H|(rw [hy265];exact H)|exact H
     have Ny265:=qA.mk hy265
     clear hy265
     have H':=qA.mk H
     clear H
     have hnb9:=NB264_263.out
     have hnc9:=NB263_264.out
     have hcz10_0 : wr.cell? ⟨gb264,0,none⟩ = some (.int .i64 a1):=(qC BK264.out 0).trans rfl
     have hcz10_1 : wr.cell? ⟨gb264,1,none⟩ = some (u265001):=(qC BK264.out 1).trans rfl
     have hcz10_2 : wr.cell? ⟨gb264,2,none⟩ = some (.slice none 0 0):=(qC BK264.out 2).trans rfl
     have hfz10_0:=qB BK264.out 0
     have hfz10_1:=qB BK264.out 1
     have hfz10_2:=qB BK264.out 2
     go_wp2_with (first|((with_reducible refine vP (b:=.append) (xs:=#[.tmp 17,.tmp 19]) rfl ?_);at_builtin;refine Kd.uP (Kd.int .i64) (w0:=w) w.heap.size rfl (.tmp 17) (.tmp 19) 22 3 (.int .i64 0) 8 rfl Try.underlying22 info3 rfl (by decide) (by omega) u265001 x265001_1 x6_1 [.int .i64 x6_1] (fun _=>True) (fun _=>False) rfl rfl ?aP (fun _ hk=>hk.elim) ?aF ?aO ?aB ?aS ?aL ?_;(case aP=>exact rfl);(case aB=>exact (byaj GE263.out GE264.out));(case aF=>exact (fun _ _=>trivial));(case aO=>exact (byav HO_265001.out));(case aS=>exact (j3 (byaj GE263.out GE264.out)));(case aL=>have:=LMc8.out;omega);intro v266 w11 ho hb hg hat;rw [← Ny265.out] at ho;have n0_:=qA.mk (j4 (g:=gb263) (o:=.cells #[.slice none 0 0] 25 (0,0)) (byaf BK263.out) hg (Kd.R_ne HO_265001.out BK263.out (by decide)));have n1_:=qA.mk (j4 (g:=gb264) (o:=.cells #[.int .i64 a1,u265001,.slice none 0 0] 56 (0,0)) (byaf BK264.out) hg (Kd.R_ne HO_265001.out BK264.out (by decide)));have n2_:=qA.mk (hb);have n3_:=qA.mk (ho);clear BK263;clear BK264;clear HB;clear HO_265001;have BK263:=n0_;have BK264:=n1_;have HB:=n2_;have HO267:=n3_;clear n0_ n1_ n2_ n3_;clear ho hb hg hat;obtain ⟨Ao12,co12,eo12⟩:=Kd.jT HO267.out;subst eo12;have hcz13_0 : w11.cell? ⟨gb264,0,none⟩ = some (.int .i64 a1):=(qC BK264.out 0).trans rfl;have hcz13_1 : w11.cell? ⟨gb264,1,none⟩ = some (u265001):=(qC BK264.out 1).trans rfl;have hcz13_2 : w11.cell? ⟨gb264,2,none⟩ = some (.slice none 0 0):=(qC BK264.out 2).trans rfl;have hfz13_0:=qB BK264.out 0;have hfz13_1:=qB BK264.out 1;have hfz13_2:=qB BK264.out 2))
     go_roundg k1
     case measure=>have:=HK1.out;omega
     case rel=>exact ⟨(wrap64 (x6_1 + 1)),(y265),(.slice Ao12 y265.length co12),byae,H',⟨byai⟩,⟨by (with_reducible repeat (first|apply Kd.jI|apply Kd.jJ|apply Kd.jM));exact Kd.zG (Kd.jD (p:=⟨gb264,1,none⟩) (Kd.jW HO267.out BK264.out (by decide)) (fun _ hk=>hk.2) (.slice Ao12 y265.length co12)) (fun _ hk=>trivial)⟩,⟨bybb NB263_264.out BK263.out⟩,⟨by (with_reducible repeat (first|refine qG ?_ _|refine qJ ?_|refine qF ?_ _));refine zJ (cs:=#[.int .i64 a1,u265001,.slice none 0 0]) ?_ 1 _ rfl;(with_reducible repeat (first|refine qG ?_ _|refine qJ ?_|refine qF ?_ _));exact BK264.out⟩,⟨byaj GE263.out GE264.out⟩⟩
    ·rw [if_neg c8] at H
     exact absurd H (by simp)
   ·rw [if_neg c7] at H
    have c7b0 : decide (x6_1 < a0) = false:=decide_eq_false c7
    clear c7
    have H':=qA.mk H
    clear H
    go_wp2_with (first|((with_reducible refine zK (N:=7) rfl ?_);refine q9 ?hg (N:=7) ?hd (cs:=#[.slice none 0 0]) (t:=25) ?hr ?_;(case hd=>rfl);(case hg=>rfl);(case hr=>exact byaa);intro gb268 hg w14 hbox hb;have n0_:=qA.mk (Kd.vI (byav HO_265001.out) hb);have n1_:=qA.mk (qH (g:=gb263) (o:=.cells #[.slice none 0 0] 25 (0,0)) (byaf BK263.out) hb);have n2_:=qA.mk (qH (g:=gb264) (o:=.cells #[.int .i64 a1,u265001,.slice none 0 0] 56 (0,0)) (byaf BK264.out) hb);have n3_:=qA.mk (qE (byaj GE263.out GE264.out) hb);have n4_:=qA.mk (hbox);have n5_:=qA.mk ((by rw [hg];exact (j3 (byaj GE263.out GE264.out)) : w.heap.size ≤ gb268));have n6_:=qA.mk ((by rw [hg];exact (j3 (byaj GE263.out GE264.out)) : w.heap.size ≤ gb268));have n7_:=qA.mk ((by rw [hg];exact Nat.ne_of_lt (jF (g:=gb263) (o:=.cells #[.slice none 0 0] 25 (0,0)) (byaf BK263.out)) : gb263≠gb268));have n8_:=qA.mk ((by rw [hg];exact Nat.ne_of_gt (jF (g:=gb263) (o:=.cells #[.slice none 0 0] 25 (0,0)) (byaf BK263.out)) : gb268≠gb263));have n9_:=qA.mk ((by rw [hg];exact Nat.ne_of_lt (jF (g:=gb264) (o:=.cells #[.int .i64 a1,u265001,.slice none 0 0] 56 (0,0)) (byaf BK264.out)) : gb264≠gb268));have n10_:=qA.mk ((by rw [hg];exact Nat.ne_of_gt (jF (g:=gb264) (o:=.cells #[.int .i64 a1,u265001,.slice none 0 0] 56 (0,0)) (byaf BK264.out)) : gb268≠gb264));clear HO_265001;clear BK263;clear BK264;clear HB;have HO_265001:=n0_;have BK263:=n1_;have BK264:=n2_;have HB:=n3_;have BK268:=n4_;have GW268:=n5_;have GE268:=n6_;have NB263_268:=n7_;have NB268_263:=n8_;have NB264_268:=n9_;have NB268_264:=n10_;clear n0_ n1_ n2_ n3_ n4_ n5_ n6_ n7_ n8_ n9_ n10_;clear hb hbox hg))
    go_loopg [8] k1 (fun kq v8 w'=>∃ (x8_2 : Int) (x269000_2 : List (S58)) (u269000 : Value),v8 = .int .i64 x8_2∧qA (qN.l1 kq a0 x8_2 a1 x265001_1 x269000_2 = some r)∧qA (kq ≤ k1)∧qA (Kd.R (Kd.int .i64) 3 w' w.heap.size (fun _=>True) u265001 x265001_1)∧qA (Kd.R k58 58 w' w.heap.size (fun k_=>k_≠gb264) u269000 x269000_2)∧qA (w'.heap[gb263]? = some (.cells #[(.slice none 0 0)] 25 (0,0)))∧qA (w'.heap[gb264]? = some (.cells #[.int .i64 a1,u265001,(.slice none 0 0)] 56 (0,0)))∧qA (w'.heap[gb268]? = some (.cells #[u269000] 25 (0,0)))∧qA (Below w.heap.size w w'))
    case atStart=>exact ⟨(0),(([] : List (S58))),(.slice none 0 0),byae,H',⟨Nat.le_refl _⟩,⟨byav HO_265001.out⟩,⟨byau⟩,⟨byaf BK263.out⟩,⟨byaf BK264.out⟩,⟨byaf BK268.out⟩,⟨bybc GE263.out GE264.out GE268.out⟩⟩
    case round =>
     clear H'
     try clear c2
     try clear p2
     try clear c5
     try clear p6
     try clear c7
     try clear c7b0
     try clear c8
     try clear c9
     try clear hcz10_0
     try clear hcz10_1
     try clear hcz10_2
     try clear hcz13_0
     try clear hcz13_1
     try clear hcz13_2
     try clear hcz6_0
     try clear hcz6_1
     try clear hcz6_2
     try clear hfz10_0
     try clear hfz10_1
     try clear hfz10_2
     try clear hfz13_0
     try clear hfz13_1
     try clear hfz13_2
     try clear hfz6_0
     try clear hfz6_1
     try clear hfz6_2
     try clear p2
     obtain ⟨x8_2,x269000_2,u269000,rfl,HA,HK2,HO_265001,HO_269000,BK263,BK264,BK268,HB⟩:=hrel
     cases gk with
     | zero=>exact absurd HA.out (by simp [qN.l1])
     | succ k2 =>
      have H:=HA.out
      clear HA
      simp only [qN.l1] at H
      by_cases c15 : x8_2 < a0
      ·rw [if_pos c15] at H
       have c15b0 : decide (x8_2 < a0) = true:=decide_eq_true c15
       clear c15
       by_cases c16 : x269000_2.length < 2199023255552
       ·rw [if_pos c16] at H
        have LMc16:=qA.mk c16
        clear c16
        obtain ⟨y269,hy269⟩ : ∃ y_ : List (S58),y_ = (x269000_2 ++ [(⟨true,(⟨a1,x265001_1,([] : List (S56))⟩ : S56)⟩ : S58)]):=⟨_,rfl⟩
        replace H : (qN.l1 k2 a0 (wrap64 (x8_2 + 1)) a1 x265001_1 y269) = some r:=by first|(rw [hy269];with_reducible exact H)|(have H2_:=(Option.bind_some _ _).symm.trans H;rw [hy269];with_reducible exact H2_)|(have H2_:=(Option.bind_some _ _).symm.trans H;with_reducible exact H2_)|with_reducible exact H|(rw [hy269];exact H)|exact H
        have Ny269:=qA.mk hy269
        clear hy269
        have H':=qA.mk H
        clear H
        have hnb17:=NB268_263.out
        have hnc17:=NB263_268.out
        have hnb18:=NB268_264.out
        have hnc18:=NB264_268.out
        have hcz19_0 : wr.cell? ⟨gb268,0,none⟩ = some (u269000):=(qC BK268.out 0).trans rfl
        have hfz19_0:=qB BK268.out 0
        have hnb20:=NB264_263.out
        have hnc20:=NB263_264.out
        have hcz21_0 : wr.cell? ⟨gb264,0,none⟩ = some (.int .i64 a1):=(qC BK264.out 0).trans rfl
        have hcz21_1 : wr.cell? ⟨gb264,1,none⟩ = some (u265001):=(qC BK264.out 1).trans rfl
        have hcz21_2 : wr.cell? ⟨gb264,2,none⟩ = some (.slice none 0 0):=(qC BK264.out 2).trans rfl
        have hfz21_0:=qB BK264.out 0
        have hfz21_1:=qB BK264.out 1
        have hfz21_2:=qB BK264.out 2
        obtain ⟨Ao22,co22,eo22⟩:=Kd.jT HO_265001.out
        subst eo22
        go_wp2_with (first|((with_reducible refine vP (b:=.append) (xs:=#[.tmp 28,.tmp 31]) rfl ?_);at_builtin;refine Kd.uP k58 (w0:=w) w.heap.size rfl (.tmp 28) (.tmp 31) 23 58 (.agg #[(.bool false),(.int .i64 0),(.slice none 0 0),(.slice none 0 0)]) 64 rfl Try.underlying23 info58 rfl (by decide) (by omega) u269000 x269000_2 (⟨true,(⟨a1,x265001_1,([] : List (S56))⟩ : S56)⟩ : S58) [.bool true,.int .i64 a1,.slice Ao22 x265001_1.length co22,.slice none 0 0] (fun k_=>k_≠gb264) (fun k_=>((fun k_=>k_≠gb264)) k_∧some k_≠(u269000 : Value).ownBlock) rfl rfl ?aP (fun _ hk=>hk) ?aF ?aO ?aB ?aS ?aL ?_;(case aP=>exact k58_mkM _ _ _ (⟨true,(⟨a1,x265001_1,([] : List (S56))⟩ : S56)⟩ : S58) (Kd.zG (Kd.jW (Kd.kX (HO_265001.out) (Kd.uZ HO_269000.out) (by decide)) BK264.out (by decide)) (fun k_ hk=>⟨hk.2,hk.1.2⟩)) (Kd.R_nil _ _ _ _ _));(case aB=>exact (bybc GE263.out GE264.out GE268.out));(case aF=>exact (fun k_ hk=>Kd.kF (g:=gb264) (o:=.cells #[.int .i64 a1,.slice Ao22 x265001_1.length co22,.slice none 0 0] 56 (0,0)) (byaf BK264.out) k_ hk));(case aO=>exact (by (with_reducible repeat (first|apply Kd.jI|apply Kd.jJ|apply Kd.jM));exact Kd.zG HO_269000.out (fun _ hk=>hk)));(case aS=>exact (j3 (bybc GE263.out GE264.out GE268.out)));(case aL=>have:=LMc16.out;omega);intro v270 w23 ho hb hg hat;rw [← Ny269.out] at ho;have n0_:=qA.mk (j4 (g:=gb263) (o:=.cells #[.slice none 0 0] 25 (0,0)) (byaf BK263.out) hg (Kd.R_ne HO_269000.out BK263.out (by decide)));have n1_:=qA.mk (j4 (g:=gb264) (o:=.cells #[.int .i64 a1,.slice Ao22 x265001_1.length co22,.slice none 0 0] 56 (0,0)) (byaf BK264.out) hg (Kd.R_ne HO_269000.out BK264.out (by decide)));have n2_:=qA.mk (j4 (g:=gb268) (o:=.cells #[u269000] 25 (0,0)) (byaf BK268.out) hg (Kd.R_ne HO_269000.out BK268.out (by decide)));have n3_:=qA.mk (hb);have n4_:=qA.mk (ho);have m0_:=qA.mk (Kd.R_over' (byav HO_265001.out) (Kd.uZ HO_269000.out) (by decide) hg);clear BK263;clear BK264;clear BK268;clear HB;clear HO_269000;clear HO_265001;have HO_265001:=m0_;have BK263:=n0_;have BK264:=n1_;have BK268:=n2_;have HB:=n3_;have HO271:=n4_;clear n0_ n1_ n2_ n3_ n4_;clear ho hb hg hat;obtain ⟨Ao24,co24,eo24⟩:=Kd.jT HO271.out;subst eo24;have hcz25_0 : w23.cell? ⟨gb268,0,none⟩ = some (u269000):=(qC BK268.out 0).trans rfl;have hfz25_0:=qB BK268.out 0))
        go_roundg k2
        case measure=>have:=HK1.out;have:=HK2.out;omega
        case rel=>exact ⟨(wrap64 (x8_2 + 1)),(y269),(.slice Ao24 y269.length co24),byae,H',⟨byar⟩,⟨by (with_reducible repeat (first|apply Kd.jI|apply Kd.jJ|apply Kd.jM));exact Kd.zG (Kd.jD (p:=⟨gb268,0,none⟩) (Kd.jW HO_265001.out BK268.out (by decide)) (fun _ hk=>hk.2) (.slice Ao24 y269.length co24)) (fun _ hk=>trivial)⟩,⟨by (with_reducible repeat (first|apply Kd.jI|apply Kd.jJ|apply Kd.jM));exact Kd.zG (Kd.jD (p:=⟨gb268,0,none⟩) (Kd.jW HO271.out BK268.out (by decide)) (fun _ hk=>hk.2) (.slice Ao24 y269.length co24)) (fun _ hk=>hk.1)⟩,⟨bybb NB263_268.out BK263.out⟩,⟨bybb NB264_268.out BK264.out⟩,⟨by (with_reducible repeat (first|refine qG ?_ _|refine qJ ?_|refine qF ?_ _));refine zJ (cs:=#[u269000]) ?_ 0 _ rfl;(with_reducible repeat (first|refine qG ?_ _|refine qJ ?_|refine qF ?_ _));exact BK268.out⟩,⟨bybc GE263.out GE264.out GE268.out⟩⟩
       ·rw [if_neg c16] at H
        exact absurd H (by simp)
      ·rw [if_neg c15] at H
       have c15b0 : decide (x8_2 < a0) = false:=decide_eq_false c15
       clear c15
       obtain rfl:=Option.some.inj H
       have hnb26:=NB268_263.out
       have hnc26:=NB263_268.out
       have hnb27:=NB268_264.out
       have hnc27:=NB264_268.out
       have hcz28_0 : wr.cell? ⟨gb268,0,none⟩ = some (u269000):=(qC BK268.out 0).trans rfl
       have hfz28_0:=qB BK268.out 0
       obtain ⟨Ao29,co29,eo29⟩:=Kd.jT HO_269000.out
       subst eo29
       have hnb30:=NB263_264.out
       have hnc30:=NB264_263.out
       have hcz31_0 : wr.cell? ⟨gb263,0,none⟩ = some (.slice none 0 0):=(qC BK263.out 0).trans rfl
       have hfz31_0:=qB BK263.out 0
       go_wp2
       refine bodyPost_ret (results_cell_row rfl _ _ gb263 25 #[.slice Ao29 x269000_2.length co29] (0,0) _ rfl (bybd BK263.out) Try.underlying25 rfl (by kernel_rfl)) rfl ?_
       exact ⟨_,byac,by (with_reducible repeat (first|apply Kd.jI|apply Kd.jJ|apply Kd.jM));exact Kd.zG (Kd.jD (p:=⟨gb263,0,none⟩) (Kd.jW HO_269000.out BK263.out (by decide)) (fun _ hk=>hk.2) (.slice Ao29 x269000_2.length co29)) (fun _ hk=>trivial),bybc GE263.out GE264.out GE268.out⟩
end Go.Proofs.Ytkkbdimegpdbgaa.P
