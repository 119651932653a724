/- Functions of the program as Lean functions, and the walks that show that the calls answer so; written by a program of this session (a changed print) and by hand. -/
import Derived.Test.YtkkbdimegpdbgaaQdPx0
import Derived.Test.YtkkbdimegpdbgaaQdPx4
import Derived.Test.YtkkbdimegpdbgaaQdPx5
import Derived.Test.YtkkbdimegpdbgaaQdPx6
namespace Go.Proofs.Ytkkbdimegpdbgaa.P
open Go.RowKit Go.Proofs.YtkkbdimegpdbgaaW.PrintWords Go.Proofs.YtkkbdimegpdbgaaW.PrintLast Go.Proofs.YtkkbdimegpdbgaaW.PrintMore
attribute [local go_sem] uH uI uQ uR vW vV uF uG
set_option linter.unusedVariables false
set_option linter.unusedSimpArgs false
def qU.f : Nat→List (S58)→Int→Int→Option (Int × Int × (List (S28)))
 | 0,_,_,_=>none
 | k + 1,l0_0,a1,a2=>(jN.f k l0_0 a1 a2).bind fun t214=>(if t214 = true then (some (1,0,([] : List (S28)))) else ((zZ.f k l0_0 a1).bind fun t215=>(if t215 = true then (some (2,0,([] : List (S28)))) else ((jC.f l0_0).bind fun t216=>((zP.f k l0_0 (Go.bits .andNot .i64 t216 a2)).bind fun t217=>((zW.f k (Go.bits .andNot .i64 t217 a1)).bind fun t218=>(if 0 < (t218.length : Int) then (if 0 ≤ (rd t218 0) then ((qU.f k l0_0 a1 (Go.bits .or .i64 a2 (shl .i64 1 (rd t218 0)))).bind fun bt222=>((qU.f k l0_0 (Go.bits .or .i64 a1 (shl .i64 1 (rd t218 0))) a2).bind fun bt227=>(some (3,rd t218 0,(([(⟨bt222.1,bt222.2.1,bt222.2.2⟩ : S28),(⟨bt227.1,bt227.2.1,bt227.2.2⟩ : S28)] : List (S28))))))) else (none)) else (none))))))))
theorem qU.mono_l : ∀ k,(∀ y0 y1 y2,LeO (qU.f k y0 y1 y2) (qU.f (k + 1) y0 y1 y2))
 | 0=>fun _ _ _ r h=>by simp [qU.f] at h
 | k + 1=>by
  have ih0:=qU.mono_l k
  ·intro y0 y1 y2
   unfold qU.f
   repeat' first
   | (with_reducible exact ih0 _ _ _)
   | (with_reducible exact zP.mono _ _ _)
   | (with_reducible exact zZ.mono _ _ _)
   | (with_reducible exact jN.mono _ _ _ _)
   | (with_reducible exact zW.mono _ _)
   | (with_reducible exact LeO.refl _)
   | (with_reducible exact LeO.none _)
   | (with_reducible refine LeO.ite ?_ ?_)
   | (with_reducible refine LeO.bind ?_ (fun _=>?_))
   | exact ih0 _ _ _
   | exact zP.mono _ _ _
   | exact zZ.mono _ _ _
   | exact jN.mono _ _ _ _
   | exact zW.mono _ _
   | exact LeO.none _
   | refine LeO.ite ?_ ?_
   | refine LeO.bind ?_ (fun _=>?_)
theorem qU.mono : ∀ a0 a1 a2 k,LeO (qU.f k a0 a1 a2) (qU.f (k + 1) a0 a1 a2):=by
 intro a0 a1 a2 k
 have ih0:=qU.mono_l k
 exact ih0 a0 a1 a2
def qU.T5 : Bool × List (List Nat × List Nat):=(true,[([],[]),([],[]),([1],[1]),([],[]),([2,3],[2,3]),([0,4,2],[0,4]),([],[]),([5,6],[5,6]),([7,5],[7]),([8],[8]),([9],[9]),([10,8,0,1,2,3,4,5,6,7,8,9,10],[10])])
def qU.B5 : List Nat:=[0,0,2,0,14,31,0,127,255,511,1023,2047]
theorem qU.tab5 : rtab .any (opsOf Try.f39 5) = qU.T5:=by kernel_rfl
theorem qU.bits5 : kL qU.T5.2 qU.B5 = true:=by kernel_rfl
def qU.T6 : Bool × List (List Nat × List Nat):=(true,[([],[]),([],[]),([],[]),([],[]),([],[]),([4],[4]),([3,5],[3,5]),([1,2,6],[1,2,6]),([],[]),([],[]),([],[]),([10],[10]),([9,11],[9,11]),([],[]),([8,12,13,7],[8,12,13]),([7,14],[7,14]),([0,15],[0,15]),([16,14,0,1,2,3,4,5,6,7,8,9,10,11,12,13,14,15,16],[16])])
def qU.B6 : List Nat:=[0,0,0,0,0,16,56,126,0,0,0,1024,3584,0,16382,32766,65535,131071]
theorem qU.tab6 : rtab .any (opsOf Try.f39 6) = qU.T6:=by kernel_rfl
theorem qU.bits6 : kL qU.T6.2 qU.B6 = true:=by kernel_rfl
set_option maxHeartbeats 8000000 in
set_option maxRecDepth 100000 in
theorem qU.calls (k : Nat) : ∀ (A0_0 : Option Addr) (c0_0 : Nat) (l0_0 : List (S58)) (a1 : Int) (a2 : Int) (r1 : Int) (r2 : Int) (r3 : List (S28)) (w : World) (hr0_0 : Kd.C k58 w A0_0 l0_0.length l0_0) (hc0_0 : l0_0.length ≤ c0_0) (h : qU.f k l0_0 a1 a2 = some (r1,r2,r3)),
  Calls Try.prog 39 #[.agg #[.slice A0_0 l0_0.length c0_0],.int .i64 a1,.int .i64 a2] w fun e w'=>∃ v2_ : Value,e = .returned (.agg #[.int .i64 r1,.int .i64 r2,v2_])∧Kd.N k28 28 w' w.heap.size (fun k_=>(w.heap.size ≤ k_)) v2_ r3∧Below w.heap.size w w':=by
 induction k using Nat.strongRecOn with
 | _ k ih =>
 intro A0_0 c0_0 l0_0 a1 a2 r1 r2 r3 w hr0_0 hc0_0 h
 cases k with
 | zero=>exact absurd h (by simp [qU.f])
 | succ k =>
 simp only [qU.f] at h
 have hu25:=Try.underlying25
 have hu28:=Try.underlying28
 have HR0_0:=qA.mk hr0_0
 have HC0_0:=qA.mk hc0_0
 clear hr0_0 hc0_0
 have HB:=qA.mk (Below.refl w.heap.size w)
 have H : ((jN.f k l0_0 a1 a2).bind fun t214=>(if t214 = true then (some (1,0,([] : List (S28)))) else ((zZ.f k l0_0 a1).bind fun t215=>(if t215 = true then (some (2,0,([] : List (S28)))) else ((jC.f l0_0).bind fun t216=>((zP.f k l0_0 (Go.bits .andNot .i64 t216 a2)).bind fun t217=>((zW.f k (Go.bits .andNot .i64 t217 a1)).bind fun t218=>(if 0 < (t218.length : Int) then (if 0 ≤ (rd t218 0) then ((qU.f k l0_0 a1 (Go.bits .or .i64 a2 (shl .i64 1 (rd t218 0)))).bind fun bt222=>((qU.f k l0_0 (Go.bits .or .i64 a1 (shl .i64 1 (rd t218 0))) a2).bind fun bt227=>(some (3,rd t218 0,(([(⟨bt222.1,bt222.2.1,bt222.2.2⟩ : S28),(⟨bt227.1,bt227.2.1,bt227.2.2⟩ : S28)] : List (S28))))))) else (none)) else (none))))))))) = some (r1,r2,r3):=h
 clear h
 replace H:=Option.bind_eq_some_iff.mp H
 obtain ⟨t214,A40,H⟩:=H
 replace H : (if t214 = true then (some (1,0,([] : List (S28)))) else ((zZ.f k l0_0 a1).bind fun t215=>(if t215 = true then (some (2,0,([] : List (S28)))) else ((jC.f l0_0).bind fun t216=>((zP.f k l0_0 (Go.bits .andNot .i64 t216 a2)).bind fun t217=>((zW.f k (Go.bits .andNot .i64 t217 a1)).bind fun t218=>(if 0 < (t218.length : Int) then (if 0 ≤ (rd t218 0) then ((qU.f k l0_0 a1 (Go.bits .or .i64 a2 (shl .i64 1 (rd t218 0)))).bind fun bt222=>((qU.f k l0_0 (Go.bits .or .i64 a1 (shl .i64 1 (rd t218 0))) a2).bind fun bt227=>(some (3,rd t218 0,(([(⟨bt222.1,bt222.2.1,bt222.2.2⟩ : S28),(⟨bt227.1,bt227.2.1,bt227.2.2⟩ : S28)] : List (S28))))))) else (none)) else (none)))))))) = some (r1,r2,r3):=H
 have A4:=qA.mk A40
 clear A40
 by_cases c5 : t214 = true
 ·subst c5
  have H1 : (some (1,0,([] : List (S28)))) = some (r1,r2,r3):=by rw [if_pos rfl] at H;exact H
  clear H
  have H:=H1
  clear H1
  simp only [Option.some.injEq,Prod.mk.injEq] at H
  obtain ⟨rfl,rfl,rfl⟩:=H
  go_enter Try.func39,Try.ntmps39
  go_wp2_with (first|((with_reducible refine zK (N:=3) rfl ?_);refine q9 ?hg (N:=3) ?hd (cs:=#[.slice A0_0 l0_0.length c0_0]) (t:=25) ?hr ?_;(case hd=>rfl);(case hg=>rfl);(case hr=>exact byaa);intro gb212 hg w6 hbox hb;have n0_:=qA.mk (qE byab hb);have n1_:=qA.mk (hbox);have n2_:=qA.mk ((byby : w.heap.size ≤ gb212));have n3_:=qA.mk ((byby : w.heap.size ≤ gb212));clear HB;have HB:=n0_;have BK212:=n1_;have GW212:=n2_;have GE212:=n3_;clear n0_ n1_ n2_ n3_;clear hb hbox hg)|((with_reducible refine zK (N:=6) rfl ?_);refine q9 ?hg (N:=6) ?hd (cs:=#[.int .i64 0,.int .i64 0,.slice none 0 0]) (t:=28) ?hr ?_;(case hd=>rfl);(case hg=>rfl);(case hr=>exact byaa);intro gb213 hg w7 hbox hb;have n0_:=qA.mk (qH (g:=gb212) (o:=.cells #[.slice A0_0 l0_0.length c0_0] 25 (0,0)) (byaf BK212.out) hb);have n1_:=qA.mk (qE (byad GE212.out) hb);have n2_:=qA.mk (hbox);have n3_:=qA.mk ((bybz GE212.out : w.heap.size ≤ gb213));have n4_:=qA.mk ((bybz GE212.out : w.heap.size ≤ gb213));have n5_:=qA.mk ((by rw [hg];exact Nat.ne_of_lt (jF (g:=gb212) (o:=.cells #[.slice A0_0 l0_0.length c0_0] 25 (0,0)) (byaf BK212.out)) : gb212≠gb213));have n6_:=qA.mk ((by rw [hg];exact Nat.ne_of_gt (jF (g:=gb212) (o:=.cells #[.slice A0_0 l0_0.length c0_0] 25 (0,0)) (byaf BK212.out)) : gb213≠gb212));clear BK212;clear HB;have BK212:=n0_;have HB:=n1_;have BK213:=n2_;have GW213:=n3_;have GE213:=n4_;have NB212_213:=n5_;have NB213_212:=n6_;clear n0_ n1_ n2_ n3_ n4_ n5_ n6_;clear hb hbox hg;have hnb8:=NB212_213.out;have hnc8:=NB213_212.out;have hcz9_0 : w7.cell? ⟨gb212,0,none⟩ = some (.slice A0_0 l0_0.length c0_0):=(qC BK212.out 0).trans rfl;have hfz9_0:=qB BK212.out 0)|((with_reducible refine qI (f:=59) rfl ?_);refine zL (some 11) rfl rfl Try.func59 (by kernel_rfl) rfl #[.agg #[.slice A0_0 l0_0.length c0_0],.int .i64 a1,.int .i64 a2] rfl byah ?_;(with_reducible refine (jN.calls k _ _ l0_0 a1 a2 true _ ?side1 ?side2 A4.out).mono ?_);(case side1=>exact byaq HR0_0.out);(case side2=>exact HC0_0.out);rintro e w10 ⟨rfl,hb⟩;refine ⟨_,rfl,?_⟩;have n0_:=qA.mk (qH (g:=gb212) (o:=.cells #[.slice A0_0 l0_0.length c0_0] 25 (0,0)) (byaf BK212.out) hb);have n1_:=qA.mk (qH (g:=gb213) (o:=.cells #[.int .i64 0,.int .i64 0,.slice none 0 0] 28 (0,0)) (byaf BK213.out) hb);have n2_:=qA.mk (qE (byaj GE212.out GE213.out) hb);clear BK212;clear BK213;clear HB;have BK212:=n0_;have BK213:=n1_;have HB:=n2_;clear n0_ n1_ n2_;(try clear hb);(try clear hb2);(try clear hk);(try clear hi);have hcz11_0 : w10.cell? ⟨gb213,0,none⟩ = some (.int .i64 0):=(qC BK213.out 0).trans rfl;have hcz11_1 : w10.cell? ⟨gb213,1,none⟩ = some (.int .i64 0):=(qC BK213.out 1).trans rfl;have hcz11_2 : w10.cell? ⟨gb213,2,none⟩ = some (.slice none 0 0):=(qC BK213.out 2).trans rfl;have hfz11_0:=qB BK213.out 0;have hfz11_1:=qB BK213.out 1;have hfz11_2:=qB BK213.out 2))
  refine bodyPost_ret (results_cell_row rfl _ _ gb213 28 #[.int .i64 1,.int .i64 0,.slice none 0 0] (0,0) _ rfl (by (with_reducible repeat (first|refine qG ?_ _|refine qJ ?_|refine qF ?_ _));refine zJ (cs:=#[.int .i64 1,.int .i64 0,.slice none 0 0]) ?_ 2 _ rfl;(with_reducible repeat (first|refine qG ?_ _|refine qJ ?_|refine qF ?_ _));refine zJ (cs:=#[.int .i64 1,.int .i64 0,.slice none 0 0]) ?_ 1 _ rfl;(with_reducible repeat (first|refine qG ?_ _|refine qJ ?_|refine qF ?_ _));refine zJ (cs:=#[.int .i64 0,.int .i64 0,.slice none 0 0]) ?_ 0 _ rfl;(with_reducible repeat (first|refine qG ?_ _|refine qJ ?_|refine qF ?_ _));exact BK213.out) Try.underlying28 rfl (by kernel_rfl)) rfl ?_
  exact ⟨_,byac,byau,byaj GE212.out GE213.out⟩
 ·replace c5:=Bool.eq_false_iff.mpr c5
  subst c5
  have H1 : ((zZ.f k l0_0 a1).bind fun t215=>(if t215 = true then (some (2,0,([] : List (S28)))) else ((jC.f l0_0).bind fun t216=>((zP.f k l0_0 (Go.bits .andNot .i64 t216 a2)).bind fun t217=>((zW.f k (Go.bits .andNot .i64 t217 a1)).bind fun t218=>(if 0 < (t218.length : Int) then (if 0 ≤ (rd t218 0) then ((qU.f k l0_0 a1 (Go.bits .or .i64 a2 (shl .i64 1 (rd t218 0)))).bind fun bt222=>((qU.f k l0_0 (Go.bits .or .i64 a1 (shl .i64 1 (rd t218 0))) a2).bind fun bt227=>(some (3,rd t218 0,(([(⟨bt222.1,bt222.2.1,bt222.2.2⟩ : S28),(⟨bt227.1,bt227.2.1,bt227.2.2⟩ : S28)] : List (S28))))))) else (none)) else (none))))))) = some (r1,r2,r3):=by rw [if_neg (show ¬ (false = true) by decide)] at H;exact H
  clear H
  have H:=H1
  clear H1
  replace H:=Option.bind_eq_some_iff.mp H
  obtain ⟨t215,A120,H⟩:=H
  replace H : (if t215 = true then (some (2,0,([] : List (S28)))) else ((jC.f l0_0).bind fun t216=>((zP.f k l0_0 (Go.bits .andNot .i64 t216 a2)).bind fun t217=>((zW.f k (Go.bits .andNot .i64 t217 a1)).bind fun t218=>(if 0 < (t218.length : Int) then (if 0 ≤ (rd t218 0) then ((qU.f k l0_0 a1 (Go.bits .or .i64 a2 (shl .i64 1 (rd t218 0)))).bind fun bt222=>((qU.f k l0_0 (Go.bits .or .i64 a1 (shl .i64 1 (rd t218 0))) a2).bind fun bt227=>(some (3,rd t218 0,(([(⟨bt222.1,bt222.2.1,bt222.2.2⟩ : S28),(⟨bt227.1,bt227.2.1,bt227.2.2⟩ : S28)] : List (S28))))))) else (none)) else (none)))))) = some (r1,r2,r3):=H
  have A12:=qA.mk A120
  clear A120
  by_cases c13 : t215 = true
  ·subst c13
   have H1 : (some (2,0,([] : List (S28)))) = some (r1,r2,r3):=by rw [if_pos rfl] at H;exact H
   clear H
   have H:=H1
   clear H1
   simp only [Option.some.injEq,Prod.mk.injEq] at H
   obtain ⟨rfl,rfl,rfl⟩:=H
   go_enter Try.func39,Try.ntmps39
   go_wp2_with (first|((with_reducible refine zK (N:=3) rfl ?_);refine q9 ?hg (N:=3) ?hd (cs:=#[.slice A0_0 l0_0.length c0_0]) (t:=25) ?hr ?_;(case hd=>rfl);(case hg=>rfl);(case hr=>exact byaa);intro gb212 hg w14 hbox hb;have n0_:=qA.mk (qE byab hb);have n1_:=qA.mk (hbox);have n2_:=qA.mk ((byby : w.heap.size ≤ gb212));have n3_:=qA.mk ((byby : w.heap.size ≤ gb212));clear HB;have HB:=n0_;have BK212:=n1_;have GW212:=n2_;have GE212:=n3_;clear n0_ n1_ n2_ n3_;clear hb hbox hg)|((with_reducible refine zK (N:=6) rfl ?_);refine q9 ?hg (N:=6) ?hd (cs:=#[.int .i64 0,.int .i64 0,.slice none 0 0]) (t:=28) ?hr ?_;(case hd=>rfl);(case hg=>rfl);(case hr=>exact byaa);intro gb213 hg w15 hbox hb;have n0_:=qA.mk (qH (g:=gb212) (o:=.cells #[.slice A0_0 l0_0.length c0_0] 25 (0,0)) (byaf BK212.out) hb);have n1_:=qA.mk (qE (byad GE212.out) hb);have n2_:=qA.mk (hbox);have n3_:=qA.mk ((bybz GE212.out : w.heap.size ≤ gb213));have n4_:=qA.mk ((bybz GE212.out : w.heap.size ≤ gb213));have n5_:=qA.mk ((by rw [hg];exact Nat.ne_of_lt (jF (g:=gb212) (o:=.cells #[.slice A0_0 l0_0.length c0_0] 25 (0,0)) (byaf BK212.out)) : gb212≠gb213));have n6_:=qA.mk ((by rw [hg];exact Nat.ne_of_gt (jF (g:=gb212) (o:=.cells #[.slice A0_0 l0_0.length c0_0] 25 (0,0)) (byaf BK212.out)) : gb213≠gb212));clear BK212;clear HB;have BK212:=n0_;have HB:=n1_;have BK213:=n2_;have GW213:=n3_;have GE213:=n4_;have NB212_213:=n5_;have NB213_212:=n6_;clear n0_ n1_ n2_ n3_ n4_ n5_ n6_;clear hb hbox hg;have hnb16:=NB212_213.out;have hnc16:=NB213_212.out;have hcz17_0 : w15.cell? ⟨gb212,0,none⟩ = some (.slice A0_0 l0_0.length c0_0):=(qC BK212.out 0).trans rfl;have hfz17_0:=qB BK212.out 0)|((with_reducible refine qI (f:=59) rfl ?_);refine zL (some 11) rfl rfl Try.func59 (by kernel_rfl) rfl #[.agg #[.slice A0_0 l0_0.length c0_0],.int .i64 a1,.int .i64 a2] rfl byah ?_;(with_reducible refine (jN.calls k _ _ l0_0 a1 a2 false _ ?side1 ?side2 A4.out).mono ?_);(case side1=>exact byaq HR0_0.out);(case side2=>exact HC0_0.out);rintro e w18 ⟨rfl,hb⟩;refine ⟨_,rfl,?_⟩;have n0_:=qA.mk (qH (g:=gb212) (o:=.cells #[.slice A0_0 l0_0.length c0_0] 25 (0,0)) (byaf BK212.out) hb);have n1_:=qA.mk (qH (g:=gb213) (o:=.cells #[.int .i64 0,.int .i64 0,.slice none 0 0] 28 (0,0)) (byaf BK213.out) hb);have n2_:=qA.mk (qE (byaj GE212.out GE213.out) hb);clear BK212;clear BK213;clear HB;have BK212:=n0_;have BK213:=n1_;have HB:=n2_;clear n0_ n1_ n2_;(try clear hb);(try clear hb2);(try clear hk);(try clear hi);have hcz19_0 : w18.cell? ⟨gb212,0,none⟩ = some (.slice A0_0 l0_0.length c0_0):=(qC BK212.out 0).trans rfl;have hfz19_0:=qB BK212.out 0)|((with_reducible refine qI (f:=60) rfl ?_);refine zL (some 15) rfl rfl Try.func60 (by kernel_rfl) rfl #[.agg #[.slice A0_0 l0_0.length c0_0],.int .i64 a1] rfl byah ?_;(with_reducible refine (zZ.calls k _ _ l0_0 a1 true _ ?side1 ?side2 A12.out).mono ?_);(case side1=>exact byaq HR0_0.out);(case side2=>exact HC0_0.out);rintro e w20 ⟨rfl,hb⟩;refine ⟨_,rfl,?_⟩;have n0_:=qA.mk (qH (g:=gb212) (o:=.cells #[.slice A0_0 l0_0.length c0_0] 25 (0,0)) (byaf BK212.out) hb);have n1_:=qA.mk (qH (g:=gb213) (o:=.cells #[.int .i64 0,.int .i64 0,.slice none 0 0] 28 (0,0)) (byaf BK213.out) hb);have n2_:=qA.mk (qE (byaj GE212.out GE213.out) hb);clear BK212;clear BK213;clear HB;have BK212:=n0_;have BK213:=n1_;have HB:=n2_;clear n0_ n1_ n2_;(try clear hb);(try clear hb2);(try clear hk);(try clear hi);have hcz21_0 : w20.cell? ⟨gb213,0,none⟩ = some (.int .i64 0):=(qC BK213.out 0).trans rfl;have hcz21_1 : w20.cell? ⟨gb213,1,none⟩ = some (.int .i64 0):=(qC BK213.out 1).trans rfl;have hcz21_2 : w20.cell? ⟨gb213,2,none⟩ = some (.slice none 0 0):=(qC BK213.out 2).trans rfl;have hfz21_0:=qB BK213.out 0;have hfz21_1:=qB BK213.out 1;have hfz21_2:=qB BK213.out 2))
   refine bodyPost_ret (results_cell_row rfl _ _ gb213 28 #[.int .i64 2,.int .i64 0,.slice none 0 0] (0,0) _ rfl (by (with_reducible repeat (first|refine qG ?_ _|refine qJ ?_|refine qF ?_ _));refine zJ (cs:=#[.int .i64 2,.int .i64 0,.slice none 0 0]) ?_ 2 _ rfl;(with_reducible repeat (first|refine qG ?_ _|refine qJ ?_|refine qF ?_ _));refine zJ (cs:=#[.int .i64 2,.int .i64 0,.slice none 0 0]) ?_ 1 _ rfl;(with_reducible repeat (first|refine qG ?_ _|refine qJ ?_|refine qF ?_ _));refine zJ (cs:=#[.int .i64 0,.int .i64 0,.slice none 0 0]) ?_ 0 _ rfl;(with_reducible repeat (first|refine qG ?_ _|refine qJ ?_|refine qF ?_ _));exact BK213.out) Try.underlying28 rfl (by kernel_rfl)) rfl ?_
   exact ⟨_,byac,byau,byaj GE212.out GE213.out⟩
  ·replace c13:=Bool.eq_false_iff.mpr c13
   subst c13
   have H1 : ((jC.f l0_0).bind fun t216=>((zP.f k l0_0 (Go.bits .andNot .i64 t216 a2)).bind fun t217=>((zW.f k (Go.bits .andNot .i64 t217 a1)).bind fun t218=>(if 0 < (t218.length : Int) then (if 0 ≤ (rd t218 0) then ((qU.f k l0_0 a1 (Go.bits .or .i64 a2 (shl .i64 1 (rd t218 0)))).bind fun bt222=>((qU.f k l0_0 (Go.bits .or .i64 a1 (shl .i64 1 (rd t218 0))) a2).bind fun bt227=>(some (3,rd t218 0,(([(⟨bt222.1,bt222.2.1,bt222.2.2⟩ : S28),(⟨bt227.1,bt227.2.1,bt227.2.2⟩ : S28)] : List (S28))))))) else (none)) else (none))))) = some (r1,r2,r3):=by rw [if_neg (show ¬ (false = true) by decide)] at H;exact H
   clear H
   have H:=H1
   clear H1
   replace H:=Option.bind_eq_some_iff.mp H
   obtain ⟨t216,A220,H⟩:=H
   replace H : ((zP.f k l0_0 (Go.bits .andNot .i64 t216 a2)).bind fun t217=>((zW.f k (Go.bits .andNot .i64 t217 a1)).bind fun t218=>(if 0 < (t218.length : Int) then (if 0 ≤ (rd t218 0) then ((qU.f k l0_0 a1 (Go.bits .or .i64 a2 (shl .i64 1 (rd t218 0)))).bind fun bt222=>((qU.f k l0_0 (Go.bits .or .i64 a1 (shl .i64 1 (rd t218 0))) a2).bind fun bt227=>(some (3,rd t218 0,(([(⟨bt222.1,bt222.2.1,bt222.2.2⟩ : S28),(⟨bt227.1,bt227.2.1,bt227.2.2⟩ : S28)] : List (S28))))))) else (none)) else (none)))) = some (r1,r2,r3):=H
   have A22:=qA.mk A220
   clear A220
   replace H:=Option.bind_eq_some_iff.mp H
   obtain ⟨t217,A230,H⟩:=H
   replace H : ((zW.f k (Go.bits .andNot .i64 t217 a1)).bind fun t218=>(if 0 < (t218.length : Int) then (if 0 ≤ (rd t218 0) then ((qU.f k l0_0 a1 (Go.bits .or .i64 a2 (shl .i64 1 (rd t218 0)))).bind fun bt222=>((qU.f k l0_0 (Go.bits .or .i64 a1 (shl .i64 1 (rd t218 0))) a2).bind fun bt227=>(some (3,rd t218 0,(([(⟨bt222.1,bt222.2.1,bt222.2.2⟩ : S28),(⟨bt227.1,bt227.2.1,bt227.2.2⟩ : S28)] : List (S28))))))) else (none)) else (none))) = some (r1,r2,r3):=H
   have A23:=qA.mk A230
   clear A230
   replace H:=Option.bind_eq_some_iff.mp H
   obtain ⟨t218,A240,H⟩:=H
   replace H : (if 0 < (t218.length : Int) then (if 0 ≤ (rd t218 0) then ((qU.f k l0_0 a1 (Go.bits .or .i64 a2 (shl .i64 1 (rd t218 0)))).bind fun bt222=>((qU.f k l0_0 (Go.bits .or .i64 a1 (shl .i64 1 (rd t218 0))) a2).bind fun bt227=>(some (3,rd t218 0,(([(⟨bt222.1,bt222.2.1,bt222.2.2⟩ : S28),(⟨bt227.1,bt227.2.1,bt227.2.2⟩ : S28)] : List (S28))))))) else (none)) else (none)) = some (r1,r2,r3):=H
   have A24:=qA.mk A240
   clear A240
   by_cases c25 : 0 < (t218.length : Int)
   ·rw [if_pos c25] at H
    have c25b0 : decide (0 < (t218.length : Int)) = true:=decide_eq_true c25
    have c25b1 : decide (0 < t218.length) = true:=decide_eq_true (by omega)
    clear c25
    by_cases c26 : 0 ≤ (rd t218 0)
    ·rw [if_pos c26] at H
     have c26b0:=eq_true c26
     have c26b1 : decide (0 ≤ (rd t218 0)) = true:=decide_eq_true c26
     clear c26
     obtain ⟨ji27,hji27⟩ : ∃ j_ : Int,(shl .i64 1 (rd t218 0)) = j_:=⟨_,rfl⟩
     replace H : ((qU.f k l0_0 a1 (Go.bits .or .i64 a2 (ji27))).bind fun bt222=>((qU.f k l0_0 (Go.bits .or .i64 a1 (ji27)) a2).bind fun bt227=>(some (3,rd t218 0,(([(⟨bt222.1,bt222.2.1,bt222.2.2⟩ : S28),(⟨bt227.1,bt227.2.1,bt227.2.2⟩ : S28)] : List (S28))))))) = some (r1,r2,r3):=by first|(rw [hji27] at H;exact H)|(simp only [hji27] at H ⊢;exact H)
     (try rw [hji27] at A4)
     (try rw [hji27] at A12)
     (try rw [hji27] at A22)
     (try rw [hji27] at A23)
     (try rw [hji27] at A24)
     have hji27_ : (IntKind.i64.wrap (1 * 2 ^ min (rd t218 0).toNat 64)) = ji27:=hji27
     have hji27z : (rd t218 0) ≤ 64→(IntKind.i64.wrap (1 * 2 ^ (rd t218 0).toNat)) = ji27:=uN hji27
     have hji27u : (IntKind.i64.wrap (2 ^ min (rd t218 0).toNat 64)) = ji27:=by have h_:=hji27_;rw [Int.one_mul] at h_;exact h_
     have hji27v : (rd t218 0) ≤ 64→(IntKind.i64.wrap (2 ^ (rd t218 0).toNat)) = ji27:=fun hle_=>by have h_:=hji27z hle_;rw [Int.one_mul] at h_;exact h_
     have hji27y : (wrap64 (1 * 2 ^ min (rd t218 0).toNat 64)) = ji27:=(qY _).symm.trans hji27_
     have hji27x : (rd t218 0) ≤ 64→(wrap64 (1 * 2 ^ (rd t218 0).toNat)) = ji27:=fun h_=>(qY _).symm.trans (hji27z h_)
     replace H:=Option.bind_eq_some_iff.mp H
     obtain ⟨⟨t222,t223,t224⟩,A280,H⟩:=H
     replace H : ((qU.f k l0_0 (Go.bits .or .i64 a1 (ji27)) a2).bind fun bt227=>(some (3,rd t218 0,(([(⟨t222,t223,t224⟩ : S28),(⟨bt227.1,bt227.2.1,bt227.2.2⟩ : S28)] : List (S28)))))) = some (r1,r2,r3):=H
     have A28:=qA.mk A280
     clear A280
     have c29b0:=eq_true (of_decide_eq_true byag : 0 ≤ (rd t218 0))
     replace H:=Option.bind_eq_some_iff.mp H
     obtain ⟨⟨t227,t228,t229⟩,A310,H⟩:=H
     replace H : (some (3,rd t218 0,(([(⟨t222,t223,t224⟩ : S28),(⟨t227,t228,t229⟩ : S28)] : List (S28))))) = some (r1,r2,r3):=H
     have A31:=qA.mk A310
     clear A310
     obtain ⟨y232,hy232⟩ : ∃ y_ : List (S28),y_ = (([(⟨t222,t223,t224⟩ : S28),(⟨t227,t228,t229⟩ : S28)] : List (S28))):=⟨_,rfl⟩
     replace H : (some (3,rd t218 0,y232)) = some (r1,r2,r3):=by first|(rw [hy232];with_reducible exact H)|(have H2_:=(Option.bind_some _ _).symm.trans H;rw [hy232];with_reducible exact H2_)|(have H2_:=(Option.bind_some _ _).symm.trans H;with_reducible exact H2_)|with_reducible exact H|(rw [hy232];exact H)|exact H
     have Ny232:=qA.mk hy232
     clear hy232
     simp only [Option.some.injEq,Prod.mk.injEq] at H
     obtain ⟨rfl,rfl,rfl⟩:=H
     go_enter Try.func39,Try.ntmps39
     try go_wp2_with (first|((with_reducible refine zK (N:=3) rfl ?_);refine q9 ?hg (N:=3) ?hd (cs:=#[.slice A0_0 l0_0.length c0_0]) (t:=25) ?hr ?_;(case hd=>rfl);(case hg=>rfl);(case hr=>exact byaa);intro gb212 hg w32 hbox hb;have n0_:=qA.mk (qE byab hb);have n1_:=qA.mk (hbox);have n2_:=qA.mk ((byby : w.heap.size ≤ gb212));have n3_:=qA.mk ((byby : w.heap.size ≤ gb212));clear HB;have HB:=n0_;have BK212:=n1_;have GW212:=n2_;have GE212:=n3_;clear n0_ n1_ n2_ n3_;clear hb hbox hg)|((with_reducible refine zK (N:=6) rfl ?_);refine q9 ?hg (N:=6) ?hd (cs:=#[.int .i64 0,.int .i64 0,.slice none 0 0]) (t:=28) ?hr ?_;(case hd=>rfl);(case hg=>rfl);(case hr=>exact byaa);intro gb213 hg w33 hbox hb;have n0_:=qA.mk (qH (g:=gb212) (o:=.cells #[.slice A0_0 l0_0.length c0_0] 25 (0,0)) (byaf BK212.out) hb);have n1_:=qA.mk (qE (byad GE212.out) hb);have n2_:=qA.mk (hbox);have n3_:=qA.mk ((bybz GE212.out : w.heap.size ≤ gb213));have n4_:=qA.mk ((bybz GE212.out : w.heap.size ≤ gb213));have n5_:=qA.mk ((by rw [hg];exact Nat.ne_of_lt (jF (g:=gb212) (o:=.cells #[.slice A0_0 l0_0.length c0_0] 25 (0,0)) (byaf BK212.out)) : gb212≠gb213));have n6_:=qA.mk ((by rw [hg];exact Nat.ne_of_gt (jF (g:=gb212) (o:=.cells #[.slice A0_0 l0_0.length c0_0] 25 (0,0)) (byaf BK212.out)) : gb213≠gb212));clear BK212;clear HB;have BK212:=n0_;have HB:=n1_;have BK213:=n2_;have GW213:=n3_;have GE213:=n4_;have NB212_213:=n5_;have NB213_212:=n6_;clear n0_ n1_ n2_ n3_ n4_ n5_ n6_;clear hb hbox hg;have hnb34:=NB212_213.out;have hnc34:=NB213_212.out;have hcz35_0 : w33.cell? ⟨gb212,0,none⟩ = some (.slice A0_0 l0_0.length c0_0):=(qC BK212.out 0).trans rfl;have hfz35_0:=qB BK212.out 0)|((with_reducible refine qI (f:=59) rfl ?_);refine zL (some 11) rfl rfl Try.func59 (by kernel_rfl) rfl #[.agg #[.slice A0_0 l0_0.length c0_0],.int .i64 a1,.int .i64 a2] rfl byah ?_;(with_reducible refine (jN.calls k _ _ l0_0 a1 a2 false _ ?side1 ?side2 A4.out).mono ?_);(case side1=>exact byaq HR0_0.out);(case side2=>exact HC0_0.out);rintro e w36 ⟨rfl,hb⟩;refine ⟨_,rfl,?_⟩;have n0_:=qA.mk (qH (g:=gb212) (o:=.cells #[.slice A0_0 l0_0.length c0_0] 25 (0,0)) (byaf BK212.out) hb);have n1_:=qA.mk (qH (g:=gb213) (o:=.cells #[.int .i64 0,.int .i64 0,.slice none 0 0] 28 (0,0)) (byaf BK213.out) hb);have n2_:=qA.mk (qE (byaj GE212.out GE213.out) hb);clear BK212;clear BK213;clear HB;have BK212:=n0_;have BK213:=n1_;have HB:=n2_;clear n0_ n1_ n2_;(try clear hb);(try clear hb2);(try clear hk);(try clear hi);have hcz37_0 : w36.cell? ⟨gb212,0,none⟩ = some (.slice A0_0 l0_0.length c0_0):=(qC BK212.out 0).trans rfl;have hfz37_0:=qB BK212.out 0)|((with_reducible refine qI (f:=60) rfl ?_);refine zL (some 15) rfl rfl Try.func60 (by kernel_rfl) rfl #[.agg #[.slice A0_0 l0_0.length c0_0],.int .i64 a1] rfl byah ?_;(with_reducible refine (zZ.calls k _ _ l0_0 a1 false _ ?side1 ?side2 A12.out).mono ?_);(case side1=>exact byaq HR0_0.out);(case side2=>exact HC0_0.out);rintro e w38 ⟨rfl,hb⟩;refine ⟨_,rfl,?_⟩;have n0_:=qA.mk (qH (g:=gb212) (o:=.cells #[.slice A0_0 l0_0.length c0_0] 25 (0,0)) (byaf BK212.out) hb);have n1_:=qA.mk (qH (g:=gb213) (o:=.cells #[.int .i64 0,.int .i64 0,.slice none 0 0] 28 (0,0)) (byaf BK213.out) hb);have n2_:=qA.mk (qE (byaj GE212.out GE213.out) hb);clear BK212;clear BK213;clear HB;have BK212:=n0_;have BK213:=n1_;have HB:=n2_;clear n0_ n1_ n2_;(try clear hb);(try clear hb2);(try clear hk);(try clear hi)))
     have n0_:=qA.mk (qJ BK212.out)
     have n1_:=qA.mk (qJ BK213.out)
     have n2_:=qA.mk (jY HB.out)
     clear BK212
     clear BK213
     clear HB
     have BK212:=n0_
     have BK213:=n1_
     have HB:=n2_
     clear n0_ n1_ n2_
     refine kJ (n:=12) (S:=fun w'=>w'.cell? ⟨gb212,0,none⟩ = some (.slice A0_0 l0_0.length c0_0)) (ds:=[]) #[false,false,false,false,false,false,false,false,false,false,false,false] (by kernel_rfl) rfl rfl ((qC BK212.out 0).trans rfl) (fun hHeld=>?_);refine uY qU.tab5 qU.bits5 (fun HT_ HW_=>?_)
     generalize w38.drew = w39 at BK212 BK213 HB hHeld ⊢
     refine zY (i:=3) (N:=some 20) (v:=?_) (a':=?_) #[false,false,false,true,false,false,false,false,false,false,false,false] rfl rfl (zO HT_.out (by kernel_rfl)) (fun _ _ _ h=>h) (Or.inl ⟨by rfl,?_⟩) ?_ ?_
     rotate_left
     ·intro w'
      go_simp
      with_reducible rfl
     rotate_left
     ·simp only [Act.put,List.setIfInBounds_toArray,List.set_cons_zero,List.set_cons_succ,qY,zA]
      rfl
     refine zY (i:=6) (N:=some 23) (v:=?_) (a':=?_) #[false,false,false,true,false,false,true,false,false,false,false,false] rfl rfl (zO HT_.out (by kernel_rfl)) (fun _ _ _ h=>h) (Or.inl ⟨by rfl,?_⟩) ?_ ?_
     rotate_left
     ·intro w'
      go_simp
      with_reducible rfl
     rotate_left
     ·simp only [Act.put,List.setIfInBounds_toArray,List.set_cons_zero,List.set_cons_succ,qY,zA]
      rfl
     refine vZ (i:=0) (N:=some 17) (v:=?_) (a':=?_) #[true,false,false,true,false,false,true,false,false,false,false,false] rfl rfl (vJ HT_.out HW_.out (by kernel_rfl)) (fun _ _ _ h=>h) (Or.inl ⟨by rfl,?_⟩) hHeld ?_ ?_
     rotate_left
     ·intro w' s0
      go_simp
      with_reducible rfl
     rotate_left
     ·simp only [Act.put,List.setIfInBounds_toArray,List.set_cons_zero,List.set_cons_succ,qY,zA]
      rfl
     refine vZ (i:=1) (N:=some 18) (v:=?_) (a':=?_) #[true,true,false,true,false,false,true,false,false,false,false,false] rfl rfl (vJ HT_.out HW_.out (by kernel_rfl)) (fun _ _ _ h=>h) (Or.inl ⟨by rfl,?_⟩) hHeld ?_ ?_
     rotate_left
     ·intro w' s0
      go_simp
      with_reducible rfl
     rotate_left
     ·simp only [Act.put,List.setIfInBounds_toArray,List.set_cons_zero,List.set_cons_succ,qY,zA]
      rfl
     refine one_ (i:=2) (N:=some 19) #[true,true,true,true,false,false,true,false,false,false,false,false] rfl rfl (uE HT_.out (by kernel_rfl)) (by decide) (fun K hK=>?_)
     refine kD Try.func53 (by kernel_rfl) rfl #[.agg #[.slice A0_0 l0_0.length c0_0]] (by rfl) rfl rfl byah ?_
     with_reducible refine (jC.calls _ _ l0_0 t216 _ ?side1 ?side2 A22.out).mono ?_
     (case side1=>exact byaq HR0_0.out)
     (case side2=>exact HC0_0.out)
     rintro e w40 ⟨rfl,hb⟩
     refine ⟨_,rfl,?_⟩
     have n0_:=qA.mk (qH (g:=gb212) (o:=.cells #[.slice A0_0 l0_0.length c0_0] 25 (0,0)) (byaf BK212.out) hb)
     have n1_:=qA.mk (qH (g:=gb213) (o:=.cells #[.int .i64 0,.int .i64 0,.slice none 0 0] 28 (0,0)) (byaf BK213.out) hb)
     have n2_:=qA.mk (qE (byaj GE212.out GE213.out) hb)
     clear BK212
     clear BK213
     clear HB
     have BK212:=n0_
     have BK213:=n1_
     have HB:=n2_
     clear n0_ n1_ n2_
     (try clear hb)
     (try clear hb2)
     (try clear hk)
     (try clear hi)
     refine hK.out _ _ ((qC BK212.out 0).trans rfl) (fun hHeld=>?_)
     clear hK K
     refine uM (a':=?_) ?_ ?_
     rotate_left
     ·show Act.put _ (some 19) _ = _
      simp only [Act.put,List.setIfInBounds_toArray,List.set_cons_zero,List.set_cons_succ,qY,zA]
      rfl
     refine zY (i:=4) (N:=some 21) (v:=?_) (a':=?_) #[true,true,true,true,true,false,true,false,false,false,false,false] rfl rfl (zO HT_.out (by kernel_rfl)) (fun _ _ _ h=>h) (Or.inl ⟨by rfl,?_⟩) ?_ ?_
     rotate_left
     ·intro w'
      go_simp
      with_reducible rfl
     rotate_left
     ·simp only [Act.put,List.setIfInBounds_toArray,List.set_cons_zero,List.set_cons_succ,qY,zA]
      rfl
     refine one_ (i:=5) (N:=some 22) #[true,true,true,true,true,true,true,false,false,false,false,false] rfl rfl (uE HT_.out (by kernel_rfl)) (by decide) (fun K hK=>?_)
     refine kD Try.func52 (by kernel_rfl) rfl #[.agg #[.slice A0_0 l0_0.length c0_0],.int .i64 (Go.bits .andNot .i64 t216 a2)] (by rfl) rfl rfl byah ?_
     with_reducible refine (zP.calls k _ _ l0_0 (Go.bits .andNot .i64 t216 a2) t217 _ ?side1 ?side2 A23.out).mono ?_
     (case side1=>exact byaq HR0_0.out)
     (case side2=>exact HC0_0.out)
     rintro e w41 ⟨rfl,hb⟩
     refine ⟨_,rfl,?_⟩
     have n0_:=qA.mk (qH (g:=gb212) (o:=.cells #[.slice A0_0 l0_0.length c0_0] 25 (0,0)) (byaf BK212.out) hb)
     have n1_:=qA.mk (qH (g:=gb213) (o:=.cells #[.int .i64 0,.int .i64 0,.slice none 0 0] 28 (0,0)) (byaf BK213.out) hb)
     have n2_:=qA.mk (qE (byaj GE212.out GE213.out) hb)
     clear BK212
     clear BK213
     clear HB
     have BK212:=n0_
     have BK213:=n1_
     have HB:=n2_
     clear n0_ n1_ n2_
     (try clear hb)
     (try clear hb2)
     (try clear hk)
     (try clear hi)
     refine hK.out _ _ ((qC BK212.out 0).trans rfl) (fun hHeld=>?_)
     clear hK K
     refine uM (a':=?_) ?_ ?_
     rotate_left
     ·show Act.put _ (some 22) _ = _
      simp only [Act.put,List.setIfInBounds_toArray,List.set_cons_zero,List.set_cons_succ,qY,zA]
      rfl
     refine zY (i:=7) (N:=some 24) (v:=?_) (a':=?_) #[true,true,true,true,true,true,true,true,false,false,false,false] rfl rfl (zO HT_.out (by kernel_rfl)) (fun _ _ _ h=>h) (Or.inl ⟨by rfl,?_⟩) ?_ ?_
     rotate_left
     ·intro w'
      go_simp
      with_reducible rfl
     rotate_left
     ·simp only [Act.put,List.setIfInBounds_toArray,List.set_cons_zero,List.set_cons_succ,qY,zA]
      rfl
     refine one_ (i:=8) (N:=some 25) #[true,true,true,true,true,true,true,true,true,false,false,false] rfl rfl (uE HT_.out (by kernel_rfl)) (by decide) (fun K hK=>?_)
     refine kD Try.func61 (by kernel_rfl) rfl #[.int .i64 (Go.bits .andNot .i64 t217 a1)] (by rfl) rfl rfl byah ?_
     with_reducible refine (zW.calls k (Go.bits .andNot .i64 t217 a1) t218 _ A24.out).mono ?_
     rintro e w42 ⟨v219,rfl,ho0,hb⟩
     refine ⟨_,rfl,?_⟩
     have n0_:=qA.mk (Kd.vR (Kd.R_newM (M:=fun k_=>(w.heap.size ≤ k_)) ho0 (j3 (byaj GE212.out GE213.out)) (fun k_ h_=>h_)) (j3 (byaj GE212.out GE213.out)))
     have n1_:=qA.mk (qH (g:=gb212) (o:=.cells #[.slice A0_0 l0_0.length c0_0] 25 (0,0)) (byaf BK212.out) hb)
     have n2_:=qA.mk (qH (g:=gb213) (o:=.cells #[.int .i64 0,.int .i64 0,.slice none 0 0] 28 (0,0)) (byaf BK213.out) hb)
     have n3_:=qA.mk (qE (byaj GE212.out GE213.out) hb)
     clear BK212
     clear BK213
     clear HB
     have HO220:=n0_
     have BK212:=n1_
     have BK213:=n2_
     have HB:=n3_
     clear n0_ n1_ n2_ n3_
     (try clear hb)
     (try clear hb2)
     (try clear hk)
     (try clear hi)
     (try clear ho0)
     obtain ⟨Ao43,co43,eo43⟩:=Kd.jT HO220.out
     (first|subst eo43|(injection eo43 with f1_ f2_ f3_;have f4_:=f1_.symm;have f5_:=f3_.symm;clear f1_ f2_ f3_;subst f4_;subst f5_))
     have p221 : 0 ≤ (0 : Int):=(by omega)
     have q221 : 0 < (t218.length : Int):=of_decide_eq_true byag
     obtain ⟨ad221,e221,hx221_0⟩:=Kd.uV (Kd.vX HO220.out).2.2 0 p221 q221
     cases e221
     have qi221 : (0 < t218.length) = True:=eq_true (by omega)
     (try rw [show ((0 : Int)).toNat = 0 from rfl] at hx221_0)
     (try rw [Addr.add_zero'] at hx221_0)
     replace p221:=eq_true p221
     replace q221:=eq_true q221
     refine hK.out _ _ ((qC BK212.out 0).trans rfl) (fun hHeld=>?_)
     clear hK K
     refine uM (a':=?_) ?_ ?_
     rotate_left
     ·show Act.put _ (some 25) _ = _
      simp only [Act.put,List.setIfInBounds_toArray,List.set_cons_zero,List.set_cons_succ,qY,zA]
      rfl
     refine zY (i:=9) (N:=some 26) (v:=?_) (a':=?_) #[true,true,true,true,true,true,true,true,true,true,false,false] rfl rfl (zO HT_.out (by kernel_rfl)) (fun _ _ _ h=>h) (Or.inl ⟨by rfl,?_⟩) ?_ ?_
     rotate_left
     ·intro w'
      go_simp
      with_reducible rfl
     rotate_left
     ·simp only [Act.put,List.setIfInBounds_toArray,List.set_cons_zero,List.set_cons_succ,qY,zA]
      rfl
     refine one_ (i:=10) (N:=some 27) #[true,true,true,true,true,true,true,true,true,true,true,false] rfl rfl (uE HT_.out (by kernel_rfl)) (by decide) (fun K hK=>?_)
     refine event_step (v:=.int .i64 (rd t218 0)) rfl (by go_simp;first|done|with_reducible rfl|rfl) ?_
     refine hK.out _ _ ((qC BK212.out 0).trans rfl) (fun hHeld=>?_)
     clear hK K
     refine uM (a':=?_) ?_ ?_
     rotate_left
     ·show Act.put _ (some 27) _ = _
      simp only [Act.put,List.setIfInBounds_toArray,List.set_cons_zero,List.set_cons_succ,qY,zA]
      rfl
     refine zY (i:=11) (N:=some 7) (v:=?_) (a':=?_) #[true,true,true,true,true,true,true,true,true,true,true,true] rfl rfl (zO HT_.out (by kernel_rfl)) (fun _ _ _ h=>h) (Or.inl ⟨by rfl,?_⟩) ?_ ?_
     rotate_left
     ·intro w'
      go_simp
      with_reducible rfl
     rotate_left
     ·simp only [Act.put,List.setIfInBounds_toArray,List.set_cons_zero,List.set_cons_succ,qY,zA]
      rfl
     refine done_ (kS HT_.out (by kernel_rfl)) ?_
     try go_wp2
     have n0_:=qA.mk (Kd.jM HO220.out)
     have n1_:=qA.mk (qJ BK212.out)
     have n2_:=qA.mk (qJ BK213.out)
     have n3_:=qA.mk (jY HB.out)
     clear HO220
     clear BK212
     clear BK213
     clear HB
     have HO220:=n0_
     have BK212:=n1_
     have BK213:=n2_
     have HB:=n3_
     clear n0_ n1_ n2_ n3_
     refine kJ (n:=18) (S:=fun w'=>w'.cell? ⟨gb212,0,none⟩ = some (.slice A0_0 l0_0.length c0_0)) (ds:=[]) #[false,false,false,false,false,false,false,false,false,false,false,false,false,false,false,false,false,false] (by kernel_rfl) rfl rfl ((qC BK212.out 0).trans rfl) (fun hHeld=>?_);refine uY qU.tab6 qU.bits6 (fun HT_ HW_=>?_)
     generalize w42.drew = w44 at HO220 BK212 BK213 HB hHeld ⊢
     refine zY (i:=0) (N:=some 28) (v:=?_) (a':=?_) #[true,false,false,false,false,false,false,false,false,false,false,false,false,false,false,false,false,false] rfl rfl (zO HT_.out (by kernel_rfl)) (fun _ _ _ h=>h) (Or.inl ⟨by rfl,?_⟩) ?_ ?_
     rotate_left
     ·intro w'
      go_simp
      with_reducible rfl
     rotate_left
     ·simp only [Act.put,List.setIfInBounds_toArray,List.set_cons_zero,List.set_cons_succ,qY,zA]
      rfl
     refine zY (i:=2) (N:=some 30) (v:=?_) (a':=?_) #[true,false,true,false,false,false,false,false,false,false,false,false,false,false,false,false,false,false] rfl rfl (zO HT_.out (by kernel_rfl)) (fun _ _ _ h=>h) (Or.inl ⟨by rfl,?_⟩) ?_ ?_
     rotate_left
     ·intro w'
      go_simp
      with_reducible rfl
     rotate_left
     ·simp only [Act.put,List.setIfInBounds_toArray,List.set_cons_zero,List.set_cons_succ,qY,zA]
      rfl
     refine zY (i:=3) (N:=some 31) (v:=?_) (a':=?_) #[true,false,true,true,false,false,false,false,false,false,false,false,false,false,false,false,false,false] rfl rfl (zO HT_.out (by kernel_rfl)) (fun _ _ _ h=>h) (Or.inl ⟨by rfl,?_⟩) ?_ ?_
     rotate_left
     ·intro w'
      go_simp
      with_reducible rfl
     rotate_left
     ·simp only [Act.put,List.setIfInBounds_toArray,List.set_cons_zero,List.set_cons_succ,qY,zA]
      rfl
     refine zY (i:=4) (N:=some 32) (v:=?_) (a':=?_) #[true,false,true,true,true,false,false,false,false,false,false,false,false,false,false,false,false,false] rfl rfl (zO HT_.out (by kernel_rfl)) (fun _ _ _ h=>h) (Or.inl ⟨by rfl,?_⟩) ?_ ?_
     rotate_left
     ·intro w'
      go_simp
      with_reducible rfl
     rotate_left
     ·simp only [Act.put,List.setIfInBounds_toArray,List.set_cons_zero,List.set_cons_succ,qY,zA]
      rfl
     refine zY (i:=5) (N:=some 33) (v:=?_) (a':=?_) #[true,false,true,true,true,true,false,false,false,false,false,false,false,false,false,false,false,false] rfl rfl (zO HT_.out (by kernel_rfl)) (fun _ _ _ h=>h) (Or.inl ⟨by rfl,?_⟩) ?_ ?_
     rotate_left
     ·intro w'
      go_simp
      with_reducible rfl
     rotate_left
     ·simp only [Act.put,List.setIfInBounds_toArray,List.set_cons_zero,List.set_cons_succ,qY,zA]
      rfl
     refine zY (i:=6) (N:=some 34) (v:=?_) (a':=?_) #[true,false,true,true,true,true,true,false,false,false,false,false,false,false,false,false,false,false] rfl rfl (zO HT_.out (by kernel_rfl)) (fun _ _ _ h=>h) (Or.inl ⟨by rfl,?_⟩) ?_ ?_
     rotate_left
     ·intro w'
      go_simp
      with_reducible rfl
     rotate_left
     ·simp only [Act.put,List.setIfInBounds_toArray,List.set_cons_zero,List.set_cons_succ,qY,zA]
      rfl
     refine zY (i:=9) (N:=some 37) (v:=?_) (a':=?_) #[true,false,true,true,true,true,true,false,false,true,false,false,false,false,false,false,false,false] rfl rfl (zO HT_.out (by kernel_rfl)) (fun _ _ _ h=>h) (Or.inl ⟨by rfl,?_⟩) ?_ ?_
     rotate_left
     ·intro w'
      go_simp
      with_reducible rfl
     rotate_left
     ·simp only [Act.put,List.setIfInBounds_toArray,List.set_cons_zero,List.set_cons_succ,qY,zA]
      rfl
     refine zY (i:=10) (N:=some 38) (v:=?_) (a':=?_) #[true,false,true,true,true,true,true,false,false,true,true,false,false,false,false,false,false,false] rfl rfl (zO HT_.out (by kernel_rfl)) (fun _ _ _ h=>h) (Or.inl ⟨by rfl,?_⟩) ?_ ?_
     rotate_left
     ·intro w'
      go_simp
      with_reducible rfl
     rotate_left
     ·simp only [Act.put,List.setIfInBounds_toArray,List.set_cons_zero,List.set_cons_succ,qY,zA]
      rfl
     refine zY (i:=11) (N:=some 39) (v:=?_) (a':=?_) #[true,false,true,true,true,true,true,false,false,true,true,true,false,false,false,false,false,false] rfl rfl (zO HT_.out (by kernel_rfl)) (fun _ _ _ h=>h) (Or.inl ⟨by rfl,?_⟩) ?_ ?_
     rotate_left
     ·intro w'
      go_simp
      with_reducible rfl
     rotate_left
     ·simp only [Act.put,List.setIfInBounds_toArray,List.set_cons_zero,List.set_cons_succ,qY,zA]
      rfl
     refine zY (i:=12) (N:=some 40) (v:=?_) (a':=?_) #[true,false,true,true,true,true,true,false,false,true,true,true,true,false,false,false,false,false] rfl rfl (zO HT_.out (by kernel_rfl)) (fun _ _ _ h=>h) (Or.inl ⟨by rfl,?_⟩) ?_ ?_
     rotate_left
     ·intro w'
      go_simp
      with_reducible rfl
     rotate_left
     ·simp only [Act.put,List.setIfInBounds_toArray,List.set_cons_zero,List.set_cons_succ,qY,zA]
      rfl
     refine zY (i:=13) (N:=some 41) (v:=?_) (a':=?_) #[true,false,true,true,true,true,true,false,false,true,true,true,true,true,false,false,false,false] rfl rfl (zO HT_.out (by kernel_rfl)) (fun _ _ _ h=>h) (Or.inl ⟨by rfl,?_⟩) ?_ ?_
     rotate_left
     ·intro w'
      go_simp
      with_reducible rfl
     rotate_left
     ·simp only [Act.put,List.setIfInBounds_toArray,List.set_cons_zero,List.set_cons_succ,qY,zA]
      rfl
     refine vZ (i:=1) (N:=some 29) (v:=?_) (a':=?_) #[true,true,true,true,true,true,true,false,false,true,true,true,true,true,false,false,false,false] rfl rfl (vJ HT_.out HW_.out (by kernel_rfl)) (fun _ _ _ h=>h) (Or.inl ⟨by rfl,?_⟩) hHeld ?_ ?_
     rotate_left
     ·intro w' s0
      go_simp
      with_reducible rfl
     rotate_left
     ·simp only [Act.put,List.setIfInBounds_toArray,List.set_cons_zero,List.set_cons_succ,qY,zA]
      rfl
     refine vZ (i:=8) (N:=some 36) (v:=?_) (a':=?_) #[true,true,true,true,true,true,true,false,true,true,true,true,true,true,false,false,false,false] rfl rfl (vJ HT_.out HW_.out (by kernel_rfl)) (fun _ _ _ h=>h) (Or.inl ⟨by rfl,?_⟩) hHeld ?_ ?_
     rotate_left
     ·intro w' s0
      go_simp
      with_reducible rfl
     rotate_left
     ·simp only [Act.put,List.setIfInBounds_toArray,List.set_cons_zero,List.set_cons_succ,qY,zA]
      rfl
     refine one_ (i:=7) (N:=some 35) #[true,true,true,true,true,true,true,true,true,true,true,true,true,true,false,false,false,false] rfl rfl (uE HT_.out (by kernel_rfl)) (by decide) (fun K hK=>?_)
     refine kD Try.func39 (by kernel_rfl) rfl #[.agg #[.slice A0_0 l0_0.length c0_0],.int .i64 a1,.int .i64 (Go.bits .or .i64 a2 (ji27))] (by rfl) rfl rfl byaw ?_
     with_reducible refine (ih k (by omega) _ _ l0_0 a1 (Go.bits .or .i64 a2 (ji27)) t222 t223 t224 _ ?side1 ?side2 A28.out).mono ?_
     (case side1=>exact byaq HR0_0.out)
     (case side2=>exact HC0_0.out)
     rintro e w45 ⟨v225,rfl,ho0,hb⟩
     refine ⟨_,rfl,?_⟩
     have n0_:=qA.mk (Kd.vI (byav HO220.out) hb)
     have n1_:=qA.mk (Kd.N_lower (Kd.uL (ok':=fun k_=>(w.heap.size ≤ k_)∧some k_≠(.slice (some ad221) t218.length co43 : Value).ownBlock∧k_≠gb212∧k_≠gb213) ho0 (fun k_ hk_=>⟨(Nat.le_trans (j3 (byaj GE212.out GE213.out)) hk_),(Kd.fresh' (Kd.R_lt (byav HO220.out)) k_ hk_),(Kd.kF (g:=gb212) (o:=.cells #[.slice A0_0 l0_0.length c0_0] 25 (0,0)) (byaf BK212.out) k_ hk_),(Kd.kF (g:=gb213) (o:=.cells #[.int .i64 0,.int .i64 0,.slice none 0 0] 28 (0,0)) (byaf BK213.out) k_ hk_)⟩)) (j3 (byaj GE212.out GE213.out)))
     have n2_:=qA.mk (qH (g:=gb212) (o:=.cells #[.slice A0_0 l0_0.length c0_0] 25 (0,0)) (byaf BK212.out) hb)
     have n3_:=qA.mk (qH (g:=gb213) (o:=.cells #[.int .i64 0,.int .i64 0,.slice none 0 0] 28 (0,0)) (byaf BK213.out) hb)
     have n4_:=qA.mk (qE (byaj GE212.out GE213.out) hb)
     clear HO220
     clear BK212
     clear BK213
     clear HB
     have HO220:=n0_
     have HO226:=n1_
     have BK212:=n2_
     have BK213:=n3_
     have HB:=n4_
     clear n0_ n1_ n2_ n3_ n4_
     (try clear hb)
     (try clear hb2)
     (try clear hk)
     (try clear hi)
     (try clear ho0)
     refine hK.out _ _ ((qC BK212.out 0).trans rfl) (fun hHeld=>?_)
     clear hK K
     refine uM (a':=?_) ?_ ?_
     rotate_left
     ·show Act.put _ (some 35) _ = _
      simp only [Act.put,List.setIfInBounds_toArray,List.set_cons_zero,List.set_cons_succ,qY,zA]
      rfl
     refine one_ (i:=14) (N:=some 42) #[true,true,true,true,true,true,true,true,true,true,true,true,true,true,true,false,false,false] rfl rfl (uE HT_.out (by kernel_rfl)) (by decide) (fun K hK=>?_)
     refine kD Try.func39 (by kernel_rfl) rfl #[.agg #[.slice A0_0 l0_0.length c0_0],.int .i64 (Go.bits .or .i64 a1 (ji27)),.int .i64 a2] (by rfl) rfl rfl byaw ?_
     with_reducible refine (ih k (by omega) _ _ l0_0 (Go.bits .or .i64 a1 (ji27)) a2 t227 t228 t229 _ ?side1 ?side2 A31.out).mono ?_
     (case side1=>exact byaq HR0_0.out)
     (case side2=>exact HC0_0.out)
     rintro e w46 ⟨v230,rfl,ho0,hb⟩
     refine ⟨_,rfl,?_⟩
     have n0_:=qA.mk (Kd.vI (byav HO220.out) hb)
     have n1_:=qA.mk (Kd.kK (byax HO226.out) (Kd.N_base ho0) hb)
     have n2_:=qA.mk (Kd.N_lower (Kd.uL (ok':=fun k_=>(w.heap.size ≤ k_)∧some k_≠(.slice (some ad221) t218.length co43 : Value).ownBlock∧some k_≠(v225 : Value).ownBlock∧k_≠gb212∧k_≠gb213) ho0 (fun k_ hk_=>⟨(Nat.le_trans (j3 (byaj GE212.out GE213.out)) hk_),(Kd.fresh' (Kd.R_lt (byav HO220.out)) k_ hk_),(Kd.fresh' (Kd.N_lt (byax HO226.out)) k_ hk_),(Kd.kF (g:=gb212) (o:=.cells #[.slice A0_0 l0_0.length c0_0] 25 (0,0)) (byaf BK212.out) k_ hk_),(Kd.kF (g:=gb213) (o:=.cells #[.int .i64 0,.int .i64 0,.slice none 0 0] 28 (0,0)) (byaf BK213.out) k_ hk_)⟩)) (j3 (byaj GE212.out GE213.out)))
     have n3_:=qA.mk (qH (g:=gb212) (o:=.cells #[.slice A0_0 l0_0.length c0_0] 25 (0,0)) (byaf BK212.out) hb)
     have n4_:=qA.mk (qH (g:=gb213) (o:=.cells #[.int .i64 0,.int .i64 0,.slice none 0 0] 28 (0,0)) (byaf BK213.out) hb)
     have n5_:=qA.mk (qE (byaj GE212.out GE213.out) hb)
     clear HO220
     clear HO226
     clear BK212
     clear BK213
     clear HB
     have HO220:=n0_
     have HO226:=n1_
     have HO231:=n2_
     have BK212:=n3_
     have BK213:=n4_
     have HB:=n5_
     clear n0_ n1_ n2_ n3_ n4_ n5_
     (try clear hb)
     (try clear hb2)
     (try clear hk)
     (try clear hi)
     (try clear ho0)
     obtain ⟨Ao47,co47,eo47⟩:=Kd.N_slice HO226.out
     (first|subst eo47|(injection eo47 with f1_ f2_ f3_;have f4_:=f1_.symm;have f5_:=f3_.symm;clear f1_ f2_ f3_;subst f4_;subst f5_))
     obtain ⟨Ao48,co48,eo48⟩:=Kd.N_slice HO231.out
     (first|subst eo48|(injection eo48 with f1_ f2_ f3_;have f4_:=f1_.symm;have f5_:=f3_.symm;clear f1_ f2_ f3_;subst f4_;subst f5_))
     refine hK.out _ _ ((qC BK212.out 0).trans rfl) (fun hHeld=>?_)
     clear hK K
     refine uM (a':=?_) ?_ ?_
     rotate_left
     ·show Act.put _ (some 42) _ = _
      simp only [Act.put,List.setIfInBounds_toArray,List.set_cons_zero,List.set_cons_succ,qY,zA]
      rfl
     refine one_ (i:=15) (N:=some 43) #[true,true,true,true,true,true,true,true,true,true,true,true,true,true,true,true,false,false] rfl rfl (uE HT_.out (by kernel_rfl)) (by decide) (fun K hK=>?_)
     refine Kd.N_lit_step k28 _ 28 ?hg (N':=43) ?hd (xs:=([(⟨t222,t223,t224⟩ : S28),(⟨t227,t228,t229⟩ : S28)] : List (S28))) (inner:=[.int .i64 t222,.int .i64 t223,.slice Ao47 t224.length co47,.int .i64 t227,.int .i64 t228,.slice Ao48 t229.length co48]) (ok:=(fun k_=>(w.heap.size ≤ k_)∧some k_≠(.slice (some ad221) t218.length co43 : Value).ownBlock∧k_≠gb212∧k_≠gb213)) (okp:=(fun k_=>(w.heap.size ≤ k_)∧some k_≠(.slice (some ad221) t218.length co43 : Value).ownBlock∧k_≠gb212∧k_≠gb213)) ?hr ?hp (fun _ hk=>hk) ((show ∀ k_,w46.heap.size ≤ k_→(fun k_=>(w.heap.size ≤ k_)∧some k_≠(.slice (some ad221) t218.length co43 : Value).ownBlock∧k_≠gb212∧k_≠gb213) k_ from fun k_ hk=>⟨(Nat.le_trans (j3 (byaj GE212.out GE213.out)) hk),Kd.fresh' (Kd.R_lt (byav HO220.out)) k_ hk,Kd.kF (g:=gb212) (o:=.cells #[.slice A0_0 l0_0.length c0_0] 25 (0,0)) (byaf BK212.out) k_ hk,Kd.kF (g:=gb213) (o:=.cells #[.int .i64 0,.int .i64 0,.slice none 0 0] 28 (0,0)) (byaf BK213.out) k_ hk⟩) _ (Nat.le_refl _)) (Below.refl _ _) (Nat.le_refl _) (by simp) ?_;(case hd=>rfl);(case hg=>rfl);(case hr=>exact byaa);(case hp=>exact (Reps.c3 (show Kd.FK k28 _ _ (⟨t222,t223,t224⟩ : S28) [.int .i64 t222,.int .i64 t223,.slice Ao47 t224.length co47] from (k28_mkF _ _ (⟨t222,t223,t224⟩ : S28) (Kd.kQ (Kd.uL (ok':=(fun k_=>(w.heap.size ≤ k_)∧some k_≠(.slice (some ad221) t218.length co43 : Value).ownBlock∧k_≠gb212∧k_≠gb213)) (HO226.out) (fun k_ hk=>⟨hk.1.1,⟨hk.1.2.1,⟨hk.1.2.2.1,hk.1.2.2.2⟩⟩⟩))).2.1 (Kd.N_F (Kd.uL (ok':=(fun k_=>(w.heap.size ≤ k_)∧some k_≠(.slice (some ad221) t218.length co43 : Value).ownBlock∧k_≠gb212∧k_≠gb213)) (HO226.out) (fun k_ hk=>⟨hk.1.1,⟨hk.1.2.1,⟨hk.1.2.2.1,hk.1.2.2.2⟩⟩⟩))))) (Reps.c3 (show Kd.FK k28 _ _ (⟨t227,t228,t229⟩ : S28) [.int .i64 t227,.int .i64 t228,.slice Ao48 t229.length co48] from (k28_mkF _ _ (⟨t227,t228,t229⟩ : S28) (Kd.kQ (Kd.uL (ok':=(fun k_=>(w.heap.size ≤ k_)∧some k_≠(.slice (some ad221) t218.length co43 : Value).ownBlock∧k_≠gb212∧k_≠gb213)) (HO231.out) (fun k_ hk=>⟨hk.1,⟨hk.2.1,⟨hk.2.2.2.1,hk.2.2.2.2⟩⟩⟩))).2.1 (Kd.N_F (Kd.uL (ok':=(fun k_=>(w.heap.size ≤ k_)∧some k_≠(.slice (some ad221) t218.length co43 : Value).ownBlock∧k_≠gb212∧k_≠gb213)) (HO231.out) (fun k_ hk=>⟨hk.1,⟨hk.2.1,⟨hk.2.2.2.1,hk.2.2.2.2⟩⟩⟩))))) (Reps.none _ _))))
     intro v233 w49 ho50 hb hg_ hnew_
     clear hg_ hnew_
     (first|rw [← Ny232.out] at ho50|(simp only [Int.reduceToNat] at ho50;rw [← Ny232.out] at ho50))
     have n0_:=qA.mk (Kd.vI (byav HO220.out) hb)
     have n1_:=qA.mk (Kd.N_lower ho50 (j3 (byaj GE212.out GE213.out)))
     have n2_:=qA.mk (qH (g:=gb212) (o:=.cells #[.slice A0_0 l0_0.length c0_0] 25 (0,0)) (byaf BK212.out) hb)
     have n3_:=qA.mk (qH (g:=gb213) (o:=.cells #[.int .i64 0,.int .i64 0,.slice none 0 0] 28 (0,0)) (byaf BK213.out) hb)
     have n4_:=qA.mk (qE (byaj GE212.out GE213.out) hb)
     clear HO220
     clear BK212
     clear BK213
     clear HB
     clear HO226
     clear HO231
     have HO220:=n0_
     have HO234:=n1_
     have BK212:=n2_
     have BK213:=n3_
     have HB:=n4_
     clear n0_ n1_ n2_ n3_ n4_
     clear hb ho50
     obtain ⟨Ao51,co51,eo51⟩:=Kd.N_slice HO234.out
     (first|subst eo51|(injection eo51 with f1_ f2_ f3_;have f4_:=f1_.symm;have f5_:=f3_.symm;clear f1_ f2_ f3_;subst f4_;subst f5_))
     refine hK.out _ _ ((qC BK212.out 0).trans rfl) (fun hHeld=>?_)
     clear hK K
     refine uM (a':=?_) ?_ ?_
     rotate_left
     ·show Act.put _ (some 43) _ = _
      simp only [Act.put,List.setIfInBounds_toArray,List.set_cons_zero,List.set_cons_succ,qY,zA]
      rfl
     refine zY (i:=16) (N:=some 44) (v:=?_) (a':=?_) #[true,true,true,true,true,true,true,true,true,true,true,true,true,true,true,true,true,false] rfl rfl (zO HT_.out (by kernel_rfl)) (fun _ _ _ h=>h) (Or.inl ⟨by rfl,?_⟩) ?_ ?_
     rotate_left
     ·intro w'
      go_simp
      with_reducible rfl
     rotate_left
     ·simp only [Act.put,List.setIfInBounds_toArray,List.set_cons_zero,List.set_cons_succ,qY,zA]
      rfl
     refine one_ (i:=17) (N:=none) #[true,true,true,true,true,true,true,true,true,true,true,true,true,true,true,true,true,true] rfl rfl (uE HT_.out (by kernel_rfl)) (by decide) (fun K hK=>?_)
     have hs52 : w49.cell? ⟨gb213,0,none⟩ = some (.int .i64 0):=(qC BK213.out 0).trans rfl
     have hfs52:=qB BK213.out 0
     have hns52_0:=NB212_213.out
     have hms52_0:=NB213_212.out
     have hs53 : w49.cell? ⟨gb213,1,none⟩ = some (.int .i64 0):=(qC BK213.out 1).trans rfl
     have hfs53:=qB BK213.out 1
     have hns53_0:=NB212_213.out
     have hms53_0:=NB213_212.out
     have hs54 : w49.cell? ⟨gb213,2,none⟩ = some (.slice none 0 0):=(qC BK213.out 2).trans rfl
     have hfs54:=qB BK213.out 2
     have hns54_0:=NB212_213.out
     have hms54_0:=NB213_212.out
     refine skip_ (w1:=?_) (by rfl) rfl ?_ ?_
     rotate_left
     ·go_simp
      rfl
     refine hK.out _ _ (((cell_far (p:=⟨gb213,_,none⟩) NB212_213.out _).trans (((cell_far (p:=⟨gb213,_,none⟩) NB212_213.out _).trans (((cell_far (p:=⟨gb213,_,none⟩) NB212_213.out _).trans (hHeld))))))) (fun hHeld=>?_)
     clear hK K
     refine done_ (kS HT_.out (by kernel_rfl)) ?_
     try go_wp2
     refine bodyPost_ret (results_cell_row rfl _ _ gb213 28 #[.int .i64 3,.int .i64 (rd t218 0),.slice Ao51 y232.length co51] (0,0) _ rfl (by (with_reducible repeat (first|refine qG ?_ _|refine qJ ?_|refine qF ?_ _));refine zJ (cs:=#[.int .i64 3,.int .i64 (rd t218 0),.slice none 0 0]) ?_ 2 _ rfl;(with_reducible repeat (first|refine qG ?_ _|refine qJ ?_|refine qF ?_ _));refine zJ (cs:=#[.int .i64 3,.int .i64 0,.slice none 0 0]) ?_ 1 _ rfl;(with_reducible repeat (first|refine qG ?_ _|refine qJ ?_|refine qF ?_ _));refine zJ (cs:=#[.int .i64 0,.int .i64 0,.slice none 0 0]) ?_ 0 _ rfl;(with_reducible repeat (first|refine qG ?_ _|refine qJ ?_|refine qF ?_ _));exact BK213.out) Try.underlying28 rfl (by kernel_rfl)) rfl ?_
     exact ⟨_,by first|rfl|(simp [vD,vC]<;>rfl)|(simp only [← hji27];first|rfl|(simp [vD,vC]<;>rfl))|(simp [*,vD,vC]<;>rfl),by (with_reducible repeat (first|apply Kd.N_alloc|apply Kd.N_drewN|apply Kd.N_drew));exact Kd.uL (Kd.N_far (p:=⟨gb213,2,none⟩) (Kd.N_far (p:=⟨gb213,1,none⟩) (Kd.N_far (p:=⟨gb213,0,none⟩) (Kd.uL HO234.out (fun k_ hk=>(⟨hk,hk.2.2.2⟩ : _∧k_≠gb213))) (fun _ hk=>hk.2) (.int .i64 3)) (fun _ hk=>hk.2) (.int .i64 (rd t218 0))) (fun _ hk=>hk.2) (.slice Ao51 y232.length co51)) (fun _ hk=>hk.1.1),byaj GE212.out GE213.out⟩
    ·rw [if_neg c26] at H
     exact absurd H (by simp)
   ·rw [if_neg c25] at H
    exact absurd H (by simp)
def jX.f (k : Nat) (l0_0 : List (S58)) : Option (Int × Int × (List (S28)) × Int):=(jG.f k l0_0).bind fun bt237=>(if bt237.2 = 0 then (if bt237.1 = true then ((qU.f k l0_0 0 0).bind fun bt239=>(some (bt239.1,bt239.2.1,bt239.2.2,0))) else (some (0,0,([] : List (S28)),11))) else (some (0,0,([] : List (S28)),bt237.2)))
theorem jX.mono : ∀ a0 k,LeO (jX.f k a0) (jX.f (k + 1) a0):=by
 intro a0 k
 unfold jX.f
 repeat' first
   | (with_reducible exact jG.mono _ _)
   | (with_reducible exact qU.mono _ _ _ _)
   | (with_reducible exact LeO.refl _)
   | (with_reducible exact LeO.none _)
   | (with_reducible refine LeO.ite ?_ ?_)
   | (with_reducible refine LeO.bind ?_ (fun _=>?_))
   | exact jG.mono _ _
   | exact qU.mono _ _ _ _
   | exact LeO.none _
   | refine LeO.ite ?_ ?_
   | refine LeO.bind ?_ (fun _=>?_)
set_option maxHeartbeats 8000000 in
set_option maxRecDepth 100000 in
theorem jX.calls (k : Nat) (A0_0 : Option Addr) (c0_0 : Nat) (l0_0 : List (S58)) (r1 : Int) (r2 : Int) (r3 : List (S28)) (r4 : Int) (w : World) (hr0_0 : Kd.C k58 w A0_0 l0_0.length l0_0) (hc0_0 : l0_0.length ≤ c0_0) (h : jX.f k l0_0 = some (r1,r2,r3,r4)) :
  Calls Try.prog 18 #[.agg #[.slice A0_0 l0_0.length c0_0]] w fun e w'=>∃ v2_ : Value,e = .returned (.tuple #[.agg #[.int .i64 r1,.int .i64 r2,v2_],.int .i64 r4])∧Kd.N k28 28 w' w.heap.size (fun k_=>(w.heap.size ≤ k_)) v2_ r3∧Below w.heap.size w w':=by
 have hu25:=Try.underlying25
 have hu28:=Try.underlying28
 have HR0_0:=qA.mk hr0_0
 have HC0_0:=qA.mk hc0_0
 clear hr0_0 hc0_0
 have HB:=qA.mk (Below.refl w.heap.size w)
 have H : ((jG.f k l0_0).bind fun bt237=>(if bt237.2 = 0 then (if bt237.1 = true then ((qU.f k l0_0 0 0).bind fun bt239=>(some (bt239.1,bt239.2.1,bt239.2.2,0))) else (some (0,0,([] : List (S28)),11))) else (some (0,0,([] : List (S28)),bt237.2)))) = some (r1,r2,r3,r4):=h
 clear h
 replace H:=Option.bind_eq_some_iff.mp H
 obtain ⟨⟨t237,t238⟩,A20,H⟩:=H
 replace H : (if t238 = 0 then (if t237 = true then ((qU.f k l0_0 0 0).bind fun bt239=>(some (bt239.1,bt239.2.1,bt239.2.2,0))) else (some (0,0,([] : List (S28)),11))) else (some (0,0,([] : List (S28)),t238))) = some (r1,r2,r3,r4):=H
 have A2:=qA.mk A20
 clear A20
 by_cases c3 : t238 = 0
 ·rw [if_pos c3] at H
  have c3b0 : (t238 == 0) = true:=beq_iff_eq.mpr c3
  have c3b1 : (t238 != 0) = false:=bne_eq_false_iff_eq.mpr c3
  clear c3
  by_cases c4 : t237 = true
  ·subst c4
   have H1 : ((qU.f k l0_0 0 0).bind fun bt239=>(some (bt239.1,bt239.2.1,bt239.2.2,0))) = some (r1,r2,r3,r4):=by rw [if_pos rfl] at H;exact H
   clear H
   have H:=H1
   clear H1
   replace H:=Option.bind_eq_some_iff.mp H
   obtain ⟨⟨t239,t240,t241⟩,A50,H⟩:=H
   replace H : (some (t239,t240,t241,0)) = some (r1,r2,r3,r4):=H
   have A5:=qA.mk A50
   clear A50
   simp only [Option.some.injEq,Prod.mk.injEq] at H
   obtain ⟨rfl,rfl,rfl,rfl⟩:=H
   go_enter Try.func18,Try.ntmps18
   go_wp2_with (first|((with_reducible refine zK (N:=1) rfl ?_);refine q9 ?hg (N:=1) ?hd (cs:=#[.slice A0_0 l0_0.length c0_0]) (t:=25) ?hr ?_;(case hd=>rfl);(case hg=>rfl);(case hr=>exact byaa);intro gb235 hg w6 hbox hb;have n0_:=qA.mk (qE byab hb);have n1_:=qA.mk (hbox);have n2_:=qA.mk ((byby : w.heap.size ≤ gb235));have n3_:=qA.mk ((byby : w.heap.size ≤ gb235));clear HB;have HB:=n0_;have BK235:=n1_;have GW235:=n2_;have GE235:=n3_;clear n0_ n1_ n2_ n3_;clear hb hbox hg)|((with_reducible refine zK (N:=2) rfl ?_);refine q9 ?hg (N:=2) ?hd (cs:=#[.int .i64 0,.int .i64 0,.slice none 0 0]) (t:=28) ?hr ?_;(case hd=>rfl);(case hg=>rfl);(case hr=>exact byaa);intro gb236 hg w7 hbox hb;have n0_:=qA.mk (qH (g:=gb235) (o:=.cells #[.slice A0_0 l0_0.length c0_0] 25 (0,0)) (byaf BK235.out) hb);have n1_:=qA.mk (qE (byad GE235.out) hb);have n2_:=qA.mk (hbox);have n3_:=qA.mk ((bybz GE235.out : w.heap.size ≤ gb236));have n4_:=qA.mk ((bybz GE235.out : w.heap.size ≤ gb236));have n5_:=qA.mk ((by rw [hg];exact Nat.ne_of_lt (jF (g:=gb235) (o:=.cells #[.slice A0_0 l0_0.length c0_0] 25 (0,0)) (byaf BK235.out)) : gb235≠gb236));have n6_:=qA.mk ((by rw [hg];exact Nat.ne_of_gt (jF (g:=gb235) (o:=.cells #[.slice A0_0 l0_0.length c0_0] 25 (0,0)) (byaf BK235.out)) : gb236≠gb235));clear BK235;clear HB;have BK235:=n0_;have HB:=n1_;have BK236:=n2_;have GW236:=n3_;have GE236:=n4_;have NB235_236:=n5_;have NB236_235:=n6_;clear n0_ n1_ n2_ n3_ n4_ n5_ n6_;clear hb hbox hg;have hnb8:=NB235_236.out;have hnc8:=NB236_235.out;have hcz9_0 : w7.cell? ⟨gb235,0,none⟩ = some (.slice A0_0 l0_0.length c0_0):=(qC BK235.out 0).trans rfl;have hfz9_0:=qB BK235.out 0)|((with_reducible refine qI (f:=14) rfl ?_);refine zL (some 8) rfl rfl Try.func14 (by kernel_rfl) rfl #[.agg #[.slice A0_0 l0_0.length c0_0]] rfl byah ?_;(with_reducible refine (jG.calls k _ _ l0_0 true t238 _ ?side1 ?side2 A2.out).mono ?_);(case side1=>exact byaq HR0_0.out);(case side2=>exact HC0_0.out);rintro e w10 ⟨rfl,hb⟩;refine ⟨_,rfl,?_⟩;have n0_:=qA.mk (qH (g:=gb235) (o:=.cells #[.slice A0_0 l0_0.length c0_0] 25 (0,0)) (byaf BK235.out) hb);have n1_:=qA.mk (qH (g:=gb236) (o:=.cells #[.int .i64 0,.int .i64 0,.slice none 0 0] 28 (0,0)) (byaf BK236.out) hb);have n2_:=qA.mk (qE (byaj GE235.out GE236.out) hb);clear BK235;clear BK236;clear HB;have BK235:=n0_;have BK236:=n1_;have HB:=n2_;clear n0_ n1_ n2_;(try clear hb);(try clear hb2);(try clear hk);(try clear hi);have hcz11_0 : w10.cell? ⟨gb235,0,none⟩ = some (.slice A0_0 l0_0.length c0_0):=(qC BK235.out 0).trans rfl;have hfz11_0:=qB BK235.out 0)|((with_reducible refine qI (f:=39) rfl ?_);refine zL (some 19) rfl rfl Try.func39 (by kernel_rfl) rfl #[.agg #[.slice A0_0 l0_0.length c0_0],.int .i64 0,.int .i64 0] rfl byah ?_;(with_reducible refine (qU.calls k _ _ l0_0 0 0 t239 t240 t241 _ ?side1 ?side2 A5.out).mono ?_);(case side1=>exact byaq HR0_0.out);(case side2=>exact HC0_0.out);rintro e w12 ⟨v242,rfl,ho0,hb⟩;refine ⟨_,rfl,?_⟩;have n0_:=qA.mk (Kd.N_lower (Kd.uL (ok':=fun k_=>(w.heap.size ≤ k_)∧k_≠gb235∧k_≠gb236) ho0 (fun k_ hk_=>⟨(Nat.le_trans (j3 (byaj GE235.out GE236.out)) hk_),(Kd.kF (g:=gb235) (o:=.cells #[.slice A0_0 l0_0.length c0_0] 25 (0,0)) (byaf BK235.out) k_ hk_),(Kd.kF (g:=gb236) (o:=.cells #[.int .i64 0,.int .i64 0,.slice none 0 0] 28 (0,0)) (byaf BK236.out) k_ hk_)⟩)) (j3 (byaj GE235.out GE236.out)));have n1_:=qA.mk (qH (g:=gb235) (o:=.cells #[.slice A0_0 l0_0.length c0_0] 25 (0,0)) (byaf BK235.out) hb);have n2_:=qA.mk (qH (g:=gb236) (o:=.cells #[.int .i64 0,.int .i64 0,.slice none 0 0] 28 (0,0)) (byaf BK236.out) hb);have n3_:=qA.mk (qE (byaj GE235.out GE236.out) hb);clear BK235;clear BK236;clear HB;have HO243:=n0_;have BK235:=n1_;have BK236:=n2_;have HB:=n3_;clear n0_ n1_ n2_ n3_;(try clear hb);(try clear hb2);(try clear hk);(try clear hi);(try clear ho0);have hcz13_0 : w12.cell? ⟨gb236,0,none⟩ = some (.int .i64 0):=(qC BK236.out 0).trans rfl;have hcz13_1 : w12.cell? ⟨gb236,1,none⟩ = some (.int .i64 0):=(qC BK236.out 1).trans rfl;have hcz13_2 : w12.cell? ⟨gb236,2,none⟩ = some (.slice none 0 0):=(qC BK236.out 2).trans rfl;have hfz13_0:=qB BK236.out 0;have hfz13_1:=qB BK236.out 1;have hfz13_2:=qB BK236.out 2;obtain ⟨Ao14,co14,eo14⟩:=Kd.N_slice HO243.out;subst eo14))
   refine bodyPost_ret (results_ct rfl _ _ gb236 28 #[.int .i64 t239,.int .i64 t240,.slice Ao14 t241.length co14] (0,0) _ rfl (by (with_reducible repeat (first|refine qG ?_ _|refine qJ ?_|refine qF ?_ _));refine zJ (cs:=#[.int .i64 t239,.int .i64 t240,.slice none 0 0]) ?_ 2 _ rfl;(with_reducible repeat (first|refine qG ?_ _|refine qJ ?_|refine qF ?_ _));refine zJ (cs:=#[.int .i64 t239,.int .i64 0,.slice none 0 0]) ?_ 1 _ rfl;(with_reducible repeat (first|refine qG ?_ _|refine qJ ?_|refine qF ?_ _));refine zJ (cs:=#[.int .i64 0,.int .i64 0,.slice none 0 0]) ?_ 0 _ rfl;(with_reducible repeat (first|refine qG ?_ _|refine qJ ?_|refine qF ?_ _));exact BK236.out) Try.underlying28 rfl (by kernel_rfl)) rfl ?_
   exact ⟨_,byac,by (with_reducible repeat (first|apply Kd.N_alloc|apply Kd.N_drewN|apply Kd.N_drew));exact Kd.uL (Kd.N_far (p:=⟨gb236,2,none⟩) (Kd.N_far (p:=⟨gb236,1,none⟩) (Kd.N_far (p:=⟨gb236,0,none⟩) (Kd.uL HO243.out (fun k_ hk=>(⟨hk,hk.2.2⟩ : _∧k_≠gb236))) (fun _ hk=>hk.2) (.int .i64 t239)) (fun _ hk=>hk.2) (.int .i64 t240)) (fun _ hk=>hk.2) (.slice Ao14 t241.length co14)) (fun _ hk=>hk.1.1),byaj GE235.out GE236.out⟩
  ·replace c4:=Bool.eq_false_iff.mpr c4
   subst c4
   have H1 : (some (0,0,([] : List (S28)),11)) = some (r1,r2,r3,r4):=by rw [if_neg (show ¬ (false = true) by decide)] at H;exact H
   clear H
   have H:=H1
   clear H1
   simp only [Option.some.injEq,Prod.mk.injEq] at H
   obtain ⟨rfl,rfl,rfl,rfl⟩:=H
   go_enter Try.func18,Try.ntmps18
   go_wp2_with (first|((with_reducible refine zK (N:=1) rfl ?_);refine q9 ?hg (N:=1) ?hd (cs:=#[.slice A0_0 l0_0.length c0_0]) (t:=25) ?hr ?_;(case hd=>rfl);(case hg=>rfl);(case hr=>exact byaa);intro gb235 hg w15 hbox hb;have n0_:=qA.mk (qE byab hb);have n1_:=qA.mk (hbox);have n2_:=qA.mk ((byby : w.heap.size ≤ gb235));have n3_:=qA.mk ((byby : w.heap.size ≤ gb235));clear HB;have HB:=n0_;have BK235:=n1_;have GW235:=n2_;have GE235:=n3_;clear n0_ n1_ n2_ n3_;clear hb hbox hg)|((with_reducible refine zK (N:=2) rfl ?_);refine q9 ?hg (N:=2) ?hd (cs:=#[.int .i64 0,.int .i64 0,.slice none 0 0]) (t:=28) ?hr ?_;(case hd=>rfl);(case hg=>rfl);(case hr=>exact byaa);intro gb236 hg w16 hbox hb;have n0_:=qA.mk (qH (g:=gb235) (o:=.cells #[.slice A0_0 l0_0.length c0_0] 25 (0,0)) (byaf BK235.out) hb);have n1_:=qA.mk (qE (byad GE235.out) hb);have n2_:=qA.mk (hbox);have n3_:=qA.mk ((bybz GE235.out : w.heap.size ≤ gb236));have n4_:=qA.mk ((bybz GE235.out : w.heap.size ≤ gb236));have n5_:=qA.mk ((by rw [hg];exact Nat.ne_of_lt (jF (g:=gb235) (o:=.cells #[.slice A0_0 l0_0.length c0_0] 25 (0,0)) (byaf BK235.out)) : gb235≠gb236));have n6_:=qA.mk ((by rw [hg];exact Nat.ne_of_gt (jF (g:=gb235) (o:=.cells #[.slice A0_0 l0_0.length c0_0] 25 (0,0)) (byaf BK235.out)) : gb236≠gb235));clear BK235;clear HB;have BK235:=n0_;have HB:=n1_;have BK236:=n2_;have GW236:=n3_;have GE236:=n4_;have NB235_236:=n5_;have NB236_235:=n6_;clear n0_ n1_ n2_ n3_ n4_ n5_ n6_;clear hb hbox hg;have hnb17:=NB235_236.out;have hnc17:=NB236_235.out;have hcz18_0 : w16.cell? ⟨gb235,0,none⟩ = some (.slice A0_0 l0_0.length c0_0):=(qC BK235.out 0).trans rfl;have hfz18_0:=qB BK235.out 0)|((with_reducible refine qI (f:=14) rfl ?_);refine zL (some 8) rfl rfl Try.func14 (by kernel_rfl) rfl #[.agg #[.slice A0_0 l0_0.length c0_0]] rfl byah ?_;(with_reducible refine (jG.calls k _ _ l0_0 false t238 _ ?side1 ?side2 A2.out).mono ?_);(case side1=>exact byaq HR0_0.out);(case side2=>exact HC0_0.out);rintro e w19 ⟨rfl,hb⟩;refine ⟨_,rfl,?_⟩;have n0_:=qA.mk (qH (g:=gb235) (o:=.cells #[.slice A0_0 l0_0.length c0_0] 25 (0,0)) (byaf BK235.out) hb);have n1_:=qA.mk (qH (g:=gb236) (o:=.cells #[.int .i64 0,.int .i64 0,.slice none 0 0] 28 (0,0)) (byaf BK236.out) hb);have n2_:=qA.mk (qE (byaj GE235.out GE236.out) hb);clear BK235;clear BK236;clear HB;have BK235:=n0_;have BK236:=n1_;have HB:=n2_;clear n0_ n1_ n2_;(try clear hb);(try clear hb2);(try clear hk);(try clear hi);have hcz20_0 : w19.cell? ⟨gb236,0,none⟩ = some (.int .i64 0):=(qC BK236.out 0).trans rfl;have hcz20_1 : w19.cell? ⟨gb236,1,none⟩ = some (.int .i64 0):=(qC BK236.out 1).trans rfl;have hcz20_2 : w19.cell? ⟨gb236,2,none⟩ = some (.slice none 0 0):=(qC BK236.out 2).trans rfl;have hfz20_0:=qB BK236.out 0;have hfz20_1:=qB BK236.out 1;have hfz20_2:=qB BK236.out 2))
   refine bodyPost_ret (results_ct rfl _ _ gb236 28 #[.int .i64 0,.int .i64 0,.slice none 0 0] (0,0) _ rfl (byay BK236.out) Try.underlying28 rfl (by kernel_rfl)) rfl ?_
   exact ⟨_,byac,byau,byaj GE235.out GE236.out⟩
 ·rw [if_neg c3] at H
  have c3b0 : (t238 == 0) = false:=beq_eq_false_iff_ne.mpr c3
  have c3b1 : (t238 != 0) = true:=bne_iff_ne.mpr c3
  simp only [Option.some.injEq,Prod.mk.injEq] at H
  obtain ⟨rfl,rfl,rfl,rfl⟩:=H
  go_enter Try.func18,Try.ntmps18
  go_wp2_with (first|((with_reducible refine zK (N:=1) rfl ?_);refine q9 ?hg (N:=1) ?hd (cs:=#[.slice A0_0 l0_0.length c0_0]) (t:=25) ?hr ?_;(case hd=>rfl);(case hg=>rfl);(case hr=>exact byaa);intro gb235 hg w21 hbox hb;have n0_:=qA.mk (qE byab hb);have n1_:=qA.mk (hbox);have n2_:=qA.mk ((byby : w.heap.size ≤ gb235));have n3_:=qA.mk ((byby : w.heap.size ≤ gb235));clear HB;have HB:=n0_;have BK235:=n1_;have GW235:=n2_;have GE235:=n3_;clear n0_ n1_ n2_ n3_;clear hb hbox hg)|((with_reducible refine zK (N:=2) rfl ?_);refine q9 ?hg (N:=2) ?hd (cs:=#[.int .i64 0,.int .i64 0,.slice none 0 0]) (t:=28) ?hr ?_;(case hd=>rfl);(case hg=>rfl);(case hr=>exact byaa);intro gb236 hg w22 hbox hb;have n0_:=qA.mk (qH (g:=gb235) (o:=.cells #[.slice A0_0 l0_0.length c0_0] 25 (0,0)) (byaf BK235.out) hb);have n1_:=qA.mk (qE (byad GE235.out) hb);have n2_:=qA.mk (hbox);have n3_:=qA.mk ((bybz GE235.out : w.heap.size ≤ gb236));have n4_:=qA.mk ((bybz GE235.out : w.heap.size ≤ gb236));have n5_:=qA.mk ((by rw [hg];exact Nat.ne_of_lt (jF (g:=gb235) (o:=.cells #[.slice A0_0 l0_0.length c0_0] 25 (0,0)) (byaf BK235.out)) : gb235≠gb236));have n6_:=qA.mk ((by rw [hg];exact Nat.ne_of_gt (jF (g:=gb235) (o:=.cells #[.slice A0_0 l0_0.length c0_0] 25 (0,0)) (byaf BK235.out)) : gb236≠gb235));clear BK235;clear HB;have BK235:=n0_;have HB:=n1_;have BK236:=n2_;have GW236:=n3_;have GE236:=n4_;have NB235_236:=n5_;have NB236_235:=n6_;clear n0_ n1_ n2_ n3_ n4_ n5_ n6_;clear hb hbox hg;have hnb23:=NB235_236.out;have hnc23:=NB236_235.out;have hcz24_0 : w22.cell? ⟨gb235,0,none⟩ = some (.slice A0_0 l0_0.length c0_0):=(qC BK235.out 0).trans rfl;have hfz24_0:=qB BK235.out 0)|((with_reducible refine qI (f:=14) rfl ?_);refine zL (some 8) rfl rfl Try.func14 (by kernel_rfl) rfl #[.agg #[.slice A0_0 l0_0.length c0_0]] rfl byah ?_;(with_reducible refine (jG.calls k _ _ l0_0 t237 t238 _ ?side1 ?side2 A2.out).mono ?_);(case side1=>exact byaq HR0_0.out);(case side2=>exact HC0_0.out);rintro e w25 ⟨rfl,hb⟩;refine ⟨_,rfl,?_⟩;have n0_:=qA.mk (qH (g:=gb235) (o:=.cells #[.slice A0_0 l0_0.length c0_0] 25 (0,0)) (byaf BK235.out) hb);have n1_:=qA.mk (qH (g:=gb236) (o:=.cells #[.int .i64 0,.int .i64 0,.slice none 0 0] 28 (0,0)) (byaf BK236.out) hb);have n2_:=qA.mk (qE (byaj GE235.out GE236.out) hb);clear BK235;clear BK236;clear HB;have BK235:=n0_;have BK236:=n1_;have HB:=n2_;clear n0_ n1_ n2_;(try clear hb);(try clear hb2);(try clear hk);(try clear hi);have hcz26_0 : w25.cell? ⟨gb236,0,none⟩ = some (.int .i64 0):=(qC BK236.out 0).trans rfl;have hcz26_1 : w25.cell? ⟨gb236,1,none⟩ = some (.int .i64 0):=(qC BK236.out 1).trans rfl;have hcz26_2 : w25.cell? ⟨gb236,2,none⟩ = some (.slice none 0 0):=(qC BK236.out 2).trans rfl;have hfz26_0:=qB BK236.out 0;have hfz26_1:=qB BK236.out 1;have hfz26_2:=qB BK236.out 2))
  refine bodyPost_ret (results_ct rfl _ _ gb236 28 #[.int .i64 0,.int .i64 0,.slice none 0 0] (0,0) _ rfl (byay BK236.out) Try.underlying28 rfl (by kernel_rfl)) rfl ?_
  exact ⟨_,byac,byau,byaj GE235.out GE236.out⟩
mutual
def zH.l0 : Nat→Int→List (S28)→Int→Int→Option (Int)
 | 0,_,_,_,_=>none
 | k + 1,x3,x7,x8,x9=>if x9 < x8 then (if 0 ≤ x9 then (if x9 < (x7.length : Int) then ((zH.f k ((jS x7 x9).f0) ((jS x7 x9).f1) ((jS x7 x9).f2)).bind fun t247=>(zH.l0 k (wrap64 (x3 + t247)) x7 x8 (wrap64 (x9 + 1)))) else (none)) else (none)) else (some x3)
def zH.f : Nat→Int→Int→List (S28)→Option (Int)
 | 0,_,_,_=>none
 | k + 1,a0_0,a0_1,l0_2=>zH.l0 k 1 l0_2 (l0_2.length : Int) 0
end
theorem zH.mono_l : ∀ k,(∀ y0 y1 y2,LeO (zH.f k y0 y1 y2) (zH.f (k + 1) y0 y1 y2))∧(∀ y0 y1 y2 y3,LeO (zH.l0 k y0 y1 y2 y3) (zH.l0 (k + 1) y0 y1 y2 y3))
 | 0=>⟨fun _ _ _ r h=>by simp [zH.f] at h,fun _ _ _ _ r h=>by simp [zH.l0] at h⟩
 | k + 1=>by
  obtain ⟨ih0,ih1⟩:=zH.mono_l k
  refine ⟨?_,?_⟩
  ·intro y0 y1 y2
   unfold zH.f
   repeat' first
   | (with_reducible exact ih0 _ _ _)
   | (with_reducible exact ih1 _ _ _ _)
   | (with_reducible exact LeO.refl _)
   | (with_reducible exact LeO.none _)
   | (with_reducible refine LeO.ite ?_ ?_)
   | (with_reducible refine LeO.bind ?_ (fun _=>?_))
   | exact ih0 _ _ _
   | exact ih1 _ _ _ _
   | exact LeO.none _
   | refine LeO.ite ?_ ?_
   | refine LeO.bind ?_ (fun _=>?_)
  ·intro y0 y1 y2 y3
   unfold zH.l0
   repeat' first
   | (with_reducible exact ih0 _ _ _)
   | (with_reducible exact ih1 _ _ _ _)
   | (with_reducible exact LeO.refl _)
   | (with_reducible exact LeO.none _)
   | (with_reducible refine LeO.ite ?_ ?_)
   | (with_reducible refine LeO.bind ?_ (fun _=>?_))
   | exact ih0 _ _ _
   | exact ih1 _ _ _ _
   | exact LeO.none _
   | refine LeO.ite ?_ ?_
   | refine LeO.bind ?_ (fun _=>?_)
theorem zH.mono : ∀ a0 a1 a2 k,LeO (zH.f k a0 a1 a2) (zH.f (k + 1) a0 a1 a2):=by
 intro a0 a1 a2 k
 obtain ⟨ih0,ih1⟩:=zH.mono_l k
 exact ih0 a0 a1 a2
set_option maxHeartbeats 8000000 in
set_option maxRecDepth 100000 in
theorem zH.calls (k : Nat) : ∀ (a0_0 : Int) (a0_1 : Int) (A0_2 : Option Addr) (c0_2 : Nat) (l0_2 : List (S28)) (r : Int) (w : World) (hr0_2 : Kd.C k28 w A0_2 l0_2.length l0_2) (hc0_2 : l0_2.length ≤ c0_2) (h : zH.f k a0_0 a0_1 l0_2 = some r),
  Calls Try.prog 22 #[.agg #[.int .i64 a0_0,.int .i64 a0_1,.slice A0_2 l0_2.length c0_2]] w fun e w'=>e = .returned (.int .i64 r)∧Below w.heap.size w w':=by
 induction k using Nat.strongRecOn with
 | _ k ih =>
 intro a0_0 a0_1 A0_2 c0_2 l0_2 r w hr0_2 hc0_2 h
 cases k with
 | zero=>exact absurd h (by simp [zH.f])
 | succ k =>
 simp only [zH.f] at h
 have hu28:=Try.underlying28
 have HR0_2:=qA.mk hr0_2
 have HC0_2:=qA.mk hc0_2
 clear hr0_2 hc0_2
 have HB:=qA.mk (Below.refl w.heap.size w)
 have H : (zH.l0 k 1 l0_2 (l0_2.length : Int) 0) = some r:=h
 clear h
 have H':=qA.mk H
 clear H
 go_enter Try.func22,Try.ntmps22
 go_wp2_with (first|((with_reducible refine zK (N:=1) rfl ?_);refine q9 ?hg (N:=1) ?hd (cs:=#[.int .i64 a0_0,.int .i64 a0_1,.slice A0_2 l0_2.length c0_2]) (t:=28) ?hr ?_;(case hd=>rfl);(case hg=>rfl);(case hr=>exact byaa);intro gb244 hg w2 hbox hb;have n0_:=qA.mk (qE byab hb);have n1_:=qA.mk (hbox);have n2_:=qA.mk ((byby : w.heap.size ≤ gb244));have n3_:=qA.mk ((byby : w.heap.size ≤ gb244));clear HB;have HB:=n0_;have BK244:=n1_;have GW244:=n2_;have GE244:=n3_;clear n0_ n1_ n2_ n3_;clear hb hbox hg;have hcz3_0 : w2.cell? ⟨gb244,0,none⟩ = some (.int .i64 a0_0):=(qC BK244.out 0).trans rfl;have hcz3_1 : w2.cell? ⟨gb244,1,none⟩ = some (.int .i64 a0_1):=(qC BK244.out 1).trans rfl;have hcz3_2 : w2.cell? ⟨gb244,2,none⟩ = some (.slice A0_2 l0_2.length c0_2):=(qC BK244.out 2).trans rfl;have hfz3_0:=qB BK244.out 0;have hfz3_1:=qB BK244.out 1;have hfz3_2:=qB BK244.out 2))
 go_loopg [3,9] k (fun kq v3 v9 w'=>∃ (x3_1 : Int) (x9_1 : Int),v3 = .int .i64 x3_1∧v9 = .int .i64 x9_1∧qA (zH.l0 kq x3_1 l0_2 (l0_2.length : Int) x9_1 = some r)∧qA (kq ≤ k)∧qA (w'.heap[gb244]? = some (.cells #[.int .i64 a0_0,.int .i64 a0_1,(.slice A0_2 l0_2.length c0_2)] 28 (0,0)))∧qA (Below w.heap.size w w'))
 case atStart=>exact ⟨(1),(0),byae,byae,H',⟨Nat.le_refl _⟩,⟨byaf BK244.out⟩,⟨byad GE244.out⟩⟩
 case round =>
  clear H'
  try clear c2
  try clear p2
  try clear hcz3_0
  try clear hcz3_1
  try clear hcz3_2
  try clear hfz3_0
  try clear hfz3_1
  try clear hfz3_2
  obtain ⟨x3_1,x9_1,rfl,rfl,HA,HK1,BK244,HB⟩:=hrel
  cases gk with
  | zero=>exact absurd HA.out (by simp [zH.l0])
  | succ k1 =>
   have H:=HA.out
   clear HA
   simp only [zH.l0] at H
   by_cases c4 : x9_1 < (l0_2.length : Int)
   ·rw [if_pos c4] at H
    have c4b0 : decide (x9_1 < (l0_2.length : Int)) = true:=decide_eq_true c4
    clear c4
    by_cases c5 : 0 ≤ x9_1
    ·rw [if_pos c5] at H
     have c5b0 : decide (0 ≤ x9_1) = true:=decide_eq_true c5
     clear c5
     by_cases c6 : x9_1 < (l0_2.length : Int)
     ·rw [if_pos c6] at H
      have c6b0 : decide (x9_1 < (l0_2.length : Int)) = true:=decide_eq_true c6
      clear c6
      replace H:=Option.bind_eq_some_iff.mp H
      obtain ⟨t247,A70,H⟩:=H
      replace H : (zH.l0 k1 (wrap64 (x3_1 + t247)) l0_2 (l0_2.length : Int) (wrap64 (x9_1 + 1))) = some r:=H
      have A7:=qA.mk A70
      clear A70
      have H':=qA.mk H
      clear H
      have p245 : 0 ≤ (x9_1 : Int):=of_decide_eq_true byag
      have q245 : x9_1 < (l0_2.length : Int):=of_decide_eq_true byag
      obtain ⟨ad245,A245_2,c245_2,e245,hx245_0,hx245_1,hx245_2,hl245_2,hi245_2⟩:=at_T28 HR0_2.out x9_1 p245 q245
      cases e245
      replace hx245_0:=(HB.out.cell (World.block_lt_of_cell? w _ hx245_0)).trans hx245_0
      replace hx245_1:=(HB.out.cell (World.block_lt_of_cell? w _ hx245_1)).trans hx245_1
      replace hx245_2:=(HB.out.cell (World.block_lt_of_cell? w _ hx245_2)).trans hx245_2
      have HR245_2:=qA.mk hi245_2
      have HC245_2:=qA.mk hl245_2
      clear hi245_2 hl245_2
      replace p245:=eq_true p245
      replace q245:=eq_true q245
      go_wp2_with (first|((with_reducible refine zK (N:=5) rfl ?_);refine q9 ?hg (N:=5) ?hd (cs:=#[.int .i64 0,.int .i64 0,.slice none 0 0]) (t:=28) ?hr ?_;(case hd=>rfl);(case hg=>rfl);(case hr=>exact byaa);intro gb246 hg w8 hbox hb;have n0_:=qA.mk (qH (g:=gb244) (o:=.cells #[.int .i64 a0_0,.int .i64 a0_1,.slice (some ad245) l0_2.length c0_2] 28 (0,0)) (byaf BK244.out) hb);have n1_:=qA.mk (qE (byad GE244.out) hb);have n2_:=qA.mk (hbox);have n3_:=qA.mk ((bybz GE244.out : w.heap.size ≤ gb246));have n4_:=qA.mk ((bybz GE244.out : w.heap.size ≤ gb246));have n5_:=qA.mk ((by rw [hg];exact Nat.ne_of_lt (jF (g:=gb244) (o:=.cells #[.int .i64 a0_0,.int .i64 a0_1,.slice (some ad245) l0_2.length c0_2] 28 (0,0)) (byaf BK244.out)) : gb244≠gb246));have n6_:=qA.mk ((by rw [hg];exact Nat.ne_of_gt (jF (g:=gb244) (o:=.cells #[.int .i64 a0_0,.int .i64 a0_1,.slice (some ad245) l0_2.length c0_2] 28 (0,0)) (byaf BK244.out)) : gb246≠gb244));clear BK244;clear HB;have BK244:=n0_;have HB:=n1_;have BK246:=n2_;have GW246:=n3_;have GE246:=n4_;have NB244_246:=n5_;have NB246_244:=n6_;clear n0_ n1_ n2_ n3_ n4_ n5_ n6_;clear hb hbox hg;have hnb9:=NB246_244.out;have hnc9:=NB244_246.out;have hcz10_0 : w8.cell? ⟨gb246,0,none⟩ = some (.int .i64 0):=(qC BK246.out 0).trans rfl;have hcz10_1 : w8.cell? ⟨gb246,1,none⟩ = some (.int .i64 0):=(qC BK246.out 1).trans rfl;have hcz10_2 : w8.cell? ⟨gb246,2,none⟩ = some (.slice none 0 0):=(qC BK246.out 2).trans rfl;have hfz10_0:=qB BK246.out 0;have hfz10_1:=qB BK246.out 1;have hfz10_2:=qB BK246.out 2)|((with_reducible refine qI (f:=22) rfl ?_);refine zL (some 15) rfl rfl Try.func22 (by kernel_rfl) rfl #[.agg #[.int .i64 ((jS l0_2 x9_1).f0),.int .i64 ((jS l0_2 x9_1).f1),.slice A245_2 ((jS l0_2 x9_1).f2).length c245_2]] rfl byah ?_;(with_reducible refine (ih k1 byai ((jS l0_2 x9_1).f0) ((jS l0_2 x9_1).f1) _ _ ((jS l0_2 x9_1).f2) t247 _ ?side1 ?side2 A7.out).mono ?_);(case side1=>exact Kd.vK HR245_2.out (byaj GE244.out GE246.out));(case side2=>exact HC245_2.out);rintro e w11 ⟨rfl,hb⟩;refine ⟨_,rfl,?_⟩;have n0_:=qA.mk (qH (g:=gb244) (o:=.cells #[.int .i64 a0_0,.int .i64 a0_1,.slice (some ad245) l0_2.length c0_2] 28 (0,0)) (byak NB244_246.out BK244.out) hb);have n1_:=qA.mk (qH (g:=gb246) (o:=.cells #[.int .i64 ((jS l0_2 x9_1).f0),.int .i64 ((jS l0_2 x9_1).f1),.slice A245_2 ((jS l0_2 x9_1).f2).length c245_2] 28 (0,0)) (by (with_reducible repeat (first|refine qG ?_ _|refine qJ ?_|refine qF ?_ _));refine zJ (cs:=#[.int .i64 ((jS l0_2 x9_1).f0),.int .i64 ((jS l0_2 x9_1).f1),.slice none 0 0]) ?_ 2 _ rfl;(with_reducible repeat (first|refine qG ?_ _|refine qJ ?_|refine qF ?_ _));refine zJ (cs:=#[.int .i64 ((jS l0_2 x9_1).f0),.int .i64 0,.slice none 0 0]) ?_ 1 _ rfl;(with_reducible repeat (first|refine qG ?_ _|refine qJ ?_|refine qF ?_ _));refine zJ (cs:=#[.int .i64 0,.int .i64 0,.slice none 0 0]) ?_ 0 _ rfl;(with_reducible repeat (first|refine qG ?_ _|refine qJ ?_|refine qF ?_ _));exact BK246.out) hb);have n2_:=qA.mk (qE (byaj GE244.out GE246.out) hb);clear BK244;clear BK246;clear HB;have BK244:=n0_;have BK246:=n1_;have HB:=n2_;clear n0_ n1_ n2_;(try clear hb);(try clear hb2);(try clear hk);(try clear hi)))
      go_roundg k1
      case measure=>have:=HK1.out;omega
      case rel=>exact ⟨(wrap64 (x3_1 + t247)),(wrap64 (x9_1 + 1)),byae,byae,H',⟨byai⟩,⟨byaf BK244.out⟩,⟨byaj GE244.out GE246.out⟩⟩
     ·rw [if_neg c6] at H
      exact absurd H (by simp)
    ·rw [if_neg c5] at H
     exact absurd H (by simp)
   ·rw [if_neg c4] at H
    have c4b0 : decide (x9_1 < (l0_2.length : Int)) = false:=decide_eq_false c4
    clear c4
    obtain rfl:=Option.some.inj H
    go_wp2
    go_ret
    exact ⟨byac,byad GE244.out⟩
end Go.Proofs.Ytkkbdimegpdbgaa.P
