/- Functions of the program as Lean functions, and the walks that show that the calls answer so; written by a program of this session (a changed print) and by hand. -/
import Derived.Test.YtkkbdimegpdbgaaQdPx0
import Derived.Test.YtkkbdimegpdbgaaQdPx1
import Derived.Test.YtkkbdimegpdbgaaQdPx5
import Derived.Test.YtkkbdimegpdbgaaQdPx6
namespace Go.Proofs.Ytkkbdimegpdbgaa.P
open Go.RowKit Go.Proofs.YtkkbdimegpdbgaaW.PrintWords Go.Proofs.YtkkbdimegpdbgaaW.PrintLast Go.Proofs.YtkkbdimegpdbgaaW.PrintMore
attribute [local go_sem] uH uI uQ uR vW vV uF uG
set_option linter.unusedVariables false
set_option linter.unusedSimpArgs false
mutual
def qL.j0 : Nat→Int→Int→Bool→List (S58)→Int→Int→List (S28)→Option (Bool)
 | 0,_,_,_,_,_,_,_=>none
 | k + 1,x2,x3,x9,x249000,x250000,x250001,x250002=>if x250000 = 1 then (if x9 = true then ((jN.f k x249000 x2 x3).bind fun t250=>(some t250)) else (some false)) else (if x250000 = 2 then (if x9 = true then ((zZ.f k x249000 x2).bind fun t251=>(some t251)) else (some false)) else (if x250000 = 3 then (if (x250002.length : Int) = 2 then ((jC.f x249000).bind fun t252=>((vQ.f (Go.bits .andNot .i64 (Go.bits .andNot .i64 t252 x2) x3) x250001).bind fun t253=>(qL.j1 k x2 x3 (!t253) x249000 x250000 x250001 x250002))) else (qL.j1 k x2 x3 true x249000 x250000 x250001 x250002)) else (some false)))
def qL.j1 : Nat→Int→Int→Bool→List (S58)→Int→Int→List (S28)→Option (Bool)
 | 0,_,_,_,_,_,_,_=>none
 | k + 1,x2,x3,x55,x249000,x250000,x250001,x250002=>if x55 = true then (some false) else (if 0 < (x250002.length : Int) then (if 0 ≤ x250001 then ((qL.f k x249000 ((jS x250002 0).f0) ((jS x250002 0).f1) ((jS x250002 0).f2) x2 (Go.bits .or .i64 x3 (shl .i64 1 x250001))).bind fun t255=>(if t255 = true then (if 1 < (x250002.length : Int) then ((qL.f k x249000 ((jS x250002 1).f0) ((jS x250002 1).f1) ((jS x250002 1).f2) (Go.bits .or .i64 x2 (shl .i64 1 x250001)) x3).bind fun t257=>(some t257)) else (none)) else (some false))) else (none)) else (none))
def qL.f : Nat→List (S58)→Int→Int→List (S28)→Int→Int→Option (Bool)
 | 0,_,_,_,_,_,_=>none
 | k + 1,l0_0,a1_0,a1_1,l1_2,a2,a3=>if a1_1 = 0 then (qL.j0 k a2 a3 ((l1_2.length : Int) == 0) l0_0 a1_0 a1_1 l1_2) else (qL.j0 k a2 a3 false l0_0 a1_0 a1_1 l1_2)
end
theorem qL.mono_l : ∀ k,(∀ y0 y1 y2 y3 y4 y5,LeO (qL.f k y0 y1 y2 y3 y4 y5) (qL.f (k + 1) y0 y1 y2 y3 y4 y5))∧(∀ y0 y1 y2 y3 y4 y5 y6,LeO (qL.j0 k y0 y1 y2 y3 y4 y5 y6) (qL.j0 (k + 1) y0 y1 y2 y3 y4 y5 y6))∧(∀ y0 y1 y2 y3 y4 y5 y6,LeO (qL.j1 k y0 y1 y2 y3 y4 y5 y6) (qL.j1 (k + 1) y0 y1 y2 y3 y4 y5 y6))
 | 0=>⟨fun _ _ _ _ _ _ r h=>by simp [qL.f] at h,fun _ _ _ _ _ _ _ r h=>by simp [qL.j0] at h,fun _ _ _ _ _ _ _ r h=>by simp [qL.j1] at h⟩
 | k + 1=>by
  obtain ⟨ih0,ih1,ih2⟩:=qL.mono_l k
  refine ⟨?_,?_,?_⟩
  ·intro y0 y1 y2 y3 y4 y5
   unfold qL.f
   repeat' first
   | (with_reducible exact ih0 _ _ _ _ _ _)
   | (with_reducible exact ih1 _ _ _ _ _ _ _)
   | (with_reducible exact ih2 _ _ _ _ _ _ _)
   | (with_reducible exact zZ.mono _ _ _)
   | (with_reducible exact jN.mono _ _ _ _)
   | (with_reducible exact LeO.refl _)
   | (with_reducible exact LeO.none _)
   | (with_reducible refine LeO.ite ?_ ?_)
   | (with_reducible refine LeO.bind ?_ (fun _=>?_))
   | exact ih0 _ _ _ _ _ _
   | exact ih1 _ _ _ _ _ _ _
   | exact ih2 _ _ _ _ _ _ _
   | exact zZ.mono _ _ _
   | exact jN.mono _ _ _ _
   | exact LeO.none _
   | refine LeO.ite ?_ ?_
   | refine LeO.bind ?_ (fun _=>?_)
  ·intro y0 y1 y2 y3 y4 y5 y6
   unfold qL.j0
   repeat' first
   | (with_reducible exact ih0 _ _ _ _ _ _)
   | (with_reducible exact ih1 _ _ _ _ _ _ _)
   | (with_reducible exact ih2 _ _ _ _ _ _ _)
   | (with_reducible exact zZ.mono _ _ _)
   | (with_reducible exact jN.mono _ _ _ _)
   | (with_reducible exact LeO.refl _)
   | (with_reducible exact LeO.none _)
   | (with_reducible refine LeO.ite ?_ ?_)
   | (with_reducible refine LeO.bind ?_ (fun _=>?_))
   | exact ih0 _ _ _ _ _ _
   | exact ih1 _ _ _ _ _ _ _
   | exact ih2 _ _ _ _ _ _ _
   | exact zZ.mono _ _ _
   | exact jN.mono _ _ _ _
   | exact LeO.none _
   | refine LeO.ite ?_ ?_
   | refine LeO.bind ?_ (fun _=>?_)
  ·intro y0 y1 y2 y3 y4 y5 y6
   unfold qL.j1
   repeat' first
   | (with_reducible exact ih0 _ _ _ _ _ _)
   | (with_reducible exact ih1 _ _ _ _ _ _ _)
   | (with_reducible exact ih2 _ _ _ _ _ _ _)
   | (with_reducible exact zZ.mono _ _ _)
   | (with_reducible exact jN.mono _ _ _ _)
   | (with_reducible exact LeO.refl _)
   | (with_reducible exact LeO.none _)
   | (with_reducible refine LeO.ite ?_ ?_)
   | (with_reducible refine LeO.bind ?_ (fun _=>?_))
   | exact ih0 _ _ _ _ _ _
   | exact ih1 _ _ _ _ _ _ _
   | exact ih2 _ _ _ _ _ _ _
   | exact zZ.mono _ _ _
   | exact jN.mono _ _ _ _
   | exact LeO.none _
   | refine LeO.ite ?_ ?_
   | refine LeO.bind ?_ (fun _=>?_)
theorem qL.mono : ∀ a0 a1 a2 a3 a4 a5 k,LeO (qL.f k a0 a1 a2 a3 a4 a5) (qL.f (k + 1) a0 a1 a2 a3 a4 a5):=by
 intro a0 a1 a2 a3 a4 a5 k
 obtain ⟨ih0,ih1,ih2⟩:=qL.mono_l k
 exact ih0 a0 a1 a2 a3 a4 a5
def qL.T8 : Bool × List (List Nat × List Nat):=(true,[([],[]),([0],[0]),([1],[1]),([2],[2]),([3],[3]),([4],[4]),([5,4,4],[4,5]),([4],[4]),([6,7,4],[4,6,7]),([4],[4]),([8,9,4],[4,8,9]),([4],[4]),([11,4],[4,11]),([10,12,6,4],[4,10,12]),([13,4],[4,13]),([4,14],[4,14])])
def qL.B8 : List Nat:=[0,1,3,7,15,31,63,31,255,31,1023,31,2079,8191,16383,32767]
theorem qL.tab8 : rtab .any (opsOf Try.f41 8) = qL.T8:=by kernel_rfl
theorem qL.bits8 : kL qL.T8.2 qL.B8 = true:=by kernel_rfl
def qL.T10 : Bool × List (List Nat × List Nat):=(true,[([],[]),([],[]),([1],[1]),([2],[2]),([3],[3]),([],[]),([],[]),([],[]),([7],[7]),([8],[8]),([6,9],[6,9]),([0,4,5,10],[0,4,5,10]),([11,11],[11]),([12],[12]),([12],[12]),([14,12],[12,14]),([15,12],[12,15]),([16,12],[12,16]),([12],[12]),([12],[12]),([19,12],[12,19]),([20,12],[12,20]),([18,21,12],[12,18,21]),([12],[12]),([13,17,22,23,12,12],[12,13,17,22,23]),([12,24],[12,24]),([25,24,0,1,2,3,4,5,6,7,8,9,10,11,12,13,14,15,16,17,18,19,20,21,22,23,24,25],[25])])
def qL.B10 : List Nat:=[0,0,2,6,14,0,0,0,128,384,960,2047,4095,8191,8191,24575,57343,122879,8191,8191,532479,1581055,3940351,8191,16777215,33554431,67108863]
theorem qL.tab10 : rtab .any (opsOf Try.f41 10) = qL.T10:=by kernel_rfl
theorem qL.bits10 : kL qL.T10.2 qL.B10 = true:=by kernel_rfl
set_option maxHeartbeats 8000000 in
set_option maxRecDepth 100000 in
theorem qL.calls (k : Nat) : ∀ (A0_0 : Option Addr) (c0_0 : Nat) (l0_0 : List (S58)) (a1_0 : Int) (a1_1 : Int) (A1_2 : Option Addr) (c1_2 : Nat) (l1_2 : List (S28)) (a2 : Int) (a3 : Int) (r : Bool) (w : World) (hr0_0 : Kd.C k58 w A0_0 l0_0.length l0_0) (hc0_0 : l0_0.length ≤ c0_0) (hr1_2 : Kd.C k28 w A1_2 l1_2.length l1_2) (hc1_2 : l1_2.length ≤ c1_2) (h : qL.f k l0_0 a1_0 a1_1 l1_2 a2 a3 = some r),
  Calls Try.prog 41 #[.agg #[.slice A0_0 l0_0.length c0_0],.agg #[.int .i64 a1_0,.int .i64 a1_1,.slice A1_2 l1_2.length c1_2],.int .i64 a2,.int .i64 a3] w fun e w'=>e = .returned (.bool r)∧Below w.heap.size w w':=by
 induction k using Nat.strongRecOn with
 | _ k ih =>
 intro A0_0 c0_0 l0_0 a1_0 a1_1 A1_2 c1_2 l1_2 a2 a3 r w hr0_0 hc0_0 hr1_2 hc1_2 h
 cases k with
 | zero=>exact absurd h (by simp [qL.f])
 | succ k =>
 simp only [qL.f] at h
 have hu25:=Try.underlying25
 have hu28:=Try.underlying28
 have HR0_0:=qA.mk hr0_0
 have HC0_0:=qA.mk hc0_0
 clear hr0_0 hc0_0
 have HR1_2:=qA.mk hr1_2
 have HC1_2:=qA.mk hc1_2
 clear hr1_2 hc1_2
 have HB:=qA.mk (Below.refl w.heap.size w)
 have H : (if a1_1 = 0 then (qL.j0 k a2 a3 ((l1_2.length : Int) == 0) l0_0 a1_0 a1_1 l1_2) else (qL.j0 k a2 a3 false l0_0 a1_0 a1_1 l1_2)) = some r:=h
 clear h
 have HC5:=qA.mk H
 clear H
 go_enter Try.func41,Try.ntmps41
 go_upto_region 1 with (first|((with_reducible refine zK (N:=4) rfl ?_);(try (refine uX (by rfl) ?_;dsimp only));refine q9 ?hg (N:=4) ?hd (cs:=#[.slice A0_0 l0_0.length c0_0]) (t:=25) ?hr ?_;(case hd=>rfl);(case hg=>rfl);(case hr=>exact byaa);intro gb248 hg w6 hbox hb;have n0_:=qA.mk (qE byab hb);have n1_:=qA.mk (hbox);have n2_:=qA.mk ((byby : w.heap.size ≤ gb248));have n3_:=qA.mk ((byby : w.heap.size ≤ gb248));clear HB;have HB:=n0_;have BK248:=n1_;have GW248:=n2_;have GE248:=n3_;clear n0_ n1_ n2_ n3_;clear hb hbox hg)|((with_reducible refine zK (N:=5) rfl ?_);(try (refine uX (by rfl) ?_;dsimp only));refine q9 ?hg (N:=5) ?hd (cs:=#[.int .i64 a1_0,.int .i64 a1_1,.slice A1_2 l1_2.length c1_2]) (t:=28) ?hr ?_;(case hd=>rfl);(case hg=>rfl);(case hr=>exact byaa);intro gb249 hg w7 hbox hb;have n0_:=qA.mk (qH (g:=gb248) (o:=.cells #[.slice A0_0 l0_0.length c0_0] 25 (0,0)) (byaf BK248.out) hb);have n1_:=qA.mk (qE (byad GE248.out) hb);have n2_:=qA.mk (hbox);have n3_:=qA.mk ((bybz GE248.out : w.heap.size ≤ gb249));have n4_:=qA.mk ((bybz GE248.out : w.heap.size ≤ gb249));have n5_:=qA.mk ((by rw [hg];exact Nat.ne_of_lt (jF (g:=gb248) (o:=.cells #[.slice A0_0 l0_0.length c0_0] 25 (0,0)) (byaf BK248.out)) : gb248≠gb249));have n6_:=qA.mk ((by rw [hg];exact Nat.ne_of_gt (jF (g:=gb248) (o:=.cells #[.slice A0_0 l0_0.length c0_0] 25 (0,0)) (byaf BK248.out)) : gb249≠gb248));clear BK248;clear HB;have BK248:=n0_;have HB:=n1_;have BK249:=n2_;have GW249:=n3_;have GE249:=n4_;have NB248_249:=n5_;have NB249_248:=n6_;clear n0_ n1_ n2_ n3_ n4_ n5_ n6_;clear hb hbox hg))
 (try simp only [Act.put,List.setIfInBounds_toArray,List.set_cons_zero,List.set_cons_succ])
 go_cut [9] (fun v9 wc=>∃ (kq : Nat) (x9_4 : Bool),v9 = .bool x9_4∧qA (qL.j0 kq a2 a3 x9_4 l0_0 a1_0 a1_1 l1_2 = some r)∧qA (kq ≤ k)∧qA (wc.heap[gb248]? = some (.cells #[(.slice A0_0 l0_0.length c0_0)] 25 (0,0)))∧qA (wc.heap[gb249]? = some (.cells #[.int .i64 a1_0,.int .i64 a1_1,(.slice A1_2 l1_2.length c1_2)] 28 (0,0)))∧qA (Below w.heap.size w wc))
 case first =>
  have H:=HC5.out
  clear HC5
  by_cases c8 : a1_1 = 0
  ·rw [if_pos c8] at H
   have c8b0 : (a1_1 == 0) = true:=beq_iff_eq.mpr c8
   have c8b1 : (a1_1 != 0) = false:=bne_eq_false_iff_eq.mpr c8
   clear c8
   (first|rw [c8b0]|(simp only [qY,zA];rw [c8b0])|skip)
   have H':=qA.mk H
   clear H
   have hnb9:=NB249_248.out
   have hnc9:=NB248_249.out
   have hcz10_0 : w7.cell? ⟨gb249,0,none⟩ = some (.int .i64 a1_0):=(qC BK249.out 0).trans rfl
   have hcz10_1 : w7.cell? ⟨gb249,1,none⟩ = some (.int .i64 a1_1):=(qC BK249.out 1).trans rfl
   have hcz10_2 : w7.cell? ⟨gb249,2,none⟩ = some (.slice A1_2 l1_2.length c1_2):=(qC BK249.out 2).trans rfl
   have hfz10_0:=qB BK249.out 0
   have hfz10_1:=qB BK249.out 1
   have hfz10_2:=qB BK249.out 2
   go_wp2
   go_meet
   case rel=>exact ⟨_,(((l1_2.length : Int) == 0)),byae,H',⟨byap⟩,⟨byaf BK248.out⟩,⟨byaf BK249.out⟩,⟨byaj GE248.out GE249.out⟩⟩
  ·rw [if_neg c8] at H
   have c8b0 : (a1_1 == 0) = false:=beq_eq_false_iff_ne.mpr c8
   have c8b1 : (a1_1 != 0) = true:=bne_iff_ne.mpr c8
   (first|rw [c8b0]|(simp only [qY,zA];rw [c8b0])|skip)
   have H':=qA.mk H
   clear H
   have hnb11:=NB249_248.out
   have hnc11:=NB248_249.out
   have hcz12_0 : w7.cell? ⟨gb249,0,none⟩ = some (.int .i64 a1_0):=(qC BK249.out 0).trans rfl
   have hcz12_1 : w7.cell? ⟨gb249,1,none⟩ = some (.int .i64 a1_1):=(qC BK249.out 1).trans rfl
   have hcz12_2 : w7.cell? ⟨gb249,2,none⟩ = some (.slice A1_2 l1_2.length c1_2):=(qC BK249.out 2).trans rfl
   have hfz12_0:=qB BK249.out 0
   have hfz12_1:=qB BK249.out 1
   have hfz12_2:=qB BK249.out 2
   go_wp2
   go_meet
   case rel=>exact ⟨_,(false),byae,H',⟨byap⟩,⟨byaf BK248.out⟩,⟨byaf BK249.out⟩,⟨byaj GE248.out GE249.out⟩⟩
 case rest =>
  clear HC5
  try clear c1
  try clear p2
  try clear c4
  try clear c8
  try clear c8b0
  try clear c8b1
  try clear c9
  try clear c11
  try clear hcz10_0
  try clear hcz10_1
  try clear hcz10_2
  try clear hcz12_0
  try clear hcz12_1
  try clear hcz12_2
  try clear hfz10_0
  try clear hfz10_1
  try clear hfz10_2
  try clear hfz12_0
  try clear hfz12_1
  try clear hfz12_2
  obtain ⟨kq,x9_4,rfl,HA,HJ4,BK248,BK249,HB⟩:=hcut
  cases kq with
  | zero=>exact absurd HA.out (by simp [qL.j0])
  | succ kj4 =>
   have H:=HA.out
   clear HA
   simp only [qL.j0] at H
   by_cases c13 : a1_0 = 1
   ·rw [if_pos c13] at H
    have c13b0 : (a1_0 == 1) = true:=beq_iff_eq.mpr c13
    have c13b1 : (a1_0 != 1) = false:=bne_eq_false_iff_eq.mpr c13
    clear c13
    by_cases c14 : x9_4 = true
    ·subst c14
     have H1 : ((jN.f kj4 l0_0 a2 a3).bind fun t250=>(some t250)) = some r:=by rw [if_pos rfl] at H;exact H
     clear H
     have H:=H1
     clear H1
     replace H:=Option.bind_eq_some_iff.mp H
     obtain ⟨t250,A150,H⟩:=H
     replace H : (some t250) = some r:=H
     have A15:=qA.mk A150
     clear A150
     obtain rfl:=Option.some.inj H
     have hnb16:=NB249_248.out
     have hnc16:=NB248_249.out
     have hcz17_0 : wc.cell? ⟨gb249,0,none⟩ = some (.int .i64 a1_0):=(qC BK249.out 0).trans rfl
     have hcz17_1 : wc.cell? ⟨gb249,1,none⟩ = some (.int .i64 a1_1):=(qC BK249.out 1).trans rfl
     have hcz17_2 : wc.cell? ⟨gb249,2,none⟩ = some (.slice A1_2 l1_2.length c1_2):=(qC BK249.out 2).trans rfl
     have hfz17_0:=qB BK249.out 0
     have hfz17_1:=qB BK249.out 1
     have hfz17_2:=qB BK249.out 2
     have hcz18_0 : wc.cell? ⟨gb248,0,none⟩ = some (.slice A0_0 l0_0.length c0_0):=(qC BK248.out 0).trans rfl
     have hfz18_0:=qB BK248.out 0
     go_wp2_with (first|(go_at_call 59;(with_reducible refine (jN.calls kj4 _ _ l0_0 a2 a3 t250 _ ?side1 ?side2 A15.out).mono ?_);(case side1=>exact byaq HR0_0.out);(case side2=>exact HC0_0.out);rintro e w19 ⟨rfl,hb⟩;have n0_:=qA.mk (qH (g:=gb248) (o:=.cells #[.slice A0_0 l0_0.length c0_0] 25 (0,0)) (byaf BK248.out) hb);have n1_:=qA.mk (qH (g:=gb249) (o:=.cells #[.int .i64 a1_0,.int .i64 a1_1,.slice A1_2 l1_2.length c1_2] 28 (0,0)) (byaf BK249.out) hb);have n2_:=qA.mk (qE (byaj GE248.out GE249.out) hb);clear BK248;clear BK249;clear HB;have BK248:=n0_;have BK249:=n1_;have HB:=n2_;clear n0_ n1_ n2_;(try clear hb);(try clear hb2);(try clear hk);(try clear hi)))
     go_ret
     exact ⟨byac,byaj GE248.out GE249.out⟩
    ·replace c14:=Bool.eq_false_iff.mpr c14
     subst c14
     have H1 : (some false) = some r:=by rw [if_neg (show ¬ (false = true) by decide)] at H;exact H
     clear H
     have H:=H1
     clear H1
     obtain rfl:=Option.some.inj H
     have hnb20:=NB249_248.out
     have hnc20:=NB248_249.out
     have hcz21_0 : wc.cell? ⟨gb249,0,none⟩ = some (.int .i64 a1_0):=(qC BK249.out 0).trans rfl
     have hcz21_1 : wc.cell? ⟨gb249,1,none⟩ = some (.int .i64 a1_1):=(qC BK249.out 1).trans rfl
     have hcz21_2 : wc.cell? ⟨gb249,2,none⟩ = some (.slice A1_2 l1_2.length c1_2):=(qC BK249.out 2).trans rfl
     have hfz21_0:=qB BK249.out 0
     have hfz21_1:=qB BK249.out 1
     have hfz21_2:=qB BK249.out 2
     go_wp2
     go_ret
     exact ⟨byac,byaj GE248.out GE249.out⟩
   ·rw [if_neg c13] at H
    have c13b0 : (a1_0 == 1) = false:=beq_eq_false_iff_ne.mpr c13
    have c13b1 : (a1_0 != 1) = true:=bne_iff_ne.mpr c13
    by_cases c22 : a1_0 = 2
    ·rw [if_pos c22] at H
     have c22b0 : (a1_0 == 2) = true:=beq_iff_eq.mpr c22
     have c22b1 : (a1_0 != 2) = false:=bne_eq_false_iff_eq.mpr c22
     clear c22
     by_cases c23 : x9_4 = true
     ·subst c23
      have H1 : ((zZ.f kj4 l0_0 a2).bind fun t251=>(some t251)) = some r:=by rw [if_pos rfl] at H;exact H
      clear H
      have H:=H1
      clear H1
      replace H:=Option.bind_eq_some_iff.mp H
      obtain ⟨t251,A240,H⟩:=H
      replace H : (some t251) = some r:=H
      have A24:=qA.mk A240
      clear A240
      obtain rfl:=Option.some.inj H
      have hnb25:=NB249_248.out
      have hnc25:=NB248_249.out
      have hcz26_0 : wc.cell? ⟨gb249,0,none⟩ = some (.int .i64 a1_0):=(qC BK249.out 0).trans rfl
      have hcz26_1 : wc.cell? ⟨gb249,1,none⟩ = some (.int .i64 a1_1):=(qC BK249.out 1).trans rfl
      have hcz26_2 : wc.cell? ⟨gb249,2,none⟩ = some (.slice A1_2 l1_2.length c1_2):=(qC BK249.out 2).trans rfl
      have hfz26_0:=qB BK249.out 0
      have hfz26_1:=qB BK249.out 1
      have hfz26_2:=qB BK249.out 2
      have hcz27_0 : wc.cell? ⟨gb248,0,none⟩ = some (.slice A0_0 l0_0.length c0_0):=(qC BK248.out 0).trans rfl
      have hfz27_0:=qB BK248.out 0
      go_wp2_with (first|(go_at_call 60;(with_reducible refine (zZ.calls kj4 _ _ l0_0 a2 t251 _ ?side1 ?side2 A24.out).mono ?_);(case side1=>exact byaq HR0_0.out);(case side2=>exact HC0_0.out);rintro e w28 ⟨rfl,hb⟩;have n0_:=qA.mk (qH (g:=gb248) (o:=.cells #[.slice A0_0 l0_0.length c0_0] 25 (0,0)) (byaf BK248.out) hb);have n1_:=qA.mk (qH (g:=gb249) (o:=.cells #[.int .i64 a1_0,.int .i64 a1_1,.slice A1_2 l1_2.length c1_2] 28 (0,0)) (byaf BK249.out) hb);have n2_:=qA.mk (qE (byaj GE248.out GE249.out) hb);clear BK248;clear BK249;clear HB;have BK248:=n0_;have BK249:=n1_;have HB:=n2_;clear n0_ n1_ n2_;(try clear hb);(try clear hb2);(try clear hk);(try clear hi)))
      go_ret
      exact ⟨byac,byaj GE248.out GE249.out⟩
     ·replace c23:=Bool.eq_false_iff.mpr c23
      subst c23
      have H1 : (some false) = some r:=by rw [if_neg (show ¬ (false = true) by decide)] at H;exact H
      clear H
      have H:=H1
      clear H1
      obtain rfl:=Option.some.inj H
      have hnb29:=NB249_248.out
      have hnc29:=NB248_249.out
      have hcz30_0 : wc.cell? ⟨gb249,0,none⟩ = some (.int .i64 a1_0):=(qC BK249.out 0).trans rfl
      have hcz30_1 : wc.cell? ⟨gb249,1,none⟩ = some (.int .i64 a1_1):=(qC BK249.out 1).trans rfl
      have hcz30_2 : wc.cell? ⟨gb249,2,none⟩ = some (.slice A1_2 l1_2.length c1_2):=(qC BK249.out 2).trans rfl
      have hfz30_0:=qB BK249.out 0
      have hfz30_1:=qB BK249.out 1
      have hfz30_2:=qB BK249.out 2
      go_wp2
      go_ret
      exact ⟨byac,byaj GE248.out GE249.out⟩
    ·rw [if_neg c22] at H
     have c22b0 : (a1_0 == 2) = false:=beq_eq_false_iff_ne.mpr c22
     have c22b1 : (a1_0 != 2) = true:=bne_iff_ne.mpr c22
     by_cases c31 : a1_0 = 3
     ·rw [if_pos c31] at H
      have c31b0 : (a1_0 == 3) = true:=beq_iff_eq.mpr c31
      have c31b1 : (a1_0 != 3) = false:=bne_eq_false_iff_eq.mpr c31
      clear c31
      have HC32:=qA.mk H
      clear H
      have hnb33:=NB249_248.out
      have hnc33:=NB248_249.out
      have hcz34_0 : wc.cell? ⟨gb249,0,none⟩ = some (.int .i64 a1_0):=(qC BK249.out 0).trans rfl
      have hcz34_1 : wc.cell? ⟨gb249,1,none⟩ = some (.int .i64 a1_1):=(qC BK249.out 1).trans rfl
      have hcz34_2 : wc.cell? ⟨gb249,2,none⟩ = some (.slice A1_2 l1_2.length c1_2):=(qC BK249.out 2).trans rfl
      have hfz34_0:=qB BK249.out 0
      have hfz34_1:=qB BK249.out 1
      have hfz34_2:=qB BK249.out 2
      go_upto_region 8 with (fail)
      go_cut [55] (fun v55 wc=>∃ (kq : Nat) (x55_31 : Bool),v55 = .bool x55_31∧qA (qL.j1 kq a2 a3 x55_31 l0_0 a1_0 a1_1 l1_2 = some r)∧qA (kq ≤ kj4)∧qA (wc.heap[gb248]? = some (.cells #[(.slice A0_0 l0_0.length c0_0)] 25 (0,0)))∧qA (wc.heap[gb249]? = some (.cells #[.int .i64 a1_0,.int .i64 a1_1,(.slice A1_2 l1_2.length c1_2)] 28 (0,0)))∧qA (Below w.heap.size w wc))
      case first =>
       have H:=HC32.out
       clear HC32
       by_cases c35 : (l1_2.length : Int) = 2
       ·rw [if_pos c35] at H
        have c35b0 : ((l1_2.length : Int) == 2) = true:=beq_iff_eq.mpr c35
        have c35b1 : ((l1_2.length : Int) != 2) = false:=bne_eq_false_iff_eq.mpr c35
        clear c35
        (first|rw [c35b0]|(simp only [qY,zA];rw [c35b0])|skip)
        replace H:=Option.bind_eq_some_iff.mp H
        obtain ⟨t252,A360,H⟩:=H
        replace H : ((vQ.f (Go.bits .andNot .i64 (Go.bits .andNot .i64 t252 a2) a3) a1_1).bind fun t253=>(qL.j1 kj4 a2 a3 (!t253) l0_0 a1_0 a1_1 l1_2)) = some r:=H
        have A36:=qA.mk A360
        clear A360
        replace H:=Option.bind_eq_some_iff.mp H
        obtain ⟨t253,A370,H⟩:=H
        replace H : (qL.j1 kj4 a2 a3 (!t253) l0_0 a1_0 a1_1 l1_2) = some r:=H
        have A37:=qA.mk A370
        clear A370
        have H':=qA.mk H
        clear H
        try go_wp2
        have n0_:=qA.mk (qJ BK248.out)
        have n1_:=qA.mk (qJ BK249.out)
        have n2_:=qA.mk (jY HB.out)
        clear BK248
        clear BK249
        clear HB
        have BK248:=n0_
        have BK249:=n1_
        have HB:=n2_
        clear n0_ n1_ n2_
        refine kJ (n:=16) (S:=fun w'=>w'.cell? ⟨gb249,0,none⟩ = some (.int .i64 a1_0)∧w'.cell? ⟨gb249,1,none⟩ = some (.int .i64 a1_1)∧w'.cell? ⟨gb249,2,none⟩ = some (.slice A1_2 l1_2.length c1_2)∧w'.cell? ⟨gb248,0,none⟩ = some (.slice A0_0 l0_0.length c0_0)) (ds:=[]) #[false,false,false,false,false,false,false,false,false,false,false,false,false,false,false,false] (by kernel_rfl) rfl rfl ⟨(qC BK249.out 0).trans rfl,(qC BK249.out 1).trans rfl,(qC BK249.out 2).trans rfl,(qC BK248.out 0).trans rfl⟩ (fun hHeld=>?_);refine uY qL.tab8 qL.bits8 (fun HT_ HW_=>?_)
        generalize wc.drew = w38 at BK248 BK249 HB hHeld ⊢
        refine zY (i:=0) (N:=some 40) (v:=?_) (a':=?_) #[true,false,false,false,false,false,false,false,false,false,false,false,false,false,false,false] rfl rfl (zO HT_.out (by kernel_rfl)) (fun _ _ _ h=>h) (Or.inl ⟨by rfl,?_⟩) ?_ ?_
        rotate_left
        ·intro w'
         go_simp
         with_reducible rfl
        rotate_left
        ·simp only [Act.put,List.setIfInBounds_toArray,List.set_cons_zero,List.set_cons_succ,qY,zA]
         rfl
        refine vZ (i:=1) (N:=some 41) (v:=?_) (a':=?_) #[true,true,false,false,false,false,false,false,false,false,false,false,false,false,false,false] rfl rfl (vJ HT_.out HW_.out (by kernel_rfl)) (fun _ _ _ h=>h) (Or.inl ⟨by rfl,?_⟩) hHeld ?_ ?_
        rotate_left
        ·rintro w' ⟨s0,s1,s2,s3⟩
         go_simp
         with_reducible rfl
        rotate_left
        ·simp only [Act.put,List.setIfInBounds_toArray,List.set_cons_zero,List.set_cons_succ,qY,zA]
         rfl
        refine zY (i:=2) (N:=some 42) (v:=?_) (a':=?_) #[true,true,true,false,false,false,false,false,false,false,false,false,false,false,false,false] rfl rfl (zO HT_.out (by kernel_rfl)) (fun _ _ _ h=>h) (Or.inl ⟨by rfl,?_⟩) ?_ ?_
        rotate_left
        ·intro w'
         go_simp
         with_reducible rfl
        rotate_left
        ·simp only [Act.put,List.setIfInBounds_toArray,List.set_cons_zero,List.set_cons_succ,qY,zA]
         rfl
        refine zY (i:=3) (N:=some 43) (v:=?_) (a':=?_) #[true,true,true,true,false,false,false,false,false,false,false,false,false,false,false,false] rfl rfl (zO HT_.out (by kernel_rfl)) (fun _ _ _ h=>h) (Or.inl ⟨by rfl,?_⟩) ?_ ?_
        rotate_left
        ·intro w'
         go_simp
         with_reducible rfl
        rotate_left
        ·simp only [Act.put,List.setIfInBounds_toArray,List.set_cons_zero,List.set_cons_succ,qY,zA]
         rfl
        refine zY (i:=4) (N:=some 44) (v:=?_) (a':=?_) #[true,true,true,true,true,false,false,false,false,false,false,false,false,false,false,false] rfl rfl (zO HT_.out (by kernel_rfl)) (fun _ _ _ h=>h) (Or.inl ⟨by rfl,?_⟩) ?_ ?_
        rotate_left
        ·intro w'
         go_simp
         with_reducible rfl
        rotate_left
        ·simp only [Act.put,List.setIfInBounds_toArray,List.set_cons_zero,List.set_cons_succ,qY,zA]
         rfl
        refine zY (i:=7) (N:=some 47) (v:=?_) (a':=?_) #[true,true,true,true,true,false,false,true,false,false,false,false,false,false,false,false] rfl rfl (zO HT_.out (by kernel_rfl)) (fun _ _ _ h=>h) (Or.inl ⟨by rfl,?_⟩) ?_ ?_
        rotate_left
        ·intro w'
         go_simp
         with_reducible rfl
        rotate_left
        ·simp only [Act.put,List.setIfInBounds_toArray,List.set_cons_zero,List.set_cons_succ,qY,zA]
         rfl
        refine zY (i:=9) (N:=some 49) (v:=?_) (a':=?_) #[true,true,true,true,true,false,false,true,false,true,false,false,false,false,false,false] rfl rfl (zO HT_.out (by kernel_rfl)) (fun _ _ _ h=>h) (Or.inl ⟨by rfl,?_⟩) ?_ ?_
        rotate_left
        ·intro w'
         go_simp
         with_reducible rfl
        rotate_left
        ·simp only [Act.put,List.setIfInBounds_toArray,List.set_cons_zero,List.set_cons_succ,qY,zA]
         rfl
        refine zY (i:=11) (N:=some 51) (v:=?_) (a':=?_) #[true,true,true,true,true,false,false,true,false,true,false,true,false,false,false,false] rfl rfl (zO HT_.out (by kernel_rfl)) (fun _ _ _ h=>h) (Or.inl ⟨by rfl,?_⟩) ?_ ?_
        rotate_left
        ·intro w'
         go_simp
         with_reducible rfl
        rotate_left
        ·simp only [Act.put,List.setIfInBounds_toArray,List.set_cons_zero,List.set_cons_succ,qY,zA]
         rfl
        refine vZ (i:=5) (N:=some 45) (v:=?_) (a':=?_) #[true,true,true,true,true,true,false,true,false,true,false,true,false,false,false,false] rfl rfl (vJ HT_.out HW_.out (by kernel_rfl)) (fun _ _ _ h=>h) (Or.inl ⟨by rfl,?_⟩) hHeld ?_ ?_
        rotate_left
        ·rintro w' ⟨s0,s1,s2,s3⟩
         go_simp
         with_reducible rfl
        rotate_left
        ·simp only [Act.put,List.setIfInBounds_toArray,List.set_cons_zero,List.set_cons_succ,qY,zA]
         rfl
        refine vZ (i:=12) (N:=some 52) (v:=?_) (a':=?_) #[true,true,true,true,true,true,false,true,false,true,false,true,true,false,false,false] rfl rfl (vJ HT_.out HW_.out (by kernel_rfl)) (fun _ _ _ h=>h) (Or.inl ⟨by rfl,?_⟩) hHeld ?_ ?_
        rotate_left
        ·rintro w' ⟨s0,s1,s2,s3⟩
         go_simp
         with_reducible rfl
        rotate_left
        ·simp only [Act.put,List.setIfInBounds_toArray,List.set_cons_zero,List.set_cons_succ,qY,zA]
         rfl
        refine one_ (i:=6) (N:=some 46) #[true,true,true,true,true,true,true,true,false,true,false,true,true,false,false,false] rfl rfl (uE HT_.out (by kernel_rfl)) (by decide) (fun K hK=>?_)
        refine kD Try.func53 (by kernel_rfl) rfl #[.agg #[.slice A0_0 l0_0.length c0_0]] (by rfl) rfl rfl byah ?_
        with_reducible refine (jC.calls _ _ l0_0 t252 _ ?side1 ?side2 A36.out).mono ?_
        (case side1=>exact byaq HR0_0.out)
        (case side2=>exact HC0_0.out)
        rintro e w39 ⟨rfl,hb⟩
        refine ⟨_,rfl,?_⟩
        have n0_:=qA.mk (qH (g:=gb248) (o:=.cells #[.slice A0_0 l0_0.length c0_0] 25 (0,0)) (byaf BK248.out) hb)
        have n1_:=qA.mk (qH (g:=gb249) (o:=.cells #[.int .i64 a1_0,.int .i64 a1_1,.slice A1_2 l1_2.length c1_2] 28 (0,0)) (byaf BK249.out) hb)
        have n2_:=qA.mk (qE (byaj GE248.out GE249.out) hb)
        clear BK248
        clear BK249
        clear HB
        have BK248:=n0_
        have BK249:=n1_
        have HB:=n2_
        clear n0_ n1_ n2_
        (try clear hb)
        (try clear hb2)
        (try clear hk)
        (try clear hi)
        refine hK.out _ _ ⟨(qC BK249.out 0).trans rfl,(qC BK249.out 1).trans rfl,(qC BK249.out 2).trans rfl,(qC BK248.out 0).trans rfl⟩ (fun hHeld=>?_)
        clear hK K
        refine uM (a':=?_) ?_ ?_
        rotate_left
        ·show Act.put _ (some 46) _ = _
         simp only [Act.put,List.setIfInBounds_toArray,List.set_cons_zero,List.set_cons_succ,qY,zA]
         rfl
        refine zY (i:=8) (N:=some 48) (v:=?_) (a':=?_) #[true,true,true,true,true,true,true,true,true,true,false,true,true,false,false,false] rfl rfl (zO HT_.out (by kernel_rfl)) (fun _ _ _ h=>h) (Or.inl ⟨by rfl,?_⟩) ?_ ?_
        rotate_left
        ·intro w'
         go_simp
         with_reducible rfl
        rotate_left
        ·simp only [Act.put,List.setIfInBounds_toArray,List.set_cons_zero,List.set_cons_succ,qY,zA]
         rfl
        refine zY (i:=10) (N:=some 50) (v:=?_) (a':=?_) #[true,true,true,true,true,true,true,true,true,true,true,true,true,false,false,false] rfl rfl (zO HT_.out (by kernel_rfl)) (fun _ _ _ h=>h) (Or.inl ⟨by rfl,?_⟩) ?_ ?_
        rotate_left
        ·intro w'
         go_simp
         with_reducible rfl
        rotate_left
        ·simp only [Act.put,List.setIfInBounds_toArray,List.set_cons_zero,List.set_cons_succ,qY,zA]
         rfl
        refine one_ (i:=13) (N:=some 53) #[true,true,true,true,true,true,true,true,true,true,true,true,true,true,false,false] rfl rfl (uE HT_.out (by kernel_rfl)) (by decide) (fun K hK=>?_)
        refine kD Try.func62 (by kernel_rfl) rfl #[.int .i64 (Go.bits .andNot .i64 (Go.bits .andNot .i64 t252 a2) a3),.int .i64 a1_1] (by rfl) rfl rfl byah ?_
        with_reducible refine (vQ.calls (Go.bits .andNot .i64 (Go.bits .andNot .i64 t252 a2) a3) a1_1 t253 _ A37.out).mono ?_
        rintro e w' ⟨rfl,⟨nd,rfl⟩⟩
        refine ⟨_,rfl,?_⟩
        refine hK.out _ _ ⟨(qC BK249.out 0).trans rfl,(qC BK249.out 1).trans rfl,(qC BK249.out 2).trans rfl,(qC BK248.out 0).trans rfl⟩ (fun hHeld=>?_)
        clear hK K
        refine uM (a':=?_) ?_ ?_
        rotate_left
        ·show Act.put _ (some 53) _ = _
         simp only [Act.put,List.setIfInBounds_toArray,List.set_cons_zero,List.set_cons_succ,qY,zA]
         rfl
        refine zY (i:=14) (N:=some 54) (v:=?_) (a':=?_) #[true,true,true,true,true,true,true,true,true,true,true,true,true,true,true,false] rfl rfl (zO HT_.out (by kernel_rfl)) (fun _ _ _ h=>h) (Or.inl ⟨by rfl,?_⟩) ?_ ?_
        rotate_left
        ·intro w'
         go_simp
         with_reducible rfl
        rotate_left
        ·simp only [Act.put,List.setIfInBounds_toArray,List.set_cons_zero,List.set_cons_succ,qY,zA]
         rfl
        refine zY (i:=15) (N:=some 55) (v:=?_) (a':=?_) #[true,true,true,true,true,true,true,true,true,true,true,true,true,true,true,true] rfl rfl (zO HT_.out (by kernel_rfl)) (fun _ _ _ h=>h) (Or.inl ⟨by rfl,?_⟩) ?_ ?_
        rotate_left
        ·intro w'
         go_simp
         with_reducible rfl
        rotate_left
        ·simp only [Act.put,List.setIfInBounds_toArray,List.set_cons_zero,List.set_cons_succ,qY,zA]
         rfl
        refine done_ (kS HT_.out (by kernel_rfl)) ?_
        try go_wp2
        go_meet
        case rel=>exact ⟨_,(!t253),byae,H',⟨by have:=HJ4.out;first|omega|exact Nat.le_refl _⟩,⟨byaf BK248.out⟩,⟨byaf BK249.out⟩,⟨byaj GE248.out GE249.out⟩⟩
       ·rw [if_neg c35] at H
        have c35b0 : ((l1_2.length : Int) == 2) = false:=beq_eq_false_iff_ne.mpr c35
        have c35b1 : ((l1_2.length : Int) != 2) = true:=bne_iff_ne.mpr c35
        (first|rw [c35b0]|(simp only [qY,zA];rw [c35b0])|skip)
        have H':=qA.mk H
        clear H
        try go_wp2
        have n0_:=qA.mk (qJ BK248.out)
        have n1_:=qA.mk (qJ BK249.out)
        have n2_:=qA.mk (jY HB.out)
        clear BK248
        clear BK249
        clear HB
        have BK248:=n0_
        have BK249:=n1_
        have HB:=n2_
        clear n0_ n1_ n2_
        refine kJ (n:=16) (S:=fun w'=>w'.cell? ⟨gb249,0,none⟩ = some (.int .i64 a1_0)∧w'.cell? ⟨gb249,1,none⟩ = some (.int .i64 a1_1)∧w'.cell? ⟨gb249,2,none⟩ = some (.slice A1_2 l1_2.length c1_2)) (ds:=[]) #[false,false,false,false,false,false,false,false,false,false,false,false,false,false,false,false] (by kernel_rfl) rfl rfl ⟨(qC BK249.out 0).trans rfl,(qC BK249.out 1).trans rfl,(qC BK249.out 2).trans rfl⟩ (fun hHeld=>?_);refine uY qL.tab8 qL.bits8 (fun HT_ HW_=>?_)
        generalize wc.drew = w40 at BK248 BK249 HB hHeld ⊢
        refine zY (i:=0) (N:=some 40) (v:=?_) (a':=?_) #[true,false,false,false,false,false,false,false,false,false,false,false,false,false,false,false] rfl rfl (zO HT_.out (by kernel_rfl)) (fun _ _ _ h=>h) (Or.inl ⟨by rfl,?_⟩) ?_ ?_
        rotate_left
        ·intro w'
         go_simp
         with_reducible rfl
        rotate_left
        ·simp only [Act.put,List.setIfInBounds_toArray,List.set_cons_zero,List.set_cons_succ,qY,zA]
         rfl
        refine vZ (i:=1) (N:=some 41) (v:=?_) (a':=?_) #[true,true,false,false,false,false,false,false,false,false,false,false,false,false,false,false] rfl rfl (vJ HT_.out HW_.out (by kernel_rfl)) (fun _ _ _ h=>h) (Or.inl ⟨by rfl,?_⟩) hHeld ?_ ?_
        rotate_left
        ·rintro w' ⟨s0,s1,s2⟩
         go_simp
         with_reducible rfl
        rotate_left
        ·simp only [Act.put,List.setIfInBounds_toArray,List.set_cons_zero,List.set_cons_succ,qY,zA]
         rfl
        refine zY (i:=2) (N:=some 42) (v:=?_) (a':=?_) #[true,true,true,false,false,false,false,false,false,false,false,false,false,false,false,false] rfl rfl (zO HT_.out (by kernel_rfl)) (fun _ _ _ h=>h) (Or.inl ⟨by rfl,?_⟩) ?_ ?_
        rotate_left
        ·intro w'
         go_simp
         with_reducible rfl
        rotate_left
        ·simp only [Act.put,List.setIfInBounds_toArray,List.set_cons_zero,List.set_cons_succ,qY,zA]
         rfl
        refine zY (i:=3) (N:=some 43) (v:=?_) (a':=?_) #[true,true,true,true,false,false,false,false,false,false,false,false,false,false,false,false] rfl rfl (zO HT_.out (by kernel_rfl)) (fun _ _ _ h=>h) (Or.inl ⟨by rfl,?_⟩) ?_ ?_
        rotate_left
        ·intro w'
         go_simp
         with_reducible rfl
        rotate_left
        ·simp only [Act.put,List.setIfInBounds_toArray,List.set_cons_zero,List.set_cons_succ,qY,zA]
         rfl
        refine zY (i:=4) (N:=some 44) (v:=?_) (a':=?_) #[true,true,true,true,true,false,false,false,false,false,false,false,false,false,false,false] rfl rfl (zO HT_.out (by kernel_rfl)) (fun _ _ _ h=>h) (Or.inl ⟨by rfl,?_⟩) ?_ ?_
        rotate_left
        ·intro w'
         go_simp
         with_reducible rfl
        rotate_left
        ·simp only [Act.put,List.setIfInBounds_toArray,List.set_cons_zero,List.set_cons_succ,qY,zA]
         rfl
        refine zY (i:=5) (N:=some 45) (v:=undef) (a':=?_) #[true,true,true,true,true,true,false,false,false,false,false,false,false,false,false,false] rfl rfl (zO HT_.out (by kernel_rfl)) (fun _ _ _ h=>h) (Or.inr ⟨by rfl,rfl⟩) ?_ ?_
        rotate_left
        ·simp only [Act.put,List.setIfInBounds_toArray,List.set_cons_zero,List.set_cons_succ,qY,zA]
         rfl
        refine zY (i:=6) (N:=some 46) (v:=undef) (a':=?_) #[true,true,true,true,true,true,true,false,false,false,false,false,false,false,false,false] rfl rfl (zO HT_.out (by kernel_rfl)) (fun _ _ _ h=>h) (Or.inr ⟨by rfl,rfl⟩) ?_ ?_
        rotate_left
        ·simp only [Act.put,List.setIfInBounds_toArray,List.set_cons_zero,List.set_cons_succ,qY,zA]
         rfl
        refine zY (i:=7) (N:=some 47) (v:=undef) (a':=?_) #[true,true,true,true,true,true,true,true,false,false,false,false,false,false,false,false] rfl rfl (zO HT_.out (by kernel_rfl)) (fun _ _ _ h=>h) (Or.inr ⟨by rfl,rfl⟩) ?_ ?_
        rotate_left
        ·simp only [Act.put,List.setIfInBounds_toArray,List.set_cons_zero,List.set_cons_succ,qY,zA]
         rfl
        refine zY (i:=8) (N:=some 48) (v:=undef) (a':=?_) #[true,true,true,true,true,true,true,true,true,false,false,false,false,false,false,false] rfl rfl (zO HT_.out (by kernel_rfl)) (fun _ _ _ h=>h) (Or.inr ⟨by rfl,rfl⟩) ?_ ?_
        rotate_left
        ·simp only [Act.put,List.setIfInBounds_toArray,List.set_cons_zero,List.set_cons_succ,qY,zA]
         rfl
        refine zY (i:=9) (N:=some 49) (v:=undef) (a':=?_) #[true,true,true,true,true,true,true,true,true,true,false,false,false,false,false,false] rfl rfl (zO HT_.out (by kernel_rfl)) (fun _ _ _ h=>h) (Or.inr ⟨by rfl,rfl⟩) ?_ ?_
        rotate_left
        ·simp only [Act.put,List.setIfInBounds_toArray,List.set_cons_zero,List.set_cons_succ,qY,zA]
         rfl
        refine zY (i:=10) (N:=some 50) (v:=undef) (a':=?_) #[true,true,true,true,true,true,true,true,true,true,true,false,false,false,false,false] rfl rfl (zO HT_.out (by kernel_rfl)) (fun _ _ _ h=>h) (Or.inr ⟨by rfl,rfl⟩) ?_ ?_
        rotate_left
        ·simp only [Act.put,List.setIfInBounds_toArray,List.set_cons_zero,List.set_cons_succ,qY,zA]
         rfl
        refine zY (i:=11) (N:=some 51) (v:=undef) (a':=?_) #[true,true,true,true,true,true,true,true,true,true,true,true,false,false,false,false] rfl rfl (zO HT_.out (by kernel_rfl)) (fun _ _ _ h=>h) (Or.inr ⟨by rfl,rfl⟩) ?_ ?_
        rotate_left
        ·simp only [Act.put,List.setIfInBounds_toArray,List.set_cons_zero,List.set_cons_succ,qY,zA]
         rfl
        refine zY (i:=12) (N:=some 52) (v:=undef) (a':=?_) #[true,true,true,true,true,true,true,true,true,true,true,true,true,false,false,false] rfl rfl (zO HT_.out (by kernel_rfl)) (fun _ _ _ h=>h) (Or.inr ⟨by rfl,rfl⟩) ?_ ?_
        rotate_left
        ·simp only [Act.put,List.setIfInBounds_toArray,List.set_cons_zero,List.set_cons_succ,qY,zA]
         rfl
        refine zY (i:=13) (N:=some 53) (v:=undef) (a':=?_) #[true,true,true,true,true,true,true,true,true,true,true,true,true,true,false,false] rfl rfl (zO HT_.out (by kernel_rfl)) (fun _ _ _ h=>h) (Or.inr ⟨by rfl,rfl⟩) ?_ ?_
        rotate_left
        ·simp only [Act.put,List.setIfInBounds_toArray,List.set_cons_zero,List.set_cons_succ,qY,zA]
         rfl
        refine zY (i:=14) (N:=some 54) (v:=undef) (a':=?_) #[true,true,true,true,true,true,true,true,true,true,true,true,true,true,true,false] rfl rfl (zO HT_.out (by kernel_rfl)) (fun _ _ _ h=>h) (Or.inr ⟨by rfl,rfl⟩) ?_ ?_
        rotate_left
        ·simp only [Act.put,List.setIfInBounds_toArray,List.set_cons_zero,List.set_cons_succ,qY,zA]
         rfl
        refine zY (i:=15) (N:=some 55) (v:=?_) (a':=?_) #[true,true,true,true,true,true,true,true,true,true,true,true,true,true,true,true] rfl rfl (zO HT_.out (by kernel_rfl)) (fun _ _ _ h=>h) (Or.inl ⟨by rfl,?_⟩) ?_ ?_
        rotate_left
        ·intro w'
         go_simp
         with_reducible rfl
        rotate_left
        ·simp only [Act.put,List.setIfInBounds_toArray,List.set_cons_zero,List.set_cons_succ,qY,zA]
         rfl
        refine done_ (kS HT_.out (by kernel_rfl)) ?_
        try go_wp2
        go_meet
        case rel=>exact ⟨_,(true),byae,H',⟨by have:=HJ4.out;first|omega|exact Nat.le_refl _⟩,⟨byaf BK248.out⟩,⟨byaf BK249.out⟩,⟨byaj GE248.out GE249.out⟩⟩
      case rest =>
       clear HC32
       try clear c1
       try clear c2
       try clear p2
       try clear c3
       try clear c4
       try clear c5
       try clear c6
       try clear c8
       try clear c8b0
       try clear c8b1
       try clear c9
       try clear c11
       try clear c13
       try clear c13b0
       try clear c13b1
       try clear c14
       try clear c16
       try clear c20
       try clear c22
       try clear c22b0
       try clear c22b1
       try clear c23
       try clear c25
       try clear c29
       try clear c31
       try clear c31b0
       try clear c31b1
       try clear c33
       try clear c35
       try clear c35b0
       try clear c35b1
       try clear hcz10_0
       try clear hcz10_1
       try clear hcz10_2
       try clear hcz12_0
       try clear hcz12_1
       try clear hcz12_2
       try clear hcz17_0
       try clear hcz17_1
       try clear hcz17_2
       try clear hcz18_0
       try clear hcz21_0
       try clear hcz21_1
       try clear hcz21_2
       try clear hcz26_0
       try clear hcz26_1
       try clear hcz26_2
       try clear hcz27_0
       try clear hcz30_0
       try clear hcz30_1
       try clear hcz30_2
       try clear hcz34_0
       try clear hcz34_1
       try clear hcz34_2
       try clear hfz10_0
       try clear hfz10_1
       try clear hfz10_2
       try clear hfz12_0
       try clear hfz12_1
       try clear hfz12_2
       try clear hfz17_0
       try clear hfz17_1
       try clear hfz17_2
       try clear hfz18_0
       try clear hfz21_0
       try clear hfz21_1
       try clear hfz21_2
       try clear hfz26_0
       try clear hfz26_1
       try clear hfz26_2
       try clear hfz27_0
       try clear hfz30_0
       try clear hfz30_1
       try clear hfz30_2
       try clear hfz34_0
       try clear hfz34_1
       try clear hfz34_2
       try clear p2
       obtain ⟨kq,x55_31,rfl,HA,HJ31,BK248,BK249,HB⟩:=hcut
       cases kq with
       | zero=>exact absurd HA.out (by simp [qL.j1])
       | succ kj31 =>
        have H:=HA.out
        clear HA
        simp only [qL.j1] at H
        by_cases c41 : x55_31 = true
        ·subst c41
         have H1 : (some false) = some r:=by rw [if_pos rfl] at H;exact H
         clear H
         have H:=H1
         clear H1
         obtain rfl:=Option.some.inj H
         go_wp2
         go_ret
         exact ⟨byac,byaj GE248.out GE249.out⟩
        ·replace c41:=Bool.eq_false_iff.mpr c41
         subst c41
         have H1 : (if 0 < (l1_2.length : Int) then (if 0 ≤ a1_1 then ((qL.f kj31 l0_0 ((jS l1_2 0).f0) ((jS l1_2 0).f1) ((jS l1_2 0).f2) a2 (Go.bits .or .i64 a3 (shl .i64 1 a1_1))).bind fun t255=>(if t255 = true then (if 1 < (l1_2.length : Int) then ((qL.f kj31 l0_0 ((jS l1_2 1).f0) ((jS l1_2 1).f1) ((jS l1_2 1).f2) (Go.bits .or .i64 a2 (shl .i64 1 a1_1)) a3).bind fun t257=>(some t257)) else (none)) else (some false))) else (none)) else (none)) = some r:=by rw [if_neg (show ¬ (false = true) by decide)] at H;exact H
         clear H
         have H:=H1
         clear H1
         by_cases c42 : 0 < (l1_2.length : Int)
         ·rw [if_pos c42] at H
          have c42b0 : decide (0 < (l1_2.length : Int)) = true:=decide_eq_true c42
          have c42b1 : decide (0 < l1_2.length) = true:=decide_eq_true (by omega)
          clear c42
          by_cases c43 : 0 ≤ a1_1
          ·rw [if_pos c43] at H
           have c43b0:=eq_true c43
           have c43b1 : decide (0 ≤ a1_1) = true:=decide_eq_true c43
           clear c43
           obtain ⟨ji44,hji44⟩ : ∃ j_ : Int,(shl .i64 1 a1_1) = j_:=⟨_,rfl⟩
           replace H : ((qL.f kj31 l0_0 ((jS l1_2 0).f0) ((jS l1_2 0).f1) ((jS l1_2 0).f2) a2 (Go.bits .or .i64 a3 (ji44))).bind fun t255=>(if t255 = true then (if 1 < (l1_2.length : Int) then ((qL.f kj31 l0_0 ((jS l1_2 1).f0) ((jS l1_2 1).f1) ((jS l1_2 1).f2) (Go.bits .or .i64 a2 (ji44)) a3).bind fun t257=>(some t257)) else (none)) else (some false))) = some r:=by first|(rw [hji44] at H;exact H)|(simp only [hji44] at H ⊢;exact H)
           have hji44_ : (IntKind.i64.wrap (1 * 2 ^ min a1_1.toNat 64)) = ji44:=hji44
           have hji44z : a1_1 ≤ 64→(IntKind.i64.wrap (1 * 2 ^ a1_1.toNat)) = ji44:=uN hji44
           have hji44u : (IntKind.i64.wrap (2 ^ min a1_1.toNat 64)) = ji44:=by have h_:=hji44_;rw [Int.one_mul] at h_;exact h_
           have hji44v : a1_1 ≤ 64→(IntKind.i64.wrap (2 ^ a1_1.toNat)) = ji44:=fun hle_=>by have h_:=hji44z hle_;rw [Int.one_mul] at h_;exact h_
           have hji44y : (wrap64 (1 * 2 ^ min a1_1.toNat 64)) = ji44:=(qY _).symm.trans hji44_
           have hji44x : a1_1 ≤ 64→(wrap64 (1 * 2 ^ a1_1.toNat)) = ji44:=fun h_=>(qY _).symm.trans (hji44z h_)
           replace H:=Option.bind_eq_some_iff.mp H
           obtain ⟨t255,A450,H⟩:=H
           replace H : (if t255 = true then (if 1 < (l1_2.length : Int) then ((qL.f kj31 l0_0 ((jS l1_2 1).f0) ((jS l1_2 1).f1) ((jS l1_2 1).f2) (Go.bits .or .i64 a2 (ji44)) a3).bind fun t257=>(some t257)) else (none)) else (some false)) = some r:=H
           have A45:=qA.mk A450
           clear A450
           by_cases c46 : t255 = true
           ·subst c46
            have H1 : (if 1 < (l1_2.length : Int) then ((qL.f kj31 l0_0 ((jS l1_2 1).f0) ((jS l1_2 1).f1) ((jS l1_2 1).f2) (Go.bits .or .i64 a2 (ji44)) a3).bind fun t257=>(some t257)) else (none)) = some r:=by rw [if_pos rfl] at H;exact H
            clear H
            have H:=H1
            clear H1
            by_cases c47 : 1 < (l1_2.length : Int)
            ·rw [if_pos c47] at H
             have c47b0 : decide (1 < (l1_2.length : Int)) = true:=decide_eq_true c47
             have c47b1 : decide (1 < l1_2.length) = true:=decide_eq_true (by omega)
             clear c47
             have c48b0:=eq_true (of_decide_eq_true byag : 0 ≤ a1_1)
             replace H:=Option.bind_eq_some_iff.mp H
             obtain ⟨t257,A500,H⟩:=H
             replace H : (some t257) = some r:=H
             have A50:=qA.mk A500
             clear A500
             obtain rfl:=Option.some.inj H
             try go_wp2
             have n0_:=qA.mk (qJ BK248.out)
             have n1_:=qA.mk (qJ BK249.out)
             have n2_:=qA.mk (jY HB.out)
             clear BK248
             clear BK249
             clear HB
             have BK248:=n0_
             have BK249:=n1_
             have HB:=n2_
             clear n0_ n1_ n2_
             have p254 : 0 ≤ (0 : Int):=(by omega)
             have q254 : 0 < (l1_2.length : Int):=of_decide_eq_true byag
             obtain ⟨ad254,A254_2,c254_2,e254,hx254_0,hx254_1,hx254_2,hl254_2,hi254_2⟩:=at_T28 HR1_2.out 0 p254 q254
             have hw254_2:=hx254_2
             (try rw [show ((0 : Int)).toNat = 0 from rfl] at hw254_2)
             (try rw [show 0 * 3 = 0 from rfl] at hw254_2)
             (try rw [Addr.add_zero'] at hw254_2)
             have hw254_1:=hx254_1
             (try rw [show ((0 : Int)).toNat = 0 from rfl] at hw254_1)
             (try rw [show 0 * 3 = 0 from rfl] at hw254_1)
             (try rw [Addr.add_zero'] at hw254_1)
             have hw254_0:=hx254_0
             (try rw [show ((0 : Int)).toNat = 0 from rfl] at hw254_0)
             (try rw [show 0 * 3 = 0 from rfl] at hw254_0)
             (try rw [Addr.add_zero'] at hw254_0)
             cases e254
             have qi254 : (0 < l1_2.length) = True:=eq_true (by omega)
             (try rw [show ((0 : Int)).toNat = 0 from rfl] at hx254_0)
             (try rw [show 0 * 3 = 0 from rfl] at hx254_0)
             (try rw [Addr.add_zero'] at hx254_0)
             (try rw [show ((0 : Int)).toNat = 0 from rfl] at hx254_1)
             (try rw [show 0 * 3 = 0 from rfl] at hx254_1)
             (try rw [Addr.add_zero'] at hx254_1)
             (try rw [show ((0 : Int)).toNat = 0 from rfl] at hx254_2)
             (try rw [show 0 * 3 = 0 from rfl] at hx254_2)
             (try rw [Addr.add_zero'] at hx254_2)
             replace hx254_0:=(HB.out.cell (World.block_lt_of_cell? w _ hx254_0)).trans hx254_0
             replace hx254_1:=(HB.out.cell (World.block_lt_of_cell? w _ hx254_1)).trans hx254_1
             replace hx254_2:=(HB.out.cell (World.block_lt_of_cell? w _ hx254_2)).trans hx254_2
             have HR254_2:=qA.mk hi254_2
             have HC254_2:=qA.mk hl254_2
             clear hi254_2 hl254_2
             replace p254:=eq_true p254
             replace q254:=eq_true q254
             have p256 : 0 ≤ (1 : Int):=(by omega)
             have q256 : 1 < (l1_2.length : Int):=of_decide_eq_true byag
             obtain ⟨ad256,A256_2,c256_2,e256,hx256_0,hx256_1,hx256_2,hl256_2,hi256_2⟩:=at_T28 HR1_2.out 1 p256 q256
             have hw256_2:=hx256_2
             (try rw [show ((1 : Int)).toNat = 1 from rfl] at hw256_2)
             (try rw [show 1 * 3 = 3 from rfl] at hw256_2)
             (try simp only [Nat.reduceMul,Nat.reduceEqDiff,Go.Addr.add,↓reduceIte] at hw256_2)
             have hw256_1:=hx256_1
             (try rw [show ((1 : Int)).toNat = 1 from rfl] at hw256_1)
             (try rw [show 1 * 3 = 3 from rfl] at hw256_1)
             (try simp only [Nat.reduceMul,Nat.reduceEqDiff,Go.Addr.add,↓reduceIte] at hw256_1)
             have hw256_0:=hx256_0
             (try rw [show ((1 : Int)).toNat = 1 from rfl] at hw256_0)
             (try rw [show 1 * 3 = 3 from rfl] at hw256_0)
             (try simp only [Nat.reduceMul,Nat.reduceEqDiff,Go.Addr.add,↓reduceIte] at hw256_0)
             obtain rfl : ad254 = ad256:=(by injection e256)
             (try simp only [show (1 : Int).toNat = 1 from rfl,Nat.reduceMul,Nat.reduceEqDiff,Go.Addr.add,↓reduceIte] at hx256_0)
             (try simp only [show (1 : Int).toNat = 1 from rfl,Nat.reduceMul,Nat.reduceEqDiff,Go.Addr.add,↓reduceIte] at hx256_1)
             (try simp only [show (1 : Int).toNat = 1 from rfl,Nat.reduceMul,Nat.reduceEqDiff,Go.Addr.add,↓reduceIte] at hx256_2)
             have qi256 : (1 < l1_2.length) = True:=eq_true (by omega)
             (try rw [show ((1 : Int)).toNat = 1 from rfl] at hx256_0)
             (try rw [show 1 * 3 = 3 from rfl] at hx256_0)
             (try rw [show ((1 : Int)).toNat = 1 from rfl] at hx256_1)
             (try rw [show 1 * 3 = 3 from rfl] at hx256_1)
             (try rw [show ((1 : Int)).toNat = 1 from rfl] at hx256_2)
             (try rw [show 1 * 3 = 3 from rfl] at hx256_2)
             replace hx256_0:=(HB.out.cell (World.block_lt_of_cell? w _ hx256_0)).trans hx256_0
             replace hx256_1:=(HB.out.cell (World.block_lt_of_cell? w _ hx256_1)).trans hx256_1
             replace hx256_2:=(HB.out.cell (World.block_lt_of_cell? w _ hx256_2)).trans hx256_2
             have HR256_2:=qA.mk hi256_2
             have HC256_2:=qA.mk hl256_2
             clear hi256_2 hl256_2
             replace p256:=eq_true p256
             replace q256:=eq_true q256
             refine kJ (n:=27) (S:=fun w'=>w'.cell? ⟨gb248,0,none⟩ = some (.slice A0_0 l0_0.length c0_0)∧w'.cell? ⟨gb249,0,none⟩ = some (.int .i64 a1_0)∧w'.cell? ⟨gb249,1,none⟩ = some (.int .i64 a1_1)∧w'.cell? ⟨gb249,2,none⟩ = some (.slice (some ad254) l1_2.length c1_2)∧w'.cell? ad254 = some (.int .i64 ((jS l1_2 0).f0))∧w'.cell? ⟨ad254.block,ad254.off + 1,none⟩ = some (.int .i64 ((jS l1_2 0).f1))∧w'.cell? ⟨ad254.block,ad254.off + 2,none⟩ = some (.slice A254_2 ((jS l1_2 0).f2).length c254_2)∧w'.cell? ⟨ad254.block,ad254.off + 3,none⟩ = some (.int .i64 ((jS l1_2 1).f0))∧w'.cell? ⟨ad254.block,ad254.off + 3 + 1,none⟩ = some (.int .i64 ((jS l1_2 1).f1))∧w'.cell? ⟨ad254.block,ad254.off + 3 + 2,none⟩ = some (.slice A256_2 ((jS l1_2 1).f2).length c256_2)) (ds:=[]) #[false,false,false,false,false,false,false,false,false,false,false,false,false,false,false,false,false,false,false,false,false,false,false,false,false,false,false] (by kernel_rfl) rfl rfl ⟨(qC BK248.out 0).trans rfl,(qC BK249.out 0).trans rfl,(qC BK249.out 1).trans rfl,(qC BK249.out 2).trans rfl,((HB.out.cell (World.block_lt_of_cell? w _ hw254_0)).trans hw254_0),((HB.out.cell (World.block_lt_of_cell? w _ hw254_1)).trans hw254_1),((HB.out.cell (World.block_lt_of_cell? w _ hw254_2)).trans hw254_2),((HB.out.cell (World.block_lt_of_cell? w _ hw256_0)).trans hw256_0),((HB.out.cell (World.block_lt_of_cell? w _ hw256_1)).trans hw256_1),((HB.out.cell (World.block_lt_of_cell? w _ hw256_2)).trans hw256_2)⟩ (fun hHeld=>?_);refine uY qL.tab10 qL.bits10 (fun HT_ HW_=>?_)
             generalize wc.drew = w51 at BK248 BK249 HB HR254_2 HR256_2 hx254_0 hx254_1 hx254_2 hx256_0 hx256_1 hx256_2 hHeld ⊢
             refine zY (i:=1) (N:=some 57) (v:=?_) (a':=?_) #[false,true,false,false,false,false,false,false,false,false,false,false,false,false,false,false,false,false,false,false,false,false,false,false,false,false,false] rfl rfl (zO HT_.out (by kernel_rfl)) (fun _ _ _ h=>h) (Or.inl ⟨by rfl,?_⟩) ?_ ?_
             rotate_left
             ·intro w'
              go_simp
              with_reducible rfl
             rotate_left
             ·simp only [Act.put,List.setIfInBounds_toArray,List.set_cons_zero,List.set_cons_succ,qY,zA]
              rfl
             refine zY (i:=5) (N:=some 61) (v:=?_) (a':=?_) #[false,true,false,false,false,true,false,false,false,false,false,false,false,false,false,false,false,false,false,false,false,false,false,false,false,false,false] rfl rfl (zO HT_.out (by kernel_rfl)) (fun _ _ _ h=>h) (Or.inl ⟨by rfl,?_⟩) ?_ ?_
             rotate_left
             ·intro w'
              go_simp
              with_reducible rfl
             rotate_left
             ·simp only [Act.put,List.setIfInBounds_toArray,List.set_cons_zero,List.set_cons_succ,qY,zA]
              rfl
             refine zY (i:=6) (N:=some 62) (v:=?_) (a':=?_) #[false,true,false,false,false,true,true,false,false,false,false,false,false,false,false,false,false,false,false,false,false,false,false,false,false,false,false] rfl rfl (zO HT_.out (by kernel_rfl)) (fun _ _ _ h=>h) (Or.inl ⟨by rfl,?_⟩) ?_ ?_
             rotate_left
             ·intro w'
              go_simp
              with_reducible rfl
             rotate_left
             ·simp only [Act.put,List.setIfInBounds_toArray,List.set_cons_zero,List.set_cons_succ,qY,zA]
              rfl
             refine zY (i:=7) (N:=some 63) (v:=?_) (a':=?_) #[false,true,false,false,false,true,true,true,false,false,false,false,false,false,false,false,false,false,false,false,false,false,false,false,false,false,false] rfl rfl (zO HT_.out (by kernel_rfl)) (fun _ _ _ h=>h) (Or.inl ⟨by rfl,?_⟩) ?_ ?_
             rotate_left
             ·intro w'
              go_simp
              with_reducible rfl
             rotate_left
             ·simp only [Act.put,List.setIfInBounds_toArray,List.set_cons_zero,List.set_cons_succ,qY,zA]
              rfl
             refine vZ (i:=0) (N:=some 56) (v:=?_) (a':=?_) #[true,true,false,false,false,true,true,true,false,false,false,false,false,false,false,false,false,false,false,false,false,false,false,false,false,false,false] rfl rfl (vJ HT_.out HW_.out (by kernel_rfl)) (fun _ _ _ h=>h) (Or.inl ⟨by rfl,?_⟩) hHeld ?_ ?_
             rotate_left
             ·rintro w' ⟨s0,s1,s2,s3,s4,s5,s6,s7,s8,s9⟩
              go_simp
              with_reducible rfl
             rotate_left
             ·simp only [Act.put,List.setIfInBounds_toArray,List.set_cons_zero,List.set_cons_succ,qY,zA]
              rfl
             refine vZ (i:=2) (N:=some 58) (v:=?_) (a':=?_) #[true,true,true,false,false,true,true,true,false,false,false,false,false,false,false,false,false,false,false,false,false,false,false,false,false,false,false] rfl rfl (vJ HT_.out HW_.out (by kernel_rfl)) (fun _ _ _ h=>h) (Or.inl ⟨by rfl,?_⟩) hHeld ?_ ?_
             rotate_left
             ·rintro w' ⟨s0,s1,s2,s3,s4,s5,s6,s7,s8,s9⟩
              go_simp
              with_reducible rfl
             rotate_left
             ·simp only [Act.put,List.setIfInBounds_toArray,List.set_cons_zero,List.set_cons_succ,qY,zA]
              rfl
             refine zY (i:=3) (N:=some 59) (v:=?_) (a':=?_) #[true,true,true,true,false,true,true,true,false,false,false,false,false,false,false,false,false,false,false,false,false,false,false,false,false,false,false] rfl rfl (zO HT_.out (by kernel_rfl)) (fun _ _ _ h=>h) (Or.inl ⟨by rfl,?_⟩) ?_ ?_
             rotate_left
             ·intro w'
              go_simp
              with_reducible rfl
             rotate_left
             ·simp only [Act.put,List.setIfInBounds_toArray,List.set_cons_zero,List.set_cons_succ,qY,zA]
              rfl
             refine vZ (i:=4) (N:=some 60) (v:=?_) (a':=?_) #[true,true,true,true,true,true,true,true,false,false,false,false,false,false,false,false,false,false,false,false,false,false,false,false,false,false,false] rfl rfl (vJ HT_.out HW_.out (by kernel_rfl)) (fun _ _ _ h=>h) (Or.inl ⟨by rfl,?_⟩) hHeld ?_ ?_
             rotate_left
             ·rintro w' ⟨s0,s1,s2,s3,s4,s5,s6,s7,s8,s9⟩
              go_simp
              with_reducible rfl
             rotate_left
             ·simp only [Act.put,List.setIfInBounds_toArray,List.set_cons_zero,List.set_cons_succ,qY,zA]
              rfl
             refine vZ (i:=8) (N:=some 64) (v:=?_) (a':=?_) #[true,true,true,true,true,true,true,true,true,false,false,false,false,false,false,false,false,false,false,false,false,false,false,false,false,false,false] rfl rfl (vJ HT_.out HW_.out (by kernel_rfl)) (fun _ _ _ h=>h) (Or.inl ⟨by rfl,?_⟩) hHeld ?_ ?_
             rotate_left
             ·rintro w' ⟨s0,s1,s2,s3,s4,s5,s6,s7,s8,s9⟩
              go_simp
              with_reducible rfl
             rotate_left
             ·simp only [Act.put,List.setIfInBounds_toArray,List.set_cons_zero,List.set_cons_succ,qY,zA]
              rfl
             refine zY (i:=9) (N:=some 65) (v:=?_) (a':=?_) #[true,true,true,true,true,true,true,true,true,true,false,false,false,false,false,false,false,false,false,false,false,false,false,false,false,false,false] rfl rfl (zO HT_.out (by kernel_rfl)) (fun _ _ _ h=>h) (Or.inl ⟨by rfl,?_⟩) ?_ ?_
             rotate_left
             ·intro w'
              go_simp
              with_reducible rfl
             rotate_left
             ·simp only [Act.put,List.setIfInBounds_toArray,List.set_cons_zero,List.set_cons_succ,qY,zA]
              rfl
             refine zY (i:=10) (N:=some 66) (v:=?_) (a':=?_) #[true,true,true,true,true,true,true,true,true,true,true,false,false,false,false,false,false,false,false,false,false,false,false,false,false,false,false] rfl rfl (zO HT_.out (by kernel_rfl)) (fun _ _ _ h=>h) (Or.inl ⟨by rfl,?_⟩) ?_ ?_
             rotate_left
             ·intro w'
              go_simp
              with_reducible rfl
             rotate_left
             ·simp only [Act.put,List.setIfInBounds_toArray,List.set_cons_zero,List.set_cons_succ,qY,zA]
              rfl
             refine one_ (i:=11) (N:=some 67) #[true,true,true,true,true,true,true,true,true,true,true,true,false,false,false,false,false,false,false,false,false,false,false,false,false,false,false] rfl rfl (uE HT_.out (by kernel_rfl)) (by decide) (fun K hK=>?_)
             refine kD Try.func41 (by kernel_rfl) rfl #[.agg #[.slice A0_0 l0_0.length c0_0],.agg #[.int .i64 ((jS l1_2 0).f0),.int .i64 ((jS l1_2 0).f1),.slice A254_2 ((jS l1_2 0).f2).length c254_2],.int .i64 a2,.int .i64 (Go.bits .or .i64 a3 (ji44))] (by rfl) rfl rfl byaz ?_
             with_reducible refine (ih kj31 (by have:=HJ4.out;have:=HJ31.out;omega) _ _ l0_0 ((jS l1_2 0).f0) ((jS l1_2 0).f1) _ _ ((jS l1_2 0).f2) a2 (Go.bits .or .i64 a3 (ji44)) true _ ?side1 ?side2 ?side3 ?side4 A45.out).mono ?_
             (case side1=>exact byaq HR0_0.out)
             (case side2=>exact HC0_0.out)
             (case side3=>exact byaq HR254_2.out)
             (case side4=>exact HC254_2.out)
             rintro e w52 ⟨rfl,hb⟩
             refine ⟨_,rfl,?_⟩
             have n0_:=qA.mk (qH (g:=gb248) (o:=.cells #[.slice A0_0 l0_0.length c0_0] 25 (0,0)) (byaf BK248.out) hb)
             have n1_:=qA.mk (qH (g:=gb249) (o:=.cells #[.int .i64 a1_0,.int .i64 a1_1,.slice (some ad254) l1_2.length c1_2] 28 (0,0)) (byaf BK249.out) hb)
             have n2_:=qA.mk (qE (byaj GE248.out GE249.out) hb)
             clear BK248
             clear BK249
             clear HB
             have BK248:=n0_
             have BK249:=n1_
             have HB:=n2_
             clear n0_ n1_ n2_
             (try clear hb)
             (try clear hb2)
             (try clear hk)
             (try clear hi)
             refine hK.out _ _ ⟨(qC BK248.out 0).trans rfl,(qC BK249.out 0).trans rfl,(qC BK249.out 1).trans rfl,(qC BK249.out 2).trans rfl,((HB.out.cell (World.block_lt_of_cell? w _ hw254_0)).trans hw254_0),((HB.out.cell (World.block_lt_of_cell? w _ hw254_1)).trans hw254_1),((HB.out.cell (World.block_lt_of_cell? w _ hw254_2)).trans hw254_2),((HB.out.cell (World.block_lt_of_cell? w _ hw256_0)).trans hw256_0),((HB.out.cell (World.block_lt_of_cell? w _ hw256_1)).trans hw256_1),((HB.out.cell (World.block_lt_of_cell? w _ hw256_2)).trans hw256_2)⟩ (fun hHeld=>?_)
             clear hK K
             refine uM (a':=?_) ?_ ?_
             rotate_left
             ·show Act.put _ (some 67) _ = _
              simp only [Act.put,List.setIfInBounds_toArray,List.set_cons_zero,List.set_cons_succ,qY,zA]
              rfl
             refine zY (i:=12) (N:=some 68) (v:=?_) (a':=?_) #[true,true,true,true,true,true,true,true,true,true,true,true,true,false,false,false,false,false,false,false,false,false,false,false,false,false,false] rfl rfl (zO HT_.out (by kernel_rfl)) (fun _ _ _ h=>h) (Or.inl ⟨by rfl,?_⟩) ?_ ?_
             rotate_left
             ·intro w'
              go_simp
              with_reducible rfl
             rotate_left
             ·simp only [Act.put,List.setIfInBounds_toArray,List.set_cons_zero,List.set_cons_succ,qY,zA]
              rfl
             refine zY (i:=14) (N:=some 70) (v:=?_) (a':=?_) #[true,true,true,true,true,true,true,true,true,true,true,true,true,false,true,false,false,false,false,false,false,false,false,false,false,false,false] rfl rfl (zO HT_.out (by kernel_rfl)) (fun _ _ _ h=>h) (Or.inl ⟨by rfl,?_⟩) ?_ ?_
             rotate_left
             ·intro w'
              go_simp
              with_reducible rfl
             rotate_left
             ·simp only [Act.put,List.setIfInBounds_toArray,List.set_cons_zero,List.set_cons_succ,qY,zA]
              rfl
             refine zY (i:=18) (N:=some 74) (v:=?_) (a':=?_) #[true,true,true,true,true,true,true,true,true,true,true,true,true,false,true,false,false,false,true,false,false,false,false,false,false,false,false] rfl rfl (zO HT_.out (by kernel_rfl)) (fun _ _ _ h=>h) (Or.inl ⟨by rfl,?_⟩) ?_ ?_
             rotate_left
             ·intro w'
              go_simp
              with_reducible rfl
             rotate_left
             ·simp only [Act.put,List.setIfInBounds_toArray,List.set_cons_zero,List.set_cons_succ,qY,zA]
              rfl
             refine zY (i:=19) (N:=some 75) (v:=?_) (a':=?_) #[true,true,true,true,true,true,true,true,true,true,true,true,true,false,true,false,false,false,true,true,false,false,false,false,false,false,false] rfl rfl (zO HT_.out (by kernel_rfl)) (fun _ _ _ h=>h) (Or.inl ⟨by rfl,?_⟩) ?_ ?_
             rotate_left
             ·intro w'
              go_simp
              with_reducible rfl
             rotate_left
             ·simp only [Act.put,List.setIfInBounds_toArray,List.set_cons_zero,List.set_cons_succ,qY,zA]
              rfl
             refine zY (i:=23) (N:=some 79) (v:=?_) (a':=?_) #[true,true,true,true,true,true,true,true,true,true,true,true,true,false,true,false,false,false,true,true,false,false,false,true,false,false,false] rfl rfl (zO HT_.out (by kernel_rfl)) (fun _ _ _ h=>h) (Or.inl ⟨by rfl,?_⟩) ?_ ?_
             rotate_left
             ·intro w'
              go_simp
              with_reducible rfl
             rotate_left
             ·simp only [Act.put,List.setIfInBounds_toArray,List.set_cons_zero,List.set_cons_succ,qY,zA]
              rfl
             refine vZ (i:=13) (N:=some 69) (v:=?_) (a':=?_) #[true,true,true,true,true,true,true,true,true,true,true,true,true,true,true,false,false,false,true,true,false,false,false,true,false,false,false] rfl rfl (vJ HT_.out HW_.out (by kernel_rfl)) (fun _ _ _ h=>h) (Or.inl ⟨by rfl,?_⟩) hHeld ?_ ?_
             rotate_left
             ·rintro w' ⟨s0,s1,s2,s3,s4,s5,s6,s7,s8,s9⟩
              go_simp
              with_reducible rfl
             rotate_left
             ·simp only [Act.put,List.setIfInBounds_toArray,List.set_cons_zero,List.set_cons_succ,qY,zA]
              rfl
             refine vZ (i:=15) (N:=some 71) (v:=?_) (a':=?_) #[true,true,true,true,true,true,true,true,true,true,true,true,true,true,true,true,false,false,true,true,false,false,false,true,false,false,false] rfl rfl (vJ HT_.out HW_.out (by kernel_rfl)) (fun _ _ _ h=>h) (Or.inl ⟨by rfl,?_⟩) hHeld ?_ ?_
             rotate_left
             ·rintro w' ⟨s0,s1,s2,s3,s4,s5,s6,s7,s8,s9⟩
              go_simp
              with_reducible rfl
             rotate_left
             ·simp only [Act.put,List.setIfInBounds_toArray,List.set_cons_zero,List.set_cons_succ,qY,zA]
              rfl
             refine zY (i:=16) (N:=some 72) (v:=?_) (a':=?_) #[true,true,true,true,true,true,true,true,true,true,true,true,true,true,true,true,true,false,true,true,false,false,false,true,false,false,false] rfl rfl (zO HT_.out (by kernel_rfl)) (fun _ _ _ h=>h) (Or.inl ⟨by rfl,?_⟩) ?_ ?_
             rotate_left
             ·intro w'
              go_simp
              with_reducible rfl
             rotate_left
             ·simp only [Act.put,List.setIfInBounds_toArray,List.set_cons_zero,List.set_cons_succ,qY,zA]
              rfl
             refine vZ (i:=17) (N:=some 73) (v:=?_) (a':=?_) #[true,true,true,true,true,true,true,true,true,true,true,true,true,true,true,true,true,true,true,true,false,false,false,true,false,false,false] rfl rfl (vJ HT_.out HW_.out (by kernel_rfl)) (fun _ _ _ h=>h) (Or.inl ⟨by rfl,?_⟩) hHeld ?_ ?_
             rotate_left
             ·rintro w' ⟨s0,s1,s2,s3,s4,s5,s6,s7,s8,s9⟩
              go_simp
              with_reducible rfl
             rotate_left
             ·simp only [Act.put,List.setIfInBounds_toArray,List.set_cons_zero,List.set_cons_succ,qY,zA]
              rfl
             refine vZ (i:=20) (N:=some 76) (v:=?_) (a':=?_) #[true,true,true,true,true,true,true,true,true,true,true,true,true,true,true,true,true,true,true,true,true,false,false,true,false,false,false] rfl rfl (vJ HT_.out HW_.out (by kernel_rfl)) (fun _ _ _ h=>h) (Or.inl ⟨by rfl,?_⟩) hHeld ?_ ?_
             rotate_left
             ·rintro w' ⟨s0,s1,s2,s3,s4,s5,s6,s7,s8,s9⟩
              go_simp
              with_reducible rfl
             rotate_left
             ·simp only [Act.put,List.setIfInBounds_toArray,List.set_cons_zero,List.set_cons_succ,qY,zA]
              rfl
             refine zY (i:=21) (N:=some 77) (v:=?_) (a':=?_) #[true,true,true,true,true,true,true,true,true,true,true,true,true,true,true,true,true,true,true,true,true,true,false,true,false,false,false] rfl rfl (zO HT_.out (by kernel_rfl)) (fun _ _ _ h=>h) (Or.inl ⟨by rfl,?_⟩) ?_ ?_
             rotate_left
             ·intro w'
              go_simp
              with_reducible rfl
             rotate_left
             ·simp only [Act.put,List.setIfInBounds_toArray,List.set_cons_zero,List.set_cons_succ,qY,zA]
              rfl
             refine zY (i:=22) (N:=some 78) (v:=?_) (a':=?_) #[true,true,true,true,true,true,true,true,true,true,true,true,true,true,true,true,true,true,true,true,true,true,true,true,false,false,false] rfl rfl (zO HT_.out (by kernel_rfl)) (fun _ _ _ h=>h) (Or.inl ⟨by rfl,?_⟩) ?_ ?_
             rotate_left
             ·intro w'
              go_simp
              with_reducible rfl
             rotate_left
             ·simp only [Act.put,List.setIfInBounds_toArray,List.set_cons_zero,List.set_cons_succ,qY,zA]
              rfl
             refine one_ (i:=24) (N:=some 80) #[true,true,true,true,true,true,true,true,true,true,true,true,true,true,true,true,true,true,true,true,true,true,true,true,true,false,false] rfl rfl (uE HT_.out (by kernel_rfl)) (by decide) (fun K hK=>?_)
             refine kD Try.func41 (by kernel_rfl) rfl #[.agg #[.slice A0_0 l0_0.length c0_0],.agg #[.int .i64 ((jS l1_2 1).f0),.int .i64 ((jS l1_2 1).f1),.slice A256_2 ((jS l1_2 1).f2).length c256_2],.int .i64 (Go.bits .or .i64 a2 (ji44)),.int .i64 a3] (by rfl) rfl rfl byaz ?_
             with_reducible refine (ih kj31 (by have:=HJ4.out;have:=HJ31.out;omega) _ _ l0_0 ((jS l1_2 1).f0) ((jS l1_2 1).f1) _ _ ((jS l1_2 1).f2) (Go.bits .or .i64 a2 (ji44)) a3 t257 _ ?side1 ?side2 ?side3 ?side4 A50.out).mono ?_
             (case side1=>exact byaq HR0_0.out)
             (case side2=>exact HC0_0.out)
             (case side3=>exact byaq HR256_2.out)
             (case side4=>exact HC256_2.out)
             rintro e w53 ⟨rfl,hb⟩
             refine ⟨_,rfl,?_⟩
             have n0_:=qA.mk (qH (g:=gb248) (o:=.cells #[.slice A0_0 l0_0.length c0_0] 25 (0,0)) (byaf BK248.out) hb)
             have n1_:=qA.mk (qH (g:=gb249) (o:=.cells #[.int .i64 a1_0,.int .i64 a1_1,.slice (some ad254) l1_2.length c1_2] 28 (0,0)) (byaf BK249.out) hb)
             have n2_:=qA.mk (qE (byaj GE248.out GE249.out) hb)
             clear BK248
             clear BK249
             clear HB
             have BK248:=n0_
             have BK249:=n1_
             have HB:=n2_
             clear n0_ n1_ n2_
             (try clear hb)
             (try clear hb2)
             (try clear hk)
             (try clear hi)
             refine hK.out _ _ ⟨(qC BK248.out 0).trans rfl,(qC BK249.out 0).trans rfl,(qC BK249.out 1).trans rfl,(qC BK249.out 2).trans rfl,((HB.out.cell (World.block_lt_of_cell? w _ hw254_0)).trans hw254_0),((HB.out.cell (World.block_lt_of_cell? w _ hw254_1)).trans hw254_1),((HB.out.cell (World.block_lt_of_cell? w _ hw254_2)).trans hw254_2),((HB.out.cell (World.block_lt_of_cell? w _ hw256_0)).trans hw256_0),((HB.out.cell (World.block_lt_of_cell? w _ hw256_1)).trans hw256_1),((HB.out.cell (World.block_lt_of_cell? w _ hw256_2)).trans hw256_2)⟩ (fun hHeld=>?_)
             clear hK K
             refine uM (a':=?_) ?_ ?_
             rotate_left
             ·show Act.put _ (some 80) _ = _
              simp only [Act.put,List.setIfInBounds_toArray,List.set_cons_zero,List.set_cons_succ,qY,zA]
              rfl
             refine zY (i:=25) (N:=some 81) (v:=?_) (a':=?_) #[true,true,true,true,true,true,true,true,true,true,true,true,true,true,true,true,true,true,true,true,true,true,true,true,true,true,false] rfl rfl (zO HT_.out (by kernel_rfl)) (fun _ _ _ h=>h) (Or.inl ⟨by rfl,?_⟩) ?_ ?_
             rotate_left
             ·intro w'
              go_simp
              with_reducible rfl
             rotate_left
             ·simp only [Act.put,List.setIfInBounds_toArray,List.set_cons_zero,List.set_cons_succ,qY,zA]
              rfl
             refine zY (i:=26) (N:=some 8) (v:=?_) (a':=?_) #[true,true,true,true,true,true,true,true,true,true,true,true,true,true,true,true,true,true,true,true,true,true,true,true,true,true,true] rfl rfl (zO HT_.out (by kernel_rfl)) (fun _ _ _ h=>h) (Or.inl ⟨by rfl,?_⟩) ?_ ?_
             rotate_left
             ·intro w'
              go_simp
              with_reducible rfl
             rotate_left
             ·simp only [Act.put,List.setIfInBounds_toArray,List.set_cons_zero,List.set_cons_succ,qY,zA]
              rfl
             refine done_ (kS HT_.out (by kernel_rfl)) ?_
             try go_wp2
             go_ret
             exact ⟨byba,byaj GE248.out GE249.out⟩
            ·rw [if_neg c47] at H
             exact absurd H (by simp)
           ·replace c46:=Bool.eq_false_iff.mpr c46
            subst c46
            have H1 : (some false) = some r:=by rw [if_neg (show ¬ (false = true) by decide)] at H;exact H
            clear H
            have H:=H1
            clear H1
            obtain rfl:=Option.some.inj H
            try go_wp2
            have n0_:=qA.mk (qJ BK248.out)
            have n1_:=qA.mk (qJ BK249.out)
            have n2_:=qA.mk (jY HB.out)
            clear BK248
            clear BK249
            clear HB
            have BK248:=n0_
            have BK249:=n1_
            have HB:=n2_
            clear n0_ n1_ n2_
            have p254 : 0 ≤ (0 : Int):=(by omega)
            have q254 : 0 < (l1_2.length : Int):=of_decide_eq_true byag
            obtain ⟨ad254,A254_2,c254_2,e254,hx254_0,hx254_1,hx254_2,hl254_2,hi254_2⟩:=at_T28 HR1_2.out 0 p254 q254
            have hw254_2:=hx254_2
            (try rw [show ((0 : Int)).toNat = 0 from rfl] at hw254_2)
            (try rw [show 0 * 3 = 0 from rfl] at hw254_2)
            (try rw [Addr.add_zero'] at hw254_2)
            have hw254_1:=hx254_1
            (try rw [show ((0 : Int)).toNat = 0 from rfl] at hw254_1)
            (try rw [show 0 * 3 = 0 from rfl] at hw254_1)
            (try rw [Addr.add_zero'] at hw254_1)
            have hw254_0:=hx254_0
            (try rw [show ((0 : Int)).toNat = 0 from rfl] at hw254_0)
            (try rw [show 0 * 3 = 0 from rfl] at hw254_0)
            (try rw [Addr.add_zero'] at hw254_0)
            cases e254
            have qi254 : (0 < l1_2.length) = True:=eq_true (by omega)
            (try rw [show ((0 : Int)).toNat = 0 from rfl] at hx254_0)
            (try rw [show 0 * 3 = 0 from rfl] at hx254_0)
            (try rw [Addr.add_zero'] at hx254_0)
            (try rw [show ((0 : Int)).toNat = 0 from rfl] at hx254_1)
            (try rw [show 0 * 3 = 0 from rfl] at hx254_1)
            (try rw [Addr.add_zero'] at hx254_1)
            (try rw [show ((0 : Int)).toNat = 0 from rfl] at hx254_2)
            (try rw [show 0 * 3 = 0 from rfl] at hx254_2)
            (try rw [Addr.add_zero'] at hx254_2)
            replace hx254_0:=(HB.out.cell (World.block_lt_of_cell? w _ hx254_0)).trans hx254_0
            replace hx254_1:=(HB.out.cell (World.block_lt_of_cell? w _ hx254_1)).trans hx254_1
            replace hx254_2:=(HB.out.cell (World.block_lt_of_cell? w _ hx254_2)).trans hx254_2
            have HR254_2:=qA.mk hi254_2
            have HC254_2:=qA.mk hl254_2
            clear hi254_2 hl254_2
            replace p254:=eq_true p254
            replace q254:=eq_true q254
            refine kJ (n:=27) (S:=fun w'=>w'.cell? ⟨gb248,0,none⟩ = some (.slice A0_0 l0_0.length c0_0)∧w'.cell? ⟨gb249,0,none⟩ = some (.int .i64 a1_0)∧w'.cell? ⟨gb249,1,none⟩ = some (.int .i64 a1_1)∧w'.cell? ⟨gb249,2,none⟩ = some (.slice (some ad254) l1_2.length c1_2)∧w'.cell? ad254 = some (.int .i64 ((jS l1_2 0).f0))∧w'.cell? ⟨ad254.block,ad254.off + 1,none⟩ = some (.int .i64 ((jS l1_2 0).f1))∧w'.cell? ⟨ad254.block,ad254.off + 2,none⟩ = some (.slice A254_2 ((jS l1_2 0).f2).length c254_2)) (ds:=[]) #[false,false,false,false,false,false,false,false,false,false,false,false,false,false,false,false,false,false,false,false,false,false,false,false,false,false,false] (by kernel_rfl) rfl rfl ⟨(qC BK248.out 0).trans rfl,(qC BK249.out 0).trans rfl,(qC BK249.out 1).trans rfl,(qC BK249.out 2).trans rfl,((HB.out.cell (World.block_lt_of_cell? w _ hw254_0)).trans hw254_0),((HB.out.cell (World.block_lt_of_cell? w _ hw254_1)).trans hw254_1),((HB.out.cell (World.block_lt_of_cell? w _ hw254_2)).trans hw254_2)⟩ (fun hHeld=>?_);refine uY qL.tab10 qL.bits10 (fun HT_ HW_=>?_)
            generalize wc.drew = w54 at BK248 BK249 HB HR254_2 hx254_0 hx254_1 hx254_2 hHeld ⊢
            refine zY (i:=1) (N:=some 57) (v:=?_) (a':=?_) #[false,true,false,false,false,false,false,false,false,false,false,false,false,false,false,false,false,false,false,false,false,false,false,false,false,false,false] rfl rfl (zO HT_.out (by kernel_rfl)) (fun _ _ _ h=>h) (Or.inl ⟨by rfl,?_⟩) ?_ ?_
            rotate_left
            ·intro w'
             go_simp
             with_reducible rfl
            rotate_left
            ·simp only [Act.put,List.setIfInBounds_toArray,List.set_cons_zero,List.set_cons_succ,qY,zA]
             rfl
            refine zY (i:=5) (N:=some 61) (v:=?_) (a':=?_) #[false,true,false,false,false,true,false,false,false,false,false,false,false,false,false,false,false,false,false,false,false,false,false,false,false,false,false] rfl rfl (zO HT_.out (by kernel_rfl)) (fun _ _ _ h=>h) (Or.inl ⟨by rfl,?_⟩) ?_ ?_
            rotate_left
            ·intro w'
             go_simp
             with_reducible rfl
            rotate_left
            ·simp only [Act.put,List.setIfInBounds_toArray,List.set_cons_zero,List.set_cons_succ,qY,zA]
             rfl
            refine zY (i:=6) (N:=some 62) (v:=?_) (a':=?_) #[false,true,false,false,false,true,true,false,false,false,false,false,false,false,false,false,false,false,false,false,false,false,false,false,false,false,false] rfl rfl (zO HT_.out (by kernel_rfl)) (fun _ _ _ h=>h) (Or.inl ⟨by rfl,?_⟩) ?_ ?_
            rotate_left
            ·intro w'
             go_simp
             with_reducible rfl
            rotate_left
            ·simp only [Act.put,List.setIfInBounds_toArray,List.set_cons_zero,List.set_cons_succ,qY,zA]
             rfl
            refine zY (i:=7) (N:=some 63) (v:=?_) (a':=?_) #[false,true,false,false,false,true,true,true,false,false,false,false,false,false,false,false,false,false,false,false,false,false,false,false,false,false,false] rfl rfl (zO HT_.out (by kernel_rfl)) (fun _ _ _ h=>h) (Or.inl ⟨by rfl,?_⟩) ?_ ?_
            rotate_left
            ·intro w'
             go_simp
             with_reducible rfl
            rotate_left
            ·simp only [Act.put,List.setIfInBounds_toArray,List.set_cons_zero,List.set_cons_succ,qY,zA]
             rfl
            refine vZ (i:=0) (N:=some 56) (v:=?_) (a':=?_) #[true,true,false,false,false,true,true,true,false,false,false,false,false,false,false,false,false,false,false,false,false,false,false,false,false,false,false] rfl rfl (vJ HT_.out HW_.out (by kernel_rfl)) (fun _ _ _ h=>h) (Or.inl ⟨by rfl,?_⟩) hHeld ?_ ?_
            rotate_left
            ·rintro w' ⟨s0,s1,s2,s3,s4,s5,s6⟩
             go_simp
             with_reducible rfl
            rotate_left
            ·simp only [Act.put,List.setIfInBounds_toArray,List.set_cons_zero,List.set_cons_succ,qY,zA]
             rfl
            refine vZ (i:=2) (N:=some 58) (v:=?_) (a':=?_) #[true,true,true,false,false,true,true,true,false,false,false,false,false,false,false,false,false,false,false,false,false,false,false,false,false,false,false] rfl rfl (vJ HT_.out HW_.out (by kernel_rfl)) (fun _ _ _ h=>h) (Or.inl ⟨by rfl,?_⟩) hHeld ?_ ?_
            rotate_left
            ·rintro w' ⟨s0,s1,s2,s3,s4,s5,s6⟩
             go_simp
             with_reducible rfl
            rotate_left
            ·simp only [Act.put,List.setIfInBounds_toArray,List.set_cons_zero,List.set_cons_succ,qY,zA]
             rfl
            refine zY (i:=3) (N:=some 59) (v:=?_) (a':=?_) #[true,true,true,true,false,true,true,true,false,false,false,false,false,false,false,false,false,false,false,false,false,false,false,false,false,false,false] rfl rfl (zO HT_.out (by kernel_rfl)) (fun _ _ _ h=>h) (Or.inl ⟨by rfl,?_⟩) ?_ ?_
            rotate_left
            ·intro w'
             go_simp
             with_reducible rfl
            rotate_left
            ·simp only [Act.put,List.setIfInBounds_toArray,List.set_cons_zero,List.set_cons_succ,qY,zA]
             rfl
            refine vZ (i:=4) (N:=some 60) (v:=?_) (a':=?_) #[true,true,true,true,true,true,true,true,false,false,false,false,false,false,false,false,false,false,false,false,false,false,false,false,false,false,false] rfl rfl (vJ HT_.out HW_.out (by kernel_rfl)) (fun _ _ _ h=>h) (Or.inl ⟨by rfl,?_⟩) hHeld ?_ ?_
            rotate_left
            ·rintro w' ⟨s0,s1,s2,s3,s4,s5,s6⟩
             go_simp
             with_reducible rfl
            rotate_left
            ·simp only [Act.put,List.setIfInBounds_toArray,List.set_cons_zero,List.set_cons_succ,qY,zA]
             rfl
            refine vZ (i:=8) (N:=some 64) (v:=?_) (a':=?_) #[true,true,true,true,true,true,true,true,true,false,false,false,false,false,false,false,false,false,false,false,false,false,false,false,false,false,false] rfl rfl (vJ HT_.out HW_.out (by kernel_rfl)) (fun _ _ _ h=>h) (Or.inl ⟨by rfl,?_⟩) hHeld ?_ ?_
            rotate_left
            ·rintro w' ⟨s0,s1,s2,s3,s4,s5,s6⟩
             go_simp
             with_reducible rfl
            rotate_left
            ·simp only [Act.put,List.setIfInBounds_toArray,List.set_cons_zero,List.set_cons_succ,qY,zA]
             rfl
            refine zY (i:=9) (N:=some 65) (v:=?_) (a':=?_) #[true,true,true,true,true,true,true,true,true,true,false,false,false,false,false,false,false,false,false,false,false,false,false,false,false,false,false] rfl rfl (zO HT_.out (by kernel_rfl)) (fun _ _ _ h=>h) (Or.inl ⟨by rfl,?_⟩) ?_ ?_
            rotate_left
            ·intro w'
             go_simp
             with_reducible rfl
            rotate_left
            ·simp only [Act.put,List.setIfInBounds_toArray,List.set_cons_zero,List.set_cons_succ,qY,zA]
             rfl
            refine zY (i:=10) (N:=some 66) (v:=?_) (a':=?_) #[true,true,true,true,true,true,true,true,true,true,true,false,false,false,false,false,false,false,false,false,false,false,false,false,false,false,false] rfl rfl (zO HT_.out (by kernel_rfl)) (fun _ _ _ h=>h) (Or.inl ⟨by rfl,?_⟩) ?_ ?_
            rotate_left
            ·intro w'
             go_simp
             with_reducible rfl
            rotate_left
            ·simp only [Act.put,List.setIfInBounds_toArray,List.set_cons_zero,List.set_cons_succ,qY,zA]
             rfl
            refine one_ (i:=11) (N:=some 67) #[true,true,true,true,true,true,true,true,true,true,true,true,false,false,false,false,false,false,false,false,false,false,false,false,false,false,false] rfl rfl (uE HT_.out (by kernel_rfl)) (by decide) (fun K hK=>?_)
            refine kD Try.func41 (by kernel_rfl) rfl #[.agg #[.slice A0_0 l0_0.length c0_0],.agg #[.int .i64 ((jS l1_2 0).f0),.int .i64 ((jS l1_2 0).f1),.slice A254_2 ((jS l1_2 0).f2).length c254_2],.int .i64 a2,.int .i64 (Go.bits .or .i64 a3 (ji44))] (by rfl) rfl rfl byaz ?_
            with_reducible refine (ih kj31 (by have:=HJ4.out;have:=HJ31.out;omega) _ _ l0_0 ((jS l1_2 0).f0) ((jS l1_2 0).f1) _ _ ((jS l1_2 0).f2) a2 (Go.bits .or .i64 a3 (ji44)) false _ ?side1 ?side2 ?side3 ?side4 A45.out).mono ?_
            (case side1=>exact byaq HR0_0.out)
            (case side2=>exact HC0_0.out)
            (case side3=>exact byaq HR254_2.out)
            (case side4=>exact HC254_2.out)
            rintro e w55 ⟨rfl,hb⟩
            refine ⟨_,rfl,?_⟩
            have n0_:=qA.mk (qH (g:=gb248) (o:=.cells #[.slice A0_0 l0_0.length c0_0] 25 (0,0)) (byaf BK248.out) hb)
            have n1_:=qA.mk (qH (g:=gb249) (o:=.cells #[.int .i64 a1_0,.int .i64 a1_1,.slice (some ad254) l1_2.length c1_2] 28 (0,0)) (byaf BK249.out) hb)
            have n2_:=qA.mk (qE (byaj GE248.out GE249.out) hb)
            clear BK248
            clear BK249
            clear HB
            have BK248:=n0_
            have BK249:=n1_
            have HB:=n2_
            clear n0_ n1_ n2_
            (try clear hb)
            (try clear hb2)
            (try clear hk)
            (try clear hi)
            refine hK.out _ _ ⟨(qC BK248.out 0).trans rfl,(qC BK249.out 0).trans rfl,(qC BK249.out 1).trans rfl,(qC BK249.out 2).trans rfl,((HB.out.cell (World.block_lt_of_cell? w _ hw254_0)).trans hw254_0),((HB.out.cell (World.block_lt_of_cell? w _ hw254_1)).trans hw254_1),((HB.out.cell (World.block_lt_of_cell? w _ hw254_2)).trans hw254_2)⟩ (fun hHeld=>?_)
            clear hK K
            refine uM (a':=?_) ?_ ?_
            rotate_left
            ·show Act.put _ (some 67) _ = _
             simp only [Act.put,List.setIfInBounds_toArray,List.set_cons_zero,List.set_cons_succ,qY,zA]
             rfl
            refine zY (i:=12) (N:=some 68) (v:=?_) (a':=?_) #[true,true,true,true,true,true,true,true,true,true,true,true,true,false,false,false,false,false,false,false,false,false,false,false,false,false,false] rfl rfl (zO HT_.out (by kernel_rfl)) (fun _ _ _ h=>h) (Or.inl ⟨by rfl,?_⟩) ?_ ?_
            rotate_left
            ·intro w'
             go_simp
             with_reducible rfl
            rotate_left
            ·simp only [Act.put,List.setIfInBounds_toArray,List.set_cons_zero,List.set_cons_succ,qY,zA]
             rfl
            refine zY (i:=13) (N:=some 69) (v:=undef) (a':=?_) #[true,true,true,true,true,true,true,true,true,true,true,true,true,true,false,false,false,false,false,false,false,false,false,false,false,false,false] rfl rfl (zO HT_.out (by kernel_rfl)) (fun _ _ _ h=>h) (Or.inr ⟨by rfl,rfl⟩) ?_ ?_
            rotate_left
            ·simp only [Act.put,List.setIfInBounds_toArray,List.set_cons_zero,List.set_cons_succ,qY,zA]
             rfl
            refine zY (i:=14) (N:=some 70) (v:=undef) (a':=?_) #[true,true,true,true,true,true,true,true,true,true,true,true,true,true,true,false,false,false,false,false,false,false,false,false,false,false,false] rfl rfl (zO HT_.out (by kernel_rfl)) (fun _ _ _ h=>h) (Or.inr ⟨by rfl,rfl⟩) ?_ ?_
            rotate_left
            ·simp only [Act.put,List.setIfInBounds_toArray,List.set_cons_zero,List.set_cons_succ,qY,zA]
             rfl
            refine zY (i:=15) (N:=some 71) (v:=undef) (a':=?_) #[true,true,true,true,true,true,true,true,true,true,true,true,true,true,true,true,false,false,false,false,false,false,false,false,false,false,false] rfl rfl (zO HT_.out (by kernel_rfl)) (fun _ _ _ h=>h) (Or.inr ⟨by rfl,rfl⟩) ?_ ?_
            rotate_left
            ·simp only [Act.put,List.setIfInBounds_toArray,List.set_cons_zero,List.set_cons_succ,qY,zA]
             rfl
            refine zY (i:=16) (N:=some 72) (v:=undef) (a':=?_) #[true,true,true,true,true,true,true,true,true,true,true,true,true,true,true,true,true,false,false,false,false,false,false,false,false,false,false] rfl rfl (zO HT_.out (by kernel_rfl)) (fun _ _ _ h=>h) (Or.inr ⟨by rfl,rfl⟩) ?_ ?_
            rotate_left
            ·simp only [Act.put,List.setIfInBounds_toArray,List.set_cons_zero,List.set_cons_succ,qY,zA]
             rfl
            refine zY (i:=17) (N:=some 73) (v:=undef) (a':=?_) #[true,true,true,true,true,true,true,true,true,true,true,true,true,true,true,true,true,true,false,false,false,false,false,false,false,false,false] rfl rfl (zO HT_.out (by kernel_rfl)) (fun _ _ _ h=>h) (Or.inr ⟨by rfl,rfl⟩) ?_ ?_
            rotate_left
            ·simp only [Act.put,List.setIfInBounds_toArray,List.set_cons_zero,List.set_cons_succ,qY,zA]
             rfl
            refine zY (i:=18) (N:=some 74) (v:=undef) (a':=?_) #[true,true,true,true,true,true,true,true,true,true,true,true,true,true,true,true,true,true,true,false,false,false,false,false,false,false,false] rfl rfl (zO HT_.out (by kernel_rfl)) (fun _ _ _ h=>h) (Or.inr ⟨by rfl,rfl⟩) ?_ ?_
            rotate_left
            ·simp only [Act.put,List.setIfInBounds_toArray,List.set_cons_zero,List.set_cons_succ,qY,zA]
             rfl
            refine zY (i:=19) (N:=some 75) (v:=undef) (a':=?_) #[true,true,true,true,true,true,true,true,true,true,true,true,true,true,true,true,true,true,true,true,false,false,false,false,false,false,false] rfl rfl (zO HT_.out (by kernel_rfl)) (fun _ _ _ h=>h) (Or.inr ⟨by rfl,rfl⟩) ?_ ?_
            rotate_left
            ·simp only [Act.put,List.setIfInBounds_toArray,List.set_cons_zero,List.set_cons_succ,qY,zA]
             rfl
            refine zY (i:=20) (N:=some 76) (v:=undef) (a':=?_) #[true,true,true,true,true,true,true,true,true,true,true,true,true,true,true,true,true,true,true,true,true,false,false,false,false,false,false] rfl rfl (zO HT_.out (by kernel_rfl)) (fun _ _ _ h=>h) (Or.inr ⟨by rfl,rfl⟩) ?_ ?_
            rotate_left
            ·simp only [Act.put,List.setIfInBounds_toArray,List.set_cons_zero,List.set_cons_succ,qY,zA]
             rfl
            refine zY (i:=21) (N:=some 77) (v:=undef) (a':=?_) #[true,true,true,true,true,true,true,true,true,true,true,true,true,true,true,true,true,true,true,true,true,true,false,false,false,false,false] rfl rfl (zO HT_.out (by kernel_rfl)) (fun _ _ _ h=>h) (Or.inr ⟨by rfl,rfl⟩) ?_ ?_
            rotate_left
            ·simp only [Act.put,List.setIfInBounds_toArray,List.set_cons_zero,List.set_cons_succ,qY,zA]
             rfl
            refine zY (i:=22) (N:=some 78) (v:=undef) (a':=?_) #[true,true,true,true,true,true,true,true,true,true,true,true,true,true,true,true,true,true,true,true,true,true,true,false,false,false,false] rfl rfl (zO HT_.out (by kernel_rfl)) (fun _ _ _ h=>h) (Or.inr ⟨by rfl,rfl⟩) ?_ ?_
            rotate_left
            ·simp only [Act.put,List.setIfInBounds_toArray,List.set_cons_zero,List.set_cons_succ,qY,zA]
             rfl
            refine zY (i:=23) (N:=some 79) (v:=undef) (a':=?_) #[true,true,true,true,true,true,true,true,true,true,true,true,true,true,true,true,true,true,true,true,true,true,true,true,false,false,false] rfl rfl (zO HT_.out (by kernel_rfl)) (fun _ _ _ h=>h) (Or.inr ⟨by rfl,rfl⟩) ?_ ?_
            rotate_left
            ·simp only [Act.put,List.setIfInBounds_toArray,List.set_cons_zero,List.set_cons_succ,qY,zA]
             rfl
            refine zY (i:=24) (N:=some 80) (v:=undef) (a':=?_) #[true,true,true,true,true,true,true,true,true,true,true,true,true,true,true,true,true,true,true,true,true,true,true,true,true,false,false] rfl rfl (zO HT_.out (by kernel_rfl)) (fun _ _ _ h=>h) (Or.inr ⟨by rfl,rfl⟩) ?_ ?_
            rotate_left
            ·simp only [Act.put,List.setIfInBounds_toArray,List.set_cons_zero,List.set_cons_succ,qY,zA]
             rfl
            refine zY (i:=25) (N:=some 81) (v:=?_) (a':=?_) #[true,true,true,true,true,true,true,true,true,true,true,true,true,true,true,true,true,true,true,true,true,true,true,true,true,true,false] rfl rfl (zO HT_.out (by kernel_rfl)) (fun _ _ _ h=>h) (Or.inl ⟨by rfl,?_⟩) ?_ ?_
            rotate_left
            ·intro w'
             go_simp
             with_reducible rfl
            rotate_left
            ·simp only [Act.put,List.setIfInBounds_toArray,List.set_cons_zero,List.set_cons_succ,qY,zA]
             rfl
            refine zY (i:=26) (N:=some 8) (v:=?_) (a':=?_) #[true,true,true,true,true,true,true,true,true,true,true,true,true,true,true,true,true,true,true,true,true,true,true,true,true,true,true] rfl rfl (zO HT_.out (by kernel_rfl)) (fun _ _ _ h=>h) (Or.inl ⟨by rfl,?_⟩) ?_ ?_
            rotate_left
            ·intro w'
             go_simp
             with_reducible rfl
            rotate_left
            ·simp only [Act.put,List.setIfInBounds_toArray,List.set_cons_zero,List.set_cons_succ,qY,zA]
             rfl
            refine done_ (kS HT_.out (by kernel_rfl)) ?_
            try go_wp2
            go_ret
            exact ⟨byba,byaj GE248.out GE249.out⟩
          ·rw [if_neg c43] at H
           exact absurd H (by simp)
         ·rw [if_neg c42] at H
          exact absurd H (by simp)
     ·rw [if_neg c31] at H
      have c31b0 : (a1_0 == 3) = false:=beq_eq_false_iff_ne.mpr c31
      have c31b1 : (a1_0 != 3) = true:=bne_iff_ne.mpr c31
      obtain rfl:=Option.some.inj H
      have hnb56:=NB249_248.out
      have hnc56:=NB248_249.out
      have hcz57_0 : wc.cell? ⟨gb249,0,none⟩ = some (.int .i64 a1_0):=(qC BK249.out 0).trans rfl
      have hcz57_1 : wc.cell? ⟨gb249,1,none⟩ = some (.int .i64 a1_1):=(qC BK249.out 1).trans rfl
      have hcz57_2 : wc.cell? ⟨gb249,2,none⟩ = some (.slice A1_2 l1_2.length c1_2):=(qC BK249.out 2).trans rfl
      have hfz57_0:=qB BK249.out 0
      have hfz57_1:=qB BK249.out 1
      have hfz57_2:=qB BK249.out 2
      go_wp2
      go_ret
      exact ⟨byac,byaj GE248.out GE249.out⟩
end Go.Proofs.Ytkkbdimegpdbgaa.P
