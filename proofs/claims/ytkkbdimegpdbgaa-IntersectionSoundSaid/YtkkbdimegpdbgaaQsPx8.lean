/- Functions of the program as Lean functions, and the walks that show that the calls answer so; written by a program of this session (a changed print) and by hand. -/
import Derived.Test.YtkkbdimegpdbgaaQsPx0
import Derived.Test.YtkkbdimegpdbgaaQsPx1
import Derived.Test.YtkkbdimegpdbgaaQsPx5
import Derived.Test.YtkkbdimegpdbgaaQsPx6
namespace Go.Proofs.Ytkkbdimegpdbgaa.P
open Go.RowKit Go.Proofs.YtkkbdimegpdbgaaW.PrintWords Go.Proofs.YtkkbdimegpdbgaaW.PrintLast Go.Proofs.YtkkbdimegpdbgaaW.PrintMore
attribute [local go_sem] kF kD kV kU uJ uK kG kE
set_option linter.unusedVariables false
set_option linter.unusedSimpArgs false
mutual
def qL.j0 : Nat→Int→Int→Bool→List (S58)→Int→Int→List (S28)→Option (Bool)
 | 0,_,_,_,_,_,_,_=>none
 | k + 1,x2,x3,x9,x249000,x250000,x250001,x250002=>if x250000 = 1 then (if x9 = true then ((vH.f k x249000 x2 x3).bind fun t250=>(some t250)) else (some false)) else (if x250000 = 2 then (if x9 = true then ((jD.f k x249000 x2).bind fun t251=>(some t251)) else (some false)) else (if x250000 = 3 then (if (x250002.length : Int) = 2 then ((vK.f x249000).bind fun t252=>((kR.f (Go.bits .andNot .i64 (Go.bits .andNot .i64 t252 x2) x3) x250001).bind fun t253=>(qL.j1 k x2 x3 (!t253) x249000 x250000 x250001 x250002))) else (qL.j1 k x2 x3 true x249000 x250000 x250001 x250002)) else (some false)))
def qL.j1 : Nat→Int→Int→Bool→List (S58)→Int→Int→List (S28)→Option (Bool)
 | 0,_,_,_,_,_,_,_=>none
 | k + 1,x2,x3,x55,x249000,x250000,x250001,x250002=>if x55 = true then (some false) else (if 0 < (x250002.length : Int) then (if 0 ≤ x250001 then ((qL.f k x249000 ((zJ x250002 0).f0) ((zJ x250002 0).f1) ((zJ x250002 0).f2) x2 (Go.bits .or .i64 x3 (shl .i64 1 x250001))).bind fun t255=>(if t255 = true then (if 1 < (x250002.length : Int) then ((qL.f k x249000 ((zJ x250002 1).f0) ((zJ x250002 1).f1) ((zJ x250002 1).f2) (Go.bits .or .i64 x2 (shl .i64 1 x250001)) x3).bind fun t257=>(some t257)) else (none)) else (some false))) else (none)) else (none))
def qL.f : Nat→List (S58)→Int→Int→List (S28)→Int→Int→Option (Bool)
 | 0,_,_,_,_,_,_=>none
 | k + 1,l0_0,a1_0,a1_1,l1_2,a2,a3=>if a1_1 = 0 then (qL.j0 k a2 a3 ((l1_2.length : Int) == 0) l0_0 a1_0 a1_1 l1_2) else (qL.j0 k a2 a3 false l0_0 a1_0 a1_1 l1_2)
end
theorem qL.mono_l : ∀ k,(∀ y0 y1 y2 y3 y4 y5,LeO (qL.f k y0 y1 y2 y3 y4 y5) (qL.f (k + 1) y0 y1 y2 y3 y4 y5))∧(∀ y0 y1 y2 y3 y4 y5 y6,LeO (qL.j0 k y0 y1 y2 y3 y4 y5 y6) (qL.j0 (k + 1) y0 y1 y2 y3 y4 y5 y6))∧(∀ y0 y1 y2 y3 y4 y5 y6,LeO (qL.j1 k y0 y1 y2 y3 y4 y5 y6) (qL.j1 (k + 1) y0 y1 y2 y3 y4 y5 y6))
 | 0=>⟨fun _ _ _ _ _ _ r h=>by simp [qL.f] at h,fun _ _ _ _ _ _ _ r h=>by simp [qL.j0] at h,fun _ _ _ _ _ _ _ r h=>by simp [qL.j1] at h⟩
 | k + 1=>by
  obtain ⟨ih0,ih1,ih2⟩:=qL.mono_l k
  refine ⟨?_,?_,?_⟩
  ·intro y0 y1 y2 y3 y4 y5
   unfold qL.f
   repeat' first
   | (with_reducible exact ih0 _ _ _ _ _ _)
   | (with_reducible exact ih1 _ _ _ _ _ _ _)
   | (with_reducible exact ih2 _ _ _ _ _ _ _)
   | (with_reducible exact jD.mono _ _ _)
   | (with_reducible exact vH.mono _ _ _ _)
   | (with_reducible exact LeO.refl _)
   | (with_reducible exact LeO.none _)
   | (with_reducible refine LeO.ite ?_ ?_)
   | (with_reducible refine LeO.bind ?_ (fun _=>?_))
   | exact ih0 _ _ _ _ _ _
   | exact ih1 _ _ _ _ _ _ _
   | exact ih2 _ _ _ _ _ _ _
   | exact jD.mono _ _ _
   | exact vH.mono _ _ _ _
   | exact LeO.none _
   | refine LeO.ite ?_ ?_
   | refine LeO.bind ?_ (fun _=>?_)
  ·intro y0 y1 y2 y3 y4 y5 y6
   unfold qL.j0
   repeat' first
   | (with_reducible exact ih0 _ _ _ _ _ _)
   | (with_reducible exact ih1 _ _ _ _ _ _ _)
   | (with_reducible exact ih2 _ _ _ _ _ _ _)
   | (with_reducible exact jD.mono _ _ _)
   | (with_reducible exact vH.mono _ _ _ _)
   | (with_reducible exact LeO.refl _)
   | (with_reducible exact LeO.none _)
   | (with_reducible refine LeO.ite ?_ ?_)
   | (with_reducible refine LeO.bind ?_ (fun _=>?_))
   | exact ih0 _ _ _ _ _ _
   | exact ih1 _ _ _ _ _ _ _
   | exact ih2 _ _ _ _ _ _ _
   | exact jD.mono _ _ _
   | exact vH.mono _ _ _ _
   | exact LeO.none _
   | refine LeO.ite ?_ ?_
   | refine LeO.bind ?_ (fun _=>?_)
  ·intro y0 y1 y2 y3 y4 y5 y6
   unfold qL.j1
   repeat' first
   | (with_reducible exact ih0 _ _ _ _ _ _)
   | (with_reducible exact ih1 _ _ _ _ _ _ _)
   | (with_reducible exact ih2 _ _ _ _ _ _ _)
   | (with_reducible exact jD.mono _ _ _)
   | (with_reducible exact vH.mono _ _ _ _)
   | (with_reducible exact LeO.refl _)
   | (with_reducible exact LeO.none _)
   | (with_reducible refine LeO.ite ?_ ?_)
   | (with_reducible refine LeO.bind ?_ (fun _=>?_))
   | exact ih0 _ _ _ _ _ _
   | exact ih1 _ _ _ _ _ _ _
   | exact ih2 _ _ _ _ _ _ _
   | exact jD.mono _ _ _
   | exact vH.mono _ _ _ _
   | exact LeO.none _
   | refine LeO.ite ?_ ?_
   | refine LeO.bind ?_ (fun _=>?_)
theorem qL.mono : ∀ a0 a1 a2 a3 a4 a5 k,LeO (qL.f k a0 a1 a2 a3 a4 a5) (qL.f (k + 1) a0 a1 a2 a3 a4 a5):=by
 intro a0 a1 a2 a3 a4 a5 k
 obtain ⟨ih0,ih1,ih2⟩:=qL.mono_l k
 exact ih0 a0 a1 a2 a3 a4 a5
def qL.T8 : Bool × List (List Nat × List Nat):=(true,[([],[]),([0],[0]),([1],[1]),([2],[2]),([3],[3]),([4],[4]),([5,4,4],[4,5]),([4],[4]),([6,7,4],[4,6,7]),([4],[4]),([8,9,4],[4,8,9]),([4],[4]),([11,4],[4,11]),([10,12,6,4],[4,10,12]),([13,4],[4,13]),([4,14],[4,14])])
def qL.B8 : List Nat:=[0,1,3,7,15,31,63,31,255,31,1023,31,2079,8191,16383,32767]
theorem qL.tab8 : rtab .any (opsOf Try.f41 8) = qL.T8:=by kernel_rfl
theorem qL.bits8 : Qv qL.T8.2 qL.B8 = true:=by kernel_rfl
def qL.T10 : Bool × List (List Nat × List Nat):=(true,[([],[]),([],[]),([1],[1]),([2],[2]),([3],[3]),([],[]),([],[]),([],[]),([7],[7]),([8],[8]),([6,9],[6,9]),([0,4,5,10],[0,4,5,10]),([11,11],[11]),([12],[12]),([12],[12]),([14,12],[12,14]),([15,12],[12,15]),([16,12],[12,16]),([12],[12]),([12],[12]),([19,12],[12,19]),([20,12],[12,20]),([18,21,12],[12,18,21]),([12],[12]),([13,17,22,23,12,12],[12,13,17,22,23]),([12,24],[12,24]),([25,24,0,1,2,3,4,5,6,7,8,9,10,11,12,13,14,15,16,17,18,19,20,21,22,23,24,25],[25])])
def qL.B10 : List Nat:=[0,0,2,6,14,0,0,0,128,384,960,2047,4095,8191,8191,24575,57343,122879,8191,8191,532479,1581055,3940351,8191,16777215,33554431,67108863]
theorem qL.tab10 : rtab .any (opsOf Try.f41 10) = qL.T10:=by kernel_rfl
theorem qL.bits10 : Qv qL.T10.2 qL.B10 = true:=by kernel_rfl
set_option maxHeartbeats 8000000 in
set_option maxRecDepth 100000 in
theorem qL.calls (k : Nat) : ∀ (A0_0 : Option Addr) (c0_0 : Nat) (l0_0 : List (S58)) (a1_0 : Int) (a1_1 : Int) (A1_2 : Option Addr) (c1_2 : Nat) (l1_2 : List (S28)) (a2 : Int) (a3 : Int) (r : Bool) (w : World) (hr0_0 : Kd.C k58 w A0_0 l0_0.length l0_0) (hc0_0 : l0_0.length ≤ c0_0) (hr1_2 : Kd.C k28 w A1_2 l1_2.length l1_2) (hc1_2 : l1_2.length ≤ c1_2) (h : qL.f k l0_0 a1_0 a1_1 l1_2 a2 a3 = some r),
  Calls Try.prog 41 #[.agg #[.slice A0_0 l0_0.length c0_0],.agg #[.int .i64 a1_0,.int .i64 a1_1,.slice A1_2 l1_2.length c1_2],.int .i64 a2,.int .i64 a3] w fun e w'=>e = .returned (.bool r)∧Below w.heap.size w w':=by
 induction k using Nat.strongRecOn with
 | _ k ih =>
 intro A0_0 c0_0 l0_0 a1_0 a1_1 A1_2 c1_2 l1_2 a2 a3 r w hr0_0 hc0_0 hr1_2 hc1_2 h
 cases k with
 | zero=>exact absurd h (by simp [qL.f])
 | succ k =>
 simp only [qL.f] at h
 have hu25:=Try.underlying25
 have hu28:=Try.underlying28
 have HR0_0:=qA.mk hr0_0
 have HC0_0:=qA.mk hc0_0
 clear hr0_0 hc0_0
 have HR1_2:=qA.mk hr1_2
 have HC1_2:=qA.mk hc1_2
 clear hr1_2 hc1_2
 have HB:=qA.mk (Below.refl w.heap.size w)
 have H:=h
 clear h
 have HC5:=qA.mk H
 clear H
 go_enter Try.func41,Try.ntmps41
 go_upto_region 1 with (first|((with_reducible refine qP (N:=4) rfl ?_);(try (refine Ql (by rfl) ?_;dsimp only));refine zV (N:=4) (cs:=#[.slice A0_0 l0_0.length c0_0]) (t:=25) ?_;intro gb248 hg w6 hbox hb;have n_:=q_4 (qC byab hb) (hbox) ((byck : w.heap.size ≤ gb248)) ((byck : w.heap.size ≤ gb248));clear HB;obtain ⟨HB,BK248,GW248,GE248⟩:=n_;clear hb hbox hg)|((with_reducible refine qP (N:=5) rfl ?_);(try (refine Ql (by rfl) ?_;dsimp only));refine zV (N:=5) (cs:=#[.int .i64 a1_0,.int .i64 a1_1,.slice A1_2 l1_2.length c1_2]) (t:=28) ?_;intro gb249 hg w7 hbox hb;have n_:=q_6 (qH BK248.out hb) (qC (byad GE248.out) hb) (hbox) ((bycl GE248.out : w.heap.size ≤ gb249)) ((bycl GE248.out : w.heap.size ≤ gb249)) ((by rw [hg];exact Nat.ne_of_lt (vF BK248.out) : gb248≠gb249));clear BK248 HB;obtain ⟨BK248,HB,BK249,GW249,GE249,NB248_249⟩:=n_;have NB249_248:=ns NB248_249;clear hb hbox hg))
 (try simp only [Act.put,List.setIfInBounds_toArray,List.set_cons_zero,List.set_cons_succ])
 go_cut [9] (fun v9 wc=>∃ (kq : Nat) (x9_4 : Bool),v9 = .bool x9_4∧qA (qL.j0 kq a2 a3 x9_4 l0_0 a1_0 a1_1 l1_2 = some r)∧qA (kq ≤ k)∧qA (wc.heap[gb248]? = some (.cells #[(.slice A0_0 l0_0.length c0_0)] 25 (0,0)))∧qA (wc.heap[gb249]? = some (.cells #[.int .i64 a1_0,.int .i64 a1_1,(.slice A1_2 l1_2.length c1_2)] 28 (0,0)))∧qA (Below w.heap.size w wc))
 case first =>
  have H:=HC5.out
  clear HC5
  by_cases c8 : a1_1 = 0
  ·rw [if_pos c8] at H
   obtain ⟨c8b0,c8b1⟩:=eqT c8
   clear c8
   (first|rw [c8b0]|(simp only [Qe,Qh];rw [c8b0])|skip)
   have H':=qA.mk H
   clear H
   have hnb9:=NB249_248.out
   have hnc9:=NB248_249.out
   obtain ⟨hcz10_0,hcz10_1,hcz10_2,hfz10_0,hfz10_1,hfz10_2⟩:=cz3 BK249.out
   go_wp2
   go_meet
   case rel=>exact ⟨_,(((l1_2.length : Int) == 0)),byae,H',⟨byap⟩,⟨byaf BK248.out⟩,⟨byaf BK249.out⟩,⟨byaj GE248.out GE249.out⟩⟩
  ·rw [if_neg c8] at H
   obtain ⟨c8b0,c8b1⟩:=eqF c8
   (first|rw [c8b0]|(simp only [Qe,Qh];rw [c8b0])|skip)
   have H':=qA.mk H
   clear H
   have hnb11:=NB249_248.out
   have hnc11:=NB248_249.out
   obtain ⟨hcz12_0,hcz12_1,hcz12_2,hfz12_0,hfz12_1,hfz12_2⟩:=cz3 BK249.out
   go_wp2
   go_meet
   case rel=>exact ⟨_,(false),byae,H',⟨byap⟩,⟨byaf BK248.out⟩,⟨byaf BK249.out⟩,⟨byaj GE248.out GE249.out⟩⟩
 case rest =>
  clear HC5
  obtain ⟨kq,x9_4,rfl,HA,HJ4,BK248,BK249,HB⟩:=hcut
  cases kq with
  | zero=>exact absurd HA.out (by simp [qL.j0])
  | succ kj4 =>
   have H:=HA.out
   clear HA
   simp only [qL.j0] at H
   by_cases c13 : a1_0 = 1
   ·rw [if_pos c13] at H
    obtain ⟨c13b0,c13b1⟩:=eqT c13
    clear c13
    by_cases c14 : x9_4 = true
    ·subst c14
     rw [if_pos rfl] at H
     replace H:=Option.bind_eq_some_iff.mp H
     obtain ⟨t250,A150,H⟩:=H
     try dsimp only at H
     have A15:=qA.mk A150
     clear A150
     obtain rfl:=Option.some.inj H
     have hnb16:=NB249_248.out
     have hnc16:=NB248_249.out
     obtain ⟨hcz17_0,hcz17_1,hcz17_2,hfz17_0,hfz17_1,hfz17_2⟩:=cz3 BK249.out
     obtain ⟨hcz18_0,hfz18_0⟩:=cz1 BK248.out
     go_wp2_with (first|(go_at_call 59;(with_reducible refine (vH.calls kj4 _ _ l0_0 a2 a3 t250 _ ?side1 ?side2 A15.out).mono ?_);(case side1=>exact byaq HR0_0.out);(case side2=>exact HC0_0.out);rintro e w19 ⟨rfl,hb⟩;have n_:=q_3 (qH BK248.out hb) (qH BK249.out hb) (qC (byaj GE248.out GE249.out) hb);clear BK248 BK249 HB;obtain ⟨BK248,BK249,HB⟩:=n_;clear hb))
     go_ret
     exact ⟨byac,byaj GE248.out GE249.out⟩
    ·replace c14:=Bool.eq_false_iff.mpr c14
     subst c14
     rw [if_neg (show ¬ (false = true) by decide)] at H
     obtain rfl:=Option.some.inj H
     have hnb20:=NB249_248.out
     have hnc20:=NB248_249.out
     obtain ⟨hcz21_0,hcz21_1,hcz21_2,hfz21_0,hfz21_1,hfz21_2⟩:=cz3 BK249.out
     go_wp2
     go_ret
     exact ⟨byac,byaj GE248.out GE249.out⟩
   ·rw [if_neg c13] at H
    obtain ⟨c13b0,c13b1⟩:=eqF c13
    by_cases c22 : a1_0 = 2
    ·rw [if_pos c22] at H
     obtain ⟨c22b0,c22b1⟩:=eqT c22
     clear c22
     by_cases c23 : x9_4 = true
     ·subst c23
      rw [if_pos rfl] at H
      replace H:=Option.bind_eq_some_iff.mp H
      obtain ⟨t251,A240,H⟩:=H
      try dsimp only at H
      have A24:=qA.mk A240
      clear A240
      obtain rfl:=Option.some.inj H
      have hnb25:=NB249_248.out
      have hnc25:=NB248_249.out
      obtain ⟨hcz26_0,hcz26_1,hcz26_2,hfz26_0,hfz26_1,hfz26_2⟩:=cz3 BK249.out
      obtain ⟨hcz27_0,hfz27_0⟩:=cz1 BK248.out
      go_wp2_with (first|(go_at_call 60;(with_reducible refine (jD.calls kj4 _ _ l0_0 a2 t251 _ ?side1 ?side2 A24.out).mono ?_);(case side1=>exact byaq HR0_0.out);(case side2=>exact HC0_0.out);rintro e w28 ⟨rfl,hb⟩;have n_:=q_3 (qH BK248.out hb) (qH BK249.out hb) (qC (byaj GE248.out GE249.out) hb);clear BK248 BK249 HB;obtain ⟨BK248,BK249,HB⟩:=n_;clear hb))
      go_ret
      exact ⟨byac,byaj GE248.out GE249.out⟩
     ·replace c23:=Bool.eq_false_iff.mpr c23
      subst c23
      rw [if_neg (show ¬ (false = true) by decide)] at H
      obtain rfl:=Option.some.inj H
      have hnb29:=NB249_248.out
      have hnc29:=NB248_249.out
      obtain ⟨hcz30_0,hcz30_1,hcz30_2,hfz30_0,hfz30_1,hfz30_2⟩:=cz3 BK249.out
      go_wp2
      go_ret
      exact ⟨byac,byaj GE248.out GE249.out⟩
    ·rw [if_neg c22] at H
     obtain ⟨c22b0,c22b1⟩:=eqF c22
     by_cases c31 : a1_0 = 3
     ·rw [if_pos c31] at H
      obtain ⟨c31b0,c31b1⟩:=eqT c31
      clear c31
      have HC32:=qA.mk H
      clear H
      have hnb33:=NB249_248.out
      have hnc33:=NB248_249.out
      obtain ⟨hcz34_0,hcz34_1,hcz34_2,hfz34_0,hfz34_1,hfz34_2⟩:=cz3 BK249.out
      go_upto_region 8 with (fail)
      go_cut [55] (fun v55 wc=>∃ (kq : Nat) (x55_31 : Bool),v55 = .bool x55_31∧qA (qL.j1 kq a2 a3 x55_31 l0_0 a1_0 a1_1 l1_2 = some r)∧qA (kq ≤ kj4)∧qA (wc.heap[gb248]? = some (.cells #[(.slice A0_0 l0_0.length c0_0)] 25 (0,0)))∧qA (wc.heap[gb249]? = some (.cells #[.int .i64 a1_0,.int .i64 a1_1,(.slice A1_2 l1_2.length c1_2)] 28 (0,0)))∧qA (Below w.heap.size w wc))
      case first =>
       have H:=HC32.out
       clear HC32
       by_cases c35 : (l1_2.length : Int) = 2
       ·rw [if_pos c35] at H
        obtain ⟨c35b0,c35b1⟩:=eqT c35
        clear c35
        (first|rw [c35b0]|(simp only [Qe,Qh];rw [c35b0])|skip)
        replace H:=Option.bind_eq_some_iff.mp H
        obtain ⟨t252,A360,H⟩:=H
        try dsimp only at H
        have A36:=qA.mk A360
        clear A360
        replace H:=Option.bind_eq_some_iff.mp H
        obtain ⟨t253,A370,H⟩:=H
        try dsimp only at H
        have A37:=qA.mk A370
        clear A370
        have H':=qA.mk H
        clear H
        try go_wp2
        have n_:=q_3 (qG BK248.out) (qG BK249.out) (vI HB.out)
        clear BK248 BK249 HB
        obtain ⟨BK248,BK249,HB⟩:=n_
        refine Qm (n:=16) (S:=fun w'=>w'.cell? ⟨gb249,0,none⟩ = some (.int .i64 a1_0)∧w'.cell? ⟨gb249,1,none⟩ = some (.int .i64 a1_1)∧w'.cell? ⟨gb249,2,none⟩ = some (.slice A1_2 l1_2.length c1_2)∧w'.cell? ⟨gb248,0,none⟩ = some (.slice A0_0 l0_0.length c0_0)) (ds:=[]) (bb 16 0) (by kernel_rfl) rfl rfl ⟨(qN BK249.out 0).trans rfl,(qN BK249.out 1).trans rfl,(qN BK249.out 2).trans rfl,(qN BK248.out 0).trans rfl⟩ (fun hHeld=>?_);refine Qb qL.tab8 qL.bits8 (fun HT_ HW_=>?_)
        generalize wc.drew = w38 at BK248 BK249 HB hHeld ⊢
        refine zH (i:=0) (N:=some 40) (bb 16 1) ?_
        refine takeZD (i:=1) (N:=some 41) (bb 16 3) hHeld ?_
        refine zH (i:=2) (N:=some 42) (bb 16 7) ?_
        refine zH (i:=3) (N:=some 43) (bb 16 15) ?_
        refine zH (i:=4) (N:=some 44) (bb 16 31) ?_
        refine zH (i:=7) (N:=some 47) (bb 16 159) ?_
        refine zH (i:=9) (N:=some 49) (bb 16 671) ?_
        refine zH (i:=11) (N:=some 51) (bb 16 2719) ?_
        refine takeZD (i:=5) (N:=some 45) (bb 16 2751) hHeld ?_
        refine takeZD (i:=12) (N:=some 52) (bb 16 6847) hHeld ?_
        refine one_ (i:=6) (N:=some 46) (bb 16 6911) rfl rfl (kC HT_.out (by kernel_rfl)) (by decide) (fun K hK=>?_)
        refine Qg Try.func53 (by kernel_rfl) rfl #[.agg #[.slice A0_0 l0_0.length c0_0]] (by rfl) rfl rfl byah ?_
        with_reducible refine (vK.calls _ _ l0_0 t252 _ ?side1 ?side2 A36.out).mono ?_
        (case side1=>exact byaq HR0_0.out)
        (case side2=>exact HC0_0.out)
        rintro e w39 ⟨rfl,hb⟩
        refine ⟨_,rfl,?_⟩
        have n_:=q_3 (qH BK248.out hb) (qH BK249.out hb) (qC (byaj GE248.out GE249.out) hb)
        clear BK248 BK249 HB
        obtain ⟨BK248,BK249,HB⟩:=n_
        (try clear hb)
        (try clear hb2)
        (try clear hk)
        (try clear hi)
        refine hK.out _ _ ⟨(qN BK249.out 0).trans rfl,(qN BK249.out 1).trans rfl,(qN BK249.out 2).trans rfl,(qN BK248.out 0).trans rfl⟩ (fun hHeld=>?_)
        clear hK K
        refine kN (N:=some 46) ?_
        refine zH (i:=8) (N:=some 48) (bb 16 7167) ?_
        refine zH (i:=10) (N:=some 50) (bb 16 8191) ?_
        refine one_ (i:=13) (N:=some 53) (bb 16 16383) rfl rfl (kC HT_.out (by kernel_rfl)) (by decide) (fun K hK=>?_)
        refine Qg Try.func62 (by kernel_rfl) rfl #[.int .i64 (Go.bits .andNot .i64 (Go.bits .andNot .i64 t252 a2) a3),.int .i64 a1_1] (by rfl) rfl rfl byah ?_
        with_reducible refine (kR.calls (Go.bits .andNot .i64 (Go.bits .andNot .i64 t252 a2) a3) a1_1 t253 _ A37.out).mono ?_
        rintro e w' ⟨rfl,⟨nd,rfl⟩⟩
        refine ⟨_,rfl,?_⟩
        refine hK.out _ _ ⟨(qN BK249.out 0).trans rfl,(qN BK249.out 1).trans rfl,(qN BK249.out 2).trans rfl,(qN BK248.out 0).trans rfl⟩ (fun hHeld=>?_)
        clear hK K
        refine kN (N:=some 53) ?_
        refine zH (i:=14) (N:=some 54) (bb 16 32767) ?_
        refine zH (i:=15) (N:=some 55) (bb 16 65535) ?_
        refine Ze (Qz HT_.out (by kernel_rfl)) ?_
        try go_wp2
        go_meet
        case rel=>exact ⟨_,(!t253),byae,H',⟨by have:=HJ4.out;first|omega|exact Nat.le_refl _⟩,⟨byaf BK248.out⟩,⟨byaf BK249.out⟩,⟨byaj GE248.out GE249.out⟩⟩
       ·rw [if_neg c35] at H
        obtain ⟨c35b0,c35b1⟩:=eqF c35
        (first|rw [c35b0]|(simp only [Qe,Qh];rw [c35b0])|skip)
        have H':=qA.mk H
        clear H
        try go_wp2
        have n_:=q_3 (qG BK248.out) (qG BK249.out) (vI HB.out)
        clear BK248 BK249 HB
        obtain ⟨BK248,BK249,HB⟩:=n_
        refine Qm (n:=16) (S:=fun w'=>w'.cell? ⟨gb249,0,none⟩ = some (.int .i64 a1_0)∧w'.cell? ⟨gb249,1,none⟩ = some (.int .i64 a1_1)∧w'.cell? ⟨gb249,2,none⟩ = some (.slice A1_2 l1_2.length c1_2)) (ds:=[]) (bb 16 0) (by kernel_rfl) rfl rfl (cv3 BK249.out) (fun hHeld=>?_);refine Qb qL.tab8 qL.bits8 (fun HT_ HW_=>?_)
        generalize wc.drew = w40 at BK248 BK249 HB hHeld ⊢
        refine zH (i:=0) (N:=some 40) (bb 16 1) ?_
        refine takeZE (i:=1) (N:=some 41) (bb 16 3) hHeld ?_
        refine zH (i:=2) (N:=some 42) (bb 16 7) ?_
        refine zH (i:=3) (N:=some 43) (bb 16 15) ?_
        refine zH (i:=4) (N:=some 44) (bb 16 31) ?_
        refine Q9 (i:=5) (N:=some 45) (bb 16 63) ?_
        refine Q9 (i:=6) (N:=some 46) (bb 16 127) ?_
        refine Q9 (i:=7) (N:=some 47) (bb 16 255) ?_
        refine Q9 (i:=8) (N:=some 48) (bb 16 511) ?_
        refine Q9 (i:=9) (N:=some 49) (bb 16 1023) ?_
        refine Q9 (i:=10) (N:=some 50) (bb 16 2047) ?_
        refine Q9 (i:=11) (N:=some 51) (bb 16 4095) ?_
        refine Q9 (i:=12) (N:=some 52) (bb 16 8191) ?_
        refine Q9 (i:=13) (N:=some 53) (bb 16 16383) ?_
        refine Q9 (i:=14) (N:=some 54) (bb 16 32767) ?_
        refine zH (i:=15) (N:=some 55) (bb 16 65535) ?_
        refine Ze (Qz HT_.out (by kernel_rfl)) ?_
        try go_wp2
        go_meet
        case rel=>exact ⟨_,(true),byae,H',⟨by have:=HJ4.out;first|omega|exact Nat.le_refl _⟩,⟨byaf BK248.out⟩,⟨byaf BK249.out⟩,⟨byaj GE248.out GE249.out⟩⟩
      case rest =>
       clear HC32
       obtain ⟨kq,x55_31,rfl,HA,HJ31,BK248,BK249,HB⟩:=hcut
       cases kq with
       | zero=>exact absurd HA.out (by simp [qL.j1])
       | succ kj31 =>
        have H:=HA.out
        clear HA
        simp only [qL.j1] at H
        by_cases c41 : x55_31 = true
        ·subst c41
         rw [if_pos rfl] at H
         obtain rfl:=Option.some.inj H
         go_wp2
         go_ret
         exact ⟨byac,byaj GE248.out GE249.out⟩
        ·replace c41:=Bool.eq_false_iff.mpr c41
         subst c41
         rw [if_neg (show ¬ (false = true) by decide)] at H
         by_cases c42 : 0 < (l1_2.length : Int)
         ·rw [if_pos c42] at H
          have c42b0:=decide_eq_true c42
          have c42b1 : decide (0 < l1_2.length) = true:=decide_eq_true (by omega)
          clear c42
          by_cases c43 : 0 ≤ a1_1
          ·rw [if_pos c43] at H
           have c43b0:=eq_true c43
           have c43b1:=decide_eq_true c43
           clear c43
           obtain ⟨ji44,hji44⟩ : ∃ j_ : Int,(shl .i64 1 a1_1) = j_:=⟨_,rfl⟩
           (first|rw [hji44] at H|(simp only [hji44] at H))
           obtain ⟨hji44_,hji44z,hji44u,hji44v,hji44y,hji44x⟩:=jiA hji44
           replace H:=Option.bind_eq_some_iff.mp H
           obtain ⟨t255,A450,H⟩:=H
           try dsimp only at H
           have A45:=qA.mk A450
           clear A450
           by_cases c46 : t255 = true
           ·subst c46
            rw [if_pos rfl] at H
            by_cases c47 : 1 < (l1_2.length : Int)
            ·rw [if_pos c47] at H
             have c47b0:=decide_eq_true c47
             have c47b1 : decide (1 < l1_2.length) = true:=decide_eq_true (by omega)
             clear c47
             have c48b0:=eq_true (of_decide_eq_true byag : 0 ≤ a1_1)
             replace H:=Option.bind_eq_some_iff.mp H
             obtain ⟨t257,A500,H⟩:=H
             try dsimp only at H
             have A50:=qA.mk A500
             clear A500
             obtain rfl:=Option.some.inj H
             try go_wp2
             have n_:=q_3 (qG BK248.out) (qG BK249.out) (vI HB.out)
             clear BK248 BK249 HB
             obtain ⟨BK248,BK249,HB⟩:=n_
             have p254 : 0 ≤ (0 : Int):=(by omega)
             have q254 : 0 < (l1_2.length : Int):=of_decide_eq_true byag
             obtain ⟨ad254,A254_2,c254_2,e254,hx254_0,hx254_1,hx254_2,hl254_2,hi254_2⟩:=at_T28 HR1_2.out 0 p254 q254
             have hw254_2:=hx254_2
             (try rw [show ((0 : Int)).toNat = 0 from rfl] at hw254_2)
             (try rw [show 0 * 3 = 0 from rfl] at hw254_2)
             (try rw [Addr.add_zero'] at hw254_2)
             have hw254_1:=hx254_1
             (try rw [show ((0 : Int)).toNat = 0 from rfl] at hw254_1)
             (try rw [show 0 * 3 = 0 from rfl] at hw254_1)
             (try rw [Addr.add_zero'] at hw254_1)
             have hw254_0:=hx254_0
             (try rw [show ((0 : Int)).toNat = 0 from rfl] at hw254_0)
             (try rw [show 0 * 3 = 0 from rfl] at hw254_0)
             (try rw [Addr.add_zero'] at hw254_0)
             cases e254
             have qi254 : (0 < l1_2.length) = True:=eq_true (by omega)
             (try rw [show ((0 : Int)).toNat = 0 from rfl] at hx254_0)
             (try rw [show 0 * 3 = 0 from rfl] at hx254_0)
             (try rw [Addr.add_zero'] at hx254_0)
             (try rw [show ((0 : Int)).toNat = 0 from rfl] at hx254_1)
             (try rw [show 0 * 3 = 0 from rfl] at hx254_1)
             (try rw [Addr.add_zero'] at hx254_1)
             (try rw [show ((0 : Int)).toNat = 0 from rfl] at hx254_2)
             (try rw [show 0 * 3 = 0 from rfl] at hx254_2)
             (try rw [Addr.add_zero'] at hx254_2)
             replace hx254_0:=(HB.out.cell (World.block_lt_of_cell? w _ hx254_0)).trans hx254_0
             replace hx254_1:=(HB.out.cell (World.block_lt_of_cell? w _ hx254_1)).trans hx254_1
             replace hx254_2:=(HB.out.cell (World.block_lt_of_cell? w _ hx254_2)).trans hx254_2
             have HR254_2:=qA.mk hi254_2
             have HC254_2:=qA.mk hl254_2
             clear hi254_2 hl254_2
             replace p254:=eq_true p254
             replace q254:=eq_true q254
             have p256 : 0 ≤ (1 : Int):=(by omega)
             have q256 : 1 < (l1_2.length : Int):=of_decide_eq_true byag
             obtain ⟨ad256,A256_2,c256_2,e256,hx256_0,hx256_1,hx256_2,hl256_2,hi256_2⟩:=at_T28 HR1_2.out 1 p256 q256
             have hw256_2:=hx256_2
             (try rw [show ((1 : Int)).toNat = 1 from rfl] at hw256_2)
             (try rw [show 1 * 3 = 3 from rfl] at hw256_2)
             (try simp only [Nat.reduceMul,Nat.reduceEqDiff,Go.Addr.add,↓reduceIte] at hw256_2)
             have hw256_1:=hx256_1
             (try rw [show ((1 : Int)).toNat = 1 from rfl] at hw256_1)
             (try rw [show 1 * 3 = 3 from rfl] at hw256_1)
             (try simp only [Nat.reduceMul,Nat.reduceEqDiff,Go.Addr.add,↓reduceIte] at hw256_1)
             have hw256_0:=hx256_0
             (try rw [show ((1 : Int)).toNat = 1 from rfl] at hw256_0)
             (try rw [show 1 * 3 = 3 from rfl] at hw256_0)
             (try simp only [Nat.reduceMul,Nat.reduceEqDiff,Go.Addr.add,↓reduceIte] at hw256_0)
             obtain rfl : ad254 = ad256:=(by injection e256)
             (try simp only [show (1 : Int).toNat = 1 from rfl,Nat.reduceMul,Nat.reduceEqDiff,Go.Addr.add,↓reduceIte] at hx256_0)
             (try simp only [show (1 : Int).toNat = 1 from rfl,Nat.reduceMul,Nat.reduceEqDiff,Go.Addr.add,↓reduceIte] at hx256_1)
             (try simp only [show (1 : Int).toNat = 1 from rfl,Nat.reduceMul,Nat.reduceEqDiff,Go.Addr.add,↓reduceIte] at hx256_2)
             have qi256 : (1 < l1_2.length) = True:=eq_true (by omega)
             (try rw [show ((1 : Int)).toNat = 1 from rfl] at hx256_0)
             (try rw [show 1 * 3 = 3 from rfl] at hx256_0)
             (try rw [show ((1 : Int)).toNat = 1 from rfl] at hx256_1)
             (try rw [show 1 * 3 = 3 from rfl] at hx256_1)
             (try rw [show ((1 : Int)).toNat = 1 from rfl] at hx256_2)
             (try rw [show 1 * 3 = 3 from rfl] at hx256_2)
             replace hx256_0:=(HB.out.cell (World.block_lt_of_cell? w _ hx256_0)).trans hx256_0
             replace hx256_1:=(HB.out.cell (World.block_lt_of_cell? w _ hx256_1)).trans hx256_1
             replace hx256_2:=(HB.out.cell (World.block_lt_of_cell? w _ hx256_2)).trans hx256_2
             have HR256_2:=qA.mk hi256_2
             have HC256_2:=qA.mk hl256_2
             clear hi256_2 hl256_2
             replace p256:=eq_true p256
             replace q256:=eq_true q256
             refine Qm (n:=27) (S:=fun w'=>w'.cell? ⟨gb248,0,none⟩ = some (.slice A0_0 l0_0.length c0_0)∧w'.cell? ⟨gb249,0,none⟩ = some (.int .i64 a1_0)∧w'.cell? ⟨gb249,1,none⟩ = some (.int .i64 a1_1)∧w'.cell? ⟨gb249,2,none⟩ = some (.slice (some ad254) l1_2.length c1_2)∧w'.cell? ad254 = some (.int .i64 ((zJ l1_2 0).f0))∧w'.cell? ⟨ad254.block,ad254.off + 1,none⟩ = some (.int .i64 ((zJ l1_2 0).f1))∧w'.cell? ⟨ad254.block,ad254.off + 2,none⟩ = some (.slice A254_2 ((zJ l1_2 0).f2).length c254_2)∧w'.cell? ⟨ad254.block,ad254.off + 3,none⟩ = some (.int .i64 ((zJ l1_2 1).f0))∧w'.cell? ⟨ad254.block,ad254.off + 3 + 1,none⟩ = some (.int .i64 ((zJ l1_2 1).f1))∧w'.cell? ⟨ad254.block,ad254.off + 3 + 2,none⟩ = some (.slice A256_2 ((zJ l1_2 1).f2).length c256_2)) (ds:=[]) (bb 27 0) (by kernel_rfl) rfl rfl ⟨(qN BK248.out 0).trans rfl,(qN BK249.out 0).trans rfl,(qN BK249.out 1).trans rfl,(qN BK249.out 2).trans rfl,((HB.out.cell (World.block_lt_of_cell? w _ hw254_0)).trans hw254_0),((HB.out.cell (World.block_lt_of_cell? w _ hw254_1)).trans hw254_1),((HB.out.cell (World.block_lt_of_cell? w _ hw254_2)).trans hw254_2),((HB.out.cell (World.block_lt_of_cell? w _ hw256_0)).trans hw256_0),((HB.out.cell (World.block_lt_of_cell? w _ hw256_1)).trans hw256_1),((HB.out.cell (World.block_lt_of_cell? w _ hw256_2)).trans hw256_2)⟩ (fun hHeld=>?_);refine Qb qL.tab10 qL.bits10 (fun HT_ HW_=>?_)
             generalize wc.drew = w51 at BK248 BK249 HB HR254_2 HR256_2 hx254_0 hx254_1 hx254_2 hx256_0 hx256_1 hx256_2 hHeld ⊢
             refine zH (i:=1) (N:=some 57) (bb 27 2) ?_
             refine zH (i:=5) (N:=some 61) (bb 27 34) ?_
             refine zH (i:=6) (N:=some 62) (bb 27 98) ?_
             refine zH (i:=7) (N:=some 63) (bb 27 226) ?_
             refine takeZF (i:=0) (N:=some 56) (bb 27 227) hHeld ?_
             refine takeZF (i:=2) (N:=some 58) (bb 27 231) hHeld ?_
             refine zH (i:=3) (N:=some 59) (bb 27 239) ?_
             refine takeZF (i:=4) (N:=some 60) (bb 27 255) hHeld ?_
             refine takeZF (i:=8) (N:=some 64) (bb 27 511) hHeld ?_
             refine zH (i:=9) (N:=some 65) (bb 27 1023) ?_
             refine zH (i:=10) (N:=some 66) (bb 27 2047) ?_
             refine one_ (i:=11) (N:=some 67) (bb 27 4095) rfl rfl (kC HT_.out (by kernel_rfl)) (by decide) (fun K hK=>?_)
             refine Qg Try.func41 (by kernel_rfl) rfl #[.agg #[.slice A0_0 l0_0.length c0_0],.agg #[.int .i64 ((zJ l1_2 0).f0),.int .i64 ((zJ l1_2 0).f1),.slice A254_2 ((zJ l1_2 0).f2).length c254_2],.int .i64 a2,.int .i64 (Go.bits .or .i64 a3 (ji44))] (by rfl) rfl rfl bybc ?_
             with_reducible refine (ih kj31 (by have:=HJ4.out;have:=HJ31.out;omega) _ _ l0_0 ((zJ l1_2 0).f0) ((zJ l1_2 0).f1) _ _ ((zJ l1_2 0).f2) a2 (Go.bits .or .i64 a3 (ji44)) true _ ?side1 ?side2 ?side3 ?side4 A45.out).mono ?_
             (case side1=>exact byaq HR0_0.out)
             (case side2=>exact HC0_0.out)
             (case side3=>exact byaq HR254_2.out)
             (case side4=>exact HC254_2.out)
             rintro e w52 ⟨rfl,hb⟩
             refine ⟨_,rfl,?_⟩
             have n_:=q_3 (qH BK248.out hb) (qH BK249.out hb) (qC (byaj GE248.out GE249.out) hb)
             clear BK248 BK249 HB
             obtain ⟨BK248,BK249,HB⟩:=n_
             (try clear hb)
             (try clear hb2)
             (try clear hk)
             (try clear hi)
             refine hK.out _ _ ⟨(qN BK248.out 0).trans rfl,(qN BK249.out 0).trans rfl,(qN BK249.out 1).trans rfl,(qN BK249.out 2).trans rfl,((HB.out.cell (World.block_lt_of_cell? w _ hw254_0)).trans hw254_0),((HB.out.cell (World.block_lt_of_cell? w _ hw254_1)).trans hw254_1),((HB.out.cell (World.block_lt_of_cell? w _ hw254_2)).trans hw254_2),((HB.out.cell (World.block_lt_of_cell? w _ hw256_0)).trans hw256_0),((HB.out.cell (World.block_lt_of_cell? w _ hw256_1)).trans hw256_1),((HB.out.cell (World.block_lt_of_cell? w _ hw256_2)).trans hw256_2)⟩ (fun hHeld=>?_)
             clear hK K
             refine kN (N:=some 67) ?_
             refine zH (i:=12) (N:=some 68) (bb 27 8191) ?_
             refine zH (i:=14) (N:=some 70) (bb 27 24575) ?_
             refine zH (i:=18) (N:=some 74) (bb 27 286719) ?_
             refine zH (i:=19) (N:=some 75) (bb 27 811007) ?_
             refine zH (i:=23) (N:=some 79) (bb 27 9199615) ?_
             refine takeZF (i:=13) (N:=some 69) (bb 27 9207807) hHeld ?_
             refine takeZF (i:=15) (N:=some 71) (bb 27 9240575) hHeld ?_
             refine zH (i:=16) (N:=some 72) (bb 27 9306111) ?_
             refine takeZF (i:=17) (N:=some 73) (bb 27 9437183) hHeld ?_
             refine takeZF (i:=20) (N:=some 76) (bb 27 10485759) hHeld ?_
             refine zH (i:=21) (N:=some 77) (bb 27 12582911) ?_
             refine zH (i:=22) (N:=some 78) (bb 27 16777215) ?_
             refine one_ (i:=24) (N:=some 80) (bb 27 33554431) rfl rfl (kC HT_.out (by kernel_rfl)) (by decide) (fun K hK=>?_)
             refine Qg Try.func41 (by kernel_rfl) rfl #[.agg #[.slice A0_0 l0_0.length c0_0],.agg #[.int .i64 ((zJ l1_2 1).f0),.int .i64 ((zJ l1_2 1).f1),.slice A256_2 ((zJ l1_2 1).f2).length c256_2],.int .i64 (Go.bits .or .i64 a2 (ji44)),.int .i64 a3] (by rfl) rfl rfl bybc ?_
             with_reducible refine (ih kj31 (by have:=HJ4.out;have:=HJ31.out;omega) _ _ l0_0 ((zJ l1_2 1).f0) ((zJ l1_2 1).f1) _ _ ((zJ l1_2 1).f2) (Go.bits .or .i64 a2 (ji44)) a3 t257 _ ?side1 ?side2 ?side3 ?side4 A50.out).mono ?_
             (case side1=>exact byaq HR0_0.out)
             (case side2=>exact HC0_0.out)
             (case side3=>exact byaq HR256_2.out)
             (case side4=>exact HC256_2.out)
             rintro e w53 ⟨rfl,hb⟩
             refine ⟨_,rfl,?_⟩
             have n_:=q_3 (qH BK248.out hb) (qH BK249.out hb) (qC (byaj GE248.out GE249.out) hb)
             clear BK248 BK249 HB
             obtain ⟨BK248,BK249,HB⟩:=n_
             (try clear hb)
             (try clear hb2)
             (try clear hk)
             (try clear hi)
             refine hK.out _ _ ⟨(qN BK248.out 0).trans rfl,(qN BK249.out 0).trans rfl,(qN BK249.out 1).trans rfl,(qN BK249.out 2).trans rfl,((HB.out.cell (World.block_lt_of_cell? w _ hw254_0)).trans hw254_0),((HB.out.cell (World.block_lt_of_cell? w _ hw254_1)).trans hw254_1),((HB.out.cell (World.block_lt_of_cell? w _ hw254_2)).trans hw254_2),((HB.out.cell (World.block_lt_of_cell? w _ hw256_0)).trans hw256_0),((HB.out.cell (World.block_lt_of_cell? w _ hw256_1)).trans hw256_1),((HB.out.cell (World.block_lt_of_cell? w _ hw256_2)).trans hw256_2)⟩ (fun hHeld=>?_)
             clear hK K
             refine kN (N:=some 80) ?_
             refine zH (i:=25) (N:=some 81) (bb 27 67108863) ?_
             refine zH (i:=26) (N:=some 8) (bb 27 134217727) ?_
             refine Ze (Qz HT_.out (by kernel_rfl)) ?_
             try go_wp2
             go_ret
             exact ⟨bybd,byaj GE248.out GE249.out⟩
            ·rw [if_neg c47] at H
             exact absurd H (by simp)
           ·replace c46:=Bool.eq_false_iff.mpr c46
            subst c46
            rw [if_neg (show ¬ (false = true) by decide)] at H
            obtain rfl:=Option.some.inj H
            try go_wp2
            have n_:=q_3 (qG BK248.out) (qG BK249.out) (vI HB.out)
            clear BK248 BK249 HB
            obtain ⟨BK248,BK249,HB⟩:=n_
            have p254 : 0 ≤ (0 : Int):=(by omega)
            have q254 : 0 < (l1_2.length : Int):=of_decide_eq_true byag
            obtain ⟨ad254,A254_2,c254_2,e254,hx254_0,hx254_1,hx254_2,hl254_2,hi254_2⟩:=at_T28 HR1_2.out 0 p254 q254
            have hw254_2:=hx254_2
            (try rw [show ((0 : Int)).toNat = 0 from rfl] at hw254_2)
            (try rw [show 0 * 3 = 0 from rfl] at hw254_2)
            (try rw [Addr.add_zero'] at hw254_2)
            have hw254_1:=hx254_1
            (try rw [show ((0 : Int)).toNat = 0 from rfl] at hw254_1)
            (try rw [show 0 * 3 = 0 from rfl] at hw254_1)
            (try rw [Addr.add_zero'] at hw254_1)
            have hw254_0:=hx254_0
            (try rw [show ((0 : Int)).toNat = 0 from rfl] at hw254_0)
            (try rw [show 0 * 3 = 0 from rfl] at hw254_0)
            (try rw [Addr.add_zero'] at hw254_0)
            cases e254
            have qi254 : (0 < l1_2.length) = True:=eq_true (by omega)
            (try rw [show ((0 : Int)).toNat = 0 from rfl] at hx254_0)
            (try rw [show 0 * 3 = 0 from rfl] at hx254_0)
            (try rw [Addr.add_zero'] at hx254_0)
            (try rw [show ((0 : Int)).toNat = 0 from rfl] at hx254_1)
            (try rw [show 0 * 3 = 0 from rfl] at hx254_1)
            (try rw [Addr.add_zero'] at hx254_1)
            (try rw [show ((0 : Int)).toNat = 0 from rfl] at hx254_2)
            (try rw [show 0 * 3 = 0 from rfl] at hx254_2)
            (try rw [Addr.add_zero'] at hx254_2)
            replace hx254_0:=(HB.out.cell (World.block_lt_of_cell? w _ hx254_0)).trans hx254_0
            replace hx254_1:=(HB.out.cell (World.block_lt_of_cell? w _ hx254_1)).trans hx254_1
            replace hx254_2:=(HB.out.cell (World.block_lt_of_cell? w _ hx254_2)).trans hx254_2
            have HR254_2:=qA.mk hi254_2
            have HC254_2:=qA.mk hl254_2
            clear hi254_2 hl254_2
            replace p254:=eq_true p254
            replace q254:=eq_true q254
            refine Qm (n:=27) (S:=fun w'=>w'.cell? ⟨gb248,0,none⟩ = some (.slice A0_0 l0_0.length c0_0)∧w'.cell? ⟨gb249,0,none⟩ = some (.int .i64 a1_0)∧w'.cell? ⟨gb249,1,none⟩ = some (.int .i64 a1_1)∧w'.cell? ⟨gb249,2,none⟩ = some (.slice (some ad254) l1_2.length c1_2)∧w'.cell? ad254 = some (.int .i64 ((zJ l1_2 0).f0))∧w'.cell? ⟨ad254.block,ad254.off + 1,none⟩ = some (.int .i64 ((zJ l1_2 0).f1))∧w'.cell? ⟨ad254.block,ad254.off + 2,none⟩ = some (.slice A254_2 ((zJ l1_2 0).f2).length c254_2)) (ds:=[]) (bb 27 0) (by kernel_rfl) rfl rfl ⟨(qN BK248.out 0).trans rfl,(qN BK249.out 0).trans rfl,(qN BK249.out 1).trans rfl,(qN BK249.out 2).trans rfl,((HB.out.cell (World.block_lt_of_cell? w _ hw254_0)).trans hw254_0),((HB.out.cell (World.block_lt_of_cell? w _ hw254_1)).trans hw254_1),((HB.out.cell (World.block_lt_of_cell? w _ hw254_2)).trans hw254_2)⟩ (fun hHeld=>?_);refine Qb qL.tab10 qL.bits10 (fun HT_ HW_=>?_)
            generalize wc.drew = w54 at BK248 BK249 HB HR254_2 hx254_0 hx254_1 hx254_2 hHeld ⊢
            refine zH (i:=1) (N:=some 57) (bb 27 2) ?_
            refine zH (i:=5) (N:=some 61) (bb 27 34) ?_
            refine zH (i:=6) (N:=some 62) (bb 27 98) ?_
            refine zH (i:=7) (N:=some 63) (bb 27 226) ?_
            refine takeZG (i:=0) (N:=some 56) (bb 27 227) hHeld ?_
            refine takeZG (i:=2) (N:=some 58) (bb 27 231) hHeld ?_
            refine zH (i:=3) (N:=some 59) (bb 27 239) ?_
            refine takeZG (i:=4) (N:=some 60) (bb 27 255) hHeld ?_
            refine takeZG (i:=8) (N:=some 64) (bb 27 511) hHeld ?_
            refine zH (i:=9) (N:=some 65) (bb 27 1023) ?_
            refine zH (i:=10) (N:=some 66) (bb 27 2047) ?_
            refine one_ (i:=11) (N:=some 67) (bb 27 4095) rfl rfl (kC HT_.out (by kernel_rfl)) (by decide) (fun K hK=>?_)
            refine Qg Try.func41 (by kernel_rfl) rfl #[.agg #[.slice A0_0 l0_0.length c0_0],.agg #[.int .i64 ((zJ l1_2 0).f0),.int .i64 ((zJ l1_2 0).f1),.slice A254_2 ((zJ l1_2 0).f2).length c254_2],.int .i64 a2,.int .i64 (Go.bits .or .i64 a3 (ji44))] (by rfl) rfl rfl bybc ?_
            with_reducible refine (ih kj31 (by have:=HJ4.out;have:=HJ31.out;omega) _ _ l0_0 ((zJ l1_2 0).f0) ((zJ l1_2 0).f1) _ _ ((zJ l1_2 0).f2) a2 (Go.bits .or .i64 a3 (ji44)) false _ ?side1 ?side2 ?side3 ?side4 A45.out).mono ?_
            (case side1=>exact byaq HR0_0.out)
            (case side2=>exact HC0_0.out)
            (case side3=>exact byaq HR254_2.out)
            (case side4=>exact HC254_2.out)
            rintro e w55 ⟨rfl,hb⟩
            refine ⟨_,rfl,?_⟩
            have n_:=q_3 (qH BK248.out hb) (qH BK249.out hb) (qC (byaj GE248.out GE249.out) hb)
            clear BK248 BK249 HB
            obtain ⟨BK248,BK249,HB⟩:=n_
            (try clear hb)
            (try clear hb2)
            (try clear hk)
            (try clear hi)
            refine hK.out _ _ ⟨(qN BK248.out 0).trans rfl,(qN BK249.out 0).trans rfl,(qN BK249.out 1).trans rfl,(qN BK249.out 2).trans rfl,((HB.out.cell (World.block_lt_of_cell? w _ hw254_0)).trans hw254_0),((HB.out.cell (World.block_lt_of_cell? w _ hw254_1)).trans hw254_1),((HB.out.cell (World.block_lt_of_cell? w _ hw254_2)).trans hw254_2)⟩ (fun hHeld=>?_)
            clear hK K
            refine kN (N:=some 67) ?_
            refine zH (i:=12) (N:=some 68) (bb 27 8191) ?_
            refine Q9 (i:=13) (N:=some 69) (bb 27 16383) ?_
            refine Q9 (i:=14) (N:=some 70) (bb 27 32767) ?_
            refine Q9 (i:=15) (N:=some 71) (bb 27 65535) ?_
            refine Q9 (i:=16) (N:=some 72) (bb 27 131071) ?_
            refine Q9 (i:=17) (N:=some 73) (bb 27 262143) ?_
            refine Q9 (i:=18) (N:=some 74) (bb 27 524287) ?_
            refine Q9 (i:=19) (N:=some 75) (bb 27 1048575) ?_
            refine Q9 (i:=20) (N:=some 76) (bb 27 2097151) ?_
            refine Q9 (i:=21) (N:=some 77) (bb 27 4194303) ?_
            refine Q9 (i:=22) (N:=some 78) (bb 27 8388607) ?_
            refine Q9 (i:=23) (N:=some 79) (bb 27 16777215) ?_
            refine Q9 (i:=24) (N:=some 80) (bb 27 33554431) ?_
            refine zH (i:=25) (N:=some 81) (bb 27 67108863) ?_
            refine zH (i:=26) (N:=some 8) (bb 27 134217727) ?_
            refine Ze (Qz HT_.out (by kernel_rfl)) ?_
            try go_wp2
            go_ret
            exact ⟨bybd,byaj GE248.out GE249.out⟩
          ·rw [if_neg c43] at H
           exact absurd H (by simp)
         ·rw [if_neg c42] at H
          exact absurd H (by simp)
     ·rw [if_neg c31] at H
      obtain ⟨c31b0,c31b1⟩:=eqF c31
      obtain rfl:=Option.some.inj H
      have hnb56:=NB249_248.out
      have hnc56:=NB248_249.out
      obtain ⟨hcz57_0,hcz57_1,hcz57_2,hfz57_0,hfz57_1,hfz57_2⟩:=cz3 BK249.out
      go_wp2
      go_ret
      exact ⟨byac,byaj GE248.out GE249.out⟩
end Go.Proofs.Ytkkbdimegpdbgaa.P
