/- Functions of the program as Lean functions, and the walks that show that the calls answer so; written by a program of this session (a changed print) and by hand. -/
import Derived.Test.YtkkbdimegpdbgaaQpPx0
import Derived.Test.YtkkbdimegpdbgaaQpPx22
namespace Go.Proofs.Ytkkbdimegpdbgaa.P
open Go.RowKit Go.Proofs.YtkkbdimegpdbgaaW.PrintWords Go.Proofs.YtkkbdimegpdbgaaW.PrintLast Go.Proofs.YtkkbdimegpdbgaaW.PrintMore
attribute [local go_sem] kK kM Qb Qc uV uU kL kN
set_option linter.unusedVariables false
set_option linter.unusedSimpArgs false
mutual
def qR.j0 : Nat→Int→Int→Bool→List (S58)→Int→Int→List (S28)→Option (Bool)
 | 0,_,_,_,_,_,_,_=>none
 | k + 1,x2,x3,x88,x664000,x665000,x665001,x665002=>if x88 = true then (some false) else (if 0 < (x665002.length : Int) then (if 0 ≤ x665001 then ((qR.f k x664000 ((jP x665002 0).f0) ((jP x665002 0).f1) ((jP x665002 0).f2) x2 (Go.bits .or .i64 x3 (shl .i64 1 x665001))).bind fun t670=>(if t670 = true then (if 1 < (x665002.length : Int) then ((qR.f k x664000 ((jP x665002 1).f0) ((jP x665002 1).f1) ((jP x665002 1).f2) (Go.bits .or .i64 x2 (shl .i64 1 x665001)) x3).bind fun t672=>(some t672)) else (none)) else (some false))) else (none)) else (none))
def qR.f : Nat→List (S58)→Int→Int→List (S28)→Int→Int→Option (Bool)
 | 0,_,_,_,_,_,_=>none
 | k + 1,l0_0,a1_0,a1_1,l1_2,a2,a3=>if a1_0 = 1 then ((vC.f l0_0).bind fun t665=>((zL.f k l0_0 (Go.bits .andNot .i64 t665 a3)).bind fun t666=>(if a1_1 = 0 then (if (l1_2.length : Int) = 0 then (if t666 = 0 then (some true) else (some ((Go.bits .and .i64 t666 a2) != a2))) else (some false)) else (some false)))) else (if a1_0 = 2 then (if a1_1 = 0 then (if (l1_2.length : Int) = 0 then ((vC.f l0_0).bind fun t667=>((zL.f k l0_0 (Go.bits .andNot .i64 t667 a2)).bind fun t668=>(some (t668 == 0)))) else (some false)) else (some false)) else (if a1_0 = 3 then (if a1_1 < 0 then (qR.j0 k a2 a3 true l0_0 a1_0 a1_1 l1_2) else (if a1_1 ≥ (l0_0.length : Int) then (qR.j0 k a2 a3 true l0_0 a1_0 a1_1 l1_2) else (if 0 ≤ a1_1 then (if (Go.bits .and .i64 (shr .i64 (Go.bits .or .i64 a2 a3) a1_1) 1) = 1 then (qR.j0 k a2 a3 true l0_0 a1_0 a1_1 l1_2) else (qR.j0 k a2 a3 ((l1_2.length : Int) != 2) l0_0 a1_0 a1_1 l1_2)) else (none)))) else (some false)))
end
def qR.T6 : Bool × List (List Nat × List Nat):=(true,[([],[]),([0],[0]),([1],[1]),([2],[2]),([3],[3]),([4,3],[3,4]),([5,3],[3,5]),([6,3],[3,6]),([3,7],[3,7]),([8,3],[8]),([9],[9]),([9],[9]),([11,9,9],[9,11]),([9],[9]),([12,13,9],[9,12,13]),([10,14,12,9],[9,10,14]),([15,9],[9,15]),([9,16],[9,16]),([17,15,0,1,2,3,4,5,6,7,8,9,10,11,12,13,14,15,16,17],[17])])
def qR.B6 : List Nat:=[0,1,3,7,15,31,63,127,255,511,1023,1023,3071,1023,15359,32767,65535,131071,262143]
theorem qR.tab6 : rtab .any (opsOf Try.f42 6) = qR.T6:=by kernel_rfl
theorem qR.bits6 : Qo qR.T6.2 qR.B6 = true:=by kernel_rfl
def qR.T10 : Bool × List (List Nat × List Nat):=(true,[([],[]),([],[]),([1],[1]),([2],[2]),([3],[3]),([],[]),([],[]),([],[]),([7],[7]),([8],[8]),([6,9],[6,9]),([0,4,5,10],[0,4,5,10]),([11,11],[11]),([12],[12]),([12],[12]),([14,12],[12,14]),([15,12],[12,15]),([16,12],[12,16]),([12],[12]),([12],[12]),([19,12],[12,19]),([20,12],[12,20]),([18,21,12],[12,18,21]),([12],[12]),([13,17,22,23,12,12],[12,13,17,22,23]),([12,24],[12,24]),([25,24,0,1,2,3,4,5,6,7,8,9,10,11,12,13,14,15,16,17,18,19,20,21,22,23,24,25],[25])])
def qR.B10 : List Nat:=[0,0,2,6,14,0,0,0,128,384,960,2047,4095,8191,8191,24575,57343,122879,8191,8191,532479,1581055,3940351,8191,16777215,33554431,67108863]
theorem qR.tab10 : rtab .any (opsOf Try.f42 10) = qR.T10:=by kernel_rfl
theorem qR.bits10 : Qo qR.T10.2 qR.B10 = true:=by kernel_rfl
set_option maxHeartbeats 8000000 in
set_option maxRecDepth 100000 in
theorem qR.calls (k : Nat) : ∀ (A0_0 : Option Addr) (c0_0 : Nat) (l0_0 : List (S58)) (a1_0 : Int) (a1_1 : Int) (A1_2 : Option Addr) (c1_2 : Nat) (l1_2 : List (S28)) (a2 : Int) (a3 : Int) (r : Bool) (w : World) (hr0_0 : Kd.C k58 w A0_0 l0_0.length l0_0) (hc0_0 : l0_0.length ≤ c0_0) (hr1_2 : Kd.C k28 w A1_2 l1_2.length l1_2) (hc1_2 : l1_2.length ≤ c1_2) (h : qR.f k l0_0 a1_0 a1_1 l1_2 a2 a3 = some r),
  Calls Try.prog 42 #[.agg #[.slice A0_0 l0_0.length c0_0],.agg #[.int .i64 a1_0,.int .i64 a1_1,.slice A1_2 l1_2.length c1_2],.int .i64 a2,.int .i64 a3] w fun e w'=>e = .returned (.bool r)∧Below w.heap.size w w':=by
 induction k using Nat.strongRecOn with
 | _ k ih =>
 intro A0_0 c0_0 l0_0 a1_0 a1_1 A1_2 c1_2 l1_2 a2 a3 r w hr0_0 hc0_0 hr1_2 hc1_2 h
 cases k with
 | zero=>exact absurd h (by simp [qR.f])
 | succ k =>
 simp only [qR.f] at h
 have hu25:=Try.underlying25
 have hu28:=Try.underlying28
 have HR0_0:=qA.mk hr0_0
 have HC0_0:=qA.mk hc0_0
 clear hr0_0 hc0_0
 have HR1_2:=qA.mk hr1_2
 have HC1_2:=qA.mk hc1_2
 clear hr1_2 hc1_2
 have HB:=qA.mk (Below.refl w.heap.size w)
 have H:=h
 clear h
 by_cases c5 : a1_0 = 1
 ·rw [if_pos c5] at H
  obtain ⟨c5b0,c5b1⟩:=eqT c5
  clear c5
  replace H:=Option.bind_eq_some_iff.mp H
  obtain ⟨t665,A60,H⟩:=H
  try dsimp only at H
  have A6:=qA.mk A60
  clear A60
  replace H:=Option.bind_eq_some_iff.mp H
  obtain ⟨t666,A70,H⟩:=H
  try dsimp only at H
  have A7:=qA.mk A70
  clear A70
  by_cases c8 : a1_1 = 0
  ·rw [if_pos c8] at H
   obtain ⟨c8b0,c8b1⟩:=eqT c8
   clear c8
   by_cases c9 : (l1_2.length : Int) = 0
   ·rw [if_pos c9] at H
    obtain ⟨c9b0,c9b1⟩:=eqT c9
    clear c9
    by_cases c10 : t666 = 0
    ·rw [if_pos c10] at H
     obtain ⟨c10b0,c10b1⟩:=eqT c10
     clear c10
     obtain rfl:=Option.some.inj H
     go_enter Try.func42,Try.ntmps42
     try go_wp2_with (first|((with_reducible refine qO (N:=4) rfl ?_);(try (refine uG (by rfl) ?_;dsimp only));refine zM (N:=4) (cs:=#[.slice A0_0 l0_0.length c0_0]) (t:=25) ?_;intro gb663 hg w11 hbox hb;have n_:=q_4 (qB byab hb) (hbox) ((bych : w.heap.size ≤ gb663)) ((bych : w.heap.size ≤ gb663));clear HB;obtain ⟨HB,BK663,GW663,GE663⟩:=n_;clear hb hbox hg)|((with_reducible refine qO (N:=5) rfl ?_);(try (refine uG (by rfl) ?_;dsimp only));refine zM (N:=5) (cs:=#[.int .i64 a1_0,.int .i64 a1_1,.slice A1_2 l1_2.length c1_2]) (t:=28) ?_;intro gb664 hg w12 hbox hb;have n_:=q_6 (qE BK663.out hb) (qB (byad GE663.out) hb) (hbox) ((byci GE663.out : w.heap.size ≤ gb664)) ((byci GE663.out : w.heap.size ≤ gb664)) ((by rw [hg];exact Nat.ne_of_lt (jZ BK663.out) : gb663≠gb664));clear BK663 HB;obtain ⟨BK663,HB,BK664,GW664,GE664,NB663_664⟩:=n_;have NB664_663:=ns NB663_664;clear hb hbox hg;have hnb13:=NB664_663.out;have hnc13:=NB663_664.out;obtain ⟨hcz14_0,hcz14_1,hcz14_2,hfz14_0,hfz14_1,hfz14_2⟩:=cz3 BK664.out))
     have n_:=q_3 (qF BK663.out) (qF BK664.out) (jM HB.out)
     clear BK663 BK664 HB
     obtain ⟨BK663,BK664,HB⟩:=n_
     refine kX (n:=7) (S:=fun w'=>w'.cell? ⟨gb663,0,none⟩ = some (.slice A0_0 l0_0.length c0_0)) (ds:=[]) (bb 7 0) (by kernel_rfl) rfl rfl ((qK BK663.out 0).trans rfl) (fun hHeld=>?_)
     generalize w12.drew = w15 at BK663 BK664 HB hHeld ⊢
     refine kT (i:=3) (N:=some 17) (bb 7 8) ?_
     refine Q9 (i:=0) (N:=some 14) (bb 7 9) hHeld ?_
     refine Q9 (i:=1) (N:=some 15) (bb 7 11) hHeld ?_
     refine one_ (i:=2) (N:=some 16) (bb 7 15) rfl rfl (by kernel_rfl) (by decide) (fun K hK=>?_)
     refine uZ Try.func57 (by kernel_rfl) rfl #[.agg #[.slice A0_0 l0_0.length c0_0]] (by rfl) rfl rfl byah ?_
     with_reducible refine (vC.calls _ _ l0_0 t665 _ ?side1 ?side2 A6.out).mono ?_
     (case side1=>exact byaq HR0_0.out)
     (case side2=>exact HC0_0.out)
     rintro e w16 ⟨rfl,hb⟩
     refine ⟨_,rfl,?_⟩
     have n_:=q_3 (qE BK663.out hb) (qE BK664.out hb) (qB (byaj GE663.out GE664.out) hb)
     clear BK663 BK664 HB
     obtain ⟨BK663,BK664,HB⟩:=n_
     (try clear hb)
     (try clear hb2)
     (try clear hk)
     (try clear hi)
     refine hK.out _ _ ((qK BK663.out 0).trans rfl) (fun hHeld=>?_)
     clear hK K
     refine uO (N:=some 16) ?_
     refine kT (i:=4) (N:=some 18) (bb 7 31) ?_
     refine one_ (i:=5) (N:=some 19) (bb 7 63) rfl rfl (by kernel_rfl) (by decide) (fun K hK=>?_)
     refine uZ Try.func58 (by kernel_rfl) rfl #[.agg #[.slice A0_0 l0_0.length c0_0],.int .i64 (Go.bits .andNot .i64 t665 a3)] (by rfl) rfl rfl byah ?_
     with_reducible refine (zL.calls k _ _ l0_0 (Go.bits .andNot .i64 t665 a3) t666 _ ?side1 ?side2 A7.out).mono ?_
     (case side1=>exact byaq HR0_0.out)
     (case side2=>exact HC0_0.out)
     rintro e w17 ⟨rfl,hb⟩
     refine ⟨_,rfl,?_⟩
     have n_:=q_3 (qE BK663.out hb) (qE BK664.out hb) (qB (byaj GE663.out GE664.out) hb)
     clear BK663 BK664 HB
     obtain ⟨BK663,BK664,HB⟩:=n_
     (try clear hb)
     (try clear hb2)
     (try clear hk)
     (try clear hi)
     refine hK.out _ _ ((qK BK663.out 0).trans rfl) (fun hHeld=>?_)
     clear hK K
     refine uO (N:=some 19) ?_
     refine kT (i:=6) (N:=some 9) (bb 7 127) ?_
     refine Qm (by kernel_rfl) ?_
     obtain ⟨hcz18_0,hcz18_1,hcz18_2,hfz18_0,hfz18_1,hfz18_2⟩:=cz3 BK664.out
     try go_wp2
     go_ret
     exact ⟨byac,byaj GE663.out GE664.out⟩
    ·rw [if_neg c10] at H
     obtain ⟨c10b0,c10b1⟩:=eqF c10
     obtain rfl:=Option.some.inj H
     go_enter Try.func42,Try.ntmps42
     try go_wp2_with (first|((with_reducible refine qO (N:=4) rfl ?_);(try (refine uG (by rfl) ?_;dsimp only));refine zM (N:=4) (cs:=#[.slice A0_0 l0_0.length c0_0]) (t:=25) ?_;intro gb663 hg w19 hbox hb;have n_:=q_4 (qB byab hb) (hbox) ((bych : w.heap.size ≤ gb663)) ((bych : w.heap.size ≤ gb663));clear HB;obtain ⟨HB,BK663,GW663,GE663⟩:=n_;clear hb hbox hg)|((with_reducible refine qO (N:=5) rfl ?_);(try (refine uG (by rfl) ?_;dsimp only));refine zM (N:=5) (cs:=#[.int .i64 a1_0,.int .i64 a1_1,.slice A1_2 l1_2.length c1_2]) (t:=28) ?_;intro gb664 hg w20 hbox hb;have n_:=q_6 (qE BK663.out hb) (qB (byad GE663.out) hb) (hbox) ((byci GE663.out : w.heap.size ≤ gb664)) ((byci GE663.out : w.heap.size ≤ gb664)) ((by rw [hg];exact Nat.ne_of_lt (jZ BK663.out) : gb663≠gb664));clear BK663 HB;obtain ⟨BK663,HB,BK664,GW664,GE664,NB663_664⟩:=n_;have NB664_663:=ns NB663_664;clear hb hbox hg;have hnb21:=NB664_663.out;have hnc21:=NB663_664.out;obtain ⟨hcz22_0,hcz22_1,hcz22_2,hfz22_0,hfz22_1,hfz22_2⟩:=cz3 BK664.out))
     have n_:=q_3 (qF BK663.out) (qF BK664.out) (jM HB.out)
     clear BK663 BK664 HB
     obtain ⟨BK663,BK664,HB⟩:=n_
     refine kX (n:=7) (S:=fun w'=>w'.cell? ⟨gb663,0,none⟩ = some (.slice A0_0 l0_0.length c0_0)) (ds:=[]) (bb 7 0) (by kernel_rfl) rfl rfl ((qK BK663.out 0).trans rfl) (fun hHeld=>?_)
     generalize w20.drew = w23 at BK663 BK664 HB hHeld ⊢
     refine kT (i:=3) (N:=some 17) (bb 7 8) ?_
     refine Q9 (i:=0) (N:=some 14) (bb 7 9) hHeld ?_
     refine Q9 (i:=1) (N:=some 15) (bb 7 11) hHeld ?_
     refine one_ (i:=2) (N:=some 16) (bb 7 15) rfl rfl (by kernel_rfl) (by decide) (fun K hK=>?_)
     refine uZ Try.func57 (by kernel_rfl) rfl #[.agg #[.slice A0_0 l0_0.length c0_0]] (by rfl) rfl rfl byah ?_
     with_reducible refine (vC.calls _ _ l0_0 t665 _ ?side1 ?side2 A6.out).mono ?_
     (case side1=>exact byaq HR0_0.out)
     (case side2=>exact HC0_0.out)
     rintro e w24 ⟨rfl,hb⟩
     refine ⟨_,rfl,?_⟩
     have n_:=q_3 (qE BK663.out hb) (qE BK664.out hb) (qB (byaj GE663.out GE664.out) hb)
     clear BK663 BK664 HB
     obtain ⟨BK663,BK664,HB⟩:=n_
     (try clear hb)
     (try clear hb2)
     (try clear hk)
     (try clear hi)
     refine hK.out _ _ ((qK BK663.out 0).trans rfl) (fun hHeld=>?_)
     clear hK K
     refine uO (N:=some 16) ?_
     refine kT (i:=4) (N:=some 18) (bb 7 31) ?_
     refine one_ (i:=5) (N:=some 19) (bb 7 63) rfl rfl (by kernel_rfl) (by decide) (fun K hK=>?_)
     refine uZ Try.func58 (by kernel_rfl) rfl #[.agg #[.slice A0_0 l0_0.length c0_0],.int .i64 (Go.bits .andNot .i64 t665 a3)] (by rfl) rfl rfl byah ?_
     with_reducible refine (zL.calls k _ _ l0_0 (Go.bits .andNot .i64 t665 a3) t666 _ ?side1 ?side2 A7.out).mono ?_
     (case side1=>exact byaq HR0_0.out)
     (case side2=>exact HC0_0.out)
     rintro e w25 ⟨rfl,hb⟩
     refine ⟨_,rfl,?_⟩
     have n_:=q_3 (qE BK663.out hb) (qE BK664.out hb) (qB (byaj GE663.out GE664.out) hb)
     clear BK663 BK664 HB
     obtain ⟨BK663,BK664,HB⟩:=n_
     (try clear hb)
     (try clear hb2)
     (try clear hk)
     (try clear hi)
     refine hK.out _ _ ((qK BK663.out 0).trans rfl) (fun hHeld=>?_)
     clear hK K
     refine uO (N:=some 19) ?_
     refine kT (i:=6) (N:=some 9) (bb 7 127) ?_
     refine Qm (by kernel_rfl) ?_
     obtain ⟨hcz26_0,hcz26_1,hcz26_2,hfz26_0,hfz26_1,hfz26_2⟩:=cz3 BK664.out
     try go_wp2
     go_ret
     exact ⟨byac,byaj GE663.out GE664.out⟩
   ·rw [if_neg c9] at H
    obtain ⟨c9b0,c9b1⟩:=eqF c9
    have c9b2 : ¬ (l1_2 = []):=fun h_=>c9 (by rw [h_];rfl)
    obtain rfl:=Option.some.inj H
    go_enter Try.func42,Try.ntmps42
    try go_wp2_with (first|((with_reducible refine qO (N:=4) rfl ?_);(try (refine uG (by rfl) ?_;dsimp only));refine zM (N:=4) (cs:=#[.slice A0_0 l0_0.length c0_0]) (t:=25) ?_;intro gb663 hg w27 hbox hb;have n_:=q_4 (qB byab hb) (hbox) ((bych : w.heap.size ≤ gb663)) ((bych : w.heap.size ≤ gb663));clear HB;obtain ⟨HB,BK663,GW663,GE663⟩:=n_;clear hb hbox hg)|((with_reducible refine qO (N:=5) rfl ?_);(try (refine uG (by rfl) ?_;dsimp only));refine zM (N:=5) (cs:=#[.int .i64 a1_0,.int .i64 a1_1,.slice A1_2 l1_2.length c1_2]) (t:=28) ?_;intro gb664 hg w28 hbox hb;have n_:=q_6 (qE BK663.out hb) (qB (byad GE663.out) hb) (hbox) ((byci GE663.out : w.heap.size ≤ gb664)) ((byci GE663.out : w.heap.size ≤ gb664)) ((by rw [hg];exact Nat.ne_of_lt (jZ BK663.out) : gb663≠gb664));clear BK663 HB;obtain ⟨BK663,HB,BK664,GW664,GE664,NB663_664⟩:=n_;have NB664_663:=ns NB663_664;clear hb hbox hg;have hnb29:=NB664_663.out;have hnc29:=NB663_664.out;obtain ⟨hcz30_0,hcz30_1,hcz30_2,hfz30_0,hfz30_1,hfz30_2⟩:=cz3 BK664.out))
    have n_:=q_3 (qF BK663.out) (qF BK664.out) (jM HB.out)
    clear BK663 BK664 HB
    obtain ⟨BK663,BK664,HB⟩:=n_
    refine kX (n:=7) (S:=fun w'=>w'.cell? ⟨gb663,0,none⟩ = some (.slice A0_0 l0_0.length c0_0)) (ds:=[]) (bb 7 0) (by kernel_rfl) rfl rfl ((qK BK663.out 0).trans rfl) (fun hHeld=>?_)
    generalize w28.drew = w31 at BK663 BK664 HB hHeld ⊢
    refine kT (i:=3) (N:=some 17) (bb 7 8) ?_
    refine Q9 (i:=0) (N:=some 14) (bb 7 9) hHeld ?_
    refine Q9 (i:=1) (N:=some 15) (bb 7 11) hHeld ?_
    refine one_ (i:=2) (N:=some 16) (bb 7 15) rfl rfl (by kernel_rfl) (by decide) (fun K hK=>?_)
    refine uZ Try.func57 (by kernel_rfl) rfl #[.agg #[.slice A0_0 l0_0.length c0_0]] (by rfl) rfl rfl byah ?_
    with_reducible refine (vC.calls _ _ l0_0 t665 _ ?side1 ?side2 A6.out).mono ?_
    (case side1=>exact byaq HR0_0.out)
    (case side2=>exact HC0_0.out)
    rintro e w32 ⟨rfl,hb⟩
    refine ⟨_,rfl,?_⟩
    have n_:=q_3 (qE BK663.out hb) (qE BK664.out hb) (qB (byaj GE663.out GE664.out) hb)
    clear BK663 BK664 HB
    obtain ⟨BK663,BK664,HB⟩:=n_
    (try clear hb)
    (try clear hb2)
    (try clear hk)
    (try clear hi)
    refine hK.out _ _ ((qK BK663.out 0).trans rfl) (fun hHeld=>?_)
    clear hK K
    refine uO (N:=some 16) ?_
    refine kT (i:=4) (N:=some 18) (bb 7 31) ?_
    refine one_ (i:=5) (N:=some 19) (bb 7 63) rfl rfl (by kernel_rfl) (by decide) (fun K hK=>?_)
    refine uZ Try.func58 (by kernel_rfl) rfl #[.agg #[.slice A0_0 l0_0.length c0_0],.int .i64 (Go.bits .andNot .i64 t665 a3)] (by rfl) rfl rfl byah ?_
    with_reducible refine (zL.calls k _ _ l0_0 (Go.bits .andNot .i64 t665 a3) t666 _ ?side1 ?side2 A7.out).mono ?_
    (case side1=>exact byaq HR0_0.out)
    (case side2=>exact HC0_0.out)
    rintro e w33 ⟨rfl,hb⟩
    refine ⟨_,rfl,?_⟩
    have n_:=q_3 (qE BK663.out hb) (qE BK664.out hb) (qB (byaj GE663.out GE664.out) hb)
    clear BK663 BK664 HB
    obtain ⟨BK663,BK664,HB⟩:=n_
    (try clear hb)
    (try clear hb2)
    (try clear hk)
    (try clear hi)
    refine hK.out _ _ ((qK BK663.out 0).trans rfl) (fun hHeld=>?_)
    clear hK K
    refine uO (N:=some 19) ?_
    refine kT (i:=6) (N:=some 9) (bb 7 127) ?_
    refine Qm (by kernel_rfl) ?_
    obtain ⟨hcz34_0,hcz34_1,hcz34_2,hfz34_0,hfz34_1,hfz34_2⟩:=cz3 BK664.out
    try go_wp2
    go_ret
    exact ⟨byac,byaj GE663.out GE664.out⟩
  ·rw [if_neg c8] at H
   obtain ⟨c8b0,c8b1⟩:=eqF c8
   obtain rfl:=Option.some.inj H
   go_enter Try.func42,Try.ntmps42
   try go_wp2_with (first|((with_reducible refine qO (N:=4) rfl ?_);(try (refine uG (by rfl) ?_;dsimp only));refine zM (N:=4) (cs:=#[.slice A0_0 l0_0.length c0_0]) (t:=25) ?_;intro gb663 hg w35 hbox hb;have n_:=q_4 (qB byab hb) (hbox) ((bych : w.heap.size ≤ gb663)) ((bych : w.heap.size ≤ gb663));clear HB;obtain ⟨HB,BK663,GW663,GE663⟩:=n_;clear hb hbox hg)|((with_reducible refine qO (N:=5) rfl ?_);(try (refine uG (by rfl) ?_;dsimp only));refine zM (N:=5) (cs:=#[.int .i64 a1_0,.int .i64 a1_1,.slice A1_2 l1_2.length c1_2]) (t:=28) ?_;intro gb664 hg w36 hbox hb;have n_:=q_6 (qE BK663.out hb) (qB (byad GE663.out) hb) (hbox) ((byci GE663.out : w.heap.size ≤ gb664)) ((byci GE663.out : w.heap.size ≤ gb664)) ((by rw [hg];exact Nat.ne_of_lt (jZ BK663.out) : gb663≠gb664));clear BK663 HB;obtain ⟨BK663,HB,BK664,GW664,GE664,NB663_664⟩:=n_;have NB664_663:=ns NB663_664;clear hb hbox hg;have hnb37:=NB664_663.out;have hnc37:=NB663_664.out;obtain ⟨hcz38_0,hcz38_1,hcz38_2,hfz38_0,hfz38_1,hfz38_2⟩:=cz3 BK664.out))
   have n_:=q_3 (qF BK663.out) (qF BK664.out) (jM HB.out)
   clear BK663 BK664 HB
   obtain ⟨BK663,BK664,HB⟩:=n_
   refine kX (n:=7) (S:=fun w'=>w'.cell? ⟨gb663,0,none⟩ = some (.slice A0_0 l0_0.length c0_0)) (ds:=[]) (bb 7 0) (by kernel_rfl) rfl rfl ((qK BK663.out 0).trans rfl) (fun hHeld=>?_)
   generalize w36.drew = w39 at BK663 BK664 HB hHeld ⊢
   refine kT (i:=3) (N:=some 17) (bb 7 8) ?_
   refine Q9 (i:=0) (N:=some 14) (bb 7 9) hHeld ?_
   refine Q9 (i:=1) (N:=some 15) (bb 7 11) hHeld ?_
   refine one_ (i:=2) (N:=some 16) (bb 7 15) rfl rfl (by kernel_rfl) (by decide) (fun K hK=>?_)
   refine uZ Try.func57 (by kernel_rfl) rfl #[.agg #[.slice A0_0 l0_0.length c0_0]] (by rfl) rfl rfl byah ?_
   with_reducible refine (vC.calls _ _ l0_0 t665 _ ?side1 ?side2 A6.out).mono ?_
   (case side1=>exact byaq HR0_0.out)
   (case side2=>exact HC0_0.out)
   rintro e w40 ⟨rfl,hb⟩
   refine ⟨_,rfl,?_⟩
   have n_:=q_3 (qE BK663.out hb) (qE BK664.out hb) (qB (byaj GE663.out GE664.out) hb)
   clear BK663 BK664 HB
   obtain ⟨BK663,BK664,HB⟩:=n_
   (try clear hb)
   (try clear hb2)
   (try clear hk)
   (try clear hi)
   refine hK.out _ _ ((qK BK663.out 0).trans rfl) (fun hHeld=>?_)
   clear hK K
   refine uO (N:=some 16) ?_
   refine kT (i:=4) (N:=some 18) (bb 7 31) ?_
   refine one_ (i:=5) (N:=some 19) (bb 7 63) rfl rfl (by kernel_rfl) (by decide) (fun K hK=>?_)
   refine uZ Try.func58 (by kernel_rfl) rfl #[.agg #[.slice A0_0 l0_0.length c0_0],.int .i64 (Go.bits .andNot .i64 t665 a3)] (by rfl) rfl rfl byah ?_
   with_reducible refine (zL.calls k _ _ l0_0 (Go.bits .andNot .i64 t665 a3) t666 _ ?side1 ?side2 A7.out).mono ?_
   (case side1=>exact byaq HR0_0.out)
   (case side2=>exact HC0_0.out)
   rintro e w41 ⟨rfl,hb⟩
   refine ⟨_,rfl,?_⟩
   have n_:=q_3 (qE BK663.out hb) (qE BK664.out hb) (qB (byaj GE663.out GE664.out) hb)
   clear BK663 BK664 HB
   obtain ⟨BK663,BK664,HB⟩:=n_
   (try clear hb)
   (try clear hb2)
   (try clear hk)
   (try clear hi)
   refine hK.out _ _ ((qK BK663.out 0).trans rfl) (fun hHeld=>?_)
   clear hK K
   refine uO (N:=some 19) ?_
   refine kT (i:=6) (N:=some 9) (bb 7 127) ?_
   refine Qm (by kernel_rfl) ?_
   obtain ⟨hcz42_0,hcz42_1,hcz42_2,hfz42_0,hfz42_1,hfz42_2⟩:=cz3 BK664.out
   try go_wp2
   go_ret
   exact ⟨byac,byaj GE663.out GE664.out⟩
 ·rw [if_neg c5] at H
  obtain ⟨c5b0,c5b1⟩:=eqF c5
  by_cases c43 : a1_0 = 2
  ·rw [if_pos c43] at H
   obtain ⟨c43b0,c43b1⟩:=eqT c43
   clear c43
   by_cases c44 : a1_1 = 0
   ·rw [if_pos c44] at H
    obtain ⟨c44b0,c44b1⟩:=eqT c44
    clear c44
    by_cases c45 : (l1_2.length : Int) = 0
    ·rw [if_pos c45] at H
     obtain ⟨c45b0,c45b1⟩:=eqT c45
     clear c45
     replace H:=Option.bind_eq_some_iff.mp H
     obtain ⟨t667,A460,H⟩:=H
     try dsimp only at H
     have A46:=qA.mk A460
     clear A460
     replace H:=Option.bind_eq_some_iff.mp H
     obtain ⟨t668,A470,H⟩:=H
     try dsimp only at H
     have A47:=qA.mk A470
     clear A470
     obtain rfl:=Option.some.inj H
     go_enter Try.func42,Try.ntmps42
     try go_wp2_with (first|((with_reducible refine qO (N:=4) rfl ?_);(try (refine uG (by rfl) ?_;dsimp only));refine zM (N:=4) (cs:=#[.slice A0_0 l0_0.length c0_0]) (t:=25) ?_;intro gb663 hg w48 hbox hb;have n_:=q_4 (qB byab hb) (hbox) ((bych : w.heap.size ≤ gb663)) ((bych : w.heap.size ≤ gb663));clear HB;obtain ⟨HB,BK663,GW663,GE663⟩:=n_;clear hb hbox hg)|((with_reducible refine qO (N:=5) rfl ?_);(try (refine uG (by rfl) ?_;dsimp only));refine zM (N:=5) (cs:=#[.int .i64 a1_0,.int .i64 a1_1,.slice A1_2 l1_2.length c1_2]) (t:=28) ?_;intro gb664 hg w49 hbox hb;have n_:=q_6 (qE BK663.out hb) (qB (byad GE663.out) hb) (hbox) ((byci GE663.out : w.heap.size ≤ gb664)) ((byci GE663.out : w.heap.size ≤ gb664)) ((by rw [hg];exact Nat.ne_of_lt (jZ BK663.out) : gb663≠gb664));clear BK663 HB;obtain ⟨BK663,HB,BK664,GW664,GE664,NB663_664⟩:=n_;have NB664_663:=ns NB663_664;clear hb hbox hg;have hnb50:=NB664_663.out;have hnc50:=NB663_664.out;obtain ⟨hcz51_0,hcz51_1,hcz51_2,hfz51_0,hfz51_1,hfz51_2⟩:=cz3 BK664.out))
     have n_:=q_3 (qF BK663.out) (qF BK664.out) (jM HB.out)
     clear BK663 BK664 HB
     obtain ⟨BK663,BK664,HB⟩:=n_
     refine kX (n:=19) (S:=fun w'=>w'.cell? ⟨gb664,0,none⟩ = some (.int .i64 a1_0)∧w'.cell? ⟨gb664,1,none⟩ = some (.int .i64 a1_1)∧w'.cell? ⟨gb664,2,none⟩ = some (.slice A1_2 l1_2.length c1_2)∧w'.cell? ⟨gb663,0,none⟩ = some (.slice A0_0 l0_0.length c0_0)) (ds:=[]) (bb 19 0) (by kernel_rfl) rfl rfl ⟨(qK BK664.out 0).trans rfl,(qK BK664.out 1).trans rfl,(qK BK664.out 2).trans rfl,(qK BK663.out 0).trans rfl⟩ (fun hHeld=>?_);refine kD qR.tab6 qR.bits6 (fun HT_ HW_=>?_)
     generalize w49.drew = w52 at BK663 BK664 HB hHeld ⊢
     refine qP (i:=0) (N:=some 42) (bb 19 1) ?_
     refine Zg (i:=1) (N:=some 43) (bb 19 3) hHeld ?_
     refine qP (i:=2) (N:=some 44) (bb 19 7) ?_
     refine qP (i:=3) (N:=some 45) (bb 19 15) ?_
     refine qP (i:=4) (N:=some 46) (bb 19 31) ?_
     refine Zg (i:=5) (N:=some 47) (bb 19 63) hHeld ?_
     refine qP (i:=6) (N:=some 48) (bb 19 127) ?_
     refine qP (i:=7) (N:=some 49) (bb 19 255) ?_
     refine qP (i:=8) (N:=some 50) (bb 19 511) ?_
     refine qP (i:=9) (N:=some 51) (bb 19 1023) ?_
     refine qP (i:=13) (N:=some 55) (bb 19 9215) ?_
     refine Zg (i:=10) (N:=some 52) (bb 19 10239) hHeld ?_
     refine Zg (i:=11) (N:=some 53) (bb 19 12287) hHeld ?_
     refine one_ (i:=12) (N:=some 54) (bb 19 16383) rfl rfl (uI HT_.out (by kernel_rfl)) (by decide) (fun K hK=>?_)
     refine uZ Try.func57 (by kernel_rfl) rfl #[.agg #[.slice A0_0 l0_0.length c0_0]] (by rfl) rfl rfl byah ?_
     with_reducible refine (vC.calls _ _ l0_0 t667 _ ?side1 ?side2 A46.out).mono ?_
     (case side1=>exact byaq HR0_0.out)
     (case side2=>exact HC0_0.out)
     rintro e w53 ⟨rfl,hb⟩
     refine ⟨_,rfl,?_⟩
     have n_:=q_3 (qE BK663.out hb) (qE BK664.out hb) (qB (byaj GE663.out GE664.out) hb)
     clear BK663 BK664 HB
     obtain ⟨BK663,BK664,HB⟩:=n_
     (try clear hb)
     (try clear hb2)
     (try clear hk)
     (try clear hi)
     refine hK.out _ _ ⟨(qK BK664.out 0).trans rfl,(qK BK664.out 1).trans rfl,(qK BK664.out 2).trans rfl,(qK BK663.out 0).trans rfl⟩ (fun hHeld=>?_)
     clear hK K
     refine uO (N:=some 54) ?_
     refine qP (i:=14) (N:=some 56) (bb 19 32767) ?_
     refine one_ (i:=15) (N:=some 57) (bb 19 65535) rfl rfl (uI HT_.out (by kernel_rfl)) (by decide) (fun K hK=>?_)
     refine uZ Try.func58 (by kernel_rfl) rfl #[.agg #[.slice A0_0 l0_0.length c0_0],.int .i64 (Go.bits .andNot .i64 t667 a2)] (by rfl) rfl rfl byah ?_
     with_reducible refine (zL.calls k _ _ l0_0 (Go.bits .andNot .i64 t667 a2) t668 _ ?side1 ?side2 A47.out).mono ?_
     (case side1=>exact byaq HR0_0.out)
     (case side2=>exact HC0_0.out)
     rintro e w54 ⟨rfl,hb⟩
     refine ⟨_,rfl,?_⟩
     have n_:=q_3 (qE BK663.out hb) (qE BK664.out hb) (qB (byaj GE663.out GE664.out) hb)
     clear BK663 BK664 HB
     obtain ⟨BK663,BK664,HB⟩:=n_
     (try clear hb)
     (try clear hb2)
     (try clear hk)
     (try clear hi)
     refine hK.out _ _ ⟨(qK BK664.out 0).trans rfl,(qK BK664.out 1).trans rfl,(qK BK664.out 2).trans rfl,(qK BK663.out 0).trans rfl⟩ (fun hHeld=>?_)
     clear hK K
     refine uO (N:=some 57) ?_
     refine qP (i:=16) (N:=some 58) (bb 19 131071) ?_
     refine qP (i:=17) (N:=some 59) (bb 19 262143) ?_
     refine qP (i:=18) (N:=some 8) (bb 19 524287) ?_
     refine Qm (Qi HT_.out (by kernel_rfl)) ?_
     try go_wp2
     go_ret
     exact ⟨byac,byaj GE663.out GE664.out⟩
    ·rw [if_neg c45] at H
     obtain ⟨c45b0,c45b1⟩:=eqF c45
     have c45b2 : ¬ (l1_2 = []):=fun h_=>c45 (by rw [h_];rfl)
     obtain rfl:=Option.some.inj H
     go_enter Try.func42,Try.ntmps42
     try go_wp2_with (first|((with_reducible refine qO (N:=4) rfl ?_);(try (refine uG (by rfl) ?_;dsimp only));refine zM (N:=4) (cs:=#[.slice A0_0 l0_0.length c0_0]) (t:=25) ?_;intro gb663 hg w55 hbox hb;have n_:=q_4 (qB byab hb) (hbox) ((bych : w.heap.size ≤ gb663)) ((bych : w.heap.size ≤ gb663));clear HB;obtain ⟨HB,BK663,GW663,GE663⟩:=n_;clear hb hbox hg)|((with_reducible refine qO (N:=5) rfl ?_);(try (refine uG (by rfl) ?_;dsimp only));refine zM (N:=5) (cs:=#[.int .i64 a1_0,.int .i64 a1_1,.slice A1_2 l1_2.length c1_2]) (t:=28) ?_;intro gb664 hg w56 hbox hb;have n_:=q_6 (qE BK663.out hb) (qB (byad GE663.out) hb) (hbox) ((byci GE663.out : w.heap.size ≤ gb664)) ((byci GE663.out : w.heap.size ≤ gb664)) ((by rw [hg];exact Nat.ne_of_lt (jZ BK663.out) : gb663≠gb664));clear BK663 HB;obtain ⟨BK663,HB,BK664,GW664,GE664,NB663_664⟩:=n_;have NB664_663:=ns NB663_664;clear hb hbox hg;have hnb57:=NB664_663.out;have hnc57:=NB663_664.out;obtain ⟨hcz58_0,hcz58_1,hcz58_2,hfz58_0,hfz58_1,hfz58_2⟩:=cz3 BK664.out))
     have n_:=q_3 (qF BK663.out) (qF BK664.out) (jM HB.out)
     clear BK663 BK664 HB
     obtain ⟨BK663,BK664,HB⟩:=n_
     refine kX (n:=19) (S:=fun w'=>w'.cell? ⟨gb664,0,none⟩ = some (.int .i64 a1_0)∧w'.cell? ⟨gb664,1,none⟩ = some (.int .i64 a1_1)∧w'.cell? ⟨gb664,2,none⟩ = some (.slice A1_2 l1_2.length c1_2)) (ds:=[]) (bb 19 0) (by kernel_rfl) rfl rfl (cv3 BK664.out) (fun hHeld=>?_);refine kD qR.tab6 qR.bits6 (fun HT_ HW_=>?_)
     generalize w56.drew = w59 at BK663 BK664 HB hHeld ⊢
     refine qP (i:=0) (N:=some 42) (bb 19 1) ?_
     refine takeZE (i:=1) (N:=some 43) (bb 19 3) hHeld ?_
     refine qP (i:=2) (N:=some 44) (bb 19 7) ?_
     refine qP (i:=3) (N:=some 45) (bb 19 15) ?_
     refine qP (i:=4) (N:=some 46) (bb 19 31) ?_
     refine takeZE (i:=5) (N:=some 47) (bb 19 63) hHeld ?_
     refine qP (i:=6) (N:=some 48) (bb 19 127) ?_
     refine qP (i:=7) (N:=some 49) (bb 19 255) ?_
     refine qP (i:=8) (N:=some 50) (bb 19 511) ?_
     refine qP (i:=9) (N:=some 51) (bb 19 1023) ?_
     refine uP (i:=10) (N:=some 52) (bb 19 2047) ?_
     refine uP (i:=11) (N:=some 53) (bb 19 4095) ?_
     refine uP (i:=12) (N:=some 54) (bb 19 8191) ?_
     refine uP (i:=13) (N:=some 55) (bb 19 16383) ?_
     refine uP (i:=14) (N:=some 56) (bb 19 32767) ?_
     refine uP (i:=15) (N:=some 57) (bb 19 65535) ?_
     refine uP (i:=16) (N:=some 58) (bb 19 131071) ?_
     refine qP (i:=17) (N:=some 59) (bb 19 262143) ?_
     refine qP (i:=18) (N:=some 8) (bb 19 524287) ?_
     refine Qm (Qi HT_.out (by kernel_rfl)) ?_
     try go_wp2
     go_ret
     exact ⟨byac,byaj GE663.out GE664.out⟩
   ·rw [if_neg c44] at H
    obtain ⟨c44b0,c44b1⟩:=eqF c44
    obtain rfl:=Option.some.inj H
    go_enter Try.func42,Try.ntmps42
    try go_wp2_with (first|((with_reducible refine qO (N:=4) rfl ?_);(try (refine uG (by rfl) ?_;dsimp only));refine zM (N:=4) (cs:=#[.slice A0_0 l0_0.length c0_0]) (t:=25) ?_;intro gb663 hg w60 hbox hb;have n_:=q_4 (qB byab hb) (hbox) ((bych : w.heap.size ≤ gb663)) ((bych : w.heap.size ≤ gb663));clear HB;obtain ⟨HB,BK663,GW663,GE663⟩:=n_;clear hb hbox hg)|((with_reducible refine qO (N:=5) rfl ?_);(try (refine uG (by rfl) ?_;dsimp only));refine zM (N:=5) (cs:=#[.int .i64 a1_0,.int .i64 a1_1,.slice A1_2 l1_2.length c1_2]) (t:=28) ?_;intro gb664 hg w61 hbox hb;have n_:=q_6 (qE BK663.out hb) (qB (byad GE663.out) hb) (hbox) ((byci GE663.out : w.heap.size ≤ gb664)) ((byci GE663.out : w.heap.size ≤ gb664)) ((by rw [hg];exact Nat.ne_of_lt (jZ BK663.out) : gb663≠gb664));clear BK663 HB;obtain ⟨BK663,HB,BK664,GW664,GE664,NB663_664⟩:=n_;have NB664_663:=ns NB663_664;clear hb hbox hg;have hnb62:=NB664_663.out;have hnc62:=NB663_664.out;obtain ⟨hcz63_0,hcz63_1,hcz63_2,hfz63_0,hfz63_1,hfz63_2⟩:=cz3 BK664.out))
    have n_:=q_3 (qF BK663.out) (qF BK664.out) (jM HB.out)
    clear BK663 BK664 HB
    obtain ⟨BK663,BK664,HB⟩:=n_
    refine kX (n:=19) (S:=fun w'=>w'.cell? ⟨gb664,0,none⟩ = some (.int .i64 a1_0)∧w'.cell? ⟨gb664,1,none⟩ = some (.int .i64 a1_1)∧w'.cell? ⟨gb664,2,none⟩ = some (.slice A1_2 l1_2.length c1_2)) (ds:=[]) (bb 19 0) (by kernel_rfl) rfl rfl (cv3 BK664.out) (fun hHeld=>?_);refine kD qR.tab6 qR.bits6 (fun HT_ HW_=>?_)
    generalize w61.drew = w64 at BK663 BK664 HB hHeld ⊢
    refine qP (i:=0) (N:=some 42) (bb 19 1) ?_
    refine takeZE (i:=1) (N:=some 43) (bb 19 3) hHeld ?_
    refine qP (i:=2) (N:=some 44) (bb 19 7) ?_
    refine qP (i:=3) (N:=some 45) (bb 19 15) ?_
    refine uP (i:=4) (N:=some 46) (bb 19 31) ?_
    refine uP (i:=5) (N:=some 47) (bb 19 63) ?_
    refine uP (i:=6) (N:=some 48) (bb 19 127) ?_
    refine uP (i:=7) (N:=some 49) (bb 19 255) ?_
    refine qP (i:=8) (N:=some 50) (bb 19 511) ?_
    refine qP (i:=9) (N:=some 51) (bb 19 1023) ?_
    refine uP (i:=10) (N:=some 52) (bb 19 2047) ?_
    refine uP (i:=11) (N:=some 53) (bb 19 4095) ?_
    refine uP (i:=12) (N:=some 54) (bb 19 8191) ?_
    refine uP (i:=13) (N:=some 55) (bb 19 16383) ?_
    refine uP (i:=14) (N:=some 56) (bb 19 32767) ?_
    refine uP (i:=15) (N:=some 57) (bb 19 65535) ?_
    refine uP (i:=16) (N:=some 58) (bb 19 131071) ?_
    refine qP (i:=17) (N:=some 59) (bb 19 262143) ?_
    refine qP (i:=18) (N:=some 8) (bb 19 524287) ?_
    refine Qm (Qi HT_.out (by kernel_rfl)) ?_
    try go_wp2
    go_ret
    exact ⟨byac,byaj GE663.out GE664.out⟩
  ·rw [if_neg c43] at H
   obtain ⟨c43b0,c43b1⟩:=eqF c43
   by_cases c65 : a1_0 = 3
   ·rw [if_pos c65] at H
    obtain ⟨c65b0,c65b1⟩:=eqT c65
    clear c65
    have HC66:=qA.mk H
    clear H
    go_enter Try.func42,Try.ntmps42
    go_upto_region 8 with (first|((with_reducible refine qO (N:=4) rfl ?_);(try (refine uG (by rfl) ?_;dsimp only));refine zM (N:=4) (cs:=#[.slice A0_0 l0_0.length c0_0]) (t:=25) ?_;intro gb663 hg w67 hbox hb;have n_:=q_4 (qB byab hb) (hbox) ((bych : w.heap.size ≤ gb663)) ((bych : w.heap.size ≤ gb663));clear HB;obtain ⟨HB,BK663,GW663,GE663⟩:=n_;clear hb hbox hg)|((with_reducible refine qO (N:=5) rfl ?_);(try (refine uG (by rfl) ?_;dsimp only));refine zM (N:=5) (cs:=#[.int .i64 a1_0,.int .i64 a1_1,.slice A1_2 l1_2.length c1_2]) (t:=28) ?_;intro gb664 hg w68 hbox hb;have n_:=q_6 (qE BK663.out hb) (qB (byad GE663.out) hb) (hbox) ((byci GE663.out : w.heap.size ≤ gb664)) ((byci GE663.out : w.heap.size ≤ gb664)) ((by rw [hg];exact Nat.ne_of_lt (jZ BK663.out) : gb663≠gb664));clear BK663 HB;obtain ⟨BK663,HB,BK664,GW664,GE664,NB663_664⟩:=n_;have NB664_663:=ns NB663_664;clear hb hbox hg;have hnb69:=NB664_663.out;have hnc69:=NB663_664.out;obtain ⟨hcz70_0,hcz70_1,hcz70_2,hfz70_0,hfz70_1,hfz70_2⟩:=cz3 BK664.out))
    (try simp only [Act.put,List.setIfInBounds_toArray,List.set_cons_zero,List.set_cons_succ])
    go_cut [88] (fun v88 wc=>∃ (kq : Nat) (x88_65 : Bool),v88 = .bool x88_65∧qA (qR.j0 kq a2 a3 x88_65 l0_0 a1_0 a1_1 l1_2 = some r)∧qA (kq ≤ k)∧qA (wc.heap[gb663]? = some (.cells #[(.slice A0_0 l0_0.length c0_0)] 25 (0,0)))∧qA (wc.heap[gb664]? = some (.cells #[.int .i64 a1_0,.int .i64 a1_1,(.slice A1_2 l1_2.length c1_2)] 28 (0,0)))∧qA (Below w.heap.size w wc))
    case first =>
     have H:=HC66.out
     clear HC66
     by_cases c71 : a1_1 < 0
     ·rw [if_pos c71] at H
      have c71b0:=decide_eq_true c71
      clear c71
      (first|rw [c71b0]|(simp only [Qh,Qk];rw [c71b0])|skip)
      have H':=qA.mk H
      clear H
      have hnb72:=NB664_663.out
      have hnc72:=NB663_664.out
      obtain ⟨hcz73_0,hcz73_1,hcz73_2,hfz73_0,hfz73_1,hfz73_2⟩:=cz3 BK664.out
      go_wp2
      go_meet
      case rel=>exact ⟨_,(true),byae,H',⟨byau⟩,⟨byaf BK663.out⟩,⟨byaf BK664.out⟩,⟨byaj GE663.out GE664.out⟩⟩
     ·rw [if_neg c71] at H
      have c71b0:=decide_eq_false c71
      clear c71
      (first|rw [c71b0]|(simp only [Qh,Qk];rw [c71b0])|skip)
      by_cases c74 : a1_1 ≥ (l0_0.length : Int)
      ·rw [if_pos c74] at H
       have c74b0:=decide_eq_true c74
       clear c74
       have H':=qA.mk H
       clear H
       have hnb75:=NB664_663.out
       have hnc75:=NB663_664.out
       obtain ⟨hcz76_0,hcz76_1,hcz76_2,hfz76_0,hfz76_1,hfz76_2⟩:=cz3 BK664.out
       obtain ⟨hcz77_0,hfz77_0⟩:=cz1 BK663.out
       go_wp2
       go_meet
       case rel=>exact ⟨_,(true),byae,H',⟨byau⟩,⟨byaf BK663.out⟩,⟨byaf BK664.out⟩,⟨byaj GE663.out GE664.out⟩⟩
      ·rw [if_neg c74] at H
       have c74b0:=decide_eq_false c74
       clear c74
       by_cases c78 : 0 ≤ a1_1
       ·rw [if_pos c78] at H
        have c78b0:=eq_true c78
        have c78b1:=decide_eq_true c78
        clear c78
        obtain ⟨ji79,hji79⟩ : ∃ j_ : Int,(shr .i64 (Go.bits .or .i64 a2 a3) a1_1) = j_:=⟨_,rfl⟩
        (first|rw [hji79] at H|(simp only [hji79] at H))
        have hji79_ : ((Go.bits .or .i64 a2 a3) / 2 ^ min a1_1.toNat 64) = ji79:=hji79
        have hji79z : a1_1 ≤ 64→((Go.bits .or .i64 a2 a3) / 2 ^ a1_1.toNat) = ji79:=shr_small hji79
        by_cases c80 : (Go.bits .and .i64 (ji79) 1) = 1
        ·rw [if_pos c80] at H
         obtain ⟨c80b0,c80b1⟩:=eqT c80
         clear c80
         have H':=qA.mk H
         clear H
         have hnb81:=NB664_663.out
         have hnc81:=NB663_664.out
         obtain ⟨hcz82_0,hcz82_1,hcz82_2,hfz82_0,hfz82_1,hfz82_2⟩:=cz3 BK664.out
         obtain ⟨hcz83_0,hfz83_0⟩:=cz1 BK663.out
         go_wp2
         go_meet
         case rel=>exact ⟨_,(true),byae,H',⟨byau⟩,⟨byaf BK663.out⟩,⟨byaf BK664.out⟩,⟨byaj GE663.out GE664.out⟩⟩
        ·rw [if_neg c80] at H
         obtain ⟨c80b0,c80b1⟩:=eqF c80
         have H':=qA.mk H
         clear H
         have hnb84:=NB664_663.out
         have hnc84:=NB663_664.out
         obtain ⟨hcz85_0,hcz85_1,hcz85_2,hfz85_0,hfz85_1,hfz85_2⟩:=cz3 BK664.out
         obtain ⟨hcz86_0,hfz86_0⟩:=cz1 BK663.out
         go_wp2
         go_meet
         case rel=>exact ⟨_,(((l1_2.length : Int) != 2)),byae,H',⟨byau⟩,⟨byaf BK663.out⟩,⟨byaf BK664.out⟩,⟨byaj GE663.out GE664.out⟩⟩
       ·rw [if_neg c78] at H
        exact absurd H (by simp)
    case rest =>
     clear HC66
     obtain ⟨kq,x88_65,rfl,HA,HJ65,BK663,BK664,HB⟩:=hcut
     cases kq with
     | zero=>exact absurd HA.out (by simp [qR.j0])
     | succ kj65 =>
      have H:=HA.out
      clear HA
      simp only [qR.j0] at H
      by_cases c87 : x88_65 = true
      ·subst c87
       rw [if_pos rfl] at H
       obtain rfl:=Option.some.inj H
       go_wp2
       go_ret
       exact ⟨byac,byaj GE663.out GE664.out⟩
      ·replace c87:=Bool.eq_false_iff.mpr c87
       subst c87
       rw [if_neg (show ¬ (false = true) by decide)] at H
       by_cases c88 : 0 < (l1_2.length : Int)
       ·rw [if_pos c88] at H
        have c88b0:=decide_eq_true c88
        have c88b1 : decide (0 < l1_2.length) = true:=decide_eq_true (by omega)
        clear c88
        by_cases c89 : 0 ≤ a1_1
        ·rw [if_pos c89] at H
         have c89b0:=eq_true c89
         have c89b1:=decide_eq_true c89
         clear c89
         obtain ⟨ji90,hji90⟩ : ∃ j_ : Int,(shl .i64 1 a1_1) = j_:=⟨_,rfl⟩
         (first|rw [hji90] at H|(simp only [hji90] at H))
         obtain ⟨hji90_,hji90z,hji90u,hji90v,hji90y,hji90x⟩:=jiA hji90
         replace H:=Option.bind_eq_some_iff.mp H
         obtain ⟨t670,A910,H⟩:=H
         try dsimp only at H
         have A91:=qA.mk A910
         clear A910
         by_cases c92 : t670 = true
         ·subst c92
          rw [if_pos rfl] at H
          by_cases c93 : 1 < (l1_2.length : Int)
          ·rw [if_pos c93] at H
           have c93b0:=decide_eq_true c93
           have c93b1 : decide (1 < l1_2.length) = true:=decide_eq_true (by omega)
           clear c93
           have c94b0:=eq_true (of_decide_eq_true byag : 0 ≤ a1_1)
           replace H:=Option.bind_eq_some_iff.mp H
           obtain ⟨t672,A960,H⟩:=H
           try dsimp only at H
           have A96:=qA.mk A960
           clear A960
           obtain rfl:=Option.some.inj H
           try go_wp2
           have n_:=q_3 (qF BK663.out) (qF BK664.out) (jM HB.out)
           clear BK663 BK664 HB
           obtain ⟨BK663,BK664,HB⟩:=n_
           have p669 : 0 ≤ (0 : Int):=(by omega)
           have q669 : 0 < (l1_2.length : Int):=of_decide_eq_true byag
           obtain ⟨ad669,A669_2,c669_2,e669,hx669_0,hx669_1,hx669_2,hl669_2,hi669_2⟩:=at_T28 HR1_2.out 0 p669 q669
           have hw669_2:=hx669_2
           (try rw [show ((0 : Int)).toNat = 0 from rfl] at hw669_2)
           (try rw [show 0 * 3 = 0 from rfl] at hw669_2)
           (try rw [Addr.add_zero'] at hw669_2)
           have hw669_1:=hx669_1
           (try rw [show ((0 : Int)).toNat = 0 from rfl] at hw669_1)
           (try rw [show 0 * 3 = 0 from rfl] at hw669_1)
           (try rw [Addr.add_zero'] at hw669_1)
           have hw669_0:=hx669_0
           (try rw [show ((0 : Int)).toNat = 0 from rfl] at hw669_0)
           (try rw [show 0 * 3 = 0 from rfl] at hw669_0)
           (try rw [Addr.add_zero'] at hw669_0)
           cases e669
           have qi669 : (0 < l1_2.length) = True:=eq_true (by omega)
           (try rw [show ((0 : Int)).toNat = 0 from rfl] at hx669_0)
           (try rw [show 0 * 3 = 0 from rfl] at hx669_0)
           (try rw [Addr.add_zero'] at hx669_0)
           (try rw [show ((0 : Int)).toNat = 0 from rfl] at hx669_1)
           (try rw [show 0 * 3 = 0 from rfl] at hx669_1)
           (try rw [Addr.add_zero'] at hx669_1)
           (try rw [show ((0 : Int)).toNat = 0 from rfl] at hx669_2)
           (try rw [show 0 * 3 = 0 from rfl] at hx669_2)
           (try rw [Addr.add_zero'] at hx669_2)
           replace hx669_0:=(HB.out.cell (World.block_lt_of_cell? w _ hx669_0)).trans hx669_0
           replace hx669_1:=(HB.out.cell (World.block_lt_of_cell? w _ hx669_1)).trans hx669_1
           replace hx669_2:=(HB.out.cell (World.block_lt_of_cell? w _ hx669_2)).trans hx669_2
           have HR669_2:=qA.mk hi669_2
           have HC669_2:=qA.mk hl669_2
           clear hi669_2 hl669_2
           replace p669:=eq_true p669
           replace q669:=eq_true q669
           have p671 : 0 ≤ (1 : Int):=(by omega)
           have q671 : 1 < (l1_2.length : Int):=of_decide_eq_true byag
           obtain ⟨ad671,A671_2,c671_2,e671,hx671_0,hx671_1,hx671_2,hl671_2,hi671_2⟩:=at_T28 HR1_2.out 1 p671 q671
           have hw671_2:=hx671_2
           (try rw [show ((1 : Int)).toNat = 1 from rfl] at hw671_2)
           (try rw [show 1 * 3 = 3 from rfl] at hw671_2)
           (try simp only [Nat.reduceMul,Nat.reduceEqDiff,Go.Addr.add,↓reduceIte] at hw671_2)
           have hw671_1:=hx671_1
           (try rw [show ((1 : Int)).toNat = 1 from rfl] at hw671_1)
           (try rw [show 1 * 3 = 3 from rfl] at hw671_1)
           (try simp only [Nat.reduceMul,Nat.reduceEqDiff,Go.Addr.add,↓reduceIte] at hw671_1)
           have hw671_0:=hx671_0
           (try rw [show ((1 : Int)).toNat = 1 from rfl] at hw671_0)
           (try rw [show 1 * 3 = 3 from rfl] at hw671_0)
           (try simp only [Nat.reduceMul,Nat.reduceEqDiff,Go.Addr.add,↓reduceIte] at hw671_0)
           obtain rfl : ad669 = ad671:=(by injection e671)
           (try simp only [show (1 : Int).toNat = 1 from rfl,Nat.reduceMul,Nat.reduceEqDiff,Go.Addr.add,↓reduceIte] at hx671_0)
           (try simp only [show (1 : Int).toNat = 1 from rfl,Nat.reduceMul,Nat.reduceEqDiff,Go.Addr.add,↓reduceIte] at hx671_1)
           (try simp only [show (1 : Int).toNat = 1 from rfl,Nat.reduceMul,Nat.reduceEqDiff,Go.Addr.add,↓reduceIte] at hx671_2)
           have qi671 : (1 < l1_2.length) = True:=eq_true (by omega)
           (try rw [show ((1 : Int)).toNat = 1 from rfl] at hx671_0)
           (try rw [show 1 * 3 = 3 from rfl] at hx671_0)
           (try rw [show ((1 : Int)).toNat = 1 from rfl] at hx671_1)
           (try rw [show 1 * 3 = 3 from rfl] at hx671_1)
           (try rw [show ((1 : Int)).toNat = 1 from rfl] at hx671_2)
           (try rw [show 1 * 3 = 3 from rfl] at hx671_2)
           replace hx671_0:=(HB.out.cell (World.block_lt_of_cell? w _ hx671_0)).trans hx671_0
           replace hx671_1:=(HB.out.cell (World.block_lt_of_cell? w _ hx671_1)).trans hx671_1
           replace hx671_2:=(HB.out.cell (World.block_lt_of_cell? w _ hx671_2)).trans hx671_2
           have HR671_2:=qA.mk hi671_2
           have HC671_2:=qA.mk hl671_2
           clear hi671_2 hl671_2
           replace p671:=eq_true p671
           replace q671:=eq_true q671
           refine kX (n:=27) (S:=fun w'=>w'.cell? ⟨gb663,0,none⟩ = some (.slice A0_0 l0_0.length c0_0)∧w'.cell? ⟨gb664,0,none⟩ = some (.int .i64 a1_0)∧w'.cell? ⟨gb664,1,none⟩ = some (.int .i64 a1_1)∧w'.cell? ⟨gb664,2,none⟩ = some (.slice (some ad669) l1_2.length c1_2)∧w'.cell? ad669 = some (.int .i64 ((jP l1_2 0).f0))∧w'.cell? ⟨ad669.block,ad669.off + 1,none⟩ = some (.int .i64 ((jP l1_2 0).f1))∧w'.cell? ⟨ad669.block,ad669.off + 2,none⟩ = some (.slice A669_2 ((jP l1_2 0).f2).length c669_2)∧w'.cell? ⟨ad669.block,ad669.off + 3,none⟩ = some (.int .i64 ((jP l1_2 1).f0))∧w'.cell? ⟨ad669.block,ad669.off + 3 + 1,none⟩ = some (.int .i64 ((jP l1_2 1).f1))∧w'.cell? ⟨ad669.block,ad669.off + 3 + 2,none⟩ = some (.slice A671_2 ((jP l1_2 1).f2).length c671_2)) (ds:=[]) (bb 27 0) (by kernel_rfl) rfl rfl ⟨(qK BK663.out 0).trans rfl,(qK BK664.out 0).trans rfl,(qK BK664.out 1).trans rfl,(qK BK664.out 2).trans rfl,((HB.out.cell (World.block_lt_of_cell? w _ hw669_0)).trans hw669_0),((HB.out.cell (World.block_lt_of_cell? w _ hw669_1)).trans hw669_1),((HB.out.cell (World.block_lt_of_cell? w _ hw669_2)).trans hw669_2),((HB.out.cell (World.block_lt_of_cell? w _ hw671_0)).trans hw671_0),((HB.out.cell (World.block_lt_of_cell? w _ hw671_1)).trans hw671_1),((HB.out.cell (World.block_lt_of_cell? w _ hw671_2)).trans hw671_2)⟩ (fun hHeld=>?_);refine kD qR.tab10 qR.bits10 (fun HT_ HW_=>?_)
           generalize wc.drew = w97 at BK663 BK664 HB HR669_2 HR671_2 hx669_0 hx669_1 hx669_2 hx671_0 hx671_1 hx671_2 hHeld ⊢
           refine qP (i:=1) (N:=some 90) (bb 27 2) ?_
           refine qP (i:=5) (N:=some 94) (bb 27 34) ?_
           refine qP (i:=6) (N:=some 95) (bb 27 98) ?_
           refine qP (i:=7) (N:=some 96) (bb 27 226) ?_
           refine Zl (i:=0) (N:=some 89) (bb 27 227) hHeld ?_
           refine Zl (i:=2) (N:=some 91) (bb 27 231) hHeld ?_
           refine qP (i:=3) (N:=some 92) (bb 27 239) ?_
           refine Zl (i:=4) (N:=some 93) (bb 27 255) hHeld ?_
           refine Zl (i:=8) (N:=some 97) (bb 27 511) hHeld ?_
           refine qP (i:=9) (N:=some 98) (bb 27 1023) ?_
           refine qP (i:=10) (N:=some 99) (bb 27 2047) ?_
           refine one_ (i:=11) (N:=some 100) (bb 27 4095) rfl rfl (uI HT_.out (by kernel_rfl)) (by decide) (fun K hK=>?_)
           refine uZ Try.func42 (by kernel_rfl) rfl #[.agg #[.slice A0_0 l0_0.length c0_0],.agg #[.int .i64 ((jP l1_2 0).f0),.int .i64 ((jP l1_2 0).f1),.slice A669_2 ((jP l1_2 0).f2).length c669_2],.int .i64 a2,.int .i64 (Go.bits .or .i64 a3 (ji90))] (by rfl) rfl rfl bycf ?_
           with_reducible refine (ih kj65 (by have:=HJ65.out;omega) _ _ l0_0 ((jP l1_2 0).f0) ((jP l1_2 0).f1) _ _ ((jP l1_2 0).f2) a2 (Go.bits .or .i64 a3 (ji90)) true _ ?side1 ?side2 ?side3 ?side4 A91.out).mono ?_
           (case side1=>exact byaq HR0_0.out)
           (case side2=>exact HC0_0.out)
           (case side3=>exact byaq HR669_2.out)
           (case side4=>exact HC669_2.out)
           rintro e w98 ⟨rfl,hb⟩
           refine ⟨_,rfl,?_⟩
           have n_:=q_3 (qE BK663.out hb) (qE BK664.out hb) (qB (byaj GE663.out GE664.out) hb)
           clear BK663 BK664 HB
           obtain ⟨BK663,BK664,HB⟩:=n_
           (try clear hb)
           (try clear hb2)
           (try clear hk)
           (try clear hi)
           refine hK.out _ _ ⟨(qK BK663.out 0).trans rfl,(qK BK664.out 0).trans rfl,(qK BK664.out 1).trans rfl,(qK BK664.out 2).trans rfl,((HB.out.cell (World.block_lt_of_cell? w _ hw669_0)).trans hw669_0),((HB.out.cell (World.block_lt_of_cell? w _ hw669_1)).trans hw669_1),((HB.out.cell (World.block_lt_of_cell? w _ hw669_2)).trans hw669_2),((HB.out.cell (World.block_lt_of_cell? w _ hw671_0)).trans hw671_0),((HB.out.cell (World.block_lt_of_cell? w _ hw671_1)).trans hw671_1),((HB.out.cell (World.block_lt_of_cell? w _ hw671_2)).trans hw671_2)⟩ (fun hHeld=>?_)
           clear hK K
           refine uO (N:=some 100) ?_
           refine qP (i:=12) (N:=some 101) (bb 27 8191) ?_
           refine qP (i:=14) (N:=some 103) (bb 27 24575) ?_
           refine qP (i:=18) (N:=some 107) (bb 27 286719) ?_
           refine qP (i:=19) (N:=some 108) (bb 27 811007) ?_
           refine qP (i:=23) (N:=some 112) (bb 27 9199615) ?_
           refine Zl (i:=13) (N:=some 102) (bb 27 9207807) hHeld ?_
           refine Zl (i:=15) (N:=some 104) (bb 27 9240575) hHeld ?_
           refine qP (i:=16) (N:=some 105) (bb 27 9306111) ?_
           refine Zl (i:=17) (N:=some 106) (bb 27 9437183) hHeld ?_
           refine Zl (i:=20) (N:=some 109) (bb 27 10485759) hHeld ?_
           refine qP (i:=21) (N:=some 110) (bb 27 12582911) ?_
           refine qP (i:=22) (N:=some 111) (bb 27 16777215) ?_
           refine one_ (i:=24) (N:=some 113) (bb 27 33554431) rfl rfl (uI HT_.out (by kernel_rfl)) (by decide) (fun K hK=>?_)
           refine uZ Try.func42 (by kernel_rfl) rfl #[.agg #[.slice A0_0 l0_0.length c0_0],.agg #[.int .i64 ((jP l1_2 1).f0),.int .i64 ((jP l1_2 1).f1),.slice A671_2 ((jP l1_2 1).f2).length c671_2],.int .i64 (Go.bits .or .i64 a2 (ji90)),.int .i64 a3] (by rfl) rfl rfl bycf ?_
           with_reducible refine (ih kj65 (by have:=HJ65.out;omega) _ _ l0_0 ((jP l1_2 1).f0) ((jP l1_2 1).f1) _ _ ((jP l1_2 1).f2) (Go.bits .or .i64 a2 (ji90)) a3 t672 _ ?side1 ?side2 ?side3 ?side4 A96.out).mono ?_
           (case side1=>exact byaq HR0_0.out)
           (case side2=>exact HC0_0.out)
           (case side3=>exact byaq HR671_2.out)
           (case side4=>exact HC671_2.out)
           rintro e w99 ⟨rfl,hb⟩
           refine ⟨_,rfl,?_⟩
           have n_:=q_3 (qE BK663.out hb) (qE BK664.out hb) (qB (byaj GE663.out GE664.out) hb)
           clear BK663 BK664 HB
           obtain ⟨BK663,BK664,HB⟩:=n_
           (try clear hb)
           (try clear hb2)
           (try clear hk)
           (try clear hi)
           refine hK.out _ _ ⟨(qK BK663.out 0).trans rfl,(qK BK664.out 0).trans rfl,(qK BK664.out 1).trans rfl,(qK BK664.out 2).trans rfl,((HB.out.cell (World.block_lt_of_cell? w _ hw669_0)).trans hw669_0),((HB.out.cell (World.block_lt_of_cell? w _ hw669_1)).trans hw669_1),((HB.out.cell (World.block_lt_of_cell? w _ hw669_2)).trans hw669_2),((HB.out.cell (World.block_lt_of_cell? w _ hw671_0)).trans hw671_0),((HB.out.cell (World.block_lt_of_cell? w _ hw671_1)).trans hw671_1),((HB.out.cell (World.block_lt_of_cell? w _ hw671_2)).trans hw671_2)⟩ (fun hHeld=>?_)
           clear hK K
           refine uO (N:=some 113) ?_
           refine qP (i:=25) (N:=some 114) (bb 27 67108863) ?_
           refine qP (i:=26) (N:=some 8) (bb 27 134217727) ?_
           refine Qm (Qi HT_.out (by kernel_rfl)) ?_
           try go_wp2
           go_ret
           exact ⟨bycg,byaj GE663.out GE664.out⟩
          ·rw [if_neg c93] at H
           exact absurd H (by simp)
         ·replace c92:=Bool.eq_false_iff.mpr c92
          subst c92
          rw [if_neg (show ¬ (false = true) by decide)] at H
          obtain rfl:=Option.some.inj H
          try go_wp2
          have n_:=q_3 (qF BK663.out) (qF BK664.out) (jM HB.out)
          clear BK663 BK664 HB
          obtain ⟨BK663,BK664,HB⟩:=n_
          have p669 : 0 ≤ (0 : Int):=(by omega)
          have q669 : 0 < (l1_2.length : Int):=of_decide_eq_true byag
          obtain ⟨ad669,A669_2,c669_2,e669,hx669_0,hx669_1,hx669_2,hl669_2,hi669_2⟩:=at_T28 HR1_2.out 0 p669 q669
          have hw669_2:=hx669_2
          (try rw [show ((0 : Int)).toNat = 0 from rfl] at hw669_2)
          (try rw [show 0 * 3 = 0 from rfl] at hw669_2)
          (try rw [Addr.add_zero'] at hw669_2)
          have hw669_1:=hx669_1
          (try rw [show ((0 : Int)).toNat = 0 from rfl] at hw669_1)
          (try rw [show 0 * 3 = 0 from rfl] at hw669_1)
          (try rw [Addr.add_zero'] at hw669_1)
          have hw669_0:=hx669_0
          (try rw [show ((0 : Int)).toNat = 0 from rfl] at hw669_0)
          (try rw [show 0 * 3 = 0 from rfl] at hw669_0)
          (try rw [Addr.add_zero'] at hw669_0)
          cases e669
          have qi669 : (0 < l1_2.length) = True:=eq_true (by omega)
          (try rw [show ((0 : Int)).toNat = 0 from rfl] at hx669_0)
          (try rw [show 0 * 3 = 0 from rfl] at hx669_0)
          (try rw [Addr.add_zero'] at hx669_0)
          (try rw [show ((0 : Int)).toNat = 0 from rfl] at hx669_1)
          (try rw [show 0 * 3 = 0 from rfl] at hx669_1)
          (try rw [Addr.add_zero'] at hx669_1)
          (try rw [show ((0 : Int)).toNat = 0 from rfl] at hx669_2)
          (try rw [show 0 * 3 = 0 from rfl] at hx669_2)
          (try rw [Addr.add_zero'] at hx669_2)
          replace hx669_0:=(HB.out.cell (World.block_lt_of_cell? w _ hx669_0)).trans hx669_0
          replace hx669_1:=(HB.out.cell (World.block_lt_of_cell? w _ hx669_1)).trans hx669_1
          replace hx669_2:=(HB.out.cell (World.block_lt_of_cell? w _ hx669_2)).trans hx669_2
          have HR669_2:=qA.mk hi669_2
          have HC669_2:=qA.mk hl669_2
          clear hi669_2 hl669_2
          replace p669:=eq_true p669
          replace q669:=eq_true q669
          refine kX (n:=27) (S:=fun w'=>w'.cell? ⟨gb663,0,none⟩ = some (.slice A0_0 l0_0.length c0_0)∧w'.cell? ⟨gb664,0,none⟩ = some (.int .i64 a1_0)∧w'.cell? ⟨gb664,1,none⟩ = some (.int .i64 a1_1)∧w'.cell? ⟨gb664,2,none⟩ = some (.slice (some ad669) l1_2.length c1_2)∧w'.cell? ad669 = some (.int .i64 ((jP l1_2 0).f0))∧w'.cell? ⟨ad669.block,ad669.off + 1,none⟩ = some (.int .i64 ((jP l1_2 0).f1))∧w'.cell? ⟨ad669.block,ad669.off + 2,none⟩ = some (.slice A669_2 ((jP l1_2 0).f2).length c669_2)) (ds:=[]) (bb 27 0) (by kernel_rfl) rfl rfl ⟨(qK BK663.out 0).trans rfl,(qK BK664.out 0).trans rfl,(qK BK664.out 1).trans rfl,(qK BK664.out 2).trans rfl,((HB.out.cell (World.block_lt_of_cell? w _ hw669_0)).trans hw669_0),((HB.out.cell (World.block_lt_of_cell? w _ hw669_1)).trans hw669_1),((HB.out.cell (World.block_lt_of_cell? w _ hw669_2)).trans hw669_2)⟩ (fun hHeld=>?_);refine kD qR.tab10 qR.bits10 (fun HT_ HW_=>?_)
          generalize wc.drew = w100 at BK663 BK664 HB HR669_2 hx669_0 hx669_1 hx669_2 hHeld ⊢
          refine qP (i:=1) (N:=some 90) (bb 27 2) ?_
          refine qP (i:=5) (N:=some 94) (bb 27 34) ?_
          refine qP (i:=6) (N:=some 95) (bb 27 98) ?_
          refine qP (i:=7) (N:=some 96) (bb 27 226) ?_
          refine takeZG (i:=0) (N:=some 89) (bb 27 227) hHeld ?_
          refine takeZG (i:=2) (N:=some 91) (bb 27 231) hHeld ?_
          refine qP (i:=3) (N:=some 92) (bb 27 239) ?_
          refine takeZG (i:=4) (N:=some 93) (bb 27 255) hHeld ?_
          refine takeZG (i:=8) (N:=some 97) (bb 27 511) hHeld ?_
          refine qP (i:=9) (N:=some 98) (bb 27 1023) ?_
          refine qP (i:=10) (N:=some 99) (bb 27 2047) ?_
          refine one_ (i:=11) (N:=some 100) (bb 27 4095) rfl rfl (uI HT_.out (by kernel_rfl)) (by decide) (fun K hK=>?_)
          refine uZ Try.func42 (by kernel_rfl) rfl #[.agg #[.slice A0_0 l0_0.length c0_0],.agg #[.int .i64 ((jP l1_2 0).f0),.int .i64 ((jP l1_2 0).f1),.slice A669_2 ((jP l1_2 0).f2).length c669_2],.int .i64 a2,.int .i64 (Go.bits .or .i64 a3 (ji90))] (by rfl) rfl rfl bycf ?_
          with_reducible refine (ih kj65 (by have:=HJ65.out;omega) _ _ l0_0 ((jP l1_2 0).f0) ((jP l1_2 0).f1) _ _ ((jP l1_2 0).f2) a2 (Go.bits .or .i64 a3 (ji90)) false _ ?side1 ?side2 ?side3 ?side4 A91.out).mono ?_
          (case side1=>exact byaq HR0_0.out)
          (case side2=>exact HC0_0.out)
          (case side3=>exact byaq HR669_2.out)
          (case side4=>exact HC669_2.out)
          rintro e w101 ⟨rfl,hb⟩
          refine ⟨_,rfl,?_⟩
          have n_:=q_3 (qE BK663.out hb) (qE BK664.out hb) (qB (byaj GE663.out GE664.out) hb)
          clear BK663 BK664 HB
          obtain ⟨BK663,BK664,HB⟩:=n_
          (try clear hb)
          (try clear hb2)
          (try clear hk)
          (try clear hi)
          refine hK.out _ _ ⟨(qK BK663.out 0).trans rfl,(qK BK664.out 0).trans rfl,(qK BK664.out 1).trans rfl,(qK BK664.out 2).trans rfl,((HB.out.cell (World.block_lt_of_cell? w _ hw669_0)).trans hw669_0),((HB.out.cell (World.block_lt_of_cell? w _ hw669_1)).trans hw669_1),((HB.out.cell (World.block_lt_of_cell? w _ hw669_2)).trans hw669_2)⟩ (fun hHeld=>?_)
          clear hK K
          refine uO (N:=some 100) ?_
          refine qP (i:=12) (N:=some 101) (bb 27 8191) ?_
          refine uP (i:=13) (N:=some 102) (bb 27 16383) ?_
          refine uP (i:=14) (N:=some 103) (bb 27 32767) ?_
          refine uP (i:=15) (N:=some 104) (bb 27 65535) ?_
          refine uP (i:=16) (N:=some 105) (bb 27 131071) ?_
          refine uP (i:=17) (N:=some 106) (bb 27 262143) ?_
          refine uP (i:=18) (N:=some 107) (bb 27 524287) ?_
          refine uP (i:=19) (N:=some 108) (bb 27 1048575) ?_
          refine uP (i:=20) (N:=some 109) (bb 27 2097151) ?_
          refine uP (i:=21) (N:=some 110) (bb 27 4194303) ?_
          refine uP (i:=22) (N:=some 111) (bb 27 8388607) ?_
          refine uP (i:=23) (N:=some 112) (bb 27 16777215) ?_
          refine uP (i:=24) (N:=some 113) (bb 27 33554431) ?_
          refine qP (i:=25) (N:=some 114) (bb 27 67108863) ?_
          refine qP (i:=26) (N:=some 8) (bb 27 134217727) ?_
          refine Qm (Qi HT_.out (by kernel_rfl)) ?_
          try go_wp2
          go_ret
          exact ⟨bycg,byaj GE663.out GE664.out⟩
        ·rw [if_neg c89] at H
         exact absurd H (by simp)
       ·rw [if_neg c88] at H
        exact absurd H (by simp)
   ·rw [if_neg c65] at H
    obtain ⟨c65b0,c65b1⟩:=eqF c65
    obtain rfl:=Option.some.inj H
    go_enter Try.func42,Try.ntmps42
    go_wp2_with (first|((with_reducible refine qO (N:=4) rfl ?_);(try (refine uG (by rfl) ?_;dsimp only));refine zM (N:=4) (cs:=#[.slice A0_0 l0_0.length c0_0]) (t:=25) ?_;intro gb663 hg w102 hbox hb;have n_:=q_4 (qB byab hb) (hbox) ((bych : w.heap.size ≤ gb663)) ((bych : w.heap.size ≤ gb663));clear HB;obtain ⟨HB,BK663,GW663,GE663⟩:=n_;clear hb hbox hg)|((with_reducible refine qO (N:=5) rfl ?_);(try (refine uG (by rfl) ?_;dsimp only));refine zM (N:=5) (cs:=#[.int .i64 a1_0,.int .i64 a1_1,.slice A1_2 l1_2.length c1_2]) (t:=28) ?_;intro gb664 hg w103 hbox hb;have n_:=q_6 (qE BK663.out hb) (qB (byad GE663.out) hb) (hbox) ((byci GE663.out : w.heap.size ≤ gb664)) ((byci GE663.out : w.heap.size ≤ gb664)) ((by rw [hg];exact Nat.ne_of_lt (jZ BK663.out) : gb663≠gb664));clear BK663 HB;obtain ⟨BK663,HB,BK664,GW664,GE664,NB663_664⟩:=n_;have NB664_663:=ns NB663_664;clear hb hbox hg;have hnb104:=NB664_663.out;have hnc104:=NB663_664.out;obtain ⟨hcz105_0,hcz105_1,hcz105_2,hfz105_0,hfz105_1,hfz105_2⟩:=cz3 BK664.out))
    go_ret
    exact ⟨byac,byaj GE663.out GE664.out⟩
end Go.Proofs.Ytkkbdimegpdbgaa.P
