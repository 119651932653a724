/- Functions of the program as Lean functions, and the walks that show that the calls answer so; written by a program of this session (a changed print) and by hand. -/
import Derived.Test.YtkkbdimegpdbgaaQsPx0
import Derived.Test.YtkkbdimegpdbgaaQsPx11
import Derived.Test.YtkkbdimegpdbgaaQsPx22
namespace Go.Proofs.Ytkkbdimegpdbgaa.P
open Go.RowKit Go.Proofs.YtkkbdimegpdbgaaW.PrintWords Go.Proofs.YtkkbdimegpdbgaaW.PrintLast Go.Proofs.YtkkbdimegpdbgaaW.PrintMore
attribute [local go_sem] kF kD kV kU uJ uK kG kE
set_option linter.unusedVariables false
set_option linter.unusedSimpArgs false
mutual
def qK.j0 : Nat→Int→Int→Bool→Int→Bool→List Int→Int→List (S58)→Option (Int × Int × (List (S28)) × Int)
 | 0,_,_,_,_,_,_,_,_=>none
 | k + 1,x2,x3,x4,x11,x26,x1000,x1001,x596000=>if x26 = true then ((zS.f x1000 x1001 0 4).bind fun bt599=>((qZ.f x1000 bt599.2 2).bind fun bt601=>(some (bt599.1,bt601.1,([] : List (S28)),bt601.2)))) else ((jC.f k x596000 (Go.bits .andNot .i64 x11 x3)).bind fun t603=>(if t603 = 0 then (qK.j1 k x2 x3 x4 x11 true x1000 x1001 x596000) else (qK.j1 k x2 x3 x4 x11 ((Go.bits .and .i64 t603 x2) != x2) x1000 x1001 x596000)))
def qK.j1 : Nat→Int→Int→Bool→Int→Bool→List Int→Int→List (S58)→Option (Int × Int × (List (S28)) × Int)
 | 0,_,_,_,_,_,_,_,_=>none
 | k + 1,x2,x3,x4,x11,x45,x1000,x1001,x596000=>if x45 = true then (some (1,0,([] : List (S28)),x1001)) else ((jC.f k x596000 (Go.bits .andNot .i64 x11 x2)).bind fun t604=>(if t604 = 0 then (qK.j2 k x2 x3 x4 (Go.bits .andNot .i64 x11 (Go.bits .or .i64 x2 x3)) true x1000 x1001 x596000) else (qK.j2 k x2 x3 x4 (Go.bits .andNot .i64 x11 (Go.bits .or .i64 x2 x3)) ((Go.bits .andNot .i64 x11 (Go.bits .or .i64 x2 x3)) == 0) x1000 x1001 x596000)))
def qK.j2 : Nat→Int→Int→Bool→Int→Bool→List Int→Int→List (S58)→Option (Int × Int × (List (S28)) × Int)
 | 0,_,_,_,_,_,_,_,_=>none
 | k + 1,x2,x3,x4,x13,x61,x1000,x1001,x596000=>if x61 = true then (some (2,0,([] : List (S28)),x1001)) else ((qZ.f x1000 x1001 (x596000.length : Int)).bind fun bt605=>(qK.l0 k x2 x3 x4 x13 bt605.1 x1000 bt605.2 x596000))
def qK.l0 : Nat→Int→Int→Bool→Int→Int→List Int→Int→List (S58)→Option (Int × Int × (List (S28)) × Int)
 | 0,_,_,_,_,_,_,_,_=>none
 | k + 1,x2,x3,x4,x13,x14,x1000,x1001,x596000=>if 0 ≤ x14 then (if (Go.bits .and .i64 (shr .i64 x13 x14) 1) = 0 then (if (x596000.length : Int) = 0 then (none) else (qK.l0 k x2 x3 x4 x13 (Int.tmod (wrap64 (x14 + 1)) (x596000.length : Int)) x1000 x1001 x596000)) else ((qK.f k x1000 x1001 x596000 x2 (Go.bits .or .i64 x3 (shl .i64 1 x14)) x4).bind fun bt608=>(if ([] : List (S28)).length < 3518437208883 then ((some (([] : List (S28)) ++ [(⟨bt608.1,bt608.2.1,bt608.2.2.1⟩ : S28)] : List (S28))).bind fun y614=>((qK.f k x1000 bt608.2.2.2 x596000 (Go.bits .or .i64 x2 (shl .i64 1 x14)) x3 x4).bind fun bt617=>(if y614.length < 3518437208883 then (some (3,x14,(y614 ++ [(⟨bt617.1,bt617.2.1,bt617.2.2.1⟩ : S28)]),bt617.2.2.2)) else (none)))) else (none)))) else (none)
def qK.f : Nat→List Int→Int→List (S58)→Int→Int→Bool→Option (Int × Int × (List (S28)) × Int)
 | 0,_,_,_,_,_,_=>none
 | k + 1,s0_0,s0_1,l1_0,a2,a3,a4=>if a4 = true then ((qZ.f s0_0 s0_1 12).bind fun bt597=>(qK.j0 k a2 a3 a4 (wrap64 ((shl .i64 1 (l1_0.length : Int)) - 1)) (bt597.1 == 11) s0_0 bt597.2 l1_0)) else (qK.j0 k a2 a3 a4 (wrap64 ((shl .i64 1 (l1_0.length : Int)) - 1)) false s0_0 s0_1 l1_0)
end
def qK.T14 : Bool × List (List Nat × List Nat):=(true,[([],[]),([0],[0]),([],[]),([],[]),([],[]),([],[]),([],[]),([6],[6]),([5,7],[5,7]),([],[]),([2,3,4,8,9],[2,3,4,8,9]),([10],[10]),([1,11,10],[1,11]),([0,1,2,3,4,5,6,7,8,9,10,11,12],[]),([13,12,12,0,1,2,3,4,5,6,7,8,9,10,11,12],[12,13])])
def qK.B14 : List Nat:=[0,1,0,0,0,0,0,64,224,0,1020,2044,4095,8191,16383]
theorem qK.tab14 : rtab .any (opsOf Try.f40 14) = qK.T14:=by kernel_rfl
theorem qK.bits14 : Qv qK.T14.2 qK.B14 = true:=by kernel_rfl
def qK.T15 : Bool × List (List Nat × List Nat):=(true,[([],[]),([0],[0]),([],[]),([],[]),([],[]),([],[]),([5],[5]),([4,6],[4,6]),([],[]),([],[]),([2,3,7,8,9],[2,3,7,8,9]),([10],[10]),([1,11,10],[1,11]),([0,1,2,3,4,5,6,7,8,9,10,11,12],[]),([13,12,12,0,1,2,3,4,5,6,7,8,9,10,11,12],[12,13])])
def qK.B15 : List Nat:=[0,1,0,0,0,0,32,112,0,0,1020,2044,4095,8191,16383]
theorem qK.tab15 : rtab .any (opsOf Try.f40 15) = qK.T15:=by kernel_rfl
theorem qK.bits15 : Qv qK.T15.2 qK.B15 = true:=by kernel_rfl
set_option maxHeartbeats 8000000 in
set_option maxRecDepth 100000 in
theorem qK.calls (k : Nat) : ∀ (g : Nat) (s0_0 : List Int) (s0_1 : Int) (A1_0 : Option Addr) (c1_0 : Nat) (l1_0 : List (S58)) (a2 : Int) (a3 : Int) (a4 : Bool) (r1 : Int) (r2 : Int) (r3 : List (S28)) (r4 : Int) (w0 w : World) (hI : qB w0 w g s0_0 s0_1) (hB : Below w0.heap.size w0 w) (hr1_0 : ∀ W_,qJ w W_ g none→Kd.C k58 W_ A1_0 l1_0.length l1_0) (hc1_0 : l1_0.length ≤ c1_0) (h : qK.f k s0_0 s0_1 l1_0 a2 a3 a4 = some (r1,r2,r3,r4)),
  Calls Try.prog 40 #[.pointer (some ⟨g,0,none⟩),.agg #[.slice A1_0 l1_0.length c1_0],.int .i64 a2,.int .i64 a3,.bool a4] w fun e w'=>∃ v2_ : Value,e = .returned (.agg #[.int .i64 r1,.int .i64 r2,v2_])∧Kd.R k28 28 w' w.heap.size (fun _=>True) v2_ r3∧qB w0 w' g s0_0 r4∧Below w0.heap.size w0 w'∧qJ w w' g none:=by
 induction k using Nat.strongRecOn with
 | _ k ih =>
 intro g s0_0 s0_1 A1_0 c1_0 l1_0 a2 a3 a4 r1 r2 r3 r4 w0 w hI hB hr1_0 hc1_0 h
 cases k with
 | zero=>exact absurd h (by simp [qK.f])
 | succ k =>
 simp only [qK.f] at h
 have hu25:=Try.underlying25
 have hu28:=Try.underlying28
 have HR1_0:=qA.mk hr1_0
 have HC1_0:=qA.mk hc1_0
 clear hr1_0 hc1_0
 have HI0:=qA.mk hI
 have HK:=qA.mk (qJ.refl w g none)
 have HL:=qA.mk hB.size
 clear hI
 have HW0:=qA.mk hB.size
 have HB:=qA.mk hB
 clear hB
 have H:=h
 clear h
 obtain ⟨ji6,hji6⟩ : ∃ j_ : Int,(shl .i64 1 (l1_0.length : Int)) = j_:=⟨_,rfl⟩
 (first|rw [hji6] at H|(simp only [hji6] at H))
 obtain ⟨hji6_,hji6z,hji6p,hji6q,hji6r,hji6s,hji6u,hji6v,hji6y,hji6x⟩:=jiB hji6
 have HC7:=qA.mk H
 clear H
 go_enter Try.func40,Try.ntmps40
 go_upto_region 2 with (first|((with_reducible refine qP (N:=6) rfl ?_);refine zV (N:=6) (cs:=#[.slice A1_0 l1_0.length c1_0]) (t:=25) ?_;intro gb595 hg w8 hbox hb;have n_:=q_7 (qB.below (bybj HI0.out) hb) (qJ.trans bybl (qJ.of_below hb g none) (.inl rfl)) (qC (bybk HI0.out) hb) (hbox) ((byco : w.heap.size ≤ gb595)) ((Nat.le_trans HW0.out (byco : w.heap.size ≤ gb595) : w0.heap.size ≤ gb595)) ((by rw [hg];exact Nat.ne_of_lt (qB.lt (show qB w0 _ g s0_0 s0_1 from by repeat (first|(with_reducible first|exact HI0.out|apply qB.alloc|apply qB.drewN|apply qB.drew|apply qB.vZ)|exact HI0.out))) : g≠gb595));clear HI0 HK HB;obtain ⟨HI0,HK,HB,BK595,GW595,GE595,NB0_595⟩:=n_;have NB595_0:=ns NB0_595;clear hb hbox hg)|((with_reducible refine qP (N:=10) rfl ?_);refine zV (N:=10) (cs:=#[.int .i64 0,.int .i64 0,.slice none 0 0]) (t:=28) ?_;intro gb596 hg w9 hbox hb;have n_:=q_9 (qB.below (bybm HI0.out NB0_595.out) hb) (qH BK595.out hb) (qJ.trans (bybn GW595.out) (qJ.of_below hb g none) (.inl rfl)) (qC (bybo HI0.out GE595.out) hb) (hbox) ((bycp GW595.out : w.heap.size ≤ gb596)) ((Nat.le_trans HW0.out (bycp GW595.out : w.heap.size ≤ gb596) : w0.heap.size ≤ gb596)) ((by rw [hg];exact Nat.ne_of_lt (vF BK595.out) : gb595≠gb596)) ((by rw [hg];exact Nat.ne_of_lt (qB.lt (show qB w0 _ g s0_0 s0_1 from by repeat (first|(with_reducible first|exact HI0.out|apply qB.alloc|apply qB.drewN|apply qB.drew|apply qB.vZ|refine qB.far ?_ NB0_595.out _)|exact HI0.out))) : g≠gb596));clear HI0 BK595 HK HB;obtain ⟨HI0,BK595,HK,HB,BK596,GW596,GE596,NB595_596,NB0_596⟩:=n_;have NB596_595:=ns NB595_596;have NB596_0:=ns NB0_596;clear hb hbox hg;have hnb10:=NB595_596.out;have hnc10:=NB596_595.out;have hnb11:=NB595_0.out;have hnc11:=NB0_595.out;obtain ⟨hcz12_0,hfz12_0⟩:=cz1 BK595.out))
 (try simp only [Act.put,List.setIfInBounds_toArray,List.set_cons_zero,List.set_cons_succ])
 go_cut [26] (fun v26 wc=>∃ (kq : Nat) (x26_6 : Bool) (x1001_6 : Int),v26 = .bool x26_6∧qA (qK.j0 kq a2 a3 a4 (wrap64 ((ji6) - 1)) x26_6 s0_0 x1001_6 l1_0 = some (r1,r2,r3,r4))∧qA (kq ≤ k)∧qA (wc.heap[gb595]? = some (.cells #[(.slice A1_0 l1_0.length c1_0)] 25 (0,0)))∧qA (wc.heap[gb596]? = some (.cells #[.int .i64 0,.int .i64 0,(.slice none 0 0)] 28 (0,0)))∧qA (qB w0 wc g s0_0 x1001_6)∧qA (qJ w wc g none)∧qA (Below w0.heap.size w0 wc))
 case first =>
  have H:=HC7.out
  clear HC7
  by_cases c13 : a4 = true
  ·subst c13
   rw [if_pos rfl] at H
   replace H:=Option.bind_eq_some_iff.mp H
   obtain ⟨⟨t597,t598⟩,A140,H⟩:=H
   try dsimp only at H
   have A14:=qA.mk A140
   clear A140
   have H':=qA.mk H
   clear H
   go_wp2_with (first|(go_at_call 29;(with_reducible refine (qZ.calls g s0_0 s0_1 12 t597 t598 w0 _ ?side1 ?side2 A14.out).mono ?_);(case side1=>exact bybp HI0.out NB0_595.out NB0_596.out);(case side2=>exact bybq HI0.out GE595.out GE596.out);rintro e w15 ⟨rfl,hi,hb,hk⟩;have n_:=q_5 (qJ.blkB hk BK595.out NB595_0.out (by simp)) (qJ.blkB hk BK596.out NB596_0.out (by simp)) (qJ.trans (bybr GW595.out GW596.out) hk (.inl rfl)) (hb) (hi);clear BK595 BK596 HK HB HI0;obtain ⟨BK595,BK596,HK,HB,HI0⟩:=n_;clear hb hk hi))
   go_meet
   case rel=>exact ⟨_,((t597 == 11)),(t598),byae,H',⟨byap⟩,⟨byaf BK595.out⟩,⟨byaf BK596.out⟩,⟨bybp HI0.out NB0_595.out NB0_596.out⟩,⟨bybr GW595.out GW596.out⟩,⟨bybq HI0.out GE595.out GE596.out⟩⟩
  ·replace c13:=Bool.eq_false_iff.mpr c13
   subst c13
   rw [if_neg (show ¬ (false = true) by decide)] at H
   have H':=qA.mk H
   clear H
   go_wp2
   go_meet
   case rel=>exact ⟨_,(false),(s0_1),byae,H',⟨byap⟩,⟨byaf BK595.out⟩,⟨byaf BK596.out⟩,⟨bybp HI0.out NB0_595.out NB0_596.out⟩,⟨bybr GW595.out GW596.out⟩,⟨bybq HI0.out GE595.out GE596.out⟩⟩
 case rest =>
  clear HC7
  obtain ⟨kq,x26_6,x1001_6,rfl,HA,HJ6,BK595,BK596,HI0,HK,HB⟩:=hcut
  cases kq with
  | zero=>exact absurd HA.out (by simp [qK.j0])
  | succ kj6 =>
   have H:=HA.out
   clear HA
   simp only [qK.j0] at H
   by_cases c16 : x26_6 = true
   ·subst c16
    rw [if_pos rfl] at H
    replace H:=Option.bind_eq_some_iff.mp H
    obtain ⟨⟨t599,t600⟩,A170,H⟩:=H
    try dsimp only at H
    have A17:=qA.mk A170
    clear A170
    replace H:=Option.bind_eq_some_iff.mp H
    obtain ⟨⟨t601,t602⟩,A180,H⟩:=H
    try dsimp only at H
    have A18:=qA.mk A180
    clear A180
    simp only [Option.some.injEq,Prod.mk.injEq] at H
    obtain ⟨rfl,rfl,rfl,rfl⟩:=H
    go_wp2_with (first|((with_reducible refine qI (f:=28) rfl ?_);refine qY (some 28) rfl rfl Try.func28 (by kernel_rfl) rfl #[.pointer (some ⟨g,0,none⟩),.int .i64 0,.int .i64 4] rfl byah ?_;(with_reducible refine (zS.calls g s0_0 x1001_6 0 4 t599 t600 w0 _ ?side1 ?side2 A17.out).mono ?_);(case side1=>exact bybp HI0.out NB0_595.out NB0_596.out);(case side2=>exact bybq HI0.out GE595.out GE596.out);rintro e w19 ⟨rfl,hi,hb,hk⟩;refine ⟨_,rfl,?_⟩;have n_:=q_5 (qJ.blkB hk BK595.out NB595_0.out (by simp)) (qJ.blkB hk BK596.out NB596_0.out (by simp)) (qJ.trans (bybr GW595.out GW596.out) hk (.inl rfl)) (hb) (hi);clear BK595 BK596 HK HB HI0;obtain ⟨BK595,BK596,HK,HB,HI0⟩:=n_;clear hb hk hi)|((with_reducible refine qI (f:=29) rfl ?_);refine qY (some 30) rfl rfl Try.func29 (by kernel_rfl) rfl #[.pointer (some ⟨g,0,none⟩),.int .i64 2] rfl byah ?_;(with_reducible refine (qZ.calls g s0_0 t600 2 t601 t602 w0 _ ?side1 ?side2 A18.out).mono ?_);(case side1=>exact bybp HI0.out NB0_595.out NB0_596.out);(case side2=>exact bybq HI0.out GE595.out GE596.out);rintro e w20 ⟨rfl,hi,hb,hk⟩;refine ⟨_,rfl,?_⟩;have n_:=q_5 (qJ.blkB hk BK595.out NB595_0.out (by simp)) (qJ.blkB hk BK596.out NB596_0.out (by simp)) (qJ.trans (bybr GW595.out GW596.out) hk (.inl rfl)) (hb) (hi);clear BK595 BK596 HK HB HI0;obtain ⟨BK595,BK596,HK,HB,HI0⟩:=n_;clear hb hk hi;have hnb21:=NB596_595.out;have hnc21:=NB595_596.out;have hnb22:=NB596_0.out;have hnc22:=NB0_596.out;obtain ⟨hcz23_0,hcz23_1,hcz23_2,hfz23_0,hfz23_1,hfz23_2⟩:=cz3 BK596.out))
    refine bodyPost_ret (results_cell_row rfl _ _ gb596 28 #[.int .i64 t599,.int .i64 t601,.slice none 0 0] (0,0) _ rfl (by (with_reducible repeat (first|refine qF ?_ _|refine qG ?_|refine qE ?_ _));refine qO (cs:=#[.int .i64 t599,.int .i64 t601,.slice none 0 0]) ?_ 2 _ rfl;(with_reducible repeat (first|refine qF ?_ _|refine qG ?_|refine qE ?_ _));refine qO (cs:=#[.int .i64 t599,.int .i64 0,.slice none 0 0]) ?_ 1 _ rfl;(with_reducible repeat (first|refine qF ?_ _|refine qG ?_|refine qE ?_ _));refine qO (cs:=#[.int .i64 0,.int .i64 0,.slice none 0 0]) ?_ 0 _ rfl;(with_reducible repeat (first|refine qF ?_ _|refine qG ?_|refine qE ?_ _));exact BK596.out) Try.underlying28 rfl (by kernel_rfl)) rfl ?_
    exact ⟨_,bycc,byau,bybp HI0.out NB0_595.out NB0_596.out,bybq HI0.out GE595.out GE596.out,bybr GW595.out GW596.out⟩
   ·replace c16:=Bool.eq_false_iff.mpr c16
    subst c16
    rw [if_neg (show ¬ (false = true) by decide)] at H
    replace H:=Option.bind_eq_some_iff.mp H
    obtain ⟨t603,A240,H⟩:=H
    try dsimp only at H
    have A24:=qA.mk A240
    clear A240
    have HC25:=qA.mk H
    clear H
    have hnb26:=NB595_596.out
    have hnc26:=NB596_595.out
    have hnb27:=NB595_0.out
    have hnc27:=NB0_595.out
    obtain ⟨hcz28_0,hfz28_0⟩:=cz1 BK595.out
    go_upto_region 5 with (first|((with_reducible refine qI (f:=58) rfl ?_);refine qY (some 36) rfl rfl Try.func58 (by kernel_rfl) rfl #[.agg #[.slice A1_0 l1_0.length c1_0],.int .i64 (Go.bits .andNot .i64 (wrap64 ((ji6) - 1)) a3)] rfl bycd ?_;(with_reducible refine (jC.calls kj6 _ _ l1_0 (Go.bits .andNot .i64 (wrap64 ((ji6) - 1)) a3) t603 _ ?side1 ?side2 A24.out).mono ?_);(case side1=>exact Kd.C_foot_now HR1_0.out (bybr GW595.out GW596.out));(case side2=>exact HC1_0.out);rintro e w29 ⟨rfl,hb⟩;refine ⟨_,rfl,?_⟩;have n_:=q_5 (qH BK595.out hb) (qH BK596.out hb) (qB.below (bybp HI0.out NB0_595.out NB0_596.out) hb) (qJ.trans (bybr GW595.out GW596.out) (qJ.of_below hb g none) (.inl rfl)) (qC (bybq HI0.out GE595.out GE596.out) hb);clear BK595 BK596 HI0 HK HB;obtain ⟨BK595,BK596,HI0,HK,HB⟩:=n_;clear hb))
    (try simp only [Act.put,List.setIfInBounds_toArray,List.set_cons_zero,List.set_cons_succ])
    go_cut [45] (fun v45 wc=>∃ (kq : Nat) (x45_24 : Bool),v45 = .bool x45_24∧qA (qK.j1 kq a2 a3 a4 (wrap64 ((ji6) - 1)) x45_24 s0_0 x1001_6 l1_0 = some (r1,r2,r3,r4))∧qA (kq ≤ kj6)∧qA (wc.heap[gb595]? = some (.cells #[(.slice A1_0 l1_0.length c1_0)] 25 (0,0)))∧qA (wc.heap[gb596]? = some (.cells #[.int .i64 0,.int .i64 0,(.slice none 0 0)] 28 (0,0)))∧qA (qB w0 wc g s0_0 x1001_6)∧qA (qJ w wc g none)∧qA (Below w0.heap.size w0 wc))
    case first =>
     have H:=HC25.out
     clear HC25
     by_cases c30 : t603 = 0
     ·rw [if_pos c30] at H
      obtain ⟨c30b0,c30b1⟩:=eqT c30
      clear c30
      (first|rw [c30b0]|(simp only [Qe,Qh];rw [c30b0])|skip)
      have H':=qA.mk H
      clear H
      go_wp2
      go_meet
      case rel=>exact ⟨_,(true),byae,H',⟨by have:=HJ6.out;first|omega|exact Nat.le_refl _⟩,⟨byaf BK595.out⟩,⟨byaf BK596.out⟩,⟨bybp HI0.out NB0_595.out NB0_596.out⟩,⟨bybr GW595.out GW596.out⟩,⟨bybq HI0.out GE595.out GE596.out⟩⟩
     ·rw [if_neg c30] at H
      obtain ⟨c30b0,c30b1⟩:=eqF c30
      (first|rw [c30b0]|(simp only [Qe,Qh];rw [c30b0])|skip)
      have H':=qA.mk H
      clear H
      go_wp2
      go_meet
      case rel=>exact ⟨_,(((Go.bits .and .i64 t603 a2) != a2)),byae,H',⟨by have:=HJ6.out;first|omega|exact Nat.le_refl _⟩,⟨byaf BK595.out⟩,⟨byaf BK596.out⟩,⟨bybp HI0.out NB0_595.out NB0_596.out⟩,⟨bybr GW595.out GW596.out⟩,⟨bybq HI0.out GE595.out GE596.out⟩⟩
    case rest =>
     clear HC25
     obtain ⟨kq,x45_24,rfl,HA,HJ24,BK595,BK596,HI0,HK,HB⟩:=hcut
     cases kq with
     | zero=>exact absurd HA.out (by simp [qK.j1])
     | succ kj24 =>
      have H:=HA.out
      clear HA
      simp only [qK.j1] at H
      by_cases c31 : x45_24 = true
      ·subst c31
       rw [if_pos rfl] at H
       simp only [Option.some.injEq,Prod.mk.injEq] at H
       obtain ⟨rfl,rfl,rfl,rfl⟩:=H
       have hnb32:=NB596_595.out
       have hnc32:=NB595_596.out
       have hnb33:=NB596_0.out
       have hnc33:=NB0_596.out
       obtain ⟨hcz34_0,hcz34_1,hcz34_2,hfz34_0,hfz34_1,hfz34_2⟩:=cz3 BK596.out
       go_wp2
       refine bodyPost_ret (results_cell_row rfl _ _ gb596 28 #[.int .i64 1,.int .i64 0,.slice none 0 0] (0,0) _ rfl (byax BK596.out) Try.underlying28 rfl (by kernel_rfl)) rfl ?_
       exact ⟨_,bycc,byau,bybp HI0.out NB0_595.out NB0_596.out,bybq HI0.out GE595.out GE596.out,bybr GW595.out GW596.out⟩
      ·replace c31:=Bool.eq_false_iff.mpr c31
       subst c31
       rw [if_neg (show ¬ (false = true) by decide)] at H
       have HC35:=qA.mk H
       clear H
       go_upto_region 8 with (fail)
       go_cut [61] (fun v61 wc=>∃ (kq : Nat) (x61_34 : Bool),v61 = .bool x61_34∧qA (qK.j2 kq a2 a3 a4 (Go.bits .andNot .i64 (wrap64 ((ji6) - 1)) (Go.bits .or .i64 a2 a3)) x61_34 s0_0 x1001_6 l1_0 = some (r1,r2,r3,r4))∧qA (kq ≤ kj24)∧qA (wc.heap[gb595]? = some (.cells #[(.slice A1_0 l1_0.length c1_0)] 25 (0,0)))∧qA (wc.heap[gb596]? = some (.cells #[.int .i64 0,.int .i64 0,(.slice none 0 0)] 28 (0,0)))∧qA (qB w0 wc g s0_0 x1001_6)∧qA (qJ w wc g none)∧qA (Below w0.heap.size w0 wc))
       case first =>
        have H:=HC35.out
        clear HC35
        replace H:=Option.bind_eq_some_iff.mp H
        obtain ⟨t604,A360,H⟩:=H
        try dsimp only at H
        have A36:=qA.mk A360
        clear A360
        by_cases c37 : t604 = 0
        ·rw [if_pos c37] at H
         obtain ⟨c37b0,c37b1⟩:=eqT c37
         clear c37
         (first|rw [c37b0]|(simp only [Qe,Qh];rw [c37b0])|skip)
         have H':=qA.mk H
         clear H
         have hnb38:=NB595_596.out
         have hnc38:=NB596_595.out
         have hnb39:=NB595_0.out
         have hnc39:=NB0_595.out
         obtain ⟨hcz40_0,hfz40_0⟩:=cz1 BK595.out
         go_wp2_with (first|((with_reducible refine qI (f:=58) rfl ?_);refine qY (some 56) rfl rfl Try.func58 (by kernel_rfl) rfl #[.agg #[.slice A1_0 l1_0.length c1_0],.int .i64 (Go.bits .andNot .i64 (wrap64 ((ji6) - 1)) a2)] rfl bycd ?_;(with_reducible refine (jC.calls kj24 _ _ l1_0 (Go.bits .andNot .i64 (wrap64 ((ji6) - 1)) a2) t604 _ ?side1 ?side2 A36.out).mono ?_);(case side1=>exact Kd.C_foot_now HR1_0.out (bybr GW595.out GW596.out));(case side2=>exact HC1_0.out);rintro e w41 ⟨rfl,hb⟩;refine ⟨_,rfl,?_⟩;have n_:=q_5 (qH BK595.out hb) (qH BK596.out hb) (qB.below (bybp HI0.out NB0_595.out NB0_596.out) hb) (qJ.trans (bybr GW595.out GW596.out) (qJ.of_below hb g none) (.inl rfl)) (qC (bybq HI0.out GE595.out GE596.out) hb);clear BK595 BK596 HI0 HK HB;obtain ⟨BK595,BK596,HI0,HK,HB⟩:=n_;clear hb))
         go_meet
         case rel=>exact ⟨_,(true),byae,H',⟨by have:=HJ6.out;have:=HJ24.out;first|omega|exact Nat.le_refl _⟩,⟨byaf BK595.out⟩,⟨byaf BK596.out⟩,⟨bybp HI0.out NB0_595.out NB0_596.out⟩,⟨bybr GW595.out GW596.out⟩,⟨bybq HI0.out GE595.out GE596.out⟩⟩
        ·rw [if_neg c37] at H
         obtain ⟨c37b0,c37b1⟩:=eqF c37
         (first|rw [c37b0]|(simp only [Qe,Qh];rw [c37b0])|skip)
         have H':=qA.mk H
         clear H
         have hnb42:=NB595_596.out
         have hnc42:=NB596_595.out
         have hnb43:=NB595_0.out
         have hnc43:=NB0_595.out
         obtain ⟨hcz44_0,hfz44_0⟩:=cz1 BK595.out
         go_wp2_with (first|((with_reducible refine qI (f:=58) rfl ?_);refine qY (some 56) rfl rfl Try.func58 (by kernel_rfl) rfl #[.agg #[.slice A1_0 l1_0.length c1_0],.int .i64 (Go.bits .andNot .i64 (wrap64 ((ji6) - 1)) a2)] rfl bycd ?_;(with_reducible refine (jC.calls kj24 _ _ l1_0 (Go.bits .andNot .i64 (wrap64 ((ji6) - 1)) a2) t604 _ ?side1 ?side2 A36.out).mono ?_);(case side1=>exact Kd.C_foot_now HR1_0.out (bybr GW595.out GW596.out));(case side2=>exact HC1_0.out);rintro e w45 ⟨rfl,hb⟩;refine ⟨_,rfl,?_⟩;have n_:=q_5 (qH BK595.out hb) (qH BK596.out hb) (qB.below (bybp HI0.out NB0_595.out NB0_596.out) hb) (qJ.trans (bybr GW595.out GW596.out) (qJ.of_below hb g none) (.inl rfl)) (qC (bybq HI0.out GE595.out GE596.out) hb);clear BK595 BK596 HI0 HK HB;obtain ⟨BK595,BK596,HI0,HK,HB⟩:=n_;clear hb))
         go_meet
         case rel=>exact ⟨_,(((Go.bits .andNot .i64 (wrap64 ((ji6) - 1)) (Go.bits .or .i64 a2 a3)) == 0)),(by first|rfl|(simp;done)|(simp only [← hji6]<;>(first|rfl|simp))|(simp [*];done)),H',⟨by have:=HJ6.out;have:=HJ24.out;first|omega|exact Nat.le_refl _⟩,⟨byaf BK595.out⟩,⟨byaf BK596.out⟩,⟨bybp HI0.out NB0_595.out NB0_596.out⟩,⟨bybr GW595.out GW596.out⟩,⟨bybq HI0.out GE595.out GE596.out⟩⟩
       case rest =>
        clear HC35
        obtain ⟨kq,x61_34,rfl,HA,HJ34,BK595,BK596,HI0,HK,HB⟩:=hcut
        cases kq with
        | zero=>exact absurd HA.out (by simp [qK.j2])
        | succ kj34 =>
         have H:=HA.out
         clear HA
         simp only [qK.j2] at H
         by_cases c46 : x61_34 = true
         ·subst c46
          rw [if_pos rfl] at H
          simp only [Option.some.injEq,Prod.mk.injEq] at H
          obtain ⟨rfl,rfl,rfl,rfl⟩:=H
          have hnb47:=NB596_595.out
          have hnc47:=NB595_596.out
          have hnb48:=NB596_0.out
          have hnc48:=NB0_596.out
          obtain ⟨hcz49_0,hcz49_1,hcz49_2,hfz49_0,hfz49_1,hfz49_2⟩:=cz3 BK596.out
          go_wp2
          refine bodyPost_ret (results_cell_row rfl _ _ gb596 28 #[.int .i64 2,.int .i64 0,.slice none 0 0] (0,0) _ rfl (byay BK596.out) Try.underlying28 rfl (by kernel_rfl)) rfl ?_
          exact ⟨_,bycc,byau,bybp HI0.out NB0_595.out NB0_596.out,bybq HI0.out GE595.out GE596.out,bybr GW595.out GW596.out⟩
         ·replace c46:=Bool.eq_false_iff.mpr c46
          subst c46
          rw [if_neg (show ¬ (false = true) by decide)] at H
          replace H:=Option.bind_eq_some_iff.mp H
          obtain ⟨⟨t605,t606⟩,A500,H⟩:=H
          try dsimp only at H
          have A50:=qA.mk A500
          clear A500
          have H':=qA.mk H
          clear H
          have hnb51:=NB595_596.out
          have hnc51:=NB596_595.out
          have hnb52:=NB595_0.out
          have hnc52:=NB0_595.out
          obtain ⟨hcz53_0,hfz53_0⟩:=cz1 BK595.out
          go_wp2_with (first|((with_reducible refine qI (f:=29) rfl ?_);refine qY (some 67) rfl rfl Try.func29 (by kernel_rfl) rfl #[.pointer (some ⟨g,0,none⟩),.int .i64 (l1_0.length : Int)] rfl byah ?_;(with_reducible refine (qZ.calls g s0_0 x1001_6 (l1_0.length : Int) t605 t606 w0 _ ?side1 ?side2 A50.out).mono ?_);(case side1=>exact bybp HI0.out NB0_595.out NB0_596.out);(case side2=>exact bybq HI0.out GE595.out GE596.out);rintro e w54 ⟨rfl,hi,hb,hk⟩;refine ⟨_,rfl,?_⟩;have n_:=q_5 (qJ.blkB hk BK595.out NB595_0.out (by simp)) (qJ.blkB hk BK596.out NB596_0.out (by simp)) (qJ.trans (bybr GW595.out GW596.out) hk (.inl rfl)) (hb) (hi);clear BK595 BK596 HK HB HI0;obtain ⟨BK595,BK596,HK,HB,HI0⟩:=n_;clear hb hk hi))
          go_loopg [14] kj34 (fun kq v14 w'=>∃ (x14_4 : Int),v14 = .int .i64 x14_4∧qA (qK.l0 kq a2 a3 a4 (Go.bits .andNot .i64 (wrap64 ((ji6) - 1)) (Go.bits .or .i64 a2 a3)) x14_4 s0_0 t606 l1_0 = some (r1,r2,r3,r4))∧qA (kq ≤ kj34)∧qA (w'.heap[gb595]? = some (.cells #[(.slice A1_0 l1_0.length c1_0)] 25 (0,0)))∧qA (w'.heap[gb596]? = some (.cells #[.int .i64 0,.int .i64 0,(.slice none 0 0)] 28 (0,0)))∧qA (qB w0 w' g s0_0 t606)∧qA (qJ w w' g none)∧qA (Below w0.heap.size w0 w'))
          case atStart=>exact ⟨(t605),byae,H',⟨Nat.le_refl _⟩,⟨byaf BK595.out⟩,⟨byaf BK596.out⟩,⟨bybp HI0.out NB0_595.out NB0_596.out⟩,⟨bybr GW595.out GW596.out⟩,⟨bybq HI0.out GE595.out GE596.out⟩⟩
          case round =>
           clear H'
           obtain ⟨x14_4,rfl,HA,HK4,BK595,BK596,HI0,HK,HB⟩:=hrel
           cases gk with
           | zero=>exact absurd HA.out (by simp [qK.l0])
           | succ k4 =>
            have H:=HA.out
            clear HA
            simp only [qK.l0] at H
            by_cases c55 : 0 ≤ x14_4
            ·rw [if_pos c55] at H
             have c55b0:=eq_true c55
             have c55b1:=decide_eq_true c55
             clear c55
             obtain ⟨ji56,hji56⟩ : ∃ j_ : Int,(shr .i64 (Go.bits .andNot .i64 (wrap64 ((ji6) - 1)) (Go.bits .or .i64 a2 a3)) x14_4) = j_:=⟨_,rfl⟩
             (first|rw [hji56] at H|(simp only [hji56] at H))
             have hji56_ : ((Go.bits .andNot .i64 (wrap64 ((ji6) - 1)) (Go.bits .or .i64 a2 a3)) / 2 ^ min x14_4.toNat 64) = ji56:=hji56
             have hji56z : x14_4 ≤ 64→((Go.bits .andNot .i64 (wrap64 ((ji6) - 1)) (Go.bits .or .i64 a2 a3)) / 2 ^ x14_4.toNat) = ji56:=shr_small hji56
             by_cases c57 : (Go.bits .and .i64 (ji56) 1) = 0
             ·rw [if_pos c57] at H
              obtain ⟨c57b0,c57b1⟩:=eqT c57
              clear c57
              by_cases c58 : (l1_0.length : Int) = 0
              ·rw [if_pos c58] at H
               exact absurd H (by simp)
              ·rw [if_neg c58] at H
               obtain ⟨c58b0,c58b1⟩:=eqF c58
               have c58b2 : ¬ (l1_0 = []):=fun h_=>c58 (by rw [h_];rfl)
               have H':=qA.mk H
               clear H
               have hnb59:=NB595_596.out
               have hnc59:=NB596_595.out
               have hnb60:=NB595_0.out
               have hnc60:=NB0_595.out
               obtain ⟨hcz61_0,hfz61_0⟩:=cz1 BK595.out
               go_wp2
               go_roundg k4
               case measure=>have:=HJ6.out;have:=HJ24.out;have:=HJ34.out;have:=HK4.out;omega
               case rel=>exact ⟨(Int.tmod (wrap64 (x14_4 + 1)) (l1_0.length : Int)),byae,H',⟨by have:=HJ6.out;have:=HJ24.out;have:=HJ34.out;have:=HK4.out;omega⟩,⟨byaf BK595.out⟩,⟨byaf BK596.out⟩,⟨bybp HI0.out NB0_595.out NB0_596.out⟩,⟨bybr GW595.out GW596.out⟩,⟨bybq HI0.out GE595.out GE596.out⟩⟩
             ·rw [if_neg c57] at H
              obtain ⟨c57b0,c57b1⟩:=eqF c57
              have c62b0:=eq_true (of_decide_eq_true byag : 0 ≤ x14_4)
              obtain ⟨ji63,hji63⟩ : ∃ j_ : Int,(shl .i64 1 x14_4) = j_:=⟨_,rfl⟩
              (first|rw [hji63] at H|(simp only [hji63] at H))
              obtain ⟨hji63_,hji63z,hji63u,hji63v,hji63y,hji63x⟩:=jiA hji63
              replace H:=Option.bind_eq_some_iff.mp H
              obtain ⟨⟨t608,t609,t610,t613⟩,A640,H⟩:=H
              try dsimp only at H
              have A64:=qA.mk A640
              clear A640
              by_cases c65 : ([] : List (S28)).length < 3518437208883
              ·rw [if_pos c65] at H
               have LMc65:=qA.mk c65
               clear c65
               obtain ⟨y614,hy614⟩ : ∃ y_ : List (S28),y_ = (([] : List (S28)) ++ [(⟨t608,t609,t610⟩ : S28)]):=⟨_,rfl⟩
               replace H : ((qK.f k4 s0_0 t613 l1_0 (Go.bits .or .i64 a2 (ji63)) a3 a4).bind fun bt617=>(if y614.length < 3518437208883 then (some (3,x14_4,(y614 ++ [(⟨bt617.1,bt617.2.1,bt617.2.2.1⟩ : S28)]),bt617.2.2.2)) else (none))) = some (r1,r2,r3,r4):=by first|(rw [hy614];with_reducible exact H)|(have H2_:=(Option.bind_some _ _).symm.trans H;rw [hy614];with_reducible exact H2_)|(have H2_:=(Option.bind_some _ _).symm.trans H;with_reducible exact H2_)|with_reducible exact H|(rw [hy614];exact H)|exact H
               have Ny614:=qA.mk hy614
               clear hy614
               have c66b0:=eq_true (of_decide_eq_true byag : 0 ≤ x14_4)
               replace H:=Option.bind_eq_some_iff.mp H
               obtain ⟨⟨t617,t618,t619,t622⟩,A680,H⟩:=H
               try dsimp only at H
               have A68:=qA.mk A680
               clear A680
               by_cases c69 : y614.length < 3518437208883
               ·rw [if_pos c69] at H
                have LMc69:=qA.mk c69
                clear c69
                obtain ⟨y623,hy623⟩ : ∃ y_ : List (S28),y_ = (y614 ++ [(⟨t617,t618,t619⟩ : S28)]):=⟨_,rfl⟩
                replace H : (some (3,x14_4,y623,t622)) = some (r1,r2,r3,r4):=by first|(rw [hy623];with_reducible exact H)|(have H2_:=(Option.bind_some _ _).symm.trans H;rw [hy623];with_reducible exact H2_)|(have H2_:=(Option.bind_some _ _).symm.trans H;with_reducible exact H2_)|with_reducible exact H|(rw [hy623];exact H)|exact H
                have Ny623:=qA.mk hy623
                clear hy623
                simp only [Option.some.injEq,Prod.mk.injEq] at H
                obtain ⟨rfl,rfl,rfl,rfl⟩:=H
                try go_wp2_with (first|((with_reducible refine qP (N:=15) rfl ?_);refine zV (N:=15) (cs:=#[.int .i64 0,.int .i64 0,.slice none 0 0]) (t:=28) ?_;intro gb607 hg w70 hbox hb;have n_:=q_11 (qH BK595.out hb) (qH BK596.out hb) (qB.below (bybp HI0.out NB0_595.out NB0_596.out) hb) (qJ.trans (bybr GW595.out GW596.out) (qJ.of_below hb g none) (.inl rfl)) (qC (bybq HI0.out GE595.out GE596.out) hb) (hbox) ((bycq GW595.out GW596.out : w.heap.size ≤ gb607)) ((Nat.le_trans HW0.out (bycq GW595.out GW596.out : w.heap.size ≤ gb607) : w0.heap.size ≤ gb607)) ((by rw [hg];exact Nat.ne_of_lt (vF BK595.out) : gb595≠gb607)) ((by rw [hg];exact Nat.ne_of_lt (vF BK596.out) : gb596≠gb607)) ((by rw [hg];exact Nat.ne_of_lt (qB.lt (show qB w0 _ g s0_0 t606 from by repeat (first|(with_reducible first|exact HI0.out|apply qB.alloc|apply qB.drewN|apply qB.drew|apply qB.vZ|refine qB.far ?_ NB0_595.out _|refine qB.far ?_ NB0_596.out _)|exact HI0.out))) : g≠gb607));clear BK595 BK596 HI0 HK HB;obtain ⟨BK595,BK596,HI0,HK,HB,BK607,GW607,GE607,NB595_607,NB596_607,NB0_607⟩:=n_;have NB607_595:=ns NB595_607;have NB607_596:=ns NB596_607;have NB607_0:=ns NB0_607;clear hb hbox hg;have hnb71:=NB607_595.out;have hnc71:=NB595_607.out;have hnb72:=NB607_596.out;have hnc72:=NB596_607.out;have hnb73:=NB607_0.out;have hnc73:=NB0_607.out;obtain ⟨hcz74_0,hcz74_1,hcz74_2,hfz74_0,hfz74_1,hfz74_2⟩:=cz3 BK607.out))
                have n0_ : qA ((((w70.setCell ⟨gb607,0,none⟩ (.int .i64 3)).setCell ⟨gb607,1,none⟩ (.int .i64 x14_4)).setCell ⟨gb607,2,none⟩ (.slice none 0 0)).heap[gb595]? = some (.cells #[.slice A1_0 l1_0.length c1_0] 25 (0,0))):=⟨byak NB595_607.out BK595.out⟩
                have n1_ : qA ((((w70.setCell ⟨gb607,0,none⟩ (.int .i64 3)).setCell ⟨gb607,1,none⟩ (.int .i64 x14_4)).setCell ⟨gb607,2,none⟩ (.slice none 0 0)).heap[gb596]? = some (.cells #[.int .i64 0,.int .i64 0,.slice none 0 0] 28 (0,0))):=⟨byak NB596_607.out BK596.out⟩
                have n2_ : qA ((((w70.setCell ⟨gb607,0,none⟩ (.int .i64 3)).setCell ⟨gb607,1,none⟩ (.int .i64 x14_4)).setCell ⟨gb607,2,none⟩ (.slice none 0 0)).heap[gb607]? = some (.cells #[.int .i64 3,.int .i64 x14_4,.slice none 0 0] 28 (0,0))):=⟨by (with_reducible repeat (first|refine qF ?_ _|refine qG ?_|refine qE ?_ _));refine qO (cs:=#[.int .i64 3,.int .i64 x14_4,.slice none 0 0]) ?_ 2 _ rfl;(with_reducible repeat (first|refine qF ?_ _|refine qG ?_|refine qE ?_ _));refine qO (cs:=#[.int .i64 3,.int .i64 0,.slice none 0 0]) ?_ 1 _ rfl;(with_reducible repeat (first|refine qF ?_ _|refine qG ?_|refine qE ?_ _));refine qO (cs:=#[.int .i64 0,.int .i64 0,.slice none 0 0]) ?_ 0 _ rfl;(with_reducible repeat (first|refine qF ?_ _|refine qG ?_|refine qE ?_ _));exact BK607.out⟩
                have n3_ : qA (qB w0 (((w70.setCell ⟨gb607,0,none⟩ (.int .i64 3)).setCell ⟨gb607,1,none⟩ (.int .i64 x14_4)).setCell ⟨gb607,2,none⟩ (.slice none 0 0)) g s0_0 t606):=⟨bybw HI0.out NB0_595.out NB0_596.out NB0_607.out⟩
                have n4_ : qA (qJ w (((w70.setCell ⟨gb607,0,none⟩ (.int .i64 3)).setCell ⟨gb607,1,none⟩ (.int .i64 x14_4)).setCell ⟨gb607,2,none⟩ (.slice none 0 0)) g none):=⟨byby GW595.out GW596.out GW607.out⟩
                have n5_ : qA (Below w0.heap.size w0 (((w70.setCell ⟨gb607,0,none⟩ (.int .i64 3)).setCell ⟨gb607,1,none⟩ (.int .i64 x14_4)).setCell ⟨gb607,2,none⟩ (.slice none 0 0))):=⟨bybx HI0.out GE595.out GE596.out GE607.out⟩
                (try clear BK595)
                (try clear BK596)
                (try clear BK607)
                (try clear HI0)
                (try clear HK)
                (try clear HB)
                generalize (((w70.setCell ⟨gb607,0,none⟩ (.int .i64 3)).setCell ⟨gb607,1,none⟩ (.int .i64 x14_4)).setCell ⟨gb607,2,none⟩ (.slice none 0 0)) = w75 at n0_ n1_ n2_ n3_ n4_ n5_ ⊢
                have BK595:=n0_
                have BK596:=n1_
                have BK607:=n2_
                have HI0:=n3_
                have HK:=n4_
                have HB:=n5_
                clear n0_ n1_ n2_ n3_ n4_ n5_
                have n_:=q_6 (qG BK595.out) (qG BK596.out) (qG BK607.out) (qB.drew HI0.out) (Zg HK.out) (vI HB.out)
                clear BK595 BK596 BK607 HI0 HK HB
                obtain ⟨BK595,BK596,BK607,HI0,HK,HB⟩:=n_
                refine Qm (n:=15) (S:=fun w'=>w'.cell? ⟨gb607,0,none⟩ = some (.int .i64 3)∧w'.cell? ⟨gb607,1,none⟩ = some (.int .i64 x14_4)∧w'.cell? ⟨gb607,2,none⟩ = some (.slice none 0 0)∧w'.cell? ⟨gb595,0,none⟩ = some (.slice A1_0 l1_0.length c1_0)) (ds:=[14]) (bb 15 0) (by kernel_rfl) rfl rfl ⟨(qN BK607.out 0).trans rfl,(qN BK607.out 1).trans rfl,(qN BK607.out 2).trans rfl,(qN BK595.out 0).trans rfl⟩ (fun hHeld=>?_);refine Qb qK.tab14 qK.bits14 (fun HT_ HW_=>?_)
                generalize w75.drew = w76 at BK595 BK596 BK607 HI0 HK HB hHeld ⊢
                refine zH (i:=0) (N:=some 81) (bb 15 1) ?_
                refine zH (i:=2) (N:=some 83) (bb 15 5) ?_
                refine zH (i:=4) (N:=some 85) (bb 15 21) ?_
                refine zH (i:=5) (N:=some 86) (bb 15 53) ?_
                refine zH (i:=6) (N:=some 87) (bb 15 117) ?_
                refine zH (i:=7) (N:=some 88) (bb 15 245) ?_
                refine zH (i:=8) (N:=some 89) (bb 15 501) ?_
                refine zH (i:=9) (N:=some 90) (bb 15 1013) ?_
                refine takeZD (i:=1) (N:=some 82) (bb 15 1015) hHeld ?_
                refine takeZD (i:=3) (N:=some 84) (bb 15 1023) hHeld ?_
                refine one_ (i:=10) (N:=some 91) (bb 15 2047) rfl rfl (kC HT_.out (by kernel_rfl)) (by decide) (fun K hK=>?_)
                refine Qg Try.func40 (by kernel_rfl) rfl #[.pointer (some ⟨g,0,none⟩),.agg #[.slice A1_0 l1_0.length c1_0],.int .i64 a2,.int .i64 (Go.bits .or .i64 a3 (ji63)),.bool a4] (by rfl) rfl rfl byce ?_
                with_reducible refine (ih k4 (by have:=HJ6.out;have:=HJ24.out;have:=HJ34.out;have:=HK4.out;omega) g s0_0 t606 _ _ l1_0 a2 (Go.bits .or .i64 a3 (ji63)) a4 t608 t609 t610 t613 w0 _ ?side1 ?side2 ?side3 ?side4 A64.out).mono ?_
                (case side1=>exact bybw HI0.out NB0_595.out NB0_596.out NB0_607.out)
                (case side2=>exact bybx HI0.out GE595.out GE596.out GE607.out)
                (case side3=>exact Kd.C_foot_step HR1_0.out (byby GW595.out GW596.out GW607.out))
                (case side4=>exact HC1_0.out)
                rintro e w77 ⟨v611,rfl,ho0,hi,hb,hk⟩
                refine ⟨_,rfl,?_⟩
                have n_:=q_7 (qJ.blkB hk BK595.out NB595_0.out (by simp)) (qJ.blkB hk BK596.out NB596_0.out (by simp)) (qJ.blkB hk BK607.out NB607_0.out (by simp)) (Kd.uZ (Kd.Zw (Kd.Zw ho0 (g:=gb596) (o:=.cells #[.int .i64 0,.int .i64 0,.slice none 0 0] 28 (0,0)) (byaf BK596.out)) (g:=gb607) (o:=.cells #[.int .i64 3,.int .i64 x14_4,.slice none 0 0] 28 (0,0)) (byaf BK607.out)) (vM (w:=w) (g:=g) (row:=none) (byby GW595.out GW596.out GW607.out))) (qJ.trans (byby GW595.out GW596.out GW607.out) hk (.inl rfl)) (hb) (hi)
                clear BK595 BK596 BK607 HK HB HI0
                obtain ⟨BK595,BK596,BK607,HO612,HK,HB,HI0⟩:=n_
                (try clear hb)
                (try clear hb2)
                (try clear hk)
                (try clear hi)
                (try clear ho0)
                obtain ⟨Ao79,co79,eo79⟩:=Kd.vJ HO612.out
                (first|subst eo79|(injection eo79 with f1_ f2_ f3_;have f4_:=f1_.symm;have f5_:=f3_.symm;clear f1_ f2_ f3_;subst f4_;subst f5_))
                refine hK.out _ _ ⟨(qN BK607.out 0).trans rfl,(qN BK607.out 1).trans rfl,(qN BK607.out 2).trans rfl,(qN BK595.out 0).trans rfl⟩ (fun hHeld=>?_)
                clear hK K
                refine kN (N:=some 91) ?_
                refine one_ (i:=11) (N:=some 92) (bb 15 4095) rfl rfl (kC HT_.out (by kernel_rfl)) (by decide) (fun K hK=>?_)
                refine value_ (w1:=?_) (v:=?_) (by rfl) rfl ?_ ?_
                rotate_left 2
                ·go_simp
                 constructor
                 ·rfl
                 ·rfl
                refine hK.out _ _ ⟨(qN (qE BK607.out _) 0).trans rfl,(qN (qE BK607.out _) 1).trans rfl,(qN (qE BK607.out _) 2).trans rfl,(qN (qE BK595.out _) 0).trans rfl⟩ (fun hHeld=>?_)
                clear hK K
                refine kN (N:=some 92) ?_
                refine one_ (i:=12) (N:=some 93) (bb 15 8191) rfl rfl (kC HT_.out (by kernel_rfl)) (by decide) (fun K hK=>?_)
                refine Kd.R_append_step k28 w.heap.size (by rfl) (.tmp 82) (.tmp 92) 26 28 (.agg #[(.int .i64 0),(.int .i64 0),(.slice none 0 0)]) 40 rfl Try.underlying26 info28 rfl (by decide) (by omega) (.slice none 0 0) ([] : List (S28)) (⟨t608,t609,t610⟩ : S28) [.int .i64 t608,.int .i64 t609,.slice Ao79 t610.length co79] (fun k_=>k_≠gb596∧k_≠gb607) (fun k_=>((fun k_=>k_≠gb596∧k_≠gb607)) k_∧some k_≠(.slice none 0 0 : Value).ownBlock) rfl rfl ?aP (fun _ hk=>hk) ?aF ?aO (Below.refl _ _) ?aS ?aL ?_
                (case aP=>exact k28_mkM _ _ _ (⟨t608,t609,t610⟩ : S28) (Kd.zB (HO612.out) (fun k_ hk=>⟨⟨hk.1.2,hk.2⟩,bybs⟩)))
                (case aF=>exact (fun k_ hk=>⟨Kd.Qd (g:=gb596) (o:=.cells #[.int .i64 0,.int .i64 0,.slice none 0 0] 28 (0,0)) (byaf BK596.out) k_ hk,Kd.Qd (g:=gb607) (o:=.cells #[.int .i64 3,.int .i64 x14_4,.slice none 0 0] 28 (0,0)) (byaf BK607.out) k_ hk⟩))
                (case aO=>exact ((Kd.R_nil _ _ _ _ (fun k_=>k_≠gb596∧k_≠gb607))))
                (case aS=>exact (vM (w:=w) (g:=g) (row:=none) (byby GW595.out GW596.out GW607.out)))
                (case aL=>have:=LMc65.out;omega)
                intro v615 w78 ho hb hg hat
                rw [← Ny614.out] at ho
                have n_:=q_7 (vP (g:=gb595) (o:=.cells #[.slice A1_0 l1_0.length c1_0] 25 (0,0)) (byaf BK595.out) hg bybs) (vP (g:=gb596) (o:=.cells #[.int .i64 0,.int .i64 0,.slice none 0 0] 28 (0,0)) (byaf BK596.out) hg bybs) (qB.grown (bybw HI0.out NB0_595.out NB0_596.out NB0_607.out) hg bybs) (vP (g:=gb607) (o:=.cells #[.int .i64 3,.int .i64 x14_4,.slice none 0 0] 28 (0,0)) (byaf BK607.out) hg bybs) (kT (bybx HI0.out GE595.out GE596.out GE607.out) HL.out hb) (qJ.trans (byby GW595.out GW596.out GW607.out) (qJ.Qx hg g) (.inl bybs)) (ho)
                clear BK595 BK596 HI0 BK607 HB HK HO612
                obtain ⟨BK595,BK596,HI0,BK607,HB,HK,HO616⟩:=n_
                clear ho hb hg hat
                obtain ⟨Ao80,co80,eo80⟩:=Kd.vJ HO616.out
                (first|subst eo80|(injection eo80 with f1_ f2_ f3_;have f4_:=f1_.symm;have f5_:=f3_.symm;clear f1_ f2_ f3_;subst f4_;subst f5_))
                refine hK.out _ _ ⟨(qN BK607.out 0).trans rfl,(qN BK607.out 1).trans rfl,(qN BK607.out 2).trans rfl,(qN BK595.out 0).trans rfl⟩ (fun hHeld=>?_)
                clear hK K
                refine kN (N:=some 93) ?_
                refine zH (i:=13) (N:=some 94) (bb 15 16383) ?_
                refine last_ (i:=14) (N:=none) (bb 15 32767) rfl rfl (kC HT_.out (by kernel_rfl)) (by decide) (fun K hK=>?_)
                have hs81 : w78.cell? ⟨gb607,2,none⟩ = some (.slice none 0 0):=(qN BK607.out 2).trans rfl
                have hfs81:=kJ BK607.out 2
                have hns81_0:=NB595_607.out
                have hns81_1:=NB596_607.out
                have hms81_0:=NB607_595.out
                have hms81_1:=NB607_596.out
                refine skip_ (w1:=?_) (by rfl) rfl ?_ ?_
                rotate_left
                ·go_simp
                 rfl
                refine hK.out _ _ ?_
                clear hK K
                refine Ze (Qz HT_.out (by kernel_rfl)) ?_
                try go_wp2
                have n0_ : qA (Kd.R k28 28 (w78.setCell ⟨gb607,2,none⟩ (.slice Ao80 y614.length co80)) w.heap.size (fun k_=>k_≠gb596∧k_≠gb607) (.slice Ao80 y614.length co80) y614):=⟨by (with_reducible repeat (first|apply Kd.jP|apply Kd.jO|apply Kd.jZ));exact Kd.zB (Kd.jF (p:=⟨gb607,2,none⟩) (Kd.zB HO616.out (fun k_ hk=>(⟨hk,hk.2⟩ : _∧k_≠gb607))) (fun _ hk=>hk.2) (.slice Ao80 y614.length co80)) (fun _ hk=>⟨hk.1.1,hk.1.2⟩)⟩
                have n1_ : qA ((w78.setCell ⟨gb607,2,none⟩ (.slice Ao80 y614.length co80)).heap[gb595]? = some (.cells #[.slice A1_0 l1_0.length c1_0] 25 (0,0))):=⟨bybe NB595_607.out BK595.out⟩
                have n2_ : qA ((w78.setCell ⟨gb607,2,none⟩ (.slice Ao80 y614.length co80)).heap[gb596]? = some (.cells #[.int .i64 0,.int .i64 0,.slice none 0 0] 28 (0,0))):=⟨bybe NB596_607.out BK596.out⟩
                have n3_ : qA ((w78.setCell ⟨gb607,2,none⟩ (.slice Ao80 y614.length co80)).heap[gb607]? = some (.cells #[.int .i64 3,.int .i64 x14_4,.slice Ao80 y614.length co80] 28 (0,0))):=⟨by (with_reducible repeat (first|refine qF ?_ _|refine qG ?_|refine qE ?_ _));refine qO (cs:=#[.int .i64 3,.int .i64 x14_4,.slice none 0 0]) ?_ 2 _ rfl;(with_reducible repeat (first|refine qF ?_ _|refine qG ?_|refine qE ?_ _));exact BK607.out⟩
                have n4_ : qA (qB w0 (w78.setCell ⟨gb607,2,none⟩ (.slice Ao80 y614.length co80)) g s0_0 t613):=⟨bybw HI0.out NB0_595.out NB0_596.out NB0_607.out⟩
                have n5_ : qA (qJ w (w78.setCell ⟨gb607,2,none⟩ (.slice Ao80 y614.length co80)) g none):=⟨byby GW595.out GW596.out GW607.out⟩
                have n6_ : qA (Below w0.heap.size w0 (w78.setCell ⟨gb607,2,none⟩ (.slice Ao80 y614.length co80))):=⟨bybx HI0.out GE595.out GE596.out GE607.out⟩
                (try clear HO616)
                (try clear BK595)
                (try clear BK596)
                (try clear BK607)
                (try clear HI0)
                (try clear HK)
                (try clear HB)
                generalize (w78.setCell ⟨gb607,2,none⟩ (.slice Ao80 y614.length co80)) = w82 at n0_ n1_ n2_ n3_ n4_ n5_ n6_ ⊢
                have HO616:=n0_
                have BK595:=n1_
                have BK596:=n2_
                have BK607:=n3_
                have HI0:=n4_
                have HK:=n5_
                have HB:=n6_
                clear n0_ n1_ n2_ n3_ n4_ n5_ n6_
                have n_:=q_7 (Kd.jZ HO616.out) (qG BK595.out) (qG BK596.out) (qG BK607.out) (qB.drew HI0.out) (Zg HK.out) (vI HB.out)
                clear HO616 BK595 BK596 BK607 HI0 HK HB
                obtain ⟨HO616,BK595,BK596,BK607,HI0,HK,HB⟩:=n_
                refine Qm (n:=15) (S:=fun w'=>w'.cell? ⟨gb607,0,none⟩ = some (.int .i64 3)∧w'.cell? ⟨gb607,1,none⟩ = some (.int .i64 x14_4)∧w'.cell? ⟨gb607,2,none⟩ = some (.slice Ao80 y614.length co80)∧w'.cell? ⟨gb595,0,none⟩ = some (.slice A1_0 l1_0.length c1_0)) (ds:=[14]) (bb 15 0) (by kernel_rfl) rfl rfl ⟨(qN BK607.out 0).trans rfl,(qN BK607.out 1).trans rfl,(qN BK607.out 2).trans rfl,(qN BK595.out 0).trans rfl⟩ (fun hHeld=>?_);refine Qb qK.tab15 qK.bits15 (fun HT_ HW_=>?_)
                generalize w82.drew = w83 at HO616 BK595 BK596 BK607 HI0 HK HB hHeld ⊢
                refine zH (i:=0) (N:=some 95) (bb 15 1) ?_
                refine zH (i:=2) (N:=some 97) (bb 15 5) ?_
                refine zH (i:=4) (N:=some 99) (bb 15 21) ?_
                refine zH (i:=5) (N:=some 100) (bb 15 53) ?_
                refine zH (i:=6) (N:=some 101) (bb 15 117) ?_
                refine zH (i:=7) (N:=some 102) (bb 15 245) ?_
                refine zH (i:=8) (N:=some 103) (bb 15 501) ?_
                refine zH (i:=9) (N:=some 104) (bb 15 1013) ?_
                refine takeZD (i:=1) (N:=some 96) (bb 15 1015) hHeld ?_
                refine takeZD (i:=3) (N:=some 98) (bb 15 1023) hHeld ?_
                refine one_ (i:=10) (N:=some 105) (bb 15 2047) rfl rfl (kC HT_.out (by kernel_rfl)) (by decide) (fun K hK=>?_)
                refine Qg Try.func40 (by kernel_rfl) rfl #[.pointer (some ⟨g,0,none⟩),.agg #[.slice A1_0 l1_0.length c1_0],.int .i64 (Go.bits .or .i64 a2 (ji63)),.int .i64 a3,.bool a4] (by rfl) rfl rfl byce ?_
                with_reducible refine (ih k4 (by have:=HJ6.out;have:=HJ24.out;have:=HJ34.out;have:=HK4.out;omega) g s0_0 t613 _ _ l1_0 (Go.bits .or .i64 a2 (ji63)) a3 a4 t617 t618 t619 t622 w0 _ ?side1 ?side2 ?side3 ?side4 A68.out).mono ?_
                (case side1=>exact bybw HI0.out NB0_595.out NB0_596.out NB0_607.out)
                (case side2=>exact bybx HI0.out GE595.out GE596.out GE607.out)
                (case side3=>exact Kd.C_foot_step HR1_0.out (byby GW595.out GW596.out GW607.out))
                (case side4=>exact HC1_0.out)
                rintro e w84 ⟨v620,rfl,ho0,hi,hb,hk⟩
                refine ⟨_,rfl,?_⟩
                have n_:=q_8 (qJ.blkB hk BK595.out NB595_0.out (by simp)) (qJ.blkB hk BK596.out NB596_0.out (by simp)) (qJ.blkB hk BK607.out NB607_0.out (by simp)) (Kd.zB (Kd.Zt (Kd.R_oldK (qB.apart (show qB w0 _ g s0_0 t613 from by repeat (first|(with_reducible first|exact HI0.out|apply qB.alloc|apply qB.drewN|apply qB.drew|apply qB.vZ|refine qB.far ?_ NB0_595.out _|refine qB.far ?_ NB0_596.out _|refine qB.far ?_ NB0_607.out _)|exact HI0.out)) (byav HO616.out) (by decide)) hk) (Kd.kL ho0)) (fun _ h_=>h_.1)) (Kd.uZ (Kd.Zw (Kd.Zw (Kd.R_new' ho0 (Kd.R_lt (byav HO616.out))) (g:=gb596) (o:=.cells #[.int .i64 0,.int .i64 0,.slice none 0 0] 28 (0,0)) (byaf BK596.out)) (g:=gb607) (o:=.cells #[.int .i64 3,.int .i64 x14_4,.slice Ao80 y614.length co80] 28 (0,0)) (byaf BK607.out)) (vM (w:=w) (g:=g) (row:=none) (byby GW595.out GW596.out GW607.out))) (qJ.trans (byby GW595.out GW596.out GW607.out) hk (.inl rfl)) (hb) (hi)
                clear BK595 BK596 BK607 HO616 HK HB HI0
                obtain ⟨BK595,BK596,BK607,HO616,HO621,HK,HB,HI0⟩:=n_
                (try clear hb)
                (try clear hb2)
                (try clear hk)
                (try clear hi)
                (try clear ho0)
                obtain ⟨Ao86,co86,eo86⟩:=Kd.vJ HO621.out
                (first|subst eo86|(injection eo86 with f1_ f2_ f3_;have f4_:=f1_.symm;have f5_:=f3_.symm;clear f1_ f2_ f3_;subst f4_;subst f5_))
                refine hK.out _ _ ⟨(qN BK607.out 0).trans rfl,(qN BK607.out 1).trans rfl,(qN BK607.out 2).trans rfl,(qN BK595.out 0).trans rfl⟩ (fun hHeld=>?_)
                clear hK K
                refine kN (N:=some 105) ?_
                refine one_ (i:=11) (N:=some 106) (bb 15 4095) rfl rfl (kC HT_.out (by kernel_rfl)) (by decide) (fun K hK=>?_)
                refine value_ (w1:=?_) (v:=?_) (by rfl) rfl ?_ ?_
                rotate_left 2
                ·go_simp
                 constructor
                 ·rfl
                 ·rfl
                refine hK.out _ _ ⟨(qN (qE BK607.out _) 0).trans rfl,(qN (qE BK607.out _) 1).trans rfl,(qN (qE BK607.out _) 2).trans rfl,(qN (qE BK595.out _) 0).trans rfl⟩ (fun hHeld=>?_)
                clear hK K
                refine kN (N:=some 106) ?_
                refine one_ (i:=12) (N:=some 107) (bb 15 8191) rfl rfl (kC HT_.out (by kernel_rfl)) (by decide) (fun K hK=>?_)
                refine Kd.R_append_step k28 w.heap.size (by rfl) (.tmp 96) (.tmp 106) 26 28 (.agg #[(.int .i64 0),(.int .i64 0),(.slice none 0 0)]) 40 rfl Try.underlying26 info28 rfl (by decide) (by omega) (.slice Ao80 y614.length co80) y614 (⟨t617,t618,t619⟩ : S28) [.int .i64 t617,.int .i64 t618,.slice Ao86 t619.length co86] (fun k_=>k_≠gb596∧k_≠gb607) (fun k_=>((fun k_=>k_≠gb596∧k_≠gb607)) k_∧some k_≠(.slice Ao80 y614.length co80 : Value).ownBlock) rfl rfl ?aP (fun _ hk=>hk) ?aF ?aO (Below.refl _ _) ?aS ?aL ?_
                (case aP=>exact k28_mkM _ _ _ (⟨t617,t618,t619⟩ : S28) (Kd.zB (HO621.out) (fun k_ hk=>⟨⟨hk.1.2,hk.2⟩,hk.1.1.2⟩)))
                (case aF=>exact (fun k_ hk=>⟨Kd.Qd (g:=gb596) (o:=.cells #[.int .i64 0,.int .i64 0,.slice none 0 0] 28 (0,0)) (byaf BK596.out) k_ hk,Kd.Qd (g:=gb607) (o:=.cells #[.int .i64 3,.int .i64 x14_4,.slice Ao80 y614.length co80] 28 (0,0)) (byaf BK607.out) k_ hk⟩))
                (case aO=>exact (by (with_reducible repeat (first|apply Kd.jP|apply Kd.jO|apply Kd.jZ));exact Kd.zB HO616.out (fun _ hk=>⟨hk.1.1,hk.1.2⟩)))
                (case aS=>exact (vM (w:=w) (g:=g) (row:=none) (byby GW595.out GW596.out GW607.out)))
                (case aL=>have:=LMc69.out;omega)
                intro v624 w85 ho hb hg hat
                rw [← Ny623.out] at ho
                have n_:=q_7 (vP (g:=gb595) (o:=.cells #[.slice A1_0 l1_0.length c1_0] 25 (0,0)) (byaf BK595.out) hg (Kd.R_ne HO616.out BK595.out (by decide))) (vP (g:=gb596) (o:=.cells #[.int .i64 0,.int .i64 0,.slice none 0 0] 28 (0,0)) (byaf BK596.out) hg (Kd.R_away HO616.out (fun _ hk=>hk.1.1))) (qB.grown (bybw HI0.out NB0_595.out NB0_596.out NB0_607.out) hg (qB.own_ne HI0.out HO616.out (by decide))) (vP (g:=gb607) (o:=.cells #[.int .i64 3,.int .i64 x14_4,.slice Ao80 y614.length co80] 28 (0,0)) (byaf BK607.out) hg (Kd.R_away HO616.out (fun _ hk=>hk.1.2))) (kT (bybx HI0.out GE595.out GE596.out GE607.out) HL.out hb) (qJ.trans (byby GW595.out GW596.out GW607.out) (qJ.Qx hg g) (Kd.Zq HO616.out)) (ho)
                clear BK595 BK596 HI0 BK607 HB HK HO616 HO621
                obtain ⟨BK595,BK596,HI0,BK607,HB,HK,HO625⟩:=n_
                clear ho hb hg hat
                obtain ⟨Ao87,co87,eo87⟩:=Kd.vJ HO625.out
                (first|subst eo87|(injection eo87 with f1_ f2_ f3_;have f4_:=f1_.symm;have f5_:=f3_.symm;clear f1_ f2_ f3_;subst f4_;subst f5_))
                refine hK.out _ _ ⟨(qN BK607.out 0).trans rfl,(qN BK607.out 1).trans rfl,(qN BK607.out 2).trans rfl,(qN BK595.out 0).trans rfl⟩ (fun hHeld=>?_)
                clear hK K
                refine kN (N:=some 107) ?_
                refine zH (i:=13) (N:=some 108) (bb 15 16383) ?_
                refine last_ (i:=14) (N:=none) (bb 15 32767) rfl rfl (kC HT_.out (by kernel_rfl)) (by decide) (fun K hK=>?_)
                have hs88 : w85.cell? ⟨gb607,2,none⟩ = some (.slice Ao80 y614.length co80):=(qN BK607.out 2).trans rfl
                have hfs88:=kJ BK607.out 2
                have hns88_0:=NB595_607.out
                have hns88_1:=NB596_607.out
                have hms88_0:=NB607_595.out
                have hms88_1:=NB607_596.out
                refine skip_ (w1:=?_) (by rfl) rfl ?_ ?_
                rotate_left
                ·go_simp
                 rfl
                refine hK.out _ _ ?_
                clear hK K
                refine Ze (Qz HT_.out (by kernel_rfl)) ?_
                obtain ⟨hcz89_0,hcz89_1,hcz89_2,hfz89_0,hfz89_1,hfz89_2⟩:=cz3 BK607.out
                have hnb90:=NB596_595.out
                have hnc90:=NB595_596.out
                have hnb91:=NB596_0.out
                have hnc91:=NB0_596.out
                obtain ⟨hcz92_0,hcz92_1,hcz92_2,hfz92_0,hfz92_1,hfz92_2⟩:=cz3 BK596.out
                try go_wp2
                refine bodyPost_ret (results_cell_row rfl _ _ gb596 28 #[.int .i64 3,.int .i64 x14_4,.slice Ao87 y623.length co87] (0,0) _ rfl (by (with_reducible repeat (first|refine qF ?_ _|refine qG ?_|refine qE ?_ _));refine qO (cs:=#[.int .i64 3,.int .i64 x14_4,.slice none 0 0]) ?_ 2 _ rfl;(with_reducible repeat (first|refine qF ?_ _|refine qG ?_|refine qE ?_ _));refine qO (cs:=#[.int .i64 3,.int .i64 0,.slice none 0 0]) ?_ 1 _ rfl;(with_reducible repeat (first|refine qF ?_ _|refine qG ?_|refine qE ?_ _));refine qO (cs:=#[.int .i64 0,.int .i64 0,.slice none 0 0]) ?_ 0 _ rfl;(with_reducible repeat (first|refine qF ?_ _|refine qG ?_|refine qE ?_ _));refine Zd ?_ NB596_607.out _;(with_reducible repeat (first|refine qF ?_ _|refine qG ?_|refine qE ?_ _));exact BK596.out) Try.underlying28 rfl (by kernel_rfl)) rfl ?_
                exact ⟨_,by first|rfl|(simp [uC,uD]<;>rfl)|(simp only [← hji6,← hji56,← hji63];first|rfl|(simp [uC,uD]<;>rfl))|(simp [*,uC,uD]<;>rfl),by (with_reducible repeat (first|apply Kd.jP|apply Kd.jO|apply Kd.jZ));exact Kd.zB (Kd.jF (p:=⟨gb596,2,none⟩) (Kd.jF (p:=⟨gb596,1,none⟩) (Kd.jF (p:=⟨gb596,0,none⟩) (Kd.jF (p:=⟨gb607,2,none⟩) (Kd.zB (Kd.zB HO625.out (fun k_ hk=>(⟨hk,hk.2⟩ : _∧k_≠gb607))) (fun k_ hk=>(⟨hk,hk.1.1⟩ : _∧k_≠gb596))) (fun _ hk=>hk.1.2) (.slice Ao87 y623.length co87)) (fun _ hk=>hk.2) (.int .i64 3)) (fun _ hk=>hk.2) (.int .i64 x14_4)) (fun _ hk=>hk.2) (.slice Ao87 y623.length co87)) (fun _ hk=>trivial),bybw HI0.out NB0_595.out NB0_596.out NB0_607.out,bybx HI0.out GE595.out GE596.out GE607.out,byby GW595.out GW596.out GW607.out⟩
               ·rw [if_neg c69] at H
                exact absurd H (by simp)
              ·rw [if_neg c65] at H
               exact absurd H (by simp)
            ·rw [if_neg c55] at H
             exact absurd H (by simp)
end Go.Proofs.Ytkkbdimegpdbgaa.P
