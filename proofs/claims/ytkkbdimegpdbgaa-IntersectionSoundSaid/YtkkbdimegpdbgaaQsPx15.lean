/- Functions of the program as Lean functions, and the walks that show that the calls answer so; written by a program of this session (a changed print) and by hand. -/
import Derived.Test.YtkkbdimegpdbgaaQsPx0
import Derived.Test.YtkkbdimegpdbgaaQsPx11
namespace Go.Proofs.Ytkkbdimegpdbgaa.P
open Go.RowKit Go.Proofs.YtkkbdimegpdbgaaW.PrintWords Go.Proofs.YtkkbdimegpdbgaaW.PrintLast Go.Proofs.YtkkbdimegpdbgaaW.PrintMore
attribute [local go_sem] kF kD kV kU uJ uK kG kE
set_option linter.unusedVariables false
set_option linter.unusedSimpArgs false
def jB.l0 : Nat→Int→Int→List Int→Int→Int→List Int→Option (Int × List Int × (List (S56)) × Int)
 | 0,_,_,_,_,_,_=>none
 | k + 1,x1,x6,x1000,x1001,x402000,x402001=>if x6 < x1 then ((qZ.f x1000 x1001 10).bind fun bt402=>(if bt402.1 < 9 then (if x402001.length < 17592186044416 then (jB.l0 k x1 (wrap64 (x6 + 1)) x1000 bt402.2 x402000 (x402001 ++ [x6])) else (none)) else (jB.l0 k x1 (wrap64 (x6 + 1)) x1000 bt402.2 x402000 x402001))) else (if (x402001.length : Int) = 0 then ((some (([0] : List Int) : List Int)).bind fun y407=>((jY.f x1000 x1001 (([0,0,0,1,(-1)] : List Int))).bind fun bt413=>(some (mn (y407.length : Int) (mx 1 (wrap64 ((wrap64 (Int.tdiv (wrap64 ((wrap64 (2 * (y407.length : Int))) + 2)) 3)) + bt413.1))),y407,([] : List (S56)),bt413.2)))) else ((jY.f x1000 x1001 (([0,0,0,1,(-1)] : List Int))).bind fun bt418=>(some (mn (x402001.length : Int) (mx 1 (wrap64 ((wrap64 (Int.tdiv (wrap64 ((wrap64 (2 * (x402001.length : Int))) + 2)) 3)) + bt418.1))),x402001,([] : List (S56)),bt418.2))))
def jB.f (k : Nat) (s0_0 : List Int) (s0_1 : Int) (a1 : Int) : Option (Int × List Int × (List (S56)) × Int):=jB.l0 k a1 0 s0_0 s0_1 0 ([] : List Int)
def jB.T9 : Bool × List (List Nat × List Nat):=(true,[([],[]),([0],[0]),([1],[1]),([],[]),([3],[3]),([4],[4]),([5],[5]),([6],[6]),([7],[7]),([],[]),([],[]),([9,10],[9,10]),([8,11],[8,11]),([12],[12]),([2,13],[2,13]),([0,1,2,3,4,5,6,7,8,9,10,11,12,13,14],[]),([15,14,11,0,1,2,3,4,5,6,7,8,9,10,11,12,13,14],[14,15])])
def jB.B9 : List Nat:=[0,1,3,0,8,24,56,120,248,0,0,1536,4088,8184,16383,32767,65535]
theorem jB.tab9 : rtab .any (opsOf Try.f31 9) = jB.T9:=by kernel_rfl
theorem jB.bits9 : Qv jB.T9.2 jB.B9 = true:=by kernel_rfl
set_option maxHeartbeats 8000000 in
set_option maxRecDepth 100000 in
theorem jB.calls (k : Nat) (g : Nat) (s0_0 : List Int) (s0_1 : Int) (a1 : Int) (r1 : Int) (r2 : List Int) (r3 : List (S56)) (r4 : Int) (w0 w : World) (hI : qB w0 w g s0_0 s0_1) (hB : Below w0.heap.size w0 w) (h : jB.f k s0_0 s0_1 a1 = some (r1,r2,r3,r4)) :
  Calls Try.prog 31 #[.pointer (some ⟨g,0,none⟩),.int .i64 a1] w fun e w'=>∃ v1_ v2_ : Value,e = .returned (.agg #[.int .i64 r1,v1_,v2_])∧Kd.R (Kd.int .i64) 3 w' w.heap.size (fun _=>True) v1_ r2∧Kd.R k56 56 w' w.heap.size (fun k_=>some k_≠(v1_ : Value).ownBlock) v2_ r3∧qB w0 w' g s0_0 r4∧Below w0.heap.size w0 w'∧qJ w w' g none:=by
 have hu56:=Try.underlying56
 have HI0:=qA.mk hI
 have HK:=qA.mk (qJ.refl w g none)
 have HL:=qA.mk hB.size
 clear hI
 have HW0:=qA.mk hB.size
 have HB:=qA.mk hB
 clear hB
 unfold jB.f at h
 have H:=h
 clear h
 have H':=qA.mk H
 clear H
 go_enter Try.func31,Try.ntmps31
 go_wp2_with (first|((with_reducible refine qP (N:=4) rfl ?_);refine zV (N:=4) (cs:=#[.int .i64 0,.slice none 0 0,.slice none 0 0]) (t:=56) ?_;intro gb400 hg w3 hbox hb;have n_:=q_7 (qB.below (bybj HI0.out) hb) (qJ.trans bybl (qJ.of_below hb g none) (.inl rfl)) (qC (bybk HI0.out) hb) (hbox) ((byco : w.heap.size ≤ gb400)) ((Nat.le_trans HW0.out (byco : w.heap.size ≤ gb400) : w0.heap.size ≤ gb400)) ((by rw [hg];exact Nat.ne_of_lt (qB.lt (show qB w0 _ g s0_0 s0_1 from by repeat (first|(with_reducible first|exact HI0.out|apply qB.alloc|apply qB.drewN|apply qB.drew|apply qB.vZ)|exact HI0.out))) : g≠gb400));clear HI0 HK HB;obtain ⟨HI0,HK,HB,BK400,GW400,GE400,NB0_400⟩:=n_;have NB400_0:=ns NB0_400;clear hb hbox hg)|((with_reducible refine qP (N:=5) rfl ?_);refine zV (N:=5) (cs:=#[.int .i64 0,.slice none 0 0,.slice none 0 0]) (t:=56) ?_;intro gb401 hg w4 hbox hb;have n_:=q_9 (qB.below (bybm HI0.out NB0_400.out) hb) (qH BK400.out hb) (qJ.trans (bybn GW400.out) (qJ.of_below hb g none) (.inl rfl)) (qC (bybo HI0.out GE400.out) hb) (hbox) ((bycp GW400.out : w.heap.size ≤ gb401)) ((Nat.le_trans HW0.out (bycp GW400.out : w.heap.size ≤ gb401) : w0.heap.size ≤ gb401)) ((by rw [hg];exact Nat.ne_of_lt (vF BK400.out) : gb400≠gb401)) ((by rw [hg];exact Nat.ne_of_lt (qB.lt (show qB w0 _ g s0_0 s0_1 from by repeat (first|(with_reducible first|exact HI0.out|apply qB.alloc|apply qB.drewN|apply qB.drew|apply qB.vZ|refine qB.far ?_ NB0_400.out _)|exact HI0.out))) : g≠gb401));clear HI0 BK400 HK HB;obtain ⟨HI0,BK400,HK,HB,BK401,GW401,GE401,NB400_401,NB0_401⟩:=n_;have NB401_400:=ns NB400_401;have NB401_0:=ns NB0_401;clear hb hbox hg;have hnb5:=NB401_400.out;have hnc5:=NB400_401.out;have hnb6:=NB401_0.out;have hnc6:=NB0_401.out;obtain ⟨hcz7_0,hcz7_1,hcz7_2,hfz7_0,hfz7_1,hfz7_2⟩:=cz3 BK401.out))
 go_loopg [6] k (fun kq v6 w'=>∃ (x6_1 : Int) (x1001_1 : Int) (x402001_1 : List Int) (u402001 : Value),v6 = .int .i64 x6_1∧qA (jB.l0 kq a1 x6_1 s0_0 x1001_1 0 x402001_1 = some (r1,r2,r3,r4))∧qA (kq ≤ k)∧qA (Kd.R (Kd.int .i64) 3 w' w.heap.size (fun _=>True) u402001 x402001_1)∧qA (w'.heap[gb400]? = some (.cells #[.int .i64 0,(.slice none 0 0),(.slice none 0 0)] 56 (0,0)))∧qA (w'.heap[gb401]? = some (.cells #[.int .i64 0,u402001,(.slice none 0 0)] 56 (0,0)))∧qA (qB w0 w' g s0_0 x1001_1)∧qA (qJ w w' g none)∧qA (Below w0.heap.size w0 w'))
 case atStart=>exact ⟨(0),(s0_1),(([] : List Int)),(.slice none 0 0),byae,H',⟨Nat.le_refl _⟩,⟨byau⟩,⟨byak NB400_401.out BK400.out⟩,⟨by (with_reducible repeat (first|refine qF ?_ _|refine qG ?_|refine qE ?_ _));refine qO (cs:=#[.int .i64 0,.slice none 0 0,.slice none 0 0]) ?_ 2 _ rfl;(with_reducible repeat (first|refine qF ?_ _|refine qG ?_|refine qE ?_ _));refine qO (cs:=#[.int .i64 0,.slice none 0 0,.slice none 0 0]) ?_ 1 _ rfl;(with_reducible repeat (first|refine qF ?_ _|refine qG ?_|refine qE ?_ _));refine qO (cs:=#[.int .i64 0,.slice none 0 0,.slice none 0 0]) ?_ 0 _ rfl;(with_reducible repeat (first|refine qF ?_ _|refine qG ?_|refine qE ?_ _));exact BK401.out⟩,⟨bybp HI0.out NB0_400.out NB0_401.out⟩,⟨bybr GW400.out GW401.out⟩,⟨bybq HI0.out GE400.out GE401.out⟩⟩
 case round =>
  clear H'
  obtain ⟨x6_1,x1001_1,x402001_1,u402001,rfl,HA,HK1,HO_402001,BK400,BK401,HI0,HK,HB⟩:=hrel
  cases gk with
  | zero=>exact absurd HA.out (by simp [jB.l0])
  | succ k1 =>
   have H:=HA.out
   clear HA
   simp only [jB.l0] at H
   by_cases c8 : x6_1 < a1
   ·rw [if_pos c8] at H
    have c8b0:=decide_eq_true c8
    clear c8
    replace H:=Option.bind_eq_some_iff.mp H
    obtain ⟨⟨t402,t403⟩,A90,H⟩:=H
    try dsimp only at H
    have A9:=qA.mk A90
    clear A90
    by_cases c10 : t402 < 9
    ·rw [if_pos c10] at H
     have c10b0:=decide_eq_true c10
     clear c10
     by_cases c11 : x402001_1.length < 17592186044416
     ·rw [if_pos c11] at H
      have LMc11:=qA.mk c11
      clear c11
      obtain ⟨y404,hy404⟩ : ∃ y_ : List Int,y_ = (x402001_1 ++ [x6_1]):=⟨_,rfl⟩
      replace H : (jB.l0 k1 a1 (wrap64 (x6_1 + 1)) s0_0 t403 0 y404) = some (r1,r2,r3,r4):=by first|(rw [hy404];with_reducible exact H)|(have H2_:=(Option.bind_some _ _).symm.trans H;rw [hy404];with_reducible exact H2_)|(have H2_:=(Option.bind_some _ _).symm.trans H;with_reducible exact H2_)|with_reducible exact H|(rw [hy404];exact H)|exact H
      have Ny404:=qA.mk hy404
      clear hy404
      have H':=qA.mk H
      clear H
      go_wp2_with (first|((with_reducible refine qI (f:=29) rfl ?_);refine qY (some 14) rfl rfl Try.func29 (by kernel_rfl) rfl #[.pointer (some ⟨g,0,none⟩),.int .i64 10] rfl byah ?_;(with_reducible refine (qZ.calls g s0_0 x1001_1 10 t402 t403 w0 _ ?side1 ?side2 A9.out).mono ?_);(case side1=>exact bybp HI0.out NB0_400.out NB0_401.out);(case side2=>exact bybq HI0.out GE400.out GE401.out);rintro e w12 ⟨rfl,hi,hb,hk⟩;refine ⟨_,rfl,?_⟩;have n_:=q_6 (Kd.zB (Kd.uO (qB.apart (show qB w0 _ g s0_0 x1001_1 from by repeat (first|(with_reducible first|exact HI0.out|apply qB.alloc|apply qB.drewN|apply qB.drew|apply qB.vZ|refine qB.far ?_ NB0_400.out _|refine qB.far ?_ NB0_401.out _)|exact HI0.out)) (byav HO_402001.out) (by decide)) hk (fun _ h=>h.2)) (fun _ h=>h.1)) (qJ.blkB hk BK400.out NB400_0.out (by simp)) (qJ.blkB hk BK401.out NB401_0.out (by simp)) (qJ.trans (bybr GW400.out GW401.out) hk (.inl rfl)) (hb) (hi);clear HO_402001 BK400 BK401 HK HB HI0;obtain ⟨HO_402001,BK400,BK401,HK,HB,HI0⟩:=n_;clear hb hk hi;have hnb13:=NB401_400.out;have hnc13:=NB400_401.out;have hnb14:=NB401_0.out;have hnc14:=NB0_401.out;obtain ⟨hcz15_0,hcz15_1,hcz15_2,hfz15_0,hfz15_1,hfz15_2⟩:=cz3 BK401.out)|((with_reducible refine uU (b:=.append) (xs:=#[.tmp 17,.tmp 19]) rfl ?_);at_builtin;refine Kd.Qk (Kd.int .i64) w.heap.size rfl (.tmp 17) (.tmp 19) 22 3 (.int .i64 0) 8 rfl Try.underlying22 info3 rfl (by decide) (by omega) u402001 x402001_1 x6_1 [.int .i64 x6_1] (fun _=>True) (fun _=>False) rfl rfl ?aP (fun _ hk=>hk.elim) ?aF ?aO (Below.refl _ _) ?aS ?aL ?_;(case aP=>exact rfl);(case aF=>exact (fun _ _=>trivial));(case aO=>exact (byav HO_402001.out));(case aS=>exact (vM (w:=w) (g:=g) (row:=none) (bybr GW400.out GW401.out)));(case aL=>have:=LMc11.out;omega);intro v405 w16 ho hb hg hat;rw [← Ny404.out] at ho;have n_:=q_6 (vP (g:=gb400) (o:=.cells #[.int .i64 0,.slice none 0 0,.slice none 0 0] 56 (0,0)) (byaf BK400.out) hg (Kd.R_ne HO_402001.out BK400.out (by decide))) (vP (g:=gb401) (o:=.cells #[.int .i64 0,u402001,.slice none 0 0] 56 (0,0)) (byaf BK401.out) hg (Kd.R_ne HO_402001.out BK401.out (by decide))) (qB.grown (bybp HI0.out NB0_400.out NB0_401.out) hg (qB.own_ne HI0.out HO_402001.out (by decide))) (kT (bybq HI0.out GE400.out GE401.out) HL.out hb) (qJ.trans (bybr GW400.out GW401.out) (qJ.Qx hg g) (Kd.Zq HO_402001.out)) (ho);clear BK400 BK401 HI0 HB HK HO_402001;obtain ⟨BK400,BK401,HI0,HB,HK,HO406⟩:=n_;clear ho hb hg hat;obtain ⟨Ao17,co17,eo17⟩:=Kd.vJ HO406.out;subst eo17;obtain ⟨hcz18_0,hcz18_1,hcz18_2,hfz18_0,hfz18_1,hfz18_2⟩:=cz3 BK401.out))
      go_roundg k1
      case measure=>have:=HK1.out;omega
      case rel=>exact ⟨(wrap64 (x6_1 + 1)),(t403),(y404),(.slice Ao17 y404.length co17),byae,H',⟨byai⟩,⟨by (with_reducible repeat (first|apply Kd.jP|apply Kd.jO|apply Kd.jZ));exact Kd.zB (Kd.jF (p:=⟨gb401,1,none⟩) (Kd.uB HO406.out BK401.out (by decide)) (fun _ hk=>hk.2) (.slice Ao17 y404.length co17)) (fun _ hk=>trivial)⟩,⟨bybe NB400_401.out BK400.out⟩,⟨by (with_reducible repeat (first|refine qF ?_ _|refine qG ?_|refine qE ?_ _));refine qO (cs:=#[.int .i64 0,u402001,.slice none 0 0]) ?_ 1 _ rfl;(with_reducible repeat (first|refine qF ?_ _|refine qG ?_|refine qE ?_ _));exact BK401.out⟩,⟨bybp HI0.out NB0_400.out NB0_401.out⟩,⟨bybr GW400.out GW401.out⟩,⟨bybq HI0.out GE400.out GE401.out⟩⟩
     ·rw [if_neg c11] at H
      exact absurd H (by simp)
    ·rw [if_neg c10] at H
     have c10b0:=decide_eq_false c10
     clear c10
     have H':=qA.mk H
     clear H
     go_wp2_with (first|((with_reducible refine qI (f:=29) rfl ?_);refine qY (some 14) rfl rfl Try.func29 (by kernel_rfl) rfl #[.pointer (some ⟨g,0,none⟩),.int .i64 10] rfl byah ?_;(with_reducible refine (qZ.calls g s0_0 x1001_1 10 t402 t403 w0 _ ?side1 ?side2 A9.out).mono ?_);(case side1=>exact bybp HI0.out NB0_400.out NB0_401.out);(case side2=>exact bybq HI0.out GE400.out GE401.out);rintro e w19 ⟨rfl,hi,hb,hk⟩;refine ⟨_,rfl,?_⟩;have n_:=q_6 (Kd.zB (Kd.uO (qB.apart (show qB w0 _ g s0_0 x1001_1 from by repeat (first|(with_reducible first|exact HI0.out|apply qB.alloc|apply qB.drewN|apply qB.drew|apply qB.vZ|refine qB.far ?_ NB0_400.out _|refine qB.far ?_ NB0_401.out _)|exact HI0.out)) (byav HO_402001.out) (by decide)) hk (fun _ h=>h.2)) (fun _ h=>h.1)) (qJ.blkB hk BK400.out NB400_0.out (by simp)) (qJ.blkB hk BK401.out NB401_0.out (by simp)) (qJ.trans (bybr GW400.out GW401.out) hk (.inl rfl)) (hb) (hi);clear HO_402001 BK400 BK401 HK HB HI0;obtain ⟨HO_402001,BK400,BK401,HK,HB,HI0⟩:=n_;clear hb hk hi))
     go_roundg k1
     case measure=>have:=HK1.out;omega
     case rel=>exact ⟨(wrap64 (x6_1 + 1)),(t403),(x402001_1),(u402001),byae,H',⟨byai⟩,⟨byav HO_402001.out⟩,⟨byaf BK400.out⟩,⟨byaf BK401.out⟩,⟨bybp HI0.out NB0_400.out NB0_401.out⟩,⟨bybr GW400.out GW401.out⟩,⟨bybq HI0.out GE400.out GE401.out⟩⟩
   ·rw [if_neg c8] at H
    have c8b0:=decide_eq_false c8
    clear c8
    by_cases c20 : (x402001_1.length : Int) = 0
    ·rw [if_pos c20] at H
     obtain ⟨c20b0,c20b1⟩:=eqT c20
     clear c20
     obtain ⟨y407,hy407⟩ : ∃ y_ : List Int,y_ = (([0] : List Int)):=⟨_,rfl⟩
     replace H : ((jY.f s0_0 x1001_1 (([0,0,0,1,(-1)] : List Int))).bind fun bt413=>(some (mn (y407.length : Int) (mx 1 (wrap64 ((wrap64 (Int.tdiv (wrap64 ((wrap64 (2 * (y407.length : Int))) + 2)) 3)) + bt413.1))),y407,([] : List (S56)),bt413.2))) = some (r1,r2,r3,r4):=by first|(rw [hy407];with_reducible exact H)|(have H2_:=(Option.bind_some _ _).symm.trans H;rw [hy407];with_reducible exact H2_)|(have H2_:=(Option.bind_some _ _).symm.trans H;with_reducible exact H2_)|with_reducible exact H|(rw [hy407];exact H)|exact H
     have Ny407:=qA.mk hy407
     clear hy407
     obtain ⟨y410,hy410⟩ : ∃ y_ : List Int,y_ = (([0,0,0,1,(-1)] : List Int)):=⟨_,rfl⟩
     replace H : ((jY.f s0_0 x1001_1 y410).bind fun bt413=>(some (mn (y407.length : Int) (mx 1 (wrap64 ((wrap64 (Int.tdiv (wrap64 ((wrap64 (2 * (y407.length : Int))) + 2)) 3)) + bt413.1))),y407,([] : List (S56)),bt413.2))) = some (r1,r2,r3,r4):=by first|(rw [hy410];with_reducible exact H)|(have H2_:=(Option.bind_some _ _).symm.trans H;rw [hy410];with_reducible exact H2_)|(have H2_:=(Option.bind_some _ _).symm.trans H;with_reducible exact H2_)|with_reducible exact H|(rw [hy410];exact H)|exact H
     have Ny410:=qA.mk hy410
     clear hy410
     replace H:=Option.bind_eq_some_iff.mp H
     obtain ⟨⟨t413,t414⟩,A210,H⟩:=H
     try dsimp only at H
     have A21:=qA.mk A210
     clear A210
     obtain ⟨ji22,hji22⟩ : ∃ j_ : Int,(mx 1 (wrap64 ((wrap64 (Int.tdiv (wrap64 ((wrap64 (2 * (y407.length : Int))) + 2)) 3)) + t413))) = j_:=⟨_,rfl⟩
     (first|rw [hji22] at H|(simp only [hji22] at H))
     (try rw [hji22] at A21)
     (try (have hji22l : 1 ≤ ji22:=by (rw [← hji22];unfold mx;(repeat' split)<;>omega)))
     (try (have hji22m : 0 ≤ ji22:=by omega))
     have hji22_ : (if 1 < (wrap64 ((wrap64 (Int.tdiv (wrap64 ((wrap64 (2 * (y407.length : Int))) + 2)) 3)) + t413)) then (wrap64 ((wrap64 (Int.tdiv (wrap64 ((wrap64 (2 * (y407.length : Int))) + 2)) 3)) + t413)) else 1) = ji22:=hji22
     obtain ⟨ji23,hji23⟩ : ∃ j_ : Int,(mn (y407.length : Int) (ji22)) = j_:=⟨_,rfl⟩
     (first|rw [hji23] at H|(simp only [hji23] at H))
     (try rw [hji23] at A21)
     have hji23_ : (if (ji22) < (y407.length : Int) then (ji22) else (y407.length : Int)) = ji23:=hji23
     simp only [Option.some.injEq,Prod.mk.injEq] at H
     obtain ⟨rfl,rfl,rfl,rfl⟩:=H
     have hnb24:=NB401_400.out
     have hnc24:=NB400_401.out
     have hnb25:=NB401_0.out
     have hnc25:=NB0_401.out
     obtain ⟨hcz26_0,hcz26_1,hcz26_2,hfz26_0,hfz26_1,hfz26_2⟩:=cz3 BK401.out
     obtain ⟨Ao27,co27,eo27⟩:=Kd.vJ HO_402001.out
     subst eo27
     try go_wp2_with (first|((with_reducible refine qP (N:=26) rfl ?_);refine Kd.R_lit (Kd.int .i64) _ 3 ?hg (N:=26) ?hd (xs:=([0] : List Int)) (inner:=[.int .i64 0]) (ok:=fun _=>True) (okp:=fun _=>True) ?hr ?hp (fun _ hk=>hk) trivial (Below.refl _ _) (Nat.le_refl _) (by simp) ?_;(case hd=>rfl);(case hg=>rfl);(case hr=>exact byaa);(case hp=>exact (Reps.one (show Kd.M (Kd.int .i64) _ _ _ 0 [.int .i64 0] from rfl) (Reps.none _ _)));intro v408 w28 ho29 hb hg_ hnew_;clear hg_ hnew_;(first|rw [← Ny407.out] at ho29|(simp only [Int.reduceToNat] at ho29;rw [← Ny407.out] at ho29));have n_:=q_7 (Kd.Zz (byav HO_402001.out) (Kd.kL ho29) hb) (Kd.uZ (Kd.R_new' ho29 (Kd.R_lt (byav HO_402001.out))) (vM (w:=w) (g:=g) (row:=none) (bybr GW400.out GW401.out))) (qH BK400.out hb) (qH BK401.out hb) (qB.below (bybp HI0.out NB0_400.out NB0_401.out) hb) (qJ.trans (bybr GW400.out GW401.out) (qJ.of_below hb g none) (.inl rfl)) (qC (bybq HI0.out GE400.out GE401.out) hb);clear HO_402001 BK400 BK401 HI0 HK HB;obtain ⟨HO_402001,HO409,BK400,BK401,HI0,HK,HB⟩:=n_;clear hb ho29;obtain ⟨Ao30,co30,eo30⟩:=Kd.vJ HO409.out;subst eo30;obtain ⟨hcz31_0,hcz31_1,hcz31_2,hfz31_0,hfz31_1,hfz31_2⟩:=cz3 BK401.out))
     have n0_ : qA (Kd.R (Kd.int .i64) 3 (w28.setCell ⟨gb401,1,none⟩ (.slice Ao30 y407.length co30)) w.heap.size (fun k_=>some k_≠(.slice Ao30 y407.length co30 : Value).ownBlock) (.slice Ao27 x402001_1.length co27) x402001_1):=⟨by (with_reducible repeat (first|apply Kd.jP|apply Kd.jO|apply Kd.jZ));exact Kd.zB (Kd.jF (p:=⟨gb401,1,none⟩) (Kd.uB HO_402001.out BK401.out (by decide)) (fun _ hk=>hk.2) (.slice Ao30 y407.length co30)) (fun _ hk=>hk.1.2)⟩
     have n1_ : qA (Kd.R (Kd.int .i64) 3 (w28.setCell ⟨gb401,1,none⟩ (.slice Ao30 y407.length co30)) w.heap.size (fun k_=>some k_≠(.slice Ao27 x402001_1.length co27 : Value).ownBlock) (.slice Ao30 y407.length co30) y407):=⟨by (with_reducible repeat (first|apply Kd.jP|apply Kd.jO|apply Kd.jZ));exact Kd.zB (Kd.jF (p:=⟨gb401,1,none⟩) (Kd.uB HO409.out BK401.out (by decide)) (fun _ hk=>hk.2) (.slice Ao30 y407.length co30)) (fun _ hk=>hk.1.2)⟩
     have n2_ : qA ((w28.setCell ⟨gb401,1,none⟩ (.slice Ao30 y407.length co30)).heap[gb400]? = some (.cells #[.int .i64 0,.slice none 0 0,.slice none 0 0] 56 (0,0))):=⟨bybe NB400_401.out BK400.out⟩
     have n3_ : qA ((w28.setCell ⟨gb401,1,none⟩ (.slice Ao30 y407.length co30)).heap[gb401]? = some (.cells #[.int .i64 0,.slice Ao30 y407.length co30,.slice none 0 0] 56 (0,0))):=⟨by (with_reducible repeat (first|refine qF ?_ _|refine qG ?_|refine qE ?_ _));refine qO (cs:=#[.int .i64 0,.slice Ao27 x402001_1.length co27,.slice none 0 0]) ?_ 1 _ rfl;(with_reducible repeat (first|refine qF ?_ _|refine qG ?_|refine qE ?_ _));exact BK401.out⟩
     have n4_ : qA (qB w0 (w28.setCell ⟨gb401,1,none⟩ (.slice Ao30 y407.length co30)) g s0_0 x1001_1):=⟨bybp HI0.out NB0_400.out NB0_401.out⟩
     have n5_ : qA (qJ w (w28.setCell ⟨gb401,1,none⟩ (.slice Ao30 y407.length co30)) g none):=⟨bybr GW400.out GW401.out⟩
     have n6_ : qA (Below w0.heap.size w0 (w28.setCell ⟨gb401,1,none⟩ (.slice Ao30 y407.length co30))):=⟨bybq HI0.out GE400.out GE401.out⟩
     (try clear HO_402001)
     (try clear HO409)
     (try clear BK400)
     (try clear BK401)
     (try clear HI0)
     (try clear HK)
     (try clear HB)
     generalize (w28.setCell ⟨gb401,1,none⟩ (.slice Ao30 y407.length co30)) = w32 at n0_ n1_ n2_ n3_ n4_ n5_ n6_ ⊢
     have HO_402001:=n0_
     have HO409:=n1_
     have BK400:=n2_
     have BK401:=n3_
     have HI0:=n4_
     have HK:=n5_
     have HB:=n6_
     clear n0_ n1_ n2_ n3_ n4_ n5_ n6_
     have n_:=q_7 (Kd.jZ HO_402001.out) (Kd.jZ HO409.out) (qG BK400.out) (qG BK401.out) (qB.drew HI0.out) (Zg HK.out) (vI HB.out)
     clear HO_402001 HO409 BK400 BK401 HI0 HK HB
     obtain ⟨HO_402001,HO409,BK400,BK401,HI0,HK,HB⟩:=n_
     refine Qm (n:=17) (S:=fun w'=>w'.cell? ⟨gb401,0,none⟩ = some (.int .i64 0)∧w'.cell? ⟨gb401,1,none⟩ = some (.slice Ao30 y407.length co30)∧w'.cell? ⟨gb401,2,none⟩ = some (.slice none 0 0)) (ds:=[16]) (bb 17 0) (by kernel_rfl) rfl rfl (cv3 BK401.out) (fun hHeld=>?_);refine Qb jB.tab9 jB.bits9 (fun HT_ HW_=>?_)
     generalize w32.drew = w33 at HO_402001 HO409 BK400 BK401 HI0 HK HB hHeld ⊢
     refine zH (i:=0) (N:=some 28) (bb 17 1) ?_
     refine zH (i:=3) (N:=some 31) (bb 17 9) ?_
     refine zH (i:=9) (N:=some 37) (bb 17 521) ?_
     refine takeZE (i:=1) (N:=some 29) (bb 17 523) hHeld ?_
     refine zH (i:=2) (N:=some 30) (bb 17 527) ?_
     refine takeZE (i:=4) (N:=some 32) (bb 17 543) hHeld ?_
     refine zH (i:=5) (N:=some 33) (bb 17 575) ?_
     refine zH (i:=6) (N:=some 34) (bb 17 639) ?_
     refine zH (i:=7) (N:=some 35) (bb 17 767) ?_
     refine zH (i:=8) (N:=some 36) (bb 17 1023) ?_
     refine one_ (i:=10) (N:=some 38) (bb 17 2047) rfl rfl (kC HT_.out (by kernel_rfl)) (by decide) (fun K hK=>?_)
     refine Kd.R_lit_step (Kd.int .i64) _ 3 ?hg (N:=38) ?hd (xs:=([0,0,0,1,(-1)] : List Int)) (inner:=[.int .i64 0,.int .i64 0,.int .i64 0,.int .i64 1,.int .i64 (-1)]) (ok:=fun _=>True) (okp:=fun _=>True) ?hr ?hp (fun _ hk=>hk) trivial (Below.refl _ _) (Nat.le_refl _) (by simp) ?_;(case hd=>rfl);(case hg=>rfl);(case hr=>exact byaa);(case hp=>exact (Reps.one (show Kd.M (Kd.int .i64) _ _ _ 0 [.int .i64 0] from rfl) (Reps.one (show Kd.M (Kd.int .i64) _ _ _ 0 [.int .i64 0] from rfl) (Reps.one (show Kd.M (Kd.int .i64) _ _ _ 0 [.int .i64 0] from rfl) (Reps.one (show Kd.M (Kd.int .i64) _ _ _ 1 [.int .i64 1] from rfl) (Reps.one (show Kd.M (Kd.int .i64) _ _ _ (-1) [.int .i64 (-1)] from rfl) (Reps.none _ _)))))))
     intro v411 w34 ho35 hb hg_ hnew_
     clear hg_ hnew_
     (first|rw [← Ny410.out] at ho35|(simp only [Int.reduceToNat] at ho35;rw [← Ny410.out] at ho35))
     have n_:=q_8 (Kd.Zz (byav HO_402001.out) (Kd.kL ho35) hb) (Kd.Zz (byav HO409.out) (Kd.kL ho35) hb) (Kd.uZ (Kd.R_new' (Kd.R_new' ho35 (Kd.R_lt (byav HO_402001.out))) (Kd.R_lt (byav HO409.out))) (vM (w:=w) (g:=g) (row:=none) (bybr GW400.out GW401.out))) (qH BK400.out hb) (qH BK401.out hb) (qB.below (bybp HI0.out NB0_400.out NB0_401.out) hb) (qJ.trans (bybr GW400.out GW401.out) (qJ.of_below hb g none) (.inl rfl)) (qC (bybq HI0.out GE400.out GE401.out) hb)
     clear HO_402001 HO409 BK400 BK401 HI0 HK HB
     obtain ⟨HO_402001,HO409,HO412,BK400,BK401,HI0,HK,HB⟩:=n_
     clear hb ho35
     obtain ⟨Ao36,co36,eo36⟩:=Kd.vJ HO412.out
     (first|subst eo36|(injection eo36 with f1_ f2_ f3_;have f4_:=f1_.symm;have f5_:=f3_.symm;clear f1_ f2_ f3_;subst f4_;subst f5_))
     refine hK.out _ _ (cv3 BK401.out) (fun hHeld=>?_)
     clear hK K
     refine kN (N:=some 38) ?_
     refine one_ (i:=11) (N:=some 39) (bb 17 4095) rfl rfl (kC HT_.out (by kernel_rfl)) (by decide) (fun K hK=>?_)
     refine Qg Try.func33 (by kernel_rfl) rfl #[.pointer (some ⟨g,0,none⟩),.slice Ao36 y410.length co36] (by rfl) rfl rfl byah ?_
     with_reducible refine (jY.calls g s0_0 x1001_1 _ _ y410 t413 t414 w0 _ ?side1 ?side2 ?side3 ?side4 ?side5 A21.out).mono ?_
     (case side1=>exact bybp HI0.out NB0_400.out NB0_401.out)
     (case side2=>exact bybq HI0.out GE400.out GE401.out)
     (case side3=>exact bybt HO412.out)
     (case side4=>exact (Kd.uM HO412.out).2.1)
     (case side5=>exact far_slice (qB.own_ne HI0.out HO412.out (by decide)))
     rintro e w37 ⟨rfl,hi,hb,hk⟩
     refine ⟨_,rfl,?_⟩
     have n_:=q_8 (Kd.zB (Kd.uO (qB.apart (show qB w0 _ g s0_0 x1001_1 from by repeat (first|(with_reducible first|exact HI0.out|apply qB.alloc|apply qB.drewN|apply qB.drew|apply qB.vZ|refine qB.far ?_ NB0_400.out _|refine qB.far ?_ NB0_401.out _)|exact HI0.out)) (byav HO_402001.out) (by decide)) hk (fun _ h=>h.2)) (fun _ h=>h.1)) (qJ.blkB hk BK400.out NB400_0.out (by simp)) (qJ.blkB hk BK401.out NB401_0.out (by simp)) (Kd.zB (Kd.uO (qB.apart (show qB w0 _ g s0_0 x1001_1 from by repeat (first|(with_reducible first|exact HI0.out|apply qB.alloc|apply qB.drewN|apply qB.drew|apply qB.vZ|refine qB.far ?_ NB0_400.out _|refine qB.far ?_ NB0_401.out _)|exact HI0.out)) (byav HO409.out) (by decide)) hk (fun _ h=>h.2)) (fun _ h=>h.1)) (Kd.zB (Kd.uO (qB.apart (show qB w0 _ g s0_0 x1001_1 from by repeat (first|(with_reducible first|exact HI0.out|apply qB.alloc|apply qB.drewN|apply qB.drew|apply qB.vZ|refine qB.far ?_ NB0_400.out _|refine qB.far ?_ NB0_401.out _)|exact HI0.out)) (byav HO412.out) (by decide)) hk (fun _ h=>h.2)) (fun _ h=>h.1)) (qJ.trans (bybr GW400.out GW401.out) hk (.inl rfl)) (hb) (hi)
     clear HO_402001 BK400 BK401 HO409 HO412 HK HB HI0
     obtain ⟨HO_402001,BK400,BK401,HO409,HO412,HK,HB,HI0⟩:=n_
     (try clear hb)
     (try clear hb2)
     (try clear hk)
     (try clear hi)
     refine hK.out _ _ (cv3 BK401.out) (fun hHeld=>?_)
     clear hK K
     refine kN (N:=some 39) ?_
     refine zH (i:=12) (N:=some 40) (bb 17 8191) ?_
     refine zH (i:=13) (N:=some 41) (bb 17 16383) ?_
     refine zH (i:=14) (N:=some 42) (bb 17 32767) ?_
     refine zH (i:=15) (N:=some 43) (bb 17 65535) ?_
     refine last_ (i:=16) (N:=none) (bb 17 131071) rfl rfl (kC HT_.out (by kernel_rfl)) (by decide) (fun K hK=>?_)
     have hs38 : w37.cell? ⟨gb401,0,none⟩ = some (.int .i64 0):=(qN BK401.out 0).trans rfl
     have hfs38:=kJ BK401.out 0
     have hns38_0:=NB400_401.out
     have hms38_0:=NB401_400.out
     refine skip_ (w1:=?_) (by rfl) rfl ?_ ?_
     rotate_left
     ·go_simp
      rfl
     refine hK.out _ _ ?_
     clear hK K
     refine Ze (Qz HT_.out (by kernel_rfl)) ?_
     obtain ⟨hcz39_0,hcz39_1,hcz39_2,hfz39_0,hfz39_1,hfz39_2⟩:=cz3 BK401.out
     have hnb40:=NB400_0.out
     have hnc40:=NB0_400.out
     obtain ⟨hcz41_0,hcz41_1,hcz41_2,hfz41_0,hfz41_1,hfz41_2⟩:=cz3 BK400.out
     try go_wp2
     refine bodyPost_ret (results_cell_row rfl _ _ gb400 56 #[.int .i64 ji23,.slice Ao30 y407.length co30,.slice none 0 0] (0,0) _ rfl (by (with_reducible repeat (first|refine qF ?_ _|refine qG ?_|refine qE ?_ _));refine qO (cs:=#[.int .i64 ji23,.slice Ao30 y407.length co30,.slice none 0 0]) ?_ 2 _ rfl;(with_reducible repeat (first|refine qF ?_ _|refine qG ?_|refine qE ?_ _));refine qO (cs:=#[.int .i64 ji23,.slice none 0 0,.slice none 0 0]) ?_ 1 _ rfl;(with_reducible repeat (first|refine qF ?_ _|refine qG ?_|refine qE ?_ _));refine qO (cs:=#[.int .i64 0,.slice none 0 0,.slice none 0 0]) ?_ 0 _ rfl;(with_reducible repeat (first|refine qF ?_ _|refine qG ?_|refine qE ?_ _));refine Zd ?_ NB400_401.out _;(with_reducible repeat (first|refine qF ?_ _|refine qG ?_|refine qE ?_ _));exact BK400.out) Try.underlying56 rfl (by kernel_rfl)) rfl ?_
     exact ⟨_,_,by first|rfl|(simp [uC,uD]<;>rfl)|(simp only [← hji22,← hji23];first|rfl|(simp [uC,uD]<;>rfl))|(simp [*,uC,uD]<;>rfl),by (with_reducible repeat (first|apply Kd.jP|apply Kd.jO|apply Kd.jZ));exact Kd.zB (Kd.jF (p:=⟨gb400,2,none⟩) (Kd.jF (p:=⟨gb400,1,none⟩) (Kd.jF (p:=⟨gb400,0,none⟩) (Kd.jF (p:=⟨gb401,0,none⟩) (Kd.uB (Kd.uB HO409.out BK401.out (by decide)) BK400.out (by decide)) (fun _ hk=>hk.1.2) (.int .i64 ji23)) (fun _ hk=>hk.2) (.int .i64 ji23)) (fun _ hk=>hk.2) (.slice Ao30 y407.length co30)) (fun _ hk=>hk.2) (.slice none 0 0)) (fun _ hk=>trivial),byau,bybp HI0.out NB0_400.out NB0_401.out,bybq HI0.out GE400.out GE401.out,bybr GW400.out GW401.out⟩
    ·rw [if_neg c20] at H
     obtain ⟨c20b0,c20b1⟩:=eqF c20
     have c20b2 : ¬ (x402001_1 = []):=fun h_=>c20 (by rw [h_];rfl)
     obtain ⟨y415,hy415⟩ : ∃ y_ : List Int,y_ = (([0,0,0,1,(-1)] : List Int)):=⟨_,rfl⟩
     replace H : ((jY.f s0_0 x1001_1 y415).bind fun bt418=>(some (mn (x402001_1.length : Int) (mx 1 (wrap64 ((wrap64 (Int.tdiv (wrap64 ((wrap64 (2 * (x402001_1.length : Int))) + 2)) 3)) + bt418.1))),x402001_1,([] : List (S56)),bt418.2))) = some (r1,r2,r3,r4):=by first|(rw [hy415];with_reducible exact H)|(have H2_:=(Option.bind_some _ _).symm.trans H;rw [hy415];with_reducible exact H2_)|(have H2_:=(Option.bind_some _ _).symm.trans H;with_reducible exact H2_)|with_reducible exact H|(rw [hy415];exact H)|exact H
     have Ny415:=qA.mk hy415
     clear hy415
     replace H:=Option.bind_eq_some_iff.mp H
     obtain ⟨⟨t418,t419⟩,A420,H⟩:=H
     try dsimp only at H
     have A42:=qA.mk A420
     clear A420
     obtain ⟨ji43,hji43⟩ : ∃ j_ : Int,(mx 1 (wrap64 ((wrap64 (Int.tdiv (wrap64 ((wrap64 (2 * (x402001_1.length : Int))) + 2)) 3)) + t418))) = j_:=⟨_,rfl⟩
     (first|rw [hji43] at H|(simp only [hji43] at H))
     (try rw [hji43] at A42)
     have hji43_ : (if 1 < (wrap64 ((wrap64 (Int.tdiv (wrap64 ((wrap64 (2 * (x402001_1.length : Int))) + 2)) 3)) + t418)) then (wrap64 ((wrap64 (Int.tdiv (wrap64 ((wrap64 (2 * (x402001_1.length : Int))) + 2)) 3)) + t418)) else 1) = ji43:=hji43
     obtain ⟨ji44,hji44⟩ : ∃ j_ : Int,(mn (x402001_1.length : Int) (ji43)) = j_:=⟨_,rfl⟩
     (first|rw [hji44] at H|(simp only [hji44] at H))
     (try rw [hji44] at A42)
     have hji44_ : (if (ji43) < (x402001_1.length : Int) then (ji43) else (x402001_1.length : Int)) = ji44:=hji44
     simp only [Option.some.injEq,Prod.mk.injEq] at H
     obtain ⟨rfl,rfl,rfl,rfl⟩:=H
     have hnb45:=NB401_400.out
     have hnc45:=NB400_401.out
     have hnb46:=NB401_0.out
     have hnc46:=NB0_401.out
     obtain ⟨hcz47_0,hcz47_1,hcz47_2,hfz47_0,hfz47_1,hfz47_2⟩:=cz3 BK401.out
     obtain ⟨Ao48,co48,eo48⟩:=Kd.vJ HO_402001.out
     subst eo48
     try go_wp2
     have n_:=q_6 (Kd.jZ HO_402001.out) (qG BK400.out) (qG BK401.out) (qB.drew HI0.out) (Zg HK.out) (vI HB.out)
     clear HO_402001 BK400 BK401 HI0 HK HB
     obtain ⟨HO_402001,BK400,BK401,HI0,HK,HB⟩:=n_
     refine Qm (n:=17) (S:=fun w'=>w'.cell? ⟨gb401,0,none⟩ = some (.int .i64 0)∧w'.cell? ⟨gb401,1,none⟩ = some (.slice Ao48 x402001_1.length co48)∧w'.cell? ⟨gb401,2,none⟩ = some (.slice none 0 0)) (ds:=[16]) (bb 17 0) (by kernel_rfl) rfl rfl (cv3 BK401.out) (fun hHeld=>?_);refine Qb jB.tab9 jB.bits9 (fun HT_ HW_=>?_)
     generalize wr.drew = w49 at HO_402001 BK400 BK401 HI0 HK HB hHeld ⊢
     refine zH (i:=0) (N:=some 28) (bb 17 1) ?_
     refine zH (i:=3) (N:=some 31) (bb 17 9) ?_
     refine zH (i:=9) (N:=some 37) (bb 17 521) ?_
     refine takeZE (i:=1) (N:=some 29) (bb 17 523) hHeld ?_
     refine zH (i:=2) (N:=some 30) (bb 17 527) ?_
     refine takeZE (i:=4) (N:=some 32) (bb 17 543) hHeld ?_
     refine zH (i:=5) (N:=some 33) (bb 17 575) ?_
     refine zH (i:=6) (N:=some 34) (bb 17 639) ?_
     refine zH (i:=7) (N:=some 35) (bb 17 767) ?_
     refine zH (i:=8) (N:=some 36) (bb 17 1023) ?_
     refine one_ (i:=10) (N:=some 38) (bb 17 2047) rfl rfl (kC HT_.out (by kernel_rfl)) (by decide) (fun K hK=>?_)
     refine Kd.R_lit_step (Kd.int .i64) _ 3 ?hg (N:=38) ?hd (xs:=([0,0,0,1,(-1)] : List Int)) (inner:=[.int .i64 0,.int .i64 0,.int .i64 0,.int .i64 1,.int .i64 (-1)]) (ok:=fun _=>True) (okp:=fun _=>True) ?hr ?hp (fun _ hk=>hk) trivial (Below.refl _ _) (Nat.le_refl _) (by simp) ?_;(case hd=>rfl);(case hg=>rfl);(case hr=>exact byaa);(case hp=>exact (Reps.one (show Kd.M (Kd.int .i64) _ _ _ 0 [.int .i64 0] from rfl) (Reps.one (show Kd.M (Kd.int .i64) _ _ _ 0 [.int .i64 0] from rfl) (Reps.one (show Kd.M (Kd.int .i64) _ _ _ 0 [.int .i64 0] from rfl) (Reps.one (show Kd.M (Kd.int .i64) _ _ _ 1 [.int .i64 1] from rfl) (Reps.one (show Kd.M (Kd.int .i64) _ _ _ (-1) [.int .i64 (-1)] from rfl) (Reps.none _ _)))))))
     intro v416 w50 ho51 hb hg_ hnew_
     clear hg_ hnew_
     (first|rw [← Ny415.out] at ho51|(simp only [Int.reduceToNat] at ho51;rw [← Ny415.out] at ho51))
     have n_:=q_7 (Kd.Zz (byav HO_402001.out) (Kd.kL ho51) hb) (Kd.uZ (Kd.R_new' ho51 (Kd.R_lt (byav HO_402001.out))) (vM (w:=w) (g:=g) (row:=none) (bybr GW400.out GW401.out))) (qH BK400.out hb) (qH BK401.out hb) (qB.below (bybp HI0.out NB0_400.out NB0_401.out) hb) (qJ.trans (bybr GW400.out GW401.out) (qJ.of_below hb g none) (.inl rfl)) (qC (bybq HI0.out GE400.out GE401.out) hb)
     clear HO_402001 BK400 BK401 HI0 HK HB
     obtain ⟨HO_402001,HO417,BK400,BK401,HI0,HK,HB⟩:=n_
     clear hb ho51
     obtain ⟨Ao52,co52,eo52⟩:=Kd.vJ HO417.out
     (first|subst eo52|(injection eo52 with f1_ f2_ f3_;have f4_:=f1_.symm;have f5_:=f3_.symm;clear f1_ f2_ f3_;subst f4_;subst f5_))
     refine hK.out _ _ (cv3 BK401.out) (fun hHeld=>?_)
     clear hK K
     refine kN (N:=some 38) ?_
     refine one_ (i:=11) (N:=some 39) (bb 17 4095) rfl rfl (kC HT_.out (by kernel_rfl)) (by decide) (fun K hK=>?_)
     refine Qg Try.func33 (by kernel_rfl) rfl #[.pointer (some ⟨g,0,none⟩),.slice Ao52 y415.length co52] (by rfl) rfl rfl byah ?_
     with_reducible refine (jY.calls g s0_0 x1001_1 _ _ y415 t418 t419 w0 _ ?side1 ?side2 ?side3 ?side4 ?side5 A42.out).mono ?_
     (case side1=>exact bybp HI0.out NB0_400.out NB0_401.out)
     (case side2=>exact bybq HI0.out GE400.out GE401.out)
     (case side3=>exact bybt HO417.out)
     (case side4=>exact (Kd.uM HO417.out).2.1)
     (case side5=>exact far_slice (qB.own_ne HI0.out HO417.out (by decide)))
     rintro e w53 ⟨rfl,hi,hb,hk⟩
     refine ⟨_,rfl,?_⟩
     have n_:=q_7 (Kd.zB (Kd.uO (qB.apart (show qB w0 _ g s0_0 x1001_1 from by repeat (first|(with_reducible first|exact HI0.out|apply qB.alloc|apply qB.drewN|apply qB.drew|apply qB.vZ|refine qB.far ?_ NB0_400.out _|refine qB.far ?_ NB0_401.out _)|exact HI0.out)) (byav HO_402001.out) (by decide)) hk (fun _ h=>h.2)) (fun _ h=>h.1)) (qJ.blkB hk BK400.out NB400_0.out (by simp)) (qJ.blkB hk BK401.out NB401_0.out (by simp)) (Kd.zB (Kd.uO (qB.apart (show qB w0 _ g s0_0 x1001_1 from by repeat (first|(with_reducible first|exact HI0.out|apply qB.alloc|apply qB.drewN|apply qB.drew|apply qB.vZ|refine qB.far ?_ NB0_400.out _|refine qB.far ?_ NB0_401.out _)|exact HI0.out)) (byav HO417.out) (by decide)) hk (fun _ h=>h.2)) (fun _ h=>h.1)) (qJ.trans (bybr GW400.out GW401.out) hk (.inl rfl)) (hb) (hi)
     clear HO_402001 BK400 BK401 HO417 HK HB HI0
     obtain ⟨HO_402001,BK400,BK401,HO417,HK,HB,HI0⟩:=n_
     (try clear hb)
     (try clear hb2)
     (try clear hk)
     (try clear hi)
     refine hK.out _ _ (cv3 BK401.out) (fun hHeld=>?_)
     clear hK K
     refine kN (N:=some 39) ?_
     refine zH (i:=12) (N:=some 40) (bb 17 8191) ?_
     refine zH (i:=13) (N:=some 41) (bb 17 16383) ?_
     refine zH (i:=14) (N:=some 42) (bb 17 32767) ?_
     refine zH (i:=15) (N:=some 43) (bb 17 65535) ?_
     refine last_ (i:=16) (N:=none) (bb 17 131071) rfl rfl (kC HT_.out (by kernel_rfl)) (by decide) (fun K hK=>?_)
     have hs54 : w53.cell? ⟨gb401,0,none⟩ = some (.int .i64 0):=(qN BK401.out 0).trans rfl
     have hfs54:=kJ BK401.out 0
     have hns54_0:=NB400_401.out
     have hms54_0:=NB401_400.out
     refine skip_ (w1:=?_) (by rfl) rfl ?_ ?_
     rotate_left
     ·go_simp
      rfl
     refine hK.out _ _ ?_
     clear hK K
     refine Ze (Qz HT_.out (by kernel_rfl)) ?_
     obtain ⟨hcz55_0,hcz55_1,hcz55_2,hfz55_0,hfz55_1,hfz55_2⟩:=cz3 BK401.out
     have hnb56:=NB400_0.out
     have hnc56:=NB0_400.out
     obtain ⟨hcz57_0,hcz57_1,hcz57_2,hfz57_0,hfz57_1,hfz57_2⟩:=cz3 BK400.out
     try go_wp2
     refine bodyPost_ret (results_cell_row rfl _ _ gb400 56 #[.int .i64 ji44,.slice Ao48 x402001_1.length co48,.slice none 0 0] (0,0) _ rfl (by (with_reducible repeat (first|refine qF ?_ _|refine qG ?_|refine qE ?_ _));refine qO (cs:=#[.int .i64 ji44,.slice Ao48 x402001_1.length co48,.slice none 0 0]) ?_ 2 _ rfl;(with_reducible repeat (first|refine qF ?_ _|refine qG ?_|refine qE ?_ _));refine qO (cs:=#[.int .i64 ji44,.slice none 0 0,.slice none 0 0]) ?_ 1 _ rfl;(with_reducible repeat (first|refine qF ?_ _|refine qG ?_|refine qE ?_ _));refine qO (cs:=#[.int .i64 0,.slice none 0 0,.slice none 0 0]) ?_ 0 _ rfl;(with_reducible repeat (first|refine qF ?_ _|refine qG ?_|refine qE ?_ _));refine Zd ?_ NB400_401.out _;(with_reducible repeat (first|refine qF ?_ _|refine qG ?_|refine qE ?_ _));exact BK400.out) Try.underlying56 rfl (by kernel_rfl)) rfl ?_
     exact ⟨_,_,by first|rfl|(simp [uC,uD]<;>rfl)|(simp only [← hji43,← hji44];first|rfl|(simp [uC,uD]<;>rfl))|(simp [*,uC,uD]<;>rfl),by (with_reducible repeat (first|apply Kd.jP|apply Kd.jO|apply Kd.jZ));exact Kd.zB (Kd.jF (p:=⟨gb400,2,none⟩) (Kd.jF (p:=⟨gb400,1,none⟩) (Kd.jF (p:=⟨gb400,0,none⟩) (Kd.jF (p:=⟨gb401,0,none⟩) (Kd.uB (Kd.uB HO_402001.out BK401.out (by decide)) BK400.out (by decide)) (fun _ hk=>hk.1.2) (.int .i64 ji44)) (fun _ hk=>hk.2) (.int .i64 ji44)) (fun _ hk=>hk.2) (.slice Ao48 x402001_1.length co48)) (fun _ hk=>hk.2) (.slice none 0 0)) (fun _ hk=>trivial),byau,bybp HI0.out NB0_400.out NB0_401.out,bybq HI0.out GE400.out GE401.out,bybr GW400.out GW401.out⟩
end Go.Proofs.Ytkkbdimegpdbgaa.P
