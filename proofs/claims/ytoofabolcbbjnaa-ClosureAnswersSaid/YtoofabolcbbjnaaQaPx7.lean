/- Functions of the program as Lean functions, and the walks that show that the calls answer so; written by a program of this session (a changed print) and by hand. -/
import Derived.Test.YtoofabolcbbjnaaQaPx0
import Derived.Test.YtoofabolcbbjnaaQaPx3
namespace Go.Proofs.Ytoofabolcbbjnaa.P
open Go.RowKit Go.Proofs.YtoofabolcbbjnaaW.PrintWords Go.Proofs.YtoofabolcbbjnaaW.PrintLast Go.Proofs.YtoofabolcbbjnaaW.PrintMore
attribute [local go_sem] kR kP Qa Qc kE kD kQ kN
set_option linter.unusedVariables false
set_option linter.unusedSimpArgs false
def zQ.l0 : Nat→Int→Int→List Int→Int→Int→List Int→Option (Int × List Int × (List (S49)) × Int)
 | 0,_,_,_,_,_,_=>none
 | k + 1,x1,x6,x1000,x1001,x296000,x296001=>if x6 < x1 then ((qK.f x1000 x1001 10).bind fun bt296=>(if bt296.1 < 9 then (if x296001.length < 17592186044416 then (zQ.l0 k x1 (wrap64 (x6 + 1)) x1000 bt296.2 x296000 (x296001 ++ [x6])) else (none)) else (zQ.l0 k x1 (wrap64 (x6 + 1)) x1000 bt296.2 x296000 x296001))) else (if (x296001.length : Int) = 0 then ((some (([0] : List Int) : List Int)).bind fun y301=>((qZ.f x1000 x1001 (([0,0,0,1,(-1)] : List Int))).bind fun bt307=>(some (mn (y301.length : Int) (mx 1 (wrap64 ((wrap64 (Int.tdiv (wrap64 ((wrap64 (2 * (y301.length : Int))) + 2)) 3)) + bt307.1))),y301,([] : List (S49)),bt307.2)))) else ((qZ.f x1000 x1001 (([0,0,0,1,(-1)] : List Int))).bind fun bt312=>(some (mn (x296001.length : Int) (mx 1 (wrap64 ((wrap64 (Int.tdiv (wrap64 ((wrap64 (2 * (x296001.length : Int))) + 2)) 3)) + bt312.1))),x296001,([] : List (S49)),bt312.2))))
def zQ.f (k : Nat) (s0_0 : List Int) (s0_1 : Int) (a1 : Int) : Option (Int × List Int × (List (S49)) × Int):=zQ.l0 k a1 0 s0_0 s0_1 0 ([] : List Int)
def zQ.T9 : Bool × List (List Nat × List Nat):=(true,[([],[]),([0],[0]),([1],[1]),([],[]),([3],[3]),([4],[4]),([5],[5]),([6],[6]),([7],[7]),([],[]),([],[]),([9,10],[9,10]),([8,11],[8,11]),([12],[12]),([2,13],[2,13]),([0,1,2,3,4,5,6,7,8,9,10,11,12,13,14],[]),([15,14,11,0,1,2,3,4,5,6,7,8,9,10,11,12,13,14],[14,15])])
def zQ.B9 : List Nat:=[0,1,3,0,8,24,56,120,248,0,0,1536,4088,8184,16383,32767,65535]
theorem zQ.tab9 : rtab .any (opsOf Try.f32 9) = zQ.T9:=by kernel_rfl
theorem zQ.bits9 : Qy zQ.T9.2 zQ.B9 = true:=by kernel_rfl
set_option maxHeartbeats 8000000 in
set_option maxRecDepth 100000 in
theorem zQ.calls (k : Nat) (g : Nat) (s0_0 : List Int) (s0_1 : Int) (a1 : Int) (r1 : Int) (r2 : List Int) (r3 : List (S49)) (r4 : Int) (w0 w : World) (hI : qB w0 w g s0_0 s0_1) (hB : Below w0.heap.size w0 w) (h : zQ.f k s0_0 s0_1 a1 = some (r1,r2,r3,r4)) :
  Calls Try.prog 32 #[.pointer (some ⟨g,0,none⟩),.int .i64 a1] w fun e w'=>∃ v1_ v2_ : Value,e = .returned (.agg #[.int .i64 r1,v1_,v2_])∧Kd.R (Kd.int .i64) 3 w' w.heap.size (fun _=>True) v1_ r2∧Kd.R k49 49 w' w.heap.size (fun k_=>some k_≠(v1_ : Value).ownBlock) v2_ r3∧qB w0 w' g s0_0 r4∧Below w0.heap.size w0 w'∧qC w w' g none:=by
 have hu49:=Try.underlying49
 have HI0:=qA.mk hI
 have HK:=qA.mk (qC.refl w g none)
 have HL:=qA.mk hB.size
 clear hI
 have HW0:=qA.mk hB.size
 have HB:=qA.mk hB
 clear hB
 unfold zQ.f at h
 have H:=h
 clear h
 have H':=qA.mk H
 clear H
 go_enter Try.func32,Try.ntmps32
 go_wp2_with (first|((with_reducible refine qX (N:=4) rfl ?_);refine zD ?hg (N:=4) ?hd (cs:=#[.int .i64 0,.slice none 0 0,.slice none 0 0]) (t:=49) ?hr ?_;(case hd=>rfl);(case hg=>rfl);(case hr=>exact byad);intro gb294 hg w3 hbox hb;have n_:=q_7 (qB.below (byaz HI0.out) hb) (qC.trans bybb (qC.of_below hb g none) (.inl rfl)) (qE (byba HI0.out) hb) (hbox) ((byco : w.heap.size ≤ gb294)) ((Nat.le_trans HW0.out (byco : w.heap.size ≤ gb294) : w0.heap.size ≤ gb294)) ((by rw [hg];exact Nat.ne_of_lt (qB.lt (show qB w0 _ g s0_0 s0_1 from by repeat (first|(with_reducible first|exact HI0.out|apply qB.alloc|apply qB.drewN|apply qB.drew|apply qB.jO)|exact HI0.out))) : g≠gb294));clear HI0 HK HB;obtain ⟨HI0,HK,HB,BK294,GW294,GE294,NB0_294⟩:=n_;have NB294_0:=ns NB0_294;clear hb hbox hg)|((with_reducible refine qX (N:=5) rfl ?_);refine zD ?hg (N:=5) ?hd (cs:=#[.int .i64 0,.slice none 0 0,.slice none 0 0]) (t:=49) ?hr ?_;(case hd=>rfl);(case hg=>rfl);(case hr=>exact byad);intro gb295 hg w4 hbox hb;have n_:=q_9 (qB.below (bybc HI0.out NB0_294.out) hb) (qI BK294.out hb) (qC.trans (bybd GW294.out) (qC.of_below hb g none) (.inl rfl)) (qE (bybe HI0.out GE294.out) hb) (hbox) ((bycp GW294.out : w.heap.size ≤ gb295)) ((Nat.le_trans HW0.out (bycp GW294.out : w.heap.size ≤ gb295) : w0.heap.size ≤ gb295)) ((by rw [hg];exact Nat.ne_of_lt (vH BK294.out) : gb294≠gb295)) ((by rw [hg];exact Nat.ne_of_lt (qB.lt (show qB w0 _ g s0_0 s0_1 from by repeat (first|(with_reducible first|exact HI0.out|apply qB.alloc|apply qB.drewN|apply qB.drew|apply qB.jO|refine qB.far ?_ NB0_294.out _)|exact HI0.out))) : g≠gb295));clear HI0 BK294 HK HB;obtain ⟨HI0,BK294,HK,HB,BK295,GW295,GE295,NB294_295,NB0_295⟩:=n_;have NB295_294:=ns NB294_295;have NB295_0:=ns NB0_295;clear hb hbox hg;have hnb5:=NB295_294.out;have hnc5:=NB294_295.out;have hnb6:=NB295_0.out;have hnc6:=NB0_295.out;obtain ⟨hcz7_0,hcz7_1,hcz7_2,hfz7_0,hfz7_1,hfz7_2⟩:=cz3 BK295.out))
 go_loopg [6] k (fun kq v6 w'=>∃ (x6_1 : Int) (x1001_1 : Int) (x296001_1 : List Int) (u296001 : Value),v6 = .int .i64 x6_1∧qA (zQ.l0 kq a1 x6_1 s0_0 x1001_1 0 x296001_1 = some (r1,r2,r3,r4))∧qA (kq ≤ k)∧qA (Kd.R (Kd.int .i64) 3 w' w.heap.size (fun _=>True) u296001 x296001_1)∧qA (w'.heap[gb294]? = some (.cells #[.int .i64 0,(.slice none 0 0),(.slice none 0 0)] 49 (0,0)))∧qA (w'.heap[gb295]? = some (.cells #[.int .i64 0,u296001,(.slice none 0 0)] 49 (0,0)))∧qA (qB w0 w' g s0_0 x1001_1)∧qA (qC w w' g none)∧qA (Below w0.heap.size w0 w'))
 case atStart=>exact ⟨(0),(s0_1),(([] : List Int)),(.slice none 0 0),byab,H',⟨Nat.le_refl _⟩,⟨byar⟩,⟨byaq NB294_295.out BK294.out⟩,⟨by (with_reducible repeat (first|refine qH ?_ _|refine qJ ?_|refine qG ?_ _));refine zG (cs:=#[.int .i64 0,.slice none 0 0,.slice none 0 0]) ?_ 2 _ rfl;(with_reducible repeat (first|refine qH ?_ _|refine qJ ?_|refine qG ?_ _));refine zG (cs:=#[.int .i64 0,.slice none 0 0,.slice none 0 0]) ?_ 1 _ rfl;(with_reducible repeat (first|refine qH ?_ _|refine qJ ?_|refine qG ?_ _));refine zG (cs:=#[.int .i64 0,.slice none 0 0,.slice none 0 0]) ?_ 0 _ rfl;(with_reducible repeat (first|refine qH ?_ _|refine qJ ?_|refine qG ?_ _));exact BK295.out⟩,⟨bybf HI0.out NB0_294.out NB0_295.out⟩,⟨bybh GW294.out GW295.out⟩,⟨bybg HI0.out GE294.out GE295.out⟩⟩
 case round =>
  clear H'
  obtain ⟨x6_1,x1001_1,x296001_1,u296001,rfl,HA,HK1,HO_296001,BK294,BK295,HI0,HK,HB⟩:=hrel
  cases gk with
  | zero=>exact absurd HA.out (by simp [zQ.l0])
  | succ k1 =>
   have H:=HA.out
   clear HA
   simp only [zQ.l0] at H
   by_cases c8 : x6_1 < a1
   ·rw [if_pos c8] at H
    have c8b0:=decide_eq_true c8
    clear c8
    replace H:=Option.bind_eq_some_iff.mp H
    obtain ⟨⟨t296,t297⟩,A90,H⟩:=H
    try dsimp only at H
    have A9:=qA.mk A90
    clear A90
    by_cases c10 : t296 < 9
    ·rw [if_pos c10] at H
     have c10b0:=decide_eq_true c10
     clear c10
     by_cases c11 : x296001_1.length < 17592186044416
     ·rw [if_pos c11] at H
      have LMc11:=qA.mk c11
      clear c11
      obtain ⟨y298,hy298⟩ : ∃ y_ : List Int,y_ = (x296001_1 ++ [x6_1]):=⟨_,rfl⟩
      replace H : (zQ.l0 k1 a1 (wrap64 (x6_1 + 1)) s0_0 t297 0 y298) = some (r1,r2,r3,r4):=by first|(rw [hy298];with_reducible exact H)|(have H2_:=(Option.bind_some _ _).symm.trans H;rw [hy298];with_reducible exact H2_)|(have H2_:=(Option.bind_some _ _).symm.trans H;with_reducible exact H2_)|with_reducible exact H|(rw [hy298];exact H)|exact H
      have Ny298:=qA.mk hy298
      clear hy298
      have H':=qA.mk H
      clear H
      go_wp2_with (first|((with_reducible refine qF (f:=13) rfl ?_);refine zC (some 14) rfl rfl Try.func13 (by kernel_rfl) rfl #[.pointer (some ⟨g,0,none⟩),.int .i64 10] rfl byac ?_;(with_reducible refine (qK.calls g s0_0 x1001_1 10 t296 t297 w0 _ ?side1 ?side2 A9.out).mono ?_);(case side1=>exact bybf HI0.out NB0_294.out NB0_295.out);(case side2=>exact bybg HI0.out GE294.out GE295.out);rintro e w12 ⟨rfl,hi,hb,hk⟩;refine ⟨_,rfl,?_⟩;have n_:=q_6 (Kd.qV (Kd.vK (qB.apart (show qB w0 _ g s0_0 x1001_1 from by repeat (first|(with_reducible first|exact HI0.out|apply qB.alloc|apply qB.drewN|apply qB.drew|apply qB.jO|refine qB.far ?_ NB0_294.out _|refine qB.far ?_ NB0_295.out _)|exact HI0.out)) (byas HO_296001.out) (by decide)) hk (fun _ h=>h.2)) (fun _ h=>h.1)) (qC.blkB hk BK294.out NB294_0.out (by simp)) (qC.blkB hk BK295.out NB295_0.out (by simp)) (qC.trans (bybh GW294.out GW295.out) hk (.inl rfl)) (hb) (hi);clear HO_296001 BK294 BK295 HK HB HI0;obtain ⟨HO_296001,BK294,BK295,HK,HB,HI0⟩:=n_;clear hb hk hi;have hnb13:=NB295_294.out;have hnc13:=NB294_295.out;have hnb14:=NB295_0.out;have hnc14:=NB0_295.out;obtain ⟨hcz15_0,hcz15_1,hcz15_2,hfz15_0,hfz15_1,hfz15_2⟩:=cz3 BK295.out)|((with_reducible refine jU (b:=.append) (xs:=#[.tmp 17,.tmp 19]) rfl ?_);at_builtin;refine Kd.kF (Kd.int .i64) w.heap.size rfl (.tmp 17) (.tmp 19) 22 3 (.int .i64 0) 8 rfl Try.underlying22 info3 rfl (by decide) (by omega) u296001 x296001_1 x6_1 [.int .i64 x6_1] (fun _=>True) (fun _=>False) rfl rfl ?aP (fun _ hk=>hk.elim) ?aF ?aO (Below.refl _ _) ?aS ?aL ?_;(case aP=>exact rfl);(case aF=>exact (fun _ _=>trivial));(case aO=>exact (byas HO_296001.out));(case aS=>exact (qY (w:=w) (g:=g) (row:=none) (bybh GW294.out GW295.out)));(case aL=>have:=LMc11.out;omega);intro v299 w16 ho hb hg hat;rw [← Ny298.out] at ho;have n_:=q_6 (zS (g:=gb294) (o:=.cells #[.int .i64 0,.slice none 0 0,.slice none 0 0] 49 (0,0)) (byaf BK294.out) hg (Kd.R_ne HO_296001.out BK294.out (by decide))) (zS (g:=gb295) (o:=.cells #[.int .i64 0,u296001,.slice none 0 0] 49 (0,0)) (byaf BK295.out) hg (Kd.R_ne HO_296001.out BK295.out (by decide))) (qB.grown (bybf HI0.out NB0_294.out NB0_295.out) hg (qB.own_ne HI0.out HO_296001.out (by decide))) (vJ (bybg HI0.out GE294.out GE295.out) HL.out hb) (qC.trans (bybh GW294.out GW295.out) (qC.vX hg g) (Kd.Qg HO_296001.out)) (ho);clear BK294 BK295 HI0 HB HK HO_296001;obtain ⟨BK294,BK295,HI0,HB,HK,HO300⟩:=n_;clear ho hb hg hat;obtain ⟨Ao17,co17,eo17⟩:=Kd.jI HO300.out;subst eo17;obtain ⟨hcz18_0,hcz18_1,hcz18_2,hfz18_0,hfz18_1,hfz18_2⟩:=cz3 BK295.out))
      go_roundg k1
      case measure=>have:=HK1.out;omega
      case rel=>exact ⟨(wrap64 (x6_1 + 1)),(t297),(y298),(.slice Ao17 y298.length co17),byab,H',⟨byaj⟩,⟨by (with_reducible repeat (first|apply Kd.jF|apply Kd.jG|apply Kd.jM));exact Kd.qV (Kd.zT (p:=⟨gb295,1,none⟩) (Kd.zX HO300.out BK295.out (by decide)) (fun _ hk=>hk.2) (.slice Ao17 y298.length co17)) (fun _ hk=>trivial)⟩,⟨bybi NB294_295.out BK294.out⟩,⟨by (with_reducible repeat (first|refine qH ?_ _|refine qJ ?_|refine qG ?_ _));refine zG (cs:=#[.int .i64 0,u296001,.slice none 0 0]) ?_ 1 _ rfl;(with_reducible repeat (first|refine qH ?_ _|refine qJ ?_|refine qG ?_ _));exact BK295.out⟩,⟨bybf HI0.out NB0_294.out NB0_295.out⟩,⟨bybh GW294.out GW295.out⟩,⟨bybg HI0.out GE294.out GE295.out⟩⟩
     ·rw [if_neg c11] at H
      exact absurd H (by simp)
    ·rw [if_neg c10] at H
     have c10b0:=decide_eq_false c10
     clear c10
     have H':=qA.mk H
     clear H
     go_wp2_with (first|((with_reducible refine qF (f:=13) rfl ?_);refine zC (some 14) rfl rfl Try.func13 (by kernel_rfl) rfl #[.pointer (some ⟨g,0,none⟩),.int .i64 10] rfl byac ?_;(with_reducible refine (qK.calls g s0_0 x1001_1 10 t296 t297 w0 _ ?side1 ?side2 A9.out).mono ?_);(case side1=>exact bybf HI0.out NB0_294.out NB0_295.out);(case side2=>exact bybg HI0.out GE294.out GE295.out);rintro e w19 ⟨rfl,hi,hb,hk⟩;refine ⟨_,rfl,?_⟩;have n_:=q_6 (Kd.qV (Kd.vK (qB.apart (show qB w0 _ g s0_0 x1001_1 from by repeat (first|(with_reducible first|exact HI0.out|apply qB.alloc|apply qB.drewN|apply qB.drew|apply qB.jO|refine qB.far ?_ NB0_294.out _|refine qB.far ?_ NB0_295.out _)|exact HI0.out)) (byas HO_296001.out) (by decide)) hk (fun _ h=>h.2)) (fun _ h=>h.1)) (qC.blkB hk BK294.out NB294_0.out (by simp)) (qC.blkB hk BK295.out NB295_0.out (by simp)) (qC.trans (bybh GW294.out GW295.out) hk (.inl rfl)) (hb) (hi);clear HO_296001 BK294 BK295 HK HB HI0;obtain ⟨HO_296001,BK294,BK295,HK,HB,HI0⟩:=n_;clear hb hk hi))
     go_roundg k1
     case measure=>have:=HK1.out;omega
     case rel=>exact ⟨(wrap64 (x6_1 + 1)),(t297),(x296001_1),(u296001),byab,H',⟨byaj⟩,⟨byas HO_296001.out⟩,⟨byaf BK294.out⟩,⟨byaf BK295.out⟩,⟨bybf HI0.out NB0_294.out NB0_295.out⟩,⟨bybh GW294.out GW295.out⟩,⟨bybg HI0.out GE294.out GE295.out⟩⟩
   ·rw [if_neg c8] at H
    have c8b0:=decide_eq_false c8
    clear c8
    by_cases c20 : (x296001_1.length : Int) = 0
    ·rw [if_pos c20] at H
     obtain ⟨c20b0,c20b1⟩:=eqT c20
     clear c20
     obtain ⟨y301,hy301⟩ : ∃ y_ : List Int,y_ = (([0] : List Int)):=⟨_,rfl⟩
     replace H : ((qZ.f s0_0 x1001_1 (([0,0,0,1,(-1)] : List Int))).bind fun bt307=>(some (mn (y301.length : Int) (mx 1 (wrap64 ((wrap64 (Int.tdiv (wrap64 ((wrap64 (2 * (y301.length : Int))) + 2)) 3)) + bt307.1))),y301,([] : List (S49)),bt307.2))) = some (r1,r2,r3,r4):=by first|(rw [hy301];with_reducible exact H)|(have H2_:=(Option.bind_some _ _).symm.trans H;rw [hy301];with_reducible exact H2_)|(have H2_:=(Option.bind_some _ _).symm.trans H;with_reducible exact H2_)|with_reducible exact H|(rw [hy301];exact H)|exact H
     have Ny301:=qA.mk hy301
     clear hy301
     obtain ⟨y304,hy304⟩ : ∃ y_ : List Int,y_ = (([0,0,0,1,(-1)] : List Int)):=⟨_,rfl⟩
     replace H : ((qZ.f s0_0 x1001_1 y304).bind fun bt307=>(some (mn (y301.length : Int) (mx 1 (wrap64 ((wrap64 (Int.tdiv (wrap64 ((wrap64 (2 * (y301.length : Int))) + 2)) 3)) + bt307.1))),y301,([] : List (S49)),bt307.2))) = some (r1,r2,r3,r4):=by first|(rw [hy304];with_reducible exact H)|(have H2_:=(Option.bind_some _ _).symm.trans H;rw [hy304];with_reducible exact H2_)|(have H2_:=(Option.bind_some _ _).symm.trans H;with_reducible exact H2_)|with_reducible exact H|(rw [hy304];exact H)|exact H
     have Ny304:=qA.mk hy304
     clear hy304
     replace H:=Option.bind_eq_some_iff.mp H
     obtain ⟨⟨t307,t308⟩,A210,H⟩:=H
     try dsimp only at H
     have A21:=qA.mk A210
     clear A210
     obtain ⟨ji22,hji22⟩ : ∃ j_ : Int,(mx 1 (wrap64 ((wrap64 (Int.tdiv (wrap64 ((wrap64 (2 * (y301.length : Int))) + 2)) 3)) + t307))) = j_:=⟨_,rfl⟩
     (first|rw [hji22] at H|(simp only [hji22] at H))
     (try rw [hji22] at A21)
     (try (have hji22l : 1 ≤ ji22:=by (rw [← hji22];unfold mx;(repeat' split)<;>omega)))
     (try (have hji22m : 0 ≤ ji22:=by omega))
     have hji22_ : (if 1 < (wrap64 ((wrap64 (Int.tdiv (wrap64 ((wrap64 (2 * (y301.length : Int))) + 2)) 3)) + t307)) then (wrap64 ((wrap64 (Int.tdiv (wrap64 ((wrap64 (2 * (y301.length : Int))) + 2)) 3)) + t307)) else 1) = ji22:=hji22
     obtain ⟨ji23,hji23⟩ : ∃ j_ : Int,(mn (y301.length : Int) (ji22)) = j_:=⟨_,rfl⟩
     (first|rw [hji23] at H|(simp only [hji23] at H))
     (try rw [hji23] at A21)
     have hji23_ : (if (ji22) < (y301.length : Int) then (ji22) else (y301.length : Int)) = ji23:=hji23
     simp only [Option.some.injEq,Prod.mk.injEq] at H
     obtain ⟨rfl,rfl,rfl,rfl⟩:=H
     have hnb24:=NB295_294.out
     have hnc24:=NB294_295.out
     have hnb25:=NB295_0.out
     have hnc25:=NB0_295.out
     obtain ⟨hcz26_0,hcz26_1,hcz26_2,hfz26_0,hfz26_1,hfz26_2⟩:=cz3 BK295.out
     obtain ⟨Ao27,co27,eo27⟩:=Kd.jI HO_296001.out
     subst eo27
     try go_wp2_with (first|((with_reducible refine qX (N:=26) rfl ?_);refine Kd.Qk (Kd.int .i64) _ 3 ?hg (N:=26) ?hd (xs:=([0] : List Int)) (inner:=[.int .i64 0]) (ok:=fun _=>True) (okp:=fun _=>True) ?hr ?hp (fun _ hk=>hk) trivial (Below.refl _ _) (Nat.le_refl _) (by simp) ?_;(case hd=>rfl);(case hg=>rfl);(case hr=>exact byad);(case hp=>exact (Reps.one (show Kd.M (Kd.int .i64) _ _ _ 0 [.int .i64 0] from rfl) (Reps.none _ _)));intro v302 w28 ho29 hb hg_ hnew_;clear hg_ hnew_;(first|rw [← Ny301.out] at ho29|(simp only [Int.reduceToNat] at ho29;rw [← Ny301.out] at ho29));have n_:=q_7 (Kd.uH (byas HO_296001.out) (Kd.zW ho29) hb) (Kd.vG (Kd.uY ho29 (Kd.R_lt (byas HO_296001.out))) (qY (w:=w) (g:=g) (row:=none) (bybh GW294.out GW295.out))) (qI BK294.out hb) (qI BK295.out hb) (qB.below (bybf HI0.out NB0_294.out NB0_295.out) hb) (qC.trans (bybh GW294.out GW295.out) (qC.of_below hb g none) (.inl rfl)) (qE (bybg HI0.out GE294.out GE295.out) hb);clear HO_296001 BK294 BK295 HI0 HK HB;obtain ⟨HO_296001,HO303,BK294,BK295,HI0,HK,HB⟩:=n_;clear hb ho29;obtain ⟨Ao30,co30,eo30⟩:=Kd.jI HO303.out;subst eo30;obtain ⟨hcz31_0,hcz31_1,hcz31_2,hfz31_0,hfz31_1,hfz31_2⟩:=cz3 BK295.out))
     have n0_ : qA (Kd.R (Kd.int .i64) 3 (w28.setCell ⟨gb295,1,none⟩ (.slice Ao30 y301.length co30)) w.heap.size (fun k_=>some k_≠(.slice Ao30 y301.length co30 : Value).ownBlock) (.slice Ao27 x296001_1.length co27) x296001_1):=⟨by (with_reducible repeat (first|apply Kd.jF|apply Kd.jG|apply Kd.jM));exact Kd.qV (Kd.zT (p:=⟨gb295,1,none⟩) (Kd.zX HO_296001.out BK295.out (by decide)) (fun _ hk=>hk.2) (.slice Ao30 y301.length co30)) (fun _ hk=>hk.1.2)⟩
     have n1_ : qA (Kd.R (Kd.int .i64) 3 (w28.setCell ⟨gb295,1,none⟩ (.slice Ao30 y301.length co30)) w.heap.size (fun k_=>some k_≠(.slice Ao27 x296001_1.length co27 : Value).ownBlock) (.slice Ao30 y301.length co30) y301):=⟨by (with_reducible repeat (first|apply Kd.jF|apply Kd.jG|apply Kd.jM));exact Kd.qV (Kd.zT (p:=⟨gb295,1,none⟩) (Kd.zX HO303.out BK295.out (by decide)) (fun _ hk=>hk.2) (.slice Ao30 y301.length co30)) (fun _ hk=>hk.1.2)⟩
     have n2_ : qA ((w28.setCell ⟨gb295,1,none⟩ (.slice Ao30 y301.length co30)).heap[gb294]? = some (.cells #[.int .i64 0,.slice none 0 0,.slice none 0 0] 49 (0,0))):=⟨bybi NB294_295.out BK294.out⟩
     have n3_ : qA ((w28.setCell ⟨gb295,1,none⟩ (.slice Ao30 y301.length co30)).heap[gb295]? = some (.cells #[.int .i64 0,.slice Ao30 y301.length co30,.slice none 0 0] 49 (0,0))):=⟨by (with_reducible repeat (first|refine qH ?_ _|refine qJ ?_|refine qG ?_ _));refine zG (cs:=#[.int .i64 0,.slice Ao27 x296001_1.length co27,.slice none 0 0]) ?_ 1 _ rfl;(with_reducible repeat (first|refine qH ?_ _|refine qJ ?_|refine qG ?_ _));exact BK295.out⟩
     have n4_ : qA (qB w0 (w28.setCell ⟨gb295,1,none⟩ (.slice Ao30 y301.length co30)) g s0_0 x1001_1):=⟨bybf HI0.out NB0_294.out NB0_295.out⟩
     have n5_ : qA (qC w (w28.setCell ⟨gb295,1,none⟩ (.slice Ao30 y301.length co30)) g none):=⟨bybh GW294.out GW295.out⟩
     have n6_ : qA (Below w0.heap.size w0 (w28.setCell ⟨gb295,1,none⟩ (.slice Ao30 y301.length co30))):=⟨bybg HI0.out GE294.out GE295.out⟩
     (try clear HO_296001)
     (try clear HO303)
     (try clear BK294)
     (try clear BK295)
     (try clear HI0)
     (try clear HK)
     (try clear HB)
     generalize (w28.setCell ⟨gb295,1,none⟩ (.slice Ao30 y301.length co30)) = w32 at n0_ n1_ n2_ n3_ n4_ n5_ n6_ ⊢
     have HO_296001:=n0_
     have HO303:=n1_
     have BK294:=n2_
     have BK295:=n3_
     have HI0:=n4_
     have HK:=n5_
     have HB:=n6_
     clear n0_ n1_ n2_ n3_ n4_ n5_ n6_
     have n_:=q_7 (Kd.jM HO_296001.out) (Kd.jM HO303.out) (qJ BK294.out) (qJ BK295.out) (qB.drew HI0.out) (kC HK.out) (vU HB.out)
     clear HO_296001 HO303 BK294 BK295 HI0 HK HB
     obtain ⟨HO_296001,HO303,BK294,BK295,HI0,HK,HB⟩:=n_
     refine start_ (n:=17) (S:=fun w'=>w'.cell? ⟨gb295,0,none⟩ = some (.int .i64 0)∧w'.cell? ⟨gb295,1,none⟩ = some (.slice Ao30 y301.length co30)∧w'.cell? ⟨gb295,2,none⟩ = some (.slice none 0 0)) (ds:=[16]) (bb 17 0) (by kernel_rfl) rfl rfl (cv3 BK295.out) (fun hHeld=>?_);refine kX zQ.tab9 zQ.bits9 (fun HT_ HW_=>?_)
     generalize w32.drew = w33 at HO_296001 HO303 BK294 BK295 HI0 HK HB hHeld ⊢
     refine jK (i:=0) (N:=some 28) (bb 17 1) ?_
     refine jK (i:=3) (N:=some 31) (bb 17 9) ?_
     refine jK (i:=9) (N:=some 37) (bb 17 521) ?_
     refine takeZB (i:=1) (N:=some 29) (bb 17 523) hHeld ?_
     refine jK (i:=2) (N:=some 30) (bb 17 527) ?_
     refine takeZB (i:=4) (N:=some 32) (bb 17 543) hHeld ?_
     refine jK (i:=5) (N:=some 33) (bb 17 575) ?_
     refine jK (i:=6) (N:=some 34) (bb 17 639) ?_
     refine jK (i:=7) (N:=some 35) (bb 17 767) ?_
     refine jK (i:=8) (N:=some 36) (bb 17 1023) ?_
     refine one_ (i:=10) (N:=some 38) (bb 17 2047) rfl rfl (kJ HT_.out (by kernel_rfl)) (by decide) (fun K hK=>?_)
     refine Kd.R_lit_step (Kd.int .i64) _ 3 ?hg (N:=38) ?hd (xs:=([0,0,0,1,(-1)] : List Int)) (inner:=[.int .i64 0,.int .i64 0,.int .i64 0,.int .i64 1,.int .i64 (-1)]) (ok:=fun _=>True) (okp:=fun _=>True) ?hr ?hp (fun _ hk=>hk) trivial (Below.refl _ _) (Nat.le_refl _) (by simp) ?_;(case hd=>rfl);(case hg=>rfl);(case hr=>exact byad);(case hp=>exact (Reps.one (show Kd.M (Kd.int .i64) _ _ _ 0 [.int .i64 0] from rfl) (Reps.one (show Kd.M (Kd.int .i64) _ _ _ 0 [.int .i64 0] from rfl) (Reps.one (show Kd.M (Kd.int .i64) _ _ _ 0 [.int .i64 0] from rfl) (Reps.one (show Kd.M (Kd.int .i64) _ _ _ 1 [.int .i64 1] from rfl) (Reps.one (show Kd.M (Kd.int .i64) _ _ _ (-1) [.int .i64 (-1)] from rfl) (Reps.none _ _)))))))
     intro v305 w34 ho35 hb hg_ hnew_
     clear hg_ hnew_
     (first|rw [← Ny304.out] at ho35|(simp only [Int.reduceToNat] at ho35;rw [← Ny304.out] at ho35))
     have n_:=q_8 (Kd.uH (byas HO_296001.out) (Kd.zW ho35) hb) (Kd.uH (byas HO303.out) (Kd.zW ho35) hb) (Kd.vG (Kd.uY (Kd.uY ho35 (Kd.R_lt (byas HO_296001.out))) (Kd.R_lt (byas HO303.out))) (qY (w:=w) (g:=g) (row:=none) (bybh GW294.out GW295.out))) (qI BK294.out hb) (qI BK295.out hb) (qB.below (bybf HI0.out NB0_294.out NB0_295.out) hb) (qC.trans (bybh GW294.out GW295.out) (qC.of_below hb g none) (.inl rfl)) (qE (bybg HI0.out GE294.out GE295.out) hb)
     clear HO_296001 HO303 BK294 BK295 HI0 HK HB
     obtain ⟨HO_296001,HO303,HO306,BK294,BK295,HI0,HK,HB⟩:=n_
     clear hb ho35
     obtain ⟨Ao36,co36,eo36⟩:=Kd.jI HO306.out
     (first|subst eo36|(injection eo36 with f1_ f2_ f3_;have f4_:=f1_.symm;have f5_:=f3_.symm;clear f1_ f2_ f3_;subst f4_;subst f5_))
     refine hK.out _ _ (cv3 BK295.out) (fun hHeld=>?_)
     clear hK K
     refine Qp (N:=some 38) ?_
     refine one_ (i:=11) (N:=some 39) (bb 17 4095) rfl rfl (kJ HT_.out (by kernel_rfl)) (by decide) (fun K hK=>?_)
     refine goes_ Try.func34 (by kernel_rfl) rfl #[.pointer (some ⟨g,0,none⟩),.slice Ao36 y304.length co36] (by rfl) rfl rfl byac ?_
     with_reducible refine (qZ.calls g s0_0 x1001_1 _ _ y304 t307 t308 w0 _ ?side1 ?side2 ?side3 ?side4 ?side5 A21.out).mono ?_
     (case side1=>exact bybf HI0.out NB0_294.out NB0_295.out)
     (case side2=>exact bybg HI0.out GE294.out GE295.out)
     (case side3=>exact byax HO306.out)
     (case side4=>exact byay HO306.out)
     (case side5=>exact far_slice (qB.own_ne HI0.out HO306.out (by decide)))
     rintro e w37 ⟨rfl,hi,hb,hk⟩
     refine ⟨_,rfl,?_⟩
     have n_:=q_8 (Kd.qV (Kd.vK (qB.apart (show qB w0 _ g s0_0 x1001_1 from by repeat (first|(with_reducible first|exact HI0.out|apply qB.alloc|apply qB.drewN|apply qB.drew|apply qB.jO|refine qB.far ?_ NB0_294.out _|refine qB.far ?_ NB0_295.out _)|exact HI0.out)) (byas HO_296001.out) (by decide)) hk (fun _ h=>h.2)) (fun _ h=>h.1)) (qC.blkB hk BK294.out NB294_0.out (by simp)) (qC.blkB hk BK295.out NB295_0.out (by simp)) (Kd.qV (Kd.vK (qB.apart (show qB w0 _ g s0_0 x1001_1 from by repeat (first|(with_reducible first|exact HI0.out|apply qB.alloc|apply qB.drewN|apply qB.drew|apply qB.jO|refine qB.far ?_ NB0_294.out _|refine qB.far ?_ NB0_295.out _)|exact HI0.out)) (byas HO303.out) (by decide)) hk (fun _ h=>h.2)) (fun _ h=>h.1)) (Kd.qV (Kd.vK (qB.apart (show qB w0 _ g s0_0 x1001_1 from by repeat (first|(with_reducible first|exact HI0.out|apply qB.alloc|apply qB.drewN|apply qB.drew|apply qB.jO|refine qB.far ?_ NB0_294.out _|refine qB.far ?_ NB0_295.out _)|exact HI0.out)) (byas HO306.out) (by decide)) hk (fun _ h=>h.2)) (fun _ h=>h.1)) (qC.trans (bybh GW294.out GW295.out) hk (.inl rfl)) (hb) (hi)
     clear HO_296001 BK294 BK295 HO303 HO306 HK HB HI0
     obtain ⟨HO_296001,BK294,BK295,HO303,HO306,HK,HB,HI0⟩:=n_
     (try clear hb)
     (try clear hb2)
     (try clear hk)
     (try clear hi)
     refine hK.out _ _ (cv3 BK295.out) (fun hHeld=>?_)
     clear hK K
     refine Qp (N:=some 39) ?_
     refine jK (i:=12) (N:=some 40) (bb 17 8191) ?_
     refine jK (i:=13) (N:=some 41) (bb 17 16383) ?_
     refine jK (i:=14) (N:=some 42) (bb 17 32767) ?_
     refine jK (i:=15) (N:=some 43) (bb 17 65535) ?_
     refine last_ (i:=16) (N:=none) (bb 17 131071) rfl rfl (kJ HT_.out (by kernel_rfl)) (by decide) (fun K hK=>?_)
     have hs38 : w37.cell? ⟨gb295,0,none⟩ = some (.int .i64 0):=(vF BK295.out 0).trans rfl
     have hfs38:=uZ BK295.out 0
     have hns38_0:=NB294_295.out
     have hms38_0:=NB295_294.out
     refine skip_ (w1:=?_) (by rfl) rfl ?_ ?_
     rotate_left
     ·go_simp
      rfl
     refine hK.out _ _ ?_
     clear hK K
     refine done_ (Qr HT_.out (by kernel_rfl)) ?_
     obtain ⟨hcz39_0,hcz39_1,hcz39_2,hfz39_0,hfz39_1,hfz39_2⟩:=cz3 BK295.out
     have hnb40:=NB294_0.out
     have hnc40:=NB0_294.out
     obtain ⟨hcz41_0,hcz41_1,hcz41_2,hfz41_0,hfz41_1,hfz41_2⟩:=cz3 BK294.out
     try go_wp2
     refine bodyPost_ret (results_cell_row rfl _ _ gb294 49 #[.int .i64 ji23,.slice Ao30 y301.length co30,.slice none 0 0] (0,0) _ rfl (by (with_reducible repeat (first|refine qH ?_ _|refine qJ ?_|refine qG ?_ _));refine zG (cs:=#[.int .i64 ji23,.slice Ao30 y301.length co30,.slice none 0 0]) ?_ 2 _ rfl;(with_reducible repeat (first|refine qH ?_ _|refine qJ ?_|refine qG ?_ _));refine zG (cs:=#[.int .i64 ji23,.slice none 0 0,.slice none 0 0]) ?_ 1 _ rfl;(with_reducible repeat (first|refine qH ?_ _|refine qJ ?_|refine qG ?_ _));refine zG (cs:=#[.int .i64 0,.slice none 0 0,.slice none 0 0]) ?_ 0 _ rfl;(with_reducible repeat (first|refine qH ?_ _|refine qJ ?_|refine qG ?_ _));refine uT ?_ NB294_295.out _;(with_reducible repeat (first|refine qH ?_ _|refine qJ ?_|refine qG ?_ _));exact BK294.out) Try.underlying49 rfl (by kernel_rfl)) rfl ?_
     exact ⟨_,_,by first|rfl|(simp [uP,uQ]<;>rfl)|(simp only [← hji22,← hji23];first|rfl|(simp [uP,uQ]<;>rfl))|(simp [*,uP,uQ]<;>rfl),by (with_reducible repeat (first|apply Kd.jF|apply Kd.jG|apply Kd.jM));exact Kd.qV (Kd.zT (p:=⟨gb294,2,none⟩) (Kd.zT (p:=⟨gb294,1,none⟩) (Kd.zT (p:=⟨gb294,0,none⟩) (Kd.zT (p:=⟨gb295,0,none⟩) (Kd.zX (Kd.zX HO303.out BK295.out (by decide)) BK294.out (by decide)) (fun _ hk=>hk.1.2) (.int .i64 ji23)) (fun _ hk=>hk.2) (.int .i64 ji23)) (fun _ hk=>hk.2) (.slice Ao30 y301.length co30)) (fun _ hk=>hk.2) (.slice none 0 0)) (fun _ hk=>trivial),byar,bybf HI0.out NB0_294.out NB0_295.out,bybg HI0.out GE294.out GE295.out,bybh GW294.out GW295.out⟩
    ·rw [if_neg c20] at H
     obtain ⟨c20b0,c20b1⟩:=eqF c20
     have c20b2 : ¬ (x296001_1 = []):=fun h_=>c20 (by rw [h_];rfl)
     obtain ⟨y309,hy309⟩ : ∃ y_ : List Int,y_ = (([0,0,0,1,(-1)] : List Int)):=⟨_,rfl⟩
     replace H : ((qZ.f s0_0 x1001_1 y309).bind fun bt312=>(some (mn (x296001_1.length : Int) (mx 1 (wrap64 ((wrap64 (Int.tdiv (wrap64 ((wrap64 (2 * (x296001_1.length : Int))) + 2)) 3)) + bt312.1))),x296001_1,([] : List (S49)),bt312.2))) = some (r1,r2,r3,r4):=by first|(rw [hy309];with_reducible exact H)|(have H2_:=(Option.bind_some _ _).symm.trans H;rw [hy309];with_reducible exact H2_)|(have H2_:=(Option.bind_some _ _).symm.trans H;with_reducible exact H2_)|with_reducible exact H|(rw [hy309];exact H)|exact H
     have Ny309:=qA.mk hy309
     clear hy309
     replace H:=Option.bind_eq_some_iff.mp H
     obtain ⟨⟨t312,t313⟩,A420,H⟩:=H
     try dsimp only at H
     have A42:=qA.mk A420
     clear A420
     obtain ⟨ji43,hji43⟩ : ∃ j_ : Int,(mx 1 (wrap64 ((wrap64 (Int.tdiv (wrap64 ((wrap64 (2 * (x296001_1.length : Int))) + 2)) 3)) + t312))) = j_:=⟨_,rfl⟩
     (first|rw [hji43] at H|(simp only [hji43] at H))
     (try rw [hji43] at A42)
     have hji43_ : (if 1 < (wrap64 ((wrap64 (Int.tdiv (wrap64 ((wrap64 (2 * (x296001_1.length : Int))) + 2)) 3)) + t312)) then (wrap64 ((wrap64 (Int.tdiv (wrap64 ((wrap64 (2 * (x296001_1.length : Int))) + 2)) 3)) + t312)) else 1) = ji43:=hji43
     obtain ⟨ji44,hji44⟩ : ∃ j_ : Int,(mn (x296001_1.length : Int) (ji43)) = j_:=⟨_,rfl⟩
     (first|rw [hji44] at H|(simp only [hji44] at H))
     (try rw [hji44] at A42)
     have hji44_ : (if (ji43) < (x296001_1.length : Int) then (ji43) else (x296001_1.length : Int)) = ji44:=hji44
     simp only [Option.some.injEq,Prod.mk.injEq] at H
     obtain ⟨rfl,rfl,rfl,rfl⟩:=H
     have hnb45:=NB295_294.out
     have hnc45:=NB294_295.out
     have hnb46:=NB295_0.out
     have hnc46:=NB0_295.out
     obtain ⟨hcz47_0,hcz47_1,hcz47_2,hfz47_0,hfz47_1,hfz47_2⟩:=cz3 BK295.out
     obtain ⟨Ao48,co48,eo48⟩:=Kd.jI HO_296001.out
     subst eo48
     try go_wp2
     have n_:=q_6 (Kd.jM HO_296001.out) (qJ BK294.out) (qJ BK295.out) (qB.drew HI0.out) (kC HK.out) (vU HB.out)
     clear HO_296001 BK294 BK295 HI0 HK HB
     obtain ⟨HO_296001,BK294,BK295,HI0,HK,HB⟩:=n_
     refine start_ (n:=17) (S:=fun w'=>w'.cell? ⟨gb295,0,none⟩ = some (.int .i64 0)∧w'.cell? ⟨gb295,1,none⟩ = some (.slice Ao48 x296001_1.length co48)∧w'.cell? ⟨gb295,2,none⟩ = some (.slice none 0 0)) (ds:=[16]) (bb 17 0) (by kernel_rfl) rfl rfl (cv3 BK295.out) (fun hHeld=>?_);refine kX zQ.tab9 zQ.bits9 (fun HT_ HW_=>?_)
     generalize wr.drew = w49 at HO_296001 BK294 BK295 HI0 HK HB hHeld ⊢
     refine jK (i:=0) (N:=some 28) (bb 17 1) ?_
     refine jK (i:=3) (N:=some 31) (bb 17 9) ?_
     refine jK (i:=9) (N:=some 37) (bb 17 521) ?_
     refine takeZB (i:=1) (N:=some 29) (bb 17 523) hHeld ?_
     refine jK (i:=2) (N:=some 30) (bb 17 527) ?_
     refine takeZB (i:=4) (N:=some 32) (bb 17 543) hHeld ?_
     refine jK (i:=5) (N:=some 33) (bb 17 575) ?_
     refine jK (i:=6) (N:=some 34) (bb 17 639) ?_
     refine jK (i:=7) (N:=some 35) (bb 17 767) ?_
     refine jK (i:=8) (N:=some 36) (bb 17 1023) ?_
     refine one_ (i:=10) (N:=some 38) (bb 17 2047) rfl rfl (kJ HT_.out (by kernel_rfl)) (by decide) (fun K hK=>?_)
     refine Kd.R_lit_step (Kd.int .i64) _ 3 ?hg (N:=38) ?hd (xs:=([0,0,0,1,(-1)] : List Int)) (inner:=[.int .i64 0,.int .i64 0,.int .i64 0,.int .i64 1,.int .i64 (-1)]) (ok:=fun _=>True) (okp:=fun _=>True) ?hr ?hp (fun _ hk=>hk) trivial (Below.refl _ _) (Nat.le_refl _) (by simp) ?_;(case hd=>rfl);(case hg=>rfl);(case hr=>exact byad);(case hp=>exact (Reps.one (show Kd.M (Kd.int .i64) _ _ _ 0 [.int .i64 0] from rfl) (Reps.one (show Kd.M (Kd.int .i64) _ _ _ 0 [.int .i64 0] from rfl) (Reps.one (show Kd.M (Kd.int .i64) _ _ _ 0 [.int .i64 0] from rfl) (Reps.one (show Kd.M (Kd.int .i64) _ _ _ 1 [.int .i64 1] from rfl) (Reps.one (show Kd.M (Kd.int .i64) _ _ _ (-1) [.int .i64 (-1)] from rfl) (Reps.none _ _)))))))
     intro v310 w50 ho51 hb hg_ hnew_
     clear hg_ hnew_
     (first|rw [← Ny309.out] at ho51|(simp only [Int.reduceToNat] at ho51;rw [← Ny309.out] at ho51))
     have n_:=q_7 (Kd.uH (byas HO_296001.out) (Kd.zW ho51) hb) (Kd.vG (Kd.uY ho51 (Kd.R_lt (byas HO_296001.out))) (qY (w:=w) (g:=g) (row:=none) (bybh GW294.out GW295.out))) (qI BK294.out hb) (qI BK295.out hb) (qB.below (bybf HI0.out NB0_294.out NB0_295.out) hb) (qC.trans (bybh GW294.out GW295.out) (qC.of_below hb g none) (.inl rfl)) (qE (bybg HI0.out GE294.out GE295.out) hb)
     clear HO_296001 BK294 BK295 HI0 HK HB
     obtain ⟨HO_296001,HO311,BK294,BK295,HI0,HK,HB⟩:=n_
     clear hb ho51
     obtain ⟨Ao52,co52,eo52⟩:=Kd.jI HO311.out
     (first|subst eo52|(injection eo52 with f1_ f2_ f3_;have f4_:=f1_.symm;have f5_:=f3_.symm;clear f1_ f2_ f3_;subst f4_;subst f5_))
     refine hK.out _ _ (cv3 BK295.out) (fun hHeld=>?_)
     clear hK K
     refine Qp (N:=some 38) ?_
     refine one_ (i:=11) (N:=some 39) (bb 17 4095) rfl rfl (kJ HT_.out (by kernel_rfl)) (by decide) (fun K hK=>?_)
     refine goes_ Try.func34 (by kernel_rfl) rfl #[.pointer (some ⟨g,0,none⟩),.slice Ao52 y309.length co52] (by rfl) rfl rfl byac ?_
     with_reducible refine (qZ.calls g s0_0 x1001_1 _ _ y309 t312 t313 w0 _ ?side1 ?side2 ?side3 ?side4 ?side5 A42.out).mono ?_
     (case side1=>exact bybf HI0.out NB0_294.out NB0_295.out)
     (case side2=>exact bybg HI0.out GE294.out GE295.out)
     (case side3=>exact byax HO311.out)
     (case side4=>exact byay HO311.out)
     (case side5=>exact far_slice (qB.own_ne HI0.out HO311.out (by decide)))
     rintro e w53 ⟨rfl,hi,hb,hk⟩
     refine ⟨_,rfl,?_⟩
     have n_:=q_7 (Kd.qV (Kd.vK (qB.apart (show qB w0 _ g s0_0 x1001_1 from by repeat (first|(with_reducible first|exact HI0.out|apply qB.alloc|apply qB.drewN|apply qB.drew|apply qB.jO|refine qB.far ?_ NB0_294.out _|refine qB.far ?_ NB0_295.out _)|exact HI0.out)) (byas HO_296001.out) (by decide)) hk (fun _ h=>h.2)) (fun _ h=>h.1)) (qC.blkB hk BK294.out NB294_0.out (by simp)) (qC.blkB hk BK295.out NB295_0.out (by simp)) (Kd.qV (Kd.vK (qB.apart (show qB w0 _ g s0_0 x1001_1 from by repeat (first|(with_reducible first|exact HI0.out|apply qB.alloc|apply qB.drewN|apply qB.drew|apply qB.jO|refine qB.far ?_ NB0_294.out _|refine qB.far ?_ NB0_295.out _)|exact HI0.out)) (byas HO311.out) (by decide)) hk (fun _ h=>h.2)) (fun _ h=>h.1)) (qC.trans (bybh GW294.out GW295.out) hk (.inl rfl)) (hb) (hi)
     clear HO_296001 BK294 BK295 HO311 HK HB HI0
     obtain ⟨HO_296001,BK294,BK295,HO311,HK,HB,HI0⟩:=n_
     (try clear hb)
     (try clear hb2)
     (try clear hk)
     (try clear hi)
     refine hK.out _ _ (cv3 BK295.out) (fun hHeld=>?_)
     clear hK K
     refine Qp (N:=some 39) ?_
     refine jK (i:=12) (N:=some 40) (bb 17 8191) ?_
     refine jK (i:=13) (N:=some 41) (bb 17 16383) ?_
     refine jK (i:=14) (N:=some 42) (bb 17 32767) ?_
     refine jK (i:=15) (N:=some 43) (bb 17 65535) ?_
     refine last_ (i:=16) (N:=none) (bb 17 131071) rfl rfl (kJ HT_.out (by kernel_rfl)) (by decide) (fun K hK=>?_)
     have hs54 : w53.cell? ⟨gb295,0,none⟩ = some (.int .i64 0):=(vF BK295.out 0).trans rfl
     have hfs54:=uZ BK295.out 0
     have hns54_0:=NB294_295.out
     have hms54_0:=NB295_294.out
     refine skip_ (w1:=?_) (by rfl) rfl ?_ ?_
     rotate_left
     ·go_simp
      rfl
     refine hK.out _ _ ?_
     clear hK K
     refine done_ (Qr HT_.out (by kernel_rfl)) ?_
     obtain ⟨hcz55_0,hcz55_1,hcz55_2,hfz55_0,hfz55_1,hfz55_2⟩:=cz3 BK295.out
     have hnb56:=NB294_0.out
     have hnc56:=NB0_294.out
     obtain ⟨hcz57_0,hcz57_1,hcz57_2,hfz57_0,hfz57_1,hfz57_2⟩:=cz3 BK294.out
     try go_wp2
     refine bodyPost_ret (results_cell_row rfl _ _ gb294 49 #[.int .i64 ji44,.slice Ao48 x296001_1.length co48,.slice none 0 0] (0,0) _ rfl (by (with_reducible repeat (first|refine qH ?_ _|refine qJ ?_|refine qG ?_ _));refine zG (cs:=#[.int .i64 ji44,.slice Ao48 x296001_1.length co48,.slice none 0 0]) ?_ 2 _ rfl;(with_reducible repeat (first|refine qH ?_ _|refine qJ ?_|refine qG ?_ _));refine zG (cs:=#[.int .i64 ji44,.slice none 0 0,.slice none 0 0]) ?_ 1 _ rfl;(with_reducible repeat (first|refine qH ?_ _|refine qJ ?_|refine qG ?_ _));refine zG (cs:=#[.int .i64 0,.slice none 0 0,.slice none 0 0]) ?_ 0 _ rfl;(with_reducible repeat (first|refine qH ?_ _|refine qJ ?_|refine qG ?_ _));refine uT ?_ NB294_295.out _;(with_reducible repeat (first|refine qH ?_ _|refine qJ ?_|refine qG ?_ _));exact BK294.out) Try.underlying49 rfl (by kernel_rfl)) rfl ?_
     exact ⟨_,_,by first|rfl|(simp [uP,uQ]<;>rfl)|(simp only [← hji43,← hji44];first|rfl|(simp [uP,uQ]<;>rfl))|(simp [*,uP,uQ]<;>rfl),by (with_reducible repeat (first|apply Kd.jF|apply Kd.jG|apply Kd.jM));exact Kd.qV (Kd.zT (p:=⟨gb294,2,none⟩) (Kd.zT (p:=⟨gb294,1,none⟩) (Kd.zT (p:=⟨gb294,0,none⟩) (Kd.zT (p:=⟨gb295,0,none⟩) (Kd.zX (Kd.zX HO_296001.out BK295.out (by decide)) BK294.out (by decide)) (fun _ hk=>hk.1.2) (.int .i64 ji44)) (fun _ hk=>hk.2) (.int .i64 ji44)) (fun _ hk=>hk.2) (.slice Ao48 x296001_1.length co48)) (fun _ hk=>hk.2) (.slice none 0 0)) (fun _ hk=>trivial),byar,bybf HI0.out NB0_294.out NB0_295.out,bybg HI0.out GE294.out GE295.out,bybh GW294.out GW295.out⟩
end Go.Proofs.Ytoofabolcbbjnaa.P
