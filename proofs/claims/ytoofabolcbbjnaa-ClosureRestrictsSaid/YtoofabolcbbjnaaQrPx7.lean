/- Functions of the program as Lean functions, and the walks that show that the calls answer so; written by a program of this session (a changed print) and by hand. -/
import Derived.Test.YtoofabolcbbjnaaQrPx0
import Derived.Test.YtoofabolcbbjnaaQrPx3
namespace Go.Proofs.Ytoofabolcbbjnaa.P
open Go.RowKit Go.Proofs.YtoofabolcbbjnaaW.PrintWords Go.Proofs.YtoofabolcbbjnaaW.PrintLast Go.Proofs.YtoofabolcbbjnaaW.PrintMore
attribute [local go_sem] kH kJ kQ kR uS uR kF kG
set_option linter.unusedVariables false
set_option linter.unusedSimpArgs false
def zY.l0 : Nat→Int→Int→List Int→Int→Int→List Int→Option (Int × List Int × (List (S49)) × Int)
 | 0,_,_,_,_,_,_=>none
 | k + 1,x1,x6,x1000,x1001,x296000,x296001=>if x6 < x1 then ((qZ.f x1000 x1001 10).bind fun bt296=>(if bt296.1 < 9 then (if x296001.length < 17592186044416 then (zY.l0 k x1 (wrap64 (x6 + 1)) x1000 bt296.2 x296000 (x296001 ++ [x6])) else (none)) else (zY.l0 k x1 (wrap64 (x6 + 1)) x1000 bt296.2 x296000 x296001))) else (if (x296001.length : Int) = 0 then ((some (([0] : List Int) : List Int)).bind fun y301=>((jW.f x1000 x1001 (([0,0,0,1,(-1)] : List Int))).bind fun bt307=>(some (mn (y301.length : Int) (mx 1 (wrap64 ((wrap64 (Int.tdiv (wrap64 ((wrap64 (2 * (y301.length : Int))) + 2)) 3)) + bt307.1))),y301,([] : List (S49)),bt307.2)))) else ((jW.f x1000 x1001 (([0,0,0,1,(-1)] : List Int))).bind fun bt312=>(some (mn (x296001.length : Int) (mx 1 (wrap64 ((wrap64 (Int.tdiv (wrap64 ((wrap64 (2 * (x296001.length : Int))) + 2)) 3)) + bt312.1))),x296001,([] : List (S49)),bt312.2))))
def zY.f (k : Nat) (s0_0 : List Int) (s0_1 : Int) (a1 : Int) : Option (Int × List Int × (List (S49)) × Int):=zY.l0 k a1 0 s0_0 s0_1 0 ([] : List Int)
def zY.T9 : Bool × List (List Nat × List Nat):=(true,[([],[]),([0],[0]),([1],[1]),([],[]),([3],[3]),([4],[4]),([5],[5]),([6],[6]),([7],[7]),([],[]),([],[]),([9,10],[9,10]),([8,11],[8,11]),([12],[12]),([2,13],[2,13]),([0,1,2,3,4,5,6,7,8,9,10,11,12,13,14],[]),([15,14,11,0,1,2,3,4,5,6,7,8,9,10,11,12,13,14],[14,15])])
def zY.B9 : List Nat:=[0,1,3,0,8,24,56,120,248,0,0,1536,4088,8184,16383,32767,65535]
theorem zY.tab9 : rtab .any (opsOf Try.f32 9) = zY.T9:=by kernel_rfl
theorem zY.bits9 : waitsOk zY.T9.2 zY.B9 = true:=by kernel_rfl
set_option maxHeartbeats 8000000 in
set_option maxRecDepth 100000 in
theorem zY.calls (k : Nat) (g : Nat) (s0_0 : List Int) (s0_1 : Int) (a1 : Int) (r1 : Int) (r2 : List Int) (r3 : List (S49)) (r4 : Int) (w0 w : World) (hI : qC w0 w g s0_0 s0_1) (hB : Below w0.heap.size w0 w) (h : zY.f k s0_0 s0_1 a1 = some (r1,r2,r3,r4)) :
  Calls Try.prog 32 #[.pointer (some ⟨g,0,none⟩),.int .i64 a1] w fun e w'=>∃ v1_ v2_ : Value,e = .returned (.agg #[.int .i64 r1,v1_,v2_])∧Kd.R (Kd.int .i64) 3 w' w.heap.size (fun _=>True) v1_ r2∧Kd.R k49 49 w' w.heap.size (fun k_=>some k_≠(v1_ : Value).ownBlock) v2_ r3∧qC w0 w' g s0_0 r4∧Below w0.heap.size w0 w'∧qL w w' g none:=by
 have hu49:=Try.underlying49
 have HI0:=qA.mk hI
 have HK:=qA.mk (qL.refl w g none)
 have HL:=qA.mk hB.size
 clear hI
 have HW0:=qA.mk hB.size
 have HB:=qA.mk hB
 clear hB
 have H : (zY.l0 k a1 0 s0_0 s0_1 0 ([] : List Int)) = some (r1,r2,r3,r4):=h
 clear h
 have H':=qA.mk H
 clear H
 go_enter Try.func32,Try.ntmps32
 go_wp2_with (first|((with_reducible refine jH (N:=4) rfl ?_);refine jL ?hg (N:=4) ?hd (cs:=#[.int .i64 0,.slice none 0 0,.slice none 0 0]) (t:=49) ?hr ?_;(case hd=>rfl);(case hg=>rfl);(case hr=>first|(go_simp;done)|(go_simp;rfl));intro gb294 hg w3 hbox hb;have n0_:=qA.mk (qC.below (by repeat (first|(with_reducible first|exact HI0.out|apply qC.alloc|apply qC.drewN|apply qC.drew|apply qC.zM)|exact HI0.out)) hb);have n1_:=qA.mk (qL.trans (by repeat (first|(with_reducible first|exact HK.out|apply qL.set_|apply qP|apply qR|apply qO)|exact HK.out)) (qL.of_below hb g none) (.inl rfl));have n2_:=qA.mk (qN (by repeat (first|(with_reducible first|exact HB.out|apply qH|apply qB|apply qG|refine qD ?_ (qC.ge HI0.out))|exact HB.out)) hb);have n3_:=qA.mk (hbox);have n4_:=qA.mk ((by rw [hg];exact (jG (w:=w) (g:=g) (row:=none) (by repeat (first|(with_reducible first|exact HK.out|apply qL.set_|apply qP|apply qR|apply qO)|exact HK.out))) : w.heap.size ≤ gb294));have n5_:=qA.mk ((Nat.le_trans HW0.out (by rw [hg];exact (jG (w:=w) (g:=g) (row:=none) (by repeat (first|(with_reducible first|exact HK.out|apply qL.set_|apply qP|apply qR|apply qO)|exact HK.out))) : w.heap.size ≤ gb294) : w0.heap.size ≤ gb294));have n6_:=qA.mk ((by rw [hg];exact Nat.ne_of_lt (qC.lt (show qC w0 _ g s0_0 s0_1 from by repeat (first|(with_reducible first|exact HI0.out|apply qC.alloc|apply qC.drewN|apply qC.drew|apply qC.zM)|exact HI0.out))) : g≠gb294));have n7_:=qA.mk ((by rw [hg];exact Nat.ne_of_gt (qC.lt (show qC w0 _ g s0_0 s0_1 from by repeat (first|(with_reducible first|exact HI0.out|apply qC.alloc|apply qC.drewN|apply qC.drew|apply qC.zM)|exact HI0.out))) : gb294≠g));clear HI0;clear HK;clear HB;have HI0:=n0_;have HK:=n1_;have HB:=n2_;have BK294:=n3_;have GW294:=n4_;have GE294:=n5_;have NB0_294:=n6_;have NB294_0:=n7_;clear n0_ n1_ n2_ n3_ n4_ n5_ n6_ n7_;clear hb hbox hg)|((with_reducible refine jH (N:=5) rfl ?_);refine jL ?hg (N:=5) ?hd (cs:=#[.int .i64 0,.slice none 0 0,.slice none 0 0]) (t:=49) ?hr ?_;(case hd=>rfl);(case hg=>rfl);(case hr=>first|(go_simp;done)|(go_simp;rfl));intro gb295 hg w4 hbox hb;have n0_:=qA.mk (qC.below (by repeat (first|(with_reducible first|exact HI0.out|apply qC.alloc|apply qC.drewN|apply qC.drew|apply qC.zM|refine qC.far ?_ NB0_294.out _)|exact HI0.out)) hb);have n1_:=qA.mk (zD (g:=gb294) (o:=.cells #[.int .i64 0,.slice none 0 0,.slice none 0 0] 49 (0,0)) (by (with_reducible repeat (first|refine qF ?_ _|refine qI ?_|refine qE ?_ _));exact BK294.out) hb);have n2_:=qA.mk (qL.trans (by repeat (first|(with_reducible first|exact HK.out|apply qL.set_|apply qP|apply qR|apply qO|refine qM ?_ GW294.out _)|exact HK.out)) (qL.of_below hb g none) (.inl rfl));have n3_:=qA.mk (qN (by repeat (first|(with_reducible first|exact HB.out|apply qH|apply qB|apply qG|refine qD ?_ (qC.ge HI0.out)|refine qD ?_ GE294.out)|exact HB.out)) hb);have n4_:=qA.mk (hbox);have n5_:=qA.mk ((by rw [hg];exact (jG (w:=w) (g:=g) (row:=none) (by repeat (first|(with_reducible first|exact HK.out|apply qL.set_|apply qP|apply qR|apply qO|refine qM ?_ GW294.out _)|exact HK.out))) : w.heap.size ≤ gb295));have n6_:=qA.mk ((Nat.le_trans HW0.out (by rw [hg];exact (jG (w:=w) (g:=g) (row:=none) (by repeat (first|(with_reducible first|exact HK.out|apply qL.set_|apply qP|apply qR|apply qO|refine qM ?_ GW294.out _)|exact HK.out))) : w.heap.size ≤ gb295) : w0.heap.size ≤ gb295));have n7_:=qA.mk ((by rw [hg];exact Nat.ne_of_lt (jR (g:=gb294) (o:=.cells #[.int .i64 0,.slice none 0 0,.slice none 0 0] 49 (0,0)) (by (with_reducible repeat (first|refine qF ?_ _|refine qI ?_|refine qE ?_ _));exact BK294.out)) : gb294≠gb295));have n8_:=qA.mk ((by rw [hg];exact Nat.ne_of_gt (jR (g:=gb294) (o:=.cells #[.int .i64 0,.slice none 0 0,.slice none 0 0] 49 (0,0)) (by (with_reducible repeat (first|refine qF ?_ _|refine qI ?_|refine qE ?_ _));exact BK294.out)) : gb295≠gb294));have n9_:=qA.mk ((by rw [hg];exact Nat.ne_of_lt (qC.lt (show qC w0 _ g s0_0 s0_1 from by repeat (first|(with_reducible first|exact HI0.out|apply qC.alloc|apply qC.drewN|apply qC.drew|apply qC.zM|refine qC.far ?_ NB0_294.out _)|exact HI0.out))) : g≠gb295));have n10_:=qA.mk ((by rw [hg];exact Nat.ne_of_gt (qC.lt (show qC w0 _ g s0_0 s0_1 from by repeat (first|(with_reducible first|exact HI0.out|apply qC.alloc|apply qC.drewN|apply qC.drew|apply qC.zM|refine qC.far ?_ NB0_294.out _)|exact HI0.out))) : gb295≠g));clear HI0;clear BK294;clear HK;clear HB;have HI0:=n0_;have BK294:=n1_;have HK:=n2_;have HB:=n3_;have BK295:=n4_;have GW295:=n5_;have GE295:=n6_;have NB294_295:=n7_;have NB295_294:=n8_;have NB0_295:=n9_;have NB295_0:=n10_;clear n0_ n1_ n2_ n3_ n4_ n5_ n6_ n7_ n8_ n9_ n10_;clear hb hbox hg;have hnb5:=NB295_294.out;have hnc5:=NB294_295.out;have hnb6:=NB295_0.out;have hnc6:=NB0_295.out;have hcz7_0 : w4.cell? ⟨gb295,0,none⟩ = some (.int .i64 0):=(qK BK295.out 0).trans rfl;have hcz7_1 : w4.cell? ⟨gb295,1,none⟩ = some (.slice none 0 0):=(qK BK295.out 1).trans rfl;have hcz7_2 : w4.cell? ⟨gb295,2,none⟩ = some (.slice none 0 0):=(qK BK295.out 2).trans rfl;have hfz7_0:=qJ BK295.out 0;have hfz7_1:=qJ BK295.out 1;have hfz7_2:=qJ BK295.out 2))
 go_loopg [6] k (fun kq v6 w'=>∃ (x6_1 : Int) (x1001_1 : Int) (x296001_1 : List Int) (u296001 : Value),v6 = .int .i64 x6_1∧qA (zY.l0 kq a1 x6_1 s0_0 x1001_1 0 x296001_1 = some (r1,r2,r3,r4))∧qA (kq ≤ k)∧qA (Kd.R (Kd.int .i64) 3 w' w.heap.size (fun _=>True) u296001 x296001_1)∧qA (w'.heap[gb294]? = some (.cells #[.int .i64 0,(.slice none 0 0),(.slice none 0 0)] 49 (0,0)))∧qA (w'.heap[gb295]? = some (.cells #[.int .i64 0,u296001,(.slice none 0 0)] 49 (0,0)))∧qA (qC w0 w' g s0_0 x1001_1)∧qA (qL w w' g none)∧qA (Below w0.heap.size w0 w'))
 case atStart=>exact ⟨(0),(s0_1),(([] : List Int)),(.slice none 0 0),(by first|rfl|(simp;done)|(simp [*];done)),H',⟨Nat.le_refl _⟩,⟨by first|exact Kd.uT _ _ _ _ _|exact Kd.N_nil _ _ _ _ _|exact Kd.V_nil _ _ _ _ _|exact Kd.Q_nil _ _ _ _ _|exact Kd.S_nil _ _ _ _ _⟩,⟨by (with_reducible repeat (first|refine qF ?_ _|refine qI ?_|refine qE ?_ _));refine zU ?_ NB294_295.out _;(with_reducible repeat (first|refine qF ?_ _|refine qI ?_|refine qE ?_ _));refine zU ?_ NB294_295.out _;(with_reducible repeat (first|refine qF ?_ _|refine qI ?_|refine qE ?_ _));refine zU ?_ NB294_295.out _;(with_reducible repeat (first|refine qF ?_ _|refine qI ?_|refine qE ?_ _));exact BK294.out⟩,⟨by (with_reducible repeat (first|refine qF ?_ _|refine qI ?_|refine qE ?_ _));refine zV (cs:=#[.int .i64 0,.slice none 0 0,.slice none 0 0]) ?_ 2 _ rfl;(with_reducible repeat (first|refine qF ?_ _|refine qI ?_|refine qE ?_ _));refine zV (cs:=#[.int .i64 0,.slice none 0 0,.slice none 0 0]) ?_ 1 _ rfl;(with_reducible repeat (first|refine qF ?_ _|refine qI ?_|refine qE ?_ _));refine zV (cs:=#[.int .i64 0,.slice none 0 0,.slice none 0 0]) ?_ 0 _ rfl;(with_reducible repeat (first|refine qF ?_ _|refine qI ?_|refine qE ?_ _));exact BK295.out⟩,⟨by repeat (first|(with_reducible first|exact HI0.out|apply qC.alloc|apply qC.drewN|apply qC.drew|apply qC.zM|refine qC.far ?_ NB0_294.out _|refine qC.far ?_ NB0_295.out _)|exact HI0.out)⟩,⟨by repeat (first|(with_reducible first|exact HK.out|apply qL.set_|apply qP|apply qR|apply qO|refine qM ?_ GW294.out _|refine qM ?_ GW295.out _)|exact HK.out)⟩,⟨by repeat (first|(with_reducible first|exact HB.out|apply qH|apply qB|apply qG|refine qD ?_ (qC.ge HI0.out)|refine qD ?_ GE294.out|refine qD ?_ GE295.out)|exact HB.out)⟩⟩
 case round =>
  clear H'
  try clear p2
  try clear c3
  try clear c5
  try clear c6
  try clear hcz7_0
  try clear hcz7_1
  try clear hcz7_2
  try clear hfz7_0
  try clear hfz7_1
  try clear hfz7_2
  obtain ⟨x6_1,x1001_1,x296001_1,u296001,rfl,HA,HK1,HO_296001,BK294,BK295,HI0,HK,HB⟩:=hrel
  cases gk with
  | zero=>exact absurd HA.out (by simp [zY.l0])
  | succ k1 =>
   have H:=HA.out
   clear HA
   simp only [zY.l0] at H
   by_cases c8 : x6_1 < a1
   ·rw [if_pos c8] at H
    have c8b0 : decide (x6_1 < a1) = true:=decide_eq_true c8
    clear c8
    replace H:=Option.bind_eq_some_iff.mp H
    obtain ⟨⟨t296,t297⟩,A90,H⟩:=H
    replace H : (if t296 < 9 then (if x296001_1.length < 17592186044416 then (zY.l0 k1 a1 (wrap64 (x6_1 + 1)) s0_0 t297 0 (x296001_1 ++ [x6_1])) else (none)) else (zY.l0 k1 a1 (wrap64 (x6_1 + 1)) s0_0 t297 0 x296001_1)) = some (r1,r2,r3,r4):=H
    have A9:=qA.mk A90
    clear A90
    by_cases c10 : t296 < 9
    ·rw [if_pos c10] at H
     have c10b0 : decide (t296 < 9) = true:=decide_eq_true c10
     clear c10
     by_cases c11 : x296001_1.length < 17592186044416
     ·rw [if_pos c11] at H
      have LMc11:=qA.mk c11
      clear c11
      obtain ⟨y298,hy298⟩ : ∃ y_ : List Int,y_ = (x296001_1 ++ [x6_1]):=⟨_,rfl⟩
      replace H : (zY.l0 k1 a1 (wrap64 (x6_1 + 1)) s0_0 t297 0 y298) = some (r1,r2,r3,r4):=by first|(rw [hy298];with_reducible exact H)|(have H2_:=(Option.bind_some _ _).symm.trans H;rw [hy298];with_reducible exact H2_)|(have H2_:=(Option.bind_some _ _).symm.trans H;with_reducible exact H2_)|with_reducible exact H|(rw [hy298];exact H)|exact H
      have Ny298:=qA.mk hy298
      clear hy298
      have H':=qA.mk H
      clear H
      go_wp2_with (first|((with_reducible refine q8 (f:=13) rfl ?_);refine jB (some 14) rfl rfl Try.func13 (by kernel_rfl) rfl #[.pointer (some ⟨g,0,none⟩),.int .i64 10] rfl (by (try simp only [List.map_toArray,List.map_cons,List.map_nil]);first|done|rfl|(simp only [List.length_drop,List.length_take];rfl)|(simp only [List.length_nil,Int.natCast_zero,Int.zero_add,Int.ofNat_zero];rfl)) ?_;(with_reducible refine (qZ.calls g s0_0 x1001_1 10 t296 t297 w0 _ ?side1 ?side2 A9.out).mono ?_);(case side1=>repeat (first|(with_reducible first|exact HI0.out|apply qC.alloc|apply qC.drewN|apply qC.drew|apply qC.zM|refine qC.far ?_ NB0_294.out _|refine qC.far ?_ NB0_295.out _)|exact HI0.out));(case side2=>repeat (first|(with_reducible first|exact HB.out|apply qH|apply qB|apply qG|refine qD ?_ (qC.ge HI0.out)|refine qD ?_ GE294.out|refine qD ?_ GE295.out)|exact HB.out));rintro e w12 ⟨rfl,hi,hb,hk⟩;refine ⟨_,rfl,?_⟩;have n0_:=qA.mk (Kd.zN (Kd.vO (qC.apart (show qC w0 _ g s0_0 x1001_1 from by repeat (first|(with_reducible first|exact HI0.out|apply qC.alloc|apply qC.drewN|apply qC.drew|apply qC.zM|refine qC.far ?_ NB0_294.out _|refine qC.far ?_ NB0_295.out _)|exact HI0.out)) (by (with_reducible repeat (first|apply Kd.qX|apply Kd.qW|apply Kd.zC));exact HO_296001.out) (by decide)) hk (fun _ h=>h.2)) (fun _ h=>h.1));have n1_:=qA.mk (qL.blk hk (g':=gb294) (o:=.cells #[.int .i64 0,.slice none 0 0,.slice none 0 0] 49 (0,0)) (by (with_reducible repeat (first|refine qF ?_ _|refine qI ?_|refine qE ?_ _));exact BK294.out) NB294_0.out (by simp));have n2_:=qA.mk (qL.blk hk (g':=gb295) (o:=.cells #[.int .i64 0,u296001,.slice none 0 0] 49 (0,0)) (by (with_reducible repeat (first|refine qF ?_ _|refine qI ?_|refine qE ?_ _));exact BK295.out) NB295_0.out (by simp));have n3_:=qA.mk (qL.trans (by repeat (first|(with_reducible first|exact HK.out|apply qL.set_|apply qP|apply qR|apply qO|refine qM ?_ GW294.out _|refine qM ?_ GW295.out _)|exact HK.out)) hk (.inl rfl));have n4_:=qA.mk (hb);have n5_:=qA.mk (hi);clear HO_296001;clear BK294;clear BK295;clear HK;clear HB;clear HI0;have HO_296001:=n0_;have BK294:=n1_;have BK295:=n2_;have HK:=n3_;have HB:=n4_;have HI0:=n5_;clear n0_ n1_ n2_ n3_ n4_ n5_;(try clear hb);(try clear hb2);(try clear hk);(try clear hi);have hnb13:=NB295_294.out;have hnc13:=NB294_295.out;have hnb14:=NB295_0.out;have hnc14:=NB0_295.out;have hcz15_0 : w12.cell? ⟨gb295,0,none⟩ = some (.int .i64 0):=(qK BK295.out 0).trans rfl;have hcz15_1 : w12.cell? ⟨gb295,1,none⟩ = some (u296001):=(qK BK295.out 1).trans rfl;have hcz15_2 : w12.cell? ⟨gb295,2,none⟩ = some (.slice none 0 0):=(qK BK295.out 2).trans rfl;have hfz15_0:=qJ BK295.out 0;have hfz15_1:=qJ BK295.out 1;have hfz15_2:=qJ BK295.out 2)|((with_reducible refine vQ (b:=.append) (xs:=#[.tmp 17,.tmp 19]) rfl ?_);at_builtin;refine Kd.uO (Kd.int .i64) w.heap.size rfl (.tmp 17) (.tmp 19) 22 3 (.int .i64 0) 8 rfl Try.underlying22 info3 rfl (by decide) (by omega) u296001 x296001_1 x6_1 [.int .i64 x6_1] (fun _=>True) (fun _=>False) rfl rfl ?aP (fun _ hk=>hk.elim) ?aF ?aO (Below.refl _ _) ?aS ?aL ?_;(case aP=>exact rfl);(case aF=>exact (fun _ _=>trivial));(case aO=>exact (by (with_reducible repeat (first|apply Kd.qX|apply Kd.qW|apply Kd.zC));exact HO_296001.out));(case aS=>exact (jG (w:=w) (g:=g) (row:=none) (by repeat (first|(with_reducible first|exact HK.out|apply qL.set_|apply qP|apply qR|apply qO|refine qM ?_ GW294.out _|refine qM ?_ GW295.out _)|exact HK.out))));(case aL=>have:=LMc11.out;omega);intro v299 w16 ho hb hg hat;rw [← Ny298.out] at ho;have n0_:=qA.mk (jX (g:=gb294) (o:=.cells #[.int .i64 0,.slice none 0 0,.slice none 0 0] 49 (0,0)) (by (with_reducible repeat (first|refine qF ?_ _|refine qI ?_|refine qE ?_ _));exact BK294.out) hg (Kd.R_ne HO_296001.out BK294.out (by decide)));have n1_:=qA.mk (jX (g:=gb295) (o:=.cells #[.int .i64 0,u296001,.slice none 0 0] 49 (0,0)) (by (with_reducible repeat (first|refine qF ?_ _|refine qI ?_|refine qE ?_ _));exact BK295.out) hg (Kd.R_ne HO_296001.out BK295.out (by decide)));have n2_:=qA.mk (qC.grown (by repeat (first|(with_reducible first|exact HI0.out|apply qC.alloc|apply qC.drewN|apply qC.drew|apply qC.zM|refine qC.far ?_ NB0_294.out _|refine qC.far ?_ NB0_295.out _)|exact HI0.out)) hg (qC.own_ne HI0.out HO_296001.out (by decide)));have n3_:=qA.mk (uB (by repeat (first|(with_reducible first|exact HB.out|apply qH|apply qB|apply qG|refine qD ?_ (qC.ge HI0.out)|refine qD ?_ GE294.out|refine qD ?_ GE295.out)|exact HB.out)) HL.out hb);have n4_:=qA.mk (qL.trans (by repeat (first|(with_reducible first|exact HK.out|apply qL.set_|apply qP|apply qR|apply qO|refine qM ?_ GW294.out _|refine qM ?_ GW295.out _)|exact HK.out)) (qL.uN hg g) (Kd.kN HO_296001.out));have n5_:=qA.mk (ho);clear BK294;clear BK295;clear HI0;clear HB;clear HK;clear HO_296001;have BK294:=n0_;have BK295:=n1_;have HI0:=n2_;have HB:=n3_;have HK:=n4_;have HO300:=n5_;clear n0_ n1_ n2_ n3_ n4_ n5_;clear ho hb hg hat;obtain ⟨Ao17,co17,eo17⟩:=Kd.j4 HO300.out;subst eo17;have hcz18_0 : w16.cell? ⟨gb295,0,none⟩ = some (.int .i64 0):=(qK BK295.out 0).trans rfl;have hcz18_1 : w16.cell? ⟨gb295,1,none⟩ = some (u296001):=(qK BK295.out 1).trans rfl;have hcz18_2 : w16.cell? ⟨gb295,2,none⟩ = some (.slice none 0 0):=(qK BK295.out 2).trans rfl;have hfz18_0:=qJ BK295.out 0;have hfz18_1:=qJ BK295.out 1;have hfz18_2:=qJ BK295.out 2))
      go_roundg k1
      case measure=>have:=HK1.out;omega
      case rel=>exact ⟨(wrap64 (x6_1 + 1)),(t297),(y298),(.slice Ao17 y298.length co17),(by first|rfl|(simp;done)|(simp [*];done)),H',⟨by have:=HK1.out;omega⟩,⟨by (with_reducible repeat (first|apply Kd.qX|apply Kd.qW|apply Kd.zC));exact Kd.zN (Kd.jE (p:=⟨gb295,1,none⟩) (Kd.jY HO300.out BK295.out (by decide)) (fun _ hk=>hk.2) (.slice Ao17 y298.length co17)) (fun _ hk=>trivial)⟩,⟨by (with_reducible repeat (first|refine qF ?_ _|refine qI ?_|refine qE ?_ _));refine zU ?_ NB294_295.out _;(with_reducible repeat (first|refine qF ?_ _|refine qI ?_|refine qE ?_ _));exact BK294.out⟩,⟨by (with_reducible repeat (first|refine qF ?_ _|refine qI ?_|refine qE ?_ _));refine zV (cs:=#[.int .i64 0,u296001,.slice none 0 0]) ?_ 1 _ rfl;(with_reducible repeat (first|refine qF ?_ _|refine qI ?_|refine qE ?_ _));exact BK295.out⟩,⟨by repeat (first|(with_reducible first|exact HI0.out|apply qC.alloc|apply qC.drewN|apply qC.drew|apply qC.zM|refine qC.far ?_ NB0_294.out _|refine qC.far ?_ NB0_295.out _)|exact HI0.out)⟩,⟨by repeat (first|(with_reducible first|exact HK.out|apply qL.set_|apply qP|apply qR|apply qO|refine qM ?_ GW294.out _|refine qM ?_ GW295.out _)|exact HK.out)⟩,⟨by repeat (first|(with_reducible first|exact HB.out|apply qH|apply qB|apply qG|refine qD ?_ (qC.ge HI0.out)|refine qD ?_ GE294.out|refine qD ?_ GE295.out)|exact HB.out)⟩⟩
     ·rw [if_neg c11] at H
      exact absurd H (by simp)
    ·rw [if_neg c10] at H
     have c10b0 : decide (t296 < 9) = false:=decide_eq_false c10
     clear c10
     have H':=qA.mk H
     clear H
     go_wp2_with (first|((with_reducible refine q8 (f:=13) rfl ?_);refine jB (some 14) rfl rfl Try.func13 (by kernel_rfl) rfl #[.pointer (some ⟨g,0,none⟩),.int .i64 10] rfl (by (try simp only [List.map_toArray,List.map_cons,List.map_nil]);first|done|rfl|(simp only [List.length_drop,List.length_take];rfl)|(simp only [List.length_nil,Int.natCast_zero,Int.zero_add,Int.ofNat_zero];rfl)) ?_;(with_reducible refine (qZ.calls g s0_0 x1001_1 10 t296 t297 w0 _ ?side1 ?side2 A9.out).mono ?_);(case side1=>repeat (first|(with_reducible first|exact HI0.out|apply qC.alloc|apply qC.drewN|apply qC.drew|apply qC.zM|refine qC.far ?_ NB0_294.out _|refine qC.far ?_ NB0_295.out _)|exact HI0.out));(case side2=>repeat (first|(with_reducible first|exact HB.out|apply qH|apply qB|apply qG|refine qD ?_ (qC.ge HI0.out)|refine qD ?_ GE294.out|refine qD ?_ GE295.out)|exact HB.out));rintro e w19 ⟨rfl,hi,hb,hk⟩;refine ⟨_,rfl,?_⟩;have n0_:=qA.mk (Kd.zN (Kd.vO (qC.apart (show qC w0 _ g s0_0 x1001_1 from by repeat (first|(with_reducible first|exact HI0.out|apply qC.alloc|apply qC.drewN|apply qC.drew|apply qC.zM|refine qC.far ?_ NB0_294.out _|refine qC.far ?_ NB0_295.out _)|exact HI0.out)) (by (with_reducible repeat (first|apply Kd.qX|apply Kd.qW|apply Kd.zC));exact HO_296001.out) (by decide)) hk (fun _ h=>h.2)) (fun _ h=>h.1));have n1_:=qA.mk (qL.blk hk (g':=gb294) (o:=.cells #[.int .i64 0,.slice none 0 0,.slice none 0 0] 49 (0,0)) (by (with_reducible repeat (first|refine qF ?_ _|refine qI ?_|refine qE ?_ _));exact BK294.out) NB294_0.out (by simp));have n2_:=qA.mk (qL.blk hk (g':=gb295) (o:=.cells #[.int .i64 0,u296001,.slice none 0 0] 49 (0,0)) (by (with_reducible repeat (first|refine qF ?_ _|refine qI ?_|refine qE ?_ _));exact BK295.out) NB295_0.out (by simp));have n3_:=qA.mk (qL.trans (by repeat (first|(with_reducible first|exact HK.out|apply qL.set_|apply qP|apply qR|apply qO|refine qM ?_ GW294.out _|refine qM ?_ GW295.out _)|exact HK.out)) hk (.inl rfl));have n4_:=qA.mk (hb);have n5_:=qA.mk (hi);clear HO_296001;clear BK294;clear BK295;clear HK;clear HB;clear HI0;have HO_296001:=n0_;have BK294:=n1_;have BK295:=n2_;have HK:=n3_;have HB:=n4_;have HI0:=n5_;clear n0_ n1_ n2_ n3_ n4_ n5_;(try clear hb);(try clear hb2);(try clear hk);(try clear hi)))
     go_roundg k1
     case measure=>have:=HK1.out;omega
     case rel=>exact ⟨(wrap64 (x6_1 + 1)),(t297),(x296001_1),(u296001),(by first|rfl|(simp;done)|(simp [*];done)),H',⟨by have:=HK1.out;omega⟩,⟨by (with_reducible repeat (first|apply Kd.qX|apply Kd.qW|apply Kd.zC));exact HO_296001.out⟩,⟨by (with_reducible repeat (first|refine qF ?_ _|refine qI ?_|refine qE ?_ _));exact BK294.out⟩,⟨by (with_reducible repeat (first|refine qF ?_ _|refine qI ?_|refine qE ?_ _));exact BK295.out⟩,⟨by repeat (first|(with_reducible first|exact HI0.out|apply qC.alloc|apply qC.drewN|apply qC.drew|apply qC.zM|refine qC.far ?_ NB0_294.out _|refine qC.far ?_ NB0_295.out _)|exact HI0.out)⟩,⟨by repeat (first|(with_reducible first|exact HK.out|apply qL.set_|apply qP|apply qR|apply qO|refine qM ?_ GW294.out _|refine qM ?_ GW295.out _)|exact HK.out)⟩,⟨by repeat (first|(with_reducible first|exact HB.out|apply qH|apply qB|apply qG|refine qD ?_ (qC.ge HI0.out)|refine qD ?_ GE294.out|refine qD ?_ GE295.out)|exact HB.out)⟩⟩
   ·rw [if_neg c8] at H
    have c8b0 : decide (x6_1 < a1) = false:=decide_eq_false c8
    clear c8
    by_cases c20 : (x296001_1.length : Int) = 0
    ·rw [if_pos c20] at H
     have c20b0 : ((x296001_1.length : Int) == 0) = true:=beq_iff_eq.mpr c20
     have c20b1 : ((x296001_1.length : Int) != 0) = false:=bne_eq_false_iff_eq.mpr c20
     clear c20
     obtain ⟨y301,hy301⟩ : ∃ y_ : List Int,y_ = (([0] : List Int)):=⟨_,rfl⟩
     replace H : ((jW.f s0_0 x1001_1 (([0,0,0,1,(-1)] : List Int))).bind fun bt307=>(some (mn (y301.length : Int) (mx 1 (wrap64 ((wrap64 (Int.tdiv (wrap64 ((wrap64 (2 * (y301.length : Int))) + 2)) 3)) + bt307.1))),y301,([] : List (S49)),bt307.2))) = some (r1,r2,r3,r4):=by first|(rw [hy301];with_reducible exact H)|(have H2_:=(Option.bind_some _ _).symm.trans H;rw [hy301];with_reducible exact H2_)|(have H2_:=(Option.bind_some _ _).symm.trans H;with_reducible exact H2_)|with_reducible exact H|(rw [hy301];exact H)|exact H
     have Ny301:=qA.mk hy301
     clear hy301
     obtain ⟨y304,hy304⟩ : ∃ y_ : List Int,y_ = (([0,0,0,1,(-1)] : List Int)):=⟨_,rfl⟩
     replace H : ((jW.f s0_0 x1001_1 y304).bind fun bt307=>(some (mn (y301.length : Int) (mx 1 (wrap64 ((wrap64 (Int.tdiv (wrap64 ((wrap64 (2 * (y301.length : Int))) + 2)) 3)) + bt307.1))),y301,([] : List (S49)),bt307.2))) = some (r1,r2,r3,r4):=by first|(rw [hy304];with_reducible exact H)|(have H2_:=(Option.bind_some _ _).symm.trans H;rw [hy304];with_reducible exact H2_)|(have H2_:=(Option.bind_some _ _).symm.trans H;with_reducible exact H2_)|with_reducible exact H|(rw [hy304];exact H)|exact H
     have Ny304:=qA.mk hy304
     clear hy304
     replace H:=Option.bind_eq_some_iff.mp H
     obtain ⟨⟨t307,t308⟩,A210,H⟩:=H
     replace H : (some (mn (y301.length : Int) (mx 1 (wrap64 ((wrap64 (Int.tdiv (wrap64 ((wrap64 (2 * (y301.length : Int))) + 2)) 3)) + t307))),y301,([] : List (S49)),t308)) = some (r1,r2,r3,r4):=H
     have A21:=qA.mk A210
     clear A210
     obtain ⟨ji22,hji22⟩ : ∃ j_ : Int,(mx 1 (wrap64 ((wrap64 (Int.tdiv (wrap64 ((wrap64 (2 * (y301.length : Int))) + 2)) 3)) + t307))) = j_:=⟨_,rfl⟩
     replace H : (some (mn (y301.length : Int) (ji22),y301,([] : List (S49)),t308)) = some (r1,r2,r3,r4):=by first|(rw [hji22] at H;exact H)|(simp only [hji22] at H ⊢;exact H)
     (try rw [hji22] at A21)
     (try (have hji22l : 1 ≤ ji22:=by (rw [← hji22];unfold mx;(repeat' split)<;>omega)))
     (try (have hji22m : 0 ≤ ji22:=by omega))
     have hji22_ : (if 1 < (wrap64 ((wrap64 (Int.tdiv (wrap64 ((wrap64 (2 * (y301.length : Int))) + 2)) 3)) + t307)) then (wrap64 ((wrap64 (Int.tdiv (wrap64 ((wrap64 (2 * (y301.length : Int))) + 2)) 3)) + t307)) else 1) = ji22:=hji22
     obtain ⟨ji23,hji23⟩ : ∃ j_ : Int,(mn (y301.length : Int) (ji22)) = j_:=⟨_,rfl⟩
     replace H : (some (ji23,y301,([] : List (S49)),t308)) = some (r1,r2,r3,r4):=by first|(rw [hji23] at H;exact H)|(simp only [hji23] at H ⊢;exact H)
     (try rw [hji23] at A21)
     have hji23_ : (if (ji22) < (y301.length : Int) then (ji22) else (y301.length : Int)) = ji23:=hji23
     simp only [Option.some.injEq,Prod.mk.injEq] at H
     obtain ⟨rfl,rfl,rfl,rfl⟩:=H
     have hnb24:=NB295_294.out
     have hnc24:=NB294_295.out
     have hnb25:=NB295_0.out
     have hnc25:=NB0_295.out
     have hcz26_0 : wr.cell? ⟨gb295,0,none⟩ = some (.int .i64 0):=(qK BK295.out 0).trans rfl
     have hcz26_1 : wr.cell? ⟨gb295,1,none⟩ = some (u296001):=(qK BK295.out 1).trans rfl
     have hcz26_2 : wr.cell? ⟨gb295,2,none⟩ = some (.slice none 0 0):=(qK BK295.out 2).trans rfl
     have hfz26_0:=qJ BK295.out 0
     have hfz26_1:=qJ BK295.out 1
     have hfz26_2:=qJ BK295.out 2
     obtain ⟨Ao27,co27,eo27⟩:=Kd.j4 HO_296001.out
     subst eo27
     try go_wp2_with (first|((with_reducible refine jH (N:=26) rfl ?_);refine Kd.R_lit (Kd.int .i64) _ 3 ?hg (N:=26) ?hd (xs:=([0] : List Int)) (inner:=[.int .i64 0]) (ok:=fun _=>True) (okp:=fun _=>True) ?hr ?hp (fun _ hk=>hk) trivial (Below.refl _ _) (Nat.le_refl _) (by simp) ?_;(case hd=>rfl);(case hg=>rfl);(case hr=>first|(go_simp;done)|(go_simp;rfl));(case hp=>exact (Reps.one (show Kd.M (Kd.int .i64) _ _ _ 0 [.int .i64 0] from rfl) (Reps.none _ _)));intro v302 w28 ho29 hb hg_ hnew_;clear hg_ hnew_;(first|rw [← Ny301.out] at ho29|(simp only [Int.reduceToNat] at ho29;rw [← Ny301.out] at ho29));have n0_:=qA.mk (Kd.uH (by (with_reducible repeat (first|apply Kd.qX|apply Kd.qW|apply Kd.zC));exact HO_296001.out) (Kd.vG ho29) hb);have n1_:=qA.mk (Kd.vL (Kd.uX ho29 (Kd.R_lt (by (with_reducible repeat (first|apply Kd.qX|apply Kd.qW|apply Kd.zC));exact HO_296001.out))) (jG (w:=w) (g:=g) (row:=none) (by repeat (first|(with_reducible first|exact HK.out|apply qL.set_|apply qP|apply qR|apply qO|refine qM ?_ GW294.out _|refine qM ?_ GW295.out _)|exact HK.out))));have n2_:=qA.mk (zD (g:=gb294) (o:=.cells #[.int .i64 0,.slice none 0 0,.slice none 0 0] 49 (0,0)) (by (with_reducible repeat (first|refine qF ?_ _|refine qI ?_|refine qE ?_ _));exact BK294.out) hb);have n3_:=qA.mk (zD (g:=gb295) (o:=.cells #[.int .i64 0,.slice Ao27 x296001_1.length co27,.slice none 0 0] 49 (0,0)) (by (with_reducible repeat (first|refine qF ?_ _|refine qI ?_|refine qE ?_ _));exact BK295.out) hb);have n4_:=qA.mk (qC.below (by repeat (first|(with_reducible first|exact HI0.out|apply qC.alloc|apply qC.drewN|apply qC.drew|apply qC.zM|refine qC.far ?_ NB0_294.out _|refine qC.far ?_ NB0_295.out _)|exact HI0.out)) hb);have n5_:=qA.mk (qL.trans (by repeat (first|(with_reducible first|exact HK.out|apply qL.set_|apply qP|apply qR|apply qO|refine qM ?_ GW294.out _|refine qM ?_ GW295.out _)|exact HK.out)) (qL.of_below hb g none) (.inl rfl));have n6_:=qA.mk (qN (by repeat (first|(with_reducible first|exact HB.out|apply qH|apply qB|apply qG|refine qD ?_ (qC.ge HI0.out)|refine qD ?_ GE294.out|refine qD ?_ GE295.out)|exact HB.out)) hb);clear HO_296001;clear BK294;clear BK295;clear HI0;clear HK;clear HB;have HO_296001:=n0_;have HO303:=n1_;have BK294:=n2_;have BK295:=n3_;have HI0:=n4_;have HK:=n5_;have HB:=n6_;clear n0_ n1_ n2_ n3_ n4_ n5_ n6_;clear hb ho29;obtain ⟨Ao30,co30,eo30⟩:=Kd.j4 HO303.out;subst eo30;have hcz31_0 : w28.cell? ⟨gb295,0,none⟩ = some (.int .i64 0):=(qK BK295.out 0).trans rfl;have hcz31_1 : w28.cell? ⟨gb295,1,none⟩ = some (.slice Ao27 x296001_1.length co27):=(qK BK295.out 1).trans rfl;have hcz31_2 : w28.cell? ⟨gb295,2,none⟩ = some (.slice none 0 0):=(qK BK295.out 2).trans rfl;have hfz31_0:=qJ BK295.out 0;have hfz31_1:=qJ BK295.out 1;have hfz31_2:=qJ BK295.out 2))
     have n0_ : qA (Kd.R (Kd.int .i64) 3 (w28.setCell ⟨gb295,1,none⟩ (.slice Ao30 y301.length co30)) w.heap.size (fun k_=>some k_≠(.slice Ao30 y301.length co30 : Value).ownBlock) (.slice Ao27 x296001_1.length co27) x296001_1):=⟨by (with_reducible repeat (first|apply Kd.qX|apply Kd.qW|apply Kd.zC));exact Kd.zN (Kd.jE (p:=⟨gb295,1,none⟩) (Kd.jY HO_296001.out BK295.out (by decide)) (fun _ hk=>hk.2) (.slice Ao30 y301.length co30)) (fun _ hk=>hk.1.2)⟩
     have n1_ : qA (Kd.R (Kd.int .i64) 3 (w28.setCell ⟨gb295,1,none⟩ (.slice Ao30 y301.length co30)) w.heap.size (fun k_=>some k_≠(.slice Ao27 x296001_1.length co27 : Value).ownBlock) (.slice Ao30 y301.length co30) y301):=⟨by (with_reducible repeat (first|apply Kd.qX|apply Kd.qW|apply Kd.zC));exact Kd.zN (Kd.jE (p:=⟨gb295,1,none⟩) (Kd.jY HO303.out BK295.out (by decide)) (fun _ hk=>hk.2) (.slice Ao30 y301.length co30)) (fun _ hk=>hk.1.2)⟩
     have n2_ : qA ((w28.setCell ⟨gb295,1,none⟩ (.slice Ao30 y301.length co30)).heap[gb294]? = some (.cells #[.int .i64 0,.slice none 0 0,.slice none 0 0] 49 (0,0))):=⟨by (with_reducible repeat (first|refine qF ?_ _|refine qI ?_|refine qE ?_ _));refine zU ?_ NB294_295.out _;(with_reducible repeat (first|refine qF ?_ _|refine qI ?_|refine qE ?_ _));exact BK294.out⟩
     have n3_ : qA ((w28.setCell ⟨gb295,1,none⟩ (.slice Ao30 y301.length co30)).heap[gb295]? = some (.cells #[.int .i64 0,.slice Ao30 y301.length co30,.slice none 0 0] 49 (0,0))):=⟨by (with_reducible repeat (first|refine qF ?_ _|refine qI ?_|refine qE ?_ _));refine zV (cs:=#[.int .i64 0,.slice Ao27 x296001_1.length co27,.slice none 0 0]) ?_ 1 _ rfl;(with_reducible repeat (first|refine qF ?_ _|refine qI ?_|refine qE ?_ _));exact BK295.out⟩
     have n4_ : qA (qC w0 (w28.setCell ⟨gb295,1,none⟩ (.slice Ao30 y301.length co30)) g s0_0 x1001_1):=⟨by repeat (first|(with_reducible first|exact HI0.out|apply qC.alloc|apply qC.drewN|apply qC.drew|apply qC.zM|refine qC.far ?_ NB0_294.out _|refine qC.far ?_ NB0_295.out _)|exact HI0.out)⟩
     have n5_ : qA (qL w (w28.setCell ⟨gb295,1,none⟩ (.slice Ao30 y301.length co30)) g none):=⟨by repeat (first|(with_reducible first|exact HK.out|apply qL.set_|apply qP|apply qR|apply qO|refine qM ?_ GW294.out _|refine qM ?_ GW295.out _)|exact HK.out)⟩
     have n6_ : qA (Below w0.heap.size w0 (w28.setCell ⟨gb295,1,none⟩ (.slice Ao30 y301.length co30))):=⟨by repeat (first|(with_reducible first|exact HB.out|apply qH|apply qB|apply qG|refine qD ?_ (qC.ge HI0.out)|refine qD ?_ GE294.out|refine qD ?_ GE295.out)|exact HB.out)⟩
     (try clear HO_296001)
     (try clear HO303)
     (try clear BK294)
     (try clear BK295)
     (try clear HI0)
     (try clear HK)
     (try clear HB)
     generalize (w28.setCell ⟨gb295,1,none⟩ (.slice Ao30 y301.length co30)) = w32 at n0_ n1_ n2_ n3_ n4_ n5_ n6_ ⊢
     have HO_296001:=n0_
     have HO303:=n1_
     have BK294:=n2_
     have BK295:=n3_
     have HI0:=n4_
     have HK:=n5_
     have HB:=n6_
     clear n0_ n1_ n2_ n3_ n4_ n5_ n6_
     have n0_:=qA.mk (Kd.zC HO_296001.out)
     have n1_:=qA.mk (Kd.zC HO303.out)
     have n2_:=qA.mk (qI BK294.out)
     have n3_:=qA.mk (qI BK295.out)
     have n4_:=qA.mk (qC.drew HI0.out)
     have n5_:=qA.mk (qR HK.out)
     have n6_:=qA.mk (qG HB.out)
     clear HO_296001
     clear HO303
     clear BK294
     clear BK295
     clear HI0
     clear HK
     clear HB
     have HO_296001:=n0_
     have HO303:=n1_
     have BK294:=n2_
     have BK295:=n3_
     have HI0:=n4_
     have HK:=n5_
     have HB:=n6_
     clear n0_ n1_ n2_ n3_ n4_ n5_ n6_
     refine start_ (n:=17) (S:=fun w'=>w'.cell? ⟨gb295,0,none⟩ = some (.int .i64 0)∧w'.cell? ⟨gb295,1,none⟩ = some (.slice Ao30 y301.length co30)∧w'.cell? ⟨gb295,2,none⟩ = some (.slice none 0 0)) (ds:=[16]) #[false,false,false,false,false,false,false,false,false,false,false,false,false,false,false,false,false] (by kernel_rfl) rfl rfl ⟨(qK BK295.out 0).trans rfl,(qK BK295.out 1).trans rfl,(qK BK295.out 2).trans rfl⟩ (fun hHeld=>?_);refine kK zY.tab9 zY.bits9 (fun HT_ HW_=>?_)
     generalize w32.drew = w33 at HO_296001 HO303 BK294 BK295 HI0 HK HB hHeld ⊢
     refine jQ (i:=0) (N:=some 28) (v:=?_) (a':=?_) #[true,false,false,false,false,false,false,false,false,false,false,false,false,false,false,false,false] rfl rfl (zX HT_.out (by kernel_rfl)) (fun _ _ _ h=>h) (Or.inl ⟨by rfl,?_⟩) ?_ ?_
     rotate_left
     ·intro w'
      go_simp
      with_reducible rfl
     rotate_left
     ·simp only [Act.put,List.setIfInBounds_toArray,List.set_cons_zero,List.set_cons_succ,zT,zW]
      rfl
     refine jQ (i:=3) (N:=some 31) (v:=?_) (a':=?_) #[true,false,false,true,false,false,false,false,false,false,false,false,false,false,false,false,false] rfl rfl (zX HT_.out (by kernel_rfl)) (fun _ _ _ h=>h) (Or.inl ⟨by rfl,?_⟩) ?_ ?_
     rotate_left
     ·intro w'
      go_simp
      with_reducible rfl
     rotate_left
     ·simp only [Act.put,List.setIfInBounds_toArray,List.set_cons_zero,List.set_cons_succ,zT,zW]
      rfl
     refine jQ (i:=9) (N:=some 37) (v:=?_) (a':=?_) #[true,false,false,true,false,false,false,false,false,true,false,false,false,false,false,false,false] rfl rfl (zX HT_.out (by kernel_rfl)) (fun _ _ _ h=>h) (Or.inl ⟨by rfl,?_⟩) ?_ ?_
     rotate_left
     ·intro w'
      go_simp
      with_reducible rfl
     rotate_left
     ·simp only [Act.put,List.setIfInBounds_toArray,List.set_cons_zero,List.set_cons_succ,zT,zW]
      rfl
     refine uQ (i:=1) (N:=some 29) (v:=?_) (a':=?_) #[true,true,false,true,false,false,false,false,false,true,false,false,false,false,false,false,false] rfl rfl (vV HT_.out HW_.out (by kernel_rfl)) (fun _ _ _ h=>h) (Or.inl ⟨by rfl,?_⟩) hHeld ?_ ?_
     rotate_left
     ·rintro w' ⟨s0,s1,s2⟩
      go_simp
      with_reducible rfl
     rotate_left
     ·simp only [Act.put,List.setIfInBounds_toArray,List.set_cons_zero,List.set_cons_succ,zT,zW]
      rfl
     refine jQ (i:=2) (N:=some 30) (v:=?_) (a':=?_) #[true,true,true,true,false,false,false,false,false,true,false,false,false,false,false,false,false] rfl rfl (zX HT_.out (by kernel_rfl)) (fun _ _ _ h=>h) (Or.inl ⟨by rfl,?_⟩) ?_ ?_
     rotate_left
     ·intro w'
      go_simp
      with_reducible rfl
     rotate_left
     ·simp only [Act.put,List.setIfInBounds_toArray,List.set_cons_zero,List.set_cons_succ,zT,zW]
      rfl
     refine uQ (i:=4) (N:=some 32) (v:=?_) (a':=?_) #[true,true,true,true,true,false,false,false,false,true,false,false,false,false,false,false,false] rfl rfl (vV HT_.out HW_.out (by kernel_rfl)) (fun _ _ _ h=>h) (Or.inl ⟨by rfl,?_⟩) hHeld ?_ ?_
     rotate_left
     ·rintro w' ⟨s0,s1,s2⟩
      go_simp
      with_reducible rfl
     rotate_left
     ·simp only [Act.put,List.setIfInBounds_toArray,List.set_cons_zero,List.set_cons_succ,zT,zW]
      rfl
     refine jQ (i:=5) (N:=some 33) (v:=?_) (a':=?_) #[true,true,true,true,true,true,false,false,false,true,false,false,false,false,false,false,false] rfl rfl (zX HT_.out (by kernel_rfl)) (fun _ _ _ h=>h) (Or.inl ⟨by rfl,?_⟩) ?_ ?_
     rotate_left
     ·intro w'
      go_simp
      with_reducible rfl
     rotate_left
     ·simp only [Act.put,List.setIfInBounds_toArray,List.set_cons_zero,List.set_cons_succ,zT,zW]
      rfl
     refine jQ (i:=6) (N:=some 34) (v:=?_) (a':=?_) #[true,true,true,true,true,true,true,false,false,true,false,false,false,false,false,false,false] rfl rfl (zX HT_.out (by kernel_rfl)) (fun _ _ _ h=>h) (Or.inl ⟨by rfl,?_⟩) ?_ ?_
     rotate_left
     ·intro w'
      go_simp
      with_reducible rfl
     rotate_left
     ·simp only [Act.put,List.setIfInBounds_toArray,List.set_cons_zero,List.set_cons_succ,zT,zW]
      rfl
     refine jQ (i:=7) (N:=some 35) (v:=?_) (a':=?_) #[true,true,true,true,true,true,true,true,false,true,false,false,false,false,false,false,false] rfl rfl (zX HT_.out (by kernel_rfl)) (fun _ _ _ h=>h) (Or.inl ⟨by rfl,?_⟩) ?_ ?_
     rotate_left
     ·intro w'
      go_simp
      with_reducible rfl
     rotate_left
     ·simp only [Act.put,List.setIfInBounds_toArray,List.set_cons_zero,List.set_cons_succ,zT,zW]
      rfl
     refine jQ (i:=8) (N:=some 36) (v:=?_) (a':=?_) #[true,true,true,true,true,true,true,true,true,true,false,false,false,false,false,false,false] rfl rfl (zX HT_.out (by kernel_rfl)) (fun _ _ _ h=>h) (Or.inl ⟨by rfl,?_⟩) ?_ ?_
     rotate_left
     ·intro w'
      go_simp
      with_reducible rfl
     rotate_left
     ·simp only [Act.put,List.setIfInBounds_toArray,List.set_cons_zero,List.set_cons_succ,zT,zW]
      rfl
     refine one_ (i:=10) (N:=some 38) #[true,true,true,true,true,true,true,true,true,true,true,false,false,false,false,false,false] rfl rfl (uA HT_.out (by kernel_rfl)) (by decide) (fun K hK=>?_)
     refine Kd.R_lit_step (Kd.int .i64) _ 3 ?hg (N:=38) ?hd (xs:=([0,0,0,1,(-1)] : List Int)) (inner:=[.int .i64 0,.int .i64 0,.int .i64 0,.int .i64 1,.int .i64 (-1)]) (ok:=fun _=>True) (okp:=fun _=>True) ?hr ?hp (fun _ hk=>hk) trivial (Below.refl _ _) (Nat.le_refl _) (by simp) ?_;(case hd=>rfl);(case hg=>rfl);(case hr=>first|(go_simp;done)|(go_simp;rfl));(case hp=>exact (Reps.one (show Kd.M (Kd.int .i64) _ _ _ 0 [.int .i64 0] from rfl) (Reps.one (show Kd.M (Kd.int .i64) _ _ _ 0 [.int .i64 0] from rfl) (Reps.one (show Kd.M (Kd.int .i64) _ _ _ 0 [.int .i64 0] from rfl) (Reps.one (show Kd.M (Kd.int .i64) _ _ _ 1 [.int .i64 1] from rfl) (Reps.one (show Kd.M (Kd.int .i64) _ _ _ (-1) [.int .i64 (-1)] from rfl) (Reps.none _ _)))))))
     intro v305 w34 ho35 hb hg_ hnew_
     clear hg_ hnew_
     (first|rw [← Ny304.out] at ho35|(simp only [Int.reduceToNat] at ho35;rw [← Ny304.out] at ho35))
     have n0_:=qA.mk (Kd.uH (by (with_reducible repeat (first|apply Kd.qX|apply Kd.qW|apply Kd.zC));exact HO_296001.out) (Kd.vG ho35) hb)
     have n1_:=qA.mk (Kd.uH (by (with_reducible repeat (first|apply Kd.qX|apply Kd.qW|apply Kd.zC));exact HO303.out) (Kd.vG ho35) hb)
     have n2_:=qA.mk (Kd.vL (Kd.uX (Kd.uX ho35 (Kd.R_lt (by (with_reducible repeat (first|apply Kd.qX|apply Kd.qW|apply Kd.zC));exact HO_296001.out))) (Kd.R_lt (by (with_reducible repeat (first|apply Kd.qX|apply Kd.qW|apply Kd.zC));exact HO303.out))) (jG (w:=w) (g:=g) (row:=none) (by repeat (first|(with_reducible first|exact HK.out|apply qL.set_|apply qP|apply qR|apply qO|refine qM ?_ GW294.out _|refine qM ?_ GW295.out _)|exact HK.out))))
     have n3_:=qA.mk (zD (g:=gb294) (o:=.cells #[.int .i64 0,.slice none 0 0,.slice none 0 0] 49 (0,0)) (by (with_reducible repeat (first|refine qF ?_ _|refine qI ?_|refine qE ?_ _));exact BK294.out) hb)
     have n4_:=qA.mk (zD (g:=gb295) (o:=.cells #[.int .i64 0,.slice Ao30 y301.length co30,.slice none 0 0] 49 (0,0)) (by (with_reducible repeat (first|refine qF ?_ _|refine qI ?_|refine qE ?_ _));exact BK295.out) hb)
     have n5_:=qA.mk (qC.below (by repeat (first|(with_reducible first|exact HI0.out|apply qC.alloc|apply qC.drewN|apply qC.drew|apply qC.zM|refine qC.far ?_ NB0_294.out _|refine qC.far ?_ NB0_295.out _)|exact HI0.out)) hb)
     have n6_:=qA.mk (qL.trans (by repeat (first|(with_reducible first|exact HK.out|apply qL.set_|apply qP|apply qR|apply qO|refine qM ?_ GW294.out _|refine qM ?_ GW295.out _)|exact HK.out)) (qL.of_below hb g none) (.inl rfl))
     have n7_:=qA.mk (qN (by repeat (first|(with_reducible first|exact HB.out|apply qH|apply qB|apply qG|refine qD ?_ (qC.ge HI0.out)|refine qD ?_ GE294.out|refine qD ?_ GE295.out)|exact HB.out)) hb)
     clear HO_296001
     clear HO303
     clear BK294
     clear BK295
     clear HI0
     clear HK
     clear HB
     have HO_296001:=n0_
     have HO303:=n1_
     have HO306:=n2_
     have BK294:=n3_
     have BK295:=n4_
     have HI0:=n5_
     have HK:=n6_
     have HB:=n7_
     clear n0_ n1_ n2_ n3_ n4_ n5_ n6_ n7_
     clear hb ho35
     obtain ⟨Ao36,co36,eo36⟩:=Kd.j4 HO306.out
     (first|subst eo36|(injection eo36 with f1_ f2_ f3_;have f4_:=f1_.symm;have f5_:=f3_.symm;clear f1_ f2_ f3_;subst f4_;subst f5_))
     refine hK.out _ _ ⟨(qK BK295.out 0).trans rfl,(qK BK295.out 1).trans rfl,(qK BK295.out 2).trans rfl⟩ (fun hHeld=>?_)
     clear hK K
     refine uU (a':=?_) ?_ ?_
     rotate_left
     ·show Act.put _ (some 38) _ = _
      simp only [Act.put,List.setIfInBounds_toArray,List.set_cons_zero,List.set_cons_succ,zT,zW]
      rfl
     refine one_ (i:=11) (N:=some 39) #[true,true,true,true,true,true,true,true,true,true,true,true,false,false,false,false,false] rfl rfl (uA HT_.out (by kernel_rfl)) (by decide) (fun K hK=>?_)
     refine kI Try.func34 (by kernel_rfl) rfl #[.pointer (some ⟨g,0,none⟩),.slice Ao36 y304.length co36] (by rfl) rfl rfl (by (try simp only [List.map_toArray,List.map_cons,List.map_nil]);first|done|rfl|(simp only [List.length_drop,List.length_take];rfl)|(simp only [List.length_nil,Int.natCast_zero,Int.zero_add,Int.ofNat_zero];rfl)) ?_
     with_reducible refine (jW.calls g s0_0 x1001_1 _ _ y304 t307 t308 w0 _ ?side1 ?side2 ?side3 ?side4 ?side5 A21.out).mono ?_
     (case side1=>repeat (first|(with_reducible first|exact HI0.out|apply qC.alloc|apply qC.drewN|apply qC.drew|apply qC.zM|refine qC.far ?_ NB0_294.out _|refine qC.far ?_ NB0_295.out _)|exact HI0.out))
     (case side2=>repeat (first|(with_reducible first|exact HB.out|apply qH|apply qB|apply qG|refine qD ?_ (qC.ge HI0.out)|refine qD ?_ GE294.out|refine qD ?_ GE295.out)|exact HB.out))
     (case side3=>repeat (first|exact (Kd.jZ HO306.out).2.2|(with_reducible refine Kd.jK ?_ _)|(with_reducible refine Kd.jJ ?_ _)|(with_reducible refine Kd.jV ?_)))
     (case side4=>exact (Kd.jZ HO306.out).2.1)
     (case side5=>exact far_slice (qC.own_ne HI0.out HO306.out (by decide)))
     rintro e w37 ⟨rfl,hi,hb,hk⟩
     refine ⟨_,rfl,?_⟩
     have n0_:=qA.mk (Kd.zN (Kd.vO (qC.apart (show qC w0 _ g s0_0 x1001_1 from by repeat (first|(with_reducible first|exact HI0.out|apply qC.alloc|apply qC.drewN|apply qC.drew|apply qC.zM|refine qC.far ?_ NB0_294.out _|refine qC.far ?_ NB0_295.out _)|exact HI0.out)) (by (with_reducible repeat (first|apply Kd.qX|apply Kd.qW|apply Kd.zC));exact HO_296001.out) (by decide)) hk (fun _ h=>h.2)) (fun _ h=>h.1))
     have n1_:=qA.mk (qL.blk hk (g':=gb294) (o:=.cells #[.int .i64 0,.slice none 0 0,.slice none 0 0] 49 (0,0)) (by (with_reducible repeat (first|refine qF ?_ _|refine qI ?_|refine qE ?_ _));exact BK294.out) NB294_0.out (by simp))
     have n2_:=qA.mk (qL.blk hk (g':=gb295) (o:=.cells #[.int .i64 0,.slice Ao30 y301.length co30,.slice none 0 0] 49 (0,0)) (by (with_reducible repeat (first|refine qF ?_ _|refine qI ?_|refine qE ?_ _));exact BK295.out) NB295_0.out (by simp))
     have n3_:=qA.mk (Kd.zN (Kd.vO (qC.apart (show qC w0 _ g s0_0 x1001_1 from by repeat (first|(with_reducible first|exact HI0.out|apply qC.alloc|apply qC.drewN|apply qC.drew|apply qC.zM|refine qC.far ?_ NB0_294.out _|refine qC.far ?_ NB0_295.out _)|exact HI0.out)) (by (with_reducible repeat (first|apply Kd.qX|apply Kd.qW|apply Kd.zC));exact HO303.out) (by decide)) hk (fun _ h=>h.2)) (fun _ h=>h.1))
     have n4_:=qA.mk (Kd.zN (Kd.vO (qC.apart (show qC w0 _ g s0_0 x1001_1 from by repeat (first|(with_reducible first|exact HI0.out|apply qC.alloc|apply qC.drewN|apply qC.drew|apply qC.zM|refine qC.far ?_ NB0_294.out _|refine qC.far ?_ NB0_295.out _)|exact HI0.out)) (by (with_reducible repeat (first|apply Kd.qX|apply Kd.qW|apply Kd.zC));exact HO306.out) (by decide)) hk (fun _ h=>h.2)) (fun _ h=>h.1))
     have n5_:=qA.mk (qL.trans (by repeat (first|(with_reducible first|exact HK.out|apply qL.set_|apply qP|apply qR|apply qO|refine qM ?_ GW294.out _|refine qM ?_ GW295.out _)|exact HK.out)) hk (.inl rfl))
     have n6_:=qA.mk (hb)
     have n7_:=qA.mk (hi)
     clear HO_296001
     clear BK294
     clear BK295
     clear HO303
     clear HO306
     clear HK
     clear HB
     clear HI0
     have HO_296001:=n0_
     have BK294:=n1_
     have BK295:=n2_
     have HO303:=n3_
     have HO306:=n4_
     have HK:=n5_
     have HB:=n6_
     have HI0:=n7_
     clear n0_ n1_ n2_ n3_ n4_ n5_ n6_ n7_
     (try clear hb)
     (try clear hb2)
     (try clear hk)
     (try clear hi)
     refine hK.out _ _ ⟨(qK BK295.out 0).trans rfl,(qK BK295.out 1).trans rfl,(qK BK295.out 2).trans rfl⟩ (fun hHeld=>?_)
     clear hK K
     refine uU (a':=?_) ?_ ?_
     rotate_left
     ·show Act.put _ (some 39) _ = _
      simp only [Act.put,List.setIfInBounds_toArray,List.set_cons_zero,List.set_cons_succ,zT,zW]
      rfl
     refine jQ (i:=12) (N:=some 40) (v:=?_) (a':=?_) #[true,true,true,true,true,true,true,true,true,true,true,true,true,false,false,false,false] rfl rfl (zX HT_.out (by kernel_rfl)) (fun _ _ _ h=>h) (Or.inl ⟨by rfl,?_⟩) ?_ ?_
     rotate_left
     ·intro w'
      go_simp
      with_reducible rfl
     rotate_left
     ·simp only [Act.put,List.setIfInBounds_toArray,List.set_cons_zero,List.set_cons_succ,zT,zW]
      rfl
     refine jQ (i:=13) (N:=some 41) (v:=?_) (a':=?_) #[true,true,true,true,true,true,true,true,true,true,true,true,true,true,false,false,false] rfl rfl (zX HT_.out (by kernel_rfl)) (fun _ _ _ h=>h) (Or.inl ⟨by rfl,?_⟩) ?_ ?_
     rotate_left
     ·intro w'
      go_simp
      with_reducible rfl
     rotate_left
     ·simp only [Act.put,List.setIfInBounds_toArray,List.set_cons_zero,List.set_cons_succ,zT,zW]
      rfl
     refine jQ (i:=14) (N:=some 42) (v:=?_) (a':=?_) #[true,true,true,true,true,true,true,true,true,true,true,true,true,true,true,false,false] rfl rfl (zX HT_.out (by kernel_rfl)) (fun _ _ _ h=>h) (Or.inl ⟨by rfl,?_⟩) ?_ ?_
     rotate_left
     ·intro w'
      go_simp
      with_reducible rfl
     rotate_left
     ·simp only [Act.put,List.setIfInBounds_toArray,List.set_cons_zero,List.set_cons_succ,zT,zW]
      rfl
     refine jQ (i:=15) (N:=some 43) (v:=?_) (a':=?_) #[true,true,true,true,true,true,true,true,true,true,true,true,true,true,true,true,false] rfl rfl (zX HT_.out (by kernel_rfl)) (fun _ _ _ h=>h) (Or.inl ⟨by rfl,?_⟩) ?_ ?_
     rotate_left
     ·intro w'
      go_simp
      with_reducible rfl
     rotate_left
     ·simp only [Act.put,List.setIfInBounds_toArray,List.set_cons_zero,List.set_cons_succ,zT,zW]
      rfl
     refine last_ (i:=16) (N:=none) #[true,true,true,true,true,true,true,true,true,true,true,true,true,true,true,true,true] rfl rfl (uA HT_.out (by kernel_rfl)) (by decide) (fun K hK=>?_)
     have hs38 : w37.cell? ⟨gb295,0,none⟩ = some (.int .i64 0):=(qK BK295.out 0).trans rfl
     have hfs38:=qJ BK295.out 0
     have hns38_0:=NB294_295.out
     have hms38_0:=NB295_294.out
     refine skip_ (w1:=?_) (by rfl) rfl ?_ ?_
     rotate_left
     ·go_simp
      rfl
     refine hK.out _ _ ?_
     clear hK K
     refine done_ (done_of HT_.out (by kernel_rfl)) ?_
     have hcz39_0 : w37.cell? ⟨gb295,0,none⟩ = some (.int .i64 0):=(qK BK295.out 0).trans rfl
     have hcz39_1 : w37.cell? ⟨gb295,1,none⟩ = some (.slice Ao30 y301.length co30):=(qK BK295.out 1).trans rfl
     have hcz39_2 : w37.cell? ⟨gb295,2,none⟩ = some (.slice none 0 0):=(qK BK295.out 2).trans rfl
     have hfz39_0:=qJ BK295.out 0
     have hfz39_1:=qJ BK295.out 1
     have hfz39_2:=qJ BK295.out 2
     have hnb40:=NB294_0.out
     have hnc40:=NB0_294.out
     have hcz41_0 : w37.cell? ⟨gb294,0,none⟩ = some (.int .i64 0):=(qK BK294.out 0).trans rfl
     have hcz41_1 : w37.cell? ⟨gb294,1,none⟩ = some (.slice none 0 0):=(qK BK294.out 1).trans rfl
     have hcz41_2 : w37.cell? ⟨gb294,2,none⟩ = some (.slice none 0 0):=(qK BK294.out 2).trans rfl
     have hfz41_0:=qJ BK294.out 0
     have hfz41_1:=qJ BK294.out 1
     have hfz41_2:=qJ BK294.out 2
     try go_wp2
     refine bodyPost_ret (results_cell_row rfl _ _ gb294 49 #[.int .i64 ji23,.slice Ao30 y301.length co30,.slice none 0 0] (0,0) _ rfl (by (with_reducible repeat (first|refine qF ?_ _|refine qI ?_|refine qE ?_ _));refine zV (cs:=#[.int .i64 ji23,.slice Ao30 y301.length co30,.slice none 0 0]) ?_ 2 _ rfl;(with_reducible repeat (first|refine qF ?_ _|refine qI ?_|refine qE ?_ _));refine zV (cs:=#[.int .i64 ji23,.slice none 0 0,.slice none 0 0]) ?_ 1 _ rfl;(with_reducible repeat (first|refine qF ?_ _|refine qI ?_|refine qE ?_ _));refine zV (cs:=#[.int .i64 0,.slice none 0 0,.slice none 0 0]) ?_ 0 _ rfl;(with_reducible repeat (first|refine qF ?_ _|refine qI ?_|refine qE ?_ _));refine zU ?_ NB294_295.out _;(with_reducible repeat (first|refine qF ?_ _|refine qI ?_|refine qE ?_ _));exact BK294.out) Try.underlying49 rfl (by kernel_rfl)) rfl ?_
     exact ⟨_,_,by first|rfl|(simp [zK,zJ]<;>rfl)|(simp only [← hji22,← hji23];first|rfl|(simp [zK,zJ]<;>rfl))|(simp [*,zK,zJ]<;>rfl),by (with_reducible repeat (first|apply Kd.qX|apply Kd.qW|apply Kd.zC));exact Kd.zN (Kd.jE (p:=⟨gb294,2,none⟩) (Kd.jE (p:=⟨gb294,1,none⟩) (Kd.jE (p:=⟨gb294,0,none⟩) (Kd.jE (p:=⟨gb295,0,none⟩) (Kd.jY (Kd.jY HO303.out BK295.out (by decide)) BK294.out (by decide)) (fun _ hk=>hk.1.2) (.int .i64 ji23)) (fun _ hk=>hk.2) (.int .i64 ji23)) (fun _ hk=>hk.2) (.slice Ao30 y301.length co30)) (fun _ hk=>hk.2) (.slice none 0 0)) (fun _ hk=>trivial),by first|exact Kd.uT _ _ _ _ _|exact Kd.N_nil _ _ _ _ _|exact Kd.V_nil _ _ _ _ _|exact Kd.Q_nil _ _ _ _ _|exact Kd.S_nil _ _ _ _ _,by repeat (first|(with_reducible first|exact HI0.out|apply qC.alloc|apply qC.drewN|apply qC.drew|apply qC.zM|refine qC.far ?_ NB0_294.out _|refine qC.far ?_ NB0_295.out _)|exact HI0.out),by repeat (first|(with_reducible first|exact HB.out|apply qH|apply qB|apply qG|refine qD ?_ (qC.ge HI0.out)|refine qD ?_ GE294.out|refine qD ?_ GE295.out)|exact HB.out),by repeat (first|(with_reducible first|exact HK.out|apply qL.set_|apply qP|apply qR|apply qO|refine qM ?_ GW294.out _|refine qM ?_ GW295.out _)|exact HK.out)⟩
    ·rw [if_neg c20] at H
     have c20b0 : ((x296001_1.length : Int) == 0) = false:=beq_eq_false_iff_ne.mpr c20
     have c20b1 : ((x296001_1.length : Int) != 0) = true:=bne_iff_ne.mpr c20
     have c20b2 : ¬ (x296001_1 = []):=fun h_=>c20 (by rw [h_];rfl)
     obtain ⟨y309,hy309⟩ : ∃ y_ : List Int,y_ = (([0,0,0,1,(-1)] : List Int)):=⟨_,rfl⟩
     replace H : ((jW.f s0_0 x1001_1 y309).bind fun bt312=>(some (mn (x296001_1.length : Int) (mx 1 (wrap64 ((wrap64 (Int.tdiv (wrap64 ((wrap64 (2 * (x296001_1.length : Int))) + 2)) 3)) + bt312.1))),x296001_1,([] : List (S49)),bt312.2))) = some (r1,r2,r3,r4):=by first|(rw [hy309];with_reducible exact H)|(have H2_:=(Option.bind_some _ _).symm.trans H;rw [hy309];with_reducible exact H2_)|(have H2_:=(Option.bind_some _ _).symm.trans H;with_reducible exact H2_)|with_reducible exact H|(rw [hy309];exact H)|exact H
     have Ny309:=qA.mk hy309
     clear hy309
     replace H:=Option.bind_eq_some_iff.mp H
     obtain ⟨⟨t312,t313⟩,A420,H⟩:=H
     replace H : (some (mn (x296001_1.length : Int) (mx 1 (wrap64 ((wrap64 (Int.tdiv (wrap64 ((wrap64 (2 * (x296001_1.length : Int))) + 2)) 3)) + t312))),x296001_1,([] : List (S49)),t313)) = some (r1,r2,r3,r4):=H
     have A42:=qA.mk A420
     clear A420
     obtain ⟨ji43,hji43⟩ : ∃ j_ : Int,(mx 1 (wrap64 ((wrap64 (Int.tdiv (wrap64 ((wrap64 (2 * (x296001_1.length : Int))) + 2)) 3)) + t312))) = j_:=⟨_,rfl⟩
     replace H : (some (mn (x296001_1.length : Int) (ji43),x296001_1,([] : List (S49)),t313)) = some (r1,r2,r3,r4):=by first|(rw [hji43] at H;exact H)|(simp only [hji43] at H ⊢;exact H)
     (try rw [hji43] at A42)
     have hji43_ : (if 1 < (wrap64 ((wrap64 (Int.tdiv (wrap64 ((wrap64 (2 * (x296001_1.length : Int))) + 2)) 3)) + t312)) then (wrap64 ((wrap64 (Int.tdiv (wrap64 ((wrap64 (2 * (x296001_1.length : Int))) + 2)) 3)) + t312)) else 1) = ji43:=hji43
     obtain ⟨ji44,hji44⟩ : ∃ j_ : Int,(mn (x296001_1.length : Int) (ji43)) = j_:=⟨_,rfl⟩
     replace H : (some (ji44,x296001_1,([] : List (S49)),t313)) = some (r1,r2,r3,r4):=by first|(rw [hji44] at H;exact H)|(simp only [hji44] at H ⊢;exact H)
     (try rw [hji44] at A42)
     have hji44_ : (if (ji43) < (x296001_1.length : Int) then (ji43) else (x296001_1.length : Int)) = ji44:=hji44
     simp only [Option.some.injEq,Prod.mk.injEq] at H
     obtain ⟨rfl,rfl,rfl,rfl⟩:=H
     have hnb45:=NB295_294.out
     have hnc45:=NB294_295.out
     have hnb46:=NB295_0.out
     have hnc46:=NB0_295.out
     have hcz47_0 : wr.cell? ⟨gb295,0,none⟩ = some (.int .i64 0):=(qK BK295.out 0).trans rfl
     have hcz47_1 : wr.cell? ⟨gb295,1,none⟩ = some (u296001):=(qK BK295.out 1).trans rfl
     have hcz47_2 : wr.cell? ⟨gb295,2,none⟩ = some (.slice none 0 0):=(qK BK295.out 2).trans rfl
     have hfz47_0:=qJ BK295.out 0
     have hfz47_1:=qJ BK295.out 1
     have hfz47_2:=qJ BK295.out 2
     obtain ⟨Ao48,co48,eo48⟩:=Kd.j4 HO_296001.out
     subst eo48
     try go_wp2
     have n0_:=qA.mk (Kd.zC HO_296001.out)
     have n1_:=qA.mk (qI BK294.out)
     have n2_:=qA.mk (qI BK295.out)
     have n3_:=qA.mk (qC.drew HI0.out)
     have n4_:=qA.mk (qR HK.out)
     have n5_:=qA.mk (qG HB.out)
     clear HO_296001
     clear BK294
     clear BK295
     clear HI0
     clear HK
     clear HB
     have HO_296001:=n0_
     have BK294:=n1_
     have BK295:=n2_
     have HI0:=n3_
     have HK:=n4_
     have HB:=n5_
     clear n0_ n1_ n2_ n3_ n4_ n5_
     refine start_ (n:=17) (S:=fun w'=>w'.cell? ⟨gb295,0,none⟩ = some (.int .i64 0)∧w'.cell? ⟨gb295,1,none⟩ = some (.slice Ao48 x296001_1.length co48)∧w'.cell? ⟨gb295,2,none⟩ = some (.slice none 0 0)) (ds:=[16]) #[false,false,false,false,false,false,false,false,false,false,false,false,false,false,false,false,false] (by kernel_rfl) rfl rfl ⟨(qK BK295.out 0).trans rfl,(qK BK295.out 1).trans rfl,(qK BK295.out 2).trans rfl⟩ (fun hHeld=>?_);refine kK zY.tab9 zY.bits9 (fun HT_ HW_=>?_)
     generalize wr.drew = w49 at HO_296001 BK294 BK295 HI0 HK HB hHeld ⊢
     refine jQ (i:=0) (N:=some 28) (v:=?_) (a':=?_) #[true,false,false,false,false,false,false,false,false,false,false,false,false,false,false,false,false] rfl rfl (zX HT_.out (by kernel_rfl)) (fun _ _ _ h=>h) (Or.inl ⟨by rfl,?_⟩) ?_ ?_
     rotate_left
     ·intro w'
      go_simp
      with_reducible rfl
     rotate_left
     ·simp only [Act.put,List.setIfInBounds_toArray,List.set_cons_zero,List.set_cons_succ,zT,zW]
      rfl
     refine jQ (i:=3) (N:=some 31) (v:=?_) (a':=?_) #[true,false,false,true,false,false,false,false,false,false,false,false,false,false,false,false,false] rfl rfl (zX HT_.out (by kernel_rfl)) (fun _ _ _ h=>h) (Or.inl ⟨by rfl,?_⟩) ?_ ?_
     rotate_left
     ·intro w'
      go_simp
      with_reducible rfl
     rotate_left
     ·simp only [Act.put,List.setIfInBounds_toArray,List.set_cons_zero,List.set_cons_succ,zT,zW]
      rfl
     refine jQ (i:=9) (N:=some 37) (v:=?_) (a':=?_) #[true,false,false,true,false,false,false,false,false,true,false,false,false,false,false,false,false] rfl rfl (zX HT_.out (by kernel_rfl)) (fun _ _ _ h=>h) (Or.inl ⟨by rfl,?_⟩) ?_ ?_
     rotate_left
     ·intro w'
      go_simp
      with_reducible rfl
     rotate_left
     ·simp only [Act.put,List.setIfInBounds_toArray,List.set_cons_zero,List.set_cons_succ,zT,zW]
      rfl
     refine uQ (i:=1) (N:=some 29) (v:=?_) (a':=?_) #[true,true,false,true,false,false,false,false,false,true,false,false,false,false,false,false,false] rfl rfl (vV HT_.out HW_.out (by kernel_rfl)) (fun _ _ _ h=>h) (Or.inl ⟨by rfl,?_⟩) hHeld ?_ ?_
     rotate_left
     ·rintro w' ⟨s0,s1,s2⟩
      go_simp
      with_reducible rfl
     rotate_left
     ·simp only [Act.put,List.setIfInBounds_toArray,List.set_cons_zero,List.set_cons_succ,zT,zW]
      rfl
     refine jQ (i:=2) (N:=some 30) (v:=?_) (a':=?_) #[true,true,true,true,false,false,false,false,false,true,false,false,false,false,false,false,false] rfl rfl (zX HT_.out (by kernel_rfl)) (fun _ _ _ h=>h) (Or.inl ⟨by rfl,?_⟩) ?_ ?_
     rotate_left
     ·intro w'
      go_simp
      with_reducible rfl
     rotate_left
     ·simp only [Act.put,List.setIfInBounds_toArray,List.set_cons_zero,List.set_cons_succ,zT,zW]
      rfl
     refine uQ (i:=4) (N:=some 32) (v:=?_) (a':=?_) #[true,true,true,true,true,false,false,false,false,true,false,false,false,false,false,false,false] rfl rfl (vV HT_.out HW_.out (by kernel_rfl)) (fun _ _ _ h=>h) (Or.inl ⟨by rfl,?_⟩) hHeld ?_ ?_
     rotate_left
     ·rintro w' ⟨s0,s1,s2⟩
      go_simp
      with_reducible rfl
     rotate_left
     ·simp only [Act.put,List.setIfInBounds_toArray,List.set_cons_zero,List.set_cons_succ,zT,zW]
      rfl
     refine jQ (i:=5) (N:=some 33) (v:=?_) (a':=?_) #[true,true,true,true,true,true,false,false,false,true,false,false,false,false,false,false,false] rfl rfl (zX HT_.out (by kernel_rfl)) (fun _ _ _ h=>h) (Or.inl ⟨by rfl,?_⟩) ?_ ?_
     rotate_left
     ·intro w'
      go_simp
      with_reducible rfl
     rotate_left
     ·simp only [Act.put,List.setIfInBounds_toArray,List.set_cons_zero,List.set_cons_succ,zT,zW]
      rfl
     refine jQ (i:=6) (N:=some 34) (v:=?_) (a':=?_) #[true,true,true,true,true,true,true,false,false,true,false,false,false,false,false,false,false] rfl rfl (zX HT_.out (by kernel_rfl)) (fun _ _ _ h=>h) (Or.inl ⟨by rfl,?_⟩) ?_ ?_
     rotate_left
     ·intro w'
      go_simp
      with_reducible rfl
     rotate_left
     ·simp only [Act.put,List.setIfInBounds_toArray,List.set_cons_zero,List.set_cons_succ,zT,zW]
      rfl
     refine jQ (i:=7) (N:=some 35) (v:=?_) (a':=?_) #[true,true,true,true,true,true,true,true,false,true,false,false,false,false,false,false,false] rfl rfl (zX HT_.out (by kernel_rfl)) (fun _ _ _ h=>h) (Or.inl ⟨by rfl,?_⟩) ?_ ?_
     rotate_left
     ·intro w'
      go_simp
      with_reducible rfl
     rotate_left
     ·simp only [Act.put,List.setIfInBounds_toArray,List.set_cons_zero,List.set_cons_succ,zT,zW]
      rfl
     refine jQ (i:=8) (N:=some 36) (v:=?_) (a':=?_) #[true,true,true,true,true,true,true,true,true,true,false,false,false,false,false,false,false] rfl rfl (zX HT_.out (by kernel_rfl)) (fun _ _ _ h=>h) (Or.inl ⟨by rfl,?_⟩) ?_ ?_
     rotate_left
     ·intro w'
      go_simp
      with_reducible rfl
     rotate_left
     ·simp only [Act.put,List.setIfInBounds_toArray,List.set_cons_zero,List.set_cons_succ,zT,zW]
      rfl
     refine one_ (i:=10) (N:=some 38) #[true,true,true,true,true,true,true,true,true,true,true,false,false,false,false,false,false] rfl rfl (uA HT_.out (by kernel_rfl)) (by decide) (fun K hK=>?_)
     refine Kd.R_lit_step (Kd.int .i64) _ 3 ?hg (N:=38) ?hd (xs:=([0,0,0,1,(-1)] : List Int)) (inner:=[.int .i64 0,.int .i64 0,.int .i64 0,.int .i64 1,.int .i64 (-1)]) (ok:=fun _=>True) (okp:=fun _=>True) ?hr ?hp (fun _ hk=>hk) trivial (Below.refl _ _) (Nat.le_refl _) (by simp) ?_;(case hd=>rfl);(case hg=>rfl);(case hr=>first|(go_simp;done)|(go_simp;rfl));(case hp=>exact (Reps.one (show Kd.M (Kd.int .i64) _ _ _ 0 [.int .i64 0] from rfl) (Reps.one (show Kd.M (Kd.int .i64) _ _ _ 0 [.int .i64 0] from rfl) (Reps.one (show Kd.M (Kd.int .i64) _ _ _ 0 [.int .i64 0] from rfl) (Reps.one (show Kd.M (Kd.int .i64) _ _ _ 1 [.int .i64 1] from rfl) (Reps.one (show Kd.M (Kd.int .i64) _ _ _ (-1) [.int .i64 (-1)] from rfl) (Reps.none _ _)))))))
     intro v310 w50 ho51 hb hg_ hnew_
     clear hg_ hnew_
     (first|rw [← Ny309.out] at ho51|(simp only [Int.reduceToNat] at ho51;rw [← Ny309.out] at ho51))
     have n0_:=qA.mk (Kd.uH (by (with_reducible repeat (first|apply Kd.qX|apply Kd.qW|apply Kd.zC));exact HO_296001.out) (Kd.vG ho51) hb)
     have n1_:=qA.mk (Kd.vL (Kd.uX ho51 (Kd.R_lt (by (with_reducible repeat (first|apply Kd.qX|apply Kd.qW|apply Kd.zC));exact HO_296001.out))) (jG (w:=w) (g:=g) (row:=none) (by repeat (first|(with_reducible first|exact HK.out|apply qL.set_|apply qP|apply qR|apply qO|refine qM ?_ GW294.out _|refine qM ?_ GW295.out _)|exact HK.out))))
     have n2_:=qA.mk (zD (g:=gb294) (o:=.cells #[.int .i64 0,.slice none 0 0,.slice none 0 0] 49 (0,0)) (by (with_reducible repeat (first|refine qF ?_ _|refine qI ?_|refine qE ?_ _));exact BK294.out) hb)
     have n3_:=qA.mk (zD (g:=gb295) (o:=.cells #[.int .i64 0,.slice Ao48 x296001_1.length co48,.slice none 0 0] 49 (0,0)) (by (with_reducible repeat (first|refine qF ?_ _|refine qI ?_|refine qE ?_ _));exact BK295.out) hb)
     have n4_:=qA.mk (qC.below (by repeat (first|(with_reducible first|exact HI0.out|apply qC.alloc|apply qC.drewN|apply qC.drew|apply qC.zM|refine qC.far ?_ NB0_294.out _|refine qC.far ?_ NB0_295.out _)|exact HI0.out)) hb)
     have n5_:=qA.mk (qL.trans (by repeat (first|(with_reducible first|exact HK.out|apply qL.set_|apply qP|apply qR|apply qO|refine qM ?_ GW294.out _|refine qM ?_ GW295.out _)|exact HK.out)) (qL.of_below hb g none) (.inl rfl))
     have n6_:=qA.mk (qN (by repeat (first|(with_reducible first|exact HB.out|apply qH|apply qB|apply qG|refine qD ?_ (qC.ge HI0.out)|refine qD ?_ GE294.out|refine qD ?_ GE295.out)|exact HB.out)) hb)
     clear HO_296001
     clear BK294
     clear BK295
     clear HI0
     clear HK
     clear HB
     have HO_296001:=n0_
     have HO311:=n1_
     have BK294:=n2_
     have BK295:=n3_
     have HI0:=n4_
     have HK:=n5_
     have HB:=n6_
     clear n0_ n1_ n2_ n3_ n4_ n5_ n6_
     clear hb ho51
     obtain ⟨Ao52,co52,eo52⟩:=Kd.j4 HO311.out
     (first|subst eo52|(injection eo52 with f1_ f2_ f3_;have f4_:=f1_.symm;have f5_:=f3_.symm;clear f1_ f2_ f3_;subst f4_;subst f5_))
     refine hK.out _ _ ⟨(qK BK295.out 0).trans rfl,(qK BK295.out 1).trans rfl,(qK BK295.out 2).trans rfl⟩ (fun hHeld=>?_)
     clear hK K
     refine uU (a':=?_) ?_ ?_
     rotate_left
     ·show Act.put _ (some 38) _ = _
      simp only [Act.put,List.setIfInBounds_toArray,List.set_cons_zero,List.set_cons_succ,zT,zW]
      rfl
     refine one_ (i:=11) (N:=some 39) #[true,true,true,true,true,true,true,true,true,true,true,true,false,false,false,false,false] rfl rfl (uA HT_.out (by kernel_rfl)) (by decide) (fun K hK=>?_)
     refine kI Try.func34 (by kernel_rfl) rfl #[.pointer (some ⟨g,0,none⟩),.slice Ao52 y309.length co52] (by rfl) rfl rfl (by (try simp only [List.map_toArray,List.map_cons,List.map_nil]);first|done|rfl|(simp only [List.length_drop,List.length_take];rfl)|(simp only [List.length_nil,Int.natCast_zero,Int.zero_add,Int.ofNat_zero];rfl)) ?_
     with_reducible refine (jW.calls g s0_0 x1001_1 _ _ y309 t312 t313 w0 _ ?side1 ?side2 ?side3 ?side4 ?side5 A42.out).mono ?_
     (case side1=>repeat (first|(with_reducible first|exact HI0.out|apply qC.alloc|apply qC.drewN|apply qC.drew|apply qC.zM|refine qC.far ?_ NB0_294.out _|refine qC.far ?_ NB0_295.out _)|exact HI0.out))
     (case side2=>repeat (first|(with_reducible first|exact HB.out|apply qH|apply qB|apply qG|refine qD ?_ (qC.ge HI0.out)|refine qD ?_ GE294.out|refine qD ?_ GE295.out)|exact HB.out))
     (case side3=>repeat (first|exact (Kd.jZ HO311.out).2.2|(with_reducible refine Kd.jK ?_ _)|(with_reducible refine Kd.jJ ?_ _)|(with_reducible refine Kd.jV ?_)))
     (case side4=>exact (Kd.jZ HO311.out).2.1)
     (case side5=>exact far_slice (qC.own_ne HI0.out HO311.out (by decide)))
     rintro e w53 ⟨rfl,hi,hb,hk⟩
     refine ⟨_,rfl,?_⟩
     have n0_:=qA.mk (Kd.zN (Kd.vO (qC.apart (show qC w0 _ g s0_0 x1001_1 from by repeat (first|(with_reducible first|exact HI0.out|apply qC.alloc|apply qC.drewN|apply qC.drew|apply qC.zM|refine qC.far ?_ NB0_294.out _|refine qC.far ?_ NB0_295.out _)|exact HI0.out)) (by (with_reducible repeat (first|apply Kd.qX|apply Kd.qW|apply Kd.zC));exact HO_296001.out) (by decide)) hk (fun _ h=>h.2)) (fun _ h=>h.1))
     have n1_:=qA.mk (qL.blk hk (g':=gb294) (o:=.cells #[.int .i64 0,.slice none 0 0,.slice none 0 0] 49 (0,0)) (by (with_reducible repeat (first|refine qF ?_ _|refine qI ?_|refine qE ?_ _));exact BK294.out) NB294_0.out (by simp))
     have n2_:=qA.mk (qL.blk hk (g':=gb295) (o:=.cells #[.int .i64 0,.slice Ao48 x296001_1.length co48,.slice none 0 0] 49 (0,0)) (by (with_reducible repeat (first|refine qF ?_ _|refine qI ?_|refine qE ?_ _));exact BK295.out) NB295_0.out (by simp))
     have n3_:=qA.mk (Kd.zN (Kd.vO (qC.apart (show qC w0 _ g s0_0 x1001_1 from by repeat (first|(with_reducible first|exact HI0.out|apply qC.alloc|apply qC.drewN|apply qC.drew|apply qC.zM|refine qC.far ?_ NB0_294.out _|refine qC.far ?_ NB0_295.out _)|exact HI0.out)) (by (with_reducible repeat (first|apply Kd.qX|apply Kd.qW|apply Kd.zC));exact HO311.out) (by decide)) hk (fun _ h=>h.2)) (fun _ h=>h.1))
     have n4_:=qA.mk (qL.trans (by repeat (first|(with_reducible first|exact HK.out|apply qL.set_|apply qP|apply qR|apply qO|refine qM ?_ GW294.out _|refine qM ?_ GW295.out _)|exact HK.out)) hk (.inl rfl))
     have n5_:=qA.mk (hb)
     have n6_:=qA.mk (hi)
     clear HO_296001
     clear BK294
     clear BK295
     clear HO311
     clear HK
     clear HB
     clear HI0
     have HO_296001:=n0_
     have BK294:=n1_
     have BK295:=n2_
     have HO311:=n3_
     have HK:=n4_
     have HB:=n5_
     have HI0:=n6_
     clear n0_ n1_ n2_ n3_ n4_ n5_ n6_
     (try clear hb)
     (try clear hb2)
     (try clear hk)
     (try clear hi)
     refine hK.out _ _ ⟨(qK BK295.out 0).trans rfl,(qK BK295.out 1).trans rfl,(qK BK295.out 2).trans rfl⟩ (fun hHeld=>?_)
     clear hK K
     refine uU (a':=?_) ?_ ?_
     rotate_left
     ·show Act.put _ (some 39) _ = _
      simp only [Act.put,List.setIfInBounds_toArray,List.set_cons_zero,List.set_cons_succ,zT,zW]
      rfl
     refine jQ (i:=12) (N:=some 40) (v:=?_) (a':=?_) #[true,true,true,true,true,true,true,true,true,true,true,true,true,false,false,false,false] rfl rfl (zX HT_.out (by kernel_rfl)) (fun _ _ _ h=>h) (Or.inl ⟨by rfl,?_⟩) ?_ ?_
     rotate_left
     ·intro w'
      go_simp
      with_reducible rfl
     rotate_left
     ·simp only [Act.put,List.setIfInBounds_toArray,List.set_cons_zero,List.set_cons_succ,zT,zW]
      rfl
     refine jQ (i:=13) (N:=some 41) (v:=?_) (a':=?_) #[true,true,true,true,true,true,true,true,true,true,true,true,true,true,false,false,false] rfl rfl (zX HT_.out (by kernel_rfl)) (fun _ _ _ h=>h) (Or.inl ⟨by rfl,?_⟩) ?_ ?_
     rotate_left
     ·intro w'
      go_simp
      with_reducible rfl
     rotate_left
     ·simp only [Act.put,List.setIfInBounds_toArray,List.set_cons_zero,List.set_cons_succ,zT,zW]
      rfl
     refine jQ (i:=14) (N:=some 42) (v:=?_) (a':=?_) #[true,true,true,true,true,true,true,true,true,true,true,true,true,true,true,false,false] rfl rfl (zX HT_.out (by kernel_rfl)) (fun _ _ _ h=>h) (Or.inl ⟨by rfl,?_⟩) ?_ ?_
     rotate_left
     ·intro w'
      go_simp
      with_reducible rfl
     rotate_left
     ·simp only [Act.put,List.setIfInBounds_toArray,List.set_cons_zero,List.set_cons_succ,zT,zW]
      rfl
     refine jQ (i:=15) (N:=some 43) (v:=?_) (a':=?_) #[true,true,true,true,true,true,true,true,true,true,true,true,true,true,true,true,false] rfl rfl (zX HT_.out (by kernel_rfl)) (fun _ _ _ h=>h) (Or.inl ⟨by rfl,?_⟩) ?_ ?_
     rotate_left
     ·intro w'
      go_simp
      with_reducible rfl
     rotate_left
     ·simp only [Act.put,List.setIfInBounds_toArray,List.set_cons_zero,List.set_cons_succ,zT,zW]
      rfl
     refine last_ (i:=16) (N:=none) #[true,true,true,true,true,true,true,true,true,true,true,true,true,true,true,true,true] rfl rfl (uA HT_.out (by kernel_rfl)) (by decide) (fun K hK=>?_)
     have hs54 : w53.cell? ⟨gb295,0,none⟩ = some (.int .i64 0):=(qK BK295.out 0).trans rfl
     have hfs54:=qJ BK295.out 0
     have hns54_0:=NB294_295.out
     have hms54_0:=NB295_294.out
     refine skip_ (w1:=?_) (by rfl) rfl ?_ ?_
     rotate_left
     ·go_simp
      rfl
     refine hK.out _ _ ?_
     clear hK K
     refine done_ (done_of HT_.out (by kernel_rfl)) ?_
     have hcz55_0 : w53.cell? ⟨gb295,0,none⟩ = some (.int .i64 0):=(qK BK295.out 0).trans rfl
     have hcz55_1 : w53.cell? ⟨gb295,1,none⟩ = some (.slice Ao48 x296001_1.length co48):=(qK BK295.out 1).trans rfl
     have hcz55_2 : w53.cell? ⟨gb295,2,none⟩ = some (.slice none 0 0):=(qK BK295.out 2).trans rfl
     have hfz55_0:=qJ BK295.out 0
     have hfz55_1:=qJ BK295.out 1
     have hfz55_2:=qJ BK295.out 2
     have hnb56:=NB294_0.out
     have hnc56:=NB0_294.out
     have hcz57_0 : w53.cell? ⟨gb294,0,none⟩ = some (.int .i64 0):=(qK BK294.out 0).trans rfl
     have hcz57_1 : w53.cell? ⟨gb294,1,none⟩ = some (.slice none 0 0):=(qK BK294.out 1).trans rfl
     have hcz57_2 : w53.cell? ⟨gb294,2,none⟩ = some (.slice none 0 0):=(qK BK294.out 2).trans rfl
     have hfz57_0:=qJ BK294.out 0
     have hfz57_1:=qJ BK294.out 1
     have hfz57_2:=qJ BK294.out 2
     try go_wp2
     refine bodyPost_ret (results_cell_row rfl _ _ gb294 49 #[.int .i64 ji44,.slice Ao48 x296001_1.length co48,.slice none 0 0] (0,0) _ rfl (by (with_reducible repeat (first|refine qF ?_ _|refine qI ?_|refine qE ?_ _));refine zV (cs:=#[.int .i64 ji44,.slice Ao48 x296001_1.length co48,.slice none 0 0]) ?_ 2 _ rfl;(with_reducible repeat (first|refine qF ?_ _|refine qI ?_|refine qE ?_ _));refine zV (cs:=#[.int .i64 ji44,.slice none 0 0,.slice none 0 0]) ?_ 1 _ rfl;(with_reducible repeat (first|refine qF ?_ _|refine qI ?_|refine qE ?_ _));refine zV (cs:=#[.int .i64 0,.slice none 0 0,.slice none 0 0]) ?_ 0 _ rfl;(with_reducible repeat (first|refine qF ?_ _|refine qI ?_|refine qE ?_ _));refine zU ?_ NB294_295.out _;(with_reducible repeat (first|refine qF ?_ _|refine qI ?_|refine qE ?_ _));exact BK294.out) Try.underlying49 rfl (by kernel_rfl)) rfl ?_
     exact ⟨_,_,by first|rfl|(simp [zK,zJ]<;>rfl)|(simp only [← hji43,← hji44];first|rfl|(simp [zK,zJ]<;>rfl))|(simp [*,zK,zJ]<;>rfl),by (with_reducible repeat (first|apply Kd.qX|apply Kd.qW|apply Kd.zC));exact Kd.zN (Kd.jE (p:=⟨gb294,2,none⟩) (Kd.jE (p:=⟨gb294,1,none⟩) (Kd.jE (p:=⟨gb294,0,none⟩) (Kd.jE (p:=⟨gb295,0,none⟩) (Kd.jY (Kd.jY HO_296001.out BK295.out (by decide)) BK294.out (by decide)) (fun _ hk=>hk.1.2) (.int .i64 ji44)) (fun _ hk=>hk.2) (.int .i64 ji44)) (fun _ hk=>hk.2) (.slice Ao48 x296001_1.length co48)) (fun _ hk=>hk.2) (.slice none 0 0)) (fun _ hk=>trivial),by first|exact Kd.uT _ _ _ _ _|exact Kd.N_nil _ _ _ _ _|exact Kd.V_nil _ _ _ _ _|exact Kd.Q_nil _ _ _ _ _|exact Kd.S_nil _ _ _ _ _,by repeat (first|(with_reducible first|exact HI0.out|apply qC.alloc|apply qC.drewN|apply qC.drew|apply qC.zM|refine qC.far ?_ NB0_294.out _|refine qC.far ?_ NB0_295.out _)|exact HI0.out),by repeat (first|(with_reducible first|exact HB.out|apply qH|apply qB|apply qG|refine qD ?_ (qC.ge HI0.out)|refine qD ?_ GE294.out|refine qD ?_ GE295.out)|exact HB.out),by repeat (first|(with_reducible first|exact HK.out|apply qL.set_|apply qP|apply qR|apply qO|refine qM ?_ GW294.out _|refine qM ?_ GW295.out _)|exact HK.out)⟩
end Go.Proofs.Ytoofabolcbbjnaa.P
