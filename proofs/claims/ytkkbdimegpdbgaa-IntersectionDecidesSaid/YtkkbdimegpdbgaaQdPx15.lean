/- Functions of the program as Lean functions, and the walks that show that the calls answer so; written by a program of this session (a changed print) and by hand. -/
import Derived.Test.YtkkbdimegpdbgaaQdPx0
import Derived.Test.YtkkbdimegpdbgaaQdPx11
namespace Go.Proofs.Ytkkbdimegpdbgaa.P
open Go.RowKit Go.Proofs.YtkkbdimegpdbgaaW.PrintWords Go.Proofs.YtkkbdimegpdbgaaW.PrintLast Go.Proofs.YtkkbdimegpdbgaaW.PrintMore
attribute [local go_sem] uH uI uQ uR vW vV uF uG
set_option linter.unusedVariables false
set_option linter.unusedSimpArgs false
def zR.l0 : Nat→Int→Int→List Int→Int→Int→List Int→Option (Int × List Int × (List (S56)) × Int)
 | 0,_,_,_,_,_,_=>none
 | k + 1,x1,x6,x1000,x1001,x402000,x402001=>if x6 < x1 then ((q8.f x1000 x1001 10).bind fun bt402=>(if bt402.1 < 9 then (if x402001.length < 17592186044416 then (zR.l0 k x1 (wrap64 (x6 + 1)) x1000 bt402.2 x402000 (x402001 ++ [x6])) else (none)) else (zR.l0 k x1 (wrap64 (x6 + 1)) x1000 bt402.2 x402000 x402001))) else (if (x402001.length : Int) = 0 then ((some (([0] : List Int) : List Int)).bind fun y407=>((jL.f x1000 x1001 (([0,0,0,1,(-1)] : List Int))).bind fun bt413=>(some (mn (y407.length : Int) (mx 1 (wrap64 ((wrap64 (Int.tdiv (wrap64 ((wrap64 (2 * (y407.length : Int))) + 2)) 3)) + bt413.1))),y407,([] : List (S56)),bt413.2)))) else ((jL.f x1000 x1001 (([0,0,0,1,(-1)] : List Int))).bind fun bt418=>(some (mn (x402001.length : Int) (mx 1 (wrap64 ((wrap64 (Int.tdiv (wrap64 ((wrap64 (2 * (x402001.length : Int))) + 2)) 3)) + bt418.1))),x402001,([] : List (S56)),bt418.2))))
def zR.f (k : Nat) (s0_0 : List Int) (s0_1 : Int) (a1 : Int) : Option (Int × List Int × (List (S56)) × Int):=zR.l0 k a1 0 s0_0 s0_1 0 ([] : List Int)
def zR.T9 : Bool × List (List Nat × List Nat):=(true,[([],[]),([0],[0]),([1],[1]),([],[]),([3],[3]),([4],[4]),([5],[5]),([6],[6]),([7],[7]),([],[]),([],[]),([9,10],[9,10]),([8,11],[8,11]),([12],[12]),([2,13],[2,13]),([0,1,2,3,4,5,6,7,8,9,10,11,12,13,14],[]),([15,14,11,0,1,2,3,4,5,6,7,8,9,10,11,12,13,14],[14,15])])
def zR.B9 : List Nat:=[0,1,3,0,8,24,56,120,248,0,0,1536,4088,8184,16383,32767,65535]
theorem zR.tab9 : rtab .any (opsOf Try.f31 9) = zR.T9:=by kernel_rfl
theorem zR.bits9 : kL zR.T9.2 zR.B9 = true:=by kernel_rfl
set_option maxHeartbeats 8000000 in
set_option maxRecDepth 100000 in
theorem zR.calls (k : Nat) (g : Nat) (s0_0 : List Int) (s0_1 : Int) (a1 : Int) (r1 : Int) (r2 : List Int) (r3 : List (S56)) (r4 : Int) (w0 w : World) (hI : qD w0 w g s0_0 s0_1) (hB : Below w0.heap.size w0 w) (h : zR.f k s0_0 s0_1 a1 = some (r1,r2,r3,r4)) :
  Calls Try.prog 31 #[.pointer (some ⟨g,0,none⟩),.int .i64 a1] w fun e w'=>∃ v1_ v2_ : Value,e = .returned (.agg #[.int .i64 r1,v1_,v2_])∧Kd.R (Kd.int .i64) 3 w' w.heap.size (fun _=>True) v1_ r2∧Kd.R k56 56 w' w.heap.size (fun k_=>some k_≠(v1_ : Value).ownBlock) v2_ r3∧qD w0 w' g s0_0 r4∧Below w0.heap.size w0 w'∧qK w w' g none:=by
 have hu56:=Try.underlying56
 have HI0:=qA.mk hI
 have HK:=qA.mk (qK.refl w g none)
 have HL:=qA.mk hB.size
 clear hI
 have HW0:=qA.mk hB.size
 have HB:=qA.mk hB
 clear hB
 have H : (zR.l0 k a1 0 s0_0 s0_1 0 ([] : List Int)) = some (r1,r2,r3,r4):=h
 clear h
 have H':=qA.mk H
 clear H
 go_enter Try.func31,Try.ntmps31
 go_wp2_with (first|((with_reducible refine zK (N:=4) rfl ?_);refine q9 ?hg (N:=4) ?hd (cs:=#[.int .i64 0,.slice none 0 0,.slice none 0 0]) (t:=56) ?hr ?_;(case hd=>rfl);(case hg=>rfl);(case hr=>exact byaa);intro gb400 hg w3 hbox hb;have n0_:=qA.mk (qD.below (bybf HI0.out) hb);have n1_:=qA.mk (qK.trans bybh (qK.of_below hb g none) (.inl rfl));have n2_:=qA.mk (qE (bybg HI0.out) hb);have n3_:=qA.mk (hbox);have n4_:=qA.mk ((bycc : w.heap.size ≤ gb400));have n5_:=qA.mk ((Nat.le_trans HW0.out (bycc : w.heap.size ≤ gb400) : w0.heap.size ≤ gb400));have n6_:=qA.mk ((by rw [hg];exact Nat.ne_of_lt (qD.lt (show qD w0 _ g s0_0 s0_1 from by repeat (first|(with_reducible first|exact HI0.out|apply qD.alloc|apply qD.drewN|apply qD.drew|apply qD.jR)|exact HI0.out))) : g≠gb400));have n7_:=qA.mk ((by rw [hg];exact Nat.ne_of_gt (qD.lt (show qD w0 _ g s0_0 s0_1 from by repeat (first|(with_reducible first|exact HI0.out|apply qD.alloc|apply qD.drewN|apply qD.drew|apply qD.jR)|exact HI0.out))) : gb400≠g));clear HI0;clear HK;clear HB;have HI0:=n0_;have HK:=n1_;have HB:=n2_;have BK400:=n3_;have GW400:=n4_;have GE400:=n5_;have NB0_400:=n6_;have NB400_0:=n7_;clear n0_ n1_ n2_ n3_ n4_ n5_ n6_ n7_;clear hb hbox hg)|((with_reducible refine zK (N:=5) rfl ?_);refine q9 ?hg (N:=5) ?hd (cs:=#[.int .i64 0,.slice none 0 0,.slice none 0 0]) (t:=56) ?hr ?_;(case hd=>rfl);(case hg=>rfl);(case hr=>exact byaa);intro gb401 hg w4 hbox hb;have n0_:=qA.mk (qD.below (bybi HI0.out NB0_400.out) hb);have n1_:=qA.mk (qH (g:=gb400) (o:=.cells #[.int .i64 0,.slice none 0 0,.slice none 0 0] 56 (0,0)) (byaf BK400.out) hb);have n2_:=qA.mk (qK.trans (bybj GW400.out) (qK.of_below hb g none) (.inl rfl));have n3_:=qA.mk (qE (bybk HI0.out GE400.out) hb);have n4_:=qA.mk (hbox);have n5_:=qA.mk ((bycd GW400.out : w.heap.size ≤ gb401));have n6_:=qA.mk ((Nat.le_trans HW0.out (bycd GW400.out : w.heap.size ≤ gb401) : w0.heap.size ≤ gb401));have n7_:=qA.mk ((by rw [hg];exact Nat.ne_of_lt (jF (g:=gb400) (o:=.cells #[.int .i64 0,.slice none 0 0,.slice none 0 0] 56 (0,0)) (byaf BK400.out)) : gb400≠gb401));have n8_:=qA.mk ((by rw [hg];exact Nat.ne_of_gt (jF (g:=gb400) (o:=.cells #[.int .i64 0,.slice none 0 0,.slice none 0 0] 56 (0,0)) (byaf BK400.out)) : gb401≠gb400));have n9_:=qA.mk ((by rw [hg];exact Nat.ne_of_lt (qD.lt (show qD w0 _ g s0_0 s0_1 from by repeat (first|(with_reducible first|exact HI0.out|apply qD.alloc|apply qD.drewN|apply qD.drew|apply qD.jR|refine qD.far ?_ NB0_400.out _)|exact HI0.out))) : g≠gb401));have n10_:=qA.mk ((by rw [hg];exact Nat.ne_of_gt (qD.lt (show qD w0 _ g s0_0 s0_1 from by repeat (first|(with_reducible first|exact HI0.out|apply qD.alloc|apply qD.drewN|apply qD.drew|apply qD.jR|refine qD.far ?_ NB0_400.out _)|exact HI0.out))) : gb401≠g));clear HI0;clear BK400;clear HK;clear HB;have HI0:=n0_;have BK400:=n1_;have HK:=n2_;have HB:=n3_;have BK401:=n4_;have GW401:=n5_;have GE401:=n6_;have NB400_401:=n7_;have NB401_400:=n8_;have NB0_401:=n9_;have NB401_0:=n10_;clear n0_ n1_ n2_ n3_ n4_ n5_ n6_ n7_ n8_ n9_ n10_;clear hb hbox hg;have hnb5:=NB401_400.out;have hnc5:=NB400_401.out;have hnb6:=NB401_0.out;have hnc6:=NB0_401.out;have hcz7_0 : w4.cell? ⟨gb401,0,none⟩ = some (.int .i64 0):=(qC BK401.out 0).trans rfl;have hcz7_1 : w4.cell? ⟨gb401,1,none⟩ = some (.slice none 0 0):=(qC BK401.out 1).trans rfl;have hcz7_2 : w4.cell? ⟨gb401,2,none⟩ = some (.slice none 0 0):=(qC BK401.out 2).trans rfl;have hfz7_0:=qB BK401.out 0;have hfz7_1:=qB BK401.out 1;have hfz7_2:=qB BK401.out 2))
 go_loopg [6] k (fun kq v6 w'=>∃ (x6_1 : Int) (x1001_1 : Int) (x402001_1 : List Int) (u402001 : Value),v6 = .int .i64 x6_1∧qA (zR.l0 kq a1 x6_1 s0_0 x1001_1 0 x402001_1 = some (r1,r2,r3,r4))∧qA (kq ≤ k)∧qA (Kd.R (Kd.int .i64) 3 w' w.heap.size (fun _=>True) u402001 x402001_1)∧qA (w'.heap[gb400]? = some (.cells #[.int .i64 0,(.slice none 0 0),(.slice none 0 0)] 56 (0,0)))∧qA (w'.heap[gb401]? = some (.cells #[.int .i64 0,u402001,(.slice none 0 0)] 56 (0,0)))∧qA (qD w0 w' g s0_0 x1001_1)∧qA (qK w w' g none)∧qA (Below w0.heap.size w0 w'))
 case atStart=>exact ⟨(0),(s0_1),(([] : List Int)),(.slice none 0 0),byae,H',⟨Nat.le_refl _⟩,⟨byau⟩,⟨byak NB400_401.out BK400.out⟩,⟨by (with_reducible repeat (first|refine qG ?_ _|refine qJ ?_|refine qF ?_ _));refine zJ (cs:=#[.int .i64 0,.slice none 0 0,.slice none 0 0]) ?_ 2 _ rfl;(with_reducible repeat (first|refine qG ?_ _|refine qJ ?_|refine qF ?_ _));refine zJ (cs:=#[.int .i64 0,.slice none 0 0,.slice none 0 0]) ?_ 1 _ rfl;(with_reducible repeat (first|refine qG ?_ _|refine qJ ?_|refine qF ?_ _));refine zJ (cs:=#[.int .i64 0,.slice none 0 0,.slice none 0 0]) ?_ 0 _ rfl;(with_reducible repeat (first|refine qG ?_ _|refine qJ ?_|refine qF ?_ _));exact BK401.out⟩,⟨bybl HI0.out NB0_400.out NB0_401.out⟩,⟨bybn GW400.out GW401.out⟩,⟨bybm HI0.out GE400.out GE401.out⟩⟩
 case round =>
  clear H'
  try clear p2
  try clear c3
  try clear c5
  try clear c6
  try clear hcz7_0
  try clear hcz7_1
  try clear hcz7_2
  try clear hfz7_0
  try clear hfz7_1
  try clear hfz7_2
  obtain ⟨x6_1,x1001_1,x402001_1,u402001,rfl,HA,HK1,HO_402001,BK400,BK401,HI0,HK,HB⟩:=hrel
  cases gk with
  | zero=>exact absurd HA.out (by simp [zR.l0])
  | succ k1 =>
   have H:=HA.out
   clear HA
   simp only [zR.l0] at H
   by_cases c8 : x6_1 < a1
   ·rw [if_pos c8] at H
    have c8b0 : decide (x6_1 < a1) = true:=decide_eq_true c8
    clear c8
    replace H:=Option.bind_eq_some_iff.mp H
    obtain ⟨⟨t402,t403⟩,A90,H⟩:=H
    replace H : (if t402 < 9 then (if x402001_1.length < 17592186044416 then (zR.l0 k1 a1 (wrap64 (x6_1 + 1)) s0_0 t403 0 (x402001_1 ++ [x6_1])) else (none)) else (zR.l0 k1 a1 (wrap64 (x6_1 + 1)) s0_0 t403 0 x402001_1)) = some (r1,r2,r3,r4):=H
    have A9:=qA.mk A90
    clear A90
    by_cases c10 : t402 < 9
    ·rw [if_pos c10] at H
     have c10b0 : decide (t402 < 9) = true:=decide_eq_true c10
     clear c10
     by_cases c11 : x402001_1.length < 17592186044416
     ·rw [if_pos c11] at H
      have LMc11:=qA.mk c11
      clear c11
      obtain ⟨y404,hy404⟩ : ∃ y_ : List Int,y_ = (x402001_1 ++ [x6_1]):=⟨_,rfl⟩
      replace H : (zR.l0 k1 a1 (wrap64 (x6_1 + 1)) s0_0 t403 0 y404) = some (r1,r2,r3,r4):=by first|(rw [hy404];with_reducible exact H)|(have H2_:=(Option.bind_some _ _).symm.trans H;rw [hy404];with_reducible exact H2_)|(have H2_:=(Option.bind_some _ _).symm.trans H;with_reducible exact H2_)|with_reducible exact H|(rw [hy404];exact H)|exact H
      have Ny404:=qA.mk hy404
      clear hy404
      have H':=qA.mk H
      clear H
      go_wp2_with (first|((with_reducible refine qI (f:=29) rfl ?_);refine zL (some 14) rfl rfl Try.func29 (by kernel_rfl) rfl #[.pointer (some ⟨g,0,none⟩),.int .i64 10] rfl byah ?_;(with_reducible refine (q8.calls g s0_0 x1001_1 10 t402 t403 w0 _ ?side1 ?side2 A9.out).mono ?_);(case side1=>exact bybl HI0.out NB0_400.out NB0_401.out);(case side2=>exact bybm HI0.out GE400.out GE401.out);rintro e w12 ⟨rfl,hi,hb,hk⟩;refine ⟨_,rfl,?_⟩;have n0_:=qA.mk (Kd.zG (Kd.vF (qD.apart (show qD w0 _ g s0_0 x1001_1 from by repeat (first|(with_reducible first|exact HI0.out|apply qD.alloc|apply qD.drewN|apply qD.drew|apply qD.jR|refine qD.far ?_ NB0_400.out _|refine qD.far ?_ NB0_401.out _)|exact HI0.out)) (byav HO_402001.out) (by decide)) hk (fun _ h=>h.2)) (fun _ h=>h.1));have n1_:=qA.mk (qK.blk hk (g':=gb400) (o:=.cells #[.int .i64 0,.slice none 0 0,.slice none 0 0] 56 (0,0)) (byaf BK400.out) NB400_0.out (by simp));have n2_:=qA.mk (qK.blk hk (g':=gb401) (o:=.cells #[.int .i64 0,u402001,.slice none 0 0] 56 (0,0)) (byaf BK401.out) NB401_0.out (by simp));have n3_:=qA.mk (qK.trans (bybn GW400.out GW401.out) hk (.inl rfl));have n4_:=qA.mk (hb);have n5_:=qA.mk (hi);clear HO_402001;clear BK400;clear BK401;clear HK;clear HB;clear HI0;have HO_402001:=n0_;have BK400:=n1_;have BK401:=n2_;have HK:=n3_;have HB:=n4_;have HI0:=n5_;clear n0_ n1_ n2_ n3_ n4_ n5_;(try clear hb);(try clear hb2);(try clear hk);(try clear hi);have hnb13:=NB401_400.out;have hnc13:=NB400_401.out;have hnb14:=NB401_0.out;have hnc14:=NB0_401.out;have hcz15_0 : w12.cell? ⟨gb401,0,none⟩ = some (.int .i64 0):=(qC BK401.out 0).trans rfl;have hcz15_1 : w12.cell? ⟨gb401,1,none⟩ = some (u402001):=(qC BK401.out 1).trans rfl;have hcz15_2 : w12.cell? ⟨gb401,2,none⟩ = some (.slice none 0 0):=(qC BK401.out 2).trans rfl;have hfz15_0:=qB BK401.out 0;have hfz15_1:=qB BK401.out 1;have hfz15_2:=qB BK401.out 2)|((with_reducible refine vP (b:=.append) (xs:=#[.tmp 17,.tmp 19]) rfl ?_);at_builtin;refine Kd.uP (Kd.int .i64) w.heap.size rfl (.tmp 17) (.tmp 19) 22 3 (.int .i64 0) 8 rfl Try.underlying22 info3 rfl (by decide) (by omega) u402001 x402001_1 x6_1 [.int .i64 x6_1] (fun _=>True) (fun _=>False) rfl rfl ?aP (fun _ hk=>hk.elim) ?aF ?aO (Below.refl _ _) ?aS ?aL ?_;(case aP=>exact rfl);(case aF=>exact (fun _ _=>trivial));(case aO=>exact (byav HO_402001.out));(case aS=>exact (jV (w:=w) (g:=g) (row:=none) (bybn GW400.out GW401.out)));(case aL=>have:=LMc11.out;omega);intro v405 w16 ho hb hg hat;rw [← Ny404.out] at ho;have n0_:=qA.mk (j4 (g:=gb400) (o:=.cells #[.int .i64 0,.slice none 0 0,.slice none 0 0] 56 (0,0)) (byaf BK400.out) hg (Kd.R_ne HO_402001.out BK400.out (by decide)));have n1_:=qA.mk (j4 (g:=gb401) (o:=.cells #[.int .i64 0,u402001,.slice none 0 0] 56 (0,0)) (byaf BK401.out) hg (Kd.R_ne HO_402001.out BK401.out (by decide)));have n2_:=qA.mk (qD.grown (bybl HI0.out NB0_400.out NB0_401.out) hg (qD.own_ne HI0.out HO_402001.out (by decide)));have n3_:=qA.mk (uB (bybm HI0.out GE400.out GE401.out) HL.out hb);have n4_:=qA.mk (qK.trans (bybn GW400.out GW401.out) (qK.kC hg g) (Kd.kT HO_402001.out));have n5_:=qA.mk (ho);clear BK400;clear BK401;clear HI0;clear HB;clear HK;clear HO_402001;have BK400:=n0_;have BK401:=n1_;have HI0:=n2_;have HB:=n3_;have HK:=n4_;have HO406:=n5_;clear n0_ n1_ n2_ n3_ n4_ n5_;clear ho hb hg hat;obtain ⟨Ao17,co17,eo17⟩:=Kd.jT HO406.out;subst eo17;have hcz18_0 : w16.cell? ⟨gb401,0,none⟩ = some (.int .i64 0):=(qC BK401.out 0).trans rfl;have hcz18_1 : w16.cell? ⟨gb401,1,none⟩ = some (u402001):=(qC BK401.out 1).trans rfl;have hcz18_2 : w16.cell? ⟨gb401,2,none⟩ = some (.slice none 0 0):=(qC BK401.out 2).trans rfl;have hfz18_0:=qB BK401.out 0;have hfz18_1:=qB BK401.out 1;have hfz18_2:=qB BK401.out 2))
      go_roundg k1
      case measure=>have:=HK1.out;omega
      case rel=>exact ⟨(wrap64 (x6_1 + 1)),(t403),(y404),(.slice Ao17 y404.length co17),byae,H',⟨byai⟩,⟨by (with_reducible repeat (first|apply Kd.jI|apply Kd.jJ|apply Kd.jM));exact Kd.zG (Kd.jD (p:=⟨gb401,1,none⟩) (Kd.jW HO406.out BK401.out (by decide)) (fun _ hk=>hk.2) (.slice Ao17 y404.length co17)) (fun _ hk=>trivial)⟩,⟨bybb NB400_401.out BK400.out⟩,⟨by (with_reducible repeat (first|refine qG ?_ _|refine qJ ?_|refine qF ?_ _));refine zJ (cs:=#[.int .i64 0,u402001,.slice none 0 0]) ?_ 1 _ rfl;(with_reducible repeat (first|refine qG ?_ _|refine qJ ?_|refine qF ?_ _));exact BK401.out⟩,⟨bybl HI0.out NB0_400.out NB0_401.out⟩,⟨bybn GW400.out GW401.out⟩,⟨bybm HI0.out GE400.out GE401.out⟩⟩
     ·rw [if_neg c11] at H
      exact absurd H (by simp)
    ·rw [if_neg c10] at H
     have c10b0 : decide (t402 < 9) = false:=decide_eq_false c10
     clear c10
     have H':=qA.mk H
     clear H
     go_wp2_with (first|((with_reducible refine qI (f:=29) rfl ?_);refine zL (some 14) rfl rfl Try.func29 (by kernel_rfl) rfl #[.pointer (some ⟨g,0,none⟩),.int .i64 10] rfl byah ?_;(with_reducible refine (q8.calls g s0_0 x1001_1 10 t402 t403 w0 _ ?side1 ?side2 A9.out).mono ?_);(case side1=>exact bybl HI0.out NB0_400.out NB0_401.out);(case side2=>exact bybm HI0.out GE400.out GE401.out);rintro e w19 ⟨rfl,hi,hb,hk⟩;refine ⟨_,rfl,?_⟩;have n0_:=qA.mk (Kd.zG (Kd.vF (qD.apart (show qD w0 _ g s0_0 x1001_1 from by repeat (first|(with_reducible first|exact HI0.out|apply qD.alloc|apply qD.drewN|apply qD.drew|apply qD.jR|refine qD.far ?_ NB0_400.out _|refine qD.far ?_ NB0_401.out _)|exact HI0.out)) (byav HO_402001.out) (by decide)) hk (fun _ h=>h.2)) (fun _ h=>h.1));have n1_:=qA.mk (qK.blk hk (g':=gb400) (o:=.cells #[.int .i64 0,.slice none 0 0,.slice none 0 0] 56 (0,0)) (byaf BK400.out) NB400_0.out (by simp));have n2_:=qA.mk (qK.blk hk (g':=gb401) (o:=.cells #[.int .i64 0,u402001,.slice none 0 0] 56 (0,0)) (byaf BK401.out) NB401_0.out (by simp));have n3_:=qA.mk (qK.trans (bybn GW400.out GW401.out) hk (.inl rfl));have n4_:=qA.mk (hb);have n5_:=qA.mk (hi);clear HO_402001;clear BK400;clear BK401;clear HK;clear HB;clear HI0;have HO_402001:=n0_;have BK400:=n1_;have BK401:=n2_;have HK:=n3_;have HB:=n4_;have HI0:=n5_;clear n0_ n1_ n2_ n3_ n4_ n5_;(try clear hb);(try clear hb2);(try clear hk);(try clear hi)))
     go_roundg k1
     case measure=>have:=HK1.out;omega
     case rel=>exact ⟨(wrap64 (x6_1 + 1)),(t403),(x402001_1),(u402001),byae,H',⟨byai⟩,⟨byav HO_402001.out⟩,⟨byaf BK400.out⟩,⟨byaf BK401.out⟩,⟨bybl HI0.out NB0_400.out NB0_401.out⟩,⟨bybn GW400.out GW401.out⟩,⟨bybm HI0.out GE400.out GE401.out⟩⟩
   ·rw [if_neg c8] at H
    have c8b0 : decide (x6_1 < a1) = false:=decide_eq_false c8
    clear c8
    by_cases c20 : (x402001_1.length : Int) = 0
    ·rw [if_pos c20] at H
     have c20b0 : ((x402001_1.length : Int) == 0) = true:=beq_iff_eq.mpr c20
     have c20b1 : ((x402001_1.length : Int) != 0) = false:=bne_eq_false_iff_eq.mpr c20
     clear c20
     obtain ⟨y407,hy407⟩ : ∃ y_ : List Int,y_ = (([0] : List Int)):=⟨_,rfl⟩
     replace H : ((jL.f s0_0 x1001_1 (([0,0,0,1,(-1)] : List Int))).bind fun bt413=>(some (mn (y407.length : Int) (mx 1 (wrap64 ((wrap64 (Int.tdiv (wrap64 ((wrap64 (2 * (y407.length : Int))) + 2)) 3)) + bt413.1))),y407,([] : List (S56)),bt413.2))) = some (r1,r2,r3,r4):=by first|(rw [hy407];with_reducible exact H)|(have H2_:=(Option.bind_some _ _).symm.trans H;rw [hy407];with_reducible exact H2_)|(have H2_:=(Option.bind_some _ _).symm.trans H;with_reducible exact H2_)|with_reducible exact H|(rw [hy407];exact H)|exact H
     have Ny407:=qA.mk hy407
     clear hy407
     obtain ⟨y410,hy410⟩ : ∃ y_ : List Int,y_ = (([0,0,0,1,(-1)] : List Int)):=⟨_,rfl⟩
     replace H : ((jL.f s0_0 x1001_1 y410).bind fun bt413=>(some (mn (y407.length : Int) (mx 1 (wrap64 ((wrap64 (Int.tdiv (wrap64 ((wrap64 (2 * (y407.length : Int))) + 2)) 3)) + bt413.1))),y407,([] : List (S56)),bt413.2))) = some (r1,r2,r3,r4):=by first|(rw [hy410];with_reducible exact H)|(have H2_:=(Option.bind_some _ _).symm.trans H;rw [hy410];with_reducible exact H2_)|(have H2_:=(Option.bind_some _ _).symm.trans H;with_reducible exact H2_)|with_reducible exact H|(rw [hy410];exact H)|exact H
     have Ny410:=qA.mk hy410
     clear hy410
     replace H:=Option.bind_eq_some_iff.mp H
     obtain ⟨⟨t413,t414⟩,A210,H⟩:=H
     replace H : (some (mn (y407.length : Int) (mx 1 (wrap64 ((wrap64 (Int.tdiv (wrap64 ((wrap64 (2 * (y407.length : Int))) + 2)) 3)) + t413))),y407,([] : List (S56)),t414)) = some (r1,r2,r3,r4):=H
     have A21:=qA.mk A210
     clear A210
     obtain ⟨ji22,hji22⟩ : ∃ j_ : Int,(mx 1 (wrap64 ((wrap64 (Int.tdiv (wrap64 ((wrap64 (2 * (y407.length : Int))) + 2)) 3)) + t413))) = j_:=⟨_,rfl⟩
     replace H : (some (mn (y407.length : Int) (ji22),y407,([] : List (S56)),t414)) = some (r1,r2,r3,r4):=by first|(rw [hji22] at H;exact H)|(simp only [hji22] at H ⊢;exact H)
     (try rw [hji22] at A21)
     (try (have hji22l : 1 ≤ ji22:=by (rw [← hji22];unfold mx;(repeat' split)<;>omega)))
     (try (have hji22m : 0 ≤ ji22:=by omega))
     have hji22_ : (if 1 < (wrap64 ((wrap64 (Int.tdiv (wrap64 ((wrap64 (2 * (y407.length : Int))) + 2)) 3)) + t413)) then (wrap64 ((wrap64 (Int.tdiv (wrap64 ((wrap64 (2 * (y407.length : Int))) + 2)) 3)) + t413)) else 1) = ji22:=hji22
     obtain ⟨ji23,hji23⟩ : ∃ j_ : Int,(mn (y407.length : Int) (ji22)) = j_:=⟨_,rfl⟩
     replace H : (some (ji23,y407,([] : List (S56)),t414)) = some (r1,r2,r3,r4):=by first|(rw [hji23] at H;exact H)|(simp only [hji23] at H ⊢;exact H)
     (try rw [hji23] at A21)
     have hji23_ : (if (ji22) < (y407.length : Int) then (ji22) else (y407.length : Int)) = ji23:=hji23
     simp only [Option.some.injEq,Prod.mk.injEq] at H
     obtain ⟨rfl,rfl,rfl,rfl⟩:=H
     have hnb24:=NB401_400.out
     have hnc24:=NB400_401.out
     have hnb25:=NB401_0.out
     have hnc25:=NB0_401.out
     have hcz26_0 : wr.cell? ⟨gb401,0,none⟩ = some (.int .i64 0):=(qC BK401.out 0).trans rfl
     have hcz26_1 : wr.cell? ⟨gb401,1,none⟩ = some (u402001):=(qC BK401.out 1).trans rfl
     have hcz26_2 : wr.cell? ⟨gb401,2,none⟩ = some (.slice none 0 0):=(qC BK401.out 2).trans rfl
     have hfz26_0:=qB BK401.out 0
     have hfz26_1:=qB BK401.out 1
     have hfz26_2:=qB BK401.out 2
     obtain ⟨Ao27,co27,eo27⟩:=Kd.jT HO_402001.out
     subst eo27
     try go_wp2_with (first|((with_reducible refine zK (N:=26) rfl ?_);refine Kd.R_lit (Kd.int .i64) _ 3 ?hg (N:=26) ?hd (xs:=([0] : List Int)) (inner:=[.int .i64 0]) (ok:=fun _=>True) (okp:=fun _=>True) ?hr ?hp (fun _ hk=>hk) trivial (Below.refl _ _) (Nat.le_refl _) (by simp) ?_;(case hd=>rfl);(case hg=>rfl);(case hr=>exact byaa);(case hp=>exact (Reps.one (show Kd.M (Kd.int .i64) _ _ _ 0 [.int .i64 0] from rfl) (Reps.none _ _)));intro v408 w28 ho29 hb hg_ hnew_;clear hg_ hnew_;(first|rw [← Ny407.out] at ho29|(simp only [Int.reduceToNat] at ho29;rw [← Ny407.out] at ho29));have n0_:=qA.mk (Kd.R_elder' (byav HO_402001.out) (Kd.uD ho29) hb);have n1_:=qA.mk (Kd.vR (Kd.R_new' ho29 (Kd.R_lt (byav HO_402001.out))) (jV (w:=w) (g:=g) (row:=none) (bybn GW400.out GW401.out)));have n2_:=qA.mk (qH (g:=gb400) (o:=.cells #[.int .i64 0,.slice none 0 0,.slice none 0 0] 56 (0,0)) (byaf BK400.out) hb);have n3_:=qA.mk (qH (g:=gb401) (o:=.cells #[.int .i64 0,.slice Ao27 x402001_1.length co27,.slice none 0 0] 56 (0,0)) (byaf BK401.out) hb);have n4_:=qA.mk (qD.below (bybl HI0.out NB0_400.out NB0_401.out) hb);have n5_:=qA.mk (qK.trans (bybn GW400.out GW401.out) (qK.of_below hb g none) (.inl rfl));have n6_:=qA.mk (qE (bybm HI0.out GE400.out GE401.out) hb);clear HO_402001;clear BK400;clear BK401;clear HI0;clear HK;clear HB;have HO_402001:=n0_;have HO409:=n1_;have BK400:=n2_;have BK401:=n3_;have HI0:=n4_;have HK:=n5_;have HB:=n6_;clear n0_ n1_ n2_ n3_ n4_ n5_ n6_;clear hb ho29;obtain ⟨Ao30,co30,eo30⟩:=Kd.jT HO409.out;subst eo30;have hcz31_0 : w28.cell? ⟨gb401,0,none⟩ = some (.int .i64 0):=(qC BK401.out 0).trans rfl;have hcz31_1 : w28.cell? ⟨gb401,1,none⟩ = some (.slice Ao27 x402001_1.length co27):=(qC BK401.out 1).trans rfl;have hcz31_2 : w28.cell? ⟨gb401,2,none⟩ = some (.slice none 0 0):=(qC BK401.out 2).trans rfl;have hfz31_0:=qB BK401.out 0;have hfz31_1:=qB BK401.out 1;have hfz31_2:=qB BK401.out 2))
     have n0_ : qA (Kd.R (Kd.int .i64) 3 (w28.setCell ⟨gb401,1,none⟩ (.slice Ao30 y407.length co30)) w.heap.size (fun k_=>some k_≠(.slice Ao30 y407.length co30 : Value).ownBlock) (.slice Ao27 x402001_1.length co27) x402001_1):=⟨by (with_reducible repeat (first|apply Kd.jI|apply Kd.jJ|apply Kd.jM));exact Kd.zG (Kd.jD (p:=⟨gb401,1,none⟩) (Kd.jW HO_402001.out BK401.out (by decide)) (fun _ hk=>hk.2) (.slice Ao30 y407.length co30)) (fun _ hk=>hk.1.2)⟩
     have n1_ : qA (Kd.R (Kd.int .i64) 3 (w28.setCell ⟨gb401,1,none⟩ (.slice Ao30 y407.length co30)) w.heap.size (fun k_=>some k_≠(.slice Ao27 x402001_1.length co27 : Value).ownBlock) (.slice Ao30 y407.length co30) y407):=⟨by (with_reducible repeat (first|apply Kd.jI|apply Kd.jJ|apply Kd.jM));exact Kd.zG (Kd.jD (p:=⟨gb401,1,none⟩) (Kd.jW HO409.out BK401.out (by decide)) (fun _ hk=>hk.2) (.slice Ao30 y407.length co30)) (fun _ hk=>hk.1.2)⟩
     have n2_ : qA ((w28.setCell ⟨gb401,1,none⟩ (.slice Ao30 y407.length co30)).heap[gb400]? = some (.cells #[.int .i64 0,.slice none 0 0,.slice none 0 0] 56 (0,0))):=⟨bybb NB400_401.out BK400.out⟩
     have n3_ : qA ((w28.setCell ⟨gb401,1,none⟩ (.slice Ao30 y407.length co30)).heap[gb401]? = some (.cells #[.int .i64 0,.slice Ao30 y407.length co30,.slice none 0 0] 56 (0,0))):=⟨by (with_reducible repeat (first|refine qG ?_ _|refine qJ ?_|refine qF ?_ _));refine zJ (cs:=#[.int .i64 0,.slice Ao27 x402001_1.length co27,.slice none 0 0]) ?_ 1 _ rfl;(with_reducible repeat (first|refine qG ?_ _|refine qJ ?_|refine qF ?_ _));exact BK401.out⟩
     have n4_ : qA (qD w0 (w28.setCell ⟨gb401,1,none⟩ (.slice Ao30 y407.length co30)) g s0_0 x1001_1):=⟨bybl HI0.out NB0_400.out NB0_401.out⟩
     have n5_ : qA (qK w (w28.setCell ⟨gb401,1,none⟩ (.slice Ao30 y407.length co30)) g none):=⟨bybn GW400.out GW401.out⟩
     have n6_ : qA (Below w0.heap.size w0 (w28.setCell ⟨gb401,1,none⟩ (.slice Ao30 y407.length co30))):=⟨bybm HI0.out GE400.out GE401.out⟩
     (try clear HO_402001)
     (try clear HO409)
     (try clear BK400)
     (try clear BK401)
     (try clear HI0)
     (try clear HK)
     (try clear HB)
     generalize (w28.setCell ⟨gb401,1,none⟩ (.slice Ao30 y407.length co30)) = w32 at n0_ n1_ n2_ n3_ n4_ n5_ n6_ ⊢
     have HO_402001:=n0_
     have HO409:=n1_
     have BK400:=n2_
     have BK401:=n3_
     have HI0:=n4_
     have HK:=n5_
     have HB:=n6_
     clear n0_ n1_ n2_ n3_ n4_ n5_ n6_
     have n0_:=qA.mk (Kd.jM HO_402001.out)
     have n1_:=qA.mk (Kd.jM HO409.out)
     have n2_:=qA.mk (qJ BK400.out)
     have n3_:=qA.mk (qJ BK401.out)
     have n4_:=qA.mk (qD.drew HI0.out)
     have n5_:=qA.mk (kM HK.out)
     have n6_:=qA.mk (jY HB.out)
     clear HO_402001
     clear HO409
     clear BK400
     clear BK401
     clear HI0
     clear HK
     clear HB
     have HO_402001:=n0_
     have HO409:=n1_
     have BK400:=n2_
     have BK401:=n3_
     have HI0:=n4_
     have HK:=n5_
     have HB:=n6_
     clear n0_ n1_ n2_ n3_ n4_ n5_ n6_
     refine kJ (n:=17) (S:=fun w'=>w'.cell? ⟨gb401,0,none⟩ = some (.int .i64 0)∧w'.cell? ⟨gb401,1,none⟩ = some (.slice Ao30 y407.length co30)∧w'.cell? ⟨gb401,2,none⟩ = some (.slice none 0 0)) (ds:=[16]) #[false,false,false,false,false,false,false,false,false,false,false,false,false,false,false,false,false] (by kernel_rfl) rfl rfl ⟨(qC BK401.out 0).trans rfl,(qC BK401.out 1).trans rfl,(qC BK401.out 2).trans rfl⟩ (fun hHeld=>?_);refine uY zR.tab9 zR.bits9 (fun HT_ HW_=>?_)
     generalize w32.drew = w33 at HO_402001 HO409 BK400 BK401 HI0 HK HB hHeld ⊢
     refine zY (i:=0) (N:=some 28) (v:=?_) (a':=?_) #[true,false,false,false,false,false,false,false,false,false,false,false,false,false,false,false,false] rfl rfl (zO HT_.out (by kernel_rfl)) (fun _ _ _ h=>h) (Or.inl ⟨by rfl,?_⟩) ?_ ?_
     rotate_left
     ·intro w'
      go_simp
      with_reducible rfl
     rotate_left
     ·simp only [Act.put,List.setIfInBounds_toArray,List.set_cons_zero,List.set_cons_succ,qY,zA]
      rfl
     refine zY (i:=3) (N:=some 31) (v:=?_) (a':=?_) #[true,false,false,true,false,false,false,false,false,false,false,false,false,false,false,false,false] rfl rfl (zO HT_.out (by kernel_rfl)) (fun _ _ _ h=>h) (Or.inl ⟨by rfl,?_⟩) ?_ ?_
     rotate_left
     ·intro w'
      go_simp
      with_reducible rfl
     rotate_left
     ·simp only [Act.put,List.setIfInBounds_toArray,List.set_cons_zero,List.set_cons_succ,qY,zA]
      rfl
     refine zY (i:=9) (N:=some 37) (v:=?_) (a':=?_) #[true,false,false,true,false,false,false,false,false,true,false,false,false,false,false,false,false] rfl rfl (zO HT_.out (by kernel_rfl)) (fun _ _ _ h=>h) (Or.inl ⟨by rfl,?_⟩) ?_ ?_
     rotate_left
     ·intro w'
      go_simp
      with_reducible rfl
     rotate_left
     ·simp only [Act.put,List.setIfInBounds_toArray,List.set_cons_zero,List.set_cons_succ,qY,zA]
      rfl
     refine vZ (i:=1) (N:=some 29) (v:=?_) (a':=?_) #[true,true,false,true,false,false,false,false,false,true,false,false,false,false,false,false,false] rfl rfl (vJ HT_.out HW_.out (by kernel_rfl)) (fun _ _ _ h=>h) (Or.inl ⟨by rfl,?_⟩) hHeld ?_ ?_
     rotate_left
     ·rintro w' ⟨s0,s1,s2⟩
      go_simp
      with_reducible rfl
     rotate_left
     ·simp only [Act.put,List.setIfInBounds_toArray,List.set_cons_zero,List.set_cons_succ,qY,zA]
      rfl
     refine zY (i:=2) (N:=some 30) (v:=?_) (a':=?_) #[true,true,true,true,false,false,false,false,false,true,false,false,false,false,false,false,false] rfl rfl (zO HT_.out (by kernel_rfl)) (fun _ _ _ h=>h) (Or.inl ⟨by rfl,?_⟩) ?_ ?_
     rotate_left
     ·intro w'
      go_simp
      with_reducible rfl
     rotate_left
     ·simp only [Act.put,List.setIfInBounds_toArray,List.set_cons_zero,List.set_cons_succ,qY,zA]
      rfl
     refine vZ (i:=4) (N:=some 32) (v:=?_) (a':=?_) #[true,true,true,true,true,false,false,false,false,true,false,false,false,false,false,false,false] rfl rfl (vJ HT_.out HW_.out (by kernel_rfl)) (fun _ _ _ h=>h) (Or.inl ⟨by rfl,?_⟩) hHeld ?_ ?_
     rotate_left
     ·rintro w' ⟨s0,s1,s2⟩
      go_simp
      with_reducible rfl
     rotate_left
     ·simp only [Act.put,List.setIfInBounds_toArray,List.set_cons_zero,List.set_cons_succ,qY,zA]
      rfl
     refine zY (i:=5) (N:=some 33) (v:=?_) (a':=?_) #[true,true,true,true,true,true,false,false,false,true,false,false,false,false,false,false,false] rfl rfl (zO HT_.out (by kernel_rfl)) (fun _ _ _ h=>h) (Or.inl ⟨by rfl,?_⟩) ?_ ?_
     rotate_left
     ·intro w'
      go_simp
      with_reducible rfl
     rotate_left
     ·simp only [Act.put,List.setIfInBounds_toArray,List.set_cons_zero,List.set_cons_succ,qY,zA]
      rfl
     refine zY (i:=6) (N:=some 34) (v:=?_) (a':=?_) #[true,true,true,true,true,true,true,false,false,true,false,false,false,false,false,false,false] rfl rfl (zO HT_.out (by kernel_rfl)) (fun _ _ _ h=>h) (Or.inl ⟨by rfl,?_⟩) ?_ ?_
     rotate_left
     ·intro w'
      go_simp
      with_reducible rfl
     rotate_left
     ·simp only [Act.put,List.setIfInBounds_toArray,List.set_cons_zero,List.set_cons_succ,qY,zA]
      rfl
     refine zY (i:=7) (N:=some 35) (v:=?_) (a':=?_) #[true,true,true,true,true,true,true,true,false,true,false,false,false,false,false,false,false] rfl rfl (zO HT_.out (by kernel_rfl)) (fun _ _ _ h=>h) (Or.inl ⟨by rfl,?_⟩) ?_ ?_
     rotate_left
     ·intro w'
      go_simp
      with_reducible rfl
     rotate_left
     ·simp only [Act.put,List.setIfInBounds_toArray,List.set_cons_zero,List.set_cons_succ,qY,zA]
      rfl
     refine zY (i:=8) (N:=some 36) (v:=?_) (a':=?_) #[true,true,true,true,true,true,true,true,true,true,false,false,false,false,false,false,false] rfl rfl (zO HT_.out (by kernel_rfl)) (fun _ _ _ h=>h) (Or.inl ⟨by rfl,?_⟩) ?_ ?_
     rotate_left
     ·intro w'
      go_simp
      with_reducible rfl
     rotate_left
     ·simp only [Act.put,List.setIfInBounds_toArray,List.set_cons_zero,List.set_cons_succ,qY,zA]
      rfl
     refine one_ (i:=10) (N:=some 38) #[true,true,true,true,true,true,true,true,true,true,true,false,false,false,false,false,false] rfl rfl (uE HT_.out (by kernel_rfl)) (by decide) (fun K hK=>?_)
     refine Kd.R_lit_step (Kd.int .i64) _ 3 ?hg (N:=38) ?hd (xs:=([0,0,0,1,(-1)] : List Int)) (inner:=[.int .i64 0,.int .i64 0,.int .i64 0,.int .i64 1,.int .i64 (-1)]) (ok:=fun _=>True) (okp:=fun _=>True) ?hr ?hp (fun _ hk=>hk) trivial (Below.refl _ _) (Nat.le_refl _) (by simp) ?_;(case hd=>rfl);(case hg=>rfl);(case hr=>exact byaa);(case hp=>exact (Reps.one (show Kd.M (Kd.int .i64) _ _ _ 0 [.int .i64 0] from rfl) (Reps.one (show Kd.M (Kd.int .i64) _ _ _ 0 [.int .i64 0] from rfl) (Reps.one (show Kd.M (Kd.int .i64) _ _ _ 0 [.int .i64 0] from rfl) (Reps.one (show Kd.M (Kd.int .i64) _ _ _ 1 [.int .i64 1] from rfl) (Reps.one (show Kd.M (Kd.int .i64) _ _ _ (-1) [.int .i64 (-1)] from rfl) (Reps.none _ _)))))))
     intro v411 w34 ho35 hb hg_ hnew_
     clear hg_ hnew_
     (first|rw [← Ny410.out] at ho35|(simp only [Int.reduceToNat] at ho35;rw [← Ny410.out] at ho35))
     have n0_:=qA.mk (Kd.R_elder' (byav HO_402001.out) (Kd.uD ho35) hb)
     have n1_:=qA.mk (Kd.R_elder' (byav HO409.out) (Kd.uD ho35) hb)
     have n2_:=qA.mk (Kd.vR (Kd.R_new' (Kd.R_new' ho35 (Kd.R_lt (byav HO_402001.out))) (Kd.R_lt (byav HO409.out))) (jV (w:=w) (g:=g) (row:=none) (bybn GW400.out GW401.out)))
     have n3_:=qA.mk (qH (g:=gb400) (o:=.cells #[.int .i64 0,.slice none 0 0,.slice none 0 0] 56 (0,0)) (byaf BK400.out) hb)
     have n4_:=qA.mk (qH (g:=gb401) (o:=.cells #[.int .i64 0,.slice Ao30 y407.length co30,.slice none 0 0] 56 (0,0)) (byaf BK401.out) hb)
     have n5_:=qA.mk (qD.below (bybl HI0.out NB0_400.out NB0_401.out) hb)
     have n6_:=qA.mk (qK.trans (bybn GW400.out GW401.out) (qK.of_below hb g none) (.inl rfl))
     have n7_:=qA.mk (qE (bybm HI0.out GE400.out GE401.out) hb)
     clear HO_402001
     clear HO409
     clear BK400
     clear BK401
     clear HI0
     clear HK
     clear HB
     have HO_402001:=n0_
     have HO409:=n1_
     have HO412:=n2_
     have BK400:=n3_
     have BK401:=n4_
     have HI0:=n5_
     have HK:=n6_
     have HB:=n7_
     clear n0_ n1_ n2_ n3_ n4_ n5_ n6_ n7_
     clear hb ho35
     obtain ⟨Ao36,co36,eo36⟩:=Kd.jT HO412.out
     (first|subst eo36|(injection eo36 with f1_ f2_ f3_;have f4_:=f1_.symm;have f5_:=f3_.symm;clear f1_ f2_ f3_;subst f4_;subst f5_))
     refine hK.out _ _ ⟨(qC BK401.out 0).trans rfl,(qC BK401.out 1).trans rfl,(qC BK401.out 2).trans rfl⟩ (fun hHeld=>?_)
     clear hK K
     refine uM (a':=?_) ?_ ?_
     rotate_left
     ·show Act.put _ (some 38) _ = _
      simp only [Act.put,List.setIfInBounds_toArray,List.set_cons_zero,List.set_cons_succ,qY,zA]
      rfl
     refine one_ (i:=11) (N:=some 39) #[true,true,true,true,true,true,true,true,true,true,true,true,false,false,false,false,false] rfl rfl (uE HT_.out (by kernel_rfl)) (by decide) (fun K hK=>?_)
     refine kD Try.func33 (by kernel_rfl) rfl #[.pointer (some ⟨g,0,none⟩),.slice Ao36 y410.length co36] (by rfl) rfl rfl byah ?_
     with_reducible refine (jL.calls g s0_0 x1001_1 _ _ y410 t413 t414 w0 _ ?side1 ?side2 ?side3 ?side4 ?side5 A21.out).mono ?_
     (case side1=>exact bybl HI0.out NB0_400.out NB0_401.out)
     (case side2=>exact bybm HI0.out GE400.out GE401.out)
     (case side3=>exact bybo HO412.out)
     (case side4=>exact bybp HO412.out)
     (case side5=>exact far_slice (qD.own_ne HI0.out HO412.out (by decide)))
     rintro e w37 ⟨rfl,hi,hb,hk⟩
     refine ⟨_,rfl,?_⟩
     have n0_:=qA.mk (Kd.zG (Kd.vF (qD.apart (show qD w0 _ g s0_0 x1001_1 from by repeat (first|(with_reducible first|exact HI0.out|apply qD.alloc|apply qD.drewN|apply qD.drew|apply qD.jR|refine qD.far ?_ NB0_400.out _|refine qD.far ?_ NB0_401.out _)|exact HI0.out)) (byav HO_402001.out) (by decide)) hk (fun _ h=>h.2)) (fun _ h=>h.1))
     have n1_:=qA.mk (qK.blk hk (g':=gb400) (o:=.cells #[.int .i64 0,.slice none 0 0,.slice none 0 0] 56 (0,0)) (byaf BK400.out) NB400_0.out (by simp))
     have n2_:=qA.mk (qK.blk hk (g':=gb401) (o:=.cells #[.int .i64 0,.slice Ao30 y407.length co30,.slice none 0 0] 56 (0,0)) (byaf BK401.out) NB401_0.out (by simp))
     have n3_:=qA.mk (Kd.zG (Kd.vF (qD.apart (show qD w0 _ g s0_0 x1001_1 from by repeat (first|(with_reducible first|exact HI0.out|apply qD.alloc|apply qD.drewN|apply qD.drew|apply qD.jR|refine qD.far ?_ NB0_400.out _|refine qD.far ?_ NB0_401.out _)|exact HI0.out)) (byav HO409.out) (by decide)) hk (fun _ h=>h.2)) (fun _ h=>h.1))
     have n4_:=qA.mk (Kd.zG (Kd.vF (qD.apart (show qD w0 _ g s0_0 x1001_1 from by repeat (first|(with_reducible first|exact HI0.out|apply qD.alloc|apply qD.drewN|apply qD.drew|apply qD.jR|refine qD.far ?_ NB0_400.out _|refine qD.far ?_ NB0_401.out _)|exact HI0.out)) (byav HO412.out) (by decide)) hk (fun _ h=>h.2)) (fun _ h=>h.1))
     have n5_:=qA.mk (qK.trans (bybn GW400.out GW401.out) hk (.inl rfl))
     have n6_:=qA.mk (hb)
     have n7_:=qA.mk (hi)
     clear HO_402001
     clear BK400
     clear BK401
     clear HO409
     clear HO412
     clear HK
     clear HB
     clear HI0
     have HO_402001:=n0_
     have BK400:=n1_
     have BK401:=n2_
     have HO409:=n3_
     have HO412:=n4_
     have HK:=n5_
     have HB:=n6_
     have HI0:=n7_
     clear n0_ n1_ n2_ n3_ n4_ n5_ n6_ n7_
     (try clear hb)
     (try clear hb2)
     (try clear hk)
     (try clear hi)
     refine hK.out _ _ ⟨(qC BK401.out 0).trans rfl,(qC BK401.out 1).trans rfl,(qC BK401.out 2).trans rfl⟩ (fun hHeld=>?_)
     clear hK K
     refine uM (a':=?_) ?_ ?_
     rotate_left
     ·show Act.put _ (some 39) _ = _
      simp only [Act.put,List.setIfInBounds_toArray,List.set_cons_zero,List.set_cons_succ,qY,zA]
      rfl
     refine zY (i:=12) (N:=some 40) (v:=?_) (a':=?_) #[true,true,true,true,true,true,true,true,true,true,true,true,true,false,false,false,false] rfl rfl (zO HT_.out (by kernel_rfl)) (fun _ _ _ h=>h) (Or.inl ⟨by rfl,?_⟩) ?_ ?_
     rotate_left
     ·intro w'
      go_simp
      with_reducible rfl
     rotate_left
     ·simp only [Act.put,List.setIfInBounds_toArray,List.set_cons_zero,List.set_cons_succ,qY,zA]
      rfl
     refine zY (i:=13) (N:=some 41) (v:=?_) (a':=?_) #[true,true,true,true,true,true,true,true,true,true,true,true,true,true,false,false,false] rfl rfl (zO HT_.out (by kernel_rfl)) (fun _ _ _ h=>h) (Or.inl ⟨by rfl,?_⟩) ?_ ?_
     rotate_left
     ·intro w'
      go_simp
      with_reducible rfl
     rotate_left
     ·simp only [Act.put,List.setIfInBounds_toArray,List.set_cons_zero,List.set_cons_succ,qY,zA]
      rfl
     refine zY (i:=14) (N:=some 42) (v:=?_) (a':=?_) #[true,true,true,true,true,true,true,true,true,true,true,true,true,true,true,false,false] rfl rfl (zO HT_.out (by kernel_rfl)) (fun _ _ _ h=>h) (Or.inl ⟨by rfl,?_⟩) ?_ ?_
     rotate_left
     ·intro w'
      go_simp
      with_reducible rfl
     rotate_left
     ·simp only [Act.put,List.setIfInBounds_toArray,List.set_cons_zero,List.set_cons_succ,qY,zA]
      rfl
     refine zY (i:=15) (N:=some 43) (v:=?_) (a':=?_) #[true,true,true,true,true,true,true,true,true,true,true,true,true,true,true,true,false] rfl rfl (zO HT_.out (by kernel_rfl)) (fun _ _ _ h=>h) (Or.inl ⟨by rfl,?_⟩) ?_ ?_
     rotate_left
     ·intro w'
      go_simp
      with_reducible rfl
     rotate_left
     ·simp only [Act.put,List.setIfInBounds_toArray,List.set_cons_zero,List.set_cons_succ,qY,zA]
      rfl
     refine last_ (i:=16) (N:=none) #[true,true,true,true,true,true,true,true,true,true,true,true,true,true,true,true,true] rfl rfl (uE HT_.out (by kernel_rfl)) (by decide) (fun K hK=>?_)
     have hs38 : w37.cell? ⟨gb401,0,none⟩ = some (.int .i64 0):=(qC BK401.out 0).trans rfl
     have hfs38:=qB BK401.out 0
     have hns38_0:=NB400_401.out
     have hms38_0:=NB401_400.out
     refine skip_ (w1:=?_) (by rfl) rfl ?_ ?_
     rotate_left
     ·go_simp
      rfl
     refine hK.out _ _ ?_
     clear hK K
     refine done_ (kS HT_.out (by kernel_rfl)) ?_
     have hcz39_0 : w37.cell? ⟨gb401,0,none⟩ = some (.int .i64 0):=(qC BK401.out 0).trans rfl
     have hcz39_1 : w37.cell? ⟨gb401,1,none⟩ = some (.slice Ao30 y407.length co30):=(qC BK401.out 1).trans rfl
     have hcz39_2 : w37.cell? ⟨gb401,2,none⟩ = some (.slice none 0 0):=(qC BK401.out 2).trans rfl
     have hfz39_0:=qB BK401.out 0
     have hfz39_1:=qB BK401.out 1
     have hfz39_2:=qB BK401.out 2
     have hnb40:=NB400_0.out
     have hnc40:=NB0_400.out
     have hcz41_0 : w37.cell? ⟨gb400,0,none⟩ = some (.int .i64 0):=(qC BK400.out 0).trans rfl
     have hcz41_1 : w37.cell? ⟨gb400,1,none⟩ = some (.slice none 0 0):=(qC BK400.out 1).trans rfl
     have hcz41_2 : w37.cell? ⟨gb400,2,none⟩ = some (.slice none 0 0):=(qC BK400.out 2).trans rfl
     have hfz41_0:=qB BK400.out 0
     have hfz41_1:=qB BK400.out 1
     have hfz41_2:=qB BK400.out 2
     try go_wp2
     refine bodyPost_ret (results_cell_row rfl _ _ gb400 56 #[.int .i64 ji23,.slice Ao30 y407.length co30,.slice none 0 0] (0,0) _ rfl (by (with_reducible repeat (first|refine qG ?_ _|refine qJ ?_|refine qF ?_ _));refine zJ (cs:=#[.int .i64 ji23,.slice Ao30 y407.length co30,.slice none 0 0]) ?_ 2 _ rfl;(with_reducible repeat (first|refine qG ?_ _|refine qJ ?_|refine qF ?_ _));refine zJ (cs:=#[.int .i64 ji23,.slice none 0 0,.slice none 0 0]) ?_ 1 _ rfl;(with_reducible repeat (first|refine qG ?_ _|refine qJ ?_|refine qF ?_ _));refine zJ (cs:=#[.int .i64 0,.slice none 0 0,.slice none 0 0]) ?_ 0 _ rfl;(with_reducible repeat (first|refine qG ?_ _|refine qJ ?_|refine qF ?_ _));refine kI ?_ NB400_401.out _;(with_reducible repeat (first|refine qG ?_ _|refine qJ ?_|refine qF ?_ _));exact BK400.out) Try.underlying56 rfl (by kernel_rfl)) rfl ?_
     exact ⟨_,_,by first|rfl|(simp [vD,vC]<;>rfl)|(simp only [← hji22,← hji23];first|rfl|(simp [vD,vC]<;>rfl))|(simp [*,vD,vC]<;>rfl),by (with_reducible repeat (first|apply Kd.jI|apply Kd.jJ|apply Kd.jM));exact Kd.zG (Kd.jD (p:=⟨gb400,2,none⟩) (Kd.jD (p:=⟨gb400,1,none⟩) (Kd.jD (p:=⟨gb400,0,none⟩) (Kd.jD (p:=⟨gb401,0,none⟩) (Kd.jW (Kd.jW HO409.out BK401.out (by decide)) BK400.out (by decide)) (fun _ hk=>hk.1.2) (.int .i64 ji23)) (fun _ hk=>hk.2) (.int .i64 ji23)) (fun _ hk=>hk.2) (.slice Ao30 y407.length co30)) (fun _ hk=>hk.2) (.slice none 0 0)) (fun _ hk=>trivial),byau,bybl HI0.out NB0_400.out NB0_401.out,bybm HI0.out GE400.out GE401.out,bybn GW400.out GW401.out⟩
    ·rw [if_neg c20] at H
     have c20b0 : ((x402001_1.length : Int) == 0) = false:=beq_eq_false_iff_ne.mpr c20
     have c20b1 : ((x402001_1.length : Int) != 0) = true:=bne_iff_ne.mpr c20
     have c20b2 : ¬ (x402001_1 = []):=fun h_=>c20 (by rw [h_];rfl)
     obtain ⟨y415,hy415⟩ : ∃ y_ : List Int,y_ = (([0,0,0,1,(-1)] : List Int)):=⟨_,rfl⟩
     replace H : ((jL.f s0_0 x1001_1 y415).bind fun bt418=>(some (mn (x402001_1.length : Int) (mx 1 (wrap64 ((wrap64 (Int.tdiv (wrap64 ((wrap64 (2 * (x402001_1.length : Int))) + 2)) 3)) + bt418.1))),x402001_1,([] : List (S56)),bt418.2))) = some (r1,r2,r3,r4):=by first|(rw [hy415];with_reducible exact H)|(have H2_:=(Option.bind_some _ _).symm.trans H;rw [hy415];with_reducible exact H2_)|(have H2_:=(Option.bind_some _ _).symm.trans H;with_reducible exact H2_)|with_reducible exact H|(rw [hy415];exact H)|exact H
     have Ny415:=qA.mk hy415
     clear hy415
     replace H:=Option.bind_eq_some_iff.mp H
     obtain ⟨⟨t418,t419⟩,A420,H⟩:=H
     replace H : (some (mn (x402001_1.length : Int) (mx 1 (wrap64 ((wrap64 (Int.tdiv (wrap64 ((wrap64 (2 * (x402001_1.length : Int))) + 2)) 3)) + t418))),x402001_1,([] : List (S56)),t419)) = some (r1,r2,r3,r4):=H
     have A42:=qA.mk A420
     clear A420
     obtain ⟨ji43,hji43⟩ : ∃ j_ : Int,(mx 1 (wrap64 ((wrap64 (Int.tdiv (wrap64 ((wrap64 (2 * (x402001_1.length : Int))) + 2)) 3)) + t418))) = j_:=⟨_,rfl⟩
     replace H : (some (mn (x402001_1.length : Int) (ji43),x402001_1,([] : List (S56)),t419)) = some (r1,r2,r3,r4):=by first|(rw [hji43] at H;exact H)|(simp only [hji43] at H ⊢;exact H)
     (try rw [hji43] at A42)
     have hji43_ : (if 1 < (wrap64 ((wrap64 (Int.tdiv (wrap64 ((wrap64 (2 * (x402001_1.length : Int))) + 2)) 3)) + t418)) then (wrap64 ((wrap64 (Int.tdiv (wrap64 ((wrap64 (2 * (x402001_1.length : Int))) + 2)) 3)) + t418)) else 1) = ji43:=hji43
     obtain ⟨ji44,hji44⟩ : ∃ j_ : Int,(mn (x402001_1.length : Int) (ji43)) = j_:=⟨_,rfl⟩
     replace H : (some (ji44,x402001_1,([] : List (S56)),t419)) = some (r1,r2,r3,r4):=by first|(rw [hji44] at H;exact H)|(simp only [hji44] at H ⊢;exact H)
     (try rw [hji44] at A42)
     have hji44_ : (if (ji43) < (x402001_1.length : Int) then (ji43) else (x402001_1.length : Int)) = ji44:=hji44
     simp only [Option.some.injEq,Prod.mk.injEq] at H
     obtain ⟨rfl,rfl,rfl,rfl⟩:=H
     have hnb45:=NB401_400.out
     have hnc45:=NB400_401.out
     have hnb46:=NB401_0.out
     have hnc46:=NB0_401.out
     have hcz47_0 : wr.cell? ⟨gb401,0,none⟩ = some (.int .i64 0):=(qC BK401.out 0).trans rfl
     have hcz47_1 : wr.cell? ⟨gb401,1,none⟩ = some (u402001):=(qC BK401.out 1).trans rfl
     have hcz47_2 : wr.cell? ⟨gb401,2,none⟩ = some (.slice none 0 0):=(qC BK401.out 2).trans rfl
     have hfz47_0:=qB BK401.out 0
     have hfz47_1:=qB BK401.out 1
     have hfz47_2:=qB BK401.out 2
     obtain ⟨Ao48,co48,eo48⟩:=Kd.jT HO_402001.out
     subst eo48
     try go_wp2
     have n0_:=qA.mk (Kd.jM HO_402001.out)
     have n1_:=qA.mk (qJ BK400.out)
     have n2_:=qA.mk (qJ BK401.out)
     have n3_:=qA.mk (qD.drew HI0.out)
     have n4_:=qA.mk (kM HK.out)
     have n5_:=qA.mk (jY HB.out)
     clear HO_402001
     clear BK400
     clear BK401
     clear HI0
     clear HK
     clear HB
     have HO_402001:=n0_
     have BK400:=n1_
     have BK401:=n2_
     have HI0:=n3_
     have HK:=n4_
     have HB:=n5_
     clear n0_ n1_ n2_ n3_ n4_ n5_
     refine kJ (n:=17) (S:=fun w'=>w'.cell? ⟨gb401,0,none⟩ = some (.int .i64 0)∧w'.cell? ⟨gb401,1,none⟩ = some (.slice Ao48 x402001_1.length co48)∧w'.cell? ⟨gb401,2,none⟩ = some (.slice none 0 0)) (ds:=[16]) #[false,false,false,false,false,false,false,false,false,false,false,false,false,false,false,false,false] (by kernel_rfl) rfl rfl ⟨(qC BK401.out 0).trans rfl,(qC BK401.out 1).trans rfl,(qC BK401.out 2).trans rfl⟩ (fun hHeld=>?_);refine uY zR.tab9 zR.bits9 (fun HT_ HW_=>?_)
     generalize wr.drew = w49 at HO_402001 BK400 BK401 HI0 HK HB hHeld ⊢
     refine zY (i:=0) (N:=some 28) (v:=?_) (a':=?_) #[true,false,false,false,false,false,false,false,false,false,false,false,false,false,false,false,false] rfl rfl (zO HT_.out (by kernel_rfl)) (fun _ _ _ h=>h) (Or.inl ⟨by rfl,?_⟩) ?_ ?_
     rotate_left
     ·intro w'
      go_simp
      with_reducible rfl
     rotate_left
     ·simp only [Act.put,List.setIfInBounds_toArray,List.set_cons_zero,List.set_cons_succ,qY,zA]
      rfl
     refine zY (i:=3) (N:=some 31) (v:=?_) (a':=?_) #[true,false,false,true,false,false,false,false,false,false,false,false,false,false,false,false,false] rfl rfl (zO HT_.out (by kernel_rfl)) (fun _ _ _ h=>h) (Or.inl ⟨by rfl,?_⟩) ?_ ?_
     rotate_left
     ·intro w'
      go_simp
      with_reducible rfl
     rotate_left
     ·simp only [Act.put,List.setIfInBounds_toArray,List.set_cons_zero,List.set_cons_succ,qY,zA]
      rfl
     refine zY (i:=9) (N:=some 37) (v:=?_) (a':=?_) #[true,false,false,true,false,false,false,false,false,true,false,false,false,false,false,false,false] rfl rfl (zO HT_.out (by kernel_rfl)) (fun _ _ _ h=>h) (Or.inl ⟨by rfl,?_⟩) ?_ ?_
     rotate_left
     ·intro w'
      go_simp
      with_reducible rfl
     rotate_left
     ·simp only [Act.put,List.setIfInBounds_toArray,List.set_cons_zero,List.set_cons_succ,qY,zA]
      rfl
     refine vZ (i:=1) (N:=some 29) (v:=?_) (a':=?_) #[true,true,false,true,false,false,false,false,false,true,false,false,false,false,false,false,false] rfl rfl (vJ HT_.out HW_.out (by kernel_rfl)) (fun _ _ _ h=>h) (Or.inl ⟨by rfl,?_⟩) hHeld ?_ ?_
     rotate_left
     ·rintro w' ⟨s0,s1,s2⟩
      go_simp
      with_reducible rfl
     rotate_left
     ·simp only [Act.put,List.setIfInBounds_toArray,List.set_cons_zero,List.set_cons_succ,qY,zA]
      rfl
     refine zY (i:=2) (N:=some 30) (v:=?_) (a':=?_) #[true,true,true,true,false,false,false,false,false,true,false,false,false,false,false,false,false] rfl rfl (zO HT_.out (by kernel_rfl)) (fun _ _ _ h=>h) (Or.inl ⟨by rfl,?_⟩) ?_ ?_
     rotate_left
     ·intro w'
      go_simp
      with_reducible rfl
     rotate_left
     ·simp only [Act.put,List.setIfInBounds_toArray,List.set_cons_zero,List.set_cons_succ,qY,zA]
      rfl
     refine vZ (i:=4) (N:=some 32) (v:=?_) (a':=?_) #[true,true,true,true,true,false,false,false,false,true,false,false,false,false,false,false,false] rfl rfl (vJ HT_.out HW_.out (by kernel_rfl)) (fun _ _ _ h=>h) (Or.inl ⟨by rfl,?_⟩) hHeld ?_ ?_
     rotate_left
     ·rintro w' ⟨s0,s1,s2⟩
      go_simp
      with_reducible rfl
     rotate_left
     ·simp only [Act.put,List.setIfInBounds_toArray,List.set_cons_zero,List.set_cons_succ,qY,zA]
      rfl
     refine zY (i:=5) (N:=some 33) (v:=?_) (a':=?_) #[true,true,true,true,true,true,false,false,false,true,false,false,false,false,false,false,false] rfl rfl (zO HT_.out (by kernel_rfl)) (fun _ _ _ h=>h) (Or.inl ⟨by rfl,?_⟩) ?_ ?_
     rotate_left
     ·intro w'
      go_simp
      with_reducible rfl
     rotate_left
     ·simp only [Act.put,List.setIfInBounds_toArray,List.set_cons_zero,List.set_cons_succ,qY,zA]
      rfl
     refine zY (i:=6) (N:=some 34) (v:=?_) (a':=?_) #[true,true,true,true,true,true,true,false,false,true,false,false,false,false,false,false,false] rfl rfl (zO HT_.out (by kernel_rfl)) (fun _ _ _ h=>h) (Or.inl ⟨by rfl,?_⟩) ?_ ?_
     rotate_left
     ·intro w'
      go_simp
      with_reducible rfl
     rotate_left
     ·simp only [Act.put,List.setIfInBounds_toArray,List.set_cons_zero,List.set_cons_succ,qY,zA]
      rfl
     refine zY (i:=7) (N:=some 35) (v:=?_) (a':=?_) #[true,true,true,true,true,true,true,true,false,true,false,false,false,false,false,false,false] rfl rfl (zO HT_.out (by kernel_rfl)) (fun _ _ _ h=>h) (Or.inl ⟨by rfl,?_⟩) ?_ ?_
     rotate_left
     ·intro w'
      go_simp
      with_reducible rfl
     rotate_left
     ·simp only [Act.put,List.setIfInBounds_toArray,List.set_cons_zero,List.set_cons_succ,qY,zA]
      rfl
     refine zY (i:=8) (N:=some 36) (v:=?_) (a':=?_) #[true,true,true,true,true,true,true,true,true,true,false,false,false,false,false,false,false] rfl rfl (zO HT_.out (by kernel_rfl)) (fun _ _ _ h=>h) (Or.inl ⟨by rfl,?_⟩) ?_ ?_
     rotate_left
     ·intro w'
      go_simp
      with_reducible rfl
     rotate_left
     ·simp only [Act.put,List.setIfInBounds_toArray,List.set_cons_zero,List.set_cons_succ,qY,zA]
      rfl
     refine one_ (i:=10) (N:=some 38) #[true,true,true,true,true,true,true,true,true,true,true,false,false,false,false,false,false] rfl rfl (uE HT_.out (by kernel_rfl)) (by decide) (fun K hK=>?_)
     refine Kd.R_lit_step (Kd.int .i64) _ 3 ?hg (N:=38) ?hd (xs:=([0,0,0,1,(-1)] : List Int)) (inner:=[.int .i64 0,.int .i64 0,.int .i64 0,.int .i64 1,.int .i64 (-1)]) (ok:=fun _=>True) (okp:=fun _=>True) ?hr ?hp (fun _ hk=>hk) trivial (Below.refl _ _) (Nat.le_refl _) (by simp) ?_;(case hd=>rfl);(case hg=>rfl);(case hr=>exact byaa);(case hp=>exact (Reps.one (show Kd.M (Kd.int .i64) _ _ _ 0 [.int .i64 0] from rfl) (Reps.one (show Kd.M (Kd.int .i64) _ _ _ 0 [.int .i64 0] from rfl) (Reps.one (show Kd.M (Kd.int .i64) _ _ _ 0 [.int .i64 0] from rfl) (Reps.one (show Kd.M (Kd.int .i64) _ _ _ 1 [.int .i64 1] from rfl) (Reps.one (show Kd.M (Kd.int .i64) _ _ _ (-1) [.int .i64 (-1)] from rfl) (Reps.none _ _)))))))
     intro v416 w50 ho51 hb hg_ hnew_
     clear hg_ hnew_
     (first|rw [← Ny415.out] at ho51|(simp only [Int.reduceToNat] at ho51;rw [← Ny415.out] at ho51))
     have n0_:=qA.mk (Kd.R_elder' (byav HO_402001.out) (Kd.uD ho51) hb)
     have n1_:=qA.mk (Kd.vR (Kd.R_new' ho51 (Kd.R_lt (byav HO_402001.out))) (jV (w:=w) (g:=g) (row:=none) (bybn GW400.out GW401.out)))
     have n2_:=qA.mk (qH (g:=gb400) (o:=.cells #[.int .i64 0,.slice none 0 0,.slice none 0 0] 56 (0,0)) (byaf BK400.out) hb)
     have n3_:=qA.mk (qH (g:=gb401) (o:=.cells #[.int .i64 0,.slice Ao48 x402001_1.length co48,.slice none 0 0] 56 (0,0)) (byaf BK401.out) hb)
     have n4_:=qA.mk (qD.below (bybl HI0.out NB0_400.out NB0_401.out) hb)
     have n5_:=qA.mk (qK.trans (bybn GW400.out GW401.out) (qK.of_below hb g none) (.inl rfl))
     have n6_:=qA.mk (qE (bybm HI0.out GE400.out GE401.out) hb)
     clear HO_402001
     clear BK400
     clear BK401
     clear HI0
     clear HK
     clear HB
     have HO_402001:=n0_
     have HO417:=n1_
     have BK400:=n2_
     have BK401:=n3_
     have HI0:=n4_
     have HK:=n5_
     have HB:=n6_
     clear n0_ n1_ n2_ n3_ n4_ n5_ n6_
     clear hb ho51
     obtain ⟨Ao52,co52,eo52⟩:=Kd.jT HO417.out
     (first|subst eo52|(injection eo52 with f1_ f2_ f3_;have f4_:=f1_.symm;have f5_:=f3_.symm;clear f1_ f2_ f3_;subst f4_;subst f5_))
     refine hK.out _ _ ⟨(qC BK401.out 0).trans rfl,(qC BK401.out 1).trans rfl,(qC BK401.out 2).trans rfl⟩ (fun hHeld=>?_)
     clear hK K
     refine uM (a':=?_) ?_ ?_
     rotate_left
     ·show Act.put _ (some 38) _ = _
      simp only [Act.put,List.setIfInBounds_toArray,List.set_cons_zero,List.set_cons_succ,qY,zA]
      rfl
     refine one_ (i:=11) (N:=some 39) #[true,true,true,true,true,true,true,true,true,true,true,true,false,false,false,false,false] rfl rfl (uE HT_.out (by kernel_rfl)) (by decide) (fun K hK=>?_)
     refine kD Try.func33 (by kernel_rfl) rfl #[.pointer (some ⟨g,0,none⟩),.slice Ao52 y415.length co52] (by rfl) rfl rfl byah ?_
     with_reducible refine (jL.calls g s0_0 x1001_1 _ _ y415 t418 t419 w0 _ ?side1 ?side2 ?side3 ?side4 ?side5 A42.out).mono ?_
     (case side1=>exact bybl HI0.out NB0_400.out NB0_401.out)
     (case side2=>exact bybm HI0.out GE400.out GE401.out)
     (case side3=>exact bybo HO417.out)
     (case side4=>exact bybp HO417.out)
     (case side5=>exact far_slice (qD.own_ne HI0.out HO417.out (by decide)))
     rintro e w53 ⟨rfl,hi,hb,hk⟩
     refine ⟨_,rfl,?_⟩
     have n0_:=qA.mk (Kd.zG (Kd.vF (qD.apart (show qD w0 _ g s0_0 x1001_1 from by repeat (first|(with_reducible first|exact HI0.out|apply qD.alloc|apply qD.drewN|apply qD.drew|apply qD.jR|refine qD.far ?_ NB0_400.out _|refine qD.far ?_ NB0_401.out _)|exact HI0.out)) (byav HO_402001.out) (by decide)) hk (fun _ h=>h.2)) (fun _ h=>h.1))
     have n1_:=qA.mk (qK.blk hk (g':=gb400) (o:=.cells #[.int .i64 0,.slice none 0 0,.slice none 0 0] 56 (0,0)) (byaf BK400.out) NB400_0.out (by simp))
     have n2_:=qA.mk (qK.blk hk (g':=gb401) (o:=.cells #[.int .i64 0,.slice Ao48 x402001_1.length co48,.slice none 0 0] 56 (0,0)) (byaf BK401.out) NB401_0.out (by simp))
     have n3_:=qA.mk (Kd.zG (Kd.vF (qD.apart (show qD w0 _ g s0_0 x1001_1 from by repeat (first|(with_reducible first|exact HI0.out|apply qD.alloc|apply qD.drewN|apply qD.drew|apply qD.jR|refine qD.far ?_ NB0_400.out _|refine qD.far ?_ NB0_401.out _)|exact HI0.out)) (byav HO417.out) (by decide)) hk (fun _ h=>h.2)) (fun _ h=>h.1))
     have n4_:=qA.mk (qK.trans (bybn GW400.out GW401.out) hk (.inl rfl))
     have n5_:=qA.mk (hb)
     have n6_:=qA.mk (hi)
     clear HO_402001
     clear BK400
     clear BK401
     clear HO417
     clear HK
     clear HB
     clear HI0
     have HO_402001:=n0_
     have BK400:=n1_
     have BK401:=n2_
     have HO417:=n3_
     have HK:=n4_
     have HB:=n5_
     have HI0:=n6_
     clear n0_ n1_ n2_ n3_ n4_ n5_ n6_
     (try clear hb)
     (try clear hb2)
     (try clear hk)
     (try clear hi)
     refine hK.out _ _ ⟨(qC BK401.out 0).trans rfl,(qC BK401.out 1).trans rfl,(qC BK401.out 2).trans rfl⟩ (fun hHeld=>?_)
     clear hK K
     refine uM (a':=?_) ?_ ?_
     rotate_left
     ·show Act.put _ (some 39) _ = _
      simp only [Act.put,List.setIfInBounds_toArray,List.set_cons_zero,List.set_cons_succ,qY,zA]
      rfl
     refine zY (i:=12) (N:=some 40) (v:=?_) (a':=?_) #[true,true,true,true,true,true,true,true,true,true,true,true,true,false,false,false,false] rfl rfl (zO HT_.out (by kernel_rfl)) (fun _ _ _ h=>h) (Or.inl ⟨by rfl,?_⟩) ?_ ?_
     rotate_left
     ·intro w'
      go_simp
      with_reducible rfl
     rotate_left
     ·simp only [Act.put,List.setIfInBounds_toArray,List.set_cons_zero,List.set_cons_succ,qY,zA]
      rfl
     refine zY (i:=13) (N:=some 41) (v:=?_) (a':=?_) #[true,true,true,true,true,true,true,true,true,true,true,true,true,true,false,false,false] rfl rfl (zO HT_.out (by kernel_rfl)) (fun _ _ _ h=>h) (Or.inl ⟨by rfl,?_⟩) ?_ ?_
     rotate_left
     ·intro w'
      go_simp
      with_reducible rfl
     rotate_left
     ·simp only [Act.put,List.setIfInBounds_toArray,List.set_cons_zero,List.set_cons_succ,qY,zA]
      rfl
     refine zY (i:=14) (N:=some 42) (v:=?_) (a':=?_) #[true,true,true,true,true,true,true,true,true,true,true,true,true,true,true,false,false] rfl rfl (zO HT_.out (by kernel_rfl)) (fun _ _ _ h=>h) (Or.inl ⟨by rfl,?_⟩) ?_ ?_
     rotate_left
     ·intro w'
      go_simp
      with_reducible rfl
     rotate_left
     ·simp only [Act.put,List.setIfInBounds_toArray,List.set_cons_zero,List.set_cons_succ,qY,zA]
      rfl
     refine zY (i:=15) (N:=some 43) (v:=?_) (a':=?_) #[true,true,true,true,true,true,true,true,true,true,true,true,true,true,true,true,false] rfl rfl (zO HT_.out (by kernel_rfl)) (fun _ _ _ h=>h) (Or.inl ⟨by rfl,?_⟩) ?_ ?_
     rotate_left
     ·intro w'
      go_simp
      with_reducible rfl
     rotate_left
     ·simp only [Act.put,List.setIfInBounds_toArray,List.set_cons_zero,List.set_cons_succ,qY,zA]
      rfl
     refine last_ (i:=16) (N:=none) #[true,true,true,true,true,true,true,true,true,true,true,true,true,true,true,true,true] rfl rfl (uE HT_.out (by kernel_rfl)) (by decide) (fun K hK=>?_)
     have hs54 : w53.cell? ⟨gb401,0,none⟩ = some (.int .i64 0):=(qC BK401.out 0).trans rfl
     have hfs54:=qB BK401.out 0
     have hns54_0:=NB400_401.out
     have hms54_0:=NB401_400.out
     refine skip_ (w1:=?_) (by rfl) rfl ?_ ?_
     rotate_left
     ·go_simp
      rfl
     refine hK.out _ _ ?_
     clear hK K
     refine done_ (kS HT_.out (by kernel_rfl)) ?_
     have hcz55_0 : w53.cell? ⟨gb401,0,none⟩ = some (.int .i64 0):=(qC BK401.out 0).trans rfl
     have hcz55_1 : w53.cell? ⟨gb401,1,none⟩ = some (.slice Ao48 x402001_1.length co48):=(qC BK401.out 1).trans rfl
     have hcz55_2 : w53.cell? ⟨gb401,2,none⟩ = some (.slice none 0 0):=(qC BK401.out 2).trans rfl
     have hfz55_0:=qB BK401.out 0
     have hfz55_1:=qB BK401.out 1
     have hfz55_2:=qB BK401.out 2
     have hnb56:=NB400_0.out
     have hnc56:=NB0_400.out
     have hcz57_0 : w53.cell? ⟨gb400,0,none⟩ = some (.int .i64 0):=(qC BK400.out 0).trans rfl
     have hcz57_1 : w53.cell? ⟨gb400,1,none⟩ = some (.slice none 0 0):=(qC BK400.out 1).trans rfl
     have hcz57_2 : w53.cell? ⟨gb400,2,none⟩ = some (.slice none 0 0):=(qC BK400.out 2).trans rfl
     have hfz57_0:=qB BK400.out 0
     have hfz57_1:=qB BK400.out 1
     have hfz57_2:=qB BK400.out 2
     try go_wp2
     refine bodyPost_ret (results_cell_row rfl _ _ gb400 56 #[.int .i64 ji44,.slice Ao48 x402001_1.length co48,.slice none 0 0] (0,0) _ rfl (by (with_reducible repeat (first|refine qG ?_ _|refine qJ ?_|refine qF ?_ _));refine zJ (cs:=#[.int .i64 ji44,.slice Ao48 x402001_1.length co48,.slice none 0 0]) ?_ 2 _ rfl;(with_reducible repeat (first|refine qG ?_ _|refine qJ ?_|refine qF ?_ _));refine zJ (cs:=#[.int .i64 ji44,.slice none 0 0,.slice none 0 0]) ?_ 1 _ rfl;(with_reducible repeat (first|refine qG ?_ _|refine qJ ?_|refine qF ?_ _));refine zJ (cs:=#[.int .i64 0,.slice none 0 0,.slice none 0 0]) ?_ 0 _ rfl;(with_reducible repeat (first|refine qG ?_ _|refine qJ ?_|refine qF ?_ _));refine kI ?_ NB400_401.out _;(with_reducible repeat (first|refine qG ?_ _|refine qJ ?_|refine qF ?_ _));exact BK400.out) Try.underlying56 rfl (by kernel_rfl)) rfl ?_
     exact ⟨_,_,by first|rfl|(simp [vD,vC]<;>rfl)|(simp only [← hji43,← hji44];first|rfl|(simp [vD,vC]<;>rfl))|(simp [*,vD,vC]<;>rfl),by (with_reducible repeat (first|apply Kd.jI|apply Kd.jJ|apply Kd.jM));exact Kd.zG (Kd.jD (p:=⟨gb400,2,none⟩) (Kd.jD (p:=⟨gb400,1,none⟩) (Kd.jD (p:=⟨gb400,0,none⟩) (Kd.jD (p:=⟨gb401,0,none⟩) (Kd.jW (Kd.jW HO_402001.out BK401.out (by decide)) BK400.out (by decide)) (fun _ hk=>hk.1.2) (.int .i64 ji44)) (fun _ hk=>hk.2) (.int .i64 ji44)) (fun _ hk=>hk.2) (.slice Ao48 x402001_1.length co48)) (fun _ hk=>hk.2) (.slice none 0 0)) (fun _ hk=>trivial),byau,bybl HI0.out NB0_400.out NB0_401.out,bybm HI0.out GE400.out GE401.out,bybn GW400.out GW401.out⟩
end Go.Proofs.Ytkkbdimegpdbgaa.P
