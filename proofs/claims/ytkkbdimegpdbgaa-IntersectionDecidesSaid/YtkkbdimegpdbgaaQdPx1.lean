/- Functions of the program as Lean functions, and the walks that show that the calls answer so; written by a program of this session (a changed print) and by hand. -/
import Derived.Test.YtkkbdimegpdbgaaQdPx0
namespace Go.Proofs.Ytkkbdimegpdbgaa.P
open Go.RowKit Go.Proofs.YtkkbdimegpdbgaaW.PrintWords Go.Proofs.YtkkbdimegpdbgaaW.PrintLast Go.Proofs.YtkkbdimegpdbgaaW.PrintMore
attribute [local go_sem] uH uI uQ uR vW vV uF uG
set_option linter.unusedVariables false
set_option linter.unusedSimpArgs false
def vO.f (a0_0 : Int) (l0_1 : List Int) (l0_2 : List (S56)) : Option (Bool):=if a0_0 = 0 then (if (l0_1.length : Int) = 0 then (some ((l0_2.length : Int) == 0)) else (some false)) else (some false)
set_option maxHeartbeats 8000000 in
set_option maxRecDepth 100000 in
theorem vO.calls (a0_0 : Int) (A0_1 : Option Addr) (c0_1 : Nat) (l0_1 : List Int) (A0_2 : Option Addr) (c0_2 : Nat) (l0_2 : List (S56)) (r : Bool) (w : World) (hr0_1 : Kd.C (Kd.int .i64) w A0_1 l0_1.length l0_1) (hc0_1 : l0_1.length ≤ c0_1) (hr0_2 : Kd.C k56 w A0_2 l0_2.length l0_2) (hc0_2 : l0_2.length ≤ c0_2) (h : vO.f a0_0 l0_1 l0_2 = some r) :
  Calls Try.prog 68 #[.agg #[.int .i64 a0_0,.slice A0_1 l0_1.length c0_1,.slice A0_2 l0_2.length c0_2]] w fun e w'=>e = .returned (.bool r)∧Below w.heap.size w w':=by
 have hu56:=Try.underlying56
 have HR0_1:=qA.mk hr0_1
 have HC0_1:=qA.mk hc0_1
 clear hr0_1 hc0_1
 have HR0_2:=qA.mk hr0_2
 have HC0_2:=qA.mk hc0_2
 clear hr0_2 hc0_2
 have HB:=qA.mk (Below.refl w.heap.size w)
 have H : (if a0_0 = 0 then (if (l0_1.length : Int) = 0 then (some ((l0_2.length : Int) == 0)) else (some false)) else (some false)) = some r:=h
 clear h
 by_cases c2 : a0_0 = 0
 ·rw [if_pos c2] at H
  have c2b0 : (a0_0 == 0) = true:=beq_iff_eq.mpr c2
  have c2b1 : (a0_0 != 0) = false:=bne_eq_false_iff_eq.mpr c2
  clear c2
  by_cases c3 : (l0_1.length : Int) = 0
  ·rw [if_pos c3] at H
   have c3b0 : ((l0_1.length : Int) == 0) = true:=beq_iff_eq.mpr c3
   have c3b1 : ((l0_1.length : Int) != 0) = false:=bne_eq_false_iff_eq.mpr c3
   clear c3
   obtain rfl:=Option.some.inj H
   go_enter Try.func68,Try.ntmps68
   go_wp2_with (first|((with_reducible refine zK (N:=1) rfl ?_);(try (refine uX (by rfl) ?_;dsimp only));refine q9 ?hg (N:=1) ?hd (cs:=#[.int .i64 a0_0,.slice A0_1 l0_1.length c0_1,.slice A0_2 l0_2.length c0_2]) (t:=56) ?hr ?_;(case hd=>rfl);(case hg=>rfl);(case hr=>exact byaa);intro gb101 hg w4 hbox hb;have n0_:=qA.mk (qE byab hb);have n1_:=qA.mk (hbox);have n2_:=qA.mk ((byby : w.heap.size ≤ gb101));have n3_:=qA.mk ((byby : w.heap.size ≤ gb101));clear HB;have HB:=n0_;have BK101:=n1_;have GW101:=n2_;have GE101:=n3_;clear n0_ n1_ n2_ n3_;clear hb hbox hg;have hcz5_0 : w4.cell? ⟨gb101,0,none⟩ = some (.int .i64 a0_0):=(qC BK101.out 0).trans rfl;have hcz5_1 : w4.cell? ⟨gb101,1,none⟩ = some (.slice A0_1 l0_1.length c0_1):=(qC BK101.out 1).trans rfl;have hcz5_2 : w4.cell? ⟨gb101,2,none⟩ = some (.slice A0_2 l0_2.length c0_2):=(qC BK101.out 2).trans rfl;have hfz5_0:=qB BK101.out 0;have hfz5_1:=qB BK101.out 1;have hfz5_2:=qB BK101.out 2))
   go_ret
   exact ⟨byac,byad GE101.out⟩
  ·rw [if_neg c3] at H
   have c3b0 : ((l0_1.length : Int) == 0) = false:=beq_eq_false_iff_ne.mpr c3
   have c3b1 : ((l0_1.length : Int) != 0) = true:=bne_iff_ne.mpr c3
   have c3b2 : ¬ (l0_1 = []):=fun h_=>c3 (by rw [h_];rfl)
   obtain rfl:=Option.some.inj H
   go_enter Try.func68,Try.ntmps68
   go_wp2_with (first|((with_reducible refine zK (N:=1) rfl ?_);(try (refine uX (by rfl) ?_;dsimp only));refine q9 ?hg (N:=1) ?hd (cs:=#[.int .i64 a0_0,.slice A0_1 l0_1.length c0_1,.slice A0_2 l0_2.length c0_2]) (t:=56) ?hr ?_;(case hd=>rfl);(case hg=>rfl);(case hr=>exact byaa);intro gb101 hg w6 hbox hb;have n0_:=qA.mk (qE byab hb);have n1_:=qA.mk (hbox);have n2_:=qA.mk ((byby : w.heap.size ≤ gb101));have n3_:=qA.mk ((byby : w.heap.size ≤ gb101));clear HB;have HB:=n0_;have BK101:=n1_;have GW101:=n2_;have GE101:=n3_;clear n0_ n1_ n2_ n3_;clear hb hbox hg;have hcz7_0 : w6.cell? ⟨gb101,0,none⟩ = some (.int .i64 a0_0):=(qC BK101.out 0).trans rfl;have hcz7_1 : w6.cell? ⟨gb101,1,none⟩ = some (.slice A0_1 l0_1.length c0_1):=(qC BK101.out 1).trans rfl;have hcz7_2 : w6.cell? ⟨gb101,2,none⟩ = some (.slice A0_2 l0_2.length c0_2):=(qC BK101.out 2).trans rfl;have hfz7_0:=qB BK101.out 0;have hfz7_1:=qB BK101.out 1;have hfz7_2:=qB BK101.out 2))
   go_ret
   exact ⟨byac,byad GE101.out⟩
 ·rw [if_neg c2] at H
  have c2b0 : (a0_0 == 0) = false:=beq_eq_false_iff_ne.mpr c2
  have c2b1 : (a0_0 != 0) = true:=bne_iff_ne.mpr c2
  obtain rfl:=Option.some.inj H
  go_enter Try.func68,Try.ntmps68
  go_wp2_with (first|((with_reducible refine zK (N:=1) rfl ?_);(try (refine uX (by rfl) ?_;dsimp only));refine q9 ?hg (N:=1) ?hd (cs:=#[.int .i64 a0_0,.slice A0_1 l0_1.length c0_1,.slice A0_2 l0_2.length c0_2]) (t:=56) ?hr ?_;(case hd=>rfl);(case hg=>rfl);(case hr=>exact byaa);intro gb101 hg w8 hbox hb;have n0_:=qA.mk (qE byab hb);have n1_:=qA.mk (hbox);have n2_:=qA.mk ((byby : w.heap.size ≤ gb101));have n3_:=qA.mk ((byby : w.heap.size ≤ gb101));clear HB;have HB:=n0_;have BK101:=n1_;have GW101:=n2_;have GE101:=n3_;clear n0_ n1_ n2_ n3_;clear hb hbox hg;have hcz9_0 : w8.cell? ⟨gb101,0,none⟩ = some (.int .i64 a0_0):=(qC BK101.out 0).trans rfl;have hcz9_1 : w8.cell? ⟨gb101,1,none⟩ = some (.slice A0_1 l0_1.length c0_1):=(qC BK101.out 1).trans rfl;have hcz9_2 : w8.cell? ⟨gb101,2,none⟩ = some (.slice A0_2 l0_2.length c0_2):=(qC BK101.out 2).trans rfl;have hfz9_0:=qB BK101.out 0;have hfz9_1:=qB BK101.out 1;have hfz9_2:=qB BK101.out 2))
  go_ret
  exact ⟨byac,byad GE101.out⟩
mutual
def zV.l0 : Nat→Int→List (S56)→Int→Int→Option (Int)
 | 0,_,_,_,_=>none
 | k + 1,x3,x7,x8,x9=>if x9 < x8 then (if 0 ≤ x9 then (if x9 < (x7.length : Int) then ((zV.f k ((qX x7 x9).f0) ((qX x7 x9).f1) ((qX x7 x9).f2)).bind fun t105=>(zV.l0 k (mx x3 t105) x7 x8 (wrap64 (x9 + 1)))) else (none)) else (none)) else (some (wrap64 (x3 + 1)))
def zV.f : Nat→Int→List Int→List (S56)→Option (Int)
 | 0,_,_,_=>none
 | k + 1,a0_0,l0_1,l0_2=>zV.l0 k 0 l0_2 (l0_2.length : Int) 0
end
theorem zV.mono_l : ∀ k,(∀ y0 y1 y2,LeO (zV.f k y0 y1 y2) (zV.f (k + 1) y0 y1 y2))∧(∀ y0 y1 y2 y3,LeO (zV.l0 k y0 y1 y2 y3) (zV.l0 (k + 1) y0 y1 y2 y3))
 | 0=>⟨fun _ _ _ r h=>by simp [zV.f] at h,fun _ _ _ _ r h=>by simp [zV.l0] at h⟩
 | k + 1=>by
  obtain ⟨ih0,ih1⟩:=zV.mono_l k
  refine ⟨?_,?_⟩
  ·intro y0 y1 y2
   unfold zV.f
   repeat' first
   | (with_reducible exact ih0 _ _ _)
   | (with_reducible exact ih1 _ _ _ _)
   | (with_reducible exact LeO.refl _)
   | (with_reducible exact LeO.none _)
   | (with_reducible refine LeO.ite ?_ ?_)
   | (with_reducible refine LeO.bind ?_ (fun _=>?_))
   | exact ih0 _ _ _
   | exact ih1 _ _ _ _
   | exact LeO.none _
   | refine LeO.ite ?_ ?_
   | refine LeO.bind ?_ (fun _=>?_)
  ·intro y0 y1 y2 y3
   unfold zV.l0
   repeat' first
   | (with_reducible exact ih0 _ _ _)
   | (with_reducible exact ih1 _ _ _ _)
   | (with_reducible exact LeO.refl _)
   | (with_reducible exact LeO.none _)
   | (with_reducible refine LeO.ite ?_ ?_)
   | (with_reducible refine LeO.bind ?_ (fun _=>?_))
   | exact ih0 _ _ _
   | exact ih1 _ _ _ _
   | exact LeO.none _
   | refine LeO.ite ?_ ?_
   | refine LeO.bind ?_ (fun _=>?_)
theorem zV.mono : ∀ a0 a1 a2 k,LeO (zV.f k a0 a1 a2) (zV.f (k + 1) a0 a1 a2):=by
 intro a0 a1 a2 k
 obtain ⟨ih0,ih1⟩:=zV.mono_l k
 exact ih0 a0 a1 a2
set_option maxHeartbeats 8000000 in
set_option maxRecDepth 100000 in
theorem zV.calls (k : Nat) : ∀ (a0_0 : Int) (A0_1 : Option Addr) (c0_1 : Nat) (l0_1 : List Int) (A0_2 : Option Addr) (c0_2 : Nat) (l0_2 : List (S56)) (r : Int) (w : World) (hr0_1 : Kd.C (Kd.int .i64) w A0_1 l0_1.length l0_1) (hc0_1 : l0_1.length ≤ c0_1) (hr0_2 : Kd.C k56 w A0_2 l0_2.length l0_2) (hc0_2 : l0_2.length ≤ c0_2) (h : zV.f k a0_0 l0_1 l0_2 = some r),
  Calls Try.prog 81 #[.agg #[.int .i64 a0_0,.slice A0_1 l0_1.length c0_1,.slice A0_2 l0_2.length c0_2]] w fun e w'=>e = .returned (.int .i64 r)∧Below w.heap.size w w':=by
 induction k using Nat.strongRecOn with
 | _ k ih =>
 intro a0_0 A0_1 c0_1 l0_1 A0_2 c0_2 l0_2 r w hr0_1 hc0_1 hr0_2 hc0_2 h
 cases k with
 | zero=>exact absurd h (by simp [zV.f])
 | succ k =>
 simp only [zV.f] at h
 have hu56:=Try.underlying56
 have HR0_1:=qA.mk hr0_1
 have HC0_1:=qA.mk hc0_1
 clear hr0_1 hc0_1
 have HR0_2:=qA.mk hr0_2
 have HC0_2:=qA.mk hc0_2
 clear hr0_2 hc0_2
 have HB:=qA.mk (Below.refl w.heap.size w)
 have H : (zV.l0 k 0 l0_2 (l0_2.length : Int) 0) = some r:=h
 clear h
 have H':=qA.mk H
 clear H
 go_enter Try.func81,Try.ntmps81
 go_wp2_with (first|((with_reducible refine zK (N:=1) rfl ?_);refine q9 ?hg (N:=1) ?hd (cs:=#[.int .i64 a0_0,.slice A0_1 l0_1.length c0_1,.slice A0_2 l0_2.length c0_2]) (t:=56) ?hr ?_;(case hd=>rfl);(case hg=>rfl);(case hr=>exact byaa);intro gb102 hg w2 hbox hb;have n0_:=qA.mk (qE byab hb);have n1_:=qA.mk (hbox);have n2_:=qA.mk ((byby : w.heap.size ≤ gb102));have n3_:=qA.mk ((byby : w.heap.size ≤ gb102));clear HB;have HB:=n0_;have BK102:=n1_;have GW102:=n2_;have GE102:=n3_;clear n0_ n1_ n2_ n3_;clear hb hbox hg;have hcz3_0 : w2.cell? ⟨gb102,0,none⟩ = some (.int .i64 a0_0):=(qC BK102.out 0).trans rfl;have hcz3_1 : w2.cell? ⟨gb102,1,none⟩ = some (.slice A0_1 l0_1.length c0_1):=(qC BK102.out 1).trans rfl;have hcz3_2 : w2.cell? ⟨gb102,2,none⟩ = some (.slice A0_2 l0_2.length c0_2):=(qC BK102.out 2).trans rfl;have hfz3_0:=qB BK102.out 0;have hfz3_1:=qB BK102.out 1;have hfz3_2:=qB BK102.out 2))
 go_loopg [3,9] k (fun kq v3 v9 w'=>∃ (x3_1 : Int) (x9_1 : Int),v3 = .int .i64 x3_1∧v9 = .int .i64 x9_1∧qA (zV.l0 kq x3_1 l0_2 (l0_2.length : Int) x9_1 = some r)∧qA (kq ≤ k)∧qA (w'.heap[gb102]? = some (.cells #[.int .i64 a0_0,(.slice A0_1 l0_1.length c0_1),(.slice A0_2 l0_2.length c0_2)] 56 (0,0)))∧qA (Below w.heap.size w w'))
 case atStart=>exact ⟨(0),(0),byae,byae,H',⟨Nat.le_refl _⟩,⟨byaf BK102.out⟩,⟨byad GE102.out⟩⟩
 case round =>
  clear H'
  try clear p2
  try clear hcz3_0
  try clear hcz3_1
  try clear hcz3_2
  try clear hfz3_0
  try clear hfz3_1
  try clear hfz3_2
  obtain ⟨x3_1,x9_1,rfl,rfl,HA,HK1,BK102,HB⟩:=hrel
  cases gk with
  | zero=>exact absurd HA.out (by simp [zV.l0])
  | succ k1 =>
   have H:=HA.out
   clear HA
   simp only [zV.l0] at H
   by_cases c4 : x9_1 < (l0_2.length : Int)
   ·rw [if_pos c4] at H
    have c4b0 : decide (x9_1 < (l0_2.length : Int)) = true:=decide_eq_true c4
    clear c4
    by_cases c5 : 0 ≤ x9_1
    ·rw [if_pos c5] at H
     have c5b0 : decide (0 ≤ x9_1) = true:=decide_eq_true c5
     clear c5
     by_cases c6 : x9_1 < (l0_2.length : Int)
     ·rw [if_pos c6] at H
      have c6b0 : decide (x9_1 < (l0_2.length : Int)) = true:=decide_eq_true c6
      clear c6
      replace H:=Option.bind_eq_some_iff.mp H
      obtain ⟨t105,A70,H⟩:=H
      replace H : (zV.l0 k1 (mx x3_1 t105) l0_2 (l0_2.length : Int) (wrap64 (x9_1 + 1))) = some r:=H
      have A7:=qA.mk A70
      clear A70
      obtain ⟨ji8,hji8⟩ : ∃ j_ : Int,(mx x3_1 t105) = j_:=⟨_,rfl⟩
      replace H : (zV.l0 k1 ji8 l0_2 (l0_2.length : Int) (wrap64 (x9_1 + 1))) = some r:=by first|(rw [hji8] at H;exact H)|(simp only [hji8] at H ⊢;exact H)
      (try rw [hji8] at A7)
      have hji8_ : (if x3_1 < t105 then t105 else x3_1) = ji8:=hji8
      have H':=qA.mk H
      clear H
      have p103 : 0 ≤ (x9_1 : Int):=of_decide_eq_true byag
      have q103 : x9_1 < (l0_2.length : Int):=of_decide_eq_true byag
      obtain ⟨ad103,A103_1,c103_1,A103_2,c103_2,e103,hx103_0,hx103_1,hx103_2,hl103_1,hi103_1,hl103_2,hi103_2⟩:=kW HR0_2.out x9_1 p103 q103
      cases e103
      replace hx103_0:=(HB.out.cell (World.block_lt_of_cell? w _ hx103_0)).trans hx103_0
      replace hx103_1:=(HB.out.cell (World.block_lt_of_cell? w _ hx103_1)).trans hx103_1
      replace hx103_2:=(HB.out.cell (World.block_lt_of_cell? w _ hx103_2)).trans hx103_2
      have HR103_1:=qA.mk hi103_1
      have HC103_1:=qA.mk hl103_1
      clear hi103_1 hl103_1
      have HR103_2:=qA.mk hi103_2
      have HC103_2:=qA.mk hl103_2
      clear hi103_2 hl103_2
      replace p103:=eq_true p103
      replace q103:=eq_true q103
      go_wp2_with (first|((with_reducible refine zK (N:=5) rfl ?_);refine q9 ?hg (N:=5) ?hd (cs:=#[.int .i64 0,.slice none 0 0,.slice none 0 0]) (t:=56) ?hr ?_;(case hd=>rfl);(case hg=>rfl);(case hr=>exact byaa);intro gb104 hg w9 hbox hb;have n0_:=qA.mk (qH (g:=gb102) (o:=.cells #[.int .i64 a0_0,.slice A0_1 l0_1.length c0_1,.slice (some ad103) l0_2.length c0_2] 56 (0,0)) (byaf BK102.out) hb);have n1_:=qA.mk (qE (byad GE102.out) hb);have n2_:=qA.mk (hbox);have n3_:=qA.mk ((bybz GE102.out : w.heap.size ≤ gb104));have n4_:=qA.mk ((bybz GE102.out : w.heap.size ≤ gb104));have n5_:=qA.mk ((by rw [hg];exact Nat.ne_of_lt (jF (g:=gb102) (o:=.cells #[.int .i64 a0_0,.slice A0_1 l0_1.length c0_1,.slice (some ad103) l0_2.length c0_2] 56 (0,0)) (byaf BK102.out)) : gb102≠gb104));have n6_:=qA.mk ((by rw [hg];exact Nat.ne_of_gt (jF (g:=gb102) (o:=.cells #[.int .i64 a0_0,.slice A0_1 l0_1.length c0_1,.slice (some ad103) l0_2.length c0_2] 56 (0,0)) (byaf BK102.out)) : gb104≠gb102));clear BK102;clear HB;have BK102:=n0_;have HB:=n1_;have BK104:=n2_;have GW104:=n3_;have GE104:=n4_;have NB102_104:=n5_;have NB104_102:=n6_;clear n0_ n1_ n2_ n3_ n4_ n5_ n6_;clear hb hbox hg;have hnb10:=NB104_102.out;have hnc10:=NB102_104.out;have hcz11_0 : w9.cell? ⟨gb104,0,none⟩ = some (.int .i64 0):=(qC BK104.out 0).trans rfl;have hcz11_1 : w9.cell? ⟨gb104,1,none⟩ = some (.slice none 0 0):=(qC BK104.out 1).trans rfl;have hcz11_2 : w9.cell? ⟨gb104,2,none⟩ = some (.slice none 0 0):=(qC BK104.out 2).trans rfl;have hfz11_0:=qB BK104.out 0;have hfz11_1:=qB BK104.out 1;have hfz11_2:=qB BK104.out 2)|((with_reducible refine qI (f:=81) rfl ?_);refine zL (some 15) rfl rfl Try.func81 (by kernel_rfl) rfl #[.agg #[.int .i64 ((qX l0_2 x9_1).f0),.slice A103_1 ((qX l0_2 x9_1).f1).length c103_1,.slice A103_2 ((qX l0_2 x9_1).f2).length c103_2]] rfl byah ?_;(with_reducible refine (ih k1 byai ((qX l0_2 x9_1).f0) _ _ ((qX l0_2 x9_1).f1) _ _ ((qX l0_2 x9_1).f2) t105 _ ?side1 ?side2 ?side3 ?side4 A7.out).mono ?_);(case side1=>exact Kd.vK HR103_1.out (byaj GE102.out GE104.out));(case side2=>exact HC103_1.out);(case side3=>exact Kd.vK HR103_2.out (byaj GE102.out GE104.out));(case side4=>exact HC103_2.out);rintro e w12 ⟨rfl,hb⟩;refine ⟨_,rfl,?_⟩;have n0_:=qA.mk (qH (g:=gb102) (o:=.cells #[.int .i64 a0_0,.slice A0_1 l0_1.length c0_1,.slice (some ad103) l0_2.length c0_2] 56 (0,0)) (byak NB102_104.out BK102.out) hb);have n1_:=qA.mk (qH (g:=gb104) (o:=.cells #[.int .i64 ((qX l0_2 x9_1).f0),.slice A103_1 ((qX l0_2 x9_1).f1).length c103_1,.slice A103_2 ((qX l0_2 x9_1).f2).length c103_2] 56 (0,0)) (by (with_reducible repeat (first|refine qG ?_ _|refine qJ ?_|refine qF ?_ _));refine zJ (cs:=#[.int .i64 ((qX l0_2 x9_1).f0),.slice A103_1 ((qX l0_2 x9_1).f1).length c103_1,.slice none 0 0]) ?_ 2 _ rfl;(with_reducible repeat (first|refine qG ?_ _|refine qJ ?_|refine qF ?_ _));refine zJ (cs:=#[.int .i64 ((qX l0_2 x9_1).f0),.slice none 0 0,.slice none 0 0]) ?_ 1 _ rfl;(with_reducible repeat (first|refine qG ?_ _|refine qJ ?_|refine qF ?_ _));refine zJ (cs:=#[.int .i64 0,.slice none 0 0,.slice none 0 0]) ?_ 0 _ rfl;(with_reducible repeat (first|refine qG ?_ _|refine qJ ?_|refine qF ?_ _));exact BK104.out) hb);have n2_:=qA.mk (qE (byaj GE102.out GE104.out) hb);clear BK102;clear BK104;clear HB;have BK102:=n0_;have BK104:=n1_;have HB:=n2_;clear n0_ n1_ n2_;(try clear hb);(try clear hb2);(try clear hk);(try clear hi)))
      go_roundg k1
      case measure=>have:=HK1.out;omega
      case rel=>exact ⟨(ji8),(wrap64 (x9_1 + 1)),byal,byae,H',⟨byai⟩,⟨byaf BK102.out⟩,⟨byaj GE102.out GE104.out⟩⟩
     ·rw [if_neg c6] at H
      exact absurd H (by simp)
    ·rw [if_neg c5] at H
     exact absurd H (by simp)
   ·rw [if_neg c4] at H
    have c4b0 : decide (x9_1 < (l0_2.length : Int)) = false:=decide_eq_false c4
    clear c4
    obtain rfl:=Option.some.inj H
    go_wp2
    go_ret
    exact ⟨byac,byad GE102.out⟩
mutual
def z8.l0 : Nat→Int→List (S56)→Int→Int→Option (Int)
 | 0,_,_,_,_=>none
 | k + 1,x3,x14,x15,x16=>if x16 < x15 then (if 0 ≤ x16 then (if x16 < (x14.length : Int) then ((z8.f k ((qX x14 x16).f0) ((qX x14 x16).f1) ((qX x14 x16).f2)).bind fun t109=>(z8.l0 k (wrap64 (x3 + t109)) x14 x15 (wrap64 (x16 + 1)))) else (none)) else (none)) else (some x3)
def z8.f : Nat→Int→List Int→List (S56)→Option (Int)
 | 0,_,_,_=>none
 | k + 1,a0_0,l0_1,l0_2=>z8.l0 k (wrap64 ((l0_1.length : Int) + (l0_2.length : Int))) l0_2 (l0_2.length : Int) 0
end
theorem z8.mono_l : ∀ k,(∀ y0 y1 y2,LeO (z8.f k y0 y1 y2) (z8.f (k + 1) y0 y1 y2))∧(∀ y0 y1 y2 y3,LeO (z8.l0 k y0 y1 y2 y3) (z8.l0 (k + 1) y0 y1 y2 y3))
 | 0=>⟨fun _ _ _ r h=>by simp [z8.f] at h,fun _ _ _ _ r h=>by simp [z8.l0] at h⟩
 | k + 1=>by
  obtain ⟨ih0,ih1⟩:=z8.mono_l k
  refine ⟨?_,?_⟩
  ·intro y0 y1 y2
   unfold z8.f
   repeat' first
   | (with_reducible exact ih0 _ _ _)
   | (with_reducible exact ih1 _ _ _ _)
   | (with_reducible exact LeO.refl _)
   | (with_reducible exact LeO.none _)
   | (with_reducible refine LeO.ite ?_ ?_)
   | (with_reducible refine LeO.bind ?_ (fun _=>?_))
   | exact ih0 _ _ _
   | exact ih1 _ _ _ _
   | exact LeO.none _
   | refine LeO.ite ?_ ?_
   | refine LeO.bind ?_ (fun _=>?_)
  ·intro y0 y1 y2 y3
   unfold z8.l0
   repeat' first
   | (with_reducible exact ih0 _ _ _)
   | (with_reducible exact ih1 _ _ _ _)
   | (with_reducible exact LeO.refl _)
   | (with_reducible exact LeO.none _)
   | (with_reducible refine LeO.ite ?_ ?_)
   | (with_reducible refine LeO.bind ?_ (fun _=>?_))
   | exact ih0 _ _ _
   | exact ih1 _ _ _ _
   | exact LeO.none _
   | refine LeO.ite ?_ ?_
   | refine LeO.bind ?_ (fun _=>?_)
theorem z8.mono : ∀ a0 a1 a2 k,LeO (z8.f k a0 a1 a2) (z8.f (k + 1) a0 a1 a2):=by
 intro a0 a1 a2 k
 obtain ⟨ih0,ih1⟩:=z8.mono_l k
 exact ih0 a0 a1 a2
set_option maxHeartbeats 8000000 in
set_option maxRecDepth 100000 in
theorem z8.calls (k : Nat) : ∀ (a0_0 : Int) (A0_1 : Option Addr) (c0_1 : Nat) (l0_1 : List Int) (A0_2 : Option Addr) (c0_2 : Nat) (l0_2 : List (S56)) (r : Int) (w : World) (hr0_1 : Kd.C (Kd.int .i64) w A0_1 l0_1.length l0_1) (hc0_1 : l0_1.length ≤ c0_1) (hr0_2 : Kd.C k56 w A0_2 l0_2.length l0_2) (hc0_2 : l0_2.length ≤ c0_2) (h : z8.f k a0_0 l0_1 l0_2 = some r),
  Calls Try.prog 82 #[.agg #[.int .i64 a0_0,.slice A0_1 l0_1.length c0_1,.slice A0_2 l0_2.length c0_2]] w fun e w'=>e = .returned (.int .i64 r)∧Below w.heap.size w w':=by
 induction k using Nat.strongRecOn with
 | _ k ih =>
 intro a0_0 A0_1 c0_1 l0_1 A0_2 c0_2 l0_2 r w hr0_1 hc0_1 hr0_2 hc0_2 h
 cases k with
 | zero=>exact absurd h (by simp [z8.f])
 | succ k =>
 simp only [z8.f] at h
 have hu56:=Try.underlying56
 have HR0_1:=qA.mk hr0_1
 have HC0_1:=qA.mk hc0_1
 clear hr0_1 hc0_1
 have HR0_2:=qA.mk hr0_2
 have HC0_2:=qA.mk hc0_2
 clear hr0_2 hc0_2
 have HB:=qA.mk (Below.refl w.heap.size w)
 have H : (z8.l0 k (wrap64 ((l0_1.length : Int) + (l0_2.length : Int))) l0_2 (l0_2.length : Int) 0) = some r:=h
 clear h
 have H':=qA.mk H
 clear H
 go_enter Try.func82,Try.ntmps82
 go_wp2_with (first|((with_reducible refine zK (N:=1) rfl ?_);refine q9 ?hg (N:=1) ?hd (cs:=#[.int .i64 a0_0,.slice A0_1 l0_1.length c0_1,.slice A0_2 l0_2.length c0_2]) (t:=56) ?hr ?_;(case hd=>rfl);(case hg=>rfl);(case hr=>exact byaa);intro gb106 hg w2 hbox hb;have n0_:=qA.mk (qE byab hb);have n1_:=qA.mk (hbox);have n2_:=qA.mk ((byby : w.heap.size ≤ gb106));have n3_:=qA.mk ((byby : w.heap.size ≤ gb106));clear HB;have HB:=n0_;have BK106:=n1_;have GW106:=n2_;have GE106:=n3_;clear n0_ n1_ n2_ n3_;clear hb hbox hg;have hcz3_0 : w2.cell? ⟨gb106,0,none⟩ = some (.int .i64 a0_0):=(qC BK106.out 0).trans rfl;have hcz3_1 : w2.cell? ⟨gb106,1,none⟩ = some (.slice A0_1 l0_1.length c0_1):=(qC BK106.out 1).trans rfl;have hcz3_2 : w2.cell? ⟨gb106,2,none⟩ = some (.slice A0_2 l0_2.length c0_2):=(qC BK106.out 2).trans rfl;have hfz3_0:=qB BK106.out 0;have hfz3_1:=qB BK106.out 1;have hfz3_2:=qB BK106.out 2))
 go_loopg [3,16] k (fun kq v3 v16 w'=>∃ (x3_1 : Int) (x16_1 : Int),v3 = .int .i64 x3_1∧v16 = .int .i64 x16_1∧qA (z8.l0 kq x3_1 l0_2 (l0_2.length : Int) x16_1 = some r)∧qA (kq ≤ k)∧qA (w'.heap[gb106]? = some (.cells #[.int .i64 a0_0,(.slice A0_1 l0_1.length c0_1),(.slice A0_2 l0_2.length c0_2)] 56 (0,0)))∧qA (Below w.heap.size w w'))
 case atStart=>exact ⟨(wrap64 ((l0_1.length : Int) + (l0_2.length : Int))),(0),byae,byae,H',⟨Nat.le_refl _⟩,⟨byaf BK106.out⟩,⟨byad GE106.out⟩⟩
 case round =>
  clear H'
  try clear p2
  try clear hcz3_0
  try clear hcz3_1
  try clear hcz3_2
  try clear hfz3_0
  try clear hfz3_1
  try clear hfz3_2
  obtain ⟨x3_1,x16_1,rfl,rfl,HA,HK1,BK106,HB⟩:=hrel
  cases gk with
  | zero=>exact absurd HA.out (by simp [z8.l0])
  | succ k1 =>
   have H:=HA.out
   clear HA
   simp only [z8.l0] at H
   by_cases c4 : x16_1 < (l0_2.length : Int)
   ·rw [if_pos c4] at H
    have c4b0 : decide (x16_1 < (l0_2.length : Int)) = true:=decide_eq_true c4
    clear c4
    by_cases c5 : 0 ≤ x16_1
    ·rw [if_pos c5] at H
     have c5b0 : decide (0 ≤ x16_1) = true:=decide_eq_true c5
     clear c5
     by_cases c6 : x16_1 < (l0_2.length : Int)
     ·rw [if_pos c6] at H
      have c6b0 : decide (x16_1 < (l0_2.length : Int)) = true:=decide_eq_true c6
      clear c6
      replace H:=Option.bind_eq_some_iff.mp H
      obtain ⟨t109,A70,H⟩:=H
      replace H : (z8.l0 k1 (wrap64 (x3_1 + t109)) l0_2 (l0_2.length : Int) (wrap64 (x16_1 + 1))) = some r:=H
      have A7:=qA.mk A70
      clear A70
      have H':=qA.mk H
      clear H
      have p107 : 0 ≤ (x16_1 : Int):=of_decide_eq_true byag
      have q107 : x16_1 < (l0_2.length : Int):=of_decide_eq_true byag
      obtain ⟨ad107,A107_1,c107_1,A107_2,c107_2,e107,hx107_0,hx107_1,hx107_2,hl107_1,hi107_1,hl107_2,hi107_2⟩:=kW HR0_2.out x16_1 p107 q107
      cases e107
      replace hx107_0:=(HB.out.cell (World.block_lt_of_cell? w _ hx107_0)).trans hx107_0
      replace hx107_1:=(HB.out.cell (World.block_lt_of_cell? w _ hx107_1)).trans hx107_1
      replace hx107_2:=(HB.out.cell (World.block_lt_of_cell? w _ hx107_2)).trans hx107_2
      have HR107_1:=qA.mk hi107_1
      have HC107_1:=qA.mk hl107_1
      clear hi107_1 hl107_1
      have HR107_2:=qA.mk hi107_2
      have HC107_2:=qA.mk hl107_2
      clear hi107_2 hl107_2
      replace p107:=eq_true p107
      replace q107:=eq_true q107
      go_wp2_with (first|((with_reducible refine zK (N:=5) rfl ?_);refine q9 ?hg (N:=5) ?hd (cs:=#[.int .i64 0,.slice none 0 0,.slice none 0 0]) (t:=56) ?hr ?_;(case hd=>rfl);(case hg=>rfl);(case hr=>exact byaa);intro gb108 hg w8 hbox hb;have n0_:=qA.mk (qH (g:=gb106) (o:=.cells #[.int .i64 a0_0,.slice A0_1 l0_1.length c0_1,.slice (some ad107) l0_2.length c0_2] 56 (0,0)) (byaf BK106.out) hb);have n1_:=qA.mk (qE (byad GE106.out) hb);have n2_:=qA.mk (hbox);have n3_:=qA.mk ((bybz GE106.out : w.heap.size ≤ gb108));have n4_:=qA.mk ((bybz GE106.out : w.heap.size ≤ gb108));have n5_:=qA.mk ((by rw [hg];exact Nat.ne_of_lt (jF (g:=gb106) (o:=.cells #[.int .i64 a0_0,.slice A0_1 l0_1.length c0_1,.slice (some ad107) l0_2.length c0_2] 56 (0,0)) (byaf BK106.out)) : gb106≠gb108));have n6_:=qA.mk ((by rw [hg];exact Nat.ne_of_gt (jF (g:=gb106) (o:=.cells #[.int .i64 a0_0,.slice A0_1 l0_1.length c0_1,.slice (some ad107) l0_2.length c0_2] 56 (0,0)) (byaf BK106.out)) : gb108≠gb106));clear BK106;clear HB;have BK106:=n0_;have HB:=n1_;have BK108:=n2_;have GW108:=n3_;have GE108:=n4_;have NB106_108:=n5_;have NB108_106:=n6_;clear n0_ n1_ n2_ n3_ n4_ n5_ n6_;clear hb hbox hg;have hnb9:=NB108_106.out;have hnc9:=NB106_108.out;have hcz10_0 : w8.cell? ⟨gb108,0,none⟩ = some (.int .i64 0):=(qC BK108.out 0).trans rfl;have hcz10_1 : w8.cell? ⟨gb108,1,none⟩ = some (.slice none 0 0):=(qC BK108.out 1).trans rfl;have hcz10_2 : w8.cell? ⟨gb108,2,none⟩ = some (.slice none 0 0):=(qC BK108.out 2).trans rfl;have hfz10_0:=qB BK108.out 0;have hfz10_1:=qB BK108.out 1;have hfz10_2:=qB BK108.out 2)|((with_reducible refine qI (f:=82) rfl ?_);refine zL (some 22) rfl rfl Try.func82 (by kernel_rfl) rfl #[.agg #[.int .i64 ((qX l0_2 x16_1).f0),.slice A107_1 ((qX l0_2 x16_1).f1).length c107_1,.slice A107_2 ((qX l0_2 x16_1).f2).length c107_2]] rfl byah ?_;(with_reducible refine (ih k1 byai ((qX l0_2 x16_1).f0) _ _ ((qX l0_2 x16_1).f1) _ _ ((qX l0_2 x16_1).f2) t109 _ ?side1 ?side2 ?side3 ?side4 A7.out).mono ?_);(case side1=>exact Kd.vK HR107_1.out (byaj GE106.out GE108.out));(case side2=>exact HC107_1.out);(case side3=>exact Kd.vK HR107_2.out (byaj GE106.out GE108.out));(case side4=>exact HC107_2.out);rintro e w11 ⟨rfl,hb⟩;refine ⟨_,rfl,?_⟩;have n0_:=qA.mk (qH (g:=gb106) (o:=.cells #[.int .i64 a0_0,.slice A0_1 l0_1.length c0_1,.slice (some ad107) l0_2.length c0_2] 56 (0,0)) (byak NB106_108.out BK106.out) hb);have n1_:=qA.mk (qH (g:=gb108) (o:=.cells #[.int .i64 ((qX l0_2 x16_1).f0),.slice A107_1 ((qX l0_2 x16_1).f1).length c107_1,.slice A107_2 ((qX l0_2 x16_1).f2).length c107_2] 56 (0,0)) (by (with_reducible repeat (first|refine qG ?_ _|refine qJ ?_|refine qF ?_ _));refine zJ (cs:=#[.int .i64 ((qX l0_2 x16_1).f0),.slice A107_1 ((qX l0_2 x16_1).f1).length c107_1,.slice none 0 0]) ?_ 2 _ rfl;(with_reducible repeat (first|refine qG ?_ _|refine qJ ?_|refine qF ?_ _));refine zJ (cs:=#[.int .i64 ((qX l0_2 x16_1).f0),.slice none 0 0,.slice none 0 0]) ?_ 1 _ rfl;(with_reducible repeat (first|refine qG ?_ _|refine qJ ?_|refine qF ?_ _));refine zJ (cs:=#[.int .i64 0,.slice none 0 0,.slice none 0 0]) ?_ 0 _ rfl;(with_reducible repeat (first|refine qG ?_ _|refine qJ ?_|refine qF ?_ _));exact BK108.out) hb);have n2_:=qA.mk (qE (byaj GE106.out GE108.out) hb);clear BK106;clear BK108;clear HB;have BK106:=n0_;have BK108:=n1_;have HB:=n2_;clear n0_ n1_ n2_;(try clear hb);(try clear hb2);(try clear hk);(try clear hi)))
      go_roundg k1
      case measure=>have:=HK1.out;omega
      case rel=>exact ⟨(wrap64 (x3_1 + t109)),(wrap64 (x16_1 + 1)),byae,byae,H',⟨byai⟩,⟨byaf BK106.out⟩,⟨byaj GE106.out GE108.out⟩⟩
     ·rw [if_neg c6] at H
      exact absurd H (by simp)
    ·rw [if_neg c5] at H
     exact absurd H (by simp)
   ·rw [if_neg c4] at H
    have c4b0 : decide (x16_1 < (l0_2.length : Int)) = false:=decide_eq_false c4
    clear c4
    obtain rfl:=Option.some.inj H
    go_wp2
    go_ret
    exact ⟨byac,byad GE106.out⟩
def vL.f (a0 : Int) (a1 : Int) : Option (Bool):=if a0 ≥ 0 then (if 0 ≤ a1 then (some (decide (a0 < (shl .i64 1 a1)))) else (none)) else (some false)
set_option maxHeartbeats 8000000 in
set_option maxRecDepth 100000 in
theorem vL.calls (a0 : Int) (a1 : Int) (r : Bool) (w : World) (h : vL.f a0 a1 = some r) :
  Calls Try.prog 71 #[.int .i64 a0,.int .i64 a1] w fun e w'=>e = .returned (.bool r)∧uC w w':=by
 have H : (if a0 ≥ 0 then (if 0 ≤ a1 then (some (decide (a0 < (shl .i64 1 a1)))) else (none)) else (some false)) = some r:=h
 clear h
 by_cases c3 : a0 ≥ 0
 ·rw [if_pos c3] at H
  have c3b0 : decide (0 ≤ a0) = true:=decide_eq_true c3
  clear c3
  by_cases c4 : 0 ≤ a1
  ·rw [if_pos c4] at H
   have c4b0:=eq_true c4
   have c4b1 : decide (0 ≤ a1) = true:=decide_eq_true c4
   clear c4
   obtain ⟨ji5,hji5⟩ : ∃ j_ : Int,(shl .i64 1 a1) = j_:=⟨_,rfl⟩
   replace H : (some (decide (a0 < (ji5)))) = some r:=by first|(rw [hji5] at H;exact H)|(simp only [hji5] at H ⊢;exact H)
   have hji5_ : (IntKind.i64.wrap (1 * 2 ^ min a1.toNat 64)) = ji5:=hji5
   have hji5z : a1 ≤ 64→(IntKind.i64.wrap (1 * 2 ^ a1.toNat)) = ji5:=uN hji5
   have hji5u : (IntKind.i64.wrap (2 ^ min a1.toNat 64)) = ji5:=by have h_:=hji5_;rw [Int.one_mul] at h_;exact h_
   have hji5v : a1 ≤ 64→(IntKind.i64.wrap (2 ^ a1.toNat)) = ji5:=fun hle_=>by have h_:=hji5z hle_;rw [Int.one_mul] at h_;exact h_
   have hji5y : (wrap64 (1 * 2 ^ min a1.toNat 64)) = ji5:=(qY _).symm.trans hji5_
   have hji5x : a1 ≤ 64→(wrap64 (1 * 2 ^ a1.toNat)) = ji5:=fun h_=>(qY _).symm.trans (hji5z h_)
   obtain rfl:=Option.some.inj H
   go_enter Try.func71,Try.ntmps71
   go_wp2
   go_ret
   exact ⟨by first|rfl|(simp;done)|(simp only [← hji5]<;>(first|rfl|simp))|(simp [*];done),byam⟩
  ·rw [if_neg c4] at H
   exact absurd H (by simp)
 ·rw [if_neg c3] at H
  have c3b0 : decide (0 ≤ a0) = false:=decide_eq_false c3
  clear c3
  obtain rfl:=Option.some.inj H
  go_enter Try.func71,Try.ntmps71
  go_wp2
  go_ret
  exact ⟨byae,byam⟩
def jQ.f (a0 : Int) : Option (Bool):=(vL.f a0 10).bind fun t110=>(some t110)
set_option maxHeartbeats 8000000 in
set_option maxRecDepth 100000 in
theorem jQ.calls (a0 : Int) (r : Bool) (w : World) (h : jQ.f a0 = some r) :
  Calls Try.prog 73 #[.int .i64 a0] w fun e w'=>e = .returned (.bool r)∧uC w w':=by
 have H : ((vL.f a0 10).bind fun t110=>(some t110)) = some r:=h
 clear h
 replace H:=Option.bind_eq_some_iff.mp H
 obtain ⟨t110,A20,H⟩:=H
 replace H : (some t110) = some r:=H
 have A2:=qA.mk A20
 clear A20
 obtain rfl:=Option.some.inj H
 go_enter Try.func73,Try.ntmps73
 go_wp2_with (first|((with_reducible refine qI (f:=71) rfl ?_);refine zL (some 4) rfl rfl Try.func71 (by kernel_rfl) rfl #[.int .i64 a0,.int .i64 10] rfl byah ?_;(with_reducible refine (vL.calls a0 10 t110 _ A2.out).mono ?_);rintro e w' ⟨rfl,⟨nd,rfl⟩⟩;refine ⟨_,rfl,?_⟩))
 go_ret
 exact ⟨byae,byam⟩
def vQ.f (a0 : Int) (a1 : Int) : Option (Bool):=(jQ.f a0).bind fun t111=>(if t111 = true then (if a1 ≥ 0 then (if a1 < 10 then (if 0 ≤ a1 then (some ((Go.bits .and .i64 a0 (shl .i64 1 a1)) != 0)) else (none)) else (some false)) else (some false)) else (some false))
set_option maxHeartbeats 8000000 in
set_option maxRecDepth 100000 in
theorem vQ.calls (a0 : Int) (a1 : Int) (r : Bool) (w : World) (h : vQ.f a0 a1 = some r) :
  Calls Try.prog 62 #[.int .i64 a0,.int .i64 a1] w fun e w'=>e = .returned (.bool r)∧uC w w':=by
 have H : ((jQ.f a0).bind fun t111=>(if t111 = true then (if a1 ≥ 0 then (if a1 < 10 then (if 0 ≤ a1 then (some ((Go.bits .and .i64 a0 (shl .i64 1 a1)) != 0)) else (none)) else (some false)) else (some false)) else (some false))) = some r:=h
 clear h
 replace H:=Option.bind_eq_some_iff.mp H
 obtain ⟨t111,A30,H⟩:=H
 replace H : (if t111 = true then (if a1 ≥ 0 then (if a1 < 10 then (if 0 ≤ a1 then (some ((Go.bits .and .i64 a0 (shl .i64 1 a1)) != 0)) else (none)) else (some false)) else (some false)) else (some false)) = some r:=H
 have A3:=qA.mk A30
 clear A30
 by_cases c4 : t111 = true
 ·subst c4
  have H1 : (if a1 ≥ 0 then (if a1 < 10 then (if 0 ≤ a1 then (some ((Go.bits .and .i64 a0 (shl .i64 1 a1)) != 0)) else (none)) else (some false)) else (some false)) = some r:=by rw [if_pos rfl] at H;exact H
  clear H
  have H:=H1
  clear H1
  by_cases c5 : a1 ≥ 0
  ·rw [if_pos c5] at H
   have c5b0 : decide (0 ≤ a1) = true:=decide_eq_true c5
   clear c5
   by_cases c6 : a1 < 10
   ·rw [if_pos c6] at H
    have c6b0 : decide (a1 < 10) = true:=decide_eq_true c6
    clear c6
    by_cases c7 : 0 ≤ a1
    ·rw [if_pos c7] at H
     have c7b0:=eq_true c7
     have c7b1 : decide (0 ≤ a1) = true:=decide_eq_true c7
     clear c7
     obtain ⟨ji8,hji8⟩ : ∃ j_ : Int,(shl .i64 1 a1) = j_:=⟨_,rfl⟩
     replace H : (some ((Go.bits .and .i64 a0 (ji8)) != 0)) = some r:=by first|(rw [hji8] at H;exact H)|(simp only [hji8] at H ⊢;exact H)
     (try rw [hji8] at A3)
     have hji8_ : (IntKind.i64.wrap (1 * 2 ^ min a1.toNat 64)) = ji8:=hji8
     have hji8z : a1 ≤ 64→(IntKind.i64.wrap (1 * 2 ^ a1.toNat)) = ji8:=uN hji8
     have hji8u : (IntKind.i64.wrap (2 ^ min a1.toNat 64)) = ji8:=by have h_:=hji8_;rw [Int.one_mul] at h_;exact h_
     have hji8v : a1 ≤ 64→(IntKind.i64.wrap (2 ^ a1.toNat)) = ji8:=fun hle_=>by have h_:=hji8z hle_;rw [Int.one_mul] at h_;exact h_
     have hji8y : (wrap64 (1 * 2 ^ min a1.toNat 64)) = ji8:=(qY _).symm.trans hji8_
     have hji8x : a1 ≤ 64→(wrap64 (1 * 2 ^ a1.toNat)) = ji8:=fun h_=>(qY _).symm.trans (hji8z h_)
     obtain rfl:=Option.some.inj H
     go_enter Try.func62,Try.ntmps62
     go_wp2_with (first|((with_reducible refine qI (f:=73) rfl ?_);refine zL (some 6) rfl rfl Try.func73 (by kernel_rfl) rfl #[.int .i64 a0] rfl byah ?_;(with_reducible refine (jQ.calls a0 true _ A3.out).mono ?_);rintro e w' ⟨rfl,⟨nd,rfl⟩⟩;refine ⟨_,rfl,?_⟩))
     go_ret
     exact ⟨byal,byam⟩
    ·rw [if_neg c7] at H
     exact absurd H (by simp)
   ·rw [if_neg c6] at H
    have c6b0 : decide (a1 < 10) = false:=decide_eq_false c6
    clear c6
    obtain rfl:=Option.some.inj H
    go_enter Try.func62,Try.ntmps62
    go_wp2_with (first|((with_reducible refine qI (f:=73) rfl ?_);refine zL (some 6) rfl rfl Try.func73 (by kernel_rfl) rfl #[.int .i64 a0] rfl byah ?_;(with_reducible refine (jQ.calls a0 true _ A3.out).mono ?_);rintro e w' ⟨rfl,⟨nd,rfl⟩⟩;refine ⟨_,rfl,?_⟩))
    go_ret
    exact ⟨byae,byam⟩
  ·rw [if_neg c5] at H
   have c5b0 : decide (0 ≤ a1) = false:=decide_eq_false c5
   clear c5
   obtain rfl:=Option.some.inj H
   go_enter Try.func62,Try.ntmps62
   go_wp2_with (first|((with_reducible refine qI (f:=73) rfl ?_);refine zL (some 6) rfl rfl Try.func73 (by kernel_rfl) rfl #[.int .i64 a0] rfl byah ?_;(with_reducible refine (jQ.calls a0 true _ A3.out).mono ?_);rintro e w' ⟨rfl,⟨nd,rfl⟩⟩;refine ⟨_,rfl,?_⟩))
   go_ret
   exact ⟨byae,byam⟩
 ·replace c4:=Bool.eq_false_iff.mpr c4
  subst c4
  have H1 : (some false) = some r:=by rw [if_neg (show ¬ (false = true) by decide)] at H;exact H
  clear H
  have H:=H1
  clear H1
  obtain rfl:=Option.some.inj H
  go_enter Try.func62,Try.ntmps62
  go_wp2_with (first|((with_reducible refine qI (f:=73) rfl ?_);refine zL (some 6) rfl rfl Try.func73 (by kernel_rfl) rfl #[.int .i64 a0] rfl byah ?_;(with_reducible refine (jQ.calls a0 false _ A3.out).mono ?_);rintro e w' ⟨rfl,⟨nd,rfl⟩⟩;refine ⟨_,rfl,?_⟩))
  go_ret
  exact ⟨byae,byam⟩
mutual
def jH.l0 : Nat→Int→List Int→Int→Int→Option (Int × Int)
 | 0,_,_,_,_=>none
 | k + 1,x4,x7,x8,x9=>if x9 < x8 then (if 0 ≤ x9 then (if x9 < (x7.length : Int) then (if (rd x7 x9) < 0 then (jH.j1 k x4 (rd x7 x9) x7 x8 x9 true) else (jH.j1 k x4 (rd x7 x9) x7 x8 x9 (decide ((rd x7 x9) ≥ 10)))) else (none)) else (none)) else (some (x4,0))
def jH.j1 : Nat→Int→Int→List Int→Int→Int→Bool→Option (Int × Int)
 | 0,_,_,_,_,_,_=>none
 | k + 1,x4,x6,x7,x8,x9,x18=>if x18 = true then (some (0,5)) else ((vQ.f x4 x6).bind fun t113=>(if t113 = true then (some (0,6)) else (if 0 ≤ x6 then (jH.l0 k (Go.bits .or .i64 x4 (shl .i64 1 x6)) x7 x8 (wrap64 (x9 + 1))) else (none))))
end
def jH.f (k : Nat) (l0 : List Int) : Option (Int × Int):=jH.l0 k 0 l0 (l0.length : Int) 0
theorem jH.mono_l : ∀ k,(∀ y0 y1 y2 y3,LeO (jH.l0 k y0 y1 y2 y3) (jH.l0 (k + 1) y0 y1 y2 y3))∧(∀ y0 y1 y2 y3 y4 y5,LeO (jH.j1 k y0 y1 y2 y3 y4 y5) (jH.j1 (k + 1) y0 y1 y2 y3 y4 y5))
 | 0=>⟨fun _ _ _ _ r h=>by simp [jH.l0] at h,fun _ _ _ _ _ _ r h=>by simp [jH.j1] at h⟩
 | k + 1=>by
  obtain ⟨ih0,ih1⟩:=jH.mono_l k
  refine ⟨?_,?_⟩
  ·intro y0 y1 y2 y3
   unfold jH.l0
   repeat' first
   | (with_reducible exact ih0 _ _ _ _)
   | (with_reducible exact ih1 _ _ _ _ _ _)
   | (with_reducible exact LeO.refl _)
   | (with_reducible exact LeO.none _)
   | (with_reducible refine LeO.ite ?_ ?_)
   | (with_reducible refine LeO.bind ?_ (fun _=>?_))
   | exact ih0 _ _ _ _
   | exact ih1 _ _ _ _ _ _
   | exact LeO.none _
   | refine LeO.ite ?_ ?_
   | refine LeO.bind ?_ (fun _=>?_)
  ·intro y0 y1 y2 y3 y4 y5
   unfold jH.j1
   repeat' first
   | (with_reducible exact ih0 _ _ _ _)
   | (with_reducible exact ih1 _ _ _ _ _ _)
   | (with_reducible exact LeO.refl _)
   | (with_reducible exact LeO.none _)
   | (with_reducible refine LeO.ite ?_ ?_)
   | (with_reducible refine LeO.bind ?_ (fun _=>?_))
   | exact ih0 _ _ _ _
   | exact ih1 _ _ _ _ _ _
   | exact LeO.none _
   | refine LeO.ite ?_ ?_
   | refine LeO.bind ?_ (fun _=>?_)
theorem jH.mono : ∀ a0 k,LeO (jH.f k a0) (jH.f (k + 1) a0):=by
 intro a0 k
 obtain ⟨ih0,ih1⟩:=jH.mono_l k
 unfold jH.f
 repeat' first
   | (with_reducible exact ih0 _ _ _ _)
   | (with_reducible exact ih1 _ _ _ _ _ _)
   | (with_reducible exact LeO.refl _)
   | (with_reducible exact LeO.none _)
   | (with_reducible refine LeO.ite ?_ ?_)
   | (with_reducible refine LeO.bind ?_ (fun _=>?_))
   | exact ih0 _ _ _ _
   | exact ih1 _ _ _ _ _ _
   | exact LeO.none _
   | refine LeO.ite ?_ ?_
   | refine LeO.bind ?_ (fun _=>?_)
set_option maxHeartbeats 8000000 in
set_option maxRecDepth 100000 in
theorem jH.calls (k : Nat) (A0 : Option Addr) (c0 : Nat) (l0 : List Int) (r1 : Int) (r2 : Int) (w : World) (hr0 : Kd.C (Kd.int .i64) w A0 l0.length l0) (hc0 : l0.length ≤ c0) (h : jH.f k l0 = some (r1,r2)) :
  Calls Try.prog 90 #[.slice A0 l0.length c0] w fun e w'=>e = .returned (.tuple #[.int .i64 r1,.int .i64 r2])∧uC w w':=by
 have HR0:=qA.mk hr0
 have HC0:=qA.mk hc0
 clear hr0 hc0
 have H : (jH.l0 k 0 l0 (l0.length : Int) 0) = some (r1,r2):=h
 clear h
 have H':=qA.mk H
 clear H
 go_enter Try.func90,Try.ntmps90
 go_wp2
 go_loopg [4,9] k (fun kq v4 v9 w'=>∃ (x4_1 : Int) (x9_1 : Int),v4 = .int .i64 x4_1∧v9 = .int .i64 x9_1∧qA (jH.l0 kq x4_1 l0 (l0.length : Int) x9_1 = some (r1,r2))∧qA (kq ≤ k)∧uC w w')
 case atStart=>exact ⟨(0),(0),byae,byae,H',⟨Nat.le_refl _⟩,byam⟩
 case round =>
  clear H'
  obtain ⟨x4_1,x9_1,rfl,rfl,HA,HK1,⟨m1,rfl⟩⟩:=hrel
  cases gk with
  | zero=>exact absurd HA.out (by simp [jH.l0])
  | succ k1 =>
   have H:=HA.out
   clear HA
   simp only [jH.l0] at H
   by_cases c2 : x9_1 < (l0.length : Int)
   ·rw [if_pos c2] at H
    have c2b0 : decide (x9_1 < (l0.length : Int)) = true:=decide_eq_true c2
    clear c2
    by_cases c3 : 0 ≤ x9_1
    ·rw [if_pos c3] at H
     have c3b0 : decide (0 ≤ x9_1) = true:=decide_eq_true c3
     clear c3
     by_cases c4 : x9_1 < (l0.length : Int)
     ·rw [if_pos c4] at H
      have c4b0 : decide (x9_1 < (l0.length : Int)) = true:=decide_eq_true c4
      clear c4
      have HC5:=qA.mk H
      clear H
      have p112 : 0 ≤ (x9_1 : Int):=of_decide_eq_true byag
      have q112 : x9_1 < (l0.length : Int):=of_decide_eq_true byag
      obtain ⟨ad112,e112,hx112_0⟩:=Kd.uV HR0.out x9_1 p112 q112
      cases e112
      replace p112:=eq_true p112
      replace q112:=eq_true q112
      go_upto_region 5 with (fail)
      go_cut [18] (fun v18 wc=>∃ (kq : Nat) (x18_4 : Bool),v18 = .bool x18_4∧qA (jH.j1 kq x4_1 (rd l0 x9_1) l0 (l0.length : Int) x9_1 x18_4 = some (r1,r2))∧qA (kq ≤ k1)∧uC w wc)
      case first =>
       have H:=HC5.out
       clear HC5
       by_cases c6 : (rd l0 x9_1) < 0
       ·rw [if_pos c6] at H
        have c6b0 : decide ((rd l0 x9_1) < 0) = true:=decide_eq_true c6
        clear c6
        (first|rw [c6b0]|(simp only [qY,zA];rw [c6b0])|skip)
        have H':=qA.mk H
        clear H
        go_wp2
        go_meet
        case rel=>exact ⟨_,(true),byae,H',⟨byan⟩,byam⟩
       ·rw [if_neg c6] at H
        have c6b0 : decide ((rd l0 x9_1) < 0) = false:=decide_eq_false c6
        clear c6
        (first|rw [c6b0]|(simp only [qY,zA];rw [c6b0])|skip)
        have H':=qA.mk H
        clear H
        go_wp2
        go_meet
        case rel=>exact ⟨_,(decide ((rd l0 x9_1) ≥ 10)),byae,H',⟨byan⟩,byam⟩
      case rest =>
       clear HC5
       try clear p1
       try clear q1
       try clear hx1
       try clear c2
       try clear c2b0
       try clear p2
       try clear c3
       try clear c3b0
       try clear c4
       try clear c4b0
       try clear c6
       try clear c6b0
       try clear hx112_0
       try clear p112
       try clear q112
       obtain ⟨kq,x18_4,rfl,HA,HJ4,⟨mc4,rfl⟩⟩:=hcut
       cases kq with
       | zero=>exact absurd HA.out (by simp [jH.j1])
       | succ kj4 =>
        have H:=HA.out
        clear HA
        simp only [jH.j1] at H
        by_cases c7 : x18_4 = true
        ·subst c7
         have H1 : (some (0,5)) = some (r1,r2):=by rw [if_pos rfl] at H;exact H
         clear H
         have H:=H1
         clear H1
         simp only [Option.some.injEq,Prod.mk.injEq] at H
         obtain ⟨rfl,rfl⟩:=H
         go_wp2
         go_ret2
         exact ⟨byae,byam⟩
        ·replace c7:=Bool.eq_false_iff.mpr c7
         subst c7
         have H1 : ((vQ.f x4_1 (rd l0 x9_1)).bind fun t113=>(if t113 = true then (some (0,6)) else (if 0 ≤ (rd l0 x9_1) then (jH.l0 kj4 (Go.bits .or .i64 x4_1 (shl .i64 1 (rd l0 x9_1))) l0 (l0.length : Int) (wrap64 (x9_1 + 1))) else (none)))) = some (r1,r2):=by rw [if_neg (show ¬ (false = true) by decide)] at H;exact H
         clear H
         have H:=H1
         clear H1
         replace H:=Option.bind_eq_some_iff.mp H
         obtain ⟨t113,A80,H⟩:=H
         replace H : (if t113 = true then (some (0,6)) else (if 0 ≤ (rd l0 x9_1) then (jH.l0 kj4 (Go.bits .or .i64 x4_1 (shl .i64 1 (rd l0 x9_1))) l0 (l0.length : Int) (wrap64 (x9_1 + 1))) else (none))) = some (r1,r2):=H
         have A8:=qA.mk A80
         clear A80
         by_cases c9 : t113 = true
         ·subst c9
          have H1 : (some (0,6)) = some (r1,r2):=by rw [if_pos rfl] at H;exact H
          clear H
          have H:=H1
          clear H1
          simp only [Option.some.injEq,Prod.mk.injEq] at H
          obtain ⟨rfl,rfl⟩:=H
          go_wp2_with (first|((with_reducible refine qI (f:=62) rfl ?_);refine zL (some 21) rfl rfl Try.func62 (by kernel_rfl) rfl #[.int .i64 x4_1,.int .i64 (rd l0 x9_1)] rfl byah ?_;(with_reducible refine (vQ.calls x4_1 (rd l0 x9_1) true _ A8.out).mono ?_);rintro e w' ⟨rfl,⟨nd,rfl⟩⟩;refine ⟨_,rfl,?_⟩))
          go_ret2
          exact ⟨byae,byam⟩
         ·replace c9:=Bool.eq_false_iff.mpr c9
          subst c9
          have H1 : (if 0 ≤ (rd l0 x9_1) then (jH.l0 kj4 (Go.bits .or .i64 x4_1 (shl .i64 1 (rd l0 x9_1))) l0 (l0.length : Int) (wrap64 (x9_1 + 1))) else (none)) = some (r1,r2):=by rw [if_neg (show ¬ (false = true) by decide)] at H;exact H
          clear H
          have H:=H1
          clear H1
          by_cases c10 : 0 ≤ (rd l0 x9_1)
          ·rw [if_pos c10] at H
           have c10b0:=eq_true c10
           have c10b1 : decide (0 ≤ (rd l0 x9_1)) = true:=decide_eq_true c10
           clear c10
           obtain ⟨ji11,hji11⟩ : ∃ j_ : Int,(shl .i64 1 (rd l0 x9_1)) = j_:=⟨_,rfl⟩
           replace H : (jH.l0 kj4 (Go.bits .or .i64 x4_1 (ji11)) l0 (l0.length : Int) (wrap64 (x9_1 + 1))) = some (r1,r2):=by first|(rw [hji11] at H;exact H)|(simp only [hji11] at H ⊢;exact H)
           (try rw [hji11] at A8)
           have hji11_ : (IntKind.i64.wrap (1 * 2 ^ min (rd l0 x9_1).toNat 64)) = ji11:=hji11
           have hji11z : (rd l0 x9_1) ≤ 64→(IntKind.i64.wrap (1 * 2 ^ (rd l0 x9_1).toNat)) = ji11:=uN hji11
           have hji11u : (IntKind.i64.wrap (2 ^ min (rd l0 x9_1).toNat 64)) = ji11:=by have h_:=hji11_;rw [Int.one_mul] at h_;exact h_
           have hji11v : (rd l0 x9_1) ≤ 64→(IntKind.i64.wrap (2 ^ (rd l0 x9_1).toNat)) = ji11:=fun hle_=>by have h_:=hji11z hle_;rw [Int.one_mul] at h_;exact h_
           have hji11y : (wrap64 (1 * 2 ^ min (rd l0 x9_1).toNat 64)) = ji11:=(qY _).symm.trans hji11_
           have hji11x : (rd l0 x9_1) ≤ 64→(wrap64 (1 * 2 ^ (rd l0 x9_1).toNat)) = ji11:=fun h_=>(qY _).symm.trans (hji11z h_)
           have H':=qA.mk H
           clear H
           go_wp2_with (first|((with_reducible refine qI (f:=62) rfl ?_);refine zL (some 21) rfl rfl Try.func62 (by kernel_rfl) rfl #[.int .i64 x4_1,.int .i64 (rd l0 x9_1)] rfl byah ?_;(with_reducible refine (vQ.calls x4_1 (rd l0 x9_1) false _ A8.out).mono ?_);rintro e w' ⟨rfl,⟨nd,rfl⟩⟩;refine ⟨_,rfl,?_⟩))
           go_roundg kj4
           case measure=>have:=HK1.out;have:=HJ4.out;omega
           case rel=>exact ⟨(Go.bits .or .i64 x4_1 (ji11)),(wrap64 (x9_1 + 1)),byao,byae,H',⟨by have:=HK1.out;have:=HJ4.out;omega⟩,byam⟩
          ·rw [if_neg c10] at H
           exact absurd H (by simp)
     ·rw [if_neg c4] at H
      exact absurd H (by simp)
    ·rw [if_neg c3] at H
     exact absurd H (by simp)
   ·rw [if_neg c2] at H
    have c2b0 : decide (x9_1 < (l0.length : Int)) = false:=decide_eq_false c2
    clear c2
    simp only [Option.some.injEq,Prod.mk.injEq] at H
    obtain ⟨rfl,rfl⟩:=H
    go_wp2
    go_ret2
    exact ⟨byae,byam⟩
end Go.Proofs.Ytkkbdimegpdbgaa.P
