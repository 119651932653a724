/- Functions of the program as Lean functions, and the walks that show that the calls answer so; written by a program of this session (a changed print) and by hand. -/
import Derived.Test.YtkkbdimegpdbgaaQsPx0
namespace Go.Proofs.Ytkkbdimegpdbgaa.P
open Go.RowKit Go.Proofs.YtkkbdimegpdbgaaW.PrintWords Go.Proofs.YtkkbdimegpdbgaaW.PrintLast Go.Proofs.YtkkbdimegpdbgaaW.PrintMore
attribute [local go_sem] kF kD kV kU uJ uK kG kE
set_option linter.unusedVariables false
set_option linter.unusedSimpArgs false
def kS.f (a0_0 : Int) (l0_1 : List Int) (l0_2 : List (S56)) : Option (Bool):=if a0_0 = 0 then (if (l0_1.length : Int) = 0 then (some ((l0_2.length : Int) == 0)) else (some false)) else (some false)
set_option maxHeartbeats 8000000 in
set_option maxRecDepth 100000 in
theorem kS.calls (a0_0 : Int) (A0_1 : Option Addr) (c0_1 : Nat) (l0_1 : List Int) (A0_2 : Option Addr) (c0_2 : Nat) (l0_2 : List (S56)) (r : Bool) (w : World) (hr0_1 : Kd.C (Kd.int .i64) w A0_1 l0_1.length l0_1) (hc0_1 : l0_1.length ≤ c0_1) (hr0_2 : Kd.C k56 w A0_2 l0_2.length l0_2) (hc0_2 : l0_2.length ≤ c0_2) (h : kS.f a0_0 l0_1 l0_2 = some r) :
  Calls Try.prog 68 #[.agg #[.int .i64 a0_0,.slice A0_1 l0_1.length c0_1,.slice A0_2 l0_2.length c0_2]] w fun e w'=>e = .returned (.bool r)∧Below w.heap.size w w':=by
 have hu56:=Try.underlying56
 have HR0_1:=qA.mk hr0_1
 have HC0_1:=qA.mk hc0_1
 clear hr0_1 hc0_1
 have HR0_2:=qA.mk hr0_2
 have HC0_2:=qA.mk hc0_2
 clear hr0_2 hc0_2
 have HB:=qA.mk (Below.refl w.heap.size w)
 unfold kS.f at h
 have H:=h
 clear h
 by_cases c2 : a0_0 = 0
 ·rw [if_pos c2] at H
  obtain ⟨c2b0,c2b1⟩:=eqT c2
  clear c2
  by_cases c3 : (l0_1.length : Int) = 0
  ·rw [if_pos c3] at H
   obtain ⟨c3b0,c3b1⟩:=eqT c3
   clear c3
   obtain rfl:=Option.some.inj H
   go_enter Try.func68,Try.ntmps68
   go_wp2_with (first|((with_reducible refine qP (N:=1) rfl ?_);(try (refine Ql (by rfl) ?_;dsimp only));refine zV (N:=1) (cs:=#[.int .i64 a0_0,.slice A0_1 l0_1.length c0_1,.slice A0_2 l0_2.length c0_2]) (t:=56) ?_;intro gb101 hg w4 hbox hb;have n_:=q_4 (qC byab hb) (hbox) ((byck : w.heap.size ≤ gb101)) ((byck : w.heap.size ≤ gb101));clear HB;obtain ⟨HB,BK101,GW101,GE101⟩:=n_;clear hb hbox hg;obtain ⟨hcz5_0,hcz5_1,hcz5_2,hfz5_0,hfz5_1,hfz5_2⟩:=cz3 BK101.out))
   go_ret
   exact ⟨byac,byad GE101.out⟩
  ·rw [if_neg c3] at H
   obtain ⟨c3b0,c3b1⟩:=eqF c3
   have c3b2 : ¬ (l0_1 = []):=fun h_=>c3 (by rw [h_];rfl)
   obtain rfl:=Option.some.inj H
   go_enter Try.func68,Try.ntmps68
   go_wp2_with (first|((with_reducible refine qP (N:=1) rfl ?_);(try (refine Ql (by rfl) ?_;dsimp only));refine zV (N:=1) (cs:=#[.int .i64 a0_0,.slice A0_1 l0_1.length c0_1,.slice A0_2 l0_2.length c0_2]) (t:=56) ?_;intro gb101 hg w6 hbox hb;have n_:=q_4 (qC byab hb) (hbox) ((byck : w.heap.size ≤ gb101)) ((byck : w.heap.size ≤ gb101));clear HB;obtain ⟨HB,BK101,GW101,GE101⟩:=n_;clear hb hbox hg;obtain ⟨hcz7_0,hcz7_1,hcz7_2,hfz7_0,hfz7_1,hfz7_2⟩:=cz3 BK101.out))
   go_ret
   exact ⟨byac,byad GE101.out⟩
 ·rw [if_neg c2] at H
  obtain ⟨c2b0,c2b1⟩:=eqF c2
  obtain rfl:=Option.some.inj H
  go_enter Try.func68,Try.ntmps68
  go_wp2_with (first|((with_reducible refine qP (N:=1) rfl ?_);(try (refine Ql (by rfl) ?_;dsimp only));refine zV (N:=1) (cs:=#[.int .i64 a0_0,.slice A0_1 l0_1.length c0_1,.slice A0_2 l0_2.length c0_2]) (t:=56) ?_;intro gb101 hg w8 hbox hb;have n_:=q_4 (qC byab hb) (hbox) ((byck : w.heap.size ≤ gb101)) ((byck : w.heap.size ≤ gb101));clear HB;obtain ⟨HB,BK101,GW101,GE101⟩:=n_;clear hb hbox hg;obtain ⟨hcz9_0,hcz9_1,hcz9_2,hfz9_0,hfz9_1,hfz9_2⟩:=cz3 BK101.out))
  go_ret
  exact ⟨byac,byad GE101.out⟩
mutual
def jE.l0 : Nat→Int→List (S56)→Int→Int→Option (Int)
 | 0,_,_,_,_=>none
 | k + 1,x3,x7,x8,x9=>if x9 < x8 then (if 0 ≤ x9 then (if x9 < (x7.length : Int) then ((jE.f k ((qM x7 x9).f0) ((qM x7 x9).f1) ((qM x7 x9).f2)).bind fun t105=>(jE.l0 k (mx x3 t105) x7 x8 (wrap64 (x9 + 1)))) else (none)) else (none)) else (some (wrap64 (x3 + 1)))
def jE.f : Nat→Int→List Int→List (S56)→Option (Int)
 | 0,_,_,_=>none
 | k + 1,a0_0,l0_1,l0_2=>jE.l0 k 0 l0_2 (l0_2.length : Int) 0
end
theorem jE.mono_l : ∀ k,(∀ y0 y1 y2,LeO (jE.f k y0 y1 y2) (jE.f (k + 1) y0 y1 y2))∧(∀ y0 y1 y2 y3,LeO (jE.l0 k y0 y1 y2 y3) (jE.l0 (k + 1) y0 y1 y2 y3))
 | 0=>⟨fun _ _ _ r h=>by simp [jE.f] at h,fun _ _ _ _ r h=>by simp [jE.l0] at h⟩
 | k + 1=>by
  obtain ⟨ih0,ih1⟩:=jE.mono_l k
  refine ⟨?_,?_⟩
  ·intro y0 y1 y2
   unfold jE.f
   repeat' first
   | (with_reducible exact ih0 _ _ _)
   | (with_reducible exact ih1 _ _ _ _)
   | (with_reducible exact LeO.refl _)
   | (with_reducible exact LeO.none _)
   | (with_reducible refine LeO.ite ?_ ?_)
   | (with_reducible refine LeO.bind ?_ (fun _=>?_))
   | exact ih0 _ _ _
   | exact ih1 _ _ _ _
   | exact LeO.none _
   | refine LeO.ite ?_ ?_
   | refine LeO.bind ?_ (fun _=>?_)
  ·intro y0 y1 y2 y3
   unfold jE.l0
   repeat' first
   | (with_reducible exact ih0 _ _ _)
   | (with_reducible exact ih1 _ _ _ _)
   | (with_reducible exact LeO.refl _)
   | (with_reducible exact LeO.none _)
   | (with_reducible refine LeO.ite ?_ ?_)
   | (with_reducible refine LeO.bind ?_ (fun _=>?_))
   | exact ih0 _ _ _
   | exact ih1 _ _ _ _
   | exact LeO.none _
   | refine LeO.ite ?_ ?_
   | refine LeO.bind ?_ (fun _=>?_)
theorem jE.mono : ∀ a0 a1 a2 k,LeO (jE.f k a0 a1 a2) (jE.f (k + 1) a0 a1 a2):=by
 intro a0 a1 a2 k
 obtain ⟨ih0,ih1⟩:=jE.mono_l k
 exact ih0 a0 a1 a2
set_option maxHeartbeats 8000000 in
set_option maxRecDepth 100000 in
theorem jE.calls (k : Nat) : ∀ (a0_0 : Int) (A0_1 : Option Addr) (c0_1 : Nat) (l0_1 : List Int) (A0_2 : Option Addr) (c0_2 : Nat) (l0_2 : List (S56)) (r : Int) (w : World) (hr0_1 : Kd.C (Kd.int .i64) w A0_1 l0_1.length l0_1) (hc0_1 : l0_1.length ≤ c0_1) (hr0_2 : Kd.C k56 w A0_2 l0_2.length l0_2) (hc0_2 : l0_2.length ≤ c0_2) (h : jE.f k a0_0 l0_1 l0_2 = some r),
  Calls Try.prog 81 #[.agg #[.int .i64 a0_0,.slice A0_1 l0_1.length c0_1,.slice A0_2 l0_2.length c0_2]] w fun e w'=>e = .returned (.int .i64 r)∧Below w.heap.size w w':=by
 induction k using Nat.strongRecOn with
 | _ k ih =>
 intro a0_0 A0_1 c0_1 l0_1 A0_2 c0_2 l0_2 r w hr0_1 hc0_1 hr0_2 hc0_2 h
 cases k with
 | zero=>exact absurd h (by simp [jE.f])
 | succ k =>
 simp only [jE.f] at h
 have hu56:=Try.underlying56
 have HR0_1:=qA.mk hr0_1
 have HC0_1:=qA.mk hc0_1
 clear hr0_1 hc0_1
 have HR0_2:=qA.mk hr0_2
 have HC0_2:=qA.mk hc0_2
 clear hr0_2 hc0_2
 have HB:=qA.mk (Below.refl w.heap.size w)
 have H:=h
 clear h
 have H':=qA.mk H
 clear H
 go_enter Try.func81,Try.ntmps81
 go_wp2_with (first|((with_reducible refine qP (N:=1) rfl ?_);refine zV (N:=1) (cs:=#[.int .i64 a0_0,.slice A0_1 l0_1.length c0_1,.slice A0_2 l0_2.length c0_2]) (t:=56) ?_;intro gb102 hg w2 hbox hb;have n_:=q_4 (qC byab hb) (hbox) ((byck : w.heap.size ≤ gb102)) ((byck : w.heap.size ≤ gb102));clear HB;obtain ⟨HB,BK102,GW102,GE102⟩:=n_;clear hb hbox hg;obtain ⟨hcz3_0,hcz3_1,hcz3_2,hfz3_0,hfz3_1,hfz3_2⟩:=cz3 BK102.out))
 go_loopg [3,9] k (fun kq v3 v9 w'=>∃ (x3_1 : Int) (x9_1 : Int),v3 = .int .i64 x3_1∧v9 = .int .i64 x9_1∧qA (jE.l0 kq x3_1 l0_2 (l0_2.length : Int) x9_1 = some r)∧qA (kq ≤ k)∧qA (w'.heap[gb102]? = some (.cells #[.int .i64 a0_0,(.slice A0_1 l0_1.length c0_1),(.slice A0_2 l0_2.length c0_2)] 56 (0,0)))∧qA (Below w.heap.size w w'))
 case atStart=>exact ⟨(0),(0),byae,byae,H',⟨Nat.le_refl _⟩,⟨byaf BK102.out⟩,⟨byad GE102.out⟩⟩
 case round =>
  clear H'
  obtain ⟨x3_1,x9_1,rfl,rfl,HA,HK1,BK102,HB⟩:=hrel
  cases gk with
  | zero=>exact absurd HA.out (by simp [jE.l0])
  | succ k1 =>
   have H:=HA.out
   clear HA
   simp only [jE.l0] at H
   by_cases c4 : x9_1 < (l0_2.length : Int)
   ·rw [if_pos c4] at H
    have c4b0:=decide_eq_true c4
    clear c4
    by_cases c5 : 0 ≤ x9_1
    ·rw [if_pos c5] at H
     have c5b0:=decide_eq_true c5
     clear c5
     by_cases c6 : x9_1 < (l0_2.length : Int)
     ·rw [if_pos c6] at H
      have c6b0:=decide_eq_true c6
      clear c6
      replace H:=Option.bind_eq_some_iff.mp H
      obtain ⟨t105,A70,H⟩:=H
      try dsimp only at H
      have A7:=qA.mk A70
      clear A70
      obtain ⟨ji8,hji8⟩ : ∃ j_ : Int,(mx x3_1 t105) = j_:=⟨_,rfl⟩
      (first|rw [hji8] at H|(simp only [hji8] at H))
      (try rw [hji8] at A7)
      have hji8_ : (if x3_1 < t105 then t105 else x3_1) = ji8:=hji8
      have H':=qA.mk H
      clear H
      have p103 : 0 ≤ (x9_1 : Int):=of_decide_eq_true byag
      have q103 : x9_1 < (l0_2.length : Int):=of_decide_eq_true byag
      obtain ⟨ad103,A103_1,c103_1,A103_2,c103_2,e103,hx103_0,hx103_1,hx103_2,hl103_1,hi103_1,hl103_2,hi103_2⟩:=Zj HR0_2.out x9_1 p103 q103
      cases e103
      replace hx103_0:=(HB.out.cell (World.block_lt_of_cell? w _ hx103_0)).trans hx103_0
      replace hx103_1:=(HB.out.cell (World.block_lt_of_cell? w _ hx103_1)).trans hx103_1
      replace hx103_2:=(HB.out.cell (World.block_lt_of_cell? w _ hx103_2)).trans hx103_2
      have HR103_1:=qA.mk hi103_1
      have HC103_1:=qA.mk hl103_1
      clear hi103_1 hl103_1
      have HR103_2:=qA.mk hi103_2
      have HC103_2:=qA.mk hl103_2
      clear hi103_2 hl103_2
      replace p103:=eq_true p103
      replace q103:=eq_true q103
      go_wp2_with (first|((with_reducible refine qP (N:=5) rfl ?_);refine zV (N:=5) (cs:=#[.int .i64 0,.slice none 0 0,.slice none 0 0]) (t:=56) ?_;intro gb104 hg w9 hbox hb;have n_:=q_6 (qH BK102.out hb) (qC (byad GE102.out) hb) (hbox) ((bycl GE102.out : w.heap.size ≤ gb104)) ((bycl GE102.out : w.heap.size ≤ gb104)) ((by rw [hg];exact Nat.ne_of_lt (vF BK102.out) : gb102≠gb104));clear BK102 HB;obtain ⟨BK102,HB,BK104,GW104,GE104,NB102_104⟩:=n_;have NB104_102:=ns NB102_104;clear hb hbox hg;have hnb10:=NB104_102.out;have hnc10:=NB102_104.out;obtain ⟨hcz11_0,hcz11_1,hcz11_2,hfz11_0,hfz11_1,hfz11_2⟩:=cz3 BK104.out)|((with_reducible refine qI (f:=81) rfl ?_);refine qY (some 15) rfl rfl Try.func81 (by kernel_rfl) rfl #[.agg #[.int .i64 ((qM l0_2 x9_1).f0),.slice A103_1 ((qM l0_2 x9_1).f1).length c103_1,.slice A103_2 ((qM l0_2 x9_1).f2).length c103_2]] rfl byah ?_;(with_reducible refine (ih k1 byai ((qM l0_2 x9_1).f0) _ _ ((qM l0_2 x9_1).f1) _ _ ((qM l0_2 x9_1).f2) t105 _ ?side1 ?side2 ?side3 ?side4 A7.out).mono ?_);(case side1=>exact Kd.vU HR103_1.out (byaj GE102.out GE104.out));(case side2=>exact HC103_1.out);(case side3=>exact Kd.vU HR103_2.out (byaj GE102.out GE104.out));(case side4=>exact HC103_2.out);rintro e w12 ⟨rfl,hb⟩;refine ⟨_,rfl,?_⟩;have n_:=q_3 (jQ (g:=gb102) (o:=.cells #[.int .i64 a0_0,.slice A0_1 l0_1.length c0_1,.slice (some ad103) l0_2.length c0_2] 56 (0,0)) (byak NB102_104.out BK102.out) hb) (jQ (g:=gb104) (o:=.cells #[.int .i64 ((qM l0_2 x9_1).f0),.slice A103_1 ((qM l0_2 x9_1).f1).length c103_1,.slice A103_2 ((qM l0_2 x9_1).f2).length c103_2] 56 (0,0)) (by (with_reducible repeat (first|refine qF ?_ _|refine qG ?_|refine qE ?_ _));refine qO (cs:=#[.int .i64 ((qM l0_2 x9_1).f0),.slice A103_1 ((qM l0_2 x9_1).f1).length c103_1,.slice none 0 0]) ?_ 2 _ rfl;(with_reducible repeat (first|refine qF ?_ _|refine qG ?_|refine qE ?_ _));refine qO (cs:=#[.int .i64 ((qM l0_2 x9_1).f0),.slice none 0 0,.slice none 0 0]) ?_ 1 _ rfl;(with_reducible repeat (first|refine qF ?_ _|refine qG ?_|refine qE ?_ _));refine qO (cs:=#[.int .i64 0,.slice none 0 0,.slice none 0 0]) ?_ 0 _ rfl;(with_reducible repeat (first|refine qF ?_ _|refine qG ?_|refine qE ?_ _));exact BK104.out) hb) (qC (byaj GE102.out GE104.out) hb);clear BK102 BK104 HB;obtain ⟨BK102,BK104,HB⟩:=n_;clear hb))
      go_roundg k1
      case measure=>have:=HK1.out;omega
      case rel=>exact ⟨(ji8),(wrap64 (x9_1 + 1)),byal,byae,H',⟨byai⟩,⟨byaf BK102.out⟩,⟨byaj GE102.out GE104.out⟩⟩
     ·rw [if_neg c6] at H
      exact absurd H (by simp)
    ·rw [if_neg c5] at H
     exact absurd H (by simp)
   ·rw [if_neg c4] at H
    have c4b0:=decide_eq_false c4
    clear c4
    obtain rfl:=Option.some.inj H
    go_wp2
    go_ret
    exact ⟨byac,byad GE102.out⟩
mutual
def jI.l0 : Nat→Int→List (S56)→Int→Int→Option (Int)
 | 0,_,_,_,_=>none
 | k + 1,x3,x14,x15,x16=>if x16 < x15 then (if 0 ≤ x16 then (if x16 < (x14.length : Int) then ((jI.f k ((qM x14 x16).f0) ((qM x14 x16).f1) ((qM x14 x16).f2)).bind fun t109=>(jI.l0 k (wrap64 (x3 + t109)) x14 x15 (wrap64 (x16 + 1)))) else (none)) else (none)) else (some x3)
def jI.f : Nat→Int→List Int→List (S56)→Option (Int)
 | 0,_,_,_=>none
 | k + 1,a0_0,l0_1,l0_2=>jI.l0 k (wrap64 ((l0_1.length : Int) + (l0_2.length : Int))) l0_2 (l0_2.length : Int) 0
end
theorem jI.mono_l : ∀ k,(∀ y0 y1 y2,LeO (jI.f k y0 y1 y2) (jI.f (k + 1) y0 y1 y2))∧(∀ y0 y1 y2 y3,LeO (jI.l0 k y0 y1 y2 y3) (jI.l0 (k + 1) y0 y1 y2 y3))
 | 0=>⟨fun _ _ _ r h=>by simp [jI.f] at h,fun _ _ _ _ r h=>by simp [jI.l0] at h⟩
 | k + 1=>by
  obtain ⟨ih0,ih1⟩:=jI.mono_l k
  refine ⟨?_,?_⟩
  ·intro y0 y1 y2
   unfold jI.f
   repeat' first
   | (with_reducible exact ih0 _ _ _)
   | (with_reducible exact ih1 _ _ _ _)
   | (with_reducible exact LeO.refl _)
   | (with_reducible exact LeO.none _)
   | (with_reducible refine LeO.ite ?_ ?_)
   | (with_reducible refine LeO.bind ?_ (fun _=>?_))
   | exact ih0 _ _ _
   | exact ih1 _ _ _ _
   | exact LeO.none _
   | refine LeO.ite ?_ ?_
   | refine LeO.bind ?_ (fun _=>?_)
  ·intro y0 y1 y2 y3
   unfold jI.l0
   repeat' first
   | (with_reducible exact ih0 _ _ _)
   | (with_reducible exact ih1 _ _ _ _)
   | (with_reducible exact LeO.refl _)
   | (with_reducible exact LeO.none _)
   | (with_reducible refine LeO.ite ?_ ?_)
   | (with_reducible refine LeO.bind ?_ (fun _=>?_))
   | exact ih0 _ _ _
   | exact ih1 _ _ _ _
   | exact LeO.none _
   | refine LeO.ite ?_ ?_
   | refine LeO.bind ?_ (fun _=>?_)
theorem jI.mono : ∀ a0 a1 a2 k,LeO (jI.f k a0 a1 a2) (jI.f (k + 1) a0 a1 a2):=by
 intro a0 a1 a2 k
 obtain ⟨ih0,ih1⟩:=jI.mono_l k
 exact ih0 a0 a1 a2
set_option maxHeartbeats 8000000 in
set_option maxRecDepth 100000 in
theorem jI.calls (k : Nat) : ∀ (a0_0 : Int) (A0_1 : Option Addr) (c0_1 : Nat) (l0_1 : List Int) (A0_2 : Option Addr) (c0_2 : Nat) (l0_2 : List (S56)) (r : Int) (w : World) (hr0_1 : Kd.C (Kd.int .i64) w A0_1 l0_1.length l0_1) (hc0_1 : l0_1.length ≤ c0_1) (hr0_2 : Kd.C k56 w A0_2 l0_2.length l0_2) (hc0_2 : l0_2.length ≤ c0_2) (h : jI.f k a0_0 l0_1 l0_2 = some r),
  Calls Try.prog 82 #[.agg #[.int .i64 a0_0,.slice A0_1 l0_1.length c0_1,.slice A0_2 l0_2.length c0_2]] w fun e w'=>e = .returned (.int .i64 r)∧Below w.heap.size w w':=by
 induction k using Nat.strongRecOn with
 | _ k ih =>
 intro a0_0 A0_1 c0_1 l0_1 A0_2 c0_2 l0_2 r w hr0_1 hc0_1 hr0_2 hc0_2 h
 cases k with
 | zero=>exact absurd h (by simp [jI.f])
 | succ k =>
 simp only [jI.f] at h
 have hu56:=Try.underlying56
 have HR0_1:=qA.mk hr0_1
 have HC0_1:=qA.mk hc0_1
 clear hr0_1 hc0_1
 have HR0_2:=qA.mk hr0_2
 have HC0_2:=qA.mk hc0_2
 clear hr0_2 hc0_2
 have HB:=qA.mk (Below.refl w.heap.size w)
 have H:=h
 clear h
 have H':=qA.mk H
 clear H
 go_enter Try.func82,Try.ntmps82
 go_wp2_with (first|((with_reducible refine qP (N:=1) rfl ?_);refine zV (N:=1) (cs:=#[.int .i64 a0_0,.slice A0_1 l0_1.length c0_1,.slice A0_2 l0_2.length c0_2]) (t:=56) ?_;intro gb106 hg w2 hbox hb;have n_:=q_4 (qC byab hb) (hbox) ((byck : w.heap.size ≤ gb106)) ((byck : w.heap.size ≤ gb106));clear HB;obtain ⟨HB,BK106,GW106,GE106⟩:=n_;clear hb hbox hg;obtain ⟨hcz3_0,hcz3_1,hcz3_2,hfz3_0,hfz3_1,hfz3_2⟩:=cz3 BK106.out))
 go_loopg [3,16] k (fun kq v3 v16 w'=>∃ (x3_1 : Int) (x16_1 : Int),v3 = .int .i64 x3_1∧v16 = .int .i64 x16_1∧qA (jI.l0 kq x3_1 l0_2 (l0_2.length : Int) x16_1 = some r)∧qA (kq ≤ k)∧qA (w'.heap[gb106]? = some (.cells #[.int .i64 a0_0,(.slice A0_1 l0_1.length c0_1),(.slice A0_2 l0_2.length c0_2)] 56 (0,0)))∧qA (Below w.heap.size w w'))
 case atStart=>exact ⟨(wrap64 ((l0_1.length : Int) + (l0_2.length : Int))),(0),byae,byae,H',⟨Nat.le_refl _⟩,⟨byaf BK106.out⟩,⟨byad GE106.out⟩⟩
 case round =>
  clear H'
  obtain ⟨x3_1,x16_1,rfl,rfl,HA,HK1,BK106,HB⟩:=hrel
  cases gk with
  | zero=>exact absurd HA.out (by simp [jI.l0])
  | succ k1 =>
   have H:=HA.out
   clear HA
   simp only [jI.l0] at H
   by_cases c4 : x16_1 < (l0_2.length : Int)
   ·rw [if_pos c4] at H
    have c4b0:=decide_eq_true c4
    clear c4
    by_cases c5 : 0 ≤ x16_1
    ·rw [if_pos c5] at H
     have c5b0:=decide_eq_true c5
     clear c5
     by_cases c6 : x16_1 < (l0_2.length : Int)
     ·rw [if_pos c6] at H
      have c6b0:=decide_eq_true c6
      clear c6
      replace H:=Option.bind_eq_some_iff.mp H
      obtain ⟨t109,A70,H⟩:=H
      try dsimp only at H
      have A7:=qA.mk A70
      clear A70
      have H':=qA.mk H
      clear H
      have p107 : 0 ≤ (x16_1 : Int):=of_decide_eq_true byag
      have q107 : x16_1 < (l0_2.length : Int):=of_decide_eq_true byag
      obtain ⟨ad107,A107_1,c107_1,A107_2,c107_2,e107,hx107_0,hx107_1,hx107_2,hl107_1,hi107_1,hl107_2,hi107_2⟩:=Zj HR0_2.out x16_1 p107 q107
      cases e107
      replace hx107_0:=(HB.out.cell (World.block_lt_of_cell? w _ hx107_0)).trans hx107_0
      replace hx107_1:=(HB.out.cell (World.block_lt_of_cell? w _ hx107_1)).trans hx107_1
      replace hx107_2:=(HB.out.cell (World.block_lt_of_cell? w _ hx107_2)).trans hx107_2
      have HR107_1:=qA.mk hi107_1
      have HC107_1:=qA.mk hl107_1
      clear hi107_1 hl107_1
      have HR107_2:=qA.mk hi107_2
      have HC107_2:=qA.mk hl107_2
      clear hi107_2 hl107_2
      replace p107:=eq_true p107
      replace q107:=eq_true q107
      go_wp2_with (first|((with_reducible refine qP (N:=5) rfl ?_);refine zV (N:=5) (cs:=#[.int .i64 0,.slice none 0 0,.slice none 0 0]) (t:=56) ?_;intro gb108 hg w8 hbox hb;have n_:=q_6 (qH BK106.out hb) (qC (byad GE106.out) hb) (hbox) ((bycl GE106.out : w.heap.size ≤ gb108)) ((bycl GE106.out : w.heap.size ≤ gb108)) ((by rw [hg];exact Nat.ne_of_lt (vF BK106.out) : gb106≠gb108));clear BK106 HB;obtain ⟨BK106,HB,BK108,GW108,GE108,NB106_108⟩:=n_;have NB108_106:=ns NB106_108;clear hb hbox hg;have hnb9:=NB108_106.out;have hnc9:=NB106_108.out;obtain ⟨hcz10_0,hcz10_1,hcz10_2,hfz10_0,hfz10_1,hfz10_2⟩:=cz3 BK108.out)|((with_reducible refine qI (f:=82) rfl ?_);refine qY (some 22) rfl rfl Try.func82 (by kernel_rfl) rfl #[.agg #[.int .i64 ((qM l0_2 x16_1).f0),.slice A107_1 ((qM l0_2 x16_1).f1).length c107_1,.slice A107_2 ((qM l0_2 x16_1).f2).length c107_2]] rfl byah ?_;(with_reducible refine (ih k1 byai ((qM l0_2 x16_1).f0) _ _ ((qM l0_2 x16_1).f1) _ _ ((qM l0_2 x16_1).f2) t109 _ ?side1 ?side2 ?side3 ?side4 A7.out).mono ?_);(case side1=>exact Kd.vU HR107_1.out (byaj GE106.out GE108.out));(case side2=>exact HC107_1.out);(case side3=>exact Kd.vU HR107_2.out (byaj GE106.out GE108.out));(case side4=>exact HC107_2.out);rintro e w11 ⟨rfl,hb⟩;refine ⟨_,rfl,?_⟩;have n_:=q_3 (jQ (g:=gb106) (o:=.cells #[.int .i64 a0_0,.slice A0_1 l0_1.length c0_1,.slice (some ad107) l0_2.length c0_2] 56 (0,0)) (byak NB106_108.out BK106.out) hb) (jQ (g:=gb108) (o:=.cells #[.int .i64 ((qM l0_2 x16_1).f0),.slice A107_1 ((qM l0_2 x16_1).f1).length c107_1,.slice A107_2 ((qM l0_2 x16_1).f2).length c107_2] 56 (0,0)) (by (with_reducible repeat (first|refine qF ?_ _|refine qG ?_|refine qE ?_ _));refine qO (cs:=#[.int .i64 ((qM l0_2 x16_1).f0),.slice A107_1 ((qM l0_2 x16_1).f1).length c107_1,.slice none 0 0]) ?_ 2 _ rfl;(with_reducible repeat (first|refine qF ?_ _|refine qG ?_|refine qE ?_ _));refine qO (cs:=#[.int .i64 ((qM l0_2 x16_1).f0),.slice none 0 0,.slice none 0 0]) ?_ 1 _ rfl;(with_reducible repeat (first|refine qF ?_ _|refine qG ?_|refine qE ?_ _));refine qO (cs:=#[.int .i64 0,.slice none 0 0,.slice none 0 0]) ?_ 0 _ rfl;(with_reducible repeat (first|refine qF ?_ _|refine qG ?_|refine qE ?_ _));exact BK108.out) hb) (qC (byaj GE106.out GE108.out) hb);clear BK106 BK108 HB;obtain ⟨BK106,BK108,HB⟩:=n_;clear hb))
      go_roundg k1
      case measure=>have:=HK1.out;omega
      case rel=>exact ⟨(wrap64 (x3_1 + t109)),(wrap64 (x16_1 + 1)),byae,byae,H',⟨byai⟩,⟨byaf BK106.out⟩,⟨byaj GE106.out GE108.out⟩⟩
     ·rw [if_neg c6] at H
      exact absurd H (by simp)
    ·rw [if_neg c5] at H
     exact absurd H (by simp)
   ·rw [if_neg c4] at H
    have c4b0:=decide_eq_false c4
    clear c4
    obtain rfl:=Option.some.inj H
    go_wp2
    go_ret
    exact ⟨byac,byad GE106.out⟩
def kQ.f (a0 : Int) (a1 : Int) : Option (Bool):=if a0 ≥ 0 then (if 0 ≤ a1 then (some (decide (a0 < (shl .i64 1 a1)))) else (none)) else (some false)
set_option maxHeartbeats 8000000 in
set_option maxRecDepth 100000 in
theorem kQ.calls (a0 : Int) (a1 : Int) (r : Bool) (w : World) (h : kQ.f a0 a1 = some r) :
  Calls Try.prog 71 #[.int .i64 a0,.int .i64 a1] w fun e w'=>e = .returned (.bool r)∧kZ w w':=by
 unfold kQ.f at h
 have H:=h
 clear h
 by_cases c3 : a0 ≥ 0
 ·rw [if_pos c3] at H
  have c3b0:=decide_eq_true c3
  clear c3
  by_cases c4 : 0 ≤ a1
  ·rw [if_pos c4] at H
   have c4b0:=eq_true c4
   have c4b1:=decide_eq_true c4
   clear c4
   obtain ⟨ji5,hji5⟩ : ∃ j_ : Int,(shl .i64 1 a1) = j_:=⟨_,rfl⟩
   (first|rw [hji5] at H|(simp only [hji5] at H))
   obtain ⟨hji5_,hji5z,hji5u,hji5v,hji5y,hji5x⟩:=jiA hji5
   obtain rfl:=Option.some.inj H
   go_enter Try.func71,Try.ntmps71
   go_wp2
   go_ret
   exact ⟨by first|rfl|(simp;done)|(simp only [← hji5]<;>(first|rfl|simp))|(simp [*];done),byam⟩
  ·rw [if_neg c4] at H
   exact absurd H (by simp)
 ·rw [if_neg c3] at H
  have c3b0:=decide_eq_false c3
  clear c3
  obtain rfl:=Option.some.inj H
  go_enter Try.func71,Try.ntmps71
  go_wp2
  go_ret
  exact ⟨byae,byam⟩
def vY.f (a0 : Int) : Option (Bool):=(kQ.f a0 10).bind fun t110=>(some t110)
set_option maxHeartbeats 8000000 in
set_option maxRecDepth 100000 in
theorem vY.calls (a0 : Int) (r : Bool) (w : World) (h : vY.f a0 = some r) :
  Calls Try.prog 73 #[.int .i64 a0] w fun e w'=>e = .returned (.bool r)∧kZ w w':=by
 unfold vY.f at h
 have H:=h
 clear h
 replace H:=Option.bind_eq_some_iff.mp H
 obtain ⟨t110,A20,H⟩:=H
 try dsimp only at H
 have A2:=qA.mk A20
 clear A20
 obtain rfl:=Option.some.inj H
 go_enter Try.func73,Try.ntmps73
 go_wp2_with (first|((with_reducible refine qI (f:=71) rfl ?_);refine qY (some 4) rfl rfl Try.func71 (by kernel_rfl) rfl #[.int .i64 a0,.int .i64 10] rfl byah ?_;(with_reducible refine (kQ.calls a0 10 t110 _ A2.out).mono ?_);rintro e w' ⟨rfl,⟨nd,rfl⟩⟩;refine ⟨_,rfl,?_⟩))
 go_ret
 exact ⟨byae,byam⟩
def kR.f (a0 : Int) (a1 : Int) : Option (Bool):=(vY.f a0).bind fun t111=>(if t111 = true then (if a1 ≥ 0 then (if a1 < 10 then (if 0 ≤ a1 then (some ((Go.bits .and .i64 a0 (shl .i64 1 a1)) != 0)) else (none)) else (some false)) else (some false)) else (some false))
set_option maxHeartbeats 8000000 in
set_option maxRecDepth 100000 in
theorem kR.calls (a0 : Int) (a1 : Int) (r : Bool) (w : World) (h : kR.f a0 a1 = some r) :
  Calls Try.prog 62 #[.int .i64 a0,.int .i64 a1] w fun e w'=>e = .returned (.bool r)∧kZ w w':=by
 unfold kR.f at h
 have H:=h
 clear h
 replace H:=Option.bind_eq_some_iff.mp H
 obtain ⟨t111,A30,H⟩:=H
 try dsimp only at H
 have A3:=qA.mk A30
 clear A30
 by_cases c4 : t111 = true
 ·subst c4
  rw [if_pos rfl] at H
  by_cases c5 : a1 ≥ 0
  ·rw [if_pos c5] at H
   have c5b0:=decide_eq_true c5
   clear c5
   by_cases c6 : a1 < 10
   ·rw [if_pos c6] at H
    have c6b0:=decide_eq_true c6
    clear c6
    by_cases c7 : 0 ≤ a1
    ·rw [if_pos c7] at H
     have c7b0:=eq_true c7
     have c7b1:=decide_eq_true c7
     clear c7
     obtain ⟨ji8,hji8⟩ : ∃ j_ : Int,(shl .i64 1 a1) = j_:=⟨_,rfl⟩
     (first|rw [hji8] at H|(simp only [hji8] at H))
     (try rw [hji8] at A3)
     obtain ⟨hji8_,hji8z,hji8u,hji8v,hji8y,hji8x⟩:=jiA hji8
     obtain rfl:=Option.some.inj H
     go_enter Try.func62,Try.ntmps62
     go_wp2_with (first|((with_reducible refine qI (f:=73) rfl ?_);refine qY (some 6) rfl rfl Try.func73 (by kernel_rfl) rfl #[.int .i64 a0] rfl byah ?_;(with_reducible refine (vY.calls a0 true _ A3.out).mono ?_);rintro e w' ⟨rfl,⟨nd,rfl⟩⟩;refine ⟨_,rfl,?_⟩))
     go_ret
     exact ⟨byal,byam⟩
    ·rw [if_neg c7] at H
     exact absurd H (by simp)
   ·rw [if_neg c6] at H
    have c6b0:=decide_eq_false c6
    clear c6
    obtain rfl:=Option.some.inj H
    go_enter Try.func62,Try.ntmps62
    go_wp2_with (first|((with_reducible refine qI (f:=73) rfl ?_);refine qY (some 6) rfl rfl Try.func73 (by kernel_rfl) rfl #[.int .i64 a0] rfl byah ?_;(with_reducible refine (vY.calls a0 true _ A3.out).mono ?_);rintro e w' ⟨rfl,⟨nd,rfl⟩⟩;refine ⟨_,rfl,?_⟩))
    go_ret
    exact ⟨byae,byam⟩
  ·rw [if_neg c5] at H
   have c5b0:=decide_eq_false c5
   clear c5
   obtain rfl:=Option.some.inj H
   go_enter Try.func62,Try.ntmps62
   go_wp2_with (first|((with_reducible refine qI (f:=73) rfl ?_);refine qY (some 6) rfl rfl Try.func73 (by kernel_rfl) rfl #[.int .i64 a0] rfl byah ?_;(with_reducible refine (vY.calls a0 true _ A3.out).mono ?_);rintro e w' ⟨rfl,⟨nd,rfl⟩⟩;refine ⟨_,rfl,?_⟩))
   go_ret
   exact ⟨byae,byam⟩
 ·replace c4:=Bool.eq_false_iff.mpr c4
  subst c4
  rw [if_neg (show ¬ (false = true) by decide)] at H
  obtain rfl:=Option.some.inj H
  go_enter Try.func62,Try.ntmps62
  go_wp2_with (first|((with_reducible refine qI (f:=73) rfl ?_);refine qY (some 6) rfl rfl Try.func73 (by kernel_rfl) rfl #[.int .i64 a0] rfl byah ?_;(with_reducible refine (vY.calls a0 false _ A3.out).mono ?_);rintro e w' ⟨rfl,⟨nd,rfl⟩⟩;refine ⟨_,rfl,?_⟩))
  go_ret
  exact ⟨byae,byam⟩
mutual
def vC.l0 : Nat→Int→List Int→Int→Int→Option (Int × Int)
 | 0,_,_,_,_=>none
 | k + 1,x4,x7,x8,x9=>if x9 < x8 then (if 0 ≤ x9 then (if x9 < (x7.length : Int) then (if (rd x7 x9) < 0 then (vC.j1 k x4 (rd x7 x9) x7 x8 x9 true) else (vC.j1 k x4 (rd x7 x9) x7 x8 x9 (decide ((rd x7 x9) ≥ 10)))) else (none)) else (none)) else (some (x4,0))
def vC.j1 : Nat→Int→Int→List Int→Int→Int→Bool→Option (Int × Int)
 | 0,_,_,_,_,_,_=>none
 | k + 1,x4,x6,x7,x8,x9,x18=>if x18 = true then (some (0,5)) else ((kR.f x4 x6).bind fun t113=>(if t113 = true then (some (0,6)) else (if 0 ≤ x6 then (vC.l0 k (Go.bits .or .i64 x4 (shl .i64 1 x6)) x7 x8 (wrap64 (x9 + 1))) else (none))))
end
def vC.f (k : Nat) (l0 : List Int) : Option (Int × Int):=vC.l0 k 0 l0 (l0.length : Int) 0
theorem vC.mono_l : ∀ k,(∀ y0 y1 y2 y3,LeO (vC.l0 k y0 y1 y2 y3) (vC.l0 (k + 1) y0 y1 y2 y3))∧(∀ y0 y1 y2 y3 y4 y5,LeO (vC.j1 k y0 y1 y2 y3 y4 y5) (vC.j1 (k + 1) y0 y1 y2 y3 y4 y5))
 | 0=>⟨fun _ _ _ _ r h=>by simp [vC.l0] at h,fun _ _ _ _ _ _ r h=>by simp [vC.j1] at h⟩
 | k + 1=>by
  obtain ⟨ih0,ih1⟩:=vC.mono_l k
  refine ⟨?_,?_⟩
  ·intro y0 y1 y2 y3
   unfold vC.l0
   repeat' first
   | (with_reducible exact ih0 _ _ _ _)
   | (with_reducible exact ih1 _ _ _ _ _ _)
   | (with_reducible exact LeO.refl _)
   | (with_reducible exact LeO.none _)
   | (with_reducible refine LeO.ite ?_ ?_)
   | (with_reducible refine LeO.bind ?_ (fun _=>?_))
   | exact ih0 _ _ _ _
   | exact ih1 _ _ _ _ _ _
   | exact LeO.none _
   | refine LeO.ite ?_ ?_
   | refine LeO.bind ?_ (fun _=>?_)
  ·intro y0 y1 y2 y3 y4 y5
   unfold vC.j1
   repeat' first
   | (with_reducible exact ih0 _ _ _ _)
   | (with_reducible exact ih1 _ _ _ _ _ _)
   | (with_reducible exact LeO.refl _)
   | (with_reducible exact LeO.none _)
   | (with_reducible refine LeO.ite ?_ ?_)
   | (with_reducible refine LeO.bind ?_ (fun _=>?_))
   | exact ih0 _ _ _ _
   | exact ih1 _ _ _ _ _ _
   | exact LeO.none _
   | refine LeO.ite ?_ ?_
   | refine LeO.bind ?_ (fun _=>?_)
theorem vC.mono : ∀ a0 k,LeO (vC.f k a0) (vC.f (k + 1) a0):=by
 intro a0 k
 obtain ⟨ih0,ih1⟩:=vC.mono_l k
 unfold vC.f
 repeat' first
   | (with_reducible exact ih0 _ _ _ _)
   | (with_reducible exact ih1 _ _ _ _ _ _)
   | (with_reducible exact LeO.refl _)
   | (with_reducible exact LeO.none _)
   | (with_reducible refine LeO.ite ?_ ?_)
   | (with_reducible refine LeO.bind ?_ (fun _=>?_))
   | exact ih0 _ _ _ _
   | exact ih1 _ _ _ _ _ _
   | exact LeO.none _
   | refine LeO.ite ?_ ?_
   | refine LeO.bind ?_ (fun _=>?_)
set_option maxHeartbeats 8000000 in
set_option maxRecDepth 100000 in
theorem vC.calls (k : Nat) (A0 : Option Addr) (c0 : Nat) (l0 : List Int) (r1 : Int) (r2 : Int) (w : World) (hr0 : Kd.C (Kd.int .i64) w A0 l0.length l0) (hc0 : l0.length ≤ c0) (h : vC.f k l0 = some (r1,r2)) :
  Calls Try.prog 90 #[.slice A0 l0.length c0] w fun e w'=>e = .returned (.tuple #[.int .i64 r1,.int .i64 r2])∧kZ w w':=by
 have HR0:=qA.mk hr0
 have HC0:=qA.mk hc0
 clear hr0 hc0
 unfold vC.f at h
 have H:=h
 clear h
 have H':=qA.mk H
 clear H
 go_enter Try.func90,Try.ntmps90
 go_wp2
 go_loopg [4,9] k (fun kq v4 v9 w'=>∃ (x4_1 : Int) (x9_1 : Int),v4 = .int .i64 x4_1∧v9 = .int .i64 x9_1∧qA (vC.l0 kq x4_1 l0 (l0.length : Int) x9_1 = some (r1,r2))∧qA (kq ≤ k)∧kZ w w')
 case atStart=>exact ⟨(0),(0),byae,byae,H',⟨Nat.le_refl _⟩,byam⟩
 case round =>
  clear H'
  obtain ⟨x4_1,x9_1,rfl,rfl,HA,HK1,⟨m1,rfl⟩⟩:=hrel
  cases gk with
  | zero=>exact absurd HA.out (by simp [vC.l0])
  | succ k1 =>
   have H:=HA.out
   clear HA
   simp only [vC.l0] at H
   by_cases c2 : x9_1 < (l0.length : Int)
   ·rw [if_pos c2] at H
    have c2b0:=decide_eq_true c2
    clear c2
    by_cases c3 : 0 ≤ x9_1
    ·rw [if_pos c3] at H
     have c3b0:=decide_eq_true c3
     clear c3
     by_cases c4 : x9_1 < (l0.length : Int)
     ·rw [if_pos c4] at H
      have c4b0:=decide_eq_true c4
      clear c4
      have HC5:=qA.mk H
      clear H
      have p112 : 0 ≤ (x9_1 : Int):=of_decide_eq_true byag
      have q112 : x9_1 < (l0.length : Int):=of_decide_eq_true byag
      obtain ⟨ad112,e112,hx112_0⟩:=Kd.kW HR0.out x9_1 p112 q112
      cases e112
      replace p112:=eq_true p112
      replace q112:=eq_true q112
      go_upto_region 5 with (fail)
      go_cut [18] (fun v18 wc=>∃ (kq : Nat) (x18_4 : Bool),v18 = .bool x18_4∧qA (vC.j1 kq x4_1 (rd l0 x9_1) l0 (l0.length : Int) x9_1 x18_4 = some (r1,r2))∧qA (kq ≤ k1)∧kZ w wc)
      case first =>
       have H:=HC5.out
       clear HC5
       by_cases c6 : (rd l0 x9_1) < 0
       ·rw [if_pos c6] at H
        have c6b0:=decide_eq_true c6
        clear c6
        (first|rw [c6b0]|(simp only [Qe,Qh];rw [c6b0])|skip)
        have H':=qA.mk H
        clear H
        go_wp2
        go_meet
        case rel=>exact ⟨_,(true),byae,H',⟨byan⟩,byam⟩
       ·rw [if_neg c6] at H
        have c6b0:=decide_eq_false c6
        clear c6
        (first|rw [c6b0]|(simp only [Qe,Qh];rw [c6b0])|skip)
        have H':=qA.mk H
        clear H
        go_wp2
        go_meet
        case rel=>exact ⟨_,(decide ((rd l0 x9_1) ≥ 10)),byae,H',⟨byan⟩,byam⟩
      case rest =>
       clear HC5
       try clear hx1
       try clear hx112_0
       obtain ⟨kq,x18_4,rfl,HA,HJ4,⟨mc4,rfl⟩⟩:=hcut
       cases kq with
       | zero=>exact absurd HA.out (by simp [vC.j1])
       | succ kj4 =>
        have H:=HA.out
        clear HA
        simp only [vC.j1] at H
        by_cases c7 : x18_4 = true
        ·subst c7
         rw [if_pos rfl] at H
         simp only [Option.some.injEq,Prod.mk.injEq] at H
         obtain ⟨rfl,rfl⟩:=H
         go_wp2
         go_ret2
         exact ⟨byae,byam⟩
        ·replace c7:=Bool.eq_false_iff.mpr c7
         subst c7
         rw [if_neg (show ¬ (false = true) by decide)] at H
         replace H:=Option.bind_eq_some_iff.mp H
         obtain ⟨t113,A80,H⟩:=H
         try dsimp only at H
         have A8:=qA.mk A80
         clear A80
         by_cases c9 : t113 = true
         ·subst c9
          rw [if_pos rfl] at H
          simp only [Option.some.injEq,Prod.mk.injEq] at H
          obtain ⟨rfl,rfl⟩:=H
          go_wp2_with (first|((with_reducible refine qI (f:=62) rfl ?_);refine qY (some 21) rfl rfl Try.func62 (by kernel_rfl) rfl #[.int .i64 x4_1,.int .i64 (rd l0 x9_1)] rfl byah ?_;(with_reducible refine (kR.calls x4_1 (rd l0 x9_1) true _ A8.out).mono ?_);rintro e w' ⟨rfl,⟨nd,rfl⟩⟩;refine ⟨_,rfl,?_⟩))
          go_ret2
          exact ⟨byae,byam⟩
         ·replace c9:=Bool.eq_false_iff.mpr c9
          subst c9
          rw [if_neg (show ¬ (false = true) by decide)] at H
          by_cases c10 : 0 ≤ (rd l0 x9_1)
          ·rw [if_pos c10] at H
           have c10b0:=eq_true c10
           have c10b1:=decide_eq_true c10
           clear c10
           obtain ⟨ji11,hji11⟩ : ∃ j_ : Int,(shl .i64 1 (rd l0 x9_1)) = j_:=⟨_,rfl⟩
           (first|rw [hji11] at H|(simp only [hji11] at H))
           (try rw [hji11] at A8)
           obtain ⟨hji11_,hji11z,hji11u,hji11v,hji11y,hji11x⟩:=jiA hji11
           have H':=qA.mk H
           clear H
           go_wp2_with (first|((with_reducible refine qI (f:=62) rfl ?_);refine qY (some 21) rfl rfl Try.func62 (by kernel_rfl) rfl #[.int .i64 x4_1,.int .i64 (rd l0 x9_1)] rfl byah ?_;(with_reducible refine (kR.calls x4_1 (rd l0 x9_1) false _ A8.out).mono ?_);rintro e w' ⟨rfl,⟨nd,rfl⟩⟩;refine ⟨_,rfl,?_⟩))
           go_roundg kj4
           case measure=>have:=HK1.out;have:=HJ4.out;omega
           case rel=>exact ⟨(Go.bits .or .i64 x4_1 (ji11)),(wrap64 (x9_1 + 1)),byao,byae,H',⟨by have:=HK1.out;have:=HJ4.out;omega⟩,byam⟩
          ·rw [if_neg c10] at H
           exact absurd H (by simp)
     ·rw [if_neg c4] at H
      exact absurd H (by simp)
    ·rw [if_neg c3] at H
     exact absurd H (by simp)
   ·rw [if_neg c2] at H
    have c2b0:=decide_eq_false c2
    clear c2
    simp only [Option.some.injEq,Prod.mk.injEq] at H
    obtain ⟨rfl,rfl⟩:=H
    go_wp2
    go_ret2
    exact ⟨byae,byam⟩
end Go.Proofs.Ytkkbdimegpdbgaa.P
