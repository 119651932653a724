/- Functions of the program as Lean functions, and the walks that show that the calls answer so; written by a program of this session (a changed print) and by hand. -/
import Derived.Test.YtoofabolcbbjnaaOPx0
import Derived.Test.YtoofabolcbbjnaaOPx2
import Derived.Test.YtoofabolcbbjnaaOPx3
import Derived.Test.YtoofabolcbbjnaaOPx8
import Derived.Test.YtoofabolcbbjnaaOPx11
namespace Go.Proofs.Ytoofabolcbbjnaa.P
open Go.RowKit Go.Proofs.YtoofabolcbbjnaaW.PrintWords Go.Proofs.YtoofabolcbbjnaaW.PrintLast Go.Proofs.YtoofabolcbbjnaaW.PrintMore
attribute [local go_sem] max2_int min2_int max_two min_two max_three min_three max_four min_four
set_option linter.unusedVariables false
set_option linter.unusedSimpArgs false
mutual
def trustquorumlaw09_ClosureOrders.l0 : Nat → Int → Int → List Int → List Int → Int → List (S51) → Option (Bool)
  | 0, _, _, _, _, _, _ => none
  | k + 1, x5, x6, x7, x439000, x439001, x444000 => (trustquorumref01_Nodes.f k x6).bind fun t447 => (trustquorumlaw09_ClosureOrders.l1 k x5 x6 x7 ([] : List Int) t447 (t447.length : Int) 0 x439000 x439001 x444000)
def trustquorumlaw09_ClosureOrders.l1 : Nat → Int → Int → List Int → List Int → List Int → Int → Int → List Int → Int → List (S51) → Option (Bool)
  | 0, _, _, _, _, _, _, _, _, _, _ => none
  | k + 1, x5, x6, x7, x8, x29, x30, x31, x439000, x439001, x444000 => if x31 < x30 then (if 0 ≤ x31 then (if x31 < (x29.length : Int) then (if 0 ≤ (rd x29 x31) then (if (rd x29 x31) < (x444000.length : Int) then ((trustquorumref02_Satisfied.f k ((rd_T51 x444000 (rd x29 x31)).f1.f0) ((rd_T51 x444000 (rd x29 x31)).f1.f1) ((rd_T51 x444000 (rd x29 x31)).f1.f2) x6).bind fun t452 => (if t452 = true then (trustquorumlaw09_ClosureOrders.l1 k x5 x6 x7 x8 x29 x30 (wrap64 (x31 + 1)) x439000 x439001 x444000) else (if x8.length < 17592186044416 then (trustquorumlaw09_ClosureOrders.l1 k x5 x6 x7 (x8 ++ [rd x29 x31]) x29 x30 (wrap64 (x31 + 1)) x439000 x439001 x444000) else (none)))) else (none)) else (none)) else (none)) else (none)) else (if (x8.length : Int) = 0 then ((closure_Check.f k x444000 x5 x7).bind fun bt462 => ((closure_Elimination.f k x444000 x5).bind fun t464 => ((closure_Check.f k x444000 x5 t464).bind fun bt467 => (if bt462.2 = 0 then (if bt467.2 = 0 then (if bt462.1 = x6 then (if bt467.1 = x6 then ((closure_Greatest.f k x444000 x5).bind fun t469 => (trustquorumlaw09_ClosureOrders.j2 k x5 x7 (t469 != x6) x444000)) else (trustquorumlaw09_ClosureOrders.j2 k x5 x7 true x444000)) else (trustquorumlaw09_ClosureOrders.j2 k x5 x7 true x444000)) else (trustquorumlaw09_ClosureOrders.j2 k x5 x7 true x444000)) else (trustquorumlaw09_ClosureOrders.j2 k x5 x7 true x444000))))) else ((trustquorummake_Tape_N.f x439000 x439001 (x8.length : Int)).bind fun bt456 => (if 0 ≤ bt456.1 then (if bt456.1 < (x8.length : Int) then (if x7.length < 17592186044416 then (if 0 ≤ (rd x8 bt456.1) then (trustquorumlaw09_ClosureOrders.l0 k x5 (wrap64 (x6 - (shl .i64 1 (rd x8 bt456.1)))) (x7 ++ [rd x8 bt456.1]) x439000 bt456.2 x444000) else (none)) else (none)) else (none)) else (none))))
def trustquorumlaw09_ClosureOrders.j2 : Nat → Int → List Int → Bool → List (S51) → Option (Bool)
  | 0, _, _, _, _ => none
  | k + 1, x5, x7, x105, x444000 => if x105 = true then (some false) else (if (x7.length : Int) > 0 then (if 0 ≤ (wrap64 ((x7.length : Int) - 1)) then (if (wrap64 ((x7.length : Int) - 1)) ≤ (x7.length : Int) then ((closure_Check.f k x444000 x5 (x7.take ((wrap64 ((x7.length : Int) - 1)) : Int).toNat)).bind fun bt474 => (if bt474.2 = 12 then ((trustquorumlaw09_awake.f k).bind fun t476 => (some t476)) else (some false))) else (none)) else (none)) else ((trustquorumlaw09_awake.f k).bind fun t477 => (some t477)))
end
def trustquorumlaw09_ClosureOrders.f (k : Nat) (l0 : List Int) : Option (Bool) := (trustquorummake_New.f l0).bind fun bt436 => ((trustquorummake_Config.f k bt436.1 bt436.2 10).bind fun bt439 => ((trustquorummake_Tape_N.f bt436.1 bt439.2 1024).bind fun bt444 => ((trustquorumref06_Declared.f k bt439.1).bind fun t446 => (trustquorumlaw09_ClosureOrders.l0 k bt444.1 (Go.bits .and .i64 bt444.1 t446) ([] : List Int) bt436.1 bt444.2 bt439.1))))
def trustquorumlaw09_ClosureOrders.T18 : Bool × List (List Nat × List Nat) := (true, [([], []), ([], []), ([], []), ([], []), ([2, 3], [2, 3]), ([0, 1, 4, 4], [0, 1, 4]), ([5], [5]), ([6], [6]), ([6], [6]), ([7, 5, 0, 1, 2, 3, 4, 5, 6, 7], [7]), ([8, 9, 0, 1, 2, 3, 4, 5, 6, 7, 8, 9], [8])])
def trustquorumlaw09_ClosureOrders.B18 : List Nat := [0, 0, 0, 0, 12, 31, 63, 127, 127, 255, 1023]
theorem trustquorumlaw09_ClosureOrders.tab18 : rtab .any (opsOf Try.f6 18) = trustquorumlaw09_ClosureOrders.T18 := by kernel_rfl
theorem trustquorumlaw09_ClosureOrders.bits18 : waitsOk trustquorumlaw09_ClosureOrders.T18.2 trustquorumlaw09_ClosureOrders.B18 = true := by kernel_rfl
def trustquorumlaw09_ClosureOrders.T22 : Bool × List (List Nat × List Nat) := (true, [([], []), ([], []), ([], []), ([], []), ([3], [3]), ([4], [4]), ([2, 5], [2, 5]), ([0, 1, 6], [0, 1, 6]), ([7], [7]), ([8], [8]), ([8], [8]), ([9, 7, 0, 1, 2, 3, 4, 5, 6, 7, 8, 9], [9]), ([10, 11, 0, 1, 2, 3, 4, 5, 6, 7, 8, 9, 10, 11], [10])])
def trustquorumlaw09_ClosureOrders.B22 : List Nat := [0, 0, 0, 0, 8, 24, 60, 127, 255, 511, 511, 1023, 4095]
theorem trustquorumlaw09_ClosureOrders.tab22 : rtab .any (opsOf Try.f6 22) = trustquorumlaw09_ClosureOrders.T22 := by kernel_rfl
theorem trustquorumlaw09_ClosureOrders.bits22 : waitsOk trustquorumlaw09_ClosureOrders.T22.2 trustquorumlaw09_ClosureOrders.B22 = true := by kernel_rfl
set_option maxHeartbeats 8000000 in
set_option maxRecDepth 100000 in
theorem trustquorumlaw09_ClosureOrders.calls (k : Nat) (A0 : Option Addr) (c0 : Nat) (l0 : List Int) (r : Bool) (w : World) (hr0 : Kd.C (Kd.int .i64) w A0 l0.length l0) (hc0 : l0.length ≤ c0) (h : trustquorumlaw09_ClosureOrders.f k l0 = some r) :
    Calls Try.prog 6 #[.slice A0 l0.length c0] w fun e w' => e = .returned (.bool r) ∧ Below w.heap.size w w' := by
  have hu25 := Try.underlying25
  have hu49 := Try.underlying49
  have HR0 := Aside0.mk hr0
  have HC0 := Aside0.mk hc0
  clear hr0 hc0
  have HB := Aside0.mk (Below.refl w.heap.size w)
  have H : ((trustquorummake_New.f l0).bind fun bt436 => ((trustquorummake_Config.f k bt436.1 bt436.2 10).bind fun bt439 => ((trustquorummake_Tape_N.f bt436.1 bt439.2 1024).bind fun bt444 => ((trustquorumref06_Declared.f k bt439.1).bind fun t446 => (trustquorumlaw09_ClosureOrders.l0 k bt444.1 (Go.bits .and .i64 bt444.1 t446) ([] : List Int) bt436.1 bt444.2 bt439.1))))) = some r := h
  clear h
  replace H := Option.bind_eq_some_iff.mp H
  obtain ⟨⟨t436, t437⟩, A20, H⟩ := H
  replace H : ((trustquorummake_Config.f k t436 t437 10).bind fun bt439 => ((trustquorummake_Tape_N.f t436 bt439.2 1024).bind fun bt444 => ((trustquorumref06_Declared.f k bt439.1).bind fun t446 => (trustquorumlaw09_ClosureOrders.l0 k bt444.1 (Go.bits .and .i64 bt444.1 t446) ([] : List Int) t436 bt444.2 bt439.1)))) = some r := H
  have A2 := Aside0.mk A20
  clear A20
  replace H := Option.bind_eq_some_iff.mp H
  obtain ⟨⟨t439, t442⟩, A30, H⟩ := H
  replace H : ((trustquorummake_Tape_N.f t436 t442 1024).bind fun bt444 => ((trustquorumref06_Declared.f k t439).bind fun t446 => (trustquorumlaw09_ClosureOrders.l0 k bt444.1 (Go.bits .and .i64 bt444.1 t446) ([] : List Int) t436 bt444.2 t439))) = some r := H
  have A3 := Aside0.mk A30
  clear A30
  replace H := Option.bind_eq_some_iff.mp H
  obtain ⟨⟨t444, t445⟩, A40, H⟩ := H
  replace H : ((trustquorumref06_Declared.f k t439).bind fun t446 => (trustquorumlaw09_ClosureOrders.l0 k t444 (Go.bits .and .i64 t444 t446) ([] : List Int) t436 t445 t439)) = some r := H
  have A4 := Aside0.mk A40
  clear A40
  replace H := Option.bind_eq_some_iff.mp H
  obtain ⟨t446, A50, H⟩ := H
  replace H : (trustquorumlaw09_ClosureOrders.l0 k t444 (Go.bits .and .i64 t444 t446) ([] : List Int) t436 t445 t439) = some r := H
  have A5 := Aside0.mk A50
  clear A50
  have H' := Aside0.mk H
  clear H
  go_enter Try.func6, Try.ntmps6
  go_wp2_with (first | ((with_reducible refine gate_callee (f := 10) rfl ?_); refine goesL_ (some 19) rfl rfl Try.func10 (by kernel_rfl) rfl #[.slice A0 l0.length c0] rfl (by (try simp only [List.map_toArray, List.map_cons, List.map_nil]); first | done | rfl | (simp only [List.length_drop, List.length_take]; rfl) | (simp only [List.length_nil, Int.natCast_zero, Int.zero_add, Int.ofNat_zero]; rfl)) ?_; (with_reducible refine (trustquorummake_New.calls _ _ l0 t436 t437 w _ ?side1 ?side2 ?side3 A2.out).mono ?_); (case side1 => repeat (first | (with_reducible first | exact HB.out | apply below_alloc | apply pw_below_drewN | apply below_drew1) | exact HB.out)); (case side2 => exact HR0.out); (case side3 => exact HC0.out); rintro e w6 ⟨g438, rfl, hi, hb, hb2⟩; refine ⟨_, rfl, ?_⟩; have n0_ := Aside0.mk (hb); have n1_ := Aside0.mk (hi); clear HB; have HB := n0_; have HI438 := n1_; clear n0_ n1_; (try clear hb); (try clear hb2); (try clear hk); (try clear hi)) | ((with_reducible refine gate_callee (f := 11) rfl ?_); refine goesL_ (some 21) rfl rfl Try.func11 (by kernel_rfl) rfl #[.pointer (some ⟨g438, 0, none⟩), .int .i64 10] rfl (by (try simp only [List.map_toArray, List.map_cons, List.map_nil]); first | done | rfl | (simp only [List.length_drop, List.length_take]; rfl) | (simp only [List.length_nil, Int.natCast_zero, Int.zero_add, Int.ofNat_zero]; rfl)) ?_; (with_reducible refine (trustquorummake_Config.calls k g438 t436 t437 10 t439 t442 w _ ?side1 ?side2 A3.out).mono ?_); (case side1 => repeat (first | (with_reducible first | exact HI438.out | apply IsS56.alloc | apply IsS56.drewN | apply IsS56.drew | apply IsS56.set_1) | exact HI438.out)); (case side2 => repeat (first | (with_reducible first | exact HB.out | apply below_alloc | apply pw_below_drewN | apply below_drew1 | refine below_set ?_ (IsS56.ge HI438.out)) | exact HB.out)); rintro e w7 ⟨v440, rfl, ho0, hi, hb, hk⟩; refine ⟨_, rfl, ?_⟩; have n0_ := Aside0.mk (Kd.R_lower ho0 (below_size (by repeat (first | (with_reducible first | exact HB.out | apply below_alloc | apply pw_below_drewN | apply below_drew1 | refine below_set ?_ (IsS56.ge HI438.out)) | exact HB.out)))); have n1_ := Aside0.mk (hb); have n2_ := Aside0.mk (hi); clear HB; clear HI438; have HO441 := n0_; have HB := n1_; have HI438 := n2_; clear n0_ n1_ n2_; (try clear hb); (try clear hb2); (try clear hk); (try clear hi); (try clear ho0)) | ((with_reducible refine gate_dst (N := 4) rfl ?_); refine box_event ?hg (N := 4) ?hd (cs := #[.slice none 0 0]) (t := 25) ?hr ?_; (case hd => rfl); (case hg => rfl); (case hr => first | (go_simp; done) | (go_simp; rfl)); intro gb443 hg w8 hbox hb; have n0_ := Aside0.mk (Kd.R_below (by (with_reducible repeat (first | apply Kd.R_alloc | apply Kd.R_drewN | apply Kd.R_drew)); exact HO441.out) hb); have n1_ := Aside0.mk (IsS56.below (by repeat (first | (with_reducible first | exact HI438.out | apply IsS56.alloc | apply IsS56.drewN | apply IsS56.drew | apply IsS56.set_1) | exact HI438.out)) hb); have n2_ := Aside0.mk (below_step (by repeat (first | (with_reducible first | exact HB.out | apply below_alloc | apply pw_below_drewN | apply below_drew1 | refine below_set ?_ (IsS56.ge HI438.out)) | exact HB.out)) hb); have n3_ := Aside0.mk (hbox); have n4_ := Aside0.mk ((by rw [hg]; exact (below_size (by repeat (first | (with_reducible first | exact HB.out | apply below_alloc | apply pw_below_drewN | apply below_drew1 | refine below_set ?_ (IsS56.ge HI438.out)) | exact HB.out))) : w.heap.size ≤ gb443)); have n5_ := Aside0.mk ((by rw [hg]; exact (below_size (by repeat (first | (with_reducible first | exact HB.out | apply below_alloc | apply pw_below_drewN | apply below_drew1 | refine below_set ?_ (IsS56.ge HI438.out)) | exact HB.out))) : w.heap.size ≤ gb443)); have n6_ := Aside0.mk ((by rw [hg]; exact Nat.ne_of_lt (IsS56.lt (show IsS56 w _ g438 t436 t442 from by repeat (first | (with_reducible first | exact HI438.out | apply IsS56.alloc | apply IsS56.drewN | apply IsS56.drew | apply IsS56.set_1) | exact HI438.out))) : g438 ≠ gb443)); have n7_ := Aside0.mk ((by rw [hg]; exact Nat.ne_of_gt (IsS56.lt (show IsS56 w _ g438 t436 t442 from by repeat (first | (with_reducible first | exact HI438.out | apply IsS56.alloc | apply IsS56.drewN | apply IsS56.drew | apply IsS56.set_1) | exact HI438.out))) : gb443 ≠ g438)); clear HO441; clear HI438; clear HB; have HO441 := n0_; have HI438 := n1_; have HB := n2_; have BK443 := n3_; have GW443 := n4_; have GE443 := n5_; have NB438_443 := n6_; have NB443_438 := n7_; clear n0_ n1_ n2_ n3_ n4_ n5_ n6_ n7_; clear hb hbox hg; obtain ⟨Ao9, co9, eo9⟩ := Kd.R_slice HO441.out; subst eo9; have hnb10 := NB443_438.out; have hnc10 := NB438_443.out; have hcz11_0 : w8.cell? ⟨gb443, 0, none⟩ = some (.slice none 0 0) := (blk_cell BK443.out 0).trans rfl; have hfz11_0 := blk_frozen BK443.out 0) | ((with_reducible refine gate_callee (f := 13) rfl ?_); refine goesL_ (some 23) rfl rfl Try.func13 (by kernel_rfl) rfl #[.pointer (some ⟨g438, 0, none⟩), .int .i64 1024] rfl (by (try simp only [List.map_toArray, List.map_cons, List.map_nil]); first | done | rfl | (simp only [List.length_drop, List.length_take]; rfl) | (simp only [List.length_nil, Int.natCast_zero, Int.zero_add, Int.ofNat_zero]; rfl)) ?_; (with_reducible refine (trustquorummake_Tape_N.calls g438 t436 t442 1024 t444 t445 w _ ?side1 ?side2 A4.out).mono ?_); (case side1 => repeat (first | (with_reducible first | exact HI438.out | apply IsS56.alloc | apply IsS56.drewN | apply IsS56.drew | apply IsS56.set_1 | refine IsS56.far ?_ NB438_443.out _) | exact HI438.out)); (case side2 => repeat (first | (with_reducible first | exact HB.out | apply below_alloc | apply pw_below_drewN | apply below_drew1 | refine below_set ?_ (IsS56.ge HI438.out) | refine below_set ?_ GE443.out) | exact HB.out)); rintro e w12 ⟨rfl, hi, hb, hk⟩; refine ⟨_, rfl, ?_⟩; have n0_ := Aside0.mk (Kd.R_mono (Kd.R_keep (IsS56.apart (show IsS56 w _ g438 t436 t442 from by repeat (first | (with_reducible first | exact HI438.out | apply IsS56.alloc | apply IsS56.drewN | apply IsS56.drew | apply IsS56.set_1 | refine IsS56.far ?_ NB438_443.out _) | exact HI438.out)) (by (with_reducible repeat (first | apply Kd.R_alloc | apply Kd.R_drewN | apply Kd.R_drew)); exact (Kd.R_mono (Kd.R_far (p := ⟨gb443, 0, none⟩) (Kd.R_types HO441.out BK443.out (by decide)) (fun _ hk => hk.2) (.slice Ao9 t439.length co9)) (fun _ h_ => h_.1))) (by decide)) hk (fun _ h => h.2)) (fun _ h => h.1)); have n1_ := Aside0.mk (KeepBut.blk hk (g' := gb443) (o := .cells #[.slice Ao9 t439.length co9] 25 (0, 0)) (by (with_reducible repeat (first | refine blk_drewN ?_ _ | refine blk_drew ?_ | refine blk_alloc ?_ _)); refine blk_put (cs := #[.slice none 0 0]) ?_ 0 _ rfl; (with_reducible repeat (first | refine blk_drewN ?_ _ | refine blk_drew ?_ | refine blk_alloc ?_ _)); exact BK443.out) NB443_438.out (by simp)); have n2_ := Aside0.mk (hb); have n3_ := Aside0.mk (hi); clear HO441; clear BK443; clear HB; clear HI438; have HO441 := n0_; have BK443 := n1_; have HB := n2_; have HI438 := n3_; clear n0_ n1_ n2_ n3_; (try clear hb); (try clear hb2); (try clear hk); (try clear hi); have hcz13_0 : w12.cell? ⟨gb443, 0, none⟩ = some (.slice Ao9 t439.length co9) := (blk_cell BK443.out 0).trans rfl; have hfz13_0 := blk_frozen BK443.out 0) | ((with_reducible refine gate_callee (f := 24) rfl ?_); refine goesL_ (some 26) rfl rfl Try.func24 (by kernel_rfl) rfl #[.agg #[.slice Ao9 t439.length co9]] rfl (by (try simp only [List.map_toArray, List.map_cons, List.map_nil]); first | done | rfl | (simp only [List.length_drop, List.length_take]; rfl) | (simp only [List.length_nil, Int.natCast_zero, Int.zero_add, Int.ofNat_zero]; rfl)) ?_; (with_reducible refine (trustquorumref06_Declared.calls k _ _ t439 t446 _ ?side1 ?side2 A5.out).mono ?_); (case side1 => repeat (first | exact (Kd.R_reads' HO441.out).2.2 | (with_reducible refine Kd.C_alloc ?_ _) | (with_reducible refine Kd.C_drewN ?_ _) | (with_reducible refine Kd.C_drew ?_))); (case side2 => exact (Kd.R_reads' HO441.out).2.1); rintro e w14 ⟨rfl, hb⟩; refine ⟨_, rfl, ?_⟩; have n0_ := Aside0.mk (Kd.R_below (by (with_reducible repeat (first | apply Kd.R_alloc | apply Kd.R_drewN | apply Kd.R_drew)); exact HO441.out) hb); have n1_ := Aside0.mk (IsS56.below (by repeat (first | (with_reducible first | exact HI438.out | apply IsS56.alloc | apply IsS56.drewN | apply IsS56.drew | apply IsS56.set_1 | refine IsS56.far ?_ NB438_443.out _) | exact HI438.out)) hb); have n2_ := Aside0.mk (blk_below (g := gb443) (o := .cells #[.slice Ao9 t439.length co9] 25 (0, 0)) (by (with_reducible repeat (first | refine blk_drewN ?_ _ | refine blk_drew ?_ | refine blk_alloc ?_ _)); exact BK443.out) hb); have n3_ := Aside0.mk (below_step (by repeat (first | (with_reducible first | exact HB.out | apply below_alloc | apply pw_below_drewN | apply below_drew1 | refine below_set ?_ (IsS56.ge HI438.out) | refine below_set ?_ GE443.out) | exact HB.out)) hb); clear HO441; clear HI438; clear BK443; clear HB; have HO441 := n0_; have HI438 := n1_; have BK443 := n2_; have HB := n3_; clear n0_ n1_ n2_ n3_; (try clear hb); (try clear hb2); (try clear hk); (try clear hi)))
  go_loopg [6, 7] k (fun kq v6 v7 w' => ∃ (x6_1 : Int) (x7_1 : List Int) (x439001_1 : Int), v6 = .int .i64 x6_1 ∧ Aside0 (trustquorumlaw09_ClosureOrders.l0 kq t444 x6_1 x7_1 t436 x439001_1 t439 = some r) ∧ Aside0 (kq ≤ k) ∧ Aside0 (Kd.R (Kd.int .i64) 3 w' w.heap.size (fun _ => True) v7 x7_1) ∧ Aside0 (Kd.R k51 51 w' w.heap.size (fun k_ => some k_ ≠ (v7 : Value).ownBlock) (.slice Ao9 t439.length co9) t439) ∧ Aside0 (w'.heap[gb443]? = some (.cells #[(.slice Ao9 t439.length co9)] 25 (0, 0))) ∧ Aside0 (IsS56 w w' g438 t436 x439001_1) ∧ Aside0 (Below w.heap.size w w'))
  case atStart => exact ⟨(Go.bits .and .i64 t444 t446), (([] : List Int)), (t445), (by first | rfl | (simp; done) | (simp [*]; done)), H', ⟨Nat.le_refl _⟩, ⟨by first | exact Kd.R_nil _ _ _ _ _ | exact Kd.N_nil _ _ _ _ _ | exact Kd.V_nil _ _ _ _ _ | exact Kd.Q_nil _ _ _ _ _ | exact Kd.S_nil _ _ _ _ _⟩, ⟨by (with_reducible repeat (first | apply Kd.R_alloc | apply Kd.R_drewN | apply Kd.R_drew)); exact Kd.R_mono HO441.out (fun _ hk => (by simp [Value.ownBlock]))⟩, ⟨by (with_reducible repeat (first | refine blk_drewN ?_ _ | refine blk_drew ?_ | refine blk_alloc ?_ _)); exact BK443.out⟩, ⟨by repeat (first | (with_reducible first | exact HI438.out | apply IsS56.alloc | apply IsS56.drewN | apply IsS56.drew | apply IsS56.set_1 | refine IsS56.far ?_ NB438_443.out _) | exact HI438.out)⟩, ⟨by repeat (first | (with_reducible first | exact HB.out | apply below_alloc | apply pw_below_drewN | apply below_drew1 | refine below_set ?_ (IsS56.ge HI438.out) | refine below_set ?_ GE443.out) | exact HB.out)⟩⟩
  case round =>
    clear H'
    try clear c1
    try clear c2
    try clear p2
    try clear c6
    try clear c10
    try clear c11
    try clear c13
    try clear hcz11_0
    try clear hcz13_0
    try clear hfz11_0
    try clear hfz13_0
    obtain ⟨x6_1, x7_1, x439001_1, rfl, HA, HK1, HO_7, HO_444000, BK443, HI438, HB⟩ := hrel
    cases gk with
    | zero => exact absurd HA.out (by simp [trustquorumlaw09_ClosureOrders.l0])
    | succ k1 =>
      have H := HA.out
      clear HA
      simp only [trustquorumlaw09_ClosureOrders.l0] at H
      replace H := Option.bind_eq_some_iff.mp H
      obtain ⟨t447, A150, H⟩ := H
      replace H : (trustquorumlaw09_ClosureOrders.l1 k1 t444 x6_1 x7_1 ([] : List Int) t447 (t447.length : Int) 0 t436 x439001_1 t439) = some r := H
      have A15 := Aside0.mk A150
      clear A150
      have H' := Aside0.mk H
      clear H
      go_wp2_with (first | ((with_reducible refine gate_callee (f := 25) rfl ?_); refine goesL_ (some 29) rfl rfl Try.func25 (by kernel_rfl) rfl #[.int .i64 x6_1] rfl (by (try simp only [List.map_toArray, List.map_cons, List.map_nil]); first | done | rfl | (simp only [List.length_drop, List.length_take]; rfl) | (simp only [List.length_nil, Int.natCast_zero, Int.zero_add, Int.ofNat_zero]; rfl)) ?_; (with_reducible refine (trustquorumref01_Nodes.calls k1 x6_1 t447 _ A15.out).mono ?_); rintro e w16 ⟨v448, rfl, ho0, hb⟩; refine ⟨_, rfl, ?_⟩; have n0_ := Aside0.mk (Kd.R_elder' (by (with_reducible repeat (first | apply Kd.R_alloc | apply Kd.R_drewN | apply Kd.R_drew)); exact HO_7.out) (Kd.R_base ho0) hb); have n1_ := Aside0.mk (Kd.R_elder' (by (with_reducible repeat (first | apply Kd.R_alloc | apply Kd.R_drewN | apply Kd.R_drew)); exact HO_444000.out) (Kd.R_base ho0) hb); have n2_ := Aside0.mk (Kd.R_lower (Kd.R_new' ho0 (Kd.R_lt (by (with_reducible repeat (first | apply Kd.R_alloc | apply Kd.R_drewN | apply Kd.R_drew)); exact HO_7.out))) (below_size (by repeat (first | (with_reducible first | exact HB.out | apply below_alloc | apply pw_below_drewN | apply below_drew1 | refine below_set ?_ (IsS56.ge HI438.out) | refine below_set ?_ GE443.out) | exact HB.out)))); have n3_ := Aside0.mk (blk_below (g := gb443) (o := .cells #[.slice Ao9 t439.length co9] 25 (0, 0)) (by (with_reducible repeat (first | refine blk_drewN ?_ _ | refine blk_drew ?_ | refine blk_alloc ?_ _)); exact BK443.out) hb); have n4_ := Aside0.mk (IsS56.below (by repeat (first | (with_reducible first | exact HI438.out | apply IsS56.alloc | apply IsS56.drewN | apply IsS56.drew | apply IsS56.set_1 | refine IsS56.far ?_ NB438_443.out _) | exact HI438.out)) hb); have n5_ := Aside0.mk (below_step (by repeat (first | (with_reducible first | exact HB.out | apply below_alloc | apply pw_below_drewN | apply below_drew1 | refine below_set ?_ (IsS56.ge HI438.out) | refine below_set ?_ GE443.out) | exact HB.out)) hb); clear HO_7; clear HO_444000; clear BK443; clear HI438; clear HB; have HO_7 := n0_; have HO_444000 := n1_; have HO449 := n2_; have BK443 := n3_; have HI438 := n4_; have HB := n5_; clear n0_ n1_ n2_ n3_ n4_ n5_; (try clear hb); (try clear hb2); (try clear hk); (try clear hi); (try clear ho0); obtain ⟨Ao17, co17, eo17⟩ := Kd.R_slice HO449.out; subst eo17))
      go_loopg [8, 31] k1 (fun kq v8 v31 w' => ∃ (x8_2 : List Int) (x31_2 : Int), v31 = .int .i64 x31_2 ∧ Aside0 (trustquorumlaw09_ClosureOrders.l1 kq t444 x6_1 x7_1 x8_2 t447 (t447.length : Int) x31_2 t436 x439001_1 t439 = some r) ∧ Aside0 (kq ≤ k1) ∧ Aside0 (Kd.R (Kd.int .i64) 3 w' w.heap.size (fun k_ => some k_ ≠ (v8 : Value).ownBlock ∧ some k_ ≠ ((.slice Ao17 t447.length co17) : Value).ownBlock) u7 x7_1) ∧ Aside0 (Kd.R (Kd.int .i64) 3 w' w.heap.size (fun k_ => some k_ ≠ (u7 : Value).ownBlock ∧ some k_ ≠ ((.slice Ao17 t447.length co17) : Value).ownBlock) v8 x8_2) ∧ Aside0 (Kd.R (Kd.int .i64) 3 w' w.heap.size (fun k_ => some k_ ≠ (u7 : Value).ownBlock ∧ some k_ ≠ (v8 : Value).ownBlock) (.slice Ao17 t447.length co17) t447) ∧ Aside0 (Kd.R k51 51 w' w.heap.size (fun k_ => some k_ ≠ (u7 : Value).ownBlock ∧ some k_ ≠ (v8 : Value).ownBlock ∧ some k_ ≠ ((.slice Ao17 t447.length co17) : Value).ownBlock) (.slice Ao9 t439.length co9) t439) ∧ Aside0 (w'.heap[gb443]? = some (.cells #[(.slice Ao9 t439.length co9)] 25 (0, 0))) ∧ Aside0 (IsS56 w w' g438 t436 x439001_1) ∧ Aside0 (Below w.heap.size w w'))
      case atStart => exact ⟨(([] : List Int)), (0), (by first | rfl | (simp; done) | (simp [*]; done)), H', ⟨Nat.le_refl _⟩, ⟨by (with_reducible repeat (first | apply Kd.R_alloc | apply Kd.R_drewN | apply Kd.R_drew)); exact Kd.R_mono HO_7.out (fun _ hk => ⟨(by simp [Value.ownBlock]), hk.2⟩)⟩, ⟨by first | exact Kd.R_nil _ _ _ _ _ | exact Kd.N_nil _ _ _ _ _ | exact Kd.V_nil _ _ _ _ _ | exact Kd.Q_nil _ _ _ _ _ | exact Kd.S_nil _ _ _ _ _⟩, ⟨by (with_reducible repeat (first | apply Kd.R_alloc | apply Kd.R_drewN | apply Kd.R_drew)); exact Kd.R_mono HO449.out (fun _ hk => ⟨hk.2, (by simp [Value.ownBlock])⟩)⟩, ⟨by (with_reducible repeat (first | apply Kd.R_alloc | apply Kd.R_drewN | apply Kd.R_drew)); exact Kd.R_mono HO_444000.out (fun _ hk => ⟨hk.1, ⟨(by simp [Value.ownBlock]), hk.2⟩⟩)⟩, ⟨by (with_reducible repeat (first | refine blk_drewN ?_ _ | refine blk_drew ?_ | refine blk_alloc ?_ _)); exact BK443.out⟩, ⟨by repeat (first | (with_reducible first | exact HI438.out | apply IsS56.alloc | apply IsS56.drewN | apply IsS56.drew | apply IsS56.set_1 | refine IsS56.far ?_ NB438_443.out _) | exact HI438.out)⟩, ⟨by repeat (first | (with_reducible first | exact HB.out | apply below_alloc | apply pw_below_drewN | apply below_drew1 | refine below_set ?_ (IsS56.ge HI438.out) | refine below_set ?_ GE443.out) | exact HB.out)⟩⟩
      case round =>
        clear H'
        try clear c1
        try clear c2
        try clear p2
        try clear c6
        try clear c10
        try clear c11
        try clear c13
        try clear hcz11_0
        try clear hcz13_0
        try clear hfz11_0
        try clear hfz13_0
        try clear p2
        obtain ⟨x8_2, x31_2, rfl, HA, HK2, HO_7, HO_8, HO_29, HO_444000, BK443, HI438, HB⟩ := hrel
        cases gk with
        | zero => exact absurd HA.out (by simp [trustquorumlaw09_ClosureOrders.l1])
        | succ k2 =>
          have H := HA.out
          clear HA
          simp only [trustquorumlaw09_ClosureOrders.l1] at H
          by_cases c18 : x31_2 < (t447.length : Int)
          · rw [if_pos c18] at H
            have c18b0 : decide (x31_2 < (t447.length : Int)) = true := decide_eq_true c18
            clear c18
            by_cases c19 : 0 ≤ x31_2
            · rw [if_pos c19] at H
              have c19b0 : decide (0 ≤ x31_2) = true := decide_eq_true c19
              clear c19
              by_cases c20 : x31_2 < (t447.length : Int)
              · rw [if_pos c20] at H
                have c20b0 : decide (x31_2 < (t447.length : Int)) = true := decide_eq_true c20
                clear c20
                by_cases c21 : 0 ≤ (rd t447 x31_2)
                · rw [if_pos c21] at H
                  have c21b0 : decide (0 ≤ (rd t447 x31_2)) = true := decide_eq_true c21
                  clear c21
                  by_cases c22 : (rd t447 x31_2) < (t439.length : Int)
                  · rw [if_pos c22] at H
                    have c22b0 : decide ((rd t447 x31_2) < (t439.length : Int)) = true := decide_eq_true c22
                    clear c22
                    replace H := Option.bind_eq_some_iff.mp H
                    obtain ⟨t452, A230, H⟩ := H
                    replace H : (if t452 = true then (trustquorumlaw09_ClosureOrders.l1 k2 t444 x6_1 x7_1 x8_2 t447 (t447.length : Int) (wrap64 (x31_2 + 1)) t436 x439001_1 t439) else (if x8_2.length < 17592186044416 then (trustquorumlaw09_ClosureOrders.l1 k2 t444 x6_1 x7_1 (x8_2 ++ [rd t447 x31_2]) t447 (t447.length : Int) (wrap64 (x31_2 + 1)) t436 x439001_1 t439) else (none))) = some r := H
                    have A23 := Aside0.mk A230
                    clear A230
                    by_cases c24 : t452 = true
                    · subst c24
                      have H1 : (trustquorumlaw09_ClosureOrders.l1 k2 t444 x6_1 x7_1 x8_2 t447 (t447.length : Int) (wrap64 (x31_2 + 1)) t436 x439001_1 t439) = some r := by rw [if_pos rfl] at H; exact H
                      clear H
                      have H := H1
                      clear H1
                      have H' := Aside0.mk H
                      clear H
                      have p450 : 0 ≤ (x31_2 : Int) := of_decide_eq_true (by first | (with_reducible assumption) | assumption)
                      have q450 : x31_2 < (t447.length : Int) := of_decide_eq_true (by first | (with_reducible assumption) | assumption)
                      obtain ⟨ad450, e450, hx450_0⟩ := Kd.at_int (Kd.R_reads' HO_29.out).2.2 x31_2 p450 q450
                      cases e450
                      replace p450 := eq_true p450
                      replace q450 := eq_true q450
                      have hnb25 := NB443_438.out
                      have hnc25 := NB438_443.out
                      have hcz26_0 : wr.cell? ⟨gb443, 0, none⟩ = some (.slice Ao9 t439.length co9) := (blk_cell BK443.out 0).trans rfl
                      have hfz26_0 := blk_frozen BK443.out 0
                      have p451 : 0 ≤ ((rd t447 x31_2) : Int) := of_decide_eq_true (by first | (with_reducible assumption) | assumption)
                      have q451 : (rd t447 x31_2) < (t439.length : Int) := of_decide_eq_true (by first | (with_reducible assumption) | assumption)
                      obtain ⟨ad451, A451_2, c451_2, A451_3, c451_3, e451, hx451_0, hx451_1, hx451_2, hx451_3, hl451_2, hi451_2, hl451_3, hi451_3⟩ := at_T51 (Kd.R_reads' HO_444000.out).2.2 (rd t447 x31_2) p451 q451
                      cases e451
                      obtain ⟨ce451, hce451, hMe451, hcc451⟩ := Kd.R_get HO_444000.out z51 (rd t447 x31_2) p451 (by first | exact q451 | exact of_decide_eq_true (by first | (with_reducible assumption) | assumption) | (have e_ := (Kd.R_reads' HO_444000.out).1; omega))
                      obtain ⟨ve451_2, ve451_3, rfl, ge451_2, ge451_3⟩ := k51_openM hMe451
                      have hv451_2 := hcc451 2 _ rfl
                      rw [add_field _ _ 2 (by omega)] at hv451_2
                      replace hv451_2 := Option.some.inj (hv451_2.symm.trans hx451_2)
                      rw [hv451_2] at ge451_2
                      have HL451_2 := Aside0.mk (show Kd.R (Kd.int .i64) 3 _ _ _ _ ((rd_T51 t439 (rd t447 x31_2)).f1.f1) from ge451_2)
                      clear hv451_2 ge451_2
                      have hv451_3 := hcc451 3 _ rfl
                      rw [add_field _ _ 3 (by omega)] at hv451_3
                      replace hv451_3 := Option.some.inj (hv451_3.symm.trans hx451_3)
                      rw [hv451_3] at ge451_3
                      have HL451_3 := Aside0.mk (show Kd.R k49 49 _ _ _ _ ((rd_T51 t439 (rd t447 x31_2)).f1.f2) from ge451_3)
                      clear hv451_3 ge451_3
                      clear hcc451 hce451
                      have HR451_2 := Aside0.mk hi451_2
                      have HC451_2 := Aside0.mk hl451_2
                      clear hi451_2 hl451_2
                      have HR451_3 := Aside0.mk hi451_3
                      have HC451_3 := Aside0.mk hl451_3
                      clear hi451_3 hl451_3
                      replace p451 := eq_true p451
                      replace q451 := eq_true q451
                      go_wp2_with (first | ((with_reducible refine gate_callee (f := 26) rfl ?_); refine goesL_ (some 42) rfl rfl Try.func26 (by kernel_rfl) rfl #[.agg #[.int .i64 ((rd_T51 t439 (rd t447 x31_2)).f1.f0), .slice A451_2 ((rd_T51 t439 (rd t447 x31_2)).f1.f1).length c451_2, .slice A451_3 ((rd_T51 t439 (rd t447 x31_2)).f1.f2).length c451_3], .int .i64 x6_1] rfl (by (try simp only [List.map_toArray, List.map_cons, List.map_nil]); first | done | rfl | (simp only [List.length_drop, List.length_take]; rfl) | (simp only [List.length_nil, Int.natCast_zero, Int.zero_add, Int.ofNat_zero]; rfl)) ?_; (with_reducible refine (trustquorumref02_Satisfied.calls k2 ((rd_T51 t439 (rd t447 x31_2)).f1.f0) _ _ ((rd_T51 t439 (rd t447 x31_2)).f1.f1) _ _ ((rd_T51 t439 (rd t447 x31_2)).f1.f2) x6_1 true _ ?side1 ?side2 ?side3 ?side4 A23.out).mono ?_); (case side1 => repeat (first | exact (by repeat (first | (with_reducible exact HR451_2.out) | (with_reducible refine Kd.C_alloc ?_ _) | (with_reducible refine Kd.C_drewN ?_ _) | (with_reducible refine Kd.C_drew ?_) | exact HR451_2.out)) | (with_reducible refine Kd.C_alloc ?_ _) | (with_reducible refine Kd.C_drewN ?_ _) | (with_reducible refine Kd.C_drew ?_))); (case side2 => exact HC451_2.out); (case side3 => repeat (first | exact (by repeat (first | (with_reducible exact HR451_3.out) | (with_reducible refine Kd.C_alloc ?_ _) | (with_reducible refine Kd.C_drewN ?_ _) | (with_reducible refine Kd.C_drew ?_) | exact HR451_3.out)) | (with_reducible refine Kd.C_alloc ?_ _) | (with_reducible refine Kd.C_drewN ?_ _) | (with_reducible refine Kd.C_drew ?_))); (case side4 => exact HC451_3.out); rintro e w27 ⟨rfl, hb⟩; refine ⟨_, rfl, ?_⟩; have n0_ := Aside0.mk (Kd.R_below (by (with_reducible repeat (first | apply Kd.R_alloc | apply Kd.R_drewN | apply Kd.R_drew)); exact HO_7.out) hb); have n1_ := Aside0.mk (Kd.R_below (by (with_reducible repeat (first | apply Kd.R_alloc | apply Kd.R_drewN | apply Kd.R_drew)); exact HO_8.out) hb); have n2_ := Aside0.mk (Kd.R_below (by (with_reducible repeat (first | apply Kd.R_alloc | apply Kd.R_drewN | apply Kd.R_drew)); exact HO_29.out) hb); have n3_ := Aside0.mk (Kd.R_below (by (with_reducible repeat (first | apply Kd.R_alloc | apply Kd.R_drewN | apply Kd.R_drew)); exact HO_444000.out) hb); have n4_ := Aside0.mk (Kd.R_below (by (with_reducible repeat (first | apply Kd.R_alloc | apply Kd.R_drewN | apply Kd.R_drew)); exact HL451_2.out) hb); have n5_ := Aside0.mk (Kd.R_below (by (with_reducible repeat (first | apply Kd.R_alloc | apply Kd.R_drewN | apply Kd.R_drew)); exact HL451_3.out) hb); have n6_ := Aside0.mk (blk_below (g := gb443) (o := .cells #[.slice (some ad451) t439.length co9] 25 (0, 0)) (by (with_reducible repeat (first | refine blk_drewN ?_ _ | refine blk_drew ?_ | refine blk_alloc ?_ _)); exact BK443.out) hb); have n7_ := Aside0.mk (IsS56.below (by repeat (first | (with_reducible first | exact HI438.out | apply IsS56.alloc | apply IsS56.drewN | apply IsS56.drew | apply IsS56.set_1 | refine IsS56.far ?_ NB438_443.out _) | exact HI438.out)) hb); have n8_ := Aside0.mk (Kd.C_below (by repeat (first | (with_reducible exact HR451_2.out) | (with_reducible refine Kd.C_alloc ?_ _) | (with_reducible refine Kd.C_drewN ?_ _) | (with_reducible refine Kd.C_drew ?_) | exact HR451_2.out)) hb); have n9_ := Aside0.mk (Kd.C_below (by repeat (first | (with_reducible exact HR451_3.out) | (with_reducible refine Kd.C_alloc ?_ _) | (with_reducible refine Kd.C_drewN ?_ _) | (with_reducible refine Kd.C_drew ?_) | exact HR451_3.out)) hb); have n10_ := Aside0.mk (below_step (by repeat (first | (with_reducible first | exact HB.out | apply below_alloc | apply pw_below_drewN | apply below_drew1 | refine below_set ?_ (IsS56.ge HI438.out) | refine below_set ?_ GE443.out) | exact HB.out)) hb); clear HO_7; clear HO_8; clear HO_29; clear HO_444000; clear HL451_2; clear HL451_3; clear BK443; clear HI438; clear HR451_2; clear HR451_3; clear HB; have HO_7 := n0_; have HO_8 := n1_; have HO_29 := n2_; have HO_444000 := n3_; have HL451_2 := n4_; have HL451_3 := n5_; have BK443 := n6_; have HI438 := n7_; have HR451_2 := n8_; have HR451_3 := n9_; have HB := n10_; clear n0_ n1_ n2_ n3_ n4_ n5_ n6_ n7_ n8_ n9_ n10_; (try clear hb); (try clear hb2); (try clear hk); (try clear hi)))
                      go_roundg k2
                      case measure => have := HK1.out; have := HK2.out; omega
                      case rel => exact ⟨(x8_2), (wrap64 (x31_2 + 1)), (by first | rfl | (simp; done) | (simp [*]; done)), H', ⟨by have := HK1.out; have := HK2.out; omega⟩, ⟨by (with_reducible repeat (first | apply Kd.R_alloc | apply Kd.R_drewN | apply Kd.R_drew)); exact HO_7.out⟩, ⟨by (with_reducible repeat (first | apply Kd.R_alloc | apply Kd.R_drewN | apply Kd.R_drew)); exact HO_8.out⟩, ⟨by (with_reducible repeat (first | apply Kd.R_alloc | apply Kd.R_drewN | apply Kd.R_drew)); exact HO_29.out⟩, ⟨by (with_reducible repeat (first | apply Kd.R_alloc | apply Kd.R_drewN | apply Kd.R_drew)); exact HO_444000.out⟩, ⟨by (with_reducible repeat (first | refine blk_drewN ?_ _ | refine blk_drew ?_ | refine blk_alloc ?_ _)); exact BK443.out⟩, ⟨by repeat (first | (with_reducible first | exact HI438.out | apply IsS56.alloc | apply IsS56.drewN | apply IsS56.drew | apply IsS56.set_1 | refine IsS56.far ?_ NB438_443.out _) | exact HI438.out)⟩, ⟨by repeat (first | (with_reducible first | exact HB.out | apply below_alloc | apply pw_below_drewN | apply below_drew1 | refine below_set ?_ (IsS56.ge HI438.out) | refine below_set ?_ GE443.out) | exact HB.out)⟩⟩
                    · replace c24 := Bool.eq_false_iff.mpr c24
                      subst c24
                      have H1 : (if x8_2.length < 17592186044416 then (trustquorumlaw09_ClosureOrders.l1 k2 t444 x6_1 x7_1 (x8_2 ++ [rd t447 x31_2]) t447 (t447.length : Int) (wrap64 (x31_2 + 1)) t436 x439001_1 t439) else (none)) = some r := by rw [if_neg (show ¬ (false = true) by decide)] at H; exact H
                      clear H
                      have H := H1
                      clear H1
                      by_cases c28 : x8_2.length < 17592186044416
                      · rw [if_pos c28] at H
                        have LMc28 := Aside0.mk c28
                        clear c28
                        obtain ⟨y453, hy453⟩ : ∃ y_ : List Int, y_ = (x8_2 ++ [rd t447 x31_2]) := ⟨_, rfl⟩
                        replace H : (trustquorumlaw09_ClosureOrders.l1 k2 t444 x6_1 x7_1 y453 t447 (t447.length : Int) (wrap64 (x31_2 + 1)) t436 x439001_1 t439) = some r := by first | (rw [hy453]; with_reducible exact H) | (have H2_ := (Option.bind_some _ _).symm.trans H; rw [hy453]; with_reducible exact H2_) | (have H2_ := (Option.bind_some _ _).symm.trans H; with_reducible exact H2_) | with_reducible exact H | (rw [hy453]; exact H) | exact H
                        have Ny453 := Aside0.mk hy453
                        clear hy453
                        have H' := Aside0.mk H
                        clear H
                        have p450 : 0 ≤ (x31_2 : Int) := of_decide_eq_true (by first | (with_reducible assumption) | assumption)
                        have q450 : x31_2 < (t447.length : Int) := of_decide_eq_true (by first | (with_reducible assumption) | assumption)
                        obtain ⟨ad450, e450, hx450_0⟩ := Kd.at_int (Kd.R_reads' HO_29.out).2.2 x31_2 p450 q450
                        cases e450
                        replace p450 := eq_true p450
                        replace q450 := eq_true q450
                        have hnb29 := NB443_438.out
                        have hnc29 := NB438_443.out
                        have hcz30_0 : wr.cell? ⟨gb443, 0, none⟩ = some (.slice Ao9 t439.length co9) := (blk_cell BK443.out 0).trans rfl
                        have hfz30_0 := blk_frozen BK443.out 0
                        have p451 : 0 ≤ ((rd t447 x31_2) : Int) := of_decide_eq_true (by first | (with_reducible assumption) | assumption)
                        have q451 : (rd t447 x31_2) < (t439.length : Int) := of_decide_eq_true (by first | (with_reducible assumption) | assumption)
                        obtain ⟨ad451, A451_2, c451_2, A451_3, c451_3, e451, hx451_0, hx451_1, hx451_2, hx451_3, hl451_2, hi451_2, hl451_3, hi451_3⟩ := at_T51 (Kd.R_reads' HO_444000.out).2.2 (rd t447 x31_2) p451 q451
                        cases e451
                        obtain ⟨ce451, hce451, hMe451, hcc451⟩ := Kd.R_get HO_444000.out z51 (rd t447 x31_2) p451 (by first | exact q451 | exact of_decide_eq_true (by first | (with_reducible assumption) | assumption) | (have e_ := (Kd.R_reads' HO_444000.out).1; omega))
                        obtain ⟨ve451_2, ve451_3, rfl, ge451_2, ge451_3⟩ := k51_openM hMe451
                        have hv451_2 := hcc451 2 _ rfl
                        rw [add_field _ _ 2 (by omega)] at hv451_2
                        replace hv451_2 := Option.some.inj (hv451_2.symm.trans hx451_2)
                        rw [hv451_2] at ge451_2
                        have HL451_2 := Aside0.mk (show Kd.R (Kd.int .i64) 3 _ _ _ _ ((rd_T51 t439 (rd t447 x31_2)).f1.f1) from ge451_2)
                        clear hv451_2 ge451_2
                        have hv451_3 := hcc451 3 _ rfl
                        rw [add_field _ _ 3 (by omega)] at hv451_3
                        replace hv451_3 := Option.some.inj (hv451_3.symm.trans hx451_3)
                        rw [hv451_3] at ge451_3
                        have HL451_3 := Aside0.mk (show Kd.R k49 49 _ _ _ _ ((rd_T51 t439 (rd t447 x31_2)).f1.f2) from ge451_3)
                        clear hv451_3 ge451_3
                        clear hcc451 hce451
                        have HR451_2 := Aside0.mk hi451_2
                        have HC451_2 := Aside0.mk hl451_2
                        clear hi451_2 hl451_2
                        have HR451_3 := Aside0.mk hi451_3
                        have HC451_3 := Aside0.mk hl451_3
                        clear hi451_3 hl451_3
                        replace p451 := eq_true p451
                        replace q451 := eq_true q451
                        go_wp2_with (first | ((with_reducible refine gate_callee (f := 26) rfl ?_); refine goesL_ (some 42) rfl rfl Try.func26 (by kernel_rfl) rfl #[.agg #[.int .i64 ((rd_T51 t439 (rd t447 x31_2)).f1.f0), .slice A451_2 ((rd_T51 t439 (rd t447 x31_2)).f1.f1).length c451_2, .slice A451_3 ((rd_T51 t439 (rd t447 x31_2)).f1.f2).length c451_3], .int .i64 x6_1] rfl (by (try simp only [List.map_toArray, List.map_cons, List.map_nil]); first | done | rfl | (simp only [List.length_drop, List.length_take]; rfl) | (simp only [List.length_nil, Int.natCast_zero, Int.zero_add, Int.ofNat_zero]; rfl)) ?_; (with_reducible refine (trustquorumref02_Satisfied.calls k2 ((rd_T51 t439 (rd t447 x31_2)).f1.f0) _ _ ((rd_T51 t439 (rd t447 x31_2)).f1.f1) _ _ ((rd_T51 t439 (rd t447 x31_2)).f1.f2) x6_1 false _ ?side1 ?side2 ?side3 ?side4 A23.out).mono ?_); (case side1 => repeat (first | exact (by repeat (first | (with_reducible exact HR451_2.out) | (with_reducible refine Kd.C_alloc ?_ _) | (with_reducible refine Kd.C_drewN ?_ _) | (with_reducible refine Kd.C_drew ?_) | exact HR451_2.out)) | (with_reducible refine Kd.C_alloc ?_ _) | (with_reducible refine Kd.C_drewN ?_ _) | (with_reducible refine Kd.C_drew ?_))); (case side2 => exact HC451_2.out); (case side3 => repeat (first | exact (by repeat (first | (with_reducible exact HR451_3.out) | (with_reducible refine Kd.C_alloc ?_ _) | (with_reducible refine Kd.C_drewN ?_ _) | (with_reducible refine Kd.C_drew ?_) | exact HR451_3.out)) | (with_reducible refine Kd.C_alloc ?_ _) | (with_reducible refine Kd.C_drewN ?_ _) | (with_reducible refine Kd.C_drew ?_))); (case side4 => exact HC451_3.out); rintro e w31 ⟨rfl, hb⟩; refine ⟨_, rfl, ?_⟩; have n0_ := Aside0.mk (Kd.R_below (by (with_reducible repeat (first | apply Kd.R_alloc | apply Kd.R_drewN | apply Kd.R_drew)); exact HO_7.out) hb); have n1_ := Aside0.mk (Kd.R_below (by (with_reducible repeat (first | apply Kd.R_alloc | apply Kd.R_drewN | apply Kd.R_drew)); exact HO_8.out) hb); have n2_ := Aside0.mk (Kd.R_below (by (with_reducible repeat (first | apply Kd.R_alloc | apply Kd.R_drewN | apply Kd.R_drew)); exact HO_29.out) hb); have n3_ := Aside0.mk (Kd.R_below (by (with_reducible repeat (first | apply Kd.R_alloc | apply Kd.R_drewN | apply Kd.R_drew)); exact HO_444000.out) hb); have n4_ := Aside0.mk (Kd.R_below (by (with_reducible repeat (first | apply Kd.R_alloc | apply Kd.R_drewN | apply Kd.R_drew)); exact HL451_2.out) hb); have n5_ := Aside0.mk (Kd.R_below (by (with_reducible repeat (first | apply Kd.R_alloc | apply Kd.R_drewN | apply Kd.R_drew)); exact HL451_3.out) hb); have n6_ := Aside0.mk (blk_below (g := gb443) (o := .cells #[.slice (some ad451) t439.length co9] 25 (0, 0)) (by (with_reducible repeat (first | refine blk_drewN ?_ _ | refine blk_drew ?_ | refine blk_alloc ?_ _)); exact BK443.out) hb); have n7_ := Aside0.mk (IsS56.below (by repeat (first | (with_reducible first | exact HI438.out | apply IsS56.alloc | apply IsS56.drewN | apply IsS56.drew | apply IsS56.set_1 | refine IsS56.far ?_ NB438_443.out _) | exact HI438.out)) hb); have n8_ := Aside0.mk (Kd.C_below (by repeat (first | (with_reducible exact HR451_2.out) | (with_reducible refine Kd.C_alloc ?_ _) | (with_reducible refine Kd.C_drewN ?_ _) | (with_reducible refine Kd.C_drew ?_) | exact HR451_2.out)) hb); have n9_ := Aside0.mk (Kd.C_below (by repeat (first | (with_reducible exact HR451_3.out) | (with_reducible refine Kd.C_alloc ?_ _) | (with_reducible refine Kd.C_drewN ?_ _) | (with_reducible refine Kd.C_drew ?_) | exact HR451_3.out)) hb); have n10_ := Aside0.mk (below_step (by repeat (first | (with_reducible first | exact HB.out | apply below_alloc | apply pw_below_drewN | apply below_drew1 | refine below_set ?_ (IsS56.ge HI438.out) | refine below_set ?_ GE443.out) | exact HB.out)) hb); clear HO_7; clear HO_8; clear HO_29; clear HO_444000; clear HL451_2; clear HL451_3; clear BK443; clear HI438; clear HR451_2; clear HR451_3; clear HB; have HO_7 := n0_; have HO_8 := n1_; have HO_29 := n2_; have HO_444000 := n3_; have HL451_2 := n4_; have HL451_3 := n5_; have BK443 := n6_; have HI438 := n7_; have HR451_2 := n8_; have HR451_3 := n9_; have HB := n10_; clear n0_ n1_ n2_ n3_ n4_ n5_ n6_ n7_ n8_ n9_ n10_; (try clear hb); (try clear hb2); (try clear hk); (try clear hi)) | ((with_reducible refine gate_builtin (b := .append) (xs := #[.tmp 44, .tmp 46]) rfl ?_); at_builtin; refine Kd.R_append (Kd.int .i64) (w0 := w) w.heap.size rfl (.tmp 44) (.tmp 46) 22 3 (.int .i64 0) 8 rfl Try.underlying22 info3 rfl (by decide) (by omega) u8 x8_2 (rd t447 x31_2) [.int .i64 (rd t447 x31_2)] (fun k_ => some k_ ≠ (u7 : Value).ownBlock ∧ some k_ ≠ (.slice (some ad450) t447.length co17 : Value).ownBlock) (fun _ => False) rfl rfl ?aP (fun _ hk => hk.elim) ?aF ?aO ?aB ?aS ?aL ?_; (case aP => exact rfl); (case aB => exact (by repeat (first | (with_reducible first | exact HB.out | apply below_alloc | apply pw_below_drewN | apply below_drew1 | refine below_set ?_ (IsS56.ge HI438.out) | refine below_set ?_ GE443.out) | exact HB.out))); (case aF => exact (fun k_ hk => ⟨Kd.fresh' (Kd.R_lt (by (with_reducible repeat (first | apply Kd.R_alloc | apply Kd.R_drewN | apply Kd.R_drew)); exact HO_7.out)) k_ hk, Kd.fresh' (Kd.R_lt (by (with_reducible repeat (first | apply Kd.R_alloc | apply Kd.R_drewN | apply Kd.R_drew)); exact HO_29.out)) k_ hk⟩)); (case aO => exact (by (with_reducible repeat (first | apply Kd.R_alloc | apply Kd.R_drewN | apply Kd.R_drew)); exact HO_8.out)); (case aS => exact (below_size (by repeat (first | (with_reducible first | exact HB.out | apply below_alloc | apply pw_below_drewN | apply below_drew1 | refine below_set ?_ (IsS56.ge HI438.out) | refine below_set ?_ GE443.out) | exact HB.out)))); (case aL => have := LMc28.out; omega); intro v454 w32 ho hb hg hat; rw [← Ny453.out] at ho; have n0_ := Aside0.mk (Kd.R_after (ok := (fun k_ => some k_ ≠ (.slice (some ad450) t447.length co17 : Value).ownBlock)) (by (with_reducible repeat (first | apply Kd.R_alloc | apply Kd.R_drewN | apply Kd.R_drew)); exact Kd.R_mono HO_7.out (fun _ hk => ⟨hk.2, hk.1⟩)) hg hat); have n1_ := Aside0.mk (Kd.R_after (ok := (fun k_ => some k_ ≠ (u7 : Value).ownBlock)) (by (with_reducible repeat (first | apply Kd.R_alloc | apply Kd.R_drewN | apply Kd.R_drew)); exact HO_29.out) hg hat); have n2_ := Aside0.mk (Kd.R_after (ok := (fun k_ => some k_ ≠ (u7 : Value).ownBlock ∧ some k_ ≠ (.slice (some ad450) t447.length co17 : Value).ownBlock)) (by (with_reducible repeat (first | apply Kd.R_alloc | apply Kd.R_drewN | apply Kd.R_drew)); exact Kd.R_mono HO_444000.out (fun _ hk => ⟨⟨hk.1, hk.2.2⟩, hk.2.1⟩)) hg hat); have n3_ := Aside0.mk (blk_grown (g := gb443) (o := .cells #[.slice (some ad451) t439.length co9] 25 (0, 0)) (by (with_reducible repeat (first | refine blk_drewN ?_ _ | refine blk_drew ?_ | refine blk_alloc ?_ _)); exact BK443.out) hg (Kd.R_ne HO_8.out BK443.out (by decide))); have n4_ := Aside0.mk (IsS56.grown (by repeat (first | (with_reducible first | exact HI438.out | apply IsS56.alloc | apply IsS56.drewN | apply IsS56.drew | apply IsS56.set_1 | refine IsS56.far ?_ NB438_443.out _) | exact HI438.out)) hg (IsS56.own_ne HI438.out HO_8.out (by decide))); have n5_ := Aside0.mk (Kd.R_after (ok := (fun k_ => some k_ ≠ (u7 : Value).ownBlock ∧ some k_ ≠ (.slice (some ad450) t447.length co17 : Value).ownBlock ∧ some k_ ≠ (.slice (some ad451) t439.length co9 : Value).ownBlock)) (by (with_reducible repeat (first | apply Kd.R_alloc | apply Kd.R_drewN | apply Kd.R_drew)); exact Kd.R_mono HL451_2.out (fun _ hk => ⟨⟨hk.1.1, ⟨hk.1.2.2, hk.2⟩⟩, hk.1.2.1⟩)) hg hat); have n6_ := Aside0.mk (Kd.R_after (ok := (fun k_ => some k_ ≠ (u7 : Value).ownBlock ∧ some k_ ≠ (.slice (some ad450) t447.length co17 : Value).ownBlock ∧ some k_ ≠ (.slice (some ad451) t439.length co9 : Value).ownBlock)) (by (with_reducible repeat (first | apply Kd.R_alloc | apply Kd.R_drewN | apply Kd.R_drew)); exact Kd.R_mono HL451_3.out (fun _ hk => ⟨⟨hk.1.1, ⟨hk.1.2.2, hk.2⟩⟩, hk.1.2.1⟩)) hg hat); have n7_ := Aside0.mk (hb); have n8_ := Aside0.mk (ho); clear HO_7; clear HO_29; clear HO_444000; clear BK443; clear HI438; clear HL451_2; clear HL451_3; clear HB; clear HO_8; have HO_7 := n0_; have HO_29 := n1_; have HO_444000 := n2_; have BK443 := n3_; have HI438 := n4_; have HL451_2 := n5_; have HL451_3 := n6_; have HB := n7_; have HO455 := n8_; clear n0_ n1_ n2_ n3_ n4_ n5_ n6_ n7_ n8_; clear ho hb hg hat))
                        go_roundg k2
                        case measure => have := HK1.out; have := HK2.out; omega
                        case rel => exact ⟨(y453), (wrap64 (x31_2 + 1)), (by first | rfl | (simp; done) | (simp [*]; done)), H', ⟨by have := HK1.out; have := HK2.out; omega⟩, ⟨by (with_reducible repeat (first | apply Kd.R_alloc | apply Kd.R_drewN | apply Kd.R_drew)); exact Kd.R_mono HO_7.out (fun _ hk => ⟨hk.2, hk.1⟩)⟩, ⟨by (with_reducible repeat (first | apply Kd.R_alloc | apply Kd.R_drewN | apply Kd.R_drew)); exact HO455.out⟩, ⟨by (with_reducible repeat (first | apply Kd.R_alloc | apply Kd.R_drewN | apply Kd.R_drew)); exact HO_29.out⟩, ⟨by (with_reducible repeat (first | apply Kd.R_alloc | apply Kd.R_drewN | apply Kd.R_drew)); exact Kd.R_mono HO_444000.out (fun _ hk => ⟨hk.1.1, ⟨hk.2, hk.1.2⟩⟩)⟩, ⟨by (with_reducible repeat (first | refine blk_drewN ?_ _ | refine blk_drew ?_ | refine blk_alloc ?_ _)); exact BK443.out⟩, ⟨by repeat (first | (with_reducible first | exact HI438.out | apply IsS56.alloc | apply IsS56.drewN | apply IsS56.drew | apply IsS56.set_1 | refine IsS56.far ?_ NB438_443.out _) | exact HI438.out)⟩, ⟨by repeat (first | (with_reducible first | exact HB.out | apply below_alloc | apply pw_below_drewN | apply below_drew1 | refine below_set ?_ (IsS56.ge HI438.out) | refine below_set ?_ GE443.out) | exact HB.out)⟩⟩
                      · rw [if_neg c28] at H
                        exact absurd H (by simp)
                  · rw [if_neg c22] at H
                    exact absurd H (by simp)
                · rw [if_neg c21] at H
                  exact absurd H (by simp)
              · rw [if_neg c20] at H
                exact absurd H (by simp)
            · rw [if_neg c19] at H
              exact absurd H (by simp)
          · rw [if_neg c18] at H
            have c18b0 : decide (x31_2 < (t447.length : Int)) = false := decide_eq_false c18
            clear c18
            by_cases c33 : (x8_2.length : Int) = 0
            · rw [if_pos c33] at H
              have c33b0 : ((x8_2.length : Int) == 0) = true := beq_iff_eq.mpr c33
              have c33b1 : ((x8_2.length : Int) != 0) = false := bne_eq_false_iff_eq.mpr c33
              clear c33
              replace H := Option.bind_eq_some_iff.mp H
              obtain ⟨⟨t462, t463⟩, A340, H⟩ := H
              replace H : ((closure_Elimination.f k2 t439 t444).bind fun t464 => ((closure_Check.f k2 t439 t444 t464).bind fun bt467 => (if t463 = 0 then (if bt467.2 = 0 then (if t462 = x6_1 then (if bt467.1 = x6_1 then ((closure_Greatest.f k2 t439 t444).bind fun t469 => (trustquorumlaw09_ClosureOrders.j2 k2 t444 x7_1 (t469 != x6_1) t439)) else (trustquorumlaw09_ClosureOrders.j2 k2 t444 x7_1 true t439)) else (trustquorumlaw09_ClosureOrders.j2 k2 t444 x7_1 true t439)) else (trustquorumlaw09_ClosureOrders.j2 k2 t444 x7_1 true t439)) else (trustquorumlaw09_ClosureOrders.j2 k2 t444 x7_1 true t439)))) = some r := H
              have A34 := Aside0.mk A340
              clear A340
              replace H := Option.bind_eq_some_iff.mp H
              obtain ⟨t464, A350, H⟩ := H
              replace H : ((closure_Check.f k2 t439 t444 t464).bind fun bt467 => (if t463 = 0 then (if bt467.2 = 0 then (if t462 = x6_1 then (if bt467.1 = x6_1 then ((closure_Greatest.f k2 t439 t444).bind fun t469 => (trustquorumlaw09_ClosureOrders.j2 k2 t444 x7_1 (t469 != x6_1) t439)) else (trustquorumlaw09_ClosureOrders.j2 k2 t444 x7_1 true t439)) else (trustquorumlaw09_ClosureOrders.j2 k2 t444 x7_1 true t439)) else (trustquorumlaw09_ClosureOrders.j2 k2 t444 x7_1 true t439)) else (trustquorumlaw09_ClosureOrders.j2 k2 t444 x7_1 true t439))) = some r := H
              have A35 := Aside0.mk A350
              clear A350
              replace H := Option.bind_eq_some_iff.mp H
              obtain ⟨⟨t467, t468⟩, A360, H⟩ := H
              replace H : (if t463 = 0 then (if t468 = 0 then (if t462 = x6_1 then (if t467 = x6_1 then ((closure_Greatest.f k2 t439 t444).bind fun t469 => (trustquorumlaw09_ClosureOrders.j2 k2 t444 x7_1 (t469 != x6_1) t439)) else (trustquorumlaw09_ClosureOrders.j2 k2 t444 x7_1 true t439)) else (trustquorumlaw09_ClosureOrders.j2 k2 t444 x7_1 true t439)) else (trustquorumlaw09_ClosureOrders.j2 k2 t444 x7_1 true t439)) else (trustquorumlaw09_ClosureOrders.j2 k2 t444 x7_1 true t439)) = some r := H
              have A36 := Aside0.mk A360
              clear A360
              have HC37 := Aside0.mk H
              clear H
              obtain ⟨Ao38, co38, eo38⟩ := Kd.R_slice HO_8.out
              subst eo38
              have hnb39 := NB443_438.out
              have hnc39 := NB438_443.out
              have hcz40_0 : wr.cell? ⟨gb443, 0, none⟩ = some (.slice Ao9 t439.length co9) := (blk_cell BK443.out 0).trans rfl
              have hfz40_0 := blk_frozen BK443.out 0
              obtain ⟨Ao41, co41, eo41⟩ := Kd.R_slice HO_7.out
              subst eo41
              try go_wp2_with (first | ((with_reducible refine gate_callee (f := 22) rfl ?_); refine goesL_ (some 71) rfl rfl Try.func22 (by kernel_rfl) rfl #[.agg #[.slice Ao9 t439.length co9], .int .i64 t444, .slice Ao41 x7_1.length co41] rfl (by (try simp only [List.map_toArray, List.map_cons, List.map_nil]); first | done | rfl | (simp only [List.length_drop, List.length_take]; rfl) | (simp only [List.length_nil, Int.natCast_zero, Int.zero_add, Int.ofNat_zero]; rfl)) ?_; (with_reducible refine (closure_Check.calls k2 _ _ t439 t444 _ _ x7_1 t462 t463 _ ?side1 ?side2 ?side3 ?side4 A34.out).mono ?_); (case side1 => repeat (first | exact (Kd.R_reads' HO_444000.out).2.2 | (with_reducible refine Kd.C_alloc ?_ _) | (with_reducible refine Kd.C_drewN ?_ _) | (with_reducible refine Kd.C_drew ?_))); (case side2 => exact (Kd.R_reads' HO_444000.out).2.1); (case side3 => repeat (first | exact (Kd.R_reads' HO_7.out).2.2 | (with_reducible refine Kd.C_alloc ?_ _) | (with_reducible refine Kd.C_drewN ?_ _) | (with_reducible refine Kd.C_drew ?_))); (case side4 => exact (Kd.R_reads' HO_7.out).2.1); rintro e w42 ⟨rfl, hb⟩; refine ⟨_, rfl, ?_⟩; have n0_ := Aside0.mk (Kd.R_below (by (with_reducible repeat (first | apply Kd.R_alloc | apply Kd.R_drewN | apply Kd.R_drew)); exact HO_7.out) hb); have n1_ := Aside0.mk (Kd.R_below (by (with_reducible repeat (first | apply Kd.R_alloc | apply Kd.R_drewN | apply Kd.R_drew)); exact HO_8.out) hb); have n2_ := Aside0.mk (Kd.R_below (by (with_reducible repeat (first | apply Kd.R_alloc | apply Kd.R_drewN | apply Kd.R_drew)); exact HO_29.out) hb); have n3_ := Aside0.mk (Kd.R_below (by (with_reducible repeat (first | apply Kd.R_alloc | apply Kd.R_drewN | apply Kd.R_drew)); exact HO_444000.out) hb); have n4_ := Aside0.mk (blk_below (g := gb443) (o := .cells #[.slice Ao9 t439.length co9] 25 (0, 0)) (by (with_reducible repeat (first | refine blk_drewN ?_ _ | refine blk_drew ?_ | refine blk_alloc ?_ _)); exact BK443.out) hb); have n5_ := Aside0.mk (IsS56.below (by repeat (first | (with_reducible first | exact HI438.out | apply IsS56.alloc | apply IsS56.drewN | apply IsS56.drew | apply IsS56.set_1 | refine IsS56.far ?_ NB438_443.out _) | exact HI438.out)) hb); have n6_ := Aside0.mk (below_step (by repeat (first | (with_reducible first | exact HB.out | apply below_alloc | apply pw_below_drewN | apply below_drew1 | refine below_set ?_ (IsS56.ge HI438.out) | refine below_set ?_ GE443.out) | exact HB.out)) hb); clear HO_7; clear HO_8; clear HO_29; clear HO_444000; clear BK443; clear HI438; clear HB; have HO_7 := n0_; have HO_8 := n1_; have HO_29 := n2_; have HO_444000 := n3_; have BK443 := n4_; have HI438 := n5_; have HB := n6_; clear n0_ n1_ n2_ n3_ n4_ n5_ n6_; (try clear hb); (try clear hb2); (try clear hk); (try clear hi)))
              have n0_ := Aside0.mk (Kd.R_drew HO_7.out)
              have n1_ := Aside0.mk (Kd.R_drew HO_8.out)
              have n2_ := Aside0.mk (Kd.R_drew HO_29.out)
              have n3_ := Aside0.mk (Kd.R_drew HO_444000.out)
              have n4_ := Aside0.mk (blk_drew BK443.out)
              have n5_ := Aside0.mk (IsS56.drew HI438.out)
              have n6_ := Aside0.mk (below_drew1 HB.out)
              clear HO_7
              clear HO_8
              clear HO_29
              clear HO_444000
              clear BK443
              clear HI438
              clear HB
              have HO_7 := n0_
              have HO_8 := n1_
              have HO_29 := n2_
              have HO_444000 := n3_
              have BK443 := n4_
              have HI438 := n5_
              have HB := n6_
              clear n0_ n1_ n2_ n3_ n4_ n5_ n6_
              refine start_ (n := 11) (S := fun w' => w'.cell? ⟨gb443, 0, none⟩ = some (.slice Ao9 t439.length co9)) (ds := []) #[false, false, false, false, false, false, false, false, false, false, false] (by kernel_rfl) rfl rfl ((blk_cell BK443.out 0).trans rfl) (fun hHeld => ?_); refine with_tabW trustquorumlaw09_ClosureOrders.tab18 trustquorumlaw09_ClosureOrders.bits18 (fun HT_ HW_ => ?_)
              generalize w42.drew = w43 at HO_7 HO_8 HO_29 HO_444000 BK443 HI438 HB hHeld ⊢
              refine pure_ (i := 1) (N := some 76) (v := ?_) (a' := ?_) #[false, true, false, false, false, false, false, false, false, false, false] rfl rfl (any_of HT_.out (by kernel_rfl)) (fun _ _ _ h => h) (Or.inl ⟨by rfl, ?_⟩) ?_ ?_
              rotate_left
              · intro w'
                go_simp
                with_reducible rfl
              rotate_left
              · simp only [Act.put, List.setIfInBounds_toArray, List.set_cons_zero, List.set_cons_succ, i64_w, i32_w]
                rfl
              refine pure_ (i := 3) (N := some 78) (v := ?_) (a' := ?_) #[false, true, false, true, false, false, false, false, false, false, false] rfl rfl (any_of HT_.out (by kernel_rfl)) (fun _ _ _ h => h) (Or.inl ⟨by rfl, ?_⟩) ?_ ?_
              rotate_left
              · intro w'
                go_simp
                with_reducible rfl
              rotate_left
              · simp only [Act.put, List.setIfInBounds_toArray, List.set_cons_zero, List.set_cons_succ, i64_w, i32_w]
                rfl
              refine take_ (i := 0) (N := some 75) (v := ?_) (a' := ?_) #[true, true, false, true, false, false, false, false, false, false, false] rfl rfl (take_ofW HT_.out HW_.out (by kernel_rfl)) (fun _ _ _ h => h) (Or.inl ⟨by rfl, ?_⟩) hHeld ?_ ?_
              rotate_left
              · intro w' s0
                go_simp
                with_reducible rfl
              rotate_left
              · simp only [Act.put, List.setIfInBounds_toArray, List.set_cons_zero, List.set_cons_succ, i64_w, i32_w]
                rfl
              refine take_ (i := 2) (N := some 77) (v := ?_) (a' := ?_) #[true, true, true, true, false, false, false, false, false, false, false] rfl rfl (take_ofW HT_.out HW_.out (by kernel_rfl)) (fun _ _ _ h => h) (Or.inl ⟨by rfl, ?_⟩) hHeld ?_ ?_
              rotate_left
              · intro w' s0
                go_simp
                with_reducible rfl
              rotate_left
              · simp only [Act.put, List.setIfInBounds_toArray, List.set_cons_zero, List.set_cons_succ, i64_w, i32_w]
                rfl
              refine one_ (i := 4) (N := some 79) #[true, true, true, true, true, false, false, false, false, false, false] rfl rfl (one_of HT_.out (by kernel_rfl)) (by decide) (fun K hK => ?_)
              refine goes_ Try.func20 (by kernel_rfl) rfl #[.agg #[.slice Ao9 t439.length co9], .int .i64 t444] (by rfl) rfl rfl (by (try simp only [List.map_toArray, List.map_cons, List.map_nil]); first | done | rfl | (simp only [List.length_drop, List.length_take]; rfl) | (simp only [List.length_nil, Int.natCast_zero, Int.zero_add, Int.ofNat_zero]; rfl)) ?_
              with_reducible refine (closure_Elimination.calls k2 _ _ t439 t444 t464 _ ?side1 ?side2 A35.out).mono ?_
              (case side1 => repeat (first | exact (Kd.R_reads' HO_444000.out).2.2 | (with_reducible refine Kd.C_alloc ?_ _) | (with_reducible refine Kd.C_drewN ?_ _) | (with_reducible refine Kd.C_drew ?_)))
              (case side2 => exact (Kd.R_reads' HO_444000.out).2.1)
              rintro e w44 ⟨v465, rfl, ho0, hb⟩
              refine ⟨_, rfl, ?_⟩
              have n0_ := Aside0.mk (Kd.R_elder' (by (with_reducible repeat (first | apply Kd.R_alloc | apply Kd.R_drewN | apply Kd.R_drew)); exact HO_7.out) (Kd.R_base ho0) hb)
              have n1_ := Aside0.mk (Kd.R_elder' (by (with_reducible repeat (first | apply Kd.R_alloc | apply Kd.R_drewN | apply Kd.R_drew)); exact HO_8.out) (Kd.R_base ho0) hb)
              have n2_ := Aside0.mk (Kd.R_elder' (by (with_reducible repeat (first | apply Kd.R_alloc | apply Kd.R_drewN | apply Kd.R_drew)); exact HO_29.out) (Kd.R_base ho0) hb)
              have n3_ := Aside0.mk (Kd.R_elder' (by (with_reducible repeat (first | apply Kd.R_alloc | apply Kd.R_drewN | apply Kd.R_drew)); exact HO_444000.out) (Kd.R_base ho0) hb)
              have n4_ := Aside0.mk (Kd.R_lower (Kd.R_new' (Kd.R_new' (Kd.R_new' ho0 (Kd.R_lt (by (with_reducible repeat (first | apply Kd.R_alloc | apply Kd.R_drewN | apply Kd.R_drew)); exact HO_7.out))) (Kd.R_lt (by (with_reducible repeat (first | apply Kd.R_alloc | apply Kd.R_drewN | apply Kd.R_drew)); exact HO_8.out))) (Kd.R_lt (by (with_reducible repeat (first | apply Kd.R_alloc | apply Kd.R_drewN | apply Kd.R_drew)); exact HO_29.out))) (below_size (by repeat (first | (with_reducible first | exact HB.out | apply below_alloc | apply pw_below_drewN | apply below_drew1 | refine below_set ?_ (IsS56.ge HI438.out) | refine below_set ?_ GE443.out) | exact HB.out))))
              have n5_ := Aside0.mk (blk_below (g := gb443) (o := .cells #[.slice Ao9 t439.length co9] 25 (0, 0)) (by (with_reducible repeat (first | refine blk_drewN ?_ _ | refine blk_drew ?_ | refine blk_alloc ?_ _)); exact BK443.out) hb)
              have n6_ := Aside0.mk (IsS56.below (by repeat (first | (with_reducible first | exact HI438.out | apply IsS56.alloc | apply IsS56.drewN | apply IsS56.drew | apply IsS56.set_1 | refine IsS56.far ?_ NB438_443.out _) | exact HI438.out)) hb)
              have n7_ := Aside0.mk (below_step (by repeat (first | (with_reducible first | exact HB.out | apply below_alloc | apply pw_below_drewN | apply below_drew1 | refine below_set ?_ (IsS56.ge HI438.out) | refine below_set ?_ GE443.out) | exact HB.out)) hb)
              clear HO_7
              clear HO_8
              clear HO_29
              clear HO_444000
              clear BK443
              clear HI438
              clear HB
              have HO_7 := n0_
              have HO_8 := n1_
              have HO_29 := n2_
              have HO_444000 := n3_
              have HO466 := n4_
              have BK443 := n5_
              have HI438 := n6_
              have HB := n7_
              clear n0_ n1_ n2_ n3_ n4_ n5_ n6_ n7_
              (try clear hb)
              (try clear hb2)
              (try clear hk)
              (try clear hi)
              (try clear ho0)
              obtain ⟨Ao45, co45, eo45⟩ := Kd.R_slice HO466.out
              (first | subst eo45 | (injection eo45 with f1_ f2_ f3_; have f4_ := f1_.symm; have f5_ := f3_.symm; clear f1_ f2_ f3_; subst f4_; subst f5_))
              refine hK.out _ _ ((blk_cell BK443.out 0).trans rfl) (fun hHeld => ?_)
              clear hK K
              refine norm_ (a' := ?_) ?_ ?_
              rotate_left
              · show Act.put _ (some 79) _ = _
                simp only [Act.put, List.setIfInBounds_toArray, List.set_cons_zero, List.set_cons_succ, i64_w, i32_w]
                rfl
              refine one_ (i := 5) (N := some 80) #[true, true, true, true, true, true, false, false, false, false, false] rfl rfl (one_of HT_.out (by kernel_rfl)) (by decide) (fun K hK => ?_)
              refine goes_ Try.func22 (by kernel_rfl) rfl #[.agg #[.slice Ao9 t439.length co9], .int .i64 t444, .slice Ao45 t464.length co45] (by rfl) rfl rfl (by (try simp only [List.map_toArray, List.map_cons, List.map_nil]); first | done | rfl | (simp only [List.length_drop, List.length_take]; rfl) | (simp only [List.length_nil, Int.natCast_zero, Int.zero_add, Int.ofNat_zero]; rfl)) ?_
              with_reducible refine (closure_Check.calls k2 _ _ t439 t444 _ _ t464 t467 t468 _ ?side1 ?side2 ?side3 ?side4 A36.out).mono ?_
              (case side1 => repeat (first | exact (Kd.R_reads' HO_444000.out).2.2 | (with_reducible refine Kd.C_alloc ?_ _) | (with_reducible refine Kd.C_drewN ?_ _) | (with_reducible refine Kd.C_drew ?_)))
              (case side2 => exact (Kd.R_reads' HO_444000.out).2.1)
              (case side3 => repeat (first | exact (Kd.R_reads' HO466.out).2.2 | (with_reducible refine Kd.C_alloc ?_ _) | (with_reducible refine Kd.C_drewN ?_ _) | (with_reducible refine Kd.C_drew ?_)))
              (case side4 => exact (Kd.R_reads' HO466.out).2.1)
              rintro e w46 ⟨rfl, hb⟩
              refine ⟨_, rfl, ?_⟩
              have n0_ := Aside0.mk (Kd.R_below (by (with_reducible repeat (first | apply Kd.R_alloc | apply Kd.R_drewN | apply Kd.R_drew)); exact HO_7.out) hb)
              have n1_ := Aside0.mk (Kd.R_below (by (with_reducible repeat (first | apply Kd.R_alloc | apply Kd.R_drewN | apply Kd.R_drew)); exact HO_8.out) hb)
              have n2_ := Aside0.mk (Kd.R_below (by (with_reducible repeat (first | apply Kd.R_alloc | apply Kd.R_drewN | apply Kd.R_drew)); exact HO_29.out) hb)
              have n3_ := Aside0.mk (Kd.R_below (by (with_reducible repeat (first | apply Kd.R_alloc | apply Kd.R_drewN | apply Kd.R_drew)); exact HO_444000.out) hb)
              have n4_ := Aside0.mk (Kd.R_below (by (with_reducible repeat (first | apply Kd.R_alloc | apply Kd.R_drewN | apply Kd.R_drew)); exact HO466.out) hb)
              have n5_ := Aside0.mk (blk_below (g := gb443) (o := .cells #[.slice Ao9 t439.length co9] 25 (0, 0)) (by (with_reducible repeat (first | refine blk_drewN ?_ _ | refine blk_drew ?_ | refine blk_alloc ?_ _)); exact BK443.out) hb)
              have n6_ := Aside0.mk (IsS56.below (by repeat (first | (with_reducible first | exact HI438.out | apply IsS56.alloc | apply IsS56.drewN | apply IsS56.drew | apply IsS56.set_1 | refine IsS56.far ?_ NB438_443.out _) | exact HI438.out)) hb)
              have n7_ := Aside0.mk (below_step (by repeat (first | (with_reducible first | exact HB.out | apply below_alloc | apply pw_below_drewN | apply below_drew1 | refine below_set ?_ (IsS56.ge HI438.out) | refine below_set ?_ GE443.out) | exact HB.out)) hb)
              clear HO_7
              clear HO_8
              clear HO_29
              clear HO_444000
              clear HO466
              clear BK443
              clear HI438
              clear HB
              have HO_7 := n0_
              have HO_8 := n1_
              have HO_29 := n2_
              have HO_444000 := n3_
              have HO466 := n4_
              have BK443 := n5_
              have HI438 := n6_
              have HB := n7_
              clear n0_ n1_ n2_ n3_ n4_ n5_ n6_ n7_
              (try clear hb)
              (try clear hb2)
              (try clear hk)
              (try clear hi)
              refine hK.out _ _ ((blk_cell BK443.out 0).trans rfl) (fun hHeld => ?_)
              clear hK K
              refine norm_ (a' := ?_) ?_ ?_
              rotate_left
              · show Act.put _ (some 80) _ = _
                simp only [Act.put, List.setIfInBounds_toArray, List.set_cons_zero, List.set_cons_succ, i64_w, i32_w]
                rfl
              refine pure_ (i := 6) (N := some 74) (v := ?_) (a' := ?_) #[true, true, true, true, true, true, true, false, false, false, false] rfl rfl (any_of HT_.out (by kernel_rfl)) (fun _ _ _ h => h) (Or.inl ⟨by rfl, ?_⟩) ?_ ?_
              rotate_left
              · intro w'
                go_simp
                with_reducible rfl
              rotate_left
              · simp only [Act.put, List.setIfInBounds_toArray, List.set_cons_zero, List.set_cons_succ, i64_w, i32_w]
                rfl
              refine pure_ (i := 7) (N := some 81) (v := ?_) (a' := ?_) #[true, true, true, true, true, true, true, true, false, false, false] rfl rfl (any_of HT_.out (by kernel_rfl)) (fun _ _ _ h => h) (Or.inl ⟨by rfl, ?_⟩) ?_ ?_
              rotate_left
              · intro w'
                go_simp
                with_reducible rfl
              rotate_left
              · simp only [Act.put, List.setIfInBounds_toArray, List.set_cons_zero, List.set_cons_succ, i64_w, i32_w]
                rfl
              refine pure_ (i := 8) (N := some 82) (v := ?_) (a' := ?_) #[true, true, true, true, true, true, true, true, true, false, false] rfl rfl (any_of HT_.out (by kernel_rfl)) (fun _ _ _ h => h) (Or.inl ⟨by rfl, ?_⟩) ?_ ?_
              rotate_left
              · intro w'
                go_simp
                with_reducible rfl
              rotate_left
              · simp only [Act.put, List.setIfInBounds_toArray, List.set_cons_zero, List.set_cons_succ, i64_w, i32_w]
                rfl
              refine pure_ (i := 9) (N := some 14) (v := ?_) (a' := ?_) #[true, true, true, true, true, true, true, true, true, true, false] rfl rfl (any_of HT_.out (by kernel_rfl)) (fun _ _ _ h => h) (Or.inl ⟨by rfl, ?_⟩) ?_ ?_
              rotate_left
              · intro w'
                go_simp
                with_reducible rfl
              rotate_left
              · simp only [Act.put, List.setIfInBounds_toArray, List.set_cons_zero, List.set_cons_succ, i64_w, i32_w]
                rfl
              refine pure_ (i := 10) (N := some 15) (v := ?_) (a' := ?_) #[true, true, true, true, true, true, true, true, true, true, true] rfl rfl (any_of HT_.out (by kernel_rfl)) (fun _ _ _ h => h) (Or.inl ⟨by rfl, ?_⟩) ?_ ?_
              rotate_left
              · intro w'
                go_simp
                with_reducible rfl
              rotate_left
              · simp only [Act.put, List.setIfInBounds_toArray, List.set_cons_zero, List.set_cons_succ, i64_w, i32_w]
                rfl
              refine done_ (done_of HT_.out (by kernel_rfl)) ?_
              go_upto_region 19 with (fail)
              go_cut [105] (fun v105 wc => ∃ (kq : Nat) (x105_36 : Bool), v105 = .bool x105_36 ∧ Aside0 (trustquorumlaw09_ClosureOrders.j2 kq t444 x7_1 x105_36 t439 = some r) ∧ Aside0 (kq ≤ k2) ∧ Aside0 (Kd.R (Kd.int .i64) 3 wc w.heap.size (fun _ => True) (.slice Ao41 x7_1.length co41) x7_1) ∧ Aside0 (Kd.R k51 51 wc w.heap.size (fun k_ => some k_ ≠ ((.slice Ao41 x7_1.length co41) : Value).ownBlock) (.slice Ao9 t439.length co9) t439) ∧ Aside0 (wc.heap[gb443]? = some (.cells #[(.slice Ao9 t439.length co9)] 25 (0, 0))) ∧ Aside0 (Below w.heap.size w wc))
              case first =>
                have H := HC37.out
                clear HC37
                by_cases c47 : t463 = 0
                · rw [if_pos c47] at H
                  have c47b0 : (t463 == 0) = true := beq_iff_eq.mpr c47
                  have c47b1 : (t463 != 0) = false := bne_eq_false_iff_eq.mpr c47
                  clear c47
                  (first | rw [c47b0] | (simp only [i64_w, i32_w]; rw [c47b0]) | skip)
                  by_cases c48 : t468 = 0
                  · rw [if_pos c48] at H
                    have c48b0 : (t468 == 0) = true := beq_iff_eq.mpr c48
                    have c48b1 : (t468 != 0) = false := bne_eq_false_iff_eq.mpr c48
                    clear c48
                    by_cases c49 : t462 = x6_1
                    · rw [if_pos c49] at H
                      have c49b0 : (t462 == x6_1) = true := beq_iff_eq.mpr c49
                      have c49b1 : (t462 != x6_1) = false := bne_eq_false_iff_eq.mpr c49
                      clear c49
                      by_cases c50 : t467 = x6_1
                      · rw [if_pos c50] at H
                        have c50b0 : (t467 == x6_1) = true := beq_iff_eq.mpr c50
                        have c50b1 : (t467 != x6_1) = false := bne_eq_false_iff_eq.mpr c50
                        clear c50
                        replace H := Option.bind_eq_some_iff.mp H
                        obtain ⟨t469, A510, H⟩ := H
                        replace H : (trustquorumlaw09_ClosureOrders.j2 k2 t444 x7_1 (t469 != x6_1) t439) = some r := H
                        have A51 := Aside0.mk A510
                        clear A510
                        have H' := Aside0.mk H
                        clear H
                        have hnb52 := NB443_438.out
                        have hnc52 := NB438_443.out
                        have hcz53_0 : w46.cell? ⟨gb443, 0, none⟩ = some (.slice Ao9 t439.length co9) := (blk_cell BK443.out 0).trans rfl
                        have hfz53_0 := blk_frozen BK443.out 0
                        go_wp2_with (first | (go_at_call 17; (with_reducible refine (closure_Greatest.calls k2 _ _ t439 t444 t469 _ ?side1 ?side2 A51.out).mono ?_); (case side1 => repeat (first | exact (Kd.R_reads' HO_444000.out).2.2 | (with_reducible refine Kd.C_alloc ?_ _) | (with_reducible refine Kd.C_drewN ?_ _) | (with_reducible refine Kd.C_drew ?_))); (case side2 => exact (Kd.R_reads' HO_444000.out).2.1); rintro e w54 ⟨rfl, hb⟩; have n0_ := Aside0.mk (Kd.R_below (by (with_reducible repeat (first | apply Kd.R_alloc | apply Kd.R_drewN | apply Kd.R_drew)); exact HO_7.out) hb); have n1_ := Aside0.mk (Kd.R_below (by (with_reducible repeat (first | apply Kd.R_alloc | apply Kd.R_drewN | apply Kd.R_drew)); exact HO_8.out) hb); have n2_ := Aside0.mk (Kd.R_below (by (with_reducible repeat (first | apply Kd.R_alloc | apply Kd.R_drewN | apply Kd.R_drew)); exact HO_29.out) hb); have n3_ := Aside0.mk (Kd.R_below (by (with_reducible repeat (first | apply Kd.R_alloc | apply Kd.R_drewN | apply Kd.R_drew)); exact HO_444000.out) hb); have n4_ := Aside0.mk (Kd.R_below (by (with_reducible repeat (first | apply Kd.R_alloc | apply Kd.R_drewN | apply Kd.R_drew)); exact HO466.out) hb); have n5_ := Aside0.mk (blk_below (g := gb443) (o := .cells #[.slice Ao9 t439.length co9] 25 (0, 0)) (by (with_reducible repeat (first | refine blk_drewN ?_ _ | refine blk_drew ?_ | refine blk_alloc ?_ _)); exact BK443.out) hb); have n6_ := Aside0.mk (IsS56.below (by repeat (first | (with_reducible first | exact HI438.out | apply IsS56.alloc | apply IsS56.drewN | apply IsS56.drew | apply IsS56.set_1 | refine IsS56.far ?_ NB438_443.out _) | exact HI438.out)) hb); have n7_ := Aside0.mk (below_step (by repeat (first | (with_reducible first | exact HB.out | apply below_alloc | apply pw_below_drewN | apply below_drew1 | refine below_set ?_ (IsS56.ge HI438.out) | refine below_set ?_ GE443.out) | exact HB.out)) hb); clear HO_7; clear HO_8; clear HO_29; clear HO_444000; clear HO466; clear BK443; clear HI438; clear HB; have HO_7 := n0_; have HO_8 := n1_; have HO_29 := n2_; have HO_444000 := n3_; have HO466 := n4_; have BK443 := n5_; have HI438 := n6_; have HB := n7_; clear n0_ n1_ n2_ n3_ n4_ n5_ n6_ n7_; (try clear hb); (try clear hb2); (try clear hk); (try clear hi)))
                        go_meet
                        case rel => exact ⟨_, ((t469 != x6_1)), (by first | rfl | (simp; done) | (simp [*]; done)), H', ⟨by have := HK1.out; have := HK2.out; first | omega | exact Nat.le_refl _⟩, ⟨by (with_reducible repeat (first | apply Kd.R_alloc | apply Kd.R_drewN | apply Kd.R_drew)); exact Kd.R_mono HO_7.out (fun _ hk => trivial)⟩, ⟨by (with_reducible repeat (first | apply Kd.R_alloc | apply Kd.R_drewN | apply Kd.R_drew)); exact Kd.R_mono HO_444000.out (fun _ hk => hk.1.1)⟩, ⟨by (with_reducible repeat (first | refine blk_drewN ?_ _ | refine blk_drew ?_ | refine blk_alloc ?_ _)); exact BK443.out⟩, ⟨by repeat (first | (with_reducible first | exact HB.out | apply below_alloc | apply pw_below_drewN | apply below_drew1 | refine below_set ?_ (IsS56.ge HI438.out) | refine below_set ?_ GE443.out) | exact HB.out)⟩⟩
                      · rw [if_neg c50] at H
                        have c50b0 : (t467 == x6_1) = false := beq_eq_false_iff_ne.mpr c50
                        have c50b1 : (t467 != x6_1) = true := bne_iff_ne.mpr c50
                        have H' := Aside0.mk H
                        clear H
                        go_wp2
                        go_meet
                        case rel => exact ⟨_, (true), (by first | rfl | (simp; done) | (simp [*]; done)), H', ⟨by have := HK1.out; have := HK2.out; first | omega | exact Nat.le_refl _⟩, ⟨by (with_reducible repeat (first | apply Kd.R_alloc | apply Kd.R_drewN | apply Kd.R_drew)); exact Kd.R_mono HO_7.out (fun _ hk => trivial)⟩, ⟨by (with_reducible repeat (first | apply Kd.R_alloc | apply Kd.R_drewN | apply Kd.R_drew)); exact Kd.R_mono HO_444000.out (fun _ hk => hk.1.1)⟩, ⟨by (with_reducible repeat (first | refine blk_drewN ?_ _ | refine blk_drew ?_ | refine blk_alloc ?_ _)); exact BK443.out⟩, ⟨by repeat (first | (with_reducible first | exact HB.out | apply below_alloc | apply pw_below_drewN | apply below_drew1 | refine below_set ?_ (IsS56.ge HI438.out) | refine below_set ?_ GE443.out) | exact HB.out)⟩⟩
                    · rw [if_neg c49] at H
                      have c49b0 : (t462 == x6_1) = false := beq_eq_false_iff_ne.mpr c49
                      have c49b1 : (t462 != x6_1) = true := bne_iff_ne.mpr c49
                      have H' := Aside0.mk H
                      clear H
                      go_wp2
                      go_meet
                      case rel => exact ⟨_, (true), (by first | rfl | (simp; done) | (simp [*]; done)), H', ⟨by have := HK1.out; have := HK2.out; first | omega | exact Nat.le_refl _⟩, ⟨by (with_reducible repeat (first | apply Kd.R_alloc | apply Kd.R_drewN | apply Kd.R_drew)); exact Kd.R_mono HO_7.out (fun _ hk => trivial)⟩, ⟨by (with_reducible repeat (first | apply Kd.R_alloc | apply Kd.R_drewN | apply Kd.R_drew)); exact Kd.R_mono HO_444000.out (fun _ hk => hk.1.1)⟩, ⟨by (with_reducible repeat (first | refine blk_drewN ?_ _ | refine blk_drew ?_ | refine blk_alloc ?_ _)); exact BK443.out⟩, ⟨by repeat (first | (with_reducible first | exact HB.out | apply below_alloc | apply pw_below_drewN | apply below_drew1 | refine below_set ?_ (IsS56.ge HI438.out) | refine below_set ?_ GE443.out) | exact HB.out)⟩⟩
                  · rw [if_neg c48] at H
                    have c48b0 : (t468 == 0) = false := beq_eq_false_iff_ne.mpr c48
                    have c48b1 : (t468 != 0) = true := bne_iff_ne.mpr c48
                    have H' := Aside0.mk H
                    clear H
                    go_wp2
                    go_meet
                    case rel => exact ⟨_, (true), (by first | rfl | (simp; done) | (simp [*]; done)), H', ⟨by have := HK1.out; have := HK2.out; first | omega | exact Nat.le_refl _⟩, ⟨by (with_reducible repeat (first | apply Kd.R_alloc | apply Kd.R_drewN | apply Kd.R_drew)); exact Kd.R_mono HO_7.out (fun _ hk => trivial)⟩, ⟨by (with_reducible repeat (first | apply Kd.R_alloc | apply Kd.R_drewN | apply Kd.R_drew)); exact Kd.R_mono HO_444000.out (fun _ hk => hk.1.1)⟩, ⟨by (with_reducible repeat (first | refine blk_drewN ?_ _ | refine blk_drew ?_ | refine blk_alloc ?_ _)); exact BK443.out⟩, ⟨by repeat (first | (with_reducible first | exact HB.out | apply below_alloc | apply pw_below_drewN | apply below_drew1 | refine below_set ?_ (IsS56.ge HI438.out) | refine below_set ?_ GE443.out) | exact HB.out)⟩⟩
                · rw [if_neg c47] at H
                  have c47b0 : (t463 == 0) = false := beq_eq_false_iff_ne.mpr c47
                  have c47b1 : (t463 != 0) = true := bne_iff_ne.mpr c47
                  (first | rw [c47b0] | (simp only [i64_w, i32_w]; rw [c47b0]) | skip)
                  have H' := Aside0.mk H
                  clear H
                  go_wp2
                  go_meet
                  case rel => exact ⟨_, (true), (by first | rfl | (simp; done) | (simp [*]; done)), H', ⟨by have := HK1.out; have := HK2.out; first | omega | exact Nat.le_refl _⟩, ⟨by (with_reducible repeat (first | apply Kd.R_alloc | apply Kd.R_drewN | apply Kd.R_drew)); exact Kd.R_mono HO_7.out (fun _ hk => trivial)⟩, ⟨by (with_reducible repeat (first | apply Kd.R_alloc | apply Kd.R_drewN | apply Kd.R_drew)); exact Kd.R_mono HO_444000.out (fun _ hk => hk.1.1)⟩, ⟨by (with_reducible repeat (first | refine blk_drewN ?_ _ | refine blk_drew ?_ | refine blk_alloc ?_ _)); exact BK443.out⟩, ⟨by repeat (first | (with_reducible first | exact HB.out | apply below_alloc | apply pw_below_drewN | apply below_drew1 | refine below_set ?_ (IsS56.ge HI438.out) | refine below_set ?_ GE443.out) | exact HB.out)⟩⟩
              case rest =>
                clear HC37
                try clear c1
                try clear c2
                try clear p2
                try clear c3
                try clear c4
                try clear p4
                try clear q4
                try clear hx4
                try clear c5
                try clear c6
                try clear p6
                try clear c10
                try clear c11
                try clear c13
                try clear c18
                try clear c18b0
                try clear c19
                try clear c19b0
                try clear c20
                try clear c20b0
                try clear c21
                try clear c21b0
                try clear c22
                try clear c22b0
                try clear c24
                try clear c25
                try clear c26
                try clear c28
                try clear c29
                try clear c33
                try clear c33b0
                try clear c33b1
                try clear c39
                try clear c45
                try clear p45
                try clear q45
                try clear hx45
                try clear c47
                try clear c47b0
                try clear c47b1
                try clear c48
                try clear c48b0
                try clear c48b1
                try clear c49
                try clear c49b0
                try clear c49b1
                try clear c50
                try clear c50b0
                try clear c50b1
                try clear c52
                try clear hcz11_0
                try clear hcz13_0
                try clear hcz26_0
                try clear hcz30_0
                try clear hcz40_0
                try clear hcz53_0
                try clear hfz11_0
                try clear hfz13_0
                try clear hfz26_0
                try clear hfz30_0
                try clear hfz40_0
                try clear hfz53_0
                try clear hx450_0
                try clear hx451_0
                try clear hx451_1
                try clear hx451_2
                try clear hx451_3
                try clear p2
                try clear p450
                try clear p451
                try clear q450
                try clear q451
                obtain ⟨kq, x105_36, rfl, HA, HJ36, HO_7, HO_444000, BK443, HB⟩ := hcut
                cases kq with
                | zero => exact absurd HA.out (by simp [trustquorumlaw09_ClosureOrders.j2])
                | succ kj36 =>
                  have H := HA.out
                  clear HA
                  simp only [trustquorumlaw09_ClosureOrders.j2] at H
                  by_cases c55 : x105_36 = true
                  · subst c55
                    have H1 : (some false) = some r := by rw [if_pos rfl] at H; exact H
                    clear H
                    have H := H1
                    clear H1
                    obtain rfl := Option.some.inj H
                    go_wp2
                    go_ret
                    exact ⟨by first | rfl | (simp [errW_none, errW_some] <;> rfl) | (simp [*, errW_none, errW_some] <;> rfl), by repeat (first | (with_reducible first | exact HB.out | apply below_alloc | apply pw_below_drewN | apply below_drew1 | refine below_set ?_ GE443.out) | exact HB.out)⟩
                  · replace c55 := Bool.eq_false_iff.mpr c55
                    subst c55
                    have H1 : (if (x7_1.length : Int) > 0 then (if 0 ≤ (wrap64 ((x7_1.length : Int) - 1)) then (if (wrap64 ((x7_1.length : Int) - 1)) ≤ (x7_1.length : Int) then ((closure_Check.f kj36 t439 t444 (x7_1.take ((wrap64 ((x7_1.length : Int) - 1)) : Int).toNat)).bind fun bt474 => (if bt474.2 = 12 then ((trustquorumlaw09_awake.f kj36).bind fun t476 => (some t476)) else (some false))) else (none)) else (none)) else ((trustquorumlaw09_awake.f kj36).bind fun t477 => (some t477))) = some r := by rw [if_neg (show ¬ (false = true) by decide)] at H; exact H
                    clear H
                    have H := H1
                    clear H1
                    by_cases c56 : (x7_1.length : Int) > 0
                    · rw [if_pos c56] at H
                      have c56b0 : decide (0 < (x7_1.length : Int)) = true := decide_eq_true c56
                      have c56b1 : decide (0 < x7_1.length) = true := decide_eq_true (by omega)
                      clear c56
                      obtain ⟨ji57, hji57⟩ : ∃ j_ : Int, (wrap64 ((x7_1.length : Int) - 1)) = j_ := ⟨_, rfl⟩
                      replace H : (if 0 ≤ (ji57) then (if (ji57) ≤ (x7_1.length : Int) then ((closure_Check.f kj36 t439 t444 (x7_1.take ((ji57) : Int).toNat)).bind fun bt474 => (if bt474.2 = 12 then ((trustquorumlaw09_awake.f kj36).bind fun t476 => (some t476)) else (some false))) else (none)) else (none)) = some r := by first | (rw [hji57] at H; exact H) | (simp only [hji57] at H ⊢; exact H)
                      have hji57w : (IntKind.i64.wrap ((x7_1.length : Int) - 1)) = ji57 := (i64_w _).trans hji57
                      by_cases c58 : 0 ≤ (ji57)
                      · rw [if_pos c58] at H
                        have c58b0 := eq_true c58
                        have c58b1 : decide (0 ≤ (ji57)) = true := decide_eq_true c58
                        clear c58
                        by_cases c59 : (ji57) ≤ (x7_1.length : Int)
                        · rw [if_pos c59] at H
                          have c59b0 := eq_true c59
                          have c59b1 : decide ((ji57) ≤ (x7_1.length : Int)) = true := decide_eq_true c59
                          clear c59
                          obtain ⟨y470, hy470⟩ : ∃ y_ : List Int, y_ = (x7_1.take ((ji57) : Int).toNat) := ⟨_, rfl⟩
                          replace H : ((closure_Check.f kj36 t439 t444 y470).bind fun bt474 => (if bt474.2 = 12 then ((trustquorumlaw09_awake.f kj36).bind fun t476 => (some t476)) else (some false))) = some r := by first | (rw [hy470]; with_reducible exact H) | (have H2_ := (Option.bind_some _ _).symm.trans H; rw [hy470]; with_reducible exact H2_) | (have H2_ := (Option.bind_some _ _).symm.trans H; with_reducible exact H2_) | with_reducible exact H | (rw [hy470]; exact H) | exact H
                          have Ny470 := Aside0.mk hy470
                          clear hy470
                          replace H := Option.bind_eq_some_iff.mp H
                          obtain ⟨⟨t474, t475⟩, A600, H⟩ := H
                          replace H : (if t475 = 12 then ((trustquorumlaw09_awake.f kj36).bind fun t476 => (some t476)) else (some false)) = some r := H
                          have A60 := Aside0.mk A600
                          clear A600
                          by_cases c61 : t475 = 12
                          · rw [if_pos c61] at H
                            have c61b0 : (t475 == 12) = true := beq_iff_eq.mpr c61
                            have c61b1 : (t475 != 12) = false := bne_eq_false_iff_eq.mpr c61
                            clear c61
                            replace H := Option.bind_eq_some_iff.mp H
                            obtain ⟨t476, A620, H⟩ := H
                            replace H : (some t476) = some r := H
                            have A62 := Aside0.mk A620
                            clear A620
                            obtain rfl := Option.some.inj H
                            try go_wp2
                            have n0_ := Aside0.mk (Kd.R_drew HO_7.out)
                            have n1_ := Aside0.mk (Kd.R_drew HO_444000.out)
                            have n2_ := Aside0.mk (blk_drew BK443.out)
                            have n3_ := Aside0.mk (below_drew1 HB.out)
                            clear HO_7
                            clear HO_444000
                            clear BK443
                            clear HB
                            have HO_7 := n0_
                            have HO_444000 := n1_
                            have BK443 := n2_
                            have HB := n3_
                            clear n0_ n1_ n2_ n3_
                            have q64 : ((ji57) : Int) ≤ ((x7_1.length : Int) : Int) := of_decide_eq_true (by first | (with_reducible assumption) | assumption)
                            obtain ⟨i064, hi064, _, hsz64, _⟩ := info_parts info3
                            have hroom64 : x7_1.length ≤ co41 := (Kd.R_reads' HO_7.out).2.1
                            have hC64 : Kd.C (Kd.int .i64) _ Ao41 x7_1.length x7_1 := (Kd.R_reads' HO_7.out).2.2
                            have hcut64 := cut_to (P := Try.prog) 22 3 .i64 Try.underlying22 hi064 Ao41 x7_1.length co41 (ji57) (of_decide_eq_true (by first | (with_reducible assumption) | assumption)) q64 hroom64
                            have hr64 := Kd.C_take (m := ((ji57) : Int).toNat) hC64 (by omega)
                            have hy64 : y470.length = ((ji57) : Int).toNat := (by rw [Ny470.out, List.length_take]; omega)
                            rw [← Ny470.out] at hr64
                            rw [← hy64] at hcut64
                            have HR473 := Aside0.mk hr64
                            have HC473 := Aside0.mk (show y470.length ≤ co41 from by omega)
                            clear hr64 hC64 hroom64 hi064 hsz64
                            have KY64 := Aside0.mk hy64
                            clear hy64
                            have KL64 := Aside0.mk (show ((ji57) : Int).toNat ≤ x7_1.length from by omega)
                            replace q64 := eq_true q64
                            refine start_ (n := 13) (S := fun w' => w'.cell? ⟨gb443, 0, none⟩ = some (.slice Ao9 t439.length co9)) (ds := []) #[false, false, false, false, false, false, false, false, false, false, false, false, false] (by kernel_rfl) rfl rfl ((blk_cell BK443.out 0).trans rfl) (fun hHeld => ?_); refine with_tabW trustquorumlaw09_ClosureOrders.tab22 trustquorumlaw09_ClosureOrders.bits22 (fun HT_ HW_ => ?_)
                            generalize wc.drew = w63 at HO_7 HO_444000 BK443 HB HR473 hHeld ⊢
                            refine pure_ (i := 1) (N := some 111) (v := ?_) (a' := ?_) #[false, true, false, false, false, false, false, false, false, false, false, false, false] rfl rfl (any_of HT_.out (by kernel_rfl)) (fun _ _ _ h => h) (Or.inl ⟨by rfl, ?_⟩) ?_ ?_
                            rotate_left
                            · intro w'
                              go_simp
                              with_reducible rfl
                            rotate_left
                            · simp only [Act.put, List.setIfInBounds_toArray, List.set_cons_zero, List.set_cons_succ, i64_w, i32_w]
                              rfl
                            refine pure_ (i := 2) (N := some 112) (v := ?_) (a' := ?_) #[false, true, true, false, false, false, false, false, false, false, false, false, false] rfl rfl (any_of HT_.out (by kernel_rfl)) (fun _ _ _ h => h) (Or.inl ⟨by rfl, ?_⟩) ?_ ?_
                            rotate_left
                            · intro w'
                              go_simp
                              with_reducible rfl
                            rotate_left
                            · simp only [Act.put, List.setIfInBounds_toArray, List.set_cons_zero, List.set_cons_succ, i64_w, i32_w]
                              rfl
                            refine pure_ (i := 3) (N := some 113) (v := ?_) (a' := ?_) #[false, true, true, true, false, false, false, false, false, false, false, false, false] rfl rfl (any_of HT_.out (by kernel_rfl)) (fun _ _ _ h => h) (Or.inl ⟨by rfl, ?_⟩) ?_ ?_
                            rotate_left
                            · intro w'
                              go_simp
                              with_reducible rfl
                            rotate_left
                            · simp only [Act.put, List.setIfInBounds_toArray, List.set_cons_zero, List.set_cons_succ, i64_w, i32_w]
                              rfl
                            refine pure_ (i := 4) (N := some 114) (v := ?_) (a' := ?_) #[false, true, true, true, true, false, false, false, false, false, false, false, false] rfl rfl (any_of HT_.out (by kernel_rfl)) (fun _ _ _ h => h) (Or.inl ⟨by rfl, ?_⟩) ?_ ?_
                            rotate_left
                            · intro w'
                              go_simp
                              with_reducible rfl
                            rotate_left
                            · simp only [Act.put, List.setIfInBounds_toArray, List.set_cons_zero, List.set_cons_succ, i64_w, i32_w]
                              rfl
                            refine pure_ (i := 5) (N := some 115) (v := ?_) (a' := ?_) #[false, true, true, true, true, true, false, false, false, false, false, false, false] rfl rfl (any_of HT_.out (by kernel_rfl)) (fun _ _ _ h => h) (Or.inl ⟨by rfl, ?_⟩) ?_ ?_
                            rotate_left
                            · intro w'
                              go_simp
                              with_reducible rfl
                            rotate_left
                            · simp only [Act.put, List.setIfInBounds_toArray, List.set_cons_zero, List.set_cons_succ, i64_w, i32_w]
                              rfl
                            refine pure_ (i := 6) (N := some 116) (v := ?_) (a' := ?_) #[false, true, true, true, true, true, true, false, false, false, false, false, false] rfl rfl (any_of HT_.out (by kernel_rfl)) (fun _ _ _ h => h) (Or.inl ⟨by rfl, ?_⟩) ?_ ?_
                            rotate_left
                            · intro w'
                              go_simp
                              with_reducible rfl
                            rotate_left
                            · simp only [Act.put, List.setIfInBounds_toArray, List.set_cons_zero, List.set_cons_succ, i64_w, i32_w]
                              rfl
                            refine take_ (i := 0) (N := some 110) (v := ?_) (a' := ?_) #[true, true, true, true, true, true, true, false, false, false, false, false, false] rfl rfl (take_ofW HT_.out HW_.out (by kernel_rfl)) (fun _ _ _ h => h) (Or.inl ⟨by rfl, ?_⟩) hHeld ?_ ?_
                            rotate_left
                            · intro w' s0
                              go_simp
                              with_reducible rfl
                            rotate_left
                            · simp only [Act.put, List.setIfInBounds_toArray, List.set_cons_zero, List.set_cons_succ, i64_w, i32_w]
                              rfl
                            refine one_ (i := 7) (N := some 117) #[true, true, true, true, true, true, true, true, false, false, false, false, false] rfl rfl (one_of HT_.out (by kernel_rfl)) (by decide) (fun K hK => ?_)
                            refine goes_ Try.func22 (by kernel_rfl) rfl #[.agg #[.slice Ao9 t439.length co9], .int .i64 t444, .slice Ao41 y470.length co41] (by rfl) rfl rfl (by (try simp only [List.map_toArray, List.map_cons, List.map_nil]); first | done | rfl | (simp only [List.length_drop, List.length_take]; rfl) | (simp only [List.length_nil, Int.natCast_zero, Int.zero_add, Int.ofNat_zero]; rfl)) ?_
                            with_reducible refine (closure_Check.calls kj36 _ _ t439 t444 _ _ y470 t474 t475 _ ?side1 ?side2 ?side3 ?side4 A60.out).mono ?_
                            (case side1 => repeat (first | exact (Kd.R_reads' HO_444000.out).2.2 | (with_reducible refine Kd.C_alloc ?_ _) | (with_reducible refine Kd.C_drewN ?_ _) | (with_reducible refine Kd.C_drew ?_)))
                            (case side2 => exact (Kd.R_reads' HO_444000.out).2.1)
                            (case side3 => repeat (first | exact (by repeat (first | (with_reducible exact HR473.out) | (with_reducible refine Kd.C_alloc ?_ _) | (with_reducible refine Kd.C_drewN ?_ _) | (with_reducible refine Kd.C_drew ?_) | exact HR473.out)) | (with_reducible refine Kd.C_alloc ?_ _) | (with_reducible refine Kd.C_drewN ?_ _) | (with_reducible refine Kd.C_drew ?_)))
                            (case side4 => exact HC473.out)
                            rintro e w65 ⟨rfl, hb⟩
                            refine ⟨_, rfl, ?_⟩
                            have n0_ := Aside0.mk (Kd.R_below (by (with_reducible repeat (first | apply Kd.R_alloc | apply Kd.R_drewN | apply Kd.R_drew)); exact HO_7.out) hb)
                            have n1_ := Aside0.mk (Kd.R_below (by (with_reducible repeat (first | apply Kd.R_alloc | apply Kd.R_drewN | apply Kd.R_drew)); exact HO_444000.out) hb)
                            have n2_ := Aside0.mk (blk_below (g := gb443) (o := .cells #[.slice Ao9 t439.length co9] 25 (0, 0)) (by (with_reducible repeat (first | refine blk_drewN ?_ _ | refine blk_drew ?_ | refine blk_alloc ?_ _)); exact BK443.out) hb)
                            have n3_ := Aside0.mk (Kd.C_below (by repeat (first | (with_reducible exact HR473.out) | (with_reducible refine Kd.C_alloc ?_ _) | (with_reducible refine Kd.C_drewN ?_ _) | (with_reducible refine Kd.C_drew ?_) | exact HR473.out)) hb)
                            have n4_ := Aside0.mk (below_step (by repeat (first | (with_reducible first | exact HB.out | apply below_alloc | apply pw_below_drewN | apply below_drew1 | refine below_set ?_ GE443.out) | exact HB.out)) hb)
                            clear HO_7
                            clear HO_444000
                            clear BK443
                            clear HR473
                            clear HB
                            have HO_7 := n0_
                            have HO_444000 := n1_
                            have BK443 := n2_
                            have HR473 := n3_
                            have HB := n4_
                            clear n0_ n1_ n2_ n3_ n4_
                            (try clear hb)
                            (try clear hb2)
                            (try clear hk)
                            (try clear hi)
                            refine hK.out _ _ ((blk_cell BK443.out 0).trans rfl) (fun hHeld => ?_)
                            clear hK K
                            refine norm_ (a' := ?_) ?_ ?_
                            rotate_left
                            · show Act.put _ (some 117) _ = _
                              simp only [Act.put, List.setIfInBounds_toArray, List.set_cons_zero, List.set_cons_succ, i64_w, i32_w]
                              rfl
                            refine pure_ (i := 8) (N := some 109) (v := ?_) (a' := ?_) #[true, true, true, true, true, true, true, true, true, false, false, false, false] rfl rfl (any_of HT_.out (by kernel_rfl)) (fun _ _ _ h => h) (Or.inl ⟨by rfl, ?_⟩) ?_ ?_
                            rotate_left
                            · intro w'
                              go_simp
                              with_reducible rfl
                            rotate_left
                            · simp only [Act.put, List.setIfInBounds_toArray, List.set_cons_zero, List.set_cons_succ, i64_w, i32_w]
                              rfl
                            refine pure_ (i := 9) (N := some 118) (v := ?_) (a' := ?_) #[true, true, true, true, true, true, true, true, true, true, false, false, false] rfl rfl (any_of HT_.out (by kernel_rfl)) (fun _ _ _ h => h) (Or.inl ⟨by rfl, ?_⟩) ?_ ?_
                            rotate_left
                            · intro w'
                              go_simp
                              with_reducible rfl
                            rotate_left
                            · simp only [Act.put, List.setIfInBounds_toArray, List.set_cons_zero, List.set_cons_succ, i64_w, i32_w]
                              rfl
                            refine pure_ (i := 10) (N := some 119) (v := ?_) (a' := ?_) #[true, true, true, true, true, true, true, true, true, true, true, false, false] rfl rfl (any_of HT_.out (by kernel_rfl)) (fun _ _ _ h => h) (Or.inl ⟨by rfl, ?_⟩) ?_ ?_
                            rotate_left
                            · intro w'
                              go_simp
                              with_reducible rfl
                            rotate_left
                            · simp only [Act.put, List.setIfInBounds_toArray, List.set_cons_zero, List.set_cons_succ, i64_w, i32_w]
                              rfl
                            refine pure_ (i := 11) (N := some 16) (v := ?_) (a' := ?_) #[true, true, true, true, true, true, true, true, true, true, true, true, false] rfl rfl (any_of HT_.out (by kernel_rfl)) (fun _ _ _ h => h) (Or.inl ⟨by rfl, ?_⟩) ?_ ?_
                            rotate_left
                            · intro w'
                              go_simp
                              with_reducible rfl
                            rotate_left
                            · simp only [Act.put, List.setIfInBounds_toArray, List.set_cons_zero, List.set_cons_succ, i64_w, i32_w]
                              rfl
                            refine pure_ (i := 12) (N := some 17) (v := ?_) (a' := ?_) #[true, true, true, true, true, true, true, true, true, true, true, true, true] rfl rfl (any_of HT_.out (by kernel_rfl)) (fun _ _ _ h => h) (Or.inl ⟨by rfl, ?_⟩) ?_ ?_
                            rotate_left
                            · intro w'
                              go_simp
                              with_reducible rfl
                            rotate_left
                            · simp only [Act.put, List.setIfInBounds_toArray, List.set_cons_zero, List.set_cons_succ, i64_w, i32_w]
                              rfl
                            refine done_ (done_of HT_.out (by kernel_rfl)) ?_
                            try go_wp2_with (first | ((with_reducible refine gate_callee (f := 9) rfl ?_); refine goesL_ (some 122) rfl rfl Try.func9 (by kernel_rfl) rfl #[] rfl (by (try simp only [List.map_toArray, List.map_cons, List.map_nil]); first | done | rfl | (simp only [List.length_drop, List.length_take]; rfl) | (simp only [List.length_nil, Int.natCast_zero, Int.zero_add, Int.ofNat_zero]; rfl)) ?_; (with_reducible refine (trustquorumlaw09_awake.calls kj36  t476 _ A62.out).mono ?_); rintro e w66 ⟨rfl, hb⟩; refine ⟨_, rfl, ?_⟩; have n0_ := Aside0.mk (Kd.R_below (by (with_reducible repeat (first | apply Kd.R_alloc | apply Kd.R_drewN | apply Kd.R_drew)); exact HO_7.out) hb); have n1_ := Aside0.mk (Kd.R_below (by (with_reducible repeat (first | apply Kd.R_alloc | apply Kd.R_drewN | apply Kd.R_drew)); exact HO_444000.out) hb); have n2_ := Aside0.mk (blk_below (g := gb443) (o := .cells #[.slice Ao9 t439.length co9] 25 (0, 0)) (by (with_reducible repeat (first | refine blk_drewN ?_ _ | refine blk_drew ?_ | refine blk_alloc ?_ _)); exact BK443.out) hb); have n3_ := Aside0.mk (Kd.C_below (by repeat (first | (with_reducible exact HR473.out) | (with_reducible refine Kd.C_alloc ?_ _) | (with_reducible refine Kd.C_drewN ?_ _) | (with_reducible refine Kd.C_drew ?_) | exact HR473.out)) hb); have n4_ := Aside0.mk (below_step (by repeat (first | (with_reducible first | exact HB.out | apply below_alloc | apply pw_below_drewN | apply below_drew1 | refine below_set ?_ GE443.out) | exact HB.out)) hb); clear HO_7; clear HO_444000; clear BK443; clear HR473; clear HB; have HO_7 := n0_; have HO_444000 := n1_; have BK443 := n2_; have HR473 := n3_; have HB := n4_; clear n0_ n1_ n2_ n3_ n4_; (try clear hb); (try clear hb2); (try clear hk); (try clear hi)))
                            go_ret
                            exact ⟨by first | rfl | (simp [errW_none, errW_some] <;> rfl) | (simp only [← hji57]; first | rfl | (simp [errW_none, errW_some] <;> rfl)) | (simp [*, errW_none, errW_some] <;> rfl), by repeat (first | (with_reducible first | exact HB.out | apply below_alloc | apply pw_below_drewN | apply below_drew1 | refine below_set ?_ GE443.out) | exact HB.out)⟩
                          · rw [if_neg c61] at H
                            have c61b0 : (t475 == 12) = false := beq_eq_false_iff_ne.mpr c61
                            have c61b1 : (t475 != 12) = true := bne_iff_ne.mpr c61
                            obtain rfl := Option.some.inj H
                            try go_wp2
                            have n0_ := Aside0.mk (Kd.R_drew HO_7.out)
                            have n1_ := Aside0.mk (Kd.R_drew HO_444000.out)
                            have n2_ := Aside0.mk (blk_drew BK443.out)
                            have n3_ := Aside0.mk (below_drew1 HB.out)
                            clear HO_7
                            clear HO_444000
                            clear BK443
                            clear HB
                            have HO_7 := n0_
                            have HO_444000 := n1_
                            have BK443 := n2_
                            have HB := n3_
                            clear n0_ n1_ n2_ n3_
                            have q68 : ((ji57) : Int) ≤ ((x7_1.length : Int) : Int) := of_decide_eq_true (by first | (with_reducible assumption) | assumption)
                            obtain ⟨i068, hi068, _, hsz68, _⟩ := info_parts info3
                            have hroom68 : x7_1.length ≤ co41 := (Kd.R_reads' HO_7.out).2.1
                            have hC68 : Kd.C (Kd.int .i64) _ Ao41 x7_1.length x7_1 := (Kd.R_reads' HO_7.out).2.2
                            have hcut68 := cut_to (P := Try.prog) 22 3 .i64 Try.underlying22 hi068 Ao41 x7_1.length co41 (ji57) (of_decide_eq_true (by first | (with_reducible assumption) | assumption)) q68 hroom68
                            have hr68 := Kd.C_take (m := ((ji57) : Int).toNat) hC68 (by omega)
                            have hy68 : y470.length = ((ji57) : Int).toNat := (by rw [Ny470.out, List.length_take]; omega)
                            rw [← Ny470.out] at hr68
                            rw [← hy68] at hcut68
                            have HR473 := Aside0.mk hr68
                            have HC473 := Aside0.mk (show y470.length ≤ co41 from by omega)
                            clear hr68 hC68 hroom68 hi068 hsz68
                            have KY68 := Aside0.mk hy68
                            clear hy68
                            have KL68 := Aside0.mk (show ((ji57) : Int).toNat ≤ x7_1.length from by omega)
                            replace q68 := eq_true q68
                            refine start_ (n := 13) (S := fun w' => w'.cell? ⟨gb443, 0, none⟩ = some (.slice Ao9 t439.length co9)) (ds := []) #[false, false, false, false, false, false, false, false, false, false, false, false, false] (by kernel_rfl) rfl rfl ((blk_cell BK443.out 0).trans rfl) (fun hHeld => ?_); refine with_tabW trustquorumlaw09_ClosureOrders.tab22 trustquorumlaw09_ClosureOrders.bits22 (fun HT_ HW_ => ?_)
                            generalize wc.drew = w67 at HO_7 HO_444000 BK443 HB HR473 hHeld ⊢
                            refine pure_ (i := 1) (N := some 111) (v := ?_) (a' := ?_) #[false, true, false, false, false, false, false, false, false, false, false, false, false] rfl rfl (any_of HT_.out (by kernel_rfl)) (fun _ _ _ h => h) (Or.inl ⟨by rfl, ?_⟩) ?_ ?_
                            rotate_left
                            · intro w'
                              go_simp
                              with_reducible rfl
                            rotate_left
                            · simp only [Act.put, List.setIfInBounds_toArray, List.set_cons_zero, List.set_cons_succ, i64_w, i32_w]
                              rfl
                            refine pure_ (i := 2) (N := some 112) (v := ?_) (a' := ?_) #[false, true, true, false, false, false, false, false, false, false, false, false, false] rfl rfl (any_of HT_.out (by kernel_rfl)) (fun _ _ _ h => h) (Or.inl ⟨by rfl, ?_⟩) ?_ ?_
                            rotate_left
                            · intro w'
                              go_simp
                              with_reducible rfl
                            rotate_left
                            · simp only [Act.put, List.setIfInBounds_toArray, List.set_cons_zero, List.set_cons_succ, i64_w, i32_w]
                              rfl
                            refine pure_ (i := 3) (N := some 113) (v := ?_) (a' := ?_) #[false, true, true, true, false, false, false, false, false, false, false, false, false] rfl rfl (any_of HT_.out (by kernel_rfl)) (fun _ _ _ h => h) (Or.inl ⟨by rfl, ?_⟩) ?_ ?_
                            rotate_left
                            · intro w'
                              go_simp
                              with_reducible rfl
                            rotate_left
                            · simp only [Act.put, List.setIfInBounds_toArray, List.set_cons_zero, List.set_cons_succ, i64_w, i32_w]
                              rfl
                            refine pure_ (i := 4) (N := some 114) (v := ?_) (a' := ?_) #[false, true, true, true, true, false, false, false, false, false, false, false, false] rfl rfl (any_of HT_.out (by kernel_rfl)) (fun _ _ _ h => h) (Or.inl ⟨by rfl, ?_⟩) ?_ ?_
                            rotate_left
                            · intro w'
                              go_simp
                              with_reducible rfl
                            rotate_left
                            · simp only [Act.put, List.setIfInBounds_toArray, List.set_cons_zero, List.set_cons_succ, i64_w, i32_w]
                              rfl
                            refine pure_ (i := 5) (N := some 115) (v := ?_) (a' := ?_) #[false, true, true, true, true, true, false, false, false, false, false, false, false] rfl rfl (any_of HT_.out (by kernel_rfl)) (fun _ _ _ h => h) (Or.inl ⟨by rfl, ?_⟩) ?_ ?_
                            rotate_left
                            · intro w'
                              go_simp
                              with_reducible rfl
                            rotate_left
                            · simp only [Act.put, List.setIfInBounds_toArray, List.set_cons_zero, List.set_cons_succ, i64_w, i32_w]
                              rfl
                            refine pure_ (i := 6) (N := some 116) (v := ?_) (a' := ?_) #[false, true, true, true, true, true, true, false, false, false, false, false, false] rfl rfl (any_of HT_.out (by kernel_rfl)) (fun _ _ _ h => h) (Or.inl ⟨by rfl, ?_⟩) ?_ ?_
                            rotate_left
                            · intro w'
                              go_simp
                              with_reducible rfl
                            rotate_left
                            · simp only [Act.put, List.setIfInBounds_toArray, List.set_cons_zero, List.set_cons_succ, i64_w, i32_w]
                              rfl
                            refine take_ (i := 0) (N := some 110) (v := ?_) (a' := ?_) #[true, true, true, true, true, true, true, false, false, false, false, false, false] rfl rfl (take_ofW HT_.out HW_.out (by kernel_rfl)) (fun _ _ _ h => h) (Or.inl ⟨by rfl, ?_⟩) hHeld ?_ ?_
                            rotate_left
                            · intro w' s0
                              go_simp
                              with_reducible rfl
                            rotate_left
                            · simp only [Act.put, List.setIfInBounds_toArray, List.set_cons_zero, List.set_cons_succ, i64_w, i32_w]
                              rfl
                            refine one_ (i := 7) (N := some 117) #[true, true, true, true, true, true, true, true, false, false, false, false, false] rfl rfl (one_of HT_.out (by kernel_rfl)) (by decide) (fun K hK => ?_)
                            refine goes_ Try.func22 (by kernel_rfl) rfl #[.agg #[.slice Ao9 t439.length co9], .int .i64 t444, .slice Ao41 y470.length co41] (by rfl) rfl rfl (by (try simp only [List.map_toArray, List.map_cons, List.map_nil]); first | done | rfl | (simp only [List.length_drop, List.length_take]; rfl) | (simp only [List.length_nil, Int.natCast_zero, Int.zero_add, Int.ofNat_zero]; rfl)) ?_
                            with_reducible refine (closure_Check.calls kj36 _ _ t439 t444 _ _ y470 t474 t475 _ ?side1 ?side2 ?side3 ?side4 A60.out).mono ?_
                            (case side1 => repeat (first | exact (Kd.R_reads' HO_444000.out).2.2 | (with_reducible refine Kd.C_alloc ?_ _) | (with_reducible refine Kd.C_drewN ?_ _) | (with_reducible refine Kd.C_drew ?_)))
                            (case side2 => exact (Kd.R_reads' HO_444000.out).2.1)
                            (case side3 => repeat (first | exact (by repeat (first | (with_reducible exact HR473.out) | (with_reducible refine Kd.C_alloc ?_ _) | (with_reducible refine Kd.C_drewN ?_ _) | (with_reducible refine Kd.C_drew ?_) | exact HR473.out)) | (with_reducible refine Kd.C_alloc ?_ _) | (with_reducible refine Kd.C_drewN ?_ _) | (with_reducible refine Kd.C_drew ?_)))
                            (case side4 => exact HC473.out)
                            rintro e w69 ⟨rfl, hb⟩
                            refine ⟨_, rfl, ?_⟩
                            have n0_ := Aside0.mk (Kd.R_below (by (with_reducible repeat (first | apply Kd.R_alloc | apply Kd.R_drewN | apply Kd.R_drew)); exact HO_7.out) hb)
                            have n1_ := Aside0.mk (Kd.R_below (by (with_reducible repeat (first | apply Kd.R_alloc | apply Kd.R_drewN | apply Kd.R_drew)); exact HO_444000.out) hb)
                            have n2_ := Aside0.mk (blk_below (g := gb443) (o := .cells #[.slice Ao9 t439.length co9] 25 (0, 0)) (by (with_reducible repeat (first | refine blk_drewN ?_ _ | refine blk_drew ?_ | refine blk_alloc ?_ _)); exact BK443.out) hb)
                            have n3_ := Aside0.mk (Kd.C_below (by repeat (first | (with_reducible exact HR473.out) | (with_reducible refine Kd.C_alloc ?_ _) | (with_reducible refine Kd.C_drewN ?_ _) | (with_reducible refine Kd.C_drew ?_) | exact HR473.out)) hb)
                            have n4_ := Aside0.mk (below_step (by repeat (first | (with_reducible first | exact HB.out | apply below_alloc | apply pw_below_drewN | apply below_drew1 | refine below_set ?_ GE443.out) | exact HB.out)) hb)
                            clear HO_7
                            clear HO_444000
                            clear BK443
                            clear HR473
                            clear HB
                            have HO_7 := n0_
                            have HO_444000 := n1_
                            have BK443 := n2_
                            have HR473 := n3_
                            have HB := n4_
                            clear n0_ n1_ n2_ n3_ n4_
                            (try clear hb)
                            (try clear hb2)
                            (try clear hk)
                            (try clear hi)
                            refine hK.out _ _ ((blk_cell BK443.out 0).trans rfl) (fun hHeld => ?_)
                            clear hK K
                            refine norm_ (a' := ?_) ?_ ?_
                            rotate_left
                            · show Act.put _ (some 117) _ = _
                              simp only [Act.put, List.setIfInBounds_toArray, List.set_cons_zero, List.set_cons_succ, i64_w, i32_w]
                              rfl
                            refine pure_ (i := 8) (N := some 109) (v := ?_) (a' := ?_) #[true, true, true, true, true, true, true, true, true, false, false, false, false] rfl rfl (any_of HT_.out (by kernel_rfl)) (fun _ _ _ h => h) (Or.inl ⟨by rfl, ?_⟩) ?_ ?_
                            rotate_left
                            · intro w'
                              go_simp
                              with_reducible rfl
                            rotate_left
                            · simp only [Act.put, List.setIfInBounds_toArray, List.set_cons_zero, List.set_cons_succ, i64_w, i32_w]
                              rfl
                            refine pure_ (i := 9) (N := some 118) (v := ?_) (a' := ?_) #[true, true, true, true, true, true, true, true, true, true, false, false, false] rfl rfl (any_of HT_.out (by kernel_rfl)) (fun _ _ _ h => h) (Or.inl ⟨by rfl, ?_⟩) ?_ ?_
                            rotate_left
                            · intro w'
                              go_simp
                              with_reducible rfl
                            rotate_left
                            · simp only [Act.put, List.setIfInBounds_toArray, List.set_cons_zero, List.set_cons_succ, i64_w, i32_w]
                              rfl
                            refine pure_ (i := 10) (N := some 119) (v := ?_) (a' := ?_) #[true, true, true, true, true, true, true, true, true, true, true, false, false] rfl rfl (any_of HT_.out (by kernel_rfl)) (fun _ _ _ h => h) (Or.inl ⟨by rfl, ?_⟩) ?_ ?_
                            rotate_left
                            · intro w'
                              go_simp
                              with_reducible rfl
                            rotate_left
                            · simp only [Act.put, List.setIfInBounds_toArray, List.set_cons_zero, List.set_cons_succ, i64_w, i32_w]
                              rfl
                            refine pure_ (i := 11) (N := some 16) (v := ?_) (a' := ?_) #[true, true, true, true, true, true, true, true, true, true, true, true, false] rfl rfl (any_of HT_.out (by kernel_rfl)) (fun _ _ _ h => h) (Or.inl ⟨by rfl, ?_⟩) ?_ ?_
                            rotate_left
                            · intro w'
                              go_simp
                              with_reducible rfl
                            rotate_left
                            · simp only [Act.put, List.setIfInBounds_toArray, List.set_cons_zero, List.set_cons_succ, i64_w, i32_w]
                              rfl
                            refine pure_ (i := 12) (N := some 17) (v := ?_) (a' := ?_) #[true, true, true, true, true, true, true, true, true, true, true, true, true] rfl rfl (any_of HT_.out (by kernel_rfl)) (fun _ _ _ h => h) (Or.inl ⟨by rfl, ?_⟩) ?_ ?_
                            rotate_left
                            · intro w'
                              go_simp
                              with_reducible rfl
                            rotate_left
                            · simp only [Act.put, List.setIfInBounds_toArray, List.set_cons_zero, List.set_cons_succ, i64_w, i32_w]
                              rfl
                            refine done_ (done_of HT_.out (by kernel_rfl)) ?_
                            try go_wp2
                            go_ret
                            exact ⟨by first | rfl | (simp [errW_none, errW_some] <;> rfl) | (simp only [← hji57]; first | rfl | (simp [errW_none, errW_some] <;> rfl)) | (simp [*, errW_none, errW_some] <;> rfl), by repeat (first | (with_reducible first | exact HB.out | apply below_alloc | apply pw_below_drewN | apply below_drew1 | refine below_set ?_ GE443.out) | exact HB.out)⟩
                        · rw [if_neg c59] at H
                          exact absurd H (by simp)
                      · rw [if_neg c58] at H
                        exact absurd H (by simp)
                    · rw [if_neg c56] at H
                      have c56b0 : decide (0 < (x7_1.length : Int)) = false := decide_eq_false c56
                      have c56b1 : decide (0 < x7_1.length) = false := decide_eq_false (by omega)
                      clear c56
                      replace H := Option.bind_eq_some_iff.mp H
                      obtain ⟨t477, A700, H⟩ := H
                      replace H : (some t477) = some r := H
                      have A70 := Aside0.mk A700
                      clear A700
                      obtain rfl := Option.some.inj H
                      go_wp2_with (first | ((with_reducible refine gate_callee (f := 9) rfl ?_); refine goesL_ (some 122) rfl rfl Try.func9 (by kernel_rfl) rfl #[] rfl (by (try simp only [List.map_toArray, List.map_cons, List.map_nil]); first | done | rfl | (simp only [List.length_drop, List.length_take]; rfl) | (simp only [List.length_nil, Int.natCast_zero, Int.zero_add, Int.ofNat_zero]; rfl)) ?_; (with_reducible refine (trustquorumlaw09_awake.calls kj36  t477 _ A70.out).mono ?_); rintro e w71 ⟨rfl, hb⟩; refine ⟨_, rfl, ?_⟩; have n0_ := Aside0.mk (Kd.R_below (by (with_reducible repeat (first | apply Kd.R_alloc | apply Kd.R_drewN | apply Kd.R_drew)); exact HO_7.out) hb); have n1_ := Aside0.mk (Kd.R_below (by (with_reducible repeat (first | apply Kd.R_alloc | apply Kd.R_drewN | apply Kd.R_drew)); exact HO_444000.out) hb); have n2_ := Aside0.mk (blk_below (g := gb443) (o := .cells #[.slice Ao9 t439.length co9] 25 (0, 0)) (by (with_reducible repeat (first | refine blk_drewN ?_ _ | refine blk_drew ?_ | refine blk_alloc ?_ _)); exact BK443.out) hb); have n3_ := Aside0.mk (below_step (by repeat (first | (with_reducible first | exact HB.out | apply below_alloc | apply pw_below_drewN | apply below_drew1 | refine below_set ?_ GE443.out) | exact HB.out)) hb); clear HO_7; clear HO_444000; clear BK443; clear HB; have HO_7 := n0_; have HO_444000 := n1_; have BK443 := n2_; have HB := n3_; clear n0_ n1_ n2_ n3_; (try clear hb); (try clear hb2); (try clear hk); (try clear hi)))
                      go_ret
                      exact ⟨by first | rfl | (simp [errW_none, errW_some] <;> rfl) | (simp [*, errW_none, errW_some] <;> rfl), by repeat (first | (with_reducible first | exact HB.out | apply below_alloc | apply pw_below_drewN | apply below_drew1 | refine below_set ?_ GE443.out) | exact HB.out)⟩
            · rw [if_neg c33] at H
              have c33b0 : ((x8_2.length : Int) == 0) = false := beq_eq_false_iff_ne.mpr c33
              have c33b1 : ((x8_2.length : Int) != 0) = true := bne_iff_ne.mpr c33
              have c33b2 : ¬ (x8_2 = []) := fun h_ => c33 (by rw [h_]; rfl)
              replace H := Option.bind_eq_some_iff.mp H
              obtain ⟨⟨t456, t457⟩, A720, H⟩ := H
              replace H : (if 0 ≤ t456 then (if t456 < (x8_2.length : Int) then (if x7_1.length < 17592186044416 then (if 0 ≤ (rd x8_2 t456) then (trustquorumlaw09_ClosureOrders.l0 k2 t444 (wrap64 (x6_1 - (shl .i64 1 (rd x8_2 t456)))) (x7_1 ++ [rd x8_2 t456]) t436 t457 t439) else (none)) else (none)) else (none)) else (none)) = some r := H
              have A72 := Aside0.mk A720
              clear A720
              by_cases c73 : 0 ≤ t456
              · rw [if_pos c73] at H
                have c73b0 : decide (0 ≤ t456) = true := decide_eq_true c73
                clear c73
                by_cases c74 : t456 < (x8_2.length : Int)
                · rw [if_pos c74] at H
                  have c74b0 : decide (t456 < (x8_2.length : Int)) = true := decide_eq_true c74
                  clear c74
                  by_cases c75 : x7_1.length < 17592186044416
                  · rw [if_pos c75] at H
                    have LMc75 := Aside0.mk c75
                    clear c75
                    obtain ⟨y459, hy459⟩ : ∃ y_ : List Int, y_ = (x7_1 ++ [rd x8_2 t456]) := ⟨_, rfl⟩
                    replace H : (if 0 ≤ (rd x8_2 t456) then (trustquorumlaw09_ClosureOrders.l0 k2 t444 (wrap64 (x6_1 - (shl .i64 1 (rd x8_2 t456)))) y459 t436 t457 t439) else (none)) = some r := by first | (rw [hy459]; with_reducible exact H) | (have H2_ := (Option.bind_some _ _).symm.trans H; rw [hy459]; with_reducible exact H2_) | (have H2_ := (Option.bind_some _ _).symm.trans H; with_reducible exact H2_) | with_reducible exact H | (rw [hy459]; exact H) | exact H
                    have Ny459 := Aside0.mk hy459
                    clear hy459
                    by_cases c76 : 0 ≤ (rd x8_2 t456)
                    · rw [if_pos c76] at H
                      have c76b0 := eq_true c76
                      have c76b1 : decide (0 ≤ (rd x8_2 t456)) = true := decide_eq_true c76
                      clear c76
                      obtain ⟨ji77, hji77⟩ : ∃ j_ : Int, (shl .i64 1 (rd x8_2 t456)) = j_ := ⟨_, rfl⟩
                      replace H : (trustquorumlaw09_ClosureOrders.l0 k2 t444 (wrap64 (x6_1 - (ji77))) y459 t436 t457 t439) = some r := by first | (rw [hji77] at H; exact H) | (simp only [hji77] at H ⊢; exact H)
                      (try rw [hji77] at A72)
                      have hji77_ : (IntKind.i64.wrap (1 * 2 ^ min (rd x8_2 t456).toNat 64)) = ji77 := hji77
                      have hji77z : (rd x8_2 t456) ≤ 64 → (IntKind.i64.wrap (1 * 2 ^ (rd x8_2 t456).toNat)) = ji77 := shl_small hji77
                      have hji77u : (IntKind.i64.wrap (2 ^ min (rd x8_2 t456).toNat 64)) = ji77 := by have h_ := hji77_; rw [Int.one_mul] at h_; exact h_
                      have hji77v : (rd x8_2 t456) ≤ 64 → (IntKind.i64.wrap (2 ^ (rd x8_2 t456).toNat)) = ji77 := fun hle_ => by have h_ := hji77z hle_; rw [Int.one_mul] at h_; exact h_
                      have hji77y : (wrap64 (1 * 2 ^ min (rd x8_2 t456).toNat 64)) = ji77 := (i64_w _).symm.trans hji77_
                      have hji77x : (rd x8_2 t456) ≤ 64 → (wrap64 (1 * 2 ^ (rd x8_2 t456).toNat)) = ji77 := fun h_ => (i64_w _).symm.trans (hji77z h_)
                      have H' := Aside0.mk H
                      clear H
                      obtain ⟨Ao78, co78, eo78⟩ := Kd.R_slice HO_8.out
                      subst eo78
                      go_wp2_with (first | ((with_reducible refine gate_callee (f := 13) rfl ?_); refine goesL_ (some 56) rfl rfl Try.func13 (by kernel_rfl) rfl #[.pointer (some ⟨g438, 0, none⟩), .int .i64 (x8_2.length : Int)] rfl (by (try simp only [List.map_toArray, List.map_cons, List.map_nil]); first | done | rfl | (simp only [List.length_drop, List.length_take]; rfl) | (simp only [List.length_nil, Int.natCast_zero, Int.zero_add, Int.ofNat_zero]; rfl)) ?_; (with_reducible refine (trustquorummake_Tape_N.calls g438 t436 x439001_1 (x8_2.length : Int) t456 t457 w _ ?side1 ?side2 A72.out).mono ?_); (case side1 => repeat (first | (with_reducible first | exact HI438.out | apply IsS56.alloc | apply IsS56.drewN | apply IsS56.drew | apply IsS56.set_1 | refine IsS56.far ?_ NB438_443.out _) | exact HI438.out)); (case side2 => repeat (first | (with_reducible first | exact HB.out | apply below_alloc | apply pw_below_drewN | apply below_drew1 | refine below_set ?_ (IsS56.ge HI438.out) | refine below_set ?_ GE443.out) | exact HB.out)); rintro e w79 ⟨rfl, hi, hb, hk⟩; refine ⟨_, rfl, ?_⟩; have n0_ := Aside0.mk (Kd.R_mono (Kd.R_keep (IsS56.apart (show IsS56 w _ g438 t436 x439001_1 from by repeat (first | (with_reducible first | exact HI438.out | apply IsS56.alloc | apply IsS56.drewN | apply IsS56.drew | apply IsS56.set_1 | refine IsS56.far ?_ NB438_443.out _) | exact HI438.out)) (by (with_reducible repeat (first | apply Kd.R_alloc | apply Kd.R_drewN | apply Kd.R_drew)); exact HO_7.out) (by decide)) hk (fun _ h => h.2)) (fun _ h => h.1)); have n1_ := Aside0.mk (Kd.R_mono (Kd.R_keep (IsS56.apart (show IsS56 w _ g438 t436 x439001_1 from by repeat (first | (with_reducible first | exact HI438.out | apply IsS56.alloc | apply IsS56.drewN | apply IsS56.drew | apply IsS56.set_1 | refine IsS56.far ?_ NB438_443.out _) | exact HI438.out)) (by (with_reducible repeat (first | apply Kd.R_alloc | apply Kd.R_drewN | apply Kd.R_drew)); exact HO_8.out) (by decide)) hk (fun _ h => h.2)) (fun _ h => h.1)); have n2_ := Aside0.mk (Kd.R_mono (Kd.R_keep (IsS56.apart (show IsS56 w _ g438 t436 x439001_1 from by repeat (first | (with_reducible first | exact HI438.out | apply IsS56.alloc | apply IsS56.drewN | apply IsS56.drew | apply IsS56.set_1 | refine IsS56.far ?_ NB438_443.out _) | exact HI438.out)) (by (with_reducible repeat (first | apply Kd.R_alloc | apply Kd.R_drewN | apply Kd.R_drew)); exact HO_29.out) (by decide)) hk (fun _ h => h.2)) (fun _ h => h.1)); have n3_ := Aside0.mk (Kd.R_mono (Kd.R_keep (IsS56.apart (show IsS56 w _ g438 t436 x439001_1 from by repeat (first | (with_reducible first | exact HI438.out | apply IsS56.alloc | apply IsS56.drewN | apply IsS56.drew | apply IsS56.set_1 | refine IsS56.far ?_ NB438_443.out _) | exact HI438.out)) (by (with_reducible repeat (first | apply Kd.R_alloc | apply Kd.R_drewN | apply Kd.R_drew)); exact HO_444000.out) (by decide)) hk (fun _ h => h.2)) (fun _ h => h.1)); have n4_ := Aside0.mk (KeepBut.blk hk (g' := gb443) (o := .cells #[.slice Ao9 t439.length co9] 25 (0, 0)) (by (with_reducible repeat (first | refine blk_drewN ?_ _ | refine blk_drew ?_ | refine blk_alloc ?_ _)); exact BK443.out) NB443_438.out (by simp)); have n5_ := Aside0.mk (hb); have n6_ := Aside0.mk (hi); clear HO_7; clear HO_8; clear HO_29; clear HO_444000; clear BK443; clear HB; clear HI438; have HO_7 := n0_; have HO_8 := n1_; have HO_29 := n2_; have HO_444000 := n3_; have BK443 := n4_; have HB := n5_; have HI438 := n6_; clear n0_ n1_ n2_ n3_ n4_ n5_ n6_; (try clear hb); (try clear hb2); (try clear hk); (try clear hi); have p458 : 0 ≤ (t456 : Int) := of_decide_eq_true (by first | (with_reducible assumption) | assumption); have q458 : t456 < (x8_2.length : Int) := of_decide_eq_true (by first | (with_reducible assumption) | assumption); obtain ⟨ad458, e458, hx458_0⟩ := Kd.at_int (Kd.R_reads' HO_8.out).2.2 t456 p458 q458; cases e458; replace p458 := eq_true p458; replace q458 := eq_true q458) | ((with_reducible refine gate_builtin (b := .append) (xs := #[.tmp 59, .tmp 61]) rfl ?_); at_builtin; refine Kd.R_append (Kd.int .i64) (w0 := w) w.heap.size rfl (.tmp 59) (.tmp 61) 22 3 (.int .i64 0) 8 rfl Try.underlying22 info3 rfl (by decide) (by omega) u7 x7_1 (rd x8_2 t456) [.int .i64 (rd x8_2 t456)] (fun k_ => some k_ ≠ (.slice (some ad458) x8_2.length co78 : Value).ownBlock ∧ some k_ ≠ (.slice Ao17 t447.length co17 : Value).ownBlock) (fun _ => False) rfl rfl ?aP (fun _ hk => hk.elim) ?aF ?aO ?aB ?aS ?aL ?_; (case aP => exact rfl); (case aB => exact (by repeat (first | (with_reducible first | exact HB.out | apply below_alloc | apply pw_below_drewN | apply below_drew1 | refine below_set ?_ (IsS56.ge HI438.out) | refine below_set ?_ GE443.out) | exact HB.out))); (case aF => exact (fun k_ hk => ⟨Kd.fresh' (Kd.R_lt (by (with_reducible repeat (first | apply Kd.R_alloc | apply Kd.R_drewN | apply Kd.R_drew)); exact HO_8.out)) k_ hk, Kd.fresh' (Kd.R_lt (by (with_reducible repeat (first | apply Kd.R_alloc | apply Kd.R_drewN | apply Kd.R_drew)); exact HO_29.out)) k_ hk⟩)); (case aO => exact (by (with_reducible repeat (first | apply Kd.R_alloc | apply Kd.R_drewN | apply Kd.R_drew)); exact HO_7.out)); (case aS => exact (below_size (by repeat (first | (with_reducible first | exact HB.out | apply below_alloc | apply pw_below_drewN | apply below_drew1 | refine below_set ?_ (IsS56.ge HI438.out) | refine below_set ?_ GE443.out) | exact HB.out)))); (case aL => have := LMc75.out; omega); intro v460 w80 ho hb hg hat; rw [← Ny459.out] at ho; have n0_ := Aside0.mk (Kd.R_after (ok := (fun k_ => some k_ ≠ (.slice Ao17 t447.length co17 : Value).ownBlock)) (by (with_reducible repeat (first | apply Kd.R_alloc | apply Kd.R_drewN | apply Kd.R_drew)); exact Kd.R_mono HO_8.out (fun _ hk => ⟨hk.2, hk.1⟩)) hg hat); have n1_ := Aside0.mk (Kd.R_after (ok := (fun k_ => some k_ ≠ (.slice (some ad458) x8_2.length co78 : Value).ownBlock)) (by (with_reducible repeat (first | apply Kd.R_alloc | apply Kd.R_drewN | apply Kd.R_drew)); exact Kd.R_mono HO_29.out (fun _ hk => ⟨hk.2, hk.1⟩)) hg hat); have n2_ := Aside0.mk (Kd.R_after (ok := (fun k_ => some k_ ≠ (.slice (some ad458) x8_2.length co78 : Value).ownBlock ∧ some k_ ≠ (.slice Ao17 t447.length co17 : Value).ownBlock)) (by (with_reducible repeat (first | apply Kd.R_alloc | apply Kd.R_drewN | apply Kd.R_drew)); exact Kd.R_mono HO_444000.out (fun _ hk => ⟨⟨hk.2.1, hk.2.2⟩, hk.1⟩)) hg hat); have n3_ := Aside0.mk (blk_grown (g := gb443) (o := .cells #[.slice Ao9 t439.length co9] 25 (0, 0)) (by (with_reducible repeat (first | refine blk_drewN ?_ _ | refine blk_drew ?_ | refine blk_alloc ?_ _)); exact BK443.out) hg (Kd.R_ne HO_7.out BK443.out (by decide))); have n4_ := Aside0.mk (IsS56.grown (by repeat (first | (with_reducible first | exact HI438.out | apply IsS56.alloc | apply IsS56.drewN | apply IsS56.drew | apply IsS56.set_1 | refine IsS56.far ?_ NB438_443.out _) | exact HI438.out)) hg (IsS56.own_ne HI438.out HO_7.out (by decide))); have n5_ := Aside0.mk (hb); have n6_ := Aside0.mk (ho); clear HO_8; clear HO_29; clear HO_444000; clear BK443; clear HI438; clear HB; clear HO_7; have HO_8 := n0_; have HO_29 := n1_; have HO_444000 := n2_; have BK443 := n3_; have HI438 := n4_; have HB := n5_; have HO461 := n6_; clear n0_ n1_ n2_ n3_ n4_ n5_ n6_; clear ho hb hg hat))
                      go_roundg k2
                      case measure => have := HK1.out; have := HK2.out; omega
                      case rel => exact ⟨(wrap64 (x6_1 - (ji77))), (y459), (t457), (by first | rfl | (simp; done) | (simp only [← hji77] <;> (first | rfl | simp)) | (simp [*]; done)), H', ⟨by have := HK1.out; have := HK2.out; omega⟩, ⟨by (with_reducible repeat (first | apply Kd.R_alloc | apply Kd.R_drewN | apply Kd.R_drew)); exact Kd.R_mono HO461.out (fun _ hk => trivial)⟩, ⟨by (with_reducible repeat (first | apply Kd.R_alloc | apply Kd.R_drewN | apply Kd.R_drew)); exact Kd.R_mono HO_444000.out (fun _ hk => hk.2)⟩, ⟨by (with_reducible repeat (first | refine blk_drewN ?_ _ | refine blk_drew ?_ | refine blk_alloc ?_ _)); exact BK443.out⟩, ⟨by repeat (first | (with_reducible first | exact HI438.out | apply IsS56.alloc | apply IsS56.drewN | apply IsS56.drew | apply IsS56.set_1 | refine IsS56.far ?_ NB438_443.out _) | exact HI438.out)⟩, ⟨by repeat (first | (with_reducible first | exact HB.out | apply below_alloc | apply pw_below_drewN | apply below_drew1 | refine below_set ?_ (IsS56.ge HI438.out) | refine below_set ?_ GE443.out) | exact HB.out)⟩⟩
                    · rw [if_neg c76] at H
                      exact absurd H (by simp)
                  · rw [if_neg c75] at H
                    exact absurd H (by simp)
                · rw [if_neg c74] at H
                  exact absurd H (by simp)
              · rw [if_neg c73] at H
                exact absurd H (by simp)
def trustquorumlaw09_ClosureOrders.Pure : Prop := ∀ (l0 : List Int), l0.length ≤ maxLen → l0.length * 8 ≤ 140737488351232 → (∀ x ∈ l0, (Lit.int .i64 x).wf = true) → ∃ k, trustquorumlaw09_ClosureOrders.f k l0 = some true
theorem trustquorumlaw09_ClosureOrders.walk (P : trustquorumlaw09_ClosureOrders.Pure) (a0 : Option Addr) (len0 cap0 : Nat) (z0 : List Int) (w : World) (w0 : (a0 = none ∧ len0 = 0 ∧ cap0 = 0 ∧ z0 = []) ∨ ∃ x, a0 = some x ∧ len0 ≤ cap0 ∧ cap0 ≤ maxLen ∧ z0.length = cap0 ∧ (∀ i, i < z0.length → w.cell? (x.add i) = some (.int .i64 (z0.getD i 0))) ∧ ∀ n ∈ z0, (Lit.int .i64 n).wf = true) (y0 : len0 * 8 ≤ 140737488351232) :
    Calls Try.prog 6 #[.slice a0 len0 cap0] w fun e w' => e = .returned (.bool true) ∧ Below w.heap.size w w' := by
  obtain ⟨l0, rfl, hr0, hm0, hw0, hc0⟩ := ReadsInt.ofRowC w0
  obtain ⟨k, h⟩ := P l0 hm0 y0 hw0
  refine (trustquorumlaw09_ClosureOrders.calls k _ _ l0 true w (Kd.C_of_reads (d := (0 : Int)) (h1 := fun _ => rfl) hr0) hc0 h).mono ?_
  rintro e w' ⟨rfl, hd⟩
  exact ⟨rfl, hd⟩
end Go.Proofs.Ytoofabolcbbjnaa.P
