/- Functions of the program as Lean functions, and the walks that show that the calls answer so; written by a program of this session (a changed print) and by hand. -/
import Derived.Test.YtoofabolcbbjnaaGPx0
import Derived.Test.YtoofabolcbbjnaaGPx2
import Derived.Test.YtoofabolcbbjnaaGPx3
import Derived.Test.YtoofabolcbbjnaaGPx8
namespace Go.Proofs.Ytoofabolcbbjnaa.P
open Go.RowKit Go.Proofs.YtoofabolcbbjnaaW.PrintWords Go.Proofs.YtoofabolcbbjnaaW.PrintLast Go.Proofs.YtoofabolcbbjnaaW.PrintMore
attribute [local go_sem] max2_int min2_int max_two min_two max_three min_three max_four min_four
set_option linter.unusedVariables false
set_option linter.unusedSimpArgs false
mutual
def trustquorumlaw09_ClosureGreatest.j0 : Nat → Int → Int → Bool → List (S51) → Option (Bool)
  | 0, _, _, _, _ => none
  | k + 1, x5, x6, x35, x392000 => if x35 = true then (some false) else (trustquorumlaw09_ClosureGreatest.l0 k x5 x6 0 x392000)
def trustquorumlaw09_ClosureGreatest.l0 : Nat → Int → Int → Int → List (S51) → Option (Bool)
  | 0, _, _, _, _ => none
  | k + 1, x5, x6, x7, x392000 => if x7 < (shl .i64 1 (x392000.length : Int)) then (if (Go.bits .and .i64 x7 x5) = x7 then ((closure_Quorum.f k x392000 x7).bind fun t396 => (if t396 = true then (if (Go.bits .and .i64 x7 x6) = x7 then (trustquorumlaw09_ClosureGreatest.l0 k x5 x6 (wrap64 (x7 + 1)) x392000) else (some false)) else (trustquorumlaw09_ClosureGreatest.l0 k x5 x6 (wrap64 (x7 + 1)) x392000))) else (trustquorumlaw09_ClosureGreatest.l0 k x5 x6 (wrap64 (x7 + 1)) x392000)) else ((trustquorumlaw09_awake.f k).bind fun t397 => (some t397))
end
def trustquorumlaw09_ClosureGreatest.f (k : Nat) (l0 : List Int) : Option (Bool) := (trustquorummake_New.f l0).bind fun bt384 => ((trustquorummake_Config.f k bt384.1 bt384.2 7).bind fun bt387 => ((trustquorummake_Tape_N.f bt384.1 bt387.2 (shl .i64 1 (bt387.1.length : Int))).bind fun bt392 => ((closure_Greatest.f k bt387.1 bt392.1).bind fun t394 => (if (Go.bits .and .i64 t394 bt392.1) = t394 then (if t394 = 0 then (trustquorumlaw09_ClosureGreatest.j0 k bt392.1 t394 false bt387.1) else ((closure_Quorum.f k bt387.1 t394).bind fun t395 => (trustquorumlaw09_ClosureGreatest.j0 k bt392.1 t394 (!t395) bt387.1))) else (trustquorumlaw09_ClosureGreatest.j0 k bt392.1 t394 true bt387.1)))))
set_option maxHeartbeats 8000000 in
set_option maxRecDepth 100000 in
theorem trustquorumlaw09_ClosureGreatest.calls (k : Nat) (A0 : Option Addr) (c0 : Nat) (l0 : List Int) (r : Bool) (w : World) (hr0 : Kd.C (Kd.int .i64) w A0 l0.length l0) (hc0 : l0.length ≤ c0) (h : trustquorumlaw09_ClosureGreatest.f k l0 = some r) :
    Calls Try.prog 4 #[.slice A0 l0.length c0] w fun e w' => e = .returned (.bool r) ∧ Below w.heap.size w w' := by
  have hu25 := Try.underlying25
  have HR0 := Aside0.mk hr0
  have HC0 := Aside0.mk hc0
  clear hr0 hc0
  have HB := Aside0.mk (Below.refl w.heap.size w)
  have H : ((trustquorummake_New.f l0).bind fun bt384 => ((trustquorummake_Config.f k bt384.1 bt384.2 7).bind fun bt387 => ((trustquorummake_Tape_N.f bt384.1 bt387.2 (shl .i64 1 (bt387.1.length : Int))).bind fun bt392 => ((closure_Greatest.f k bt387.1 bt392.1).bind fun t394 => (if (Go.bits .and .i64 t394 bt392.1) = t394 then (if t394 = 0 then (trustquorumlaw09_ClosureGreatest.j0 k bt392.1 t394 false bt387.1) else ((closure_Quorum.f k bt387.1 t394).bind fun t395 => (trustquorumlaw09_ClosureGreatest.j0 k bt392.1 t394 (!t395) bt387.1))) else (trustquorumlaw09_ClosureGreatest.j0 k bt392.1 t394 true bt387.1)))))) = some r := h
  clear h
  replace H := Option.bind_eq_some_iff.mp H
  obtain ⟨⟨t384, t385⟩, A20, H⟩ := H
  replace H : ((trustquorummake_Config.f k t384 t385 7).bind fun bt387 => ((trustquorummake_Tape_N.f t384 bt387.2 (shl .i64 1 (bt387.1.length : Int))).bind fun bt392 => ((closure_Greatest.f k bt387.1 bt392.1).bind fun t394 => (if (Go.bits .and .i64 t394 bt392.1) = t394 then (if t394 = 0 then (trustquorumlaw09_ClosureGreatest.j0 k bt392.1 t394 false bt387.1) else ((closure_Quorum.f k bt387.1 t394).bind fun t395 => (trustquorumlaw09_ClosureGreatest.j0 k bt392.1 t394 (!t395) bt387.1))) else (trustquorumlaw09_ClosureGreatest.j0 k bt392.1 t394 true bt387.1))))) = some r := H
  have A2 := Aside0.mk A20
  clear A20
  replace H := Option.bind_eq_some_iff.mp H
  obtain ⟨⟨t387, t390⟩, A30, H⟩ := H
  replace H : ((trustquorummake_Tape_N.f t384 t390 (shl .i64 1 (t387.length : Int))).bind fun bt392 => ((closure_Greatest.f k t387 bt392.1).bind fun t394 => (if (Go.bits .and .i64 t394 bt392.1) = t394 then (if t394 = 0 then (trustquorumlaw09_ClosureGreatest.j0 k bt392.1 t394 false t387) else ((closure_Quorum.f k t387 t394).bind fun t395 => (trustquorumlaw09_ClosureGreatest.j0 k bt392.1 t394 (!t395) t387))) else (trustquorumlaw09_ClosureGreatest.j0 k bt392.1 t394 true t387)))) = some r := H
  have A3 := Aside0.mk A30
  clear A30
  obtain ⟨ji4, hji4⟩ : ∃ j_ : Int, (shl .i64 1 (t387.length : Int)) = j_ := ⟨_, rfl⟩
  replace H : ((trustquorummake_Tape_N.f t384 t390 (ji4)).bind fun bt392 => ((closure_Greatest.f k t387 bt392.1).bind fun t394 => (if (Go.bits .and .i64 t394 bt392.1) = t394 then (if t394 = 0 then (trustquorumlaw09_ClosureGreatest.j0 k bt392.1 t394 false t387) else ((closure_Quorum.f k t387 t394).bind fun t395 => (trustquorumlaw09_ClosureGreatest.j0 k bt392.1 t394 (!t395) t387))) else (trustquorumlaw09_ClosureGreatest.j0 k bt392.1 t394 true t387)))) = some r := by first | (rw [hji4] at H; exact H) | (simp only [hji4] at H ⊢; exact H)
  (try rw [hji4] at A2)
  (try rw [hji4] at A3)
  have hji4_ : (IntKind.i64.wrap (1 * 2 ^ min (t387.length : Int).toNat 64)) = ji4 := hji4
  have hji4z : (t387.length : Int) ≤ 64 → (IntKind.i64.wrap (1 * 2 ^ (t387.length : Int).toNat)) = ji4 := shl_small hji4
  have hji4p : (IntKind.i64.wrap (1 * 2 ^ min t387.length 64)) = ji4 := hji4_
  have hji4q : (t387.length : Int) ≤ 64 → (IntKind.i64.wrap (1 * 2 ^ t387.length)) = ji4 := hji4z
  have hji4r : (IntKind.i64.wrap (2 ^ min t387.length 64)) = ji4 := by have h_ := hji4p; rw [Int.one_mul] at h_; exact h_
  have hji4s : (t387.length : Int) ≤ 64 → (IntKind.i64.wrap (2 ^ t387.length)) = ji4 := fun hle_ => by have h_ := hji4q hle_; rw [Int.one_mul] at h_; exact h_
  have hji4u : (IntKind.i64.wrap (2 ^ min (t387.length : Int).toNat 64)) = ji4 := by have h_ := hji4_; rw [Int.one_mul] at h_; exact h_
  have hji4v : (t387.length : Int) ≤ 64 → (IntKind.i64.wrap (2 ^ (t387.length : Int).toNat)) = ji4 := fun hle_ => by have h_ := hji4z hle_; rw [Int.one_mul] at h_; exact h_
  have hji4y : (wrap64 (1 * 2 ^ min (t387.length : Int).toNat 64)) = ji4 := (i64_w _).symm.trans hji4_
  have hji4x : (t387.length : Int) ≤ 64 → (wrap64 (1 * 2 ^ (t387.length : Int).toNat)) = ji4 := fun h_ => (i64_w _).symm.trans (hji4z h_)
  replace H := Option.bind_eq_some_iff.mp H
  obtain ⟨⟨t392, t393⟩, A50, H⟩ := H
  replace H : ((closure_Greatest.f k t387 t392).bind fun t394 => (if (Go.bits .and .i64 t394 t392) = t394 then (if t394 = 0 then (trustquorumlaw09_ClosureGreatest.j0 k t392 t394 false t387) else ((closure_Quorum.f k t387 t394).bind fun t395 => (trustquorumlaw09_ClosureGreatest.j0 k t392 t394 (!t395) t387))) else (trustquorumlaw09_ClosureGreatest.j0 k t392 t394 true t387))) = some r := H
  have A5 := Aside0.mk A50
  clear A50
  replace H := Option.bind_eq_some_iff.mp H
  obtain ⟨t394, A60, H⟩ := H
  replace H : (if (Go.bits .and .i64 t394 t392) = t394 then (if t394 = 0 then (trustquorumlaw09_ClosureGreatest.j0 k t392 t394 false t387) else ((closure_Quorum.f k t387 t394).bind fun t395 => (trustquorumlaw09_ClosureGreatest.j0 k t392 t394 (!t395) t387))) else (trustquorumlaw09_ClosureGreatest.j0 k t392 t394 true t387)) = some r := H
  have A6 := Aside0.mk A60
  clear A60
  have HC7 := Aside0.mk H
  clear H
  go_enter Try.func4, Try.ntmps4
  go_upto_region 5 with (first | ((with_reducible refine gate_callee (f := 10) rfl ?_); refine goesL_ (some 9) rfl rfl Try.func10 (by kernel_rfl) rfl #[.slice A0 l0.length c0] rfl (by (try simp only [List.map_toArray, List.map_cons, List.map_nil]); first | done | rfl | (simp only [List.length_drop, List.length_take]; rfl) | (simp only [List.length_nil, Int.natCast_zero, Int.zero_add, Int.ofNat_zero]; rfl)) ?_; (with_reducible refine (trustquorummake_New.calls _ _ l0 t384 t385 w _ ?side1 ?side2 ?side3 A2.out).mono ?_); (case side1 => repeat (first | (with_reducible first | exact HB.out | apply below_alloc | apply pw_below_drewN | apply below_drew1) | exact HB.out)); (case side2 => exact HR0.out); (case side3 => exact HC0.out); rintro e w8 ⟨g386, rfl, hi, hb, hb2⟩; refine ⟨_, rfl, ?_⟩; have n0_ := Aside0.mk (hb); have n1_ := Aside0.mk (hi); clear HB; have HB := n0_; have HI386 := n1_; clear n0_ n1_; (try clear hb); (try clear hb2); (try clear hk); (try clear hi)) | ((with_reducible refine gate_callee (f := 11) rfl ?_); refine goesL_ (some 11) rfl rfl Try.func11 (by kernel_rfl) rfl #[.pointer (some ⟨g386, 0, none⟩), .int .i64 7] rfl (by (try simp only [List.map_toArray, List.map_cons, List.map_nil]); first | done | rfl | (simp only [List.length_drop, List.length_take]; rfl) | (simp only [List.length_nil, Int.natCast_zero, Int.zero_add, Int.ofNat_zero]; rfl)) ?_; (with_reducible refine (trustquorummake_Config.calls k g386 t384 t385 7 t387 t390 w _ ?side1 ?side2 A3.out).mono ?_); (case side1 => repeat (first | (with_reducible first | exact HI386.out | apply IsS56.alloc | apply IsS56.drewN | apply IsS56.drew | apply IsS56.set_1) | exact HI386.out)); (case side2 => repeat (first | (with_reducible first | exact HB.out | apply below_alloc | apply pw_below_drewN | apply below_drew1 | refine below_set ?_ (IsS56.ge HI386.out)) | exact HB.out)); rintro e w9 ⟨v388, rfl, ho0, hi, hb, hk⟩; refine ⟨_, rfl, ?_⟩; have n0_ := Aside0.mk (Kd.R_lower ho0 (below_size (by repeat (first | (with_reducible first | exact HB.out | apply below_alloc | apply pw_below_drewN | apply below_drew1 | refine below_set ?_ (IsS56.ge HI386.out)) | exact HB.out)))); have n1_ := Aside0.mk (hb); have n2_ := Aside0.mk (hi); clear HB; clear HI386; have HO389 := n0_; have HB := n1_; have HI386 := n2_; clear n0_ n1_ n2_; (try clear hb); (try clear hb2); (try clear hk); (try clear hi); (try clear ho0)) | ((with_reducible refine gate_dst (N := 4) rfl ?_); refine box_event ?hg (N := 4) ?hd (cs := #[.slice none 0 0]) (t := 25) ?hr ?_; (case hd => rfl); (case hg => rfl); (case hr => first | (go_simp; done) | (go_simp; rfl)); intro gb391 hg w10 hbox hb; have n0_ := Aside0.mk (Kd.R_below (by (with_reducible repeat (first | apply Kd.R_alloc | apply Kd.R_drewN | apply Kd.R_drew)); exact HO389.out) hb); have n1_ := Aside0.mk (IsS56.below (by repeat (first | (with_reducible first | exact HI386.out | apply IsS56.alloc | apply IsS56.drewN | apply IsS56.drew | apply IsS56.set_1) | exact HI386.out)) hb); have n2_ := Aside0.mk (below_step (by repeat (first | (with_reducible first | exact HB.out | apply below_alloc | apply pw_below_drewN | apply below_drew1 | refine below_set ?_ (IsS56.ge HI386.out)) | exact HB.out)) hb); have n3_ := Aside0.mk (hbox); have n4_ := Aside0.mk ((by rw [hg]; exact (below_size (by repeat (first | (with_reducible first | exact HB.out | apply below_alloc | apply pw_below_drewN | apply below_drew1 | refine below_set ?_ (IsS56.ge HI386.out)) | exact HB.out))) : w.heap.size ≤ gb391)); have n5_ := Aside0.mk ((by rw [hg]; exact (below_size (by repeat (first | (with_reducible first | exact HB.out | apply below_alloc | apply pw_below_drewN | apply below_drew1 | refine below_set ?_ (IsS56.ge HI386.out)) | exact HB.out))) : w.heap.size ≤ gb391)); have n6_ := Aside0.mk ((by rw [hg]; exact Nat.ne_of_lt (IsS56.lt (show IsS56 w _ g386 t384 t390 from by repeat (first | (with_reducible first | exact HI386.out | apply IsS56.alloc | apply IsS56.drewN | apply IsS56.drew | apply IsS56.set_1) | exact HI386.out))) : g386 ≠ gb391)); have n7_ := Aside0.mk ((by rw [hg]; exact Nat.ne_of_gt (IsS56.lt (show IsS56 w _ g386 t384 t390 from by repeat (first | (with_reducible first | exact HI386.out | apply IsS56.alloc | apply IsS56.drewN | apply IsS56.drew | apply IsS56.set_1) | exact HI386.out))) : gb391 ≠ g386)); clear HO389; clear HI386; clear HB; have HO389 := n0_; have HI386 := n1_; have HB := n2_; have BK391 := n3_; have GW391 := n4_; have GE391 := n5_; have NB386_391 := n6_; have NB391_386 := n7_; clear n0_ n1_ n2_ n3_ n4_ n5_ n6_ n7_; clear hb hbox hg; obtain ⟨Ao11, co11, eo11⟩ := Kd.R_slice HO389.out; subst eo11; have hnb12 := NB391_386.out; have hnc12 := NB386_391.out; have hcz13_0 : w10.cell? ⟨gb391, 0, none⟩ = some (.slice none 0 0) := (blk_cell BK391.out 0).trans rfl; have hfz13_0 := blk_frozen BK391.out 0) | ((with_reducible refine gate_callee (f := 13) rfl ?_); refine goesL_ (some 17) rfl rfl Try.func13 (by kernel_rfl) rfl #[.pointer (some ⟨g386, 0, none⟩), .int .i64 ji4] rfl (by (try simp only [List.map_toArray, List.map_cons, List.map_nil]); first | done | (simp only [hji4]; rfl) | rfl | (simp only [List.length_drop, List.length_take]; rfl)) ?_; (with_reducible refine (trustquorummake_Tape_N.calls g386 t384 t390 ji4 t392 t393 w _ ?side1 ?side2 A5.out).mono ?_); (case side1 => repeat (first | (with_reducible first | exact HI386.out | apply IsS56.alloc | apply IsS56.drewN | apply IsS56.drew | apply IsS56.set_1 | refine IsS56.far ?_ NB386_391.out _) | exact HI386.out)); (case side2 => repeat (first | (with_reducible first | exact HB.out | apply below_alloc | apply pw_below_drewN | apply below_drew1 | refine below_set ?_ (IsS56.ge HI386.out) | refine below_set ?_ GE391.out) | exact HB.out)); rintro e w14 ⟨rfl, hi, hb, hk⟩; refine ⟨_, rfl, ?_⟩; have n0_ := Aside0.mk (Kd.R_mono (Kd.R_keep (IsS56.apart (show IsS56 w _ g386 t384 t390 from by repeat (first | (with_reducible first | exact HI386.out | apply IsS56.alloc | apply IsS56.drewN | apply IsS56.drew | apply IsS56.set_1 | refine IsS56.far ?_ NB386_391.out _) | exact HI386.out)) (by (with_reducible repeat (first | apply Kd.R_alloc | apply Kd.R_drewN | apply Kd.R_drew)); exact (Kd.R_mono (Kd.R_far (p := ⟨gb391, 0, none⟩) (Kd.R_types HO389.out BK391.out (by decide)) (fun _ hk => hk.2) (.slice Ao11 t387.length co11)) (fun _ h_ => h_.1))) (by decide)) hk (fun _ h => h.2)) (fun _ h => h.1)); have n1_ := Aside0.mk (KeepBut.blk hk (g' := gb391) (o := .cells #[.slice Ao11 t387.length co11] 25 (0, 0)) (by (with_reducible repeat (first | refine blk_drewN ?_ _ | refine blk_drew ?_ | refine blk_alloc ?_ _)); refine blk_put (cs := #[.slice none 0 0]) ?_ 0 _ rfl; (with_reducible repeat (first | refine blk_drewN ?_ _ | refine blk_drew ?_ | refine blk_alloc ?_ _)); exact BK391.out) NB391_386.out (by simp)); have n2_ := Aside0.mk (hb); have n3_ := Aside0.mk (hi); clear HO389; clear BK391; clear HB; clear HI386; have HO389 := n0_; have BK391 := n1_; have HB := n2_; have HI386 := n3_; clear n0_ n1_ n2_ n3_; (try clear hb); (try clear hb2); (try clear hk); (try clear hi); have hcz15_0 : w14.cell? ⟨gb391, 0, none⟩ = some (.slice Ao11 t387.length co11) := (blk_cell BK391.out 0).trans rfl; have hfz15_0 := blk_frozen BK391.out 0) | ((with_reducible refine gate_callee (f := 17) rfl ?_); refine goesL_ (some 20) rfl rfl Try.func17 (by kernel_rfl) rfl #[.agg #[.slice Ao11 t387.length co11], .int .i64 t392] rfl (by (try simp only [List.map_toArray, List.map_cons, List.map_nil]); first | done | rfl | (simp only [List.length_drop, List.length_take]; rfl) | (simp only [List.length_nil, Int.natCast_zero, Int.zero_add, Int.ofNat_zero]; rfl)) ?_; (with_reducible refine (closure_Greatest.calls k _ _ t387 t392 t394 _ ?side1 ?side2 A6.out).mono ?_); (case side1 => repeat (first | exact (Kd.R_reads' HO389.out).2.2 | (with_reducible refine Kd.C_alloc ?_ _) | (with_reducible refine Kd.C_drewN ?_ _) | (with_reducible refine Kd.C_drew ?_))); (case side2 => exact (Kd.R_reads' HO389.out).2.1); rintro e w16 ⟨rfl, hb⟩; refine ⟨_, rfl, ?_⟩; have n0_ := Aside0.mk (Kd.R_below (by (with_reducible repeat (first | apply Kd.R_alloc | apply Kd.R_drewN | apply Kd.R_drew)); exact HO389.out) hb); have n1_ := Aside0.mk (IsS56.below (by repeat (first | (with_reducible first | exact HI386.out | apply IsS56.alloc | apply IsS56.drewN | apply IsS56.drew | apply IsS56.set_1 | refine IsS56.far ?_ NB386_391.out _) | exact HI386.out)) hb); have n2_ := Aside0.mk (blk_below (g := gb391) (o := .cells #[.slice Ao11 t387.length co11] 25 (0, 0)) (by (with_reducible repeat (first | refine blk_drewN ?_ _ | refine blk_drew ?_ | refine blk_alloc ?_ _)); exact BK391.out) hb); have n3_ := Aside0.mk (below_step (by repeat (first | (with_reducible first | exact HB.out | apply below_alloc | apply pw_below_drewN | apply below_drew1 | refine below_set ?_ (IsS56.ge HI386.out) | refine below_set ?_ GE391.out) | exact HB.out)) hb); clear HO389; clear HI386; clear BK391; clear HB; have HO389 := n0_; have HI386 := n1_; have BK391 := n2_; have HB := n3_; clear n0_ n1_ n2_ n3_; (try clear hb); (try clear hb2); (try clear hk); (try clear hi)))
  (try simp only [Act.put, List.setIfInBounds_toArray, List.set_cons_zero, List.set_cons_succ])
  go_cut [35] (fun v35 wc => ∃ (kq : Nat) (x35_6 : Bool), v35 = .bool x35_6 ∧ Aside0 (trustquorumlaw09_ClosureGreatest.j0 kq t392 t394 x35_6 t387 = some r) ∧ Aside0 (kq ≤ k) ∧ Aside0 (Kd.R k51 51 wc w.heap.size (fun _ => True) (.slice Ao11 t387.length co11) t387) ∧ Aside0 (wc.heap[gb391]? = some (.cells #[(.slice Ao11 t387.length co11)] 25 (0, 0))) ∧ Aside0 (Below w.heap.size w wc))
  case first =>
    have H := HC7.out
    clear HC7
    by_cases c17 : (Go.bits .and .i64 t394 t392) = t394
    · rw [if_pos c17] at H
      have c17b0 : ((Go.bits .and .i64 t394 t392) == t394) = true := beq_iff_eq.mpr c17
      have c17b1 : ((Go.bits .and .i64 t394 t392) != t394) = false := bne_eq_false_iff_eq.mpr c17
      clear c17
      (first | rw [c17b0] | (simp only [i64_w, i32_w]; rw [c17b0]) | skip)
      by_cases c18 : t394 = 0
      · rw [if_pos c18] at H
        have c18b0 : (t394 == 0) = true := beq_iff_eq.mpr c18
        have c18b1 : (t394 != 0) = false := bne_eq_false_iff_eq.mpr c18
        clear c18
        have H' := Aside0.mk H
        clear H
        go_wp2
        go_meet
        case rel => exact ⟨_, (false), (by first | rfl | (simp; done) | (simp [*]; done)), H', ⟨by first | omega | exact Nat.le_refl _⟩, ⟨by (with_reducible repeat (first | apply Kd.R_alloc | apply Kd.R_drewN | apply Kd.R_drew)); exact HO389.out⟩, ⟨by (with_reducible repeat (first | refine blk_drewN ?_ _ | refine blk_drew ?_ | refine blk_alloc ?_ _)); exact BK391.out⟩, ⟨by repeat (first | (with_reducible first | exact HB.out | apply below_alloc | apply pw_below_drewN | apply below_drew1 | refine below_set ?_ (IsS56.ge HI386.out) | refine below_set ?_ GE391.out) | exact HB.out)⟩⟩
      · rw [if_neg c18] at H
        have c18b0 : (t394 == 0) = false := beq_eq_false_iff_ne.mpr c18
        have c18b1 : (t394 != 0) = true := bne_iff_ne.mpr c18
        replace H := Option.bind_eq_some_iff.mp H
        obtain ⟨t395, A190, H⟩ := H
        replace H : (trustquorumlaw09_ClosureGreatest.j0 k t392 t394 (!t395) t387) = some r := H
        have A19 := Aside0.mk A190
        clear A190
        have H' := Aside0.mk H
        clear H
        have hnb20 := NB391_386.out
        have hnc20 := NB386_391.out
        have hcz21_0 : w16.cell? ⟨gb391, 0, none⟩ = some (.slice Ao11 t387.length co11) := (blk_cell BK391.out 0).trans rfl
        have hfz21_0 := blk_frozen BK391.out 0
        go_wp2_with (first | (go_at_call 15; (with_reducible refine (closure_Quorum.calls k _ _ t387 t394 t395 _ ?side1 ?side2 A19.out).mono ?_); (case side1 => repeat (first | exact (Kd.R_reads' HO389.out).2.2 | (with_reducible refine Kd.C_alloc ?_ _) | (with_reducible refine Kd.C_drewN ?_ _) | (with_reducible refine Kd.C_drew ?_))); (case side2 => exact (Kd.R_reads' HO389.out).2.1); rintro e w22 ⟨rfl, hb⟩; have n0_ := Aside0.mk (Kd.R_below (by (with_reducible repeat (first | apply Kd.R_alloc | apply Kd.R_drewN | apply Kd.R_drew)); exact HO389.out) hb); have n1_ := Aside0.mk (IsS56.below (by repeat (first | (with_reducible first | exact HI386.out | apply IsS56.alloc | apply IsS56.drewN | apply IsS56.drew | apply IsS56.set_1 | refine IsS56.far ?_ NB386_391.out _) | exact HI386.out)) hb); have n2_ := Aside0.mk (blk_below (g := gb391) (o := .cells #[.slice Ao11 t387.length co11] 25 (0, 0)) (by (with_reducible repeat (first | refine blk_drewN ?_ _ | refine blk_drew ?_ | refine blk_alloc ?_ _)); exact BK391.out) hb); have n3_ := Aside0.mk (below_step (by repeat (first | (with_reducible first | exact HB.out | apply below_alloc | apply pw_below_drewN | apply below_drew1 | refine below_set ?_ (IsS56.ge HI386.out) | refine below_set ?_ GE391.out) | exact HB.out)) hb); clear HO389; clear HI386; clear BK391; clear HB; have HO389 := n0_; have HI386 := n1_; have BK391 := n2_; have HB := n3_; clear n0_ n1_ n2_ n3_; (try clear hb); (try clear hb2); (try clear hk); (try clear hi)))
        go_meet
        case rel => exact ⟨_, (!t395), (by first | rfl | (simp; done) | (simp [*]; done)), H', ⟨by first | omega | exact Nat.le_refl _⟩, ⟨by (with_reducible repeat (first | apply Kd.R_alloc | apply Kd.R_drewN | apply Kd.R_drew)); exact HO389.out⟩, ⟨by (with_reducible repeat (first | refine blk_drewN ?_ _ | refine blk_drew ?_ | refine blk_alloc ?_ _)); exact BK391.out⟩, ⟨by repeat (first | (with_reducible first | exact HB.out | apply below_alloc | apply pw_below_drewN | apply below_drew1 | refine below_set ?_ (IsS56.ge HI386.out) | refine below_set ?_ GE391.out) | exact HB.out)⟩⟩
    · rw [if_neg c17] at H
      have c17b0 : ((Go.bits .and .i64 t394 t392) == t394) = false := beq_eq_false_iff_ne.mpr c17
      have c17b1 : ((Go.bits .and .i64 t394 t392) != t394) = true := bne_iff_ne.mpr c17
      (first | rw [c17b0] | (simp only [i64_w, i32_w]; rw [c17b0]) | skip)
      have H' := Aside0.mk H
      clear H
      go_wp2
      go_meet
      case rel => exact ⟨_, (true), (by first | rfl | (simp; done) | (simp [*]; done)), H', ⟨by first | omega | exact Nat.le_refl _⟩, ⟨by (with_reducible repeat (first | apply Kd.R_alloc | apply Kd.R_drewN | apply Kd.R_drew)); exact HO389.out⟩, ⟨by (with_reducible repeat (first | refine blk_drewN ?_ _ | refine blk_drew ?_ | refine blk_alloc ?_ _)); exact BK391.out⟩, ⟨by repeat (first | (with_reducible first | exact HB.out | apply below_alloc | apply pw_below_drewN | apply below_drew1 | refine below_set ?_ (IsS56.ge HI386.out) | refine below_set ?_ GE391.out) | exact HB.out)⟩⟩
  case rest =>
    clear HC7
    try clear c1
    try clear c2
    try clear p2
    try clear c4
    try clear p6
    try clear c10
    try clear c11
    try clear c12
    try clear c13
    try clear c17
    try clear c17b0
    try clear c17b1
    try clear c18
    try clear c18b0
    try clear c18b1
    try clear c20
    try clear hcz13_0
    try clear hcz15_0
    try clear hcz21_0
    try clear hfz13_0
    try clear hfz15_0
    try clear hfz21_0
    obtain ⟨kq, x35_6, rfl, HA, HJ6, HO_392000, BK391, HB⟩ := hcut
    cases kq with
    | zero => exact absurd HA.out (by simp [trustquorumlaw09_ClosureGreatest.j0])
    | succ kj6 =>
      have H := HA.out
      clear HA
      simp only [trustquorumlaw09_ClosureGreatest.j0] at H
      by_cases c23 : x35_6 = true
      · subst c23
        have H1 : (some false) = some r := by rw [if_pos rfl] at H; exact H
        clear H
        have H := H1
        clear H1
        obtain rfl := Option.some.inj H
        go_wp2
        go_ret
        exact ⟨by first | rfl | (simp [errW_none, errW_some] <;> rfl) | (simp only [← hji4]; first | rfl | (simp [errW_none, errW_some] <;> rfl)) | (simp [*, errW_none, errW_some] <;> rfl), by repeat (first | (with_reducible first | exact HB.out | apply below_alloc | apply pw_below_drewN | apply below_drew1 | refine below_set ?_ GE391.out) | exact HB.out)⟩
      · replace c23 := Bool.eq_false_iff.mpr c23
        subst c23
        have H1 : (trustquorumlaw09_ClosureGreatest.l0 kj6 t392 t394 0 t387) = some r := by rw [if_neg (show ¬ (false = true) by decide)] at H; exact H
        clear H
        have H := H1
        clear H1
        have H' := Aside0.mk H
        clear H
        go_wp2
        go_loopg [7] kj6 (fun kq v7 w' => ∃ (x7_2 : Int), v7 = .int .i64 x7_2 ∧ Aside0 (trustquorumlaw09_ClosureGreatest.l0 kq t392 t394 x7_2 t387 = some r) ∧ Aside0 (kq ≤ kj6) ∧ Aside0 (Kd.R k51 51 w' w.heap.size (fun _ => True) (.slice Ao11 t387.length co11) t387) ∧ Aside0 (w'.heap[gb391]? = some (.cells #[(.slice Ao11 t387.length co11)] 25 (0, 0))) ∧ Aside0 (Below w.heap.size w w'))
        case atStart => exact ⟨(0), (by first | rfl | (simp; done) | (simp [*]; done)), H', ⟨Nat.le_refl _⟩, ⟨by (with_reducible repeat (first | apply Kd.R_alloc | apply Kd.R_drewN | apply Kd.R_drew)); exact HO_392000.out⟩, ⟨by (with_reducible repeat (first | refine blk_drewN ?_ _ | refine blk_drew ?_ | refine blk_alloc ?_ _)); exact BK391.out⟩, ⟨by repeat (first | (with_reducible first | exact HB.out | apply below_alloc | apply pw_below_drewN | apply below_drew1 | refine below_set ?_ GE391.out) | exact HB.out)⟩⟩
        case round =>
          clear H'
          try clear c1
          try clear c2
          try clear p2
          try clear c4
          try clear p6
          try clear c10
          try clear c11
          try clear c12
          try clear c13
          try clear c17
          try clear c17b0
          try clear c17b1
          try clear c18
          try clear c18b0
          try clear c18b1
          try clear c20
          try clear c23
          try clear hcz13_0
          try clear hcz15_0
          try clear hcz21_0
          try clear hfz13_0
          try clear hfz15_0
          try clear hfz21_0
          try clear p2
          try clear p6
          obtain ⟨x7_2, rfl, HA, HK2, HO_392000, BK391, HB⟩ := hrel
          cases gk with
          | zero => exact absurd HA.out (by simp [trustquorumlaw09_ClosureGreatest.l0])
          | succ k2 =>
            have H := HA.out
            clear HA
            simp only [trustquorumlaw09_ClosureGreatest.l0] at H
            obtain ⟨ji24, hji24⟩ : ∃ j_ : Int, (shl .i64 1 (t387.length : Int)) = j_ := ⟨_, rfl⟩
            (try (have e_ := hji24.symm.trans hji4; subst e_))
            replace H : (if x7_2 < (ji24) then (if (Go.bits .and .i64 x7_2 t392) = x7_2 then ((closure_Quorum.f k2 t387 x7_2).bind fun t396 => (if t396 = true then (if (Go.bits .and .i64 x7_2 t394) = x7_2 then (trustquorumlaw09_ClosureGreatest.l0 k2 t392 t394 (wrap64 (x7_2 + 1)) t387) else (some false)) else (trustquorumlaw09_ClosureGreatest.l0 k2 t392 t394 (wrap64 (x7_2 + 1)) t387))) else (trustquorumlaw09_ClosureGreatest.l0 k2 t392 t394 (wrap64 (x7_2 + 1)) t387)) else ((trustquorumlaw09_awake.f k2).bind fun t397 => (some t397))) = some r := by first | (rw [hji24] at H; exact H) | (simp only [hji24] at H ⊢; exact H)
            have hji24_ : (IntKind.i64.wrap (1 * 2 ^ min (t387.length : Int).toNat 64)) = ji24 := hji24
            have hji24z : (t387.length : Int) ≤ 64 → (IntKind.i64.wrap (1 * 2 ^ (t387.length : Int).toNat)) = ji24 := shl_small hji24
            have hji24p : (IntKind.i64.wrap (1 * 2 ^ min t387.length 64)) = ji24 := hji24_
            have hji24q : (t387.length : Int) ≤ 64 → (IntKind.i64.wrap (1 * 2 ^ t387.length)) = ji24 := hji24z
            have hji24r : (IntKind.i64.wrap (2 ^ min t387.length 64)) = ji24 := by have h_ := hji24p; rw [Int.one_mul] at h_; exact h_
            have hji24s : (t387.length : Int) ≤ 64 → (IntKind.i64.wrap (2 ^ t387.length)) = ji24 := fun hle_ => by have h_ := hji24q hle_; rw [Int.one_mul] at h_; exact h_
            have hji24u : (IntKind.i64.wrap (2 ^ min (t387.length : Int).toNat 64)) = ji24 := by have h_ := hji24_; rw [Int.one_mul] at h_; exact h_
            have hji24v : (t387.length : Int) ≤ 64 → (IntKind.i64.wrap (2 ^ (t387.length : Int).toNat)) = ji24 := fun hle_ => by have h_ := hji24z hle_; rw [Int.one_mul] at h_; exact h_
            have hji24y : (wrap64 (1 * 2 ^ min (t387.length : Int).toNat 64)) = ji24 := (i64_w _).symm.trans hji24_
            have hji24x : (t387.length : Int) ≤ 64 → (wrap64 (1 * 2 ^ (t387.length : Int).toNat)) = ji24 := fun h_ => (i64_w _).symm.trans (hji24z h_)
            by_cases c25 : x7_2 < (ji24)
            · rw [if_pos c25] at H
              have c25b0 : decide (x7_2 < (ji24)) = true := decide_eq_true c25
              clear c25
              by_cases c26 : (Go.bits .and .i64 x7_2 t392) = x7_2
              · rw [if_pos c26] at H
                have c26b0 : ((Go.bits .and .i64 x7_2 t392) == x7_2) = true := beq_iff_eq.mpr c26
                have c26b1 : ((Go.bits .and .i64 x7_2 t392) != x7_2) = false := bne_eq_false_iff_eq.mpr c26
                clear c26
                replace H := Option.bind_eq_some_iff.mp H
                obtain ⟨t396, A270, H⟩ := H
                replace H : (if t396 = true then (if (Go.bits .and .i64 x7_2 t394) = x7_2 then (trustquorumlaw09_ClosureGreatest.l0 k2 t392 t394 (wrap64 (x7_2 + 1)) t387) else (some false)) else (trustquorumlaw09_ClosureGreatest.l0 k2 t392 t394 (wrap64 (x7_2 + 1)) t387)) = some r := H
                have A27 := Aside0.mk A270
                clear A270
                by_cases c28 : t396 = true
                · subst c28
                  have H1 : (if (Go.bits .and .i64 x7_2 t394) = x7_2 then (trustquorumlaw09_ClosureGreatest.l0 k2 t392 t394 (wrap64 (x7_2 + 1)) t387) else (some false)) = some r := by rw [if_pos rfl] at H; exact H
                  clear H
                  have H := H1
                  clear H1
                  by_cases c29 : (Go.bits .and .i64 x7_2 t394) = x7_2
                  · rw [if_pos c29] at H
                    have c29b0 : ((Go.bits .and .i64 x7_2 t394) == x7_2) = true := beq_iff_eq.mpr c29
                    have c29b1 : ((Go.bits .and .i64 x7_2 t394) != x7_2) = false := bne_eq_false_iff_eq.mpr c29
                    clear c29
                    have H' := Aside0.mk H
                    clear H
                    have hcz30_0 : wr.cell? ⟨gb391, 0, none⟩ = some (.slice Ao11 t387.length co11) := (blk_cell BK391.out 0).trans rfl
                    have hfz30_0 := blk_frozen BK391.out 0
                    go_wp2_with (first | (go_at_call 15; (with_reducible refine (closure_Quorum.calls k2 _ _ t387 x7_2 true _ ?side1 ?side2 A27.out).mono ?_); (case side1 => repeat (first | exact (Kd.R_reads' HO_392000.out).2.2 | (with_reducible refine Kd.C_alloc ?_ _) | (with_reducible refine Kd.C_drewN ?_ _) | (with_reducible refine Kd.C_drew ?_))); (case side2 => exact (Kd.R_reads' HO_392000.out).2.1); rintro e w31 ⟨rfl, hb⟩; have n0_ := Aside0.mk (Kd.R_below (by (with_reducible repeat (first | apply Kd.R_alloc | apply Kd.R_drewN | apply Kd.R_drew)); exact HO_392000.out) hb); have n1_ := Aside0.mk (blk_below (g := gb391) (o := .cells #[.slice Ao11 t387.length co11] 25 (0, 0)) (by (with_reducible repeat (first | refine blk_drewN ?_ _ | refine blk_drew ?_ | refine blk_alloc ?_ _)); exact BK391.out) hb); have n2_ := Aside0.mk (below_step (by repeat (first | (with_reducible first | exact HB.out | apply below_alloc | apply pw_below_drewN | apply below_drew1 | refine below_set ?_ GE391.out) | exact HB.out)) hb); clear HO_392000; clear BK391; clear HB; have HO_392000 := n0_; have BK391 := n1_; have HB := n2_; clear n0_ n1_ n2_; (try clear hb); (try clear hb2); (try clear hk); (try clear hi)))
                    go_roundg k2
                    case measure => have := HJ6.out; have := HK2.out; omega
                    case rel => exact ⟨(wrap64 (x7_2 + 1)), (by first | rfl | (simp; done) | (simp [*]; done)), H', ⟨by have := HJ6.out; have := HK2.out; omega⟩, ⟨by (with_reducible repeat (first | apply Kd.R_alloc | apply Kd.R_drewN | apply Kd.R_drew)); exact HO_392000.out⟩, ⟨by (with_reducible repeat (first | refine blk_drewN ?_ _ | refine blk_drew ?_ | refine blk_alloc ?_ _)); exact BK391.out⟩, ⟨by repeat (first | (with_reducible first | exact HB.out | apply below_alloc | apply pw_below_drewN | apply below_drew1 | refine below_set ?_ GE391.out) | exact HB.out)⟩⟩
                  · rw [if_neg c29] at H
                    have c29b0 : ((Go.bits .and .i64 x7_2 t394) == x7_2) = false := beq_eq_false_iff_ne.mpr c29
                    have c29b1 : ((Go.bits .and .i64 x7_2 t394) != x7_2) = true := bne_iff_ne.mpr c29
                    obtain rfl := Option.some.inj H
                    have hcz32_0 : wr.cell? ⟨gb391, 0, none⟩ = some (.slice Ao11 t387.length co11) := (blk_cell BK391.out 0).trans rfl
                    have hfz32_0 := blk_frozen BK391.out 0
                    go_wp2_with (first | (go_at_call 15; (with_reducible refine (closure_Quorum.calls k2 _ _ t387 x7_2 true _ ?side1 ?side2 A27.out).mono ?_); (case side1 => repeat (first | exact (Kd.R_reads' HO_392000.out).2.2 | (with_reducible refine Kd.C_alloc ?_ _) | (with_reducible refine Kd.C_drewN ?_ _) | (with_reducible refine Kd.C_drew ?_))); (case side2 => exact (Kd.R_reads' HO_392000.out).2.1); rintro e w33 ⟨rfl, hb⟩; have n0_ := Aside0.mk (Kd.R_below (by (with_reducible repeat (first | apply Kd.R_alloc | apply Kd.R_drewN | apply Kd.R_drew)); exact HO_392000.out) hb); have n1_ := Aside0.mk (blk_below (g := gb391) (o := .cells #[.slice Ao11 t387.length co11] 25 (0, 0)) (by (with_reducible repeat (first | refine blk_drewN ?_ _ | refine blk_drew ?_ | refine blk_alloc ?_ _)); exact BK391.out) hb); have n2_ := Aside0.mk (below_step (by repeat (first | (with_reducible first | exact HB.out | apply below_alloc | apply pw_below_drewN | apply below_drew1 | refine below_set ?_ GE391.out) | exact HB.out)) hb); clear HO_392000; clear BK391; clear HB; have HO_392000 := n0_; have BK391 := n1_; have HB := n2_; clear n0_ n1_ n2_; (try clear hb); (try clear hb2); (try clear hk); (try clear hi)))
                    go_ret
                    exact ⟨by first | rfl | (simp [errW_none, errW_some] <;> rfl) | (simp only [← hji4, ← hji24]; first | rfl | (simp [errW_none, errW_some] <;> rfl)) | (simp [*, errW_none, errW_some] <;> rfl), by repeat (first | (with_reducible first | exact HB.out | apply below_alloc | apply pw_below_drewN | apply below_drew1 | refine below_set ?_ GE391.out) | exact HB.out)⟩
                · replace c28 := Bool.eq_false_iff.mpr c28
                  subst c28
                  have H1 : (trustquorumlaw09_ClosureGreatest.l0 k2 t392 t394 (wrap64 (x7_2 + 1)) t387) = some r := by rw [if_neg (show ¬ (false = true) by decide)] at H; exact H
                  clear H
                  have H := H1
                  clear H1
                  have H' := Aside0.mk H
                  clear H
                  have hcz34_0 : wr.cell? ⟨gb391, 0, none⟩ = some (.slice Ao11 t387.length co11) := (blk_cell BK391.out 0).trans rfl
                  have hfz34_0 := blk_frozen BK391.out 0
                  go_wp2_with (first | (go_at_call 15; (with_reducible refine (closure_Quorum.calls k2 _ _ t387 x7_2 false _ ?side1 ?side2 A27.out).mono ?_); (case side1 => repeat (first | exact (Kd.R_reads' HO_392000.out).2.2 | (with_reducible refine Kd.C_alloc ?_ _) | (with_reducible refine Kd.C_drewN ?_ _) | (with_reducible refine Kd.C_drew ?_))); (case side2 => exact (Kd.R_reads' HO_392000.out).2.1); rintro e w35 ⟨rfl, hb⟩; have n0_ := Aside0.mk (Kd.R_below (by (with_reducible repeat (first | apply Kd.R_alloc | apply Kd.R_drewN | apply Kd.R_drew)); exact HO_392000.out) hb); have n1_ := Aside0.mk (blk_below (g := gb391) (o := .cells #[.slice Ao11 t387.length co11] 25 (0, 0)) (by (with_reducible repeat (first | refine blk_drewN ?_ _ | refine blk_drew ?_ | refine blk_alloc ?_ _)); exact BK391.out) hb); have n2_ := Aside0.mk (below_step (by repeat (first | (with_reducible first | exact HB.out | apply below_alloc | apply pw_below_drewN | apply below_drew1 | refine below_set ?_ GE391.out) | exact HB.out)) hb); clear HO_392000; clear BK391; clear HB; have HO_392000 := n0_; have BK391 := n1_; have HB := n2_; clear n0_ n1_ n2_; (try clear hb); (try clear hb2); (try clear hk); (try clear hi)))
                  go_roundg k2
                  case measure => have := HJ6.out; have := HK2.out; omega
                  case rel => exact ⟨(wrap64 (x7_2 + 1)), (by first | rfl | (simp; done) | (simp [*]; done)), H', ⟨by have := HJ6.out; have := HK2.out; omega⟩, ⟨by (with_reducible repeat (first | apply Kd.R_alloc | apply Kd.R_drewN | apply Kd.R_drew)); exact HO_392000.out⟩, ⟨by (with_reducible repeat (first | refine blk_drewN ?_ _ | refine blk_drew ?_ | refine blk_alloc ?_ _)); exact BK391.out⟩, ⟨by repeat (first | (with_reducible first | exact HB.out | apply below_alloc | apply pw_below_drewN | apply below_drew1 | refine below_set ?_ GE391.out) | exact HB.out)⟩⟩
              · rw [if_neg c26] at H
                have c26b0 : ((Go.bits .and .i64 x7_2 t392) == x7_2) = false := beq_eq_false_iff_ne.mpr c26
                have c26b1 : ((Go.bits .and .i64 x7_2 t392) != x7_2) = true := bne_iff_ne.mpr c26
                have H' := Aside0.mk H
                clear H
                have hcz36_0 : wr.cell? ⟨gb391, 0, none⟩ = some (.slice Ao11 t387.length co11) := (blk_cell BK391.out 0).trans rfl
                have hfz36_0 := blk_frozen BK391.out 0
                go_wp2
                go_roundg k2
                case measure => have := HJ6.out; have := HK2.out; omega
                case rel => exact ⟨(wrap64 (x7_2 + 1)), (by first | rfl | (simp; done) | (simp [*]; done)), H', ⟨by have := HJ6.out; have := HK2.out; omega⟩, ⟨by (with_reducible repeat (first | apply Kd.R_alloc | apply Kd.R_drewN | apply Kd.R_drew)); exact HO_392000.out⟩, ⟨by (with_reducible repeat (first | refine blk_drewN ?_ _ | refine blk_drew ?_ | refine blk_alloc ?_ _)); exact BK391.out⟩, ⟨by repeat (first | (with_reducible first | exact HB.out | apply below_alloc | apply pw_below_drewN | apply below_drew1 | refine below_set ?_ GE391.out) | exact HB.out)⟩⟩
            · rw [if_neg c25] at H
              have c25b0 : decide (x7_2 < (ji24)) = false := decide_eq_false c25
              clear c25
              replace H := Option.bind_eq_some_iff.mp H
              obtain ⟨t397, A370, H⟩ := H
              replace H : (some t397) = some r := H
              have A37 := Aside0.mk A370
              clear A370
              obtain rfl := Option.some.inj H
              have hcz38_0 : wr.cell? ⟨gb391, 0, none⟩ = some (.slice Ao11 t387.length co11) := (blk_cell BK391.out 0).trans rfl
              have hfz38_0 := blk_frozen BK391.out 0
              go_wp2_with (first | ((with_reducible refine gate_callee (f := 9) rfl ?_); refine goesL_ (some 61) rfl rfl Try.func9 (by kernel_rfl) rfl #[] rfl (by (try simp only [List.map_toArray, List.map_cons, List.map_nil]); first | done | rfl | (simp only [List.length_drop, List.length_take]; rfl) | (simp only [List.length_nil, Int.natCast_zero, Int.zero_add, Int.ofNat_zero]; rfl)) ?_; (with_reducible refine (trustquorumlaw09_awake.calls k2  t397 _ A37.out).mono ?_); rintro e w39 ⟨rfl, hb⟩; refine ⟨_, rfl, ?_⟩; have n0_ := Aside0.mk (Kd.R_below (by (with_reducible repeat (first | apply Kd.R_alloc | apply Kd.R_drewN | apply Kd.R_drew)); exact HO_392000.out) hb); have n1_ := Aside0.mk (blk_below (g := gb391) (o := .cells #[.slice Ao11 t387.length co11] 25 (0, 0)) (by (with_reducible repeat (first | refine blk_drewN ?_ _ | refine blk_drew ?_ | refine blk_alloc ?_ _)); exact BK391.out) hb); have n2_ := Aside0.mk (below_step (by repeat (first | (with_reducible first | exact HB.out | apply below_alloc | apply pw_below_drewN | apply below_drew1 | refine below_set ?_ GE391.out) | exact HB.out)) hb); clear HO_392000; clear BK391; clear HB; have HO_392000 := n0_; have BK391 := n1_; have HB := n2_; clear n0_ n1_ n2_; (try clear hb); (try clear hb2); (try clear hk); (try clear hi)))
              go_ret
              exact ⟨by first | rfl | (simp [errW_none, errW_some] <;> rfl) | (simp only [← hji4, ← hji24]; first | rfl | (simp [errW_none, errW_some] <;> rfl)) | (simp [*, errW_none, errW_some] <;> rfl), by repeat (first | (with_reducible first | exact HB.out | apply below_alloc | apply pw_below_drewN | apply below_drew1 | refine below_set ?_ GE391.out) | exact HB.out)⟩
def trustquorumlaw09_ClosureGreatest.Pure : Prop := ∀ (l0 : List Int), l0.length ≤ maxLen → l0.length * 8 ≤ 140737488351232 → (∀ x ∈ l0, (Lit.int .i64 x).wf = true) → ∃ k, trustquorumlaw09_ClosureGreatest.f k l0 = some true
theorem trustquorumlaw09_ClosureGreatest.walk (P : trustquorumlaw09_ClosureGreatest.Pure) (a0 : Option Addr) (len0 cap0 : Nat) (z0 : List Int) (w : World) (w0 : (a0 = none ∧ len0 = 0 ∧ cap0 = 0 ∧ z0 = []) ∨ ∃ x, a0 = some x ∧ len0 ≤ cap0 ∧ cap0 ≤ maxLen ∧ z0.length = cap0 ∧ (∀ i, i < z0.length → w.cell? (x.add i) = some (.int .i64 (z0.getD i 0))) ∧ ∀ n ∈ z0, (Lit.int .i64 n).wf = true) (y0 : len0 * 8 ≤ 140737488351232) :
    Calls Try.prog 4 #[.slice a0 len0 cap0] w fun e w' => e = .returned (.bool true) ∧ Below w.heap.size w w' := by
  obtain ⟨l0, rfl, hr0, hm0, hw0, hc0⟩ := ReadsInt.ofRowC w0
  obtain ⟨k, h⟩ := P l0 hm0 y0 hw0
  refine (trustquorumlaw09_ClosureGreatest.calls k _ _ l0 true w (Kd.C_of_reads (d := (0 : Int)) (h1 := fun _ => rfl) hr0) hc0 h).mono ?_
  rintro e w' ⟨rfl, hd⟩
  exact ⟨rfl, hd⟩
end Go.Proofs.Ytoofabolcbbjnaa.P
