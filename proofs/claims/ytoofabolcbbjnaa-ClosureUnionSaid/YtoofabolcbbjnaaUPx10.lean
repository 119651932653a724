/- Functions of the program as Lean functions, and the walks that show that the calls answer so; written by a program of this session (a changed print) and by hand. -/
import Derived.Test.YtoofabolcbbjnaaUPx0
import Derived.Test.YtoofabolcbbjnaaUPx2
import Derived.Test.YtoofabolcbbjnaaUPx3
import Derived.Test.YtoofabolcbbjnaaUPx8
namespace Go.Proofs.Ytoofabolcbbjnaa.P
open Go.RowKit Go.Proofs.YtoofabolcbbjnaaW.PrintWords Go.Proofs.YtoofabolcbbjnaaW.PrintLast Go.Proofs.YtoofabolcbbjnaaW.PrintMore
attribute [local go_sem] max2_int min2_int max_two min_two max_three min_three max_four min_four
set_option linter.unusedVariables false
set_option linter.unusedSimpArgs false
def trustquorumlaw09_ClosureUnion.j0 : Nat → Int → Int → Bool → List Int → Int → List (S51) → Option (Bool)
  | 0, _, _, _, _, _, _ => none
  | k + 1, x5, x6, x36, x401000, x401001, x406000 => if x36 = true then (some false) else ((trustquorummake_Tape_N.f x401000 x401001 1024).bind fun bt413 => ((trustquorummake_Tape_N.f x401000 bt413.2 1024).bind fun bt415 => ((closure_Greatest.f k x406000 bt413.1).bind fun t417 => ((closure_Greatest.f k x406000 (Go.bits .or .i64 bt413.1 bt415.1)).bind fun t418 => (if (Go.bits .and .i64 t417 t418) = t417 then ((closure_Greatest.f k x406000 t417).bind fun t419 => (if t419 = t417 then ((closure_Greatest.f k x406000 (Go.bits .or .i64 x5 x6)).bind fun t420 => (if t420 = (Go.bits .or .i64 x5 x6) then ((trustquorumlaw09_awake.f k).bind fun t421 => (some t421)) else (some false))) else (some false))) else (some false))))))
def trustquorumlaw09_ClosureUnion.f (k : Nat) (l0 : List Int) : Option (Bool) := (trustquorummake_New.f l0).bind fun bt398 => ((trustquorummake_Config.f k bt398.1 bt398.2 10).bind fun bt401 => ((trustquorummake_Tape_N.f bt398.1 bt401.2 1024).bind fun bt406 => ((closure_Greatest.f k bt401.1 bt406.1).bind fun t408 => ((trustquorummake_Tape_N.f bt398.1 bt406.2 1024).bind fun bt409 => ((closure_Greatest.f k bt401.1 bt409.1).bind fun t411 => (if t408 = 0 then (trustquorumlaw09_ClosureUnion.j0 k t408 t411 false bt398.1 bt409.2 bt401.1) else (if t411 = 0 then (trustquorumlaw09_ClosureUnion.j0 k t408 t411 false bt398.1 bt409.2 bt401.1) else ((closure_Quorum.f k bt401.1 (Go.bits .or .i64 t408 t411)).bind fun t412 => (trustquorumlaw09_ClosureUnion.j0 k t408 t411 (!t412) bt398.1 bt409.2 bt401.1)))))))))
def trustquorumlaw09_ClosureUnion.T3 : Bool × List (List Nat × List Nat) := (true, [([], []), ([], []), ([1], [1]), ([0, 2, 2], [0, 2]), ([], []), ([], []), ([5, 3], [5]), ([4, 6, 6], [4, 6]), ([3, 7, 0, 1, 2, 3], [3]), ([7, 8, 0, 1, 2, 3, 4, 5, 6, 7, 8], [7])])
def trustquorumlaw09_ClosureUnion.B3 : List Nat := [0, 0, 2, 7, 0, 0, 47, 127, 255, 511]
theorem trustquorumlaw09_ClosureUnion.tab3 : rtab .any (opsOf Try.f5 3) = trustquorumlaw09_ClosureUnion.T3 := by kernel_rfl
theorem trustquorumlaw09_ClosureUnion.bits3 : waitsOk trustquorumlaw09_ClosureUnion.T3.2 trustquorumlaw09_ClosureUnion.B3 = true := by kernel_rfl
def trustquorumlaw09_ClosureUnion.T8 : Bool × List (List Nat × List Nat) := (true, [([], []), ([], []), ([0, 1], [0, 1]), ([], []), ([], []), ([3, 4, 2], [3, 4]), ([2, 5, 0, 1, 2], [2]), ([5, 6, 0, 1, 2, 3, 4, 5, 6], [5])])
def trustquorumlaw09_ClosureUnion.B8 : List Nat := [0, 0, 3, 0, 0, 31, 63, 127]
theorem trustquorumlaw09_ClosureUnion.tab8 : rtab .any (opsOf Try.f5 8) = trustquorumlaw09_ClosureUnion.T8 := by kernel_rfl
theorem trustquorumlaw09_ClosureUnion.bits8 : waitsOk trustquorumlaw09_ClosureUnion.T8.2 trustquorumlaw09_ClosureUnion.B8 = true := by kernel_rfl
set_option maxHeartbeats 8000000 in
set_option maxRecDepth 100000 in
theorem trustquorumlaw09_ClosureUnion.calls (k : Nat) (A0 : Option Addr) (c0 : Nat) (l0 : List Int) (r : Bool) (w : World) (hr0 : Kd.C (Kd.int .i64) w A0 l0.length l0) (hc0 : l0.length ≤ c0) (h : trustquorumlaw09_ClosureUnion.f k l0 = some r) :
    Calls Try.prog 5 #[.slice A0 l0.length c0] w fun e w' => e = .returned (.bool r) ∧ Below w.heap.size w w' := by
  have hu25 := Try.underlying25
  have HR0 := Aside0.mk hr0
  have HC0 := Aside0.mk hc0
  clear hr0 hc0
  have HB := Aside0.mk (Below.refl w.heap.size w)
  have H : ((trustquorummake_New.f l0).bind fun bt398 => ((trustquorummake_Config.f k bt398.1 bt398.2 10).bind fun bt401 => ((trustquorummake_Tape_N.f bt398.1 bt401.2 1024).bind fun bt406 => ((closure_Greatest.f k bt401.1 bt406.1).bind fun t408 => ((trustquorummake_Tape_N.f bt398.1 bt406.2 1024).bind fun bt409 => ((closure_Greatest.f k bt401.1 bt409.1).bind fun t411 => (if t408 = 0 then (trustquorumlaw09_ClosureUnion.j0 k t408 t411 false bt398.1 bt409.2 bt401.1) else (if t411 = 0 then (trustquorumlaw09_ClosureUnion.j0 k t408 t411 false bt398.1 bt409.2 bt401.1) else ((closure_Quorum.f k bt401.1 (Go.bits .or .i64 t408 t411)).bind fun t412 => (trustquorumlaw09_ClosureUnion.j0 k t408 t411 (!t412) bt398.1 bt409.2 bt401.1)))))))))) = some r := h
  clear h
  replace H := Option.bind_eq_some_iff.mp H
  obtain ⟨⟨t398, t399⟩, A20, H⟩ := H
  replace H : ((trustquorummake_Config.f k t398 t399 10).bind fun bt401 => ((trustquorummake_Tape_N.f t398 bt401.2 1024).bind fun bt406 => ((closure_Greatest.f k bt401.1 bt406.1).bind fun t408 => ((trustquorummake_Tape_N.f t398 bt406.2 1024).bind fun bt409 => ((closure_Greatest.f k bt401.1 bt409.1).bind fun t411 => (if t408 = 0 then (trustquorumlaw09_ClosureUnion.j0 k t408 t411 false t398 bt409.2 bt401.1) else (if t411 = 0 then (trustquorumlaw09_ClosureUnion.j0 k t408 t411 false t398 bt409.2 bt401.1) else ((closure_Quorum.f k bt401.1 (Go.bits .or .i64 t408 t411)).bind fun t412 => (trustquorumlaw09_ClosureUnion.j0 k t408 t411 (!t412) t398 bt409.2 bt401.1))))))))) = some r := H
  have A2 := Aside0.mk A20
  clear A20
  replace H := Option.bind_eq_some_iff.mp H
  obtain ⟨⟨t401, t404⟩, A30, H⟩ := H
  replace H : ((trustquorummake_Tape_N.f t398 t404 1024).bind fun bt406 => ((closure_Greatest.f k t401 bt406.1).bind fun t408 => ((trustquorummake_Tape_N.f t398 bt406.2 1024).bind fun bt409 => ((closure_Greatest.f k t401 bt409.1).bind fun t411 => (if t408 = 0 then (trustquorumlaw09_ClosureUnion.j0 k t408 t411 false t398 bt409.2 t401) else (if t411 = 0 then (trustquorumlaw09_ClosureUnion.j0 k t408 t411 false t398 bt409.2 t401) else ((closure_Quorum.f k t401 (Go.bits .or .i64 t408 t411)).bind fun t412 => (trustquorumlaw09_ClosureUnion.j0 k t408 t411 (!t412) t398 bt409.2 t401)))))))) = some r := H
  have A3 := Aside0.mk A30
  clear A30
  replace H := Option.bind_eq_some_iff.mp H
  obtain ⟨⟨t406, t407⟩, A40, H⟩ := H
  replace H : ((closure_Greatest.f k t401 t406).bind fun t408 => ((trustquorummake_Tape_N.f t398 t407 1024).bind fun bt409 => ((closure_Greatest.f k t401 bt409.1).bind fun t411 => (if t408 = 0 then (trustquorumlaw09_ClosureUnion.j0 k t408 t411 false t398 bt409.2 t401) else (if t411 = 0 then (trustquorumlaw09_ClosureUnion.j0 k t408 t411 false t398 bt409.2 t401) else ((closure_Quorum.f k t401 (Go.bits .or .i64 t408 t411)).bind fun t412 => (trustquorumlaw09_ClosureUnion.j0 k t408 t411 (!t412) t398 bt409.2 t401))))))) = some r := H
  have A4 := Aside0.mk A40
  clear A40
  replace H := Option.bind_eq_some_iff.mp H
  obtain ⟨t408, A50, H⟩ := H
  replace H : ((trustquorummake_Tape_N.f t398 t407 1024).bind fun bt409 => ((closure_Greatest.f k t401 bt409.1).bind fun t411 => (if t408 = 0 then (trustquorumlaw09_ClosureUnion.j0 k t408 t411 false t398 bt409.2 t401) else (if t411 = 0 then (trustquorumlaw09_ClosureUnion.j0 k t408 t411 false t398 bt409.2 t401) else ((closure_Quorum.f k t401 (Go.bits .or .i64 t408 t411)).bind fun t412 => (trustquorumlaw09_ClosureUnion.j0 k t408 t411 (!t412) t398 bt409.2 t401)))))) = some r := H
  have A5 := Aside0.mk A50
  clear A50
  replace H := Option.bind_eq_some_iff.mp H
  obtain ⟨⟨t409, t410⟩, A60, H⟩ := H
  replace H : ((closure_Greatest.f k t401 t409).bind fun t411 => (if t408 = 0 then (trustquorumlaw09_ClosureUnion.j0 k t408 t411 false t398 t410 t401) else (if t411 = 0 then (trustquorumlaw09_ClosureUnion.j0 k t408 t411 false t398 t410 t401) else ((closure_Quorum.f k t401 (Go.bits .or .i64 t408 t411)).bind fun t412 => (trustquorumlaw09_ClosureUnion.j0 k t408 t411 (!t412) t398 t410 t401))))) = some r := H
  have A6 := Aside0.mk A60
  clear A60
  replace H := Option.bind_eq_some_iff.mp H
  obtain ⟨t411, A70, H⟩ := H
  replace H : (if t408 = 0 then (trustquorumlaw09_ClosureUnion.j0 k t408 t411 false t398 t410 t401) else (if t411 = 0 then (trustquorumlaw09_ClosureUnion.j0 k t408 t411 false t398 t410 t401) else ((closure_Quorum.f k t401 (Go.bits .or .i64 t408 t411)).bind fun t412 => (trustquorumlaw09_ClosureUnion.j0 k t408 t411 (!t412) t398 t410 t401)))) = some r := H
  have A7 := Aside0.mk A70
  clear A70
  have HC8 := Aside0.mk H
  clear H
  go_enter Try.func5, Try.ntmps5
  try go_wp2_with (first | ((with_reducible refine gate_callee (f := 10) rfl ?_); refine goesL_ (some 12) rfl rfl Try.func10 (by kernel_rfl) rfl #[.slice A0 l0.length c0] rfl (by (try simp only [List.map_toArray, List.map_cons, List.map_nil]); first | done | rfl | (simp only [List.length_drop, List.length_take]; rfl) | (simp only [List.length_nil, Int.natCast_zero, Int.zero_add, Int.ofNat_zero]; rfl)) ?_; (with_reducible refine (trustquorummake_New.calls _ _ l0 t398 t399 w _ ?side1 ?side2 ?side3 A2.out).mono ?_); (case side1 => repeat (first | (with_reducible first | exact HB.out | apply below_alloc | apply pw_below_drewN | apply below_drew1) | exact HB.out)); (case side2 => exact HR0.out); (case side3 => exact HC0.out); rintro e w9 ⟨g400, rfl, hi, hb, hb2⟩; refine ⟨_, rfl, ?_⟩; have n0_ := Aside0.mk (hb); have n1_ := Aside0.mk (hi); clear HB; have HB := n0_; have HI400 := n1_; clear n0_ n1_; (try clear hb); (try clear hb2); (try clear hk); (try clear hi)) | ((with_reducible refine gate_callee (f := 11) rfl ?_); refine goesL_ (some 14) rfl rfl Try.func11 (by kernel_rfl) rfl #[.pointer (some ⟨g400, 0, none⟩), .int .i64 10] rfl (by (try simp only [List.map_toArray, List.map_cons, List.map_nil]); first | done | rfl | (simp only [List.length_drop, List.length_take]; rfl) | (simp only [List.length_nil, Int.natCast_zero, Int.zero_add, Int.ofNat_zero]; rfl)) ?_; (with_reducible refine (trustquorummake_Config.calls k g400 t398 t399 10 t401 t404 w _ ?side1 ?side2 A3.out).mono ?_); (case side1 => repeat (first | (with_reducible first | exact HI400.out | apply IsS56.alloc | apply IsS56.drewN | apply IsS56.drew | apply IsS56.set_1) | exact HI400.out)); (case side2 => repeat (first | (with_reducible first | exact HB.out | apply below_alloc | apply pw_below_drewN | apply below_drew1 | refine below_set ?_ (IsS56.ge HI400.out)) | exact HB.out)); rintro e w10 ⟨v402, rfl, ho0, hi, hb, hk⟩; refine ⟨_, rfl, ?_⟩; have n0_ := Aside0.mk (Kd.R_lower ho0 (below_size (by repeat (first | (with_reducible first | exact HB.out | apply below_alloc | apply pw_below_drewN | apply below_drew1 | refine below_set ?_ (IsS56.ge HI400.out)) | exact HB.out)))); have n1_ := Aside0.mk (hb); have n2_ := Aside0.mk (hi); clear HB; clear HI400; have HO403 := n0_; have HB := n1_; have HI400 := n2_; clear n0_ n1_ n2_; (try clear hb); (try clear hb2); (try clear hk); (try clear hi); (try clear ho0)) | ((with_reducible refine gate_dst (N := 4) rfl ?_); refine box_event ?hg (N := 4) ?hd (cs := #[.slice none 0 0]) (t := 25) ?hr ?_; (case hd => rfl); (case hg => rfl); (case hr => first | (go_simp; done) | (go_simp; rfl)); intro gb405 hg w11 hbox hb; have n0_ := Aside0.mk (Kd.R_below (by (with_reducible repeat (first | apply Kd.R_alloc | apply Kd.R_drewN | apply Kd.R_drew)); exact HO403.out) hb); have n1_ := Aside0.mk (IsS56.below (by repeat (first | (with_reducible first | exact HI400.out | apply IsS56.alloc | apply IsS56.drewN | apply IsS56.drew | apply IsS56.set_1) | exact HI400.out)) hb); have n2_ := Aside0.mk (below_step (by repeat (first | (with_reducible first | exact HB.out | apply below_alloc | apply pw_below_drewN | apply below_drew1 | refine below_set ?_ (IsS56.ge HI400.out)) | exact HB.out)) hb); have n3_ := Aside0.mk (hbox); have n4_ := Aside0.mk ((by rw [hg]; exact (below_size (by repeat (first | (with_reducible first | exact HB.out | apply below_alloc | apply pw_below_drewN | apply below_drew1 | refine below_set ?_ (IsS56.ge HI400.out)) | exact HB.out))) : w.heap.size ≤ gb405)); have n5_ := Aside0.mk ((by rw [hg]; exact (below_size (by repeat (first | (with_reducible first | exact HB.out | apply below_alloc | apply pw_below_drewN | apply below_drew1 | refine below_set ?_ (IsS56.ge HI400.out)) | exact HB.out))) : w.heap.size ≤ gb405)); have n6_ := Aside0.mk ((by rw [hg]; exact Nat.ne_of_lt (IsS56.lt (show IsS56 w _ g400 t398 t404 from by repeat (first | (with_reducible first | exact HI400.out | apply IsS56.alloc | apply IsS56.drewN | apply IsS56.drew | apply IsS56.set_1) | exact HI400.out))) : g400 ≠ gb405)); have n7_ := Aside0.mk ((by rw [hg]; exact Nat.ne_of_gt (IsS56.lt (show IsS56 w _ g400 t398 t404 from by repeat (first | (with_reducible first | exact HI400.out | apply IsS56.alloc | apply IsS56.drewN | apply IsS56.drew | apply IsS56.set_1) | exact HI400.out))) : gb405 ≠ g400)); clear HO403; clear HI400; clear HB; have HO403 := n0_; have HI400 := n1_; have HB := n2_; have BK405 := n3_; have GW405 := n4_; have GE405 := n5_; have NB400_405 := n6_; have NB405_400 := n7_; clear n0_ n1_ n2_ n3_ n4_ n5_ n6_ n7_; clear hb hbox hg; obtain ⟨Ao12, co12, eo12⟩ := Kd.R_slice HO403.out; subst eo12; have hnb13 := NB405_400.out; have hnc13 := NB400_405.out; have hcz14_0 : w11.cell? ⟨gb405, 0, none⟩ = some (.slice none 0 0) := (blk_cell BK405.out 0).trans rfl; have hfz14_0 := blk_frozen BK405.out 0))
  have n0_ : Aside0 (Kd.R k51 51 (w11.setCell ⟨gb405, 0, none⟩ (.slice Ao12 t401.length co12)) w.heap.size (fun _ => True) (.slice Ao12 t401.length co12) t401) := ⟨by (with_reducible repeat (first | apply Kd.R_alloc | apply Kd.R_drewN | apply Kd.R_drew)); exact Kd.R_mono (Kd.R_far (p := ⟨gb405, 0, none⟩) (Kd.R_types HO403.out BK405.out (by decide)) (fun _ hk => hk.2) (.slice Ao12 t401.length co12)) (fun _ hk => trivial)⟩
  have n1_ : Aside0 ((w11.setCell ⟨gb405, 0, none⟩ (.slice Ao12 t401.length co12)).heap[gb405]? = some (.cells #[.slice Ao12 t401.length co12] 25 (0, 0))) := ⟨by (with_reducible repeat (first | refine blk_drewN ?_ _ | refine blk_drew ?_ | refine blk_alloc ?_ _)); refine blk_put (cs := #[.slice none 0 0]) ?_ 0 _ rfl; (with_reducible repeat (first | refine blk_drewN ?_ _ | refine blk_drew ?_ | refine blk_alloc ?_ _)); exact BK405.out⟩
  have n2_ : Aside0 (IsS56 w (w11.setCell ⟨gb405, 0, none⟩ (.slice Ao12 t401.length co12)) g400 t398 t404) := ⟨by repeat (first | (with_reducible first | exact HI400.out | apply IsS56.alloc | apply IsS56.drewN | apply IsS56.drew | apply IsS56.set_1 | refine IsS56.far ?_ NB400_405.out _) | exact HI400.out)⟩
  have n3_ : Aside0 (Below w.heap.size w (w11.setCell ⟨gb405, 0, none⟩ (.slice Ao12 t401.length co12))) := ⟨by repeat (first | (with_reducible first | exact HB.out | apply below_alloc | apply pw_below_drewN | apply below_drew1 | refine below_set ?_ (IsS56.ge HI400.out) | refine below_set ?_ GE405.out) | exact HB.out)⟩
  (try clear HO403)
  (try clear BK405)
  (try clear HI400)
  (try clear HB)
  generalize (w11.setCell ⟨gb405, 0, none⟩ (.slice Ao12 t401.length co12)) = w15 at n0_ n1_ n2_ n3_ ⊢
  have HO403 := n0_
  have BK405 := n1_
  have HI400 := n2_
  have HB := n3_
  clear n0_ n1_ n2_ n3_
  have n0_ := Aside0.mk (Kd.R_drew HO403.out)
  have n1_ := Aside0.mk (blk_drew BK405.out)
  have n2_ := Aside0.mk (IsS56.drew HI400.out)
  have n3_ := Aside0.mk (below_drew1 HB.out)
  clear HO403
  clear BK405
  clear HI400
  clear HB
  have HO403 := n0_
  have BK405 := n1_
  have HI400 := n2_
  have HB := n3_
  clear n0_ n1_ n2_ n3_
  refine start_ (n := 10) (S := fun w' => w'.cell? ⟨gb405, 0, none⟩ = some (.slice Ao12 t401.length co12)) (ds := []) #[false, false, false, false, false, false, false, false, false, false] (by kernel_rfl) rfl rfl ((blk_cell BK405.out 0).trans rfl) (fun hHeld => ?_); refine with_tabW trustquorumlaw09_ClosureUnion.tab3 trustquorumlaw09_ClosureUnion.bits3 (fun HT_ HW_ => ?_)
  generalize w15.drew = w16 at HO403 BK405 HI400 HB hHeld ⊢
  refine pure_ (i := 1) (N := some 16) (v := ?_) (a' := ?_) #[false, true, false, false, false, false, false, false, false, false] rfl rfl (any_of HT_.out (by kernel_rfl)) (fun _ _ _ h => h) (Or.inl ⟨by rfl, ?_⟩) ?_ ?_
  rotate_left
  · intro w'
    go_simp
    with_reducible rfl
  rotate_left
  · simp only [Act.put, List.setIfInBounds_toArray, List.set_cons_zero, List.set_cons_succ, i64_w, i32_w]
    rfl
  refine pure_ (i := 5) (N := some 20) (v := ?_) (a' := ?_) #[false, true, false, false, false, true, false, false, false, false] rfl rfl (any_of HT_.out (by kernel_rfl)) (fun _ _ _ h => h) (Or.inl ⟨by rfl, ?_⟩) ?_ ?_
  rotate_left
  · intro w'
    go_simp
    with_reducible rfl
  rotate_left
  · simp only [Act.put, List.setIfInBounds_toArray, List.set_cons_zero, List.set_cons_succ, i64_w, i32_w]
    rfl
  refine take_ (i := 0) (N := some 15) (v := ?_) (a' := ?_) #[true, true, false, false, false, true, false, false, false, false] rfl rfl (take_ofW HT_.out HW_.out (by kernel_rfl)) (fun _ _ _ h => h) (Or.inl ⟨by rfl, ?_⟩) hHeld ?_ ?_
  rotate_left
  · intro w' s0
    go_simp
    with_reducible rfl
  rotate_left
  · simp only [Act.put, List.setIfInBounds_toArray, List.set_cons_zero, List.set_cons_succ, i64_w, i32_w]
    rfl
  refine take_ (i := 4) (N := some 19) (v := ?_) (a' := ?_) #[true, true, false, false, true, true, false, false, false, false] rfl rfl (take_ofW HT_.out HW_.out (by kernel_rfl)) (fun _ _ _ h => h) (Or.inl ⟨by rfl, ?_⟩) hHeld ?_ ?_
  rotate_left
  · intro w' s0
    go_simp
    with_reducible rfl
  rotate_left
  · simp only [Act.put, List.setIfInBounds_toArray, List.set_cons_zero, List.set_cons_succ, i64_w, i32_w]
    rfl
  refine one_ (i := 2) (N := some 17) #[true, true, true, false, true, true, false, false, false, false] rfl rfl (one_of HT_.out (by kernel_rfl)) (by decide) (fun K hK => ?_)
  refine goes_ Try.func13 (by kernel_rfl) rfl #[.pointer (some ⟨g400, 0, none⟩), .int .i64 1024] (by rfl) rfl rfl (by (try simp only [List.map_toArray, List.map_cons, List.map_nil]); first | done | rfl | (simp only [List.length_drop, List.length_take]; rfl) | (simp only [List.length_nil, Int.natCast_zero, Int.zero_add, Int.ofNat_zero]; rfl)) ?_
  with_reducible refine (trustquorummake_Tape_N.calls g400 t398 t404 1024 t406 t407 w _ ?side1 ?side2 A4.out).mono ?_
  (case side1 => repeat (first | (with_reducible first | exact HI400.out | apply IsS56.alloc | apply IsS56.drewN | apply IsS56.drew | apply IsS56.set_1 | refine IsS56.far ?_ NB400_405.out _) | exact HI400.out))
  (case side2 => repeat (first | (with_reducible first | exact HB.out | apply below_alloc | apply pw_below_drewN | apply below_drew1 | refine below_set ?_ (IsS56.ge HI400.out) | refine below_set ?_ GE405.out) | exact HB.out))
  rintro e w17 ⟨rfl, hi, hb, hk⟩
  refine ⟨_, rfl, ?_⟩
  have n0_ := Aside0.mk (Kd.R_mono (Kd.R_keep (IsS56.apart (show IsS56 w _ g400 t398 t404 from by repeat (first | (with_reducible first | exact HI400.out | apply IsS56.alloc | apply IsS56.drewN | apply IsS56.drew | apply IsS56.set_1 | refine IsS56.far ?_ NB400_405.out _) | exact HI400.out)) (by (with_reducible repeat (first | apply Kd.R_alloc | apply Kd.R_drewN | apply Kd.R_drew)); exact HO403.out) (by decide)) hk (fun _ h => h.2)) (fun _ h => h.1))
  have n1_ := Aside0.mk (KeepBut.blk hk (g' := gb405) (o := .cells #[.slice Ao12 t401.length co12] 25 (0, 0)) (by (with_reducible repeat (first | refine blk_drewN ?_ _ | refine blk_drew ?_ | refine blk_alloc ?_ _)); exact BK405.out) NB405_400.out (by simp))
  have n2_ := Aside0.mk (hb)
  have n3_ := Aside0.mk (hi)
  clear HO403
  clear BK405
  clear HB
  clear HI400
  have HO403 := n0_
  have BK405 := n1_
  have HB := n2_
  have HI400 := n3_
  clear n0_ n1_ n2_ n3_
  (try clear hb)
  (try clear hb2)
  (try clear hk)
  (try clear hi)
  refine hK.out _ _ ((blk_cell BK405.out 0).trans rfl) (fun hHeld => ?_)
  clear hK K
  refine norm_ (a' := ?_) ?_ ?_
  rotate_left
  · show Act.put _ (some 17) _ = _
    simp only [Act.put, List.setIfInBounds_toArray, List.set_cons_zero, List.set_cons_succ, i64_w, i32_w]
    rfl
  refine one_ (i := 3) (N := some 18) #[true, true, true, true, true, true, false, false, false, false] rfl rfl (one_of HT_.out (by kernel_rfl)) (by decide) (fun K hK => ?_)
  refine goes_ Try.func17 (by kernel_rfl) rfl #[.agg #[.slice Ao12 t401.length co12], .int .i64 t406] (by rfl) rfl rfl (by (try simp only [List.map_toArray, List.map_cons, List.map_nil]); first | done | rfl | (simp only [List.length_drop, List.length_take]; rfl) | (simp only [List.length_nil, Int.natCast_zero, Int.zero_add, Int.ofNat_zero]; rfl)) ?_
  with_reducible refine (closure_Greatest.calls k _ _ t401 t406 t408 _ ?side1 ?side2 A5.out).mono ?_
  (case side1 => repeat (first | exact (Kd.R_reads' HO403.out).2.2 | (with_reducible refine Kd.C_alloc ?_ _) | (with_reducible refine Kd.C_drewN ?_ _) | (with_reducible refine Kd.C_drew ?_)))
  (case side2 => exact (Kd.R_reads' HO403.out).2.1)
  rintro e w18 ⟨rfl, hb⟩
  refine ⟨_, rfl, ?_⟩
  have n0_ := Aside0.mk (Kd.R_below (by (with_reducible repeat (first | apply Kd.R_alloc | apply Kd.R_drewN | apply Kd.R_drew)); exact HO403.out) hb)
  have n1_ := Aside0.mk (IsS56.below (by repeat (first | (with_reducible first | exact HI400.out | apply IsS56.alloc | apply IsS56.drewN | apply IsS56.drew | apply IsS56.set_1 | refine IsS56.far ?_ NB400_405.out _) | exact HI400.out)) hb)
  have n2_ := Aside0.mk (blk_below (g := gb405) (o := .cells #[.slice Ao12 t401.length co12] 25 (0, 0)) (by (with_reducible repeat (first | refine blk_drewN ?_ _ | refine blk_drew ?_ | refine blk_alloc ?_ _)); exact BK405.out) hb)
  have n3_ := Aside0.mk (below_step (by repeat (first | (with_reducible first | exact HB.out | apply below_alloc | apply pw_below_drewN | apply below_drew1 | refine below_set ?_ (IsS56.ge HI400.out) | refine below_set ?_ GE405.out) | exact HB.out)) hb)
  clear HO403
  clear HI400
  clear BK405
  clear HB
  have HO403 := n0_
  have HI400 := n1_
  have BK405 := n2_
  have HB := n3_
  clear n0_ n1_ n2_ n3_
  (try clear hb)
  (try clear hb2)
  (try clear hk)
  (try clear hi)
  refine hK.out _ _ ((blk_cell BK405.out 0).trans rfl) (fun hHeld => ?_)
  clear hK K
  refine norm_ (a' := ?_) ?_ ?_
  rotate_left
  · show Act.put _ (some 18) _ = _
    simp only [Act.put, List.setIfInBounds_toArray, List.set_cons_zero, List.set_cons_succ, i64_w, i32_w]
    rfl
  refine one_ (i := 6) (N := some 21) #[true, true, true, true, true, true, true, false, false, false] rfl rfl (one_of HT_.out (by kernel_rfl)) (by decide) (fun K hK => ?_)
  refine goes_ Try.func13 (by kernel_rfl) rfl #[.pointer (some ⟨g400, 0, none⟩), .int .i64 1024] (by rfl) rfl rfl (by (try simp only [List.map_toArray, List.map_cons, List.map_nil]); first | done | rfl | (simp only [List.length_drop, List.length_take]; rfl) | (simp only [List.length_nil, Int.natCast_zero, Int.zero_add, Int.ofNat_zero]; rfl)) ?_
  with_reducible refine (trustquorummake_Tape_N.calls g400 t398 t407 1024 t409 t410 w _ ?side1 ?side2 A6.out).mono ?_
  (case side1 => repeat (first | (with_reducible first | exact HI400.out | apply IsS56.alloc | apply IsS56.drewN | apply IsS56.drew | apply IsS56.set_1 | refine IsS56.far ?_ NB400_405.out _) | exact HI400.out))
  (case side2 => repeat (first | (with_reducible first | exact HB.out | apply below_alloc | apply pw_below_drewN | apply below_drew1 | refine below_set ?_ (IsS56.ge HI400.out) | refine below_set ?_ GE405.out) | exact HB.out))
  rintro e w19 ⟨rfl, hi, hb, hk⟩
  refine ⟨_, rfl, ?_⟩
  have n0_ := Aside0.mk (Kd.R_mono (Kd.R_keep (IsS56.apart (show IsS56 w _ g400 t398 t407 from by repeat (first | (with_reducible first | exact HI400.out | apply IsS56.alloc | apply IsS56.drewN | apply IsS56.drew | apply IsS56.set_1 | refine IsS56.far ?_ NB400_405.out _) | exact HI400.out)) (by (with_reducible repeat (first | apply Kd.R_alloc | apply Kd.R_drewN | apply Kd.R_drew)); exact HO403.out) (by decide)) hk (fun _ h => h.2)) (fun _ h => h.1))
  have n1_ := Aside0.mk (KeepBut.blk hk (g' := gb405) (o := .cells #[.slice Ao12 t401.length co12] 25 (0, 0)) (by (with_reducible repeat (first | refine blk_drewN ?_ _ | refine blk_drew ?_ | refine blk_alloc ?_ _)); exact BK405.out) NB405_400.out (by simp))
  have n2_ := Aside0.mk (hb)
  have n3_ := Aside0.mk (hi)
  clear HO403
  clear BK405
  clear HB
  clear HI400
  have HO403 := n0_
  have BK405 := n1_
  have HB := n2_
  have HI400 := n3_
  clear n0_ n1_ n2_ n3_
  (try clear hb)
  (try clear hb2)
  (try clear hk)
  (try clear hi)
  refine hK.out _ _ ((blk_cell BK405.out 0).trans rfl) (fun hHeld => ?_)
  clear hK K
  refine norm_ (a' := ?_) ?_ ?_
  rotate_left
  · show Act.put _ (some 21) _ = _
    simp only [Act.put, List.setIfInBounds_toArray, List.set_cons_zero, List.set_cons_succ, i64_w, i32_w]
    rfl
  refine one_ (i := 7) (N := some 22) #[true, true, true, true, true, true, true, true, false, false] rfl rfl (one_of HT_.out (by kernel_rfl)) (by decide) (fun K hK => ?_)
  refine goes_ Try.func17 (by kernel_rfl) rfl #[.agg #[.slice Ao12 t401.length co12], .int .i64 t409] (by rfl) rfl rfl (by (try simp only [List.map_toArray, List.map_cons, List.map_nil]); first | done | rfl | (simp only [List.length_drop, List.length_take]; rfl) | (simp only [List.length_nil, Int.natCast_zero, Int.zero_add, Int.ofNat_zero]; rfl)) ?_
  with_reducible refine (closure_Greatest.calls k _ _ t401 t409 t411 _ ?side1 ?side2 A7.out).mono ?_
  (case side1 => repeat (first | exact (Kd.R_reads' HO403.out).2.2 | (with_reducible refine Kd.C_alloc ?_ _) | (with_reducible refine Kd.C_drewN ?_ _) | (with_reducible refine Kd.C_drew ?_)))
  (case side2 => exact (Kd.R_reads' HO403.out).2.1)
  rintro e w20 ⟨rfl, hb⟩
  refine ⟨_, rfl, ?_⟩
  have n0_ := Aside0.mk (Kd.R_below (by (with_reducible repeat (first | apply Kd.R_alloc | apply Kd.R_drewN | apply Kd.R_drew)); exact HO403.out) hb)
  have n1_ := Aside0.mk (IsS56.below (by repeat (first | (with_reducible first | exact HI400.out | apply IsS56.alloc | apply IsS56.drewN | apply IsS56.drew | apply IsS56.set_1 | refine IsS56.far ?_ NB400_405.out _) | exact HI400.out)) hb)
  have n2_ := Aside0.mk (blk_below (g := gb405) (o := .cells #[.slice Ao12 t401.length co12] 25 (0, 0)) (by (with_reducible repeat (first | refine blk_drewN ?_ _ | refine blk_drew ?_ | refine blk_alloc ?_ _)); exact BK405.out) hb)
  have n3_ := Aside0.mk (below_step (by repeat (first | (with_reducible first | exact HB.out | apply below_alloc | apply pw_below_drewN | apply below_drew1 | refine below_set ?_ (IsS56.ge HI400.out) | refine below_set ?_ GE405.out) | exact HB.out)) hb)
  clear HO403
  clear HI400
  clear BK405
  clear HB
  have HO403 := n0_
  have HI400 := n1_
  have BK405 := n2_
  have HB := n3_
  clear n0_ n1_ n2_ n3_
  (try clear hb)
  (try clear hb2)
  (try clear hk)
  (try clear hi)
  refine hK.out _ _ ((blk_cell BK405.out 0).trans rfl) (fun hHeld => ?_)
  clear hK K
  refine norm_ (a' := ?_) ?_ ?_
  rotate_left
  · show Act.put _ (some 22) _ = _
    simp only [Act.put, List.setIfInBounds_toArray, List.set_cons_zero, List.set_cons_succ, i64_w, i32_w]
    rfl
  refine pure_ (i := 8) (N := some 5) (v := ?_) (a' := ?_) #[true, true, true, true, true, true, true, true, true, false] rfl rfl (any_of HT_.out (by kernel_rfl)) (fun _ _ _ h => h) (Or.inl ⟨by rfl, ?_⟩) ?_ ?_
  rotate_left
  · intro w'
    go_simp
    with_reducible rfl
  rotate_left
  · simp only [Act.put, List.setIfInBounds_toArray, List.set_cons_zero, List.set_cons_succ, i64_w, i32_w]
    rfl
  refine pure_ (i := 9) (N := some 6) (v := ?_) (a' := ?_) #[true, true, true, true, true, true, true, true, true, true] rfl rfl (any_of HT_.out (by kernel_rfl)) (fun _ _ _ h => h) (Or.inl ⟨by rfl, ?_⟩) ?_ ?_
  rotate_left
  · intro w'
    go_simp
    with_reducible rfl
  rotate_left
  · simp only [Act.put, List.setIfInBounds_toArray, List.set_cons_zero, List.set_cons_succ, i64_w, i32_w]
    rfl
  refine done_ (done_of HT_.out (by kernel_rfl)) ?_
  go_upto_region 4 with (fail)
  go_cut [36] (fun v36 wc => ∃ (kq : Nat) (x36_7 : Bool), v36 = .bool x36_7 ∧ Aside0 (trustquorumlaw09_ClosureUnion.j0 kq t408 t411 x36_7 t398 t410 t401 = some r) ∧ Aside0 (kq ≤ k) ∧ Aside0 (Kd.R k51 51 wc w.heap.size (fun _ => True) (.slice Ao12 t401.length co12) t401) ∧ Aside0 (wc.heap[gb405]? = some (.cells #[(.slice Ao12 t401.length co12)] 25 (0, 0))) ∧ Aside0 (IsS56 w wc g400 t398 t410) ∧ Aside0 (Below w.heap.size w wc))
  case first =>
    have H := HC8.out
    clear HC8
    by_cases c21 : t408 = 0
    · rw [if_pos c21] at H
      have c21b0 : (t408 == 0) = true := beq_iff_eq.mpr c21
      have c21b1 : (t408 != 0) = false := bne_eq_false_iff_eq.mpr c21
      clear c21
      (first | rw [c21b0] | (simp only [i64_w, i32_w]; rw [c21b0]) | skip)
      have H' := Aside0.mk H
      clear H
      go_wp2
      go_meet
      case rel => exact ⟨_, (false), (by first | rfl | (simp; done) | (simp [*]; done)), H', ⟨by first | omega | exact Nat.le_refl _⟩, ⟨by (with_reducible repeat (first | apply Kd.R_alloc | apply Kd.R_drewN | apply Kd.R_drew)); exact HO403.out⟩, ⟨by (with_reducible repeat (first | refine blk_drewN ?_ _ | refine blk_drew ?_ | refine blk_alloc ?_ _)); exact BK405.out⟩, ⟨by repeat (first | (with_reducible first | exact HI400.out | apply IsS56.alloc | apply IsS56.drewN | apply IsS56.drew | apply IsS56.set_1 | refine IsS56.far ?_ NB400_405.out _) | exact HI400.out)⟩, ⟨by repeat (first | (with_reducible first | exact HB.out | apply below_alloc | apply pw_below_drewN | apply below_drew1 | refine below_set ?_ (IsS56.ge HI400.out) | refine below_set ?_ GE405.out) | exact HB.out)⟩⟩
    · rw [if_neg c21] at H
      have c21b0 : (t408 == 0) = false := beq_eq_false_iff_ne.mpr c21
      have c21b1 : (t408 != 0) = true := bne_iff_ne.mpr c21
      (first | rw [c21b0] | (simp only [i64_w, i32_w]; rw [c21b0]) | skip)
      by_cases c22 : t411 = 0
      · rw [if_pos c22] at H
        have c22b0 : (t411 == 0) = true := beq_iff_eq.mpr c22
        have c22b1 : (t411 != 0) = false := bne_eq_false_iff_eq.mpr c22
        clear c22
        have H' := Aside0.mk H
        clear H
        go_wp2
        go_meet
        case rel => exact ⟨_, (false), (by first | rfl | (simp; done) | (simp [*]; done)), H', ⟨by first | omega | exact Nat.le_refl _⟩, ⟨by (with_reducible repeat (first | apply Kd.R_alloc | apply Kd.R_drewN | apply Kd.R_drew)); exact HO403.out⟩, ⟨by (with_reducible repeat (first | refine blk_drewN ?_ _ | refine blk_drew ?_ | refine blk_alloc ?_ _)); exact BK405.out⟩, ⟨by repeat (first | (with_reducible first | exact HI400.out | apply IsS56.alloc | apply IsS56.drewN | apply IsS56.drew | apply IsS56.set_1 | refine IsS56.far ?_ NB400_405.out _) | exact HI400.out)⟩, ⟨by repeat (first | (with_reducible first | exact HB.out | apply below_alloc | apply pw_below_drewN | apply below_drew1 | refine below_set ?_ (IsS56.ge HI400.out) | refine below_set ?_ GE405.out) | exact HB.out)⟩⟩
      · rw [if_neg c22] at H
        have c22b0 : (t411 == 0) = false := beq_eq_false_iff_ne.mpr c22
        have c22b1 : (t411 != 0) = true := bne_iff_ne.mpr c22
        replace H := Option.bind_eq_some_iff.mp H
        obtain ⟨t412, A230, H⟩ := H
        replace H : (trustquorumlaw09_ClosureUnion.j0 k t408 t411 (!t412) t398 t410 t401) = some r := H
        have A23 := Aside0.mk A230
        clear A230
        have H' := Aside0.mk H
        clear H
        have hnb24 := NB405_400.out
        have hnc24 := NB400_405.out
        have hcz25_0 : w20.cell? ⟨gb405, 0, none⟩ = some (.slice Ao12 t401.length co12) := (blk_cell BK405.out 0).trans rfl
        have hfz25_0 := blk_frozen BK405.out 0
        go_wp2_with (first | (go_at_call 15; (with_reducible refine (closure_Quorum.calls k _ _ t401 (Go.bits .or .i64 t408 t411) t412 _ ?side1 ?side2 A23.out).mono ?_); (case side1 => repeat (first | exact (Kd.R_reads' HO403.out).2.2 | (with_reducible refine Kd.C_alloc ?_ _) | (with_reducible refine Kd.C_drewN ?_ _) | (with_reducible refine Kd.C_drew ?_))); (case side2 => exact (Kd.R_reads' HO403.out).2.1); rintro e w26 ⟨rfl, hb⟩; have n0_ := Aside0.mk (Kd.R_below (by (with_reducible repeat (first | apply Kd.R_alloc | apply Kd.R_drewN | apply Kd.R_drew)); exact HO403.out) hb); have n1_ := Aside0.mk (IsS56.below (by repeat (first | (with_reducible first | exact HI400.out | apply IsS56.alloc | apply IsS56.drewN | apply IsS56.drew | apply IsS56.set_1 | refine IsS56.far ?_ NB400_405.out _) | exact HI400.out)) hb); have n2_ := Aside0.mk (blk_below (g := gb405) (o := .cells #[.slice Ao12 t401.length co12] 25 (0, 0)) (by (with_reducible repeat (first | refine blk_drewN ?_ _ | refine blk_drew ?_ | refine blk_alloc ?_ _)); exact BK405.out) hb); have n3_ := Aside0.mk (below_step (by repeat (first | (with_reducible first | exact HB.out | apply below_alloc | apply pw_below_drewN | apply below_drew1 | refine below_set ?_ (IsS56.ge HI400.out) | refine below_set ?_ GE405.out) | exact HB.out)) hb); clear HO403; clear HI400; clear BK405; clear HB; have HO403 := n0_; have HI400 := n1_; have BK405 := n2_; have HB := n3_; clear n0_ n1_ n2_ n3_; (try clear hb); (try clear hb2); (try clear hk); (try clear hi)))
        go_meet
        case rel => exact ⟨_, (!t412), (by first | rfl | (simp; done) | (simp [*]; done)), H', ⟨by first | omega | exact Nat.le_refl _⟩, ⟨by (with_reducible repeat (first | apply Kd.R_alloc | apply Kd.R_drewN | apply Kd.R_drew)); exact HO403.out⟩, ⟨by (with_reducible repeat (first | refine blk_drewN ?_ _ | refine blk_drew ?_ | refine blk_alloc ?_ _)); exact BK405.out⟩, ⟨by repeat (first | (with_reducible first | exact HI400.out | apply IsS56.alloc | apply IsS56.drewN | apply IsS56.drew | apply IsS56.set_1 | refine IsS56.far ?_ NB400_405.out _) | exact HI400.out)⟩, ⟨by repeat (first | (with_reducible first | exact HB.out | apply below_alloc | apply pw_below_drewN | apply below_drew1 | refine below_set ?_ (IsS56.ge HI400.out) | refine below_set ?_ GE405.out) | exact HB.out)⟩⟩
  case rest =>
    clear HC8
    try clear c1
    try clear c2
    try clear p2
    try clear c5
    try clear c10
    try clear c11
    try clear c13
    try clear c17
    try clear c21
    try clear c21b0
    try clear c21b1
    try clear c22
    try clear c22b0
    try clear c22b1
    try clear c24
    try clear hcz14_0
    try clear hcz25_0
    try clear hfz14_0
    try clear hfz25_0
    obtain ⟨kq, x36_7, rfl, HA, HJ7, HO_406000, BK405, HI400, HB⟩ := hcut
    cases kq with
    | zero => exact absurd HA.out (by simp [trustquorumlaw09_ClosureUnion.j0])
    | succ kj7 =>
      have H := HA.out
      clear HA
      simp only [trustquorumlaw09_ClosureUnion.j0] at H
      by_cases c27 : x36_7 = true
      · subst c27
        have H1 : (some false) = some r := by rw [if_pos rfl] at H; exact H
        clear H
        have H := H1
        clear H1
        obtain rfl := Option.some.inj H
        go_wp2
        go_ret
        exact ⟨by first | rfl | (simp [errW_none, errW_some] <;> rfl) | (simp [*, errW_none, errW_some] <;> rfl), by repeat (first | (with_reducible first | exact HB.out | apply below_alloc | apply pw_below_drewN | apply below_drew1 | refine below_set ?_ (IsS56.ge HI400.out) | refine below_set ?_ GE405.out) | exact HB.out)⟩
      · replace c27 := Bool.eq_false_iff.mpr c27
        subst c27
        have H1 : ((trustquorummake_Tape_N.f t398 t410 1024).bind fun bt413 => ((trustquorummake_Tape_N.f t398 bt413.2 1024).bind fun bt415 => ((closure_Greatest.f kj7 t401 bt413.1).bind fun t417 => ((closure_Greatest.f kj7 t401 (Go.bits .or .i64 bt413.1 bt415.1)).bind fun t418 => (if (Go.bits .and .i64 t417 t418) = t417 then ((closure_Greatest.f kj7 t401 t417).bind fun t419 => (if t419 = t417 then ((closure_Greatest.f kj7 t401 (Go.bits .or .i64 t408 t411)).bind fun t420 => (if t420 = (Go.bits .or .i64 t408 t411) then ((trustquorumlaw09_awake.f kj7).bind fun t421 => (some t421)) else (some false))) else (some false))) else (some false)))))) = some r := by rw [if_neg (show ¬ (false = true) by decide)] at H; exact H
        clear H
        have H := H1
        clear H1
        replace H := Option.bind_eq_some_iff.mp H
        obtain ⟨⟨t413, t414⟩, A280, H⟩ := H
        replace H : ((trustquorummake_Tape_N.f t398 t414 1024).bind fun bt415 => ((closure_Greatest.f kj7 t401 t413).bind fun t417 => ((closure_Greatest.f kj7 t401 (Go.bits .or .i64 t413 bt415.1)).bind fun t418 => (if (Go.bits .and .i64 t417 t418) = t417 then ((closure_Greatest.f kj7 t401 t417).bind fun t419 => (if t419 = t417 then ((closure_Greatest.f kj7 t401 (Go.bits .or .i64 t408 t411)).bind fun t420 => (if t420 = (Go.bits .or .i64 t408 t411) then ((trustquorumlaw09_awake.f kj7).bind fun t421 => (some t421)) else (some false))) else (some false))) else (some false))))) = some r := H
        have A28 := Aside0.mk A280
        clear A280
        replace H := Option.bind_eq_some_iff.mp H
        obtain ⟨⟨t415, t416⟩, A290, H⟩ := H
        replace H : ((closure_Greatest.f kj7 t401 t413).bind fun t417 => ((closure_Greatest.f kj7 t401 (Go.bits .or .i64 t413 t415)).bind fun t418 => (if (Go.bits .and .i64 t417 t418) = t417 then ((closure_Greatest.f kj7 t401 t417).bind fun t419 => (if t419 = t417 then ((closure_Greatest.f kj7 t401 (Go.bits .or .i64 t408 t411)).bind fun t420 => (if t420 = (Go.bits .or .i64 t408 t411) then ((trustquorumlaw09_awake.f kj7).bind fun t421 => (some t421)) else (some false))) else (some false))) else (some false)))) = some r := H
        have A29 := Aside0.mk A290
        clear A290
        replace H := Option.bind_eq_some_iff.mp H
        obtain ⟨t417, A300, H⟩ := H
        replace H : ((closure_Greatest.f kj7 t401 (Go.bits .or .i64 t413 t415)).bind fun t418 => (if (Go.bits .and .i64 t417 t418) = t417 then ((closure_Greatest.f kj7 t401 t417).bind fun t419 => (if t419 = t417 then ((closure_Greatest.f kj7 t401 (Go.bits .or .i64 t408 t411)).bind fun t420 => (if t420 = (Go.bits .or .i64 t408 t411) then ((trustquorumlaw09_awake.f kj7).bind fun t421 => (some t421)) else (some false))) else (some false))) else (some false))) = some r := H
        have A30 := Aside0.mk A300
        clear A300
        replace H := Option.bind_eq_some_iff.mp H
        obtain ⟨t418, A310, H⟩ := H
        replace H : (if (Go.bits .and .i64 t417 t418) = t417 then ((closure_Greatest.f kj7 t401 t417).bind fun t419 => (if t419 = t417 then ((closure_Greatest.f kj7 t401 (Go.bits .or .i64 t408 t411)).bind fun t420 => (if t420 = (Go.bits .or .i64 t408 t411) then ((trustquorumlaw09_awake.f kj7).bind fun t421 => (some t421)) else (some false))) else (some false))) else (some false)) = some r := H
        have A31 := Aside0.mk A310
        clear A310
        by_cases c32 : (Go.bits .and .i64 t417 t418) = t417
        · rw [if_pos c32] at H
          have c32b0 : ((Go.bits .and .i64 t417 t418) == t417) = true := beq_iff_eq.mpr c32
          have c32b1 : ((Go.bits .and .i64 t417 t418) != t417) = false := bne_eq_false_iff_eq.mpr c32
          clear c32
          replace H := Option.bind_eq_some_iff.mp H
          obtain ⟨t419, A330, H⟩ := H
          replace H : (if t419 = t417 then ((closure_Greatest.f kj7 t401 (Go.bits .or .i64 t408 t411)).bind fun t420 => (if t420 = (Go.bits .or .i64 t408 t411) then ((trustquorumlaw09_awake.f kj7).bind fun t421 => (some t421)) else (some false))) else (some false)) = some r := H
          have A33 := Aside0.mk A330
          clear A330
          by_cases c34 : t419 = t417
          · rw [if_pos c34] at H
            have c34b0 : (t419 == t417) = true := beq_iff_eq.mpr c34
            have c34b1 : (t419 != t417) = false := bne_eq_false_iff_eq.mpr c34
            clear c34
            replace H := Option.bind_eq_some_iff.mp H
            obtain ⟨t420, A350, H⟩ := H
            replace H : (if t420 = (Go.bits .or .i64 t408 t411) then ((trustquorumlaw09_awake.f kj7).bind fun t421 => (some t421)) else (some false)) = some r := H
            have A35 := Aside0.mk A350
            clear A350
            by_cases c36 : t420 = (Go.bits .or .i64 t408 t411)
            · rw [if_pos c36] at H
              have c36b0 : (t420 == (Go.bits .or .i64 t408 t411)) = true := beq_iff_eq.mpr c36
              have c36b1 : (t420 != (Go.bits .or .i64 t408 t411)) = false := bne_eq_false_iff_eq.mpr c36
              clear c36
              replace H := Option.bind_eq_some_iff.mp H
              obtain ⟨t421, A370, H⟩ := H
              replace H : (some t421) = some r := H
              have A37 := Aside0.mk A370
              clear A370
              obtain rfl := Option.some.inj H
              try go_wp2_with (first | ((with_reducible refine gate_callee (f := 13) rfl ?_); refine goesL_ (some 38) rfl rfl Try.func13 (by kernel_rfl) rfl #[.pointer (some ⟨g400, 0, none⟩), .int .i64 1024] rfl (by (try simp only [List.map_toArray, List.map_cons, List.map_nil]); first | done | rfl | (simp only [List.length_drop, List.length_take]; rfl) | (simp only [List.length_nil, Int.natCast_zero, Int.zero_add, Int.ofNat_zero]; rfl)) ?_; (with_reducible refine (trustquorummake_Tape_N.calls g400 t398 t410 1024 t413 t414 w _ ?side1 ?side2 A28.out).mono ?_); (case side1 => repeat (first | (with_reducible first | exact HI400.out | apply IsS56.alloc | apply IsS56.drewN | apply IsS56.drew | apply IsS56.set_1 | refine IsS56.far ?_ NB400_405.out _) | exact HI400.out)); (case side2 => repeat (first | (with_reducible first | exact HB.out | apply below_alloc | apply pw_below_drewN | apply below_drew1 | refine below_set ?_ (IsS56.ge HI400.out) | refine below_set ?_ GE405.out) | exact HB.out)); rintro e w38 ⟨rfl, hi, hb, hk⟩; refine ⟨_, rfl, ?_⟩; have n0_ := Aside0.mk (Kd.R_mono (Kd.R_keep (IsS56.apart (show IsS56 w _ g400 t398 t410 from by repeat (first | (with_reducible first | exact HI400.out | apply IsS56.alloc | apply IsS56.drewN | apply IsS56.drew | apply IsS56.set_1 | refine IsS56.far ?_ NB400_405.out _) | exact HI400.out)) (by (with_reducible repeat (first | apply Kd.R_alloc | apply Kd.R_drewN | apply Kd.R_drew)); exact HO_406000.out) (by decide)) hk (fun _ h => h.2)) (fun _ h => h.1)); have n1_ := Aside0.mk (KeepBut.blk hk (g' := gb405) (o := .cells #[.slice Ao12 t401.length co12] 25 (0, 0)) (by (with_reducible repeat (first | refine blk_drewN ?_ _ | refine blk_drew ?_ | refine blk_alloc ?_ _)); exact BK405.out) NB405_400.out (by simp)); have n2_ := Aside0.mk (hb); have n3_ := Aside0.mk (hi); clear HO_406000; clear BK405; clear HB; clear HI400; have HO_406000 := n0_; have BK405 := n1_; have HB := n2_; have HI400 := n3_; clear n0_ n1_ n2_ n3_; (try clear hb); (try clear hb2); (try clear hk); (try clear hi)) | ((with_reducible refine gate_callee (f := 13) rfl ?_); refine goesL_ (some 41) rfl rfl Try.func13 (by kernel_rfl) rfl #[.pointer (some ⟨g400, 0, none⟩), .int .i64 1024] rfl (by (try simp only [List.map_toArray, List.map_cons, List.map_nil]); first | done | rfl | (simp only [List.length_drop, List.length_take]; rfl) | (simp only [List.length_nil, Int.natCast_zero, Int.zero_add, Int.ofNat_zero]; rfl)) ?_; (with_reducible refine (trustquorummake_Tape_N.calls g400 t398 t414 1024 t415 t416 w _ ?side1 ?side2 A29.out).mono ?_); (case side1 => repeat (first | (with_reducible first | exact HI400.out | apply IsS56.alloc | apply IsS56.drewN | apply IsS56.drew | apply IsS56.set_1 | refine IsS56.far ?_ NB400_405.out _) | exact HI400.out)); (case side2 => repeat (first | (with_reducible first | exact HB.out | apply below_alloc | apply pw_below_drewN | apply below_drew1 | refine below_set ?_ (IsS56.ge HI400.out) | refine below_set ?_ GE405.out) | exact HB.out)); rintro e w39 ⟨rfl, hi, hb, hk⟩; refine ⟨_, rfl, ?_⟩; have n0_ := Aside0.mk (Kd.R_mono (Kd.R_keep (IsS56.apart (show IsS56 w _ g400 t398 t414 from by repeat (first | (with_reducible first | exact HI400.out | apply IsS56.alloc | apply IsS56.drewN | apply IsS56.drew | apply IsS56.set_1 | refine IsS56.far ?_ NB400_405.out _) | exact HI400.out)) (by (with_reducible repeat (first | apply Kd.R_alloc | apply Kd.R_drewN | apply Kd.R_drew)); exact HO_406000.out) (by decide)) hk (fun _ h => h.2)) (fun _ h => h.1)); have n1_ := Aside0.mk (KeepBut.blk hk (g' := gb405) (o := .cells #[.slice Ao12 t401.length co12] 25 (0, 0)) (by (with_reducible repeat (first | refine blk_drewN ?_ _ | refine blk_drew ?_ | refine blk_alloc ?_ _)); exact BK405.out) NB405_400.out (by simp)); have n2_ := Aside0.mk (hb); have n3_ := Aside0.mk (hi); clear HO_406000; clear BK405; clear HB; clear HI400; have HO_406000 := n0_; have BK405 := n1_; have HB := n2_; have HI400 := n3_; clear n0_ n1_ n2_ n3_; (try clear hb); (try clear hb2); (try clear hk); (try clear hi)))
              have n0_ := Aside0.mk (Kd.R_drew HO_406000.out)
              have n1_ := Aside0.mk (blk_drew BK405.out)
              have n2_ := Aside0.mk (IsS56.drew HI400.out)
              have n3_ := Aside0.mk (below_drew1 HB.out)
              clear HO_406000
              clear BK405
              clear HI400
              clear HB
              have HO_406000 := n0_
              have BK405 := n1_
              have HI400 := n2_
              have HB := n3_
              clear n0_ n1_ n2_ n3_
              refine start_ (n := 8) (S := fun w' => w'.cell? ⟨gb405, 0, none⟩ = some (.slice Ao12 t401.length co12)) (ds := []) #[false, false, false, false, false, false, false, false] (by kernel_rfl) rfl rfl ((blk_cell BK405.out 0).trans rfl) (fun hHeld => ?_); refine with_tabW trustquorumlaw09_ClosureUnion.tab8 trustquorumlaw09_ClosureUnion.bits8 (fun HT_ HW_ => ?_)
              generalize w39.drew = w40 at HO_406000 BK405 HI400 HB hHeld ⊢
              refine pure_ (i := 1) (N := some 44) (v := ?_) (a' := ?_) #[false, true, false, false, false, false, false, false] rfl rfl (any_of HT_.out (by kernel_rfl)) (fun _ _ _ h => h) (Or.inl ⟨by rfl, ?_⟩) ?_ ?_
              rotate_left
              · intro w'
                go_simp
                with_reducible rfl
              rotate_left
              · simp only [Act.put, List.setIfInBounds_toArray, List.set_cons_zero, List.set_cons_succ, i64_w, i32_w]
                rfl
              refine pure_ (i := 4) (N := some 47) (v := ?_) (a' := ?_) #[false, true, false, false, true, false, false, false] rfl rfl (any_of HT_.out (by kernel_rfl)) (fun _ _ _ h => h) (Or.inl ⟨by rfl, ?_⟩) ?_ ?_
              rotate_left
              · intro w'
                go_simp
                with_reducible rfl
              rotate_left
              · simp only [Act.put, List.setIfInBounds_toArray, List.set_cons_zero, List.set_cons_succ, i64_w, i32_w]
                rfl
              refine take_ (i := 0) (N := some 43) (v := ?_) (a' := ?_) #[true, true, false, false, true, false, false, false] rfl rfl (take_ofW HT_.out HW_.out (by kernel_rfl)) (fun _ _ _ h => h) (Or.inl ⟨by rfl, ?_⟩) hHeld ?_ ?_
              rotate_left
              · intro w' s0
                go_simp
                with_reducible rfl
              rotate_left
              · simp only [Act.put, List.setIfInBounds_toArray, List.set_cons_zero, List.set_cons_succ, i64_w, i32_w]
                rfl
              refine take_ (i := 3) (N := some 46) (v := ?_) (a' := ?_) #[true, true, false, true, true, false, false, false] rfl rfl (take_ofW HT_.out HW_.out (by kernel_rfl)) (fun _ _ _ h => h) (Or.inl ⟨by rfl, ?_⟩) hHeld ?_ ?_
              rotate_left
              · intro w' s0
                go_simp
                with_reducible rfl
              rotate_left
              · simp only [Act.put, List.setIfInBounds_toArray, List.set_cons_zero, List.set_cons_succ, i64_w, i32_w]
                rfl
              refine one_ (i := 2) (N := some 45) #[true, true, true, true, true, false, false, false] rfl rfl (one_of HT_.out (by kernel_rfl)) (by decide) (fun K hK => ?_)
              refine goes_ Try.func17 (by kernel_rfl) rfl #[.agg #[.slice Ao12 t401.length co12], .int .i64 t413] (by rfl) rfl rfl (by (try simp only [List.map_toArray, List.map_cons, List.map_nil]); first | done | rfl | (simp only [List.length_drop, List.length_take]; rfl) | (simp only [List.length_nil, Int.natCast_zero, Int.zero_add, Int.ofNat_zero]; rfl)) ?_
              with_reducible refine (closure_Greatest.calls kj7 _ _ t401 t413 t417 _ ?side1 ?side2 A30.out).mono ?_
              (case side1 => repeat (first | exact (Kd.R_reads' HO_406000.out).2.2 | (with_reducible refine Kd.C_alloc ?_ _) | (with_reducible refine Kd.C_drewN ?_ _) | (with_reducible refine Kd.C_drew ?_)))
              (case side2 => exact (Kd.R_reads' HO_406000.out).2.1)
              rintro e w41 ⟨rfl, hb⟩
              refine ⟨_, rfl, ?_⟩
              have n0_ := Aside0.mk (Kd.R_below (by (with_reducible repeat (first | apply Kd.R_alloc | apply Kd.R_drewN | apply Kd.R_drew)); exact HO_406000.out) hb)
              have n1_ := Aside0.mk (blk_below (g := gb405) (o := .cells #[.slice Ao12 t401.length co12] 25 (0, 0)) (by (with_reducible repeat (first | refine blk_drewN ?_ _ | refine blk_drew ?_ | refine blk_alloc ?_ _)); exact BK405.out) hb)
              have n2_ := Aside0.mk (IsS56.below (by repeat (first | (with_reducible first | exact HI400.out | apply IsS56.alloc | apply IsS56.drewN | apply IsS56.drew | apply IsS56.set_1 | refine IsS56.far ?_ NB400_405.out _) | exact HI400.out)) hb)
              have n3_ := Aside0.mk (below_step (by repeat (first | (with_reducible first | exact HB.out | apply below_alloc | apply pw_below_drewN | apply below_drew1 | refine below_set ?_ (IsS56.ge HI400.out) | refine below_set ?_ GE405.out) | exact HB.out)) hb)
              clear HO_406000
              clear BK405
              clear HI400
              clear HB
              have HO_406000 := n0_
              have BK405 := n1_
              have HI400 := n2_
              have HB := n3_
              clear n0_ n1_ n2_ n3_
              (try clear hb)
              (try clear hb2)
              (try clear hk)
              (try clear hi)
              refine hK.out _ _ ((blk_cell BK405.out 0).trans rfl) (fun hHeld => ?_)
              clear hK K
              refine norm_ (a' := ?_) ?_ ?_
              rotate_left
              · show Act.put _ (some 45) _ = _
                simp only [Act.put, List.setIfInBounds_toArray, List.set_cons_zero, List.set_cons_succ, i64_w, i32_w]
                rfl
              refine one_ (i := 5) (N := some 48) #[true, true, true, true, true, true, false, false] rfl rfl (one_of HT_.out (by kernel_rfl)) (by decide) (fun K hK => ?_)
              refine goes_ Try.func17 (by kernel_rfl) rfl #[.agg #[.slice Ao12 t401.length co12], .int .i64 (Go.bits .or .i64 t413 t415)] (by rfl) rfl rfl (by (try simp only [List.map_toArray, List.map_cons, List.map_nil]); first | done | rfl | (simp only [List.length_drop, List.length_take]; rfl) | (simp only [List.length_nil, Int.natCast_zero, Int.zero_add, Int.ofNat_zero]; rfl)) ?_
              with_reducible refine (closure_Greatest.calls kj7 _ _ t401 (Go.bits .or .i64 t413 t415) t418 _ ?side1 ?side2 A31.out).mono ?_
              (case side1 => repeat (first | exact (Kd.R_reads' HO_406000.out).2.2 | (with_reducible refine Kd.C_alloc ?_ _) | (with_reducible refine Kd.C_drewN ?_ _) | (with_reducible refine Kd.C_drew ?_)))
              (case side2 => exact (Kd.R_reads' HO_406000.out).2.1)
              rintro e w42 ⟨rfl, hb⟩
              refine ⟨_, rfl, ?_⟩
              have n0_ := Aside0.mk (Kd.R_below (by (with_reducible repeat (first | apply Kd.R_alloc | apply Kd.R_drewN | apply Kd.R_drew)); exact HO_406000.out) hb)
              have n1_ := Aside0.mk (blk_below (g := gb405) (o := .cells #[.slice Ao12 t401.length co12] 25 (0, 0)) (by (with_reducible repeat (first | refine blk_drewN ?_ _ | refine blk_drew ?_ | refine blk_alloc ?_ _)); exact BK405.out) hb)
              have n2_ := Aside0.mk (IsS56.below (by repeat (first | (with_reducible first | exact HI400.out | apply IsS56.alloc | apply IsS56.drewN | apply IsS56.drew | apply IsS56.set_1 | refine IsS56.far ?_ NB400_405.out _) | exact HI400.out)) hb)
              have n3_ := Aside0.mk (below_step (by repeat (first | (with_reducible first | exact HB.out | apply below_alloc | apply pw_below_drewN | apply below_drew1 | refine below_set ?_ (IsS56.ge HI400.out) | refine below_set ?_ GE405.out) | exact HB.out)) hb)
              clear HO_406000
              clear BK405
              clear HI400
              clear HB
              have HO_406000 := n0_
              have BK405 := n1_
              have HI400 := n2_
              have HB := n3_
              clear n0_ n1_ n2_ n3_
              (try clear hb)
              (try clear hb2)
              (try clear hk)
              (try clear hi)
              refine hK.out _ _ ((blk_cell BK405.out 0).trans rfl) (fun hHeld => ?_)
              clear hK K
              refine norm_ (a' := ?_) ?_ ?_
              rotate_left
              · show Act.put _ (some 48) _ = _
                simp only [Act.put, List.setIfInBounds_toArray, List.set_cons_zero, List.set_cons_succ, i64_w, i32_w]
                rfl
              refine pure_ (i := 6) (N := some 9) (v := ?_) (a' := ?_) #[true, true, true, true, true, true, true, false] rfl rfl (any_of HT_.out (by kernel_rfl)) (fun _ _ _ h => h) (Or.inl ⟨by rfl, ?_⟩) ?_ ?_
              rotate_left
              · intro w'
                go_simp
                with_reducible rfl
              rotate_left
              · simp only [Act.put, List.setIfInBounds_toArray, List.set_cons_zero, List.set_cons_succ, i64_w, i32_w]
                rfl
              refine pure_ (i := 7) (N := some 10) (v := ?_) (a' := ?_) #[true, true, true, true, true, true, true, true] rfl rfl (any_of HT_.out (by kernel_rfl)) (fun _ _ _ h => h) (Or.inl ⟨by rfl, ?_⟩) ?_ ?_
              rotate_left
              · intro w'
                go_simp
                with_reducible rfl
              rotate_left
              · simp only [Act.put, List.setIfInBounds_toArray, List.set_cons_zero, List.set_cons_succ, i64_w, i32_w]
                rfl
              refine done_ (done_of HT_.out (by kernel_rfl)) ?_
              have hnb43 := NB405_400.out
              have hnc43 := NB400_405.out
              have hcz44_0 : w42.cell? ⟨gb405, 0, none⟩ = some (.slice Ao12 t401.length co12) := (blk_cell BK405.out 0).trans rfl
              have hfz44_0 := blk_frozen BK405.out 0
              try go_wp2_with (first | (go_at_call 17; (with_reducible refine (closure_Greatest.calls kj7 _ _ t401 t417 t419 _ ?side1 ?side2 A33.out).mono ?_); (case side1 => repeat (first | exact (Kd.R_reads' HO_406000.out).2.2 | (with_reducible refine Kd.C_alloc ?_ _) | (with_reducible refine Kd.C_drewN ?_ _) | (with_reducible refine Kd.C_drew ?_))); (case side2 => exact (Kd.R_reads' HO_406000.out).2.1); rintro e w45 ⟨rfl, hb⟩; have n0_ := Aside0.mk (Kd.R_below (by (with_reducible repeat (first | apply Kd.R_alloc | apply Kd.R_drewN | apply Kd.R_drew)); exact HO_406000.out) hb); have n1_ := Aside0.mk (blk_below (g := gb405) (o := .cells #[.slice Ao12 t401.length co12] 25 (0, 0)) (by (with_reducible repeat (first | refine blk_drewN ?_ _ | refine blk_drew ?_ | refine blk_alloc ?_ _)); exact BK405.out) hb); have n2_ := Aside0.mk (IsS56.below (by repeat (first | (with_reducible first | exact HI400.out | apply IsS56.alloc | apply IsS56.drewN | apply IsS56.drew | apply IsS56.set_1 | refine IsS56.far ?_ NB400_405.out _) | exact HI400.out)) hb); have n3_ := Aside0.mk (below_step (by repeat (first | (with_reducible first | exact HB.out | apply below_alloc | apply pw_below_drewN | apply below_drew1 | refine below_set ?_ (IsS56.ge HI400.out) | refine below_set ?_ GE405.out) | exact HB.out)) hb); clear HO_406000; clear BK405; clear HI400; clear HB; have HO_406000 := n0_; have BK405 := n1_; have HI400 := n2_; have HB := n3_; clear n0_ n1_ n2_ n3_; (try clear hb); (try clear hb2); (try clear hk); (try clear hi); have hcz46_0 : w45.cell? ⟨gb405, 0, none⟩ = some (.slice Ao12 t401.length co12) := (blk_cell BK405.out 0).trans rfl; have hfz46_0 := blk_frozen BK405.out 0) | (go_at_call 17; (with_reducible refine (closure_Greatest.calls kj7 _ _ t401 (Go.bits .or .i64 t408 t411) t420 _ ?side1 ?side2 A35.out).mono ?_); (case side1 => repeat (first | exact (Kd.R_reads' HO_406000.out).2.2 | (with_reducible refine Kd.C_alloc ?_ _) | (with_reducible refine Kd.C_drewN ?_ _) | (with_reducible refine Kd.C_drew ?_))); (case side2 => exact (Kd.R_reads' HO_406000.out).2.1); rintro e w47 ⟨rfl, hb⟩; have n0_ := Aside0.mk (Kd.R_below (by (with_reducible repeat (first | apply Kd.R_alloc | apply Kd.R_drewN | apply Kd.R_drew)); exact HO_406000.out) hb); have n1_ := Aside0.mk (blk_below (g := gb405) (o := .cells #[.slice Ao12 t401.length co12] 25 (0, 0)) (by (with_reducible repeat (first | refine blk_drewN ?_ _ | refine blk_drew ?_ | refine blk_alloc ?_ _)); exact BK405.out) hb); have n2_ := Aside0.mk (IsS56.below (by repeat (first | (with_reducible first | exact HI400.out | apply IsS56.alloc | apply IsS56.drewN | apply IsS56.drew | apply IsS56.set_1 | refine IsS56.far ?_ NB400_405.out _) | exact HI400.out)) hb); have n3_ := Aside0.mk (below_step (by repeat (first | (with_reducible first | exact HB.out | apply below_alloc | apply pw_below_drewN | apply below_drew1 | refine below_set ?_ (IsS56.ge HI400.out) | refine below_set ?_ GE405.out) | exact HB.out)) hb); clear HO_406000; clear BK405; clear HI400; clear HB; have HO_406000 := n0_; have BK405 := n1_; have HI400 := n2_; have HB := n3_; clear n0_ n1_ n2_ n3_; (try clear hb); (try clear hb2); (try clear hk); (try clear hi)) | (go_at_call 9; (with_reducible refine (trustquorumlaw09_awake.calls kj7  t421 _ A37.out).mono ?_); rintro e w48 ⟨rfl, hb⟩; have n0_ := Aside0.mk (Kd.R_below (by (with_reducible repeat (first | apply Kd.R_alloc | apply Kd.R_drewN | apply Kd.R_drew)); exact HO_406000.out) hb); have n1_ := Aside0.mk (blk_below (g := gb405) (o := .cells #[.slice Ao12 t401.length co12] 25 (0, 0)) (by (with_reducible repeat (first | refine blk_drewN ?_ _ | refine blk_drew ?_ | refine blk_alloc ?_ _)); exact BK405.out) hb); have n2_ := Aside0.mk (IsS56.below (by repeat (first | (with_reducible first | exact HI400.out | apply IsS56.alloc | apply IsS56.drewN | apply IsS56.drew | apply IsS56.set_1 | refine IsS56.far ?_ NB400_405.out _) | exact HI400.out)) hb); have n3_ := Aside0.mk (below_step (by repeat (first | (with_reducible first | exact HB.out | apply below_alloc | apply pw_below_drewN | apply below_drew1 | refine below_set ?_ (IsS56.ge HI400.out) | refine below_set ?_ GE405.out) | exact HB.out)) hb); clear HO_406000; clear BK405; clear HI400; clear HB; have HO_406000 := n0_; have BK405 := n1_; have HI400 := n2_; have HB := n3_; clear n0_ n1_ n2_ n3_; (try clear hb); (try clear hb2); (try clear hk); (try clear hi)))
              go_ret
              exact ⟨by first | rfl | (simp [errW_none, errW_some] <;> rfl) | (simp [*, errW_none, errW_some] <;> rfl), by repeat (first | (with_reducible first | exact HB.out | apply below_alloc | apply pw_below_drewN | apply below_drew1 | refine below_set ?_ (IsS56.ge HI400.out) | refine below_set ?_ GE405.out) | exact HB.out)⟩
            · rw [if_neg c36] at H
              have c36b0 : (t420 == (Go.bits .or .i64 t408 t411)) = false := beq_eq_false_iff_ne.mpr c36
              have c36b1 : (t420 != (Go.bits .or .i64 t408 t411)) = true := bne_iff_ne.mpr c36
              obtain rfl := Option.some.inj H
              try go_wp2_with (first | ((with_reducible refine gate_callee (f := 13) rfl ?_); refine goesL_ (some 38) rfl rfl Try.func13 (by kernel_rfl) rfl #[.pointer (some ⟨g400, 0, none⟩), .int .i64 1024] rfl (by (try simp only [List.map_toArray, List.map_cons, List.map_nil]); first | done | rfl | (simp only [List.length_drop, List.length_take]; rfl) | (simp only [List.length_nil, Int.natCast_zero, Int.zero_add, Int.ofNat_zero]; rfl)) ?_; (with_reducible refine (trustquorummake_Tape_N.calls g400 t398 t410 1024 t413 t414 w _ ?side1 ?side2 A28.out).mono ?_); (case side1 => repeat (first | (with_reducible first | exact HI400.out | apply IsS56.alloc | apply IsS56.drewN | apply IsS56.drew | apply IsS56.set_1 | refine IsS56.far ?_ NB400_405.out _) | exact HI400.out)); (case side2 => repeat (first | (with_reducible first | exact HB.out | apply below_alloc | apply pw_below_drewN | apply below_drew1 | refine below_set ?_ (IsS56.ge HI400.out) | refine below_set ?_ GE405.out) | exact HB.out)); rintro e w49 ⟨rfl, hi, hb, hk⟩; refine ⟨_, rfl, ?_⟩; have n0_ := Aside0.mk (Kd.R_mono (Kd.R_keep (IsS56.apart (show IsS56 w _ g400 t398 t410 from by repeat (first | (with_reducible first | exact HI400.out | apply IsS56.alloc | apply IsS56.drewN | apply IsS56.drew | apply IsS56.set_1 | refine IsS56.far ?_ NB400_405.out _) | exact HI400.out)) (by (with_reducible repeat (first | apply Kd.R_alloc | apply Kd.R_drewN | apply Kd.R_drew)); exact HO_406000.out) (by decide)) hk (fun _ h => h.2)) (fun _ h => h.1)); have n1_ := Aside0.mk (KeepBut.blk hk (g' := gb405) (o := .cells #[.slice Ao12 t401.length co12] 25 (0, 0)) (by (with_reducible repeat (first | refine blk_drewN ?_ _ | refine blk_drew ?_ | refine blk_alloc ?_ _)); exact BK405.out) NB405_400.out (by simp)); have n2_ := Aside0.mk (hb); have n3_ := Aside0.mk (hi); clear HO_406000; clear BK405; clear HB; clear HI400; have HO_406000 := n0_; have BK405 := n1_; have HB := n2_; have HI400 := n3_; clear n0_ n1_ n2_ n3_; (try clear hb); (try clear hb2); (try clear hk); (try clear hi)) | ((with_reducible refine gate_callee (f := 13) rfl ?_); refine goesL_ (some 41) rfl rfl Try.func13 (by kernel_rfl) rfl #[.pointer (some ⟨g400, 0, none⟩), .int .i64 1024] rfl (by (try simp only [List.map_toArray, List.map_cons, List.map_nil]); first | done | rfl | (simp only [List.length_drop, List.length_take]; rfl) | (simp only [List.length_nil, Int.natCast_zero, Int.zero_add, Int.ofNat_zero]; rfl)) ?_; (with_reducible refine (trustquorummake_Tape_N.calls g400 t398 t414 1024 t415 t416 w _ ?side1 ?side2 A29.out).mono ?_); (case side1 => repeat (first | (with_reducible first | exact HI400.out | apply IsS56.alloc | apply IsS56.drewN | apply IsS56.drew | apply IsS56.set_1 | refine IsS56.far ?_ NB400_405.out _) | exact HI400.out)); (case side2 => repeat (first | (with_reducible first | exact HB.out | apply below_alloc | apply pw_below_drewN | apply below_drew1 | refine below_set ?_ (IsS56.ge HI400.out) | refine below_set ?_ GE405.out) | exact HB.out)); rintro e w50 ⟨rfl, hi, hb, hk⟩; refine ⟨_, rfl, ?_⟩; have n0_ := Aside0.mk (Kd.R_mono (Kd.R_keep (IsS56.apart (show IsS56 w _ g400 t398 t414 from by repeat (first | (with_reducible first | exact HI400.out | apply IsS56.alloc | apply IsS56.drewN | apply IsS56.drew | apply IsS56.set_1 | refine IsS56.far ?_ NB400_405.out _) | exact HI400.out)) (by (with_reducible repeat (first | apply Kd.R_alloc | apply Kd.R_drewN | apply Kd.R_drew)); exact HO_406000.out) (by decide)) hk (fun _ h => h.2)) (fun _ h => h.1)); have n1_ := Aside0.mk (KeepBut.blk hk (g' := gb405) (o := .cells #[.slice Ao12 t401.length co12] 25 (0, 0)) (by (with_reducible repeat (first | refine blk_drewN ?_ _ | refine blk_drew ?_ | refine blk_alloc ?_ _)); exact BK405.out) NB405_400.out (by simp)); have n2_ := Aside0.mk (hb); have n3_ := Aside0.mk (hi); clear HO_406000; clear BK405; clear HB; clear HI400; have HO_406000 := n0_; have BK405 := n1_; have HB := n2_; have HI400 := n3_; clear n0_ n1_ n2_ n3_; (try clear hb); (try clear hb2); (try clear hk); (try clear hi)))
              have n0_ := Aside0.mk (Kd.R_drew HO_406000.out)
              have n1_ := Aside0.mk (blk_drew BK405.out)
              have n2_ := Aside0.mk (IsS56.drew HI400.out)
              have n3_ := Aside0.mk (below_drew1 HB.out)
              clear HO_406000
              clear BK405
              clear HI400
              clear HB
              have HO_406000 := n0_
              have BK405 := n1_
              have HI400 := n2_
              have HB := n3_
              clear n0_ n1_ n2_ n3_
              refine start_ (n := 8) (S := fun w' => w'.cell? ⟨gb405, 0, none⟩ = some (.slice Ao12 t401.length co12)) (ds := []) #[false, false, false, false, false, false, false, false] (by kernel_rfl) rfl rfl ((blk_cell BK405.out 0).trans rfl) (fun hHeld => ?_); refine with_tabW trustquorumlaw09_ClosureUnion.tab8 trustquorumlaw09_ClosureUnion.bits8 (fun HT_ HW_ => ?_)
              generalize w50.drew = w51 at HO_406000 BK405 HI400 HB hHeld ⊢
              refine pure_ (i := 1) (N := some 44) (v := ?_) (a' := ?_) #[false, true, false, false, false, false, false, false] rfl rfl (any_of HT_.out (by kernel_rfl)) (fun _ _ _ h => h) (Or.inl ⟨by rfl, ?_⟩) ?_ ?_
              rotate_left
              · intro w'
                go_simp
                with_reducible rfl
              rotate_left
              · simp only [Act.put, List.setIfInBounds_toArray, List.set_cons_zero, List.set_cons_succ, i64_w, i32_w]
                rfl
              refine pure_ (i := 4) (N := some 47) (v := ?_) (a' := ?_) #[false, true, false, false, true, false, false, false] rfl rfl (any_of HT_.out (by kernel_rfl)) (fun _ _ _ h => h) (Or.inl ⟨by rfl, ?_⟩) ?_ ?_
              rotate_left
              · intro w'
                go_simp
                with_reducible rfl
              rotate_left
              · simp only [Act.put, List.setIfInBounds_toArray, List.set_cons_zero, List.set_cons_succ, i64_w, i32_w]
                rfl
              refine take_ (i := 0) (N := some 43) (v := ?_) (a' := ?_) #[true, true, false, false, true, false, false, false] rfl rfl (take_ofW HT_.out HW_.out (by kernel_rfl)) (fun _ _ _ h => h) (Or.inl ⟨by rfl, ?_⟩) hHeld ?_ ?_
              rotate_left
              · intro w' s0
                go_simp
                with_reducible rfl
              rotate_left
              · simp only [Act.put, List.setIfInBounds_toArray, List.set_cons_zero, List.set_cons_succ, i64_w, i32_w]
                rfl
              refine take_ (i := 3) (N := some 46) (v := ?_) (a' := ?_) #[true, true, false, true, true, false, false, false] rfl rfl (take_ofW HT_.out HW_.out (by kernel_rfl)) (fun _ _ _ h => h) (Or.inl ⟨by rfl, ?_⟩) hHeld ?_ ?_
              rotate_left
              · intro w' s0
                go_simp
                with_reducible rfl
              rotate_left
              · simp only [Act.put, List.setIfInBounds_toArray, List.set_cons_zero, List.set_cons_succ, i64_w, i32_w]
                rfl
              refine one_ (i := 2) (N := some 45) #[true, true, true, true, true, false, false, false] rfl rfl (one_of HT_.out (by kernel_rfl)) (by decide) (fun K hK => ?_)
              refine goes_ Try.func17 (by kernel_rfl) rfl #[.agg #[.slice Ao12 t401.length co12], .int .i64 t413] (by rfl) rfl rfl (by (try simp only [List.map_toArray, List.map_cons, List.map_nil]); first | done | rfl | (simp only [List.length_drop, List.length_take]; rfl) | (simp only [List.length_nil, Int.natCast_zero, Int.zero_add, Int.ofNat_zero]; rfl)) ?_
              with_reducible refine (closure_Greatest.calls kj7 _ _ t401 t413 t417 _ ?side1 ?side2 A30.out).mono ?_
              (case side1 => repeat (first | exact (Kd.R_reads' HO_406000.out).2.2 | (with_reducible refine Kd.C_alloc ?_ _) | (with_reducible refine Kd.C_drewN ?_ _) | (with_reducible refine Kd.C_drew ?_)))
              (case side2 => exact (Kd.R_reads' HO_406000.out).2.1)
              rintro e w52 ⟨rfl, hb⟩
              refine ⟨_, rfl, ?_⟩
              have n0_ := Aside0.mk (Kd.R_below (by (with_reducible repeat (first | apply Kd.R_alloc | apply Kd.R_drewN | apply Kd.R_drew)); exact HO_406000.out) hb)
              have n1_ := Aside0.mk (blk_below (g := gb405) (o := .cells #[.slice Ao12 t401.length co12] 25 (0, 0)) (by (with_reducible repeat (first | refine blk_drewN ?_ _ | refine blk_drew ?_ | refine blk_alloc ?_ _)); exact BK405.out) hb)
              have n2_ := Aside0.mk (IsS56.below (by repeat (first | (with_reducible first | exact HI400.out | apply IsS56.alloc | apply IsS56.drewN | apply IsS56.drew | apply IsS56.set_1 | refine IsS56.far ?_ NB400_405.out _) | exact HI400.out)) hb)
              have n3_ := Aside0.mk (below_step (by repeat (first | (with_reducible first | exact HB.out | apply below_alloc | apply pw_below_drewN | apply below_drew1 | refine below_set ?_ (IsS56.ge HI400.out) | refine below_set ?_ GE405.out) | exact HB.out)) hb)
              clear HO_406000
              clear BK405
              clear HI400
              clear HB
              have HO_406000 := n0_
              have BK405 := n1_
              have HI400 := n2_
              have HB := n3_
              clear n0_ n1_ n2_ n3_
              (try clear hb)
              (try clear hb2)
              (try clear hk)
              (try clear hi)
              refine hK.out _ _ ((blk_cell BK405.out 0).trans rfl) (fun hHeld => ?_)
              clear hK K
              refine norm_ (a' := ?_) ?_ ?_
              rotate_left
              · show Act.put _ (some 45) _ = _
                simp only [Act.put, List.setIfInBounds_toArray, List.set_cons_zero, List.set_cons_succ, i64_w, i32_w]
                rfl
              refine one_ (i := 5) (N := some 48) #[true, true, true, true, true, true, false, false] rfl rfl (one_of HT_.out (by kernel_rfl)) (by decide) (fun K hK => ?_)
              refine goes_ Try.func17 (by kernel_rfl) rfl #[.agg #[.slice Ao12 t401.length co12], .int .i64 (Go.bits .or .i64 t413 t415)] (by rfl) rfl rfl (by (try simp only [List.map_toArray, List.map_cons, List.map_nil]); first | done | rfl | (simp only [List.length_drop, List.length_take]; rfl) | (simp only [List.length_nil, Int.natCast_zero, Int.zero_add, Int.ofNat_zero]; rfl)) ?_
              with_reducible refine (closure_Greatest.calls kj7 _ _ t401 (Go.bits .or .i64 t413 t415) t418 _ ?side1 ?side2 A31.out).mono ?_
              (case side1 => repeat (first | exact (Kd.R_reads' HO_406000.out).2.2 | (with_reducible refine Kd.C_alloc ?_ _) | (with_reducible refine Kd.C_drewN ?_ _) | (with_reducible refine Kd.C_drew ?_)))
              (case side2 => exact (Kd.R_reads' HO_406000.out).2.1)
              rintro e w53 ⟨rfl, hb⟩
              refine ⟨_, rfl, ?_⟩
              have n0_ := Aside0.mk (Kd.R_below (by (with_reducible repeat (first | apply Kd.R_alloc | apply Kd.R_drewN | apply Kd.R_drew)); exact HO_406000.out) hb)
              have n1_ := Aside0.mk (blk_below (g := gb405) (o := .cells #[.slice Ao12 t401.length co12] 25 (0, 0)) (by (with_reducible repeat (first | refine blk_drewN ?_ _ | refine blk_drew ?_ | refine blk_alloc ?_ _)); exact BK405.out) hb)
              have n2_ := Aside0.mk (IsS56.below (by repeat (first | (with_reducible first | exact HI400.out | apply IsS56.alloc | apply IsS56.drewN | apply IsS56.drew | apply IsS56.set_1 | refine IsS56.far ?_ NB400_405.out _) | exact HI400.out)) hb)
              have n3_ := Aside0.mk (below_step (by repeat (first | (with_reducible first | exact HB.out | apply below_alloc | apply pw_below_drewN | apply below_drew1 | refine below_set ?_ (IsS56.ge HI400.out) | refine below_set ?_ GE405.out) | exact HB.out)) hb)
              clear HO_406000
              clear BK405
              clear HI400
              clear HB
              have HO_406000 := n0_
              have BK405 := n1_
              have HI400 := n2_
              have HB := n3_
              clear n0_ n1_ n2_ n3_
              (try clear hb)
              (try clear hb2)
              (try clear hk)
              (try clear hi)
              refine hK.out _ _ ((blk_cell BK405.out 0).trans rfl) (fun hHeld => ?_)
              clear hK K
              refine norm_ (a' := ?_) ?_ ?_
              rotate_left
              · show Act.put _ (some 48) _ = _
                simp only [Act.put, List.setIfInBounds_toArray, List.set_cons_zero, List.set_cons_succ, i64_w, i32_w]
                rfl
              refine pure_ (i := 6) (N := some 9) (v := ?_) (a' := ?_) #[true, true, true, true, true, true, true, false] rfl rfl (any_of HT_.out (by kernel_rfl)) (fun _ _ _ h => h) (Or.inl ⟨by rfl, ?_⟩) ?_ ?_
              rotate_left
              · intro w'
                go_simp
                with_reducible rfl
              rotate_left
              · simp only [Act.put, List.setIfInBounds_toArray, List.set_cons_zero, List.set_cons_succ, i64_w, i32_w]
                rfl
              refine pure_ (i := 7) (N := some 10) (v := ?_) (a' := ?_) #[true, true, true, true, true, true, true, true] rfl rfl (any_of HT_.out (by kernel_rfl)) (fun _ _ _ h => h) (Or.inl ⟨by rfl, ?_⟩) ?_ ?_
              rotate_left
              · intro w'
                go_simp
                with_reducible rfl
              rotate_left
              · simp only [Act.put, List.setIfInBounds_toArray, List.set_cons_zero, List.set_cons_succ, i64_w, i32_w]
                rfl
              refine done_ (done_of HT_.out (by kernel_rfl)) ?_
              have hnb54 := NB405_400.out
              have hnc54 := NB400_405.out
              have hcz55_0 : w53.cell? ⟨gb405, 0, none⟩ = some (.slice Ao12 t401.length co12) := (blk_cell BK405.out 0).trans rfl
              have hfz55_0 := blk_frozen BK405.out 0
              try go_wp2_with (first | (go_at_call 17; (with_reducible refine (closure_Greatest.calls kj7 _ _ t401 t417 t419 _ ?side1 ?side2 A33.out).mono ?_); (case side1 => repeat (first | exact (Kd.R_reads' HO_406000.out).2.2 | (with_reducible refine Kd.C_alloc ?_ _) | (with_reducible refine Kd.C_drewN ?_ _) | (with_reducible refine Kd.C_drew ?_))); (case side2 => exact (Kd.R_reads' HO_406000.out).2.1); rintro e w56 ⟨rfl, hb⟩; have n0_ := Aside0.mk (Kd.R_below (by (with_reducible repeat (first | apply Kd.R_alloc | apply Kd.R_drewN | apply Kd.R_drew)); exact HO_406000.out) hb); have n1_ := Aside0.mk (blk_below (g := gb405) (o := .cells #[.slice Ao12 t401.length co12] 25 (0, 0)) (by (with_reducible repeat (first | refine blk_drewN ?_ _ | refine blk_drew ?_ | refine blk_alloc ?_ _)); exact BK405.out) hb); have n2_ := Aside0.mk (IsS56.below (by repeat (first | (with_reducible first | exact HI400.out | apply IsS56.alloc | apply IsS56.drewN | apply IsS56.drew | apply IsS56.set_1 | refine IsS56.far ?_ NB400_405.out _) | exact HI400.out)) hb); have n3_ := Aside0.mk (below_step (by repeat (first | (with_reducible first | exact HB.out | apply below_alloc | apply pw_below_drewN | apply below_drew1 | refine below_set ?_ (IsS56.ge HI400.out) | refine below_set ?_ GE405.out) | exact HB.out)) hb); clear HO_406000; clear BK405; clear HI400; clear HB; have HO_406000 := n0_; have BK405 := n1_; have HI400 := n2_; have HB := n3_; clear n0_ n1_ n2_ n3_; (try clear hb); (try clear hb2); (try clear hk); (try clear hi); have hcz57_0 : w56.cell? ⟨gb405, 0, none⟩ = some (.slice Ao12 t401.length co12) := (blk_cell BK405.out 0).trans rfl; have hfz57_0 := blk_frozen BK405.out 0) | (go_at_call 17; (with_reducible refine (closure_Greatest.calls kj7 _ _ t401 (Go.bits .or .i64 t408 t411) t420 _ ?side1 ?side2 A35.out).mono ?_); (case side1 => repeat (first | exact (Kd.R_reads' HO_406000.out).2.2 | (with_reducible refine Kd.C_alloc ?_ _) | (with_reducible refine Kd.C_drewN ?_ _) | (with_reducible refine Kd.C_drew ?_))); (case side2 => exact (Kd.R_reads' HO_406000.out).2.1); rintro e w58 ⟨rfl, hb⟩; have n0_ := Aside0.mk (Kd.R_below (by (with_reducible repeat (first | apply Kd.R_alloc | apply Kd.R_drewN | apply Kd.R_drew)); exact HO_406000.out) hb); have n1_ := Aside0.mk (blk_below (g := gb405) (o := .cells #[.slice Ao12 t401.length co12] 25 (0, 0)) (by (with_reducible repeat (first | refine blk_drewN ?_ _ | refine blk_drew ?_ | refine blk_alloc ?_ _)); exact BK405.out) hb); have n2_ := Aside0.mk (IsS56.below (by repeat (first | (with_reducible first | exact HI400.out | apply IsS56.alloc | apply IsS56.drewN | apply IsS56.drew | apply IsS56.set_1 | refine IsS56.far ?_ NB400_405.out _) | exact HI400.out)) hb); have n3_ := Aside0.mk (below_step (by repeat (first | (with_reducible first | exact HB.out | apply below_alloc | apply pw_below_drewN | apply below_drew1 | refine below_set ?_ (IsS56.ge HI400.out) | refine below_set ?_ GE405.out) | exact HB.out)) hb); clear HO_406000; clear BK405; clear HI400; clear HB; have HO_406000 := n0_; have BK405 := n1_; have HI400 := n2_; have HB := n3_; clear n0_ n1_ n2_ n3_; (try clear hb); (try clear hb2); (try clear hk); (try clear hi)))
              go_ret
              exact ⟨by first | rfl | (simp [errW_none, errW_some] <;> rfl) | (simp [*, errW_none, errW_some] <;> rfl), by repeat (first | (with_reducible first | exact HB.out | apply below_alloc | apply pw_below_drewN | apply below_drew1 | refine below_set ?_ (IsS56.ge HI400.out) | refine below_set ?_ GE405.out) | exact HB.out)⟩
          · rw [if_neg c34] at H
            have c34b0 : (t419 == t417) = false := beq_eq_false_iff_ne.mpr c34
            have c34b1 : (t419 != t417) = true := bne_iff_ne.mpr c34
            obtain rfl := Option.some.inj H
            try go_wp2_with (first | ((with_reducible refine gate_callee (f := 13) rfl ?_); refine goesL_ (some 38) rfl rfl Try.func13 (by kernel_rfl) rfl #[.pointer (some ⟨g400, 0, none⟩), .int .i64 1024] rfl (by (try simp only [List.map_toArray, List.map_cons, List.map_nil]); first | done | rfl | (simp only [List.length_drop, List.length_take]; rfl) | (simp only [List.length_nil, Int.natCast_zero, Int.zero_add, Int.ofNat_zero]; rfl)) ?_; (with_reducible refine (trustquorummake_Tape_N.calls g400 t398 t410 1024 t413 t414 w _ ?side1 ?side2 A28.out).mono ?_); (case side1 => repeat (first | (with_reducible first | exact HI400.out | apply IsS56.alloc | apply IsS56.drewN | apply IsS56.drew | apply IsS56.set_1 | refine IsS56.far ?_ NB400_405.out _) | exact HI400.out)); (case side2 => repeat (first | (with_reducible first | exact HB.out | apply below_alloc | apply pw_below_drewN | apply below_drew1 | refine below_set ?_ (IsS56.ge HI400.out) | refine below_set ?_ GE405.out) | exact HB.out)); rintro e w59 ⟨rfl, hi, hb, hk⟩; refine ⟨_, rfl, ?_⟩; have n0_ := Aside0.mk (Kd.R_mono (Kd.R_keep (IsS56.apart (show IsS56 w _ g400 t398 t410 from by repeat (first | (with_reducible first | exact HI400.out | apply IsS56.alloc | apply IsS56.drewN | apply IsS56.drew | apply IsS56.set_1 | refine IsS56.far ?_ NB400_405.out _) | exact HI400.out)) (by (with_reducible repeat (first | apply Kd.R_alloc | apply Kd.R_drewN | apply Kd.R_drew)); exact HO_406000.out) (by decide)) hk (fun _ h => h.2)) (fun _ h => h.1)); have n1_ := Aside0.mk (KeepBut.blk hk (g' := gb405) (o := .cells #[.slice Ao12 t401.length co12] 25 (0, 0)) (by (with_reducible repeat (first | refine blk_drewN ?_ _ | refine blk_drew ?_ | refine blk_alloc ?_ _)); exact BK405.out) NB405_400.out (by simp)); have n2_ := Aside0.mk (hb); have n3_ := Aside0.mk (hi); clear HO_406000; clear BK405; clear HB; clear HI400; have HO_406000 := n0_; have BK405 := n1_; have HB := n2_; have HI400 := n3_; clear n0_ n1_ n2_ n3_; (try clear hb); (try clear hb2); (try clear hk); (try clear hi)) | ((with_reducible refine gate_callee (f := 13) rfl ?_); refine goesL_ (some 41) rfl rfl Try.func13 (by kernel_rfl) rfl #[.pointer (some ⟨g400, 0, none⟩), .int .i64 1024] rfl (by (try simp only [List.map_toArray, List.map_cons, List.map_nil]); first | done | rfl | (simp only [List.length_drop, List.length_take]; rfl) | (simp only [List.length_nil, Int.natCast_zero, Int.zero_add, Int.ofNat_zero]; rfl)) ?_; (with_reducible refine (trustquorummake_Tape_N.calls g400 t398 t414 1024 t415 t416 w _ ?side1 ?side2 A29.out).mono ?_); (case side1 => repeat (first | (with_reducible first | exact HI400.out | apply IsS56.alloc | apply IsS56.drewN | apply IsS56.drew | apply IsS56.set_1 | refine IsS56.far ?_ NB400_405.out _) | exact HI400.out)); (case side2 => repeat (first | (with_reducible first | exact HB.out | apply below_alloc | apply pw_below_drewN | apply below_drew1 | refine below_set ?_ (IsS56.ge HI400.out) | refine below_set ?_ GE405.out) | exact HB.out)); rintro e w60 ⟨rfl, hi, hb, hk⟩; refine ⟨_, rfl, ?_⟩; have n0_ := Aside0.mk (Kd.R_mono (Kd.R_keep (IsS56.apart (show IsS56 w _ g400 t398 t414 from by repeat (first | (with_reducible first | exact HI400.out | apply IsS56.alloc | apply IsS56.drewN | apply IsS56.drew | apply IsS56.set_1 | refine IsS56.far ?_ NB400_405.out _) | exact HI400.out)) (by (with_reducible repeat (first | apply Kd.R_alloc | apply Kd.R_drewN | apply Kd.R_drew)); exact HO_406000.out) (by decide)) hk (fun _ h => h.2)) (fun _ h => h.1)); have n1_ := Aside0.mk (KeepBut.blk hk (g' := gb405) (o := .cells #[.slice Ao12 t401.length co12] 25 (0, 0)) (by (with_reducible repeat (first | refine blk_drewN ?_ _ | refine blk_drew ?_ | refine blk_alloc ?_ _)); exact BK405.out) NB405_400.out (by simp)); have n2_ := Aside0.mk (hb); have n3_ := Aside0.mk (hi); clear HO_406000; clear BK405; clear HB; clear HI400; have HO_406000 := n0_; have BK405 := n1_; have HB := n2_; have HI400 := n3_; clear n0_ n1_ n2_ n3_; (try clear hb); (try clear hb2); (try clear hk); (try clear hi)))
            have n0_ := Aside0.mk (Kd.R_drew HO_406000.out)
            have n1_ := Aside0.mk (blk_drew BK405.out)
            have n2_ := Aside0.mk (IsS56.drew HI400.out)
            have n3_ := Aside0.mk (below_drew1 HB.out)
            clear HO_406000
            clear BK405
            clear HI400
            clear HB
            have HO_406000 := n0_
            have BK405 := n1_
            have HI400 := n2_
            have HB := n3_
            clear n0_ n1_ n2_ n3_
            refine start_ (n := 8) (S := fun w' => w'.cell? ⟨gb405, 0, none⟩ = some (.slice Ao12 t401.length co12)) (ds := []) #[false, false, false, false, false, false, false, false] (by kernel_rfl) rfl rfl ((blk_cell BK405.out 0).trans rfl) (fun hHeld => ?_); refine with_tabW trustquorumlaw09_ClosureUnion.tab8 trustquorumlaw09_ClosureUnion.bits8 (fun HT_ HW_ => ?_)
            generalize w60.drew = w61 at HO_406000 BK405 HI400 HB hHeld ⊢
            refine pure_ (i := 1) (N := some 44) (v := ?_) (a' := ?_) #[false, true, false, false, false, false, false, false] rfl rfl (any_of HT_.out (by kernel_rfl)) (fun _ _ _ h => h) (Or.inl ⟨by rfl, ?_⟩) ?_ ?_
            rotate_left
            · intro w'
              go_simp
              with_reducible rfl
            rotate_left
            · simp only [Act.put, List.setIfInBounds_toArray, List.set_cons_zero, List.set_cons_succ, i64_w, i32_w]
              rfl
            refine pure_ (i := 4) (N := some 47) (v := ?_) (a' := ?_) #[false, true, false, false, true, false, false, false] rfl rfl (any_of HT_.out (by kernel_rfl)) (fun _ _ _ h => h) (Or.inl ⟨by rfl, ?_⟩) ?_ ?_
            rotate_left
            · intro w'
              go_simp
              with_reducible rfl
            rotate_left
            · simp only [Act.put, List.setIfInBounds_toArray, List.set_cons_zero, List.set_cons_succ, i64_w, i32_w]
              rfl
            refine take_ (i := 0) (N := some 43) (v := ?_) (a' := ?_) #[true, true, false, false, true, false, false, false] rfl rfl (take_ofW HT_.out HW_.out (by kernel_rfl)) (fun _ _ _ h => h) (Or.inl ⟨by rfl, ?_⟩) hHeld ?_ ?_
            rotate_left
            · intro w' s0
              go_simp
              with_reducible rfl
            rotate_left
            · simp only [Act.put, List.setIfInBounds_toArray, List.set_cons_zero, List.set_cons_succ, i64_w, i32_w]
              rfl
            refine take_ (i := 3) (N := some 46) (v := ?_) (a' := ?_) #[true, true, false, true, true, false, false, false] rfl rfl (take_ofW HT_.out HW_.out (by kernel_rfl)) (fun _ _ _ h => h) (Or.inl ⟨by rfl, ?_⟩) hHeld ?_ ?_
            rotate_left
            · intro w' s0
              go_simp
              with_reducible rfl
            rotate_left
            · simp only [Act.put, List.setIfInBounds_toArray, List.set_cons_zero, List.set_cons_succ, i64_w, i32_w]
              rfl
            refine one_ (i := 2) (N := some 45) #[true, true, true, true, true, false, false, false] rfl rfl (one_of HT_.out (by kernel_rfl)) (by decide) (fun K hK => ?_)
            refine goes_ Try.func17 (by kernel_rfl) rfl #[.agg #[.slice Ao12 t401.length co12], .int .i64 t413] (by rfl) rfl rfl (by (try simp only [List.map_toArray, List.map_cons, List.map_nil]); first | done | rfl | (simp only [List.length_drop, List.length_take]; rfl) | (simp only [List.length_nil, Int.natCast_zero, Int.zero_add, Int.ofNat_zero]; rfl)) ?_
            with_reducible refine (closure_Greatest.calls kj7 _ _ t401 t413 t417 _ ?side1 ?side2 A30.out).mono ?_
            (case side1 => repeat (first | exact (Kd.R_reads' HO_406000.out).2.2 | (with_reducible refine Kd.C_alloc ?_ _) | (with_reducible refine Kd.C_drewN ?_ _) | (with_reducible refine Kd.C_drew ?_)))
            (case side2 => exact (Kd.R_reads' HO_406000.out).2.1)
            rintro e w62 ⟨rfl, hb⟩
            refine ⟨_, rfl, ?_⟩
            have n0_ := Aside0.mk (Kd.R_below (by (with_reducible repeat (first | apply Kd.R_alloc | apply Kd.R_drewN | apply Kd.R_drew)); exact HO_406000.out) hb)
            have n1_ := Aside0.mk (blk_below (g := gb405) (o := .cells #[.slice Ao12 t401.length co12] 25 (0, 0)) (by (with_reducible repeat (first | refine blk_drewN ?_ _ | refine blk_drew ?_ | refine blk_alloc ?_ _)); exact BK405.out) hb)
            have n2_ := Aside0.mk (IsS56.below (by repeat (first | (with_reducible first | exact HI400.out | apply IsS56.alloc | apply IsS56.drewN | apply IsS56.drew | apply IsS56.set_1 | refine IsS56.far ?_ NB400_405.out _) | exact HI400.out)) hb)
            have n3_ := Aside0.mk (below_step (by repeat (first | (with_reducible first | exact HB.out | apply below_alloc | apply pw_below_drewN | apply below_drew1 | refine below_set ?_ (IsS56.ge HI400.out) | refine below_set ?_ GE405.out) | exact HB.out)) hb)
            clear HO_406000
            clear BK405
            clear HI400
            clear HB
            have HO_406000 := n0_
            have BK405 := n1_
            have HI400 := n2_
            have HB := n3_
            clear n0_ n1_ n2_ n3_
            (try clear hb)
            (try clear hb2)
            (try clear hk)
            (try clear hi)
            refine hK.out _ _ ((blk_cell BK405.out 0).trans rfl) (fun hHeld => ?_)
            clear hK K
            refine norm_ (a' := ?_) ?_ ?_
            rotate_left
            · show Act.put _ (some 45) _ = _
              simp only [Act.put, List.setIfInBounds_toArray, List.set_cons_zero, List.set_cons_succ, i64_w, i32_w]
              rfl
            refine one_ (i := 5) (N := some 48) #[true, true, true, true, true, true, false, false] rfl rfl (one_of HT_.out (by kernel_rfl)) (by decide) (fun K hK => ?_)
            refine goes_ Try.func17 (by kernel_rfl) rfl #[.agg #[.slice Ao12 t401.length co12], .int .i64 (Go.bits .or .i64 t413 t415)] (by rfl) rfl rfl (by (try simp only [List.map_toArray, List.map_cons, List.map_nil]); first | done | rfl | (simp only [List.length_drop, List.length_take]; rfl) | (simp only [List.length_nil, Int.natCast_zero, Int.zero_add, Int.ofNat_zero]; rfl)) ?_
            with_reducible refine (closure_Greatest.calls kj7 _ _ t401 (Go.bits .or .i64 t413 t415) t418 _ ?side1 ?side2 A31.out).mono ?_
            (case side1 => repeat (first | exact (Kd.R_reads' HO_406000.out).2.2 | (with_reducible refine Kd.C_alloc ?_ _) | (with_reducible refine Kd.C_drewN ?_ _) | (with_reducible refine Kd.C_drew ?_)))
            (case side2 => exact (Kd.R_reads' HO_406000.out).2.1)
            rintro e w63 ⟨rfl, hb⟩
            refine ⟨_, rfl, ?_⟩
            have n0_ := Aside0.mk (Kd.R_below (by (with_reducible repeat (first | apply Kd.R_alloc | apply Kd.R_drewN | apply Kd.R_drew)); exact HO_406000.out) hb)
            have n1_ := Aside0.mk (blk_below (g := gb405) (o := .cells #[.slice Ao12 t401.length co12] 25 (0, 0)) (by (with_reducible repeat (first | refine blk_drewN ?_ _ | refine blk_drew ?_ | refine blk_alloc ?_ _)); exact BK405.out) hb)
            have n2_ := Aside0.mk (IsS56.below (by repeat (first | (with_reducible first | exact HI400.out | apply IsS56.alloc | apply IsS56.drewN | apply IsS56.drew | apply IsS56.set_1 | refine IsS56.far ?_ NB400_405.out _) | exact HI400.out)) hb)
            have n3_ := Aside0.mk (below_step (by repeat (first | (with_reducible first | exact HB.out | apply below_alloc | apply pw_below_drewN | apply below_drew1 | refine below_set ?_ (IsS56.ge HI400.out) | refine below_set ?_ GE405.out) | exact HB.out)) hb)
            clear HO_406000
            clear BK405
            clear HI400
            clear HB
            have HO_406000 := n0_
            have BK405 := n1_
            have HI400 := n2_
            have HB := n3_
            clear n0_ n1_ n2_ n3_
            (try clear hb)
            (try clear hb2)
            (try clear hk)
            (try clear hi)
            refine hK.out _ _ ((blk_cell BK405.out 0).trans rfl) (fun hHeld => ?_)
            clear hK K
            refine norm_ (a' := ?_) ?_ ?_
            rotate_left
            · show Act.put _ (some 48) _ = _
              simp only [Act.put, List.setIfInBounds_toArray, List.set_cons_zero, List.set_cons_succ, i64_w, i32_w]
              rfl
            refine pure_ (i := 6) (N := some 9) (v := ?_) (a' := ?_) #[true, true, true, true, true, true, true, false] rfl rfl (any_of HT_.out (by kernel_rfl)) (fun _ _ _ h => h) (Or.inl ⟨by rfl, ?_⟩) ?_ ?_
            rotate_left
            · intro w'
              go_simp
              with_reducible rfl
            rotate_left
            · simp only [Act.put, List.setIfInBounds_toArray, List.set_cons_zero, List.set_cons_succ, i64_w, i32_w]
              rfl
            refine pure_ (i := 7) (N := some 10) (v := ?_) (a' := ?_) #[true, true, true, true, true, true, true, true] rfl rfl (any_of HT_.out (by kernel_rfl)) (fun _ _ _ h => h) (Or.inl ⟨by rfl, ?_⟩) ?_ ?_
            rotate_left
            · intro w'
              go_simp
              with_reducible rfl
            rotate_left
            · simp only [Act.put, List.setIfInBounds_toArray, List.set_cons_zero, List.set_cons_succ, i64_w, i32_w]
              rfl
            refine done_ (done_of HT_.out (by kernel_rfl)) ?_
            have hnb64 := NB405_400.out
            have hnc64 := NB400_405.out
            have hcz65_0 : w63.cell? ⟨gb405, 0, none⟩ = some (.slice Ao12 t401.length co12) := (blk_cell BK405.out 0).trans rfl
            have hfz65_0 := blk_frozen BK405.out 0
            try go_wp2_with (first | (go_at_call 17; (with_reducible refine (closure_Greatest.calls kj7 _ _ t401 t417 t419 _ ?side1 ?side2 A33.out).mono ?_); (case side1 => repeat (first | exact (Kd.R_reads' HO_406000.out).2.2 | (with_reducible refine Kd.C_alloc ?_ _) | (with_reducible refine Kd.C_drewN ?_ _) | (with_reducible refine Kd.C_drew ?_))); (case side2 => exact (Kd.R_reads' HO_406000.out).2.1); rintro e w66 ⟨rfl, hb⟩; have n0_ := Aside0.mk (Kd.R_below (by (with_reducible repeat (first | apply Kd.R_alloc | apply Kd.R_drewN | apply Kd.R_drew)); exact HO_406000.out) hb); have n1_ := Aside0.mk (blk_below (g := gb405) (o := .cells #[.slice Ao12 t401.length co12] 25 (0, 0)) (by (with_reducible repeat (first | refine blk_drewN ?_ _ | refine blk_drew ?_ | refine blk_alloc ?_ _)); exact BK405.out) hb); have n2_ := Aside0.mk (IsS56.below (by repeat (first | (with_reducible first | exact HI400.out | apply IsS56.alloc | apply IsS56.drewN | apply IsS56.drew | apply IsS56.set_1 | refine IsS56.far ?_ NB400_405.out _) | exact HI400.out)) hb); have n3_ := Aside0.mk (below_step (by repeat (first | (with_reducible first | exact HB.out | apply below_alloc | apply pw_below_drewN | apply below_drew1 | refine below_set ?_ (IsS56.ge HI400.out) | refine below_set ?_ GE405.out) | exact HB.out)) hb); clear HO_406000; clear BK405; clear HI400; clear HB; have HO_406000 := n0_; have BK405 := n1_; have HI400 := n2_; have HB := n3_; clear n0_ n1_ n2_ n3_; (try clear hb); (try clear hb2); (try clear hk); (try clear hi)))
            go_ret
            exact ⟨by first | rfl | (simp [errW_none, errW_some] <;> rfl) | (simp [*, errW_none, errW_some] <;> rfl), by repeat (first | (with_reducible first | exact HB.out | apply below_alloc | apply pw_below_drewN | apply below_drew1 | refine below_set ?_ (IsS56.ge HI400.out) | refine below_set ?_ GE405.out) | exact HB.out)⟩
        · rw [if_neg c32] at H
          have c32b0 : ((Go.bits .and .i64 t417 t418) == t417) = false := beq_eq_false_iff_ne.mpr c32
          have c32b1 : ((Go.bits .and .i64 t417 t418) != t417) = true := bne_iff_ne.mpr c32
          obtain rfl := Option.some.inj H
          try go_wp2_with (first | ((with_reducible refine gate_callee (f := 13) rfl ?_); refine goesL_ (some 38) rfl rfl Try.func13 (by kernel_rfl) rfl #[.pointer (some ⟨g400, 0, none⟩), .int .i64 1024] rfl (by (try simp only [List.map_toArray, List.map_cons, List.map_nil]); first | done | rfl | (simp only [List.length_drop, List.length_take]; rfl) | (simp only [List.length_nil, Int.natCast_zero, Int.zero_add, Int.ofNat_zero]; rfl)) ?_; (with_reducible refine (trustquorummake_Tape_N.calls g400 t398 t410 1024 t413 t414 w _ ?side1 ?side2 A28.out).mono ?_); (case side1 => repeat (first | (with_reducible first | exact HI400.out | apply IsS56.alloc | apply IsS56.drewN | apply IsS56.drew | apply IsS56.set_1 | refine IsS56.far ?_ NB400_405.out _) | exact HI400.out)); (case side2 => repeat (first | (with_reducible first | exact HB.out | apply below_alloc | apply pw_below_drewN | apply below_drew1 | refine below_set ?_ (IsS56.ge HI400.out) | refine below_set ?_ GE405.out) | exact HB.out)); rintro e w67 ⟨rfl, hi, hb, hk⟩; refine ⟨_, rfl, ?_⟩; have n0_ := Aside0.mk (Kd.R_mono (Kd.R_keep (IsS56.apart (show IsS56 w _ g400 t398 t410 from by repeat (first | (with_reducible first | exact HI400.out | apply IsS56.alloc | apply IsS56.drewN | apply IsS56.drew | apply IsS56.set_1 | refine IsS56.far ?_ NB400_405.out _) | exact HI400.out)) (by (with_reducible repeat (first | apply Kd.R_alloc | apply Kd.R_drewN | apply Kd.R_drew)); exact HO_406000.out) (by decide)) hk (fun _ h => h.2)) (fun _ h => h.1)); have n1_ := Aside0.mk (KeepBut.blk hk (g' := gb405) (o := .cells #[.slice Ao12 t401.length co12] 25 (0, 0)) (by (with_reducible repeat (first | refine blk_drewN ?_ _ | refine blk_drew ?_ | refine blk_alloc ?_ _)); exact BK405.out) NB405_400.out (by simp)); have n2_ := Aside0.mk (hb); have n3_ := Aside0.mk (hi); clear HO_406000; clear BK405; clear HB; clear HI400; have HO_406000 := n0_; have BK405 := n1_; have HB := n2_; have HI400 := n3_; clear n0_ n1_ n2_ n3_; (try clear hb); (try clear hb2); (try clear hk); (try clear hi)) | ((with_reducible refine gate_callee (f := 13) rfl ?_); refine goesL_ (some 41) rfl rfl Try.func13 (by kernel_rfl) rfl #[.pointer (some ⟨g400, 0, none⟩), .int .i64 1024] rfl (by (try simp only [List.map_toArray, List.map_cons, List.map_nil]); first | done | rfl | (simp only [List.length_drop, List.length_take]; rfl) | (simp only [List.length_nil, Int.natCast_zero, Int.zero_add, Int.ofNat_zero]; rfl)) ?_; (with_reducible refine (trustquorummake_Tape_N.calls g400 t398 t414 1024 t415 t416 w _ ?side1 ?side2 A29.out).mono ?_); (case side1 => repeat (first | (with_reducible first | exact HI400.out | apply IsS56.alloc | apply IsS56.drewN | apply IsS56.drew | apply IsS56.set_1 | refine IsS56.far ?_ NB400_405.out _) | exact HI400.out)); (case side2 => repeat (first | (with_reducible first | exact HB.out | apply below_alloc | apply pw_below_drewN | apply below_drew1 | refine below_set ?_ (IsS56.ge HI400.out) | refine below_set ?_ GE405.out) | exact HB.out)); rintro e w68 ⟨rfl, hi, hb, hk⟩; refine ⟨_, rfl, ?_⟩; have n0_ := Aside0.mk (Kd.R_mono (Kd.R_keep (IsS56.apart (show IsS56 w _ g400 t398 t414 from by repeat (first | (with_reducible first | exact HI400.out | apply IsS56.alloc | apply IsS56.drewN | apply IsS56.drew | apply IsS56.set_1 | refine IsS56.far ?_ NB400_405.out _) | exact HI400.out)) (by (with_reducible repeat (first | apply Kd.R_alloc | apply Kd.R_drewN | apply Kd.R_drew)); exact HO_406000.out) (by decide)) hk (fun _ h => h.2)) (fun _ h => h.1)); have n1_ := Aside0.mk (KeepBut.blk hk (g' := gb405) (o := .cells #[.slice Ao12 t401.length co12] 25 (0, 0)) (by (with_reducible repeat (first | refine blk_drewN ?_ _ | refine blk_drew ?_ | refine blk_alloc ?_ _)); exact BK405.out) NB405_400.out (by simp)); have n2_ := Aside0.mk (hb); have n3_ := Aside0.mk (hi); clear HO_406000; clear BK405; clear HB; clear HI400; have HO_406000 := n0_; have BK405 := n1_; have HB := n2_; have HI400 := n3_; clear n0_ n1_ n2_ n3_; (try clear hb); (try clear hb2); (try clear hk); (try clear hi)))
          have n0_ := Aside0.mk (Kd.R_drew HO_406000.out)
          have n1_ := Aside0.mk (blk_drew BK405.out)
          have n2_ := Aside0.mk (IsS56.drew HI400.out)
          have n3_ := Aside0.mk (below_drew1 HB.out)
          clear HO_406000
          clear BK405
          clear HI400
          clear HB
          have HO_406000 := n0_
          have BK405 := n1_
          have HI400 := n2_
          have HB := n3_
          clear n0_ n1_ n2_ n3_
          refine start_ (n := 8) (S := fun w' => w'.cell? ⟨gb405, 0, none⟩ = some (.slice Ao12 t401.length co12)) (ds := []) #[false, false, false, false, false, false, false, false] (by kernel_rfl) rfl rfl ((blk_cell BK405.out 0).trans rfl) (fun hHeld => ?_); refine with_tabW trustquorumlaw09_ClosureUnion.tab8 trustquorumlaw09_ClosureUnion.bits8 (fun HT_ HW_ => ?_)
          generalize w68.drew = w69 at HO_406000 BK405 HI400 HB hHeld ⊢
          refine pure_ (i := 1) (N := some 44) (v := ?_) (a' := ?_) #[false, true, false, false, false, false, false, false] rfl rfl (any_of HT_.out (by kernel_rfl)) (fun _ _ _ h => h) (Or.inl ⟨by rfl, ?_⟩) ?_ ?_
          rotate_left
          · intro w'
            go_simp
            with_reducible rfl
          rotate_left
          · simp only [Act.put, List.setIfInBounds_toArray, List.set_cons_zero, List.set_cons_succ, i64_w, i32_w]
            rfl
          refine pure_ (i := 4) (N := some 47) (v := ?_) (a' := ?_) #[false, true, false, false, true, false, false, false] rfl rfl (any_of HT_.out (by kernel_rfl)) (fun _ _ _ h => h) (Or.inl ⟨by rfl, ?_⟩) ?_ ?_
          rotate_left
          · intro w'
            go_simp
            with_reducible rfl
          rotate_left
          · simp only [Act.put, List.setIfInBounds_toArray, List.set_cons_zero, List.set_cons_succ, i64_w, i32_w]
            rfl
          refine take_ (i := 0) (N := some 43) (v := ?_) (a' := ?_) #[true, true, false, false, true, false, false, false] rfl rfl (take_ofW HT_.out HW_.out (by kernel_rfl)) (fun _ _ _ h => h) (Or.inl ⟨by rfl, ?_⟩) hHeld ?_ ?_
          rotate_left
          · intro w' s0
            go_simp
            with_reducible rfl
          rotate_left
          · simp only [Act.put, List.setIfInBounds_toArray, List.set_cons_zero, List.set_cons_succ, i64_w, i32_w]
            rfl
          refine take_ (i := 3) (N := some 46) (v := ?_) (a' := ?_) #[true, true, false, true, true, false, false, false] rfl rfl (take_ofW HT_.out HW_.out (by kernel_rfl)) (fun _ _ _ h => h) (Or.inl ⟨by rfl, ?_⟩) hHeld ?_ ?_
          rotate_left
          · intro w' s0
            go_simp
            with_reducible rfl
          rotate_left
          · simp only [Act.put, List.setIfInBounds_toArray, List.set_cons_zero, List.set_cons_succ, i64_w, i32_w]
            rfl
          refine one_ (i := 2) (N := some 45) #[true, true, true, true, true, false, false, false] rfl rfl (one_of HT_.out (by kernel_rfl)) (by decide) (fun K hK => ?_)
          refine goes_ Try.func17 (by kernel_rfl) rfl #[.agg #[.slice Ao12 t401.length co12], .int .i64 t413] (by rfl) rfl rfl (by (try simp only [List.map_toArray, List.map_cons, List.map_nil]); first | done | rfl | (simp only [List.length_drop, List.length_take]; rfl) | (simp only [List.length_nil, Int.natCast_zero, Int.zero_add, Int.ofNat_zero]; rfl)) ?_
          with_reducible refine (closure_Greatest.calls kj7 _ _ t401 t413 t417 _ ?side1 ?side2 A30.out).mono ?_
          (case side1 => repeat (first | exact (Kd.R_reads' HO_406000.out).2.2 | (with_reducible refine Kd.C_alloc ?_ _) | (with_reducible refine Kd.C_drewN ?_ _) | (with_reducible refine Kd.C_drew ?_)))
          (case side2 => exact (Kd.R_reads' HO_406000.out).2.1)
          rintro e w70 ⟨rfl, hb⟩
          refine ⟨_, rfl, ?_⟩
          have n0_ := Aside0.mk (Kd.R_below (by (with_reducible repeat (first | apply Kd.R_alloc | apply Kd.R_drewN | apply Kd.R_drew)); exact HO_406000.out) hb)
          have n1_ := Aside0.mk (blk_below (g := gb405) (o := .cells #[.slice Ao12 t401.length co12] 25 (0, 0)) (by (with_reducible repeat (first | refine blk_drewN ?_ _ | refine blk_drew ?_ | refine blk_alloc ?_ _)); exact BK405.out) hb)
          have n2_ := Aside0.mk (IsS56.below (by repeat (first | (with_reducible first | exact HI400.out | apply IsS56.alloc | apply IsS56.drewN | apply IsS56.drew | apply IsS56.set_1 | refine IsS56.far ?_ NB400_405.out _) | exact HI400.out)) hb)
          have n3_ := Aside0.mk (below_step (by repeat (first | (with_reducible first | exact HB.out | apply below_alloc | apply pw_below_drewN | apply below_drew1 | refine below_set ?_ (IsS56.ge HI400.out) | refine below_set ?_ GE405.out) | exact HB.out)) hb)
          clear HO_406000
          clear BK405
          clear HI400
          clear HB
          have HO_406000 := n0_
          have BK405 := n1_
          have HI400 := n2_
          have HB := n3_
          clear n0_ n1_ n2_ n3_
          (try clear hb)
          (try clear hb2)
          (try clear hk)
          (try clear hi)
          refine hK.out _ _ ((blk_cell BK405.out 0).trans rfl) (fun hHeld => ?_)
          clear hK K
          refine norm_ (a' := ?_) ?_ ?_
          rotate_left
          · show Act.put _ (some 45) _ = _
            simp only [Act.put, List.setIfInBounds_toArray, List.set_cons_zero, List.set_cons_succ, i64_w, i32_w]
            rfl
          refine one_ (i := 5) (N := some 48) #[true, true, true, true, true, true, false, false] rfl rfl (one_of HT_.out (by kernel_rfl)) (by decide) (fun K hK => ?_)
          refine goes_ Try.func17 (by kernel_rfl) rfl #[.agg #[.slice Ao12 t401.length co12], .int .i64 (Go.bits .or .i64 t413 t415)] (by rfl) rfl rfl (by (try simp only [List.map_toArray, List.map_cons, List.map_nil]); first | done | rfl | (simp only [List.length_drop, List.length_take]; rfl) | (simp only [List.length_nil, Int.natCast_zero, Int.zero_add, Int.ofNat_zero]; rfl)) ?_
          with_reducible refine (closure_Greatest.calls kj7 _ _ t401 (Go.bits .or .i64 t413 t415) t418 _ ?side1 ?side2 A31.out).mono ?_
          (case side1 => repeat (first | exact (Kd.R_reads' HO_406000.out).2.2 | (with_reducible refine Kd.C_alloc ?_ _) | (with_reducible refine Kd.C_drewN ?_ _) | (with_reducible refine Kd.C_drew ?_)))
          (case side2 => exact (Kd.R_reads' HO_406000.out).2.1)
          rintro e w71 ⟨rfl, hb⟩
          refine ⟨_, rfl, ?_⟩
          have n0_ := Aside0.mk (Kd.R_below (by (with_reducible repeat (first | apply Kd.R_alloc | apply Kd.R_drewN | apply Kd.R_drew)); exact HO_406000.out) hb)
          have n1_ := Aside0.mk (blk_below (g := gb405) (o := .cells #[.slice Ao12 t401.length co12] 25 (0, 0)) (by (with_reducible repeat (first | refine blk_drewN ?_ _ | refine blk_drew ?_ | refine blk_alloc ?_ _)); exact BK405.out) hb)
          have n2_ := Aside0.mk (IsS56.below (by repeat (first | (with_reducible first | exact HI400.out | apply IsS56.alloc | apply IsS56.drewN | apply IsS56.drew | apply IsS56.set_1 | refine IsS56.far ?_ NB400_405.out _) | exact HI400.out)) hb)
          have n3_ := Aside0.mk (below_step (by repeat (first | (with_reducible first | exact HB.out | apply below_alloc | apply pw_below_drewN | apply below_drew1 | refine below_set ?_ (IsS56.ge HI400.out) | refine below_set ?_ GE405.out) | exact HB.out)) hb)
          clear HO_406000
          clear BK405
          clear HI400
          clear HB
          have HO_406000 := n0_
          have BK405 := n1_
          have HI400 := n2_
          have HB := n3_
          clear n0_ n1_ n2_ n3_
          (try clear hb)
          (try clear hb2)
          (try clear hk)
          (try clear hi)
          refine hK.out _ _ ((blk_cell BK405.out 0).trans rfl) (fun hHeld => ?_)
          clear hK K
          refine norm_ (a' := ?_) ?_ ?_
          rotate_left
          · show Act.put _ (some 48) _ = _
            simp only [Act.put, List.setIfInBounds_toArray, List.set_cons_zero, List.set_cons_succ, i64_w, i32_w]
            rfl
          refine pure_ (i := 6) (N := some 9) (v := ?_) (a' := ?_) #[true, true, true, true, true, true, true, false] rfl rfl (any_of HT_.out (by kernel_rfl)) (fun _ _ _ h => h) (Or.inl ⟨by rfl, ?_⟩) ?_ ?_
          rotate_left
          · intro w'
            go_simp
            with_reducible rfl
          rotate_left
          · simp only [Act.put, List.setIfInBounds_toArray, List.set_cons_zero, List.set_cons_succ, i64_w, i32_w]
            rfl
          refine pure_ (i := 7) (N := some 10) (v := ?_) (a' := ?_) #[true, true, true, true, true, true, true, true] rfl rfl (any_of HT_.out (by kernel_rfl)) (fun _ _ _ h => h) (Or.inl ⟨by rfl, ?_⟩) ?_ ?_
          rotate_left
          · intro w'
            go_simp
            with_reducible rfl
          rotate_left
          · simp only [Act.put, List.setIfInBounds_toArray, List.set_cons_zero, List.set_cons_succ, i64_w, i32_w]
            rfl
          refine done_ (done_of HT_.out (by kernel_rfl)) ?_
          try go_wp2
          go_ret
          exact ⟨by first | rfl | (simp [errW_none, errW_some] <;> rfl) | (simp [*, errW_none, errW_some] <;> rfl), by repeat (first | (with_reducible first | exact HB.out | apply below_alloc | apply pw_below_drewN | apply below_drew1 | refine below_set ?_ (IsS56.ge HI400.out) | refine below_set ?_ GE405.out) | exact HB.out)⟩
def trustquorumlaw09_ClosureUnion.Pure : Prop := ∀ (l0 : List Int), l0.length ≤ maxLen → l0.length * 8 ≤ 140737488351232 → (∀ x ∈ l0, (Lit.int .i64 x).wf = true) → ∃ k, trustquorumlaw09_ClosureUnion.f k l0 = some true
theorem trustquorumlaw09_ClosureUnion.walk (P : trustquorumlaw09_ClosureUnion.Pure) (a0 : Option Addr) (len0 cap0 : Nat) (z0 : List Int) (w : World) (w0 : (a0 = none ∧ len0 = 0 ∧ cap0 = 0 ∧ z0 = []) ∨ ∃ x, a0 = some x ∧ len0 ≤ cap0 ∧ cap0 ≤ maxLen ∧ z0.length = cap0 ∧ (∀ i, i < z0.length → w.cell? (x.add i) = some (.int .i64 (z0.getD i 0))) ∧ ∀ n ∈ z0, (Lit.int .i64 n).wf = true) (y0 : len0 * 8 ≤ 140737488351232) :
    Calls Try.prog 5 #[.slice a0 len0 cap0] w fun e w' => e = .returned (.bool true) ∧ Below w.heap.size w w' := by
  obtain ⟨l0, rfl, hr0, hm0, hw0, hc0⟩ := ReadsInt.ofRowC w0
  obtain ⟨k, h⟩ := P l0 hm0 y0 hw0
  refine (trustquorumlaw09_ClosureUnion.calls k _ _ l0 true w (Kd.C_of_reads (d := (0 : Int)) (h1 := fun _ => rfl) hr0) hc0 h).mono ?_
  rintro e w' ⟨rfl, hd⟩
  exact ⟨rfl, hd⟩
end Go.Proofs.Ytoofabolcbbjnaa.P
