/- Functions of the program as Lean functions, and the walks that show that the calls answer so; written by a program of this session (a changed print) and by hand. -/
import Derived.Test.YtkkbdimegpdbgaaQuPx0
import Derived.Test.YtkkbdimegpdbgaaQuPx5
namespace Go.Proofs.Ytkkbdimegpdbgaa.P
open Go.RowKit Go.Proofs.YtkkbdimegpdbgaaW.PrintWords Go.Proofs.YtkkbdimegpdbgaaW.PrintLast Go.Proofs.YtkkbdimegpdbgaaW.PrintMore
attribute [local go_sem] vE vB vO vP j4 j3 vC vF
set_option linter.unusedVariables false
set_option linter.unusedSimpArgs false
def zY.f (k : Nat) (l0_0 : List (S58)) (a1 : Int) (a2 : Int) : Option (Bool):=(zP.f l0_0).bind fun t207=>((zD.f k l0_0 (Go.bits .andNot .i64 t207 a2)).bind fun t208=>(if t208 = 0 then (some true) else (some ((Go.bits .andNot .i64 a1 t208) != 0))))
theorem zY.mono : ∀ a0 a1 a2 k,LeO (zY.f k a0 a1 a2) (zY.f (k + 1) a0 a1 a2):=by
 intro a0 a1 a2 k
 unfold zY.f
 repeat' first
   | (with_reducible exact zD.mono _ _ _)
   | (with_reducible exact LeO.refl _)
   | (with_reducible exact LeO.none _)
   | (with_reducible refine LeO.ite ?_ ?_)
   | (with_reducible refine LeO.bind ?_ (fun _=>?_))
   | exact zD.mono _ _ _
   | exact LeO.none _
   | refine LeO.ite ?_ ?_
   | refine LeO.bind ?_ (fun _=>?_)
set_option maxHeartbeats 8000000 in
set_option maxRecDepth 100000 in
theorem zY.calls (k : Nat) (A0_0 : Option Addr) (c0_0 : Nat) (l0_0 : List (S58)) (a1 : Int) (a2 : Int) (r : Bool) (w : World) (hr0_0 : Kd.C k58 w A0_0 l0_0.length l0_0) (hc0_0 : l0_0.length ≤ c0_0) (h : zY.f k l0_0 a1 a2 = some r) :
  Calls Try.prog 59 #[.agg #[.slice A0_0 l0_0.length c0_0],.int .i64 a1,.int .i64 a2] w fun e w'=>e = .returned (.bool r)∧Below w.heap.size w w':=by
 have hu25:=Try.underlying25
 have HR0_0:=qB.mk hr0_0
 have HC0_0:=qB.mk hc0_0
 clear hr0_0 hc0_0
 have HB:=qB.mk (Below.refl w.heap.size w)
 have H : ((zP.f l0_0).bind fun t207=>((zD.f k l0_0 (Go.bits .andNot .i64 t207 a2)).bind fun t208=>(if t208 = 0 then (some true) else (some ((Go.bits .andNot .i64 a1 t208) != 0))))) = some r:=h
 clear h
 replace H:=Option.bind_eq_some_iff.mp H
 obtain ⟨t207,A40,H⟩:=H
 replace H : ((zD.f k l0_0 (Go.bits .andNot .i64 t207 a2)).bind fun t208=>(if t208 = 0 then (some true) else (some ((Go.bits .andNot .i64 a1 t208) != 0)))) = some r:=H
 have A4:=qB.mk A40
 clear A40
 replace H:=Option.bind_eq_some_iff.mp H
 obtain ⟨t208,A50,H⟩:=H
 replace H : (if t208 = 0 then (some true) else (some ((Go.bits .andNot .i64 a1 t208) != 0))) = some r:=H
 have A5:=qB.mk A50
 clear A50
 by_cases c6 : t208 = 0
 ·rw [if_pos c6] at H
  have c6b0 : (t208 == 0) = true:=beq_iff_eq.mpr c6
  have c6b1 : (t208 != 0) = false:=bne_eq_false_iff_eq.mpr c6
  clear c6
  obtain rfl:=Option.some.inj H
  go_enter Try.func59,Try.ntmps59
  try go_wp2_with (first|((with_reducible refine zQ (N:=3) rfl ?_);refine zJ ?hg (N:=3) ?hd (cs:=#[.slice A0_0 l0_0.length c0_0]) (t:=25) ?hr ?_;(case hd=>rfl);(case hg=>rfl);(case hr=>first|(go_simp;done)|(go_simp;rfl));intro gb206 hg w7 hbox hb;have n0_:=qB.mk (qL (by repeat (first|(with_reducible first|exact HB.out|apply qD|apply qA|apply qC)|exact HB.out)) hb);have n1_:=qB.mk (hbox);have n2_:=qB.mk ((by rw [hg];exact (qK (by repeat (first|(with_reducible first|exact HB.out|apply qD|apply qA|apply qC)|exact HB.out))) : w.heap.size ≤ gb206));have n3_:=qB.mk ((by rw [hg];exact (qK (by repeat (first|(with_reducible first|exact HB.out|apply qD|apply qA|apply qC)|exact HB.out))) : w.heap.size ≤ gb206));clear HB;have HB:=n0_;have BK206:=n1_;have GW206:=n2_;have GE206:=n3_;clear n0_ n1_ n2_ n3_;clear hb hbox hg))
  have n0_:=qB.mk (qH BK206.out)
  have n1_:=qB.mk (qC HB.out)
  clear BK206
  clear HB
  have BK206:=n0_
  have HB:=n1_
  clear n0_ n1_
  refine uD (n:=7) (S:=fun w'=>w'.cell? ⟨gb206,0,none⟩ = some (.slice A0_0 l0_0.length c0_0)) (ds:=[]) #[false,false,false,false,false,false,false] (by kernel_rfl) rfl rfl ((qI BK206.out 0).trans rfl) (fun hHeld=>?_)
  generalize w7.drew = w8 at BK206 HB hHeld ⊢
  refine zV (i:=3) (N:=some 11) (v:=?_) (a':=?_) #[false,false,false,true,false,false,false] rfl rfl (by kernel_rfl) (fun _ _ _ h=>h) (Or.inl ⟨by rfl,?_⟩) ?_ ?_
  rotate_left
  ·intro w'
   go_simp
   with_reducible rfl
  rotate_left
  ·simp only [Act.put,List.setIfInBounds_toArray,List.set_cons_zero,List.set_cons_succ,q9,zC]
   rfl
  refine j5 (i:=0) (N:=some 8) (v:=?_) (a':=?_) #[true,false,false,true,false,false,false] rfl rfl (by kernel_rfl) (fun _ _ _ h=>h) (Or.inl ⟨by rfl,?_⟩) hHeld ?_ ?_
  rotate_left
  ·intro w' s0
   go_simp
   with_reducible rfl
  rotate_left
  ·simp only [Act.put,List.setIfInBounds_toArray,List.set_cons_zero,List.set_cons_succ,q9,zC]
   rfl
  refine j5 (i:=1) (N:=some 9) (v:=?_) (a':=?_) #[true,true,false,true,false,false,false] rfl rfl (by kernel_rfl) (fun _ _ _ h=>h) (Or.inl ⟨by rfl,?_⟩) hHeld ?_ ?_
  rotate_left
  ·intro w' s0
   go_simp
   with_reducible rfl
  rotate_left
  ·simp only [Act.put,List.setIfInBounds_toArray,List.set_cons_zero,List.set_cons_succ,q9,zC]
   rfl
  refine one_ (i:=2) (N:=some 10) #[true,true,true,true,false,false,false] rfl rfl (by kernel_rfl) (by decide) (fun K hK=>?_)
  refine vV Try.func53 (by kernel_rfl) rfl #[.agg #[.slice A0_0 l0_0.length c0_0]] (by rfl) rfl rfl (by (try simp only [List.map_toArray,List.map_cons,List.map_nil]);first|done|rfl|(simp only [List.length_drop,List.length_take];rfl)|(simp only [List.length_nil,Int.natCast_zero,Int.zero_add,Int.ofNat_zero];rfl)) ?_
  with_reducible refine (zP.calls _ _ l0_0 t207 _ ?side1 ?side2 A4.out).mono ?_
  (case side1=>repeat (first|exact (Kd.zG HR0_0.out HB.out)|(with_reducible refine Kd.zO ?_ _)|(with_reducible refine Kd.zN ?_ _)|(with_reducible refine Kd.zW ?_)))
  (case side2=>exact HC0_0.out)
  rintro e w9 ⟨rfl,hb⟩
  refine ⟨_,rfl,?_⟩
  have n0_:=qB.mk (qO (g:=gb206) (o:=.cells #[.slice A0_0 l0_0.length c0_0] 25 (0,0)) (by (with_reducible repeat (first|refine qF ?_ _|refine qH ?_|refine qG ?_ _));exact BK206.out) hb)
  have n1_:=qB.mk (qL (by repeat (first|(with_reducible first|exact HB.out|apply qD|apply qA|apply qC|refine qE ?_ GE206.out)|exact HB.out)) hb)
  clear BK206
  clear HB
  have BK206:=n0_
  have HB:=n1_
  clear n0_ n1_
  (try clear hb)
  (try clear hb2)
  (try clear hk)
  (try clear hi)
  refine hK.out _ _ ((qI BK206.out 0).trans rfl) (fun hHeld=>?_)
  clear hK K
  refine vR (a':=?_) ?_ ?_
  rotate_left
  ·show Act.put _ (some 10) _ = _
   simp only [Act.put,List.setIfInBounds_toArray,List.set_cons_zero,List.set_cons_succ,q9,zC]
   rfl
  refine zV (i:=4) (N:=some 12) (v:=?_) (a':=?_) #[true,true,true,true,true,false,false] rfl rfl (by kernel_rfl) (fun _ _ _ h=>h) (Or.inl ⟨by rfl,?_⟩) ?_ ?_
  rotate_left
  ·intro w'
   go_simp
   with_reducible rfl
  rotate_left
  ·simp only [Act.put,List.setIfInBounds_toArray,List.set_cons_zero,List.set_cons_succ,q9,zC]
   rfl
  refine one_ (i:=5) (N:=some 13) #[true,true,true,true,true,true,false] rfl rfl (by kernel_rfl) (by decide) (fun K hK=>?_)
  refine vV Try.func52 (by kernel_rfl) rfl #[.agg #[.slice A0_0 l0_0.length c0_0],.int .i64 (Go.bits .andNot .i64 t207 a2)] (by rfl) rfl rfl (by (try simp only [List.map_toArray,List.map_cons,List.map_nil]);first|done|rfl|(simp only [List.length_drop,List.length_take];rfl)|(simp only [List.length_nil,Int.natCast_zero,Int.zero_add,Int.ofNat_zero];rfl)) ?_
  with_reducible refine (zD.calls k _ _ l0_0 (Go.bits .andNot .i64 t207 a2) t208 _ ?side1 ?side2 A5.out).mono ?_
  (case side1=>repeat (first|exact (Kd.zG HR0_0.out HB.out)|(with_reducible refine Kd.zO ?_ _)|(with_reducible refine Kd.zN ?_ _)|(with_reducible refine Kd.zW ?_)))
  (case side2=>exact HC0_0.out)
  rintro e w10 ⟨rfl,hb⟩
  refine ⟨_,rfl,?_⟩
  have n0_:=qB.mk (qO (g:=gb206) (o:=.cells #[.slice A0_0 l0_0.length c0_0] 25 (0,0)) (by (with_reducible repeat (first|refine qF ?_ _|refine qH ?_|refine qG ?_ _));exact BK206.out) hb)
  have n1_:=qB.mk (qL (by repeat (first|(with_reducible first|exact HB.out|apply qD|apply qA|apply qC|refine qE ?_ GE206.out)|exact HB.out)) hb)
  clear BK206
  clear HB
  have BK206:=n0_
  have HB:=n1_
  clear n0_ n1_
  (try clear hb)
  (try clear hb2)
  (try clear hk)
  (try clear hi)
  refine hK.out _ _ ((qI BK206.out 0).trans rfl) (fun hHeld=>?_)
  clear hK K
  refine vR (a':=?_) ?_ ?_
  rotate_left
  ·show Act.put _ (some 13) _ = _
   simp only [Act.put,List.setIfInBounds_toArray,List.set_cons_zero,List.set_cons_succ,q9,zC]
   rfl
  refine zV (i:=6) (N:=some 7) (v:=?_) (a':=?_) #[true,true,true,true,true,true,true] rfl rfl (by kernel_rfl) (fun _ _ _ h=>h) (Or.inl ⟨by rfl,?_⟩) ?_ ?_
  rotate_left
  ·intro w'
   go_simp
   with_reducible rfl
  rotate_left
  ·simp only [Act.put,List.setIfInBounds_toArray,List.set_cons_zero,List.set_cons_succ,q9,zC]
   rfl
  refine done_ (by kernel_rfl) ?_
  try go_wp2
  go_ret
  exact ⟨by first|rfl|(simp [qQ,qP]<;>rfl)|(simp [*,qQ,qP]<;>rfl),by repeat (first|(with_reducible first|exact HB.out|apply qD|apply qA|apply qC|refine qE ?_ GE206.out)|exact HB.out)⟩
 ·rw [if_neg c6] at H
  have c6b0 : (t208 == 0) = false:=beq_eq_false_iff_ne.mpr c6
  have c6b1 : (t208 != 0) = true:=bne_iff_ne.mpr c6
  obtain rfl:=Option.some.inj H
  go_enter Try.func59,Try.ntmps59
  try go_wp2_with (first|((with_reducible refine zQ (N:=3) rfl ?_);refine zJ ?hg (N:=3) ?hd (cs:=#[.slice A0_0 l0_0.length c0_0]) (t:=25) ?hr ?_;(case hd=>rfl);(case hg=>rfl);(case hr=>first|(go_simp;done)|(go_simp;rfl));intro gb206 hg w11 hbox hb;have n0_:=qB.mk (qL (by repeat (first|(with_reducible first|exact HB.out|apply qD|apply qA|apply qC)|exact HB.out)) hb);have n1_:=qB.mk (hbox);have n2_:=qB.mk ((by rw [hg];exact (qK (by repeat (first|(with_reducible first|exact HB.out|apply qD|apply qA|apply qC)|exact HB.out))) : w.heap.size ≤ gb206));have n3_:=qB.mk ((by rw [hg];exact (qK (by repeat (first|(with_reducible first|exact HB.out|apply qD|apply qA|apply qC)|exact HB.out))) : w.heap.size ≤ gb206));clear HB;have HB:=n0_;have BK206:=n1_;have GW206:=n2_;have GE206:=n3_;clear n0_ n1_ n2_ n3_;clear hb hbox hg))
  have n0_:=qB.mk (qH BK206.out)
  have n1_:=qB.mk (qC HB.out)
  clear BK206
  clear HB
  have BK206:=n0_
  have HB:=n1_
  clear n0_ n1_
  refine uD (n:=7) (S:=fun w'=>w'.cell? ⟨gb206,0,none⟩ = some (.slice A0_0 l0_0.length c0_0)) (ds:=[]) #[false,false,false,false,false,false,false] (by kernel_rfl) rfl rfl ((qI BK206.out 0).trans rfl) (fun hHeld=>?_)
  generalize w11.drew = w12 at BK206 HB hHeld ⊢
  refine zV (i:=3) (N:=some 11) (v:=?_) (a':=?_) #[false,false,false,true,false,false,false] rfl rfl (by kernel_rfl) (fun _ _ _ h=>h) (Or.inl ⟨by rfl,?_⟩) ?_ ?_
  rotate_left
  ·intro w'
   go_simp
   with_reducible rfl
  rotate_left
  ·simp only [Act.put,List.setIfInBounds_toArray,List.set_cons_zero,List.set_cons_succ,q9,zC]
   rfl
  refine j5 (i:=0) (N:=some 8) (v:=?_) (a':=?_) #[true,false,false,true,false,false,false] rfl rfl (by kernel_rfl) (fun _ _ _ h=>h) (Or.inl ⟨by rfl,?_⟩) hHeld ?_ ?_
  rotate_left
  ·intro w' s0
   go_simp
   with_reducible rfl
  rotate_left
  ·simp only [Act.put,List.setIfInBounds_toArray,List.set_cons_zero,List.set_cons_succ,q9,zC]
   rfl
  refine j5 (i:=1) (N:=some 9) (v:=?_) (a':=?_) #[true,true,false,true,false,false,false] rfl rfl (by kernel_rfl) (fun _ _ _ h=>h) (Or.inl ⟨by rfl,?_⟩) hHeld ?_ ?_
  rotate_left
  ·intro w' s0
   go_simp
   with_reducible rfl
  rotate_left
  ·simp only [Act.put,List.setIfInBounds_toArray,List.set_cons_zero,List.set_cons_succ,q9,zC]
   rfl
  refine one_ (i:=2) (N:=some 10) #[true,true,true,true,false,false,false] rfl rfl (by kernel_rfl) (by decide) (fun K hK=>?_)
  refine vV Try.func53 (by kernel_rfl) rfl #[.agg #[.slice A0_0 l0_0.length c0_0]] (by rfl) rfl rfl (by (try simp only [List.map_toArray,List.map_cons,List.map_nil]);first|done|rfl|(simp only [List.length_drop,List.length_take];rfl)|(simp only [List.length_nil,Int.natCast_zero,Int.zero_add,Int.ofNat_zero];rfl)) ?_
  with_reducible refine (zP.calls _ _ l0_0 t207 _ ?side1 ?side2 A4.out).mono ?_
  (case side1=>repeat (first|exact (Kd.zG HR0_0.out HB.out)|(with_reducible refine Kd.zO ?_ _)|(with_reducible refine Kd.zN ?_ _)|(with_reducible refine Kd.zW ?_)))
  (case side2=>exact HC0_0.out)
  rintro e w13 ⟨rfl,hb⟩
  refine ⟨_,rfl,?_⟩
  have n0_:=qB.mk (qO (g:=gb206) (o:=.cells #[.slice A0_0 l0_0.length c0_0] 25 (0,0)) (by (with_reducible repeat (first|refine qF ?_ _|refine qH ?_|refine qG ?_ _));exact BK206.out) hb)
  have n1_:=qB.mk (qL (by repeat (first|(with_reducible first|exact HB.out|apply qD|apply qA|apply qC|refine qE ?_ GE206.out)|exact HB.out)) hb)
  clear BK206
  clear HB
  have BK206:=n0_
  have HB:=n1_
  clear n0_ n1_
  (try clear hb)
  (try clear hb2)
  (try clear hk)
  (try clear hi)
  refine hK.out _ _ ((qI BK206.out 0).trans rfl) (fun hHeld=>?_)
  clear hK K
  refine vR (a':=?_) ?_ ?_
  rotate_left
  ·show Act.put _ (some 10) _ = _
   simp only [Act.put,List.setIfInBounds_toArray,List.set_cons_zero,List.set_cons_succ,q9,zC]
   rfl
  refine zV (i:=4) (N:=some 12) (v:=?_) (a':=?_) #[true,true,true,true,true,false,false] rfl rfl (by kernel_rfl) (fun _ _ _ h=>h) (Or.inl ⟨by rfl,?_⟩) ?_ ?_
  rotate_left
  ·intro w'
   go_simp
   with_reducible rfl
  rotate_left
  ·simp only [Act.put,List.setIfInBounds_toArray,List.set_cons_zero,List.set_cons_succ,q9,zC]
   rfl
  refine one_ (i:=5) (N:=some 13) #[true,true,true,true,true,true,false] rfl rfl (by kernel_rfl) (by decide) (fun K hK=>?_)
  refine vV Try.func52 (by kernel_rfl) rfl #[.agg #[.slice A0_0 l0_0.length c0_0],.int .i64 (Go.bits .andNot .i64 t207 a2)] (by rfl) rfl rfl (by (try simp only [List.map_toArray,List.map_cons,List.map_nil]);first|done|rfl|(simp only [List.length_drop,List.length_take];rfl)|(simp only [List.length_nil,Int.natCast_zero,Int.zero_add,Int.ofNat_zero];rfl)) ?_
  with_reducible refine (zD.calls k _ _ l0_0 (Go.bits .andNot .i64 t207 a2) t208 _ ?side1 ?side2 A5.out).mono ?_
  (case side1=>repeat (first|exact (Kd.zG HR0_0.out HB.out)|(with_reducible refine Kd.zO ?_ _)|(with_reducible refine Kd.zN ?_ _)|(with_reducible refine Kd.zW ?_)))
  (case side2=>exact HC0_0.out)
  rintro e w14 ⟨rfl,hb⟩
  refine ⟨_,rfl,?_⟩
  have n0_:=qB.mk (qO (g:=gb206) (o:=.cells #[.slice A0_0 l0_0.length c0_0] 25 (0,0)) (by (with_reducible repeat (first|refine qF ?_ _|refine qH ?_|refine qG ?_ _));exact BK206.out) hb)
  have n1_:=qB.mk (qL (by repeat (first|(with_reducible first|exact HB.out|apply qD|apply qA|apply qC|refine qE ?_ GE206.out)|exact HB.out)) hb)
  clear BK206
  clear HB
  have BK206:=n0_
  have HB:=n1_
  clear n0_ n1_
  (try clear hb)
  (try clear hb2)
  (try clear hk)
  (try clear hi)
  refine hK.out _ _ ((qI BK206.out 0).trans rfl) (fun hHeld=>?_)
  clear hK K
  refine vR (a':=?_) ?_ ?_
  rotate_left
  ·show Act.put _ (some 13) _ = _
   simp only [Act.put,List.setIfInBounds_toArray,List.set_cons_zero,List.set_cons_succ,q9,zC]
   rfl
  refine zV (i:=6) (N:=some 7) (v:=?_) (a':=?_) #[true,true,true,true,true,true,true] rfl rfl (by kernel_rfl) (fun _ _ _ h=>h) (Or.inl ⟨by rfl,?_⟩) ?_ ?_
  rotate_left
  ·intro w'
   go_simp
   with_reducible rfl
  rotate_left
  ·simp only [Act.put,List.setIfInBounds_toArray,List.set_cons_zero,List.set_cons_succ,q9,zC]
   rfl
  refine done_ (by kernel_rfl) ?_
  try go_wp2
  go_ret
  exact ⟨by first|rfl|(simp [qQ,qP]<;>rfl)|(simp [*,qQ,qP]<;>rfl),by repeat (first|(with_reducible first|exact HB.out|apply qD|apply qA|apply qC|refine qE ?_ GE206.out)|exact HB.out)⟩
def zL.f (k : Nat) (l0_0 : List (S58)) (a1 : Int) : Option (Bool):=(zP.f l0_0).bind fun t210=>((zD.f k l0_0 (Go.bits .andNot .i64 t210 a1)).bind fun t211=>(some (t211 == 0)))
theorem zL.mono : ∀ a0 a1 k,LeO (zL.f k a0 a1) (zL.f (k + 1) a0 a1):=by
 intro a0 a1 k
 unfold zL.f
 repeat' first
   | (with_reducible exact zD.mono _ _ _)
   | (with_reducible exact LeO.refl _)
   | (with_reducible exact LeO.none _)
   | (with_reducible refine LeO.ite ?_ ?_)
   | (with_reducible refine LeO.bind ?_ (fun _=>?_))
   | exact zD.mono _ _ _
   | exact LeO.none _
   | refine LeO.ite ?_ ?_
   | refine LeO.bind ?_ (fun _=>?_)
def zL.T1 : Bool × List (List Nat × List Nat):=(true,[([],[]),([],[]),([1],[1]),([],[]),([2,3],[2,3]),([0,4,2],[0,4]),([5],[5]),([6,5,0,1,2,3,4,5,6],[6])])
def zL.B1 : List Nat:=[0,0,2,0,14,31,63,127]
theorem zL.tab1 : rtab .any (opsOf Try.f60 1) = zL.T1:=by kernel_rfl
theorem zL.bits1 : uE zL.T1.2 zL.B1 = true:=by kernel_rfl
set_option maxHeartbeats 8000000 in
set_option maxRecDepth 100000 in
theorem zL.calls (k : Nat) (A0_0 : Option Addr) (c0_0 : Nat) (l0_0 : List (S58)) (a1 : Int) (r : Bool) (w : World) (hr0_0 : Kd.C k58 w A0_0 l0_0.length l0_0) (hc0_0 : l0_0.length ≤ c0_0) (h : zL.f k l0_0 a1 = some r) :
  Calls Try.prog 60 #[.agg #[.slice A0_0 l0_0.length c0_0],.int .i64 a1] w fun e w'=>e = .returned (.bool r)∧Below w.heap.size w w':=by
 have hu25:=Try.underlying25
 have HR0_0:=qB.mk hr0_0
 have HC0_0:=qB.mk hc0_0
 clear hr0_0 hc0_0
 have HB:=qB.mk (Below.refl w.heap.size w)
 have H : ((zP.f l0_0).bind fun t210=>((zD.f k l0_0 (Go.bits .andNot .i64 t210 a1)).bind fun t211=>(some (t211 == 0)))) = some r:=h
 clear h
 replace H:=Option.bind_eq_some_iff.mp H
 obtain ⟨t210,A30,H⟩:=H
 replace H : ((zD.f k l0_0 (Go.bits .andNot .i64 t210 a1)).bind fun t211=>(some (t211 == 0))) = some r:=H
 have A3:=qB.mk A30
 clear A30
 replace H:=Option.bind_eq_some_iff.mp H
 obtain ⟨t211,A40,H⟩:=H
 replace H : (some (t211 == 0)) = some r:=H
 have A4:=qB.mk A40
 clear A40
 obtain rfl:=Option.some.inj H
 go_enter Try.func60,Try.ntmps60
 try go_wp2_with (first|((with_reducible refine zQ (N:=2) rfl ?_);refine zJ ?hg (N:=2) ?hd (cs:=#[.slice A0_0 l0_0.length c0_0]) (t:=25) ?hr ?_;(case hd=>rfl);(case hg=>rfl);(case hr=>first|(go_simp;done)|(go_simp;rfl));intro gb209 hg w5 hbox hb;have n0_:=qB.mk (qL (by repeat (first|(with_reducible first|exact HB.out|apply qD|apply qA|apply qC)|exact HB.out)) hb);have n1_:=qB.mk (hbox);have n2_:=qB.mk ((by rw [hg];exact (qK (by repeat (first|(with_reducible first|exact HB.out|apply qD|apply qA|apply qC)|exact HB.out))) : w.heap.size ≤ gb209));have n3_:=qB.mk ((by rw [hg];exact (qK (by repeat (first|(with_reducible first|exact HB.out|apply qD|apply qA|apply qC)|exact HB.out))) : w.heap.size ≤ gb209));clear HB;have HB:=n0_;have BK209:=n1_;have GW209:=n2_;have GE209:=n3_;clear n0_ n1_ n2_ n3_;clear hb hbox hg))
 have n0_:=qB.mk (qH BK209.out)
 have n1_:=qB.mk (qC HB.out)
 clear BK209
 clear HB
 have BK209:=n0_
 have HB:=n1_
 clear n0_ n1_
 refine uD (n:=8) (S:=fun w'=>w'.cell? ⟨gb209,0,none⟩ = some (.slice A0_0 l0_0.length c0_0)) (ds:=[]) #[false,false,false,false,false,false,false,false] (by kernel_rfl) rfl rfl ((qI BK209.out 0).trans rfl) (fun hHeld=>?_);refine uC zL.tab1 zL.bits1 (fun HT_ HW_=>?_)
 generalize w5.drew = w6 at BK209 HB hHeld ⊢
 refine zV (i:=3) (N:=some 8) (v:=?_) (a':=?_) #[false,false,false,true,false,false,false,false] rfl rfl (zR HT_.out (by kernel_rfl)) (fun _ _ _ h=>h) (Or.inl ⟨by rfl,?_⟩) ?_ ?_
 rotate_left
 ·intro w'
  go_simp
  with_reducible rfl
 rotate_left
 ·simp only [Act.put,List.setIfInBounds_toArray,List.set_cons_zero,List.set_cons_succ,q9,zC]
  rfl
 refine j5 (i:=0) (N:=some 5) (v:=?_) (a':=?_) #[true,false,false,true,false,false,false,false] rfl rfl (jX HT_.out HW_.out (by kernel_rfl)) (fun _ _ _ h=>h) (Or.inl ⟨by rfl,?_⟩) hHeld ?_ ?_
 rotate_left
 ·intro w' s0
  go_simp
  with_reducible rfl
 rotate_left
 ·simp only [Act.put,List.setIfInBounds_toArray,List.set_cons_zero,List.set_cons_succ,q9,zC]
  rfl
 refine j5 (i:=1) (N:=some 6) (v:=?_) (a':=?_) #[true,true,false,true,false,false,false,false] rfl rfl (jX HT_.out HW_.out (by kernel_rfl)) (fun _ _ _ h=>h) (Or.inl ⟨by rfl,?_⟩) hHeld ?_ ?_
 rotate_left
 ·intro w' s0
  go_simp
  with_reducible rfl
 rotate_left
 ·simp only [Act.put,List.setIfInBounds_toArray,List.set_cons_zero,List.set_cons_succ,q9,zC]
  rfl
 refine one_ (i:=2) (N:=some 7) #[true,true,true,true,false,false,false,false] rfl rfl (vW HT_.out (by kernel_rfl)) (by decide) (fun K hK=>?_)
 refine vV Try.func53 (by kernel_rfl) rfl #[.agg #[.slice A0_0 l0_0.length c0_0]] (by rfl) rfl rfl (by (try simp only [List.map_toArray,List.map_cons,List.map_nil]);first|done|rfl|(simp only [List.length_drop,List.length_take];rfl)|(simp only [List.length_nil,Int.natCast_zero,Int.zero_add,Int.ofNat_zero];rfl)) ?_
 with_reducible refine (zP.calls _ _ l0_0 t210 _ ?side1 ?side2 A3.out).mono ?_
 (case side1=>repeat (first|exact (Kd.zG HR0_0.out HB.out)|(with_reducible refine Kd.zO ?_ _)|(with_reducible refine Kd.zN ?_ _)|(with_reducible refine Kd.zW ?_)))
 (case side2=>exact HC0_0.out)
 rintro e w7 ⟨rfl,hb⟩
 refine ⟨_,rfl,?_⟩
 have n0_:=qB.mk (qO (g:=gb209) (o:=.cells #[.slice A0_0 l0_0.length c0_0] 25 (0,0)) (by (with_reducible repeat (first|refine qF ?_ _|refine qH ?_|refine qG ?_ _));exact BK209.out) hb)
 have n1_:=qB.mk (qL (by repeat (first|(with_reducible first|exact HB.out|apply qD|apply qA|apply qC|refine qE ?_ GE209.out)|exact HB.out)) hb)
 clear BK209
 clear HB
 have BK209:=n0_
 have HB:=n1_
 clear n0_ n1_
 (try clear hb)
 (try clear hb2)
 (try clear hk)
 (try clear hi)
 refine hK.out _ _ ((qI BK209.out 0).trans rfl) (fun hHeld=>?_)
 clear hK K
 refine vR (a':=?_) ?_ ?_
 rotate_left
 ·show Act.put _ (some 7) _ = _
  simp only [Act.put,List.setIfInBounds_toArray,List.set_cons_zero,List.set_cons_succ,q9,zC]
  rfl
 refine zV (i:=4) (N:=some 9) (v:=?_) (a':=?_) #[true,true,true,true,true,false,false,false] rfl rfl (zR HT_.out (by kernel_rfl)) (fun _ _ _ h=>h) (Or.inl ⟨by rfl,?_⟩) ?_ ?_
 rotate_left
 ·intro w'
  go_simp
  with_reducible rfl
 rotate_left
 ·simp only [Act.put,List.setIfInBounds_toArray,List.set_cons_zero,List.set_cons_succ,q9,zC]
  rfl
 refine one_ (i:=5) (N:=some 10) #[true,true,true,true,true,true,false,false] rfl rfl (vW HT_.out (by kernel_rfl)) (by decide) (fun K hK=>?_)
 refine vV Try.func52 (by kernel_rfl) rfl #[.agg #[.slice A0_0 l0_0.length c0_0],.int .i64 (Go.bits .andNot .i64 t210 a1)] (by rfl) rfl rfl (by (try simp only [List.map_toArray,List.map_cons,List.map_nil]);first|done|rfl|(simp only [List.length_drop,List.length_take];rfl)|(simp only [List.length_nil,Int.natCast_zero,Int.zero_add,Int.ofNat_zero];rfl)) ?_
 with_reducible refine (zD.calls k _ _ l0_0 (Go.bits .andNot .i64 t210 a1) t211 _ ?side1 ?side2 A4.out).mono ?_
 (case side1=>repeat (first|exact (Kd.zG HR0_0.out HB.out)|(with_reducible refine Kd.zO ?_ _)|(with_reducible refine Kd.zN ?_ _)|(with_reducible refine Kd.zW ?_)))
 (case side2=>exact HC0_0.out)
 rintro e w8 ⟨rfl,hb⟩
 refine ⟨_,rfl,?_⟩
 have n0_:=qB.mk (qO (g:=gb209) (o:=.cells #[.slice A0_0 l0_0.length c0_0] 25 (0,0)) (by (with_reducible repeat (first|refine qF ?_ _|refine qH ?_|refine qG ?_ _));exact BK209.out) hb)
 have n1_:=qB.mk (qL (by repeat (first|(with_reducible first|exact HB.out|apply qD|apply qA|apply qC|refine qE ?_ GE209.out)|exact HB.out)) hb)
 clear BK209
 clear HB
 have BK209:=n0_
 have HB:=n1_
 clear n0_ n1_
 (try clear hb)
 (try clear hb2)
 (try clear hk)
 (try clear hi)
 refine hK.out _ _ ((qI BK209.out 0).trans rfl) (fun hHeld=>?_)
 clear hK K
 refine vR (a':=?_) ?_ ?_
 rotate_left
 ·show Act.put _ (some 10) _ = _
  simp only [Act.put,List.setIfInBounds_toArray,List.set_cons_zero,List.set_cons_succ,q9,zC]
  rfl
 refine zV (i:=6) (N:=some 11) (v:=?_) (a':=?_) #[true,true,true,true,true,true,true,false] rfl rfl (zR HT_.out (by kernel_rfl)) (fun _ _ _ h=>h) (Or.inl ⟨by rfl,?_⟩) ?_ ?_
 rotate_left
 ·intro w'
  go_simp
  with_reducible rfl
 rotate_left
 ·simp only [Act.put,List.setIfInBounds_toArray,List.set_cons_zero,List.set_cons_succ,q9,zC]
  rfl
 refine zV (i:=7) (N:=some 4) (v:=?_) (a':=?_) #[true,true,true,true,true,true,true,true] rfl rfl (zR HT_.out (by kernel_rfl)) (fun _ _ _ h=>h) (Or.inl ⟨by rfl,?_⟩) ?_ ?_
 rotate_left
 ·intro w'
  go_simp
  with_reducible rfl
 rotate_left
 ·simp only [Act.put,List.setIfInBounds_toArray,List.set_cons_zero,List.set_cons_succ,q9,zC]
  rfl
 refine done_ (done_of HT_.out (by kernel_rfl)) ?_
 try go_wp2
 go_ret
 exact ⟨by first|rfl|(simp [qQ,qP]<;>rfl)|(simp [*,qQ,qP]<;>rfl),by repeat (first|(with_reducible first|exact HB.out|apply qD|apply qA|apply qC|refine qE ?_ GE209.out)|exact HB.out)⟩
end Go.Proofs.Ytkkbdimegpdbgaa.P
