/- Functions of the program as Lean functions, and the walks that show that the calls answer so; written by a program of this session (a changed print) and by hand. -/
import Derived.Test.YtkkbdimegpdbgaaQdPx0
import Derived.Test.YtkkbdimegpdbgaaQdPx5
namespace Go.Proofs.Ytkkbdimegpdbgaa.P
open Go.RowKit Go.Proofs.YtkkbdimegpdbgaaW.PrintWords Go.Proofs.YtkkbdimegpdbgaaW.PrintLast Go.Proofs.YtkkbdimegpdbgaaW.PrintMore
attribute [local go_sem] uH uI uQ uR vW vV uF uG
set_option linter.unusedVariables false
set_option linter.unusedSimpArgs false
def jN.f (k : Nat) (l0_0 : List (S58)) (a1 : Int) (a2 : Int) : Option (Bool):=(jC.f l0_0).bind fun t207=>((zP.f k l0_0 (Go.bits .andNot .i64 t207 a2)).bind fun t208=>(if t208 = 0 then (some true) else (some ((Go.bits .andNot .i64 a1 t208) != 0))))
theorem jN.mono : ∀ a0 a1 a2 k,LeO (jN.f k a0 a1 a2) (jN.f (k + 1) a0 a1 a2):=by
 intro a0 a1 a2 k
 unfold jN.f
 repeat' first
   | (with_reducible exact zP.mono _ _ _)
   | (with_reducible exact LeO.refl _)
   | (with_reducible exact LeO.none _)
   | (with_reducible refine LeO.ite ?_ ?_)
   | (with_reducible refine LeO.bind ?_ (fun _=>?_))
   | exact zP.mono _ _ _
   | exact LeO.none _
   | refine LeO.ite ?_ ?_
   | refine LeO.bind ?_ (fun _=>?_)
set_option maxHeartbeats 8000000 in
set_option maxRecDepth 100000 in
theorem jN.calls (k : Nat) (A0_0 : Option Addr) (c0_0 : Nat) (l0_0 : List (S58)) (a1 : Int) (a2 : Int) (r : Bool) (w : World) (hr0_0 : Kd.C k58 w A0_0 l0_0.length l0_0) (hc0_0 : l0_0.length ≤ c0_0) (h : jN.f k l0_0 a1 a2 = some r) :
  Calls Try.prog 59 #[.agg #[.slice A0_0 l0_0.length c0_0],.int .i64 a1,.int .i64 a2] w fun e w'=>e = .returned (.bool r)∧Below w.heap.size w w':=by
 have hu25:=Try.underlying25
 have HR0_0:=qA.mk hr0_0
 have HC0_0:=qA.mk hc0_0
 clear hr0_0 hc0_0
 have HB:=qA.mk (Below.refl w.heap.size w)
 have H : ((jC.f l0_0).bind fun t207=>((zP.f k l0_0 (Go.bits .andNot .i64 t207 a2)).bind fun t208=>(if t208 = 0 then (some true) else (some ((Go.bits .andNot .i64 a1 t208) != 0))))) = some r:=h
 clear h
 replace H:=Option.bind_eq_some_iff.mp H
 obtain ⟨t207,A40,H⟩:=H
 replace H : ((zP.f k l0_0 (Go.bits .andNot .i64 t207 a2)).bind fun t208=>(if t208 = 0 then (some true) else (some ((Go.bits .andNot .i64 a1 t208) != 0)))) = some r:=H
 have A4:=qA.mk A40
 clear A40
 replace H:=Option.bind_eq_some_iff.mp H
 obtain ⟨t208,A50,H⟩:=H
 replace H : (if t208 = 0 then (some true) else (some ((Go.bits .andNot .i64 a1 t208) != 0))) = some r:=H
 have A5:=qA.mk A50
 clear A50
 by_cases c6 : t208 = 0
 ·rw [if_pos c6] at H
  have c6b0 : (t208 == 0) = true:=beq_iff_eq.mpr c6
  have c6b1 : (t208 != 0) = false:=bne_eq_false_iff_eq.mpr c6
  clear c6
  obtain rfl:=Option.some.inj H
  go_enter Try.func59,Try.ntmps59
  try go_wp2_with (first|((with_reducible refine zK (N:=3) rfl ?_);refine q9 ?hg (N:=3) ?hd (cs:=#[.slice A0_0 l0_0.length c0_0]) (t:=25) ?hr ?_;(case hd=>rfl);(case hg=>rfl);(case hr=>exact byaa);intro gb206 hg w7 hbox hb;have n0_:=qA.mk (qE byab hb);have n1_:=qA.mk (hbox);have n2_:=qA.mk ((byby : w.heap.size ≤ gb206));have n3_:=qA.mk ((byby : w.heap.size ≤ gb206));clear HB;have HB:=n0_;have BK206:=n1_;have GW206:=n2_;have GE206:=n3_;clear n0_ n1_ n2_ n3_;clear hb hbox hg))
  have n0_:=qA.mk (qJ BK206.out)
  have n1_:=qA.mk (jY HB.out)
  clear BK206
  clear HB
  have BK206:=n0_
  have HB:=n1_
  clear n0_ n1_
  refine kJ (n:=7) (S:=fun w'=>w'.cell? ⟨gb206,0,none⟩ = some (.slice A0_0 l0_0.length c0_0)) (ds:=[]) #[false,false,false,false,false,false,false] (by kernel_rfl) rfl rfl ((qC BK206.out 0).trans rfl) (fun hHeld=>?_)
  generalize w7.drew = w8 at BK206 HB hHeld ⊢
  refine zY (i:=3) (N:=some 11) (v:=?_) (a':=?_) #[false,false,false,true,false,false,false] rfl rfl (by kernel_rfl) (fun _ _ _ h=>h) (Or.inl ⟨by rfl,?_⟩) ?_ ?_
  rotate_left
  ·intro w'
   go_simp
   with_reducible rfl
  rotate_left
  ·simp only [Act.put,List.setIfInBounds_toArray,List.set_cons_zero,List.set_cons_succ,qY,zA]
   rfl
  refine vZ (i:=0) (N:=some 8) (v:=?_) (a':=?_) #[true,false,false,true,false,false,false] rfl rfl (by kernel_rfl) (fun _ _ _ h=>h) (Or.inl ⟨by rfl,?_⟩) hHeld ?_ ?_
  rotate_left
  ·intro w' s0
   go_simp
   with_reducible rfl
  rotate_left
  ·simp only [Act.put,List.setIfInBounds_toArray,List.set_cons_zero,List.set_cons_succ,qY,zA]
   rfl
  refine vZ (i:=1) (N:=some 9) (v:=?_) (a':=?_) #[true,true,false,true,false,false,false] rfl rfl (by kernel_rfl) (fun _ _ _ h=>h) (Or.inl ⟨by rfl,?_⟩) hHeld ?_ ?_
  rotate_left
  ·intro w' s0
   go_simp
   with_reducible rfl
  rotate_left
  ·simp only [Act.put,List.setIfInBounds_toArray,List.set_cons_zero,List.set_cons_succ,qY,zA]
   rfl
  refine one_ (i:=2) (N:=some 10) #[true,true,true,true,false,false,false] rfl rfl (by kernel_rfl) (by decide) (fun K hK=>?_)
  refine kD Try.func53 (by kernel_rfl) rfl #[.agg #[.slice A0_0 l0_0.length c0_0]] (by rfl) rfl rfl byah ?_
  with_reducible refine (jC.calls _ _ l0_0 t207 _ ?side1 ?side2 A4.out).mono ?_
  (case side1=>exact byaq HR0_0.out)
  (case side2=>exact HC0_0.out)
  rintro e w9 ⟨rfl,hb⟩
  refine ⟨_,rfl,?_⟩
  have n0_:=qA.mk (qH (g:=gb206) (o:=.cells #[.slice A0_0 l0_0.length c0_0] 25 (0,0)) (byaf BK206.out) hb)
  have n1_:=qA.mk (qE (byad GE206.out) hb)
  clear BK206
  clear HB
  have BK206:=n0_
  have HB:=n1_
  clear n0_ n1_
  (try clear hb)
  (try clear hb2)
  (try clear hk)
  (try clear hi)
  refine hK.out _ _ ((qC BK206.out 0).trans rfl) (fun hHeld=>?_)
  clear hK K
  refine uM (a':=?_) ?_ ?_
  rotate_left
  ·show Act.put _ (some 10) _ = _
   simp only [Act.put,List.setIfInBounds_toArray,List.set_cons_zero,List.set_cons_succ,qY,zA]
   rfl
  refine zY (i:=4) (N:=some 12) (v:=?_) (a':=?_) #[true,true,true,true,true,false,false] rfl rfl (by kernel_rfl) (fun _ _ _ h=>h) (Or.inl ⟨by rfl,?_⟩) ?_ ?_
  rotate_left
  ·intro w'
   go_simp
   with_reducible rfl
  rotate_left
  ·simp only [Act.put,List.setIfInBounds_toArray,List.set_cons_zero,List.set_cons_succ,qY,zA]
   rfl
  refine one_ (i:=5) (N:=some 13) #[true,true,true,true,true,true,false] rfl rfl (by kernel_rfl) (by decide) (fun K hK=>?_)
  refine kD Try.func52 (by kernel_rfl) rfl #[.agg #[.slice A0_0 l0_0.length c0_0],.int .i64 (Go.bits .andNot .i64 t207 a2)] (by rfl) rfl rfl byah ?_
  with_reducible refine (zP.calls k _ _ l0_0 (Go.bits .andNot .i64 t207 a2) t208 _ ?side1 ?side2 A5.out).mono ?_
  (case side1=>exact byaq HR0_0.out)
  (case side2=>exact HC0_0.out)
  rintro e w10 ⟨rfl,hb⟩
  refine ⟨_,rfl,?_⟩
  have n0_:=qA.mk (qH (g:=gb206) (o:=.cells #[.slice A0_0 l0_0.length c0_0] 25 (0,0)) (byaf BK206.out) hb)
  have n1_:=qA.mk (qE (byad GE206.out) hb)
  clear BK206
  clear HB
  have BK206:=n0_
  have HB:=n1_
  clear n0_ n1_
  (try clear hb)
  (try clear hb2)
  (try clear hk)
  (try clear hi)
  refine hK.out _ _ ((qC BK206.out 0).trans rfl) (fun hHeld=>?_)
  clear hK K
  refine uM (a':=?_) ?_ ?_
  rotate_left
  ·show Act.put _ (some 13) _ = _
   simp only [Act.put,List.setIfInBounds_toArray,List.set_cons_zero,List.set_cons_succ,qY,zA]
   rfl
  refine zY (i:=6) (N:=some 7) (v:=?_) (a':=?_) #[true,true,true,true,true,true,true] rfl rfl (by kernel_rfl) (fun _ _ _ h=>h) (Or.inl ⟨by rfl,?_⟩) ?_ ?_
  rotate_left
  ·intro w'
   go_simp
   with_reducible rfl
  rotate_left
  ·simp only [Act.put,List.setIfInBounds_toArray,List.set_cons_zero,List.set_cons_succ,qY,zA]
   rfl
  refine done_ (by kernel_rfl) ?_
  try go_wp2
  go_ret
  exact ⟨byac,byad GE206.out⟩
 ·rw [if_neg c6] at H
  have c6b0 : (t208 == 0) = false:=beq_eq_false_iff_ne.mpr c6
  have c6b1 : (t208 != 0) = true:=bne_iff_ne.mpr c6
  obtain rfl:=Option.some.inj H
  go_enter Try.func59,Try.ntmps59
  try go_wp2_with (first|((with_reducible refine zK (N:=3) rfl ?_);refine q9 ?hg (N:=3) ?hd (cs:=#[.slice A0_0 l0_0.length c0_0]) (t:=25) ?hr ?_;(case hd=>rfl);(case hg=>rfl);(case hr=>exact byaa);intro gb206 hg w11 hbox hb;have n0_:=qA.mk (qE byab hb);have n1_:=qA.mk (hbox);have n2_:=qA.mk ((byby : w.heap.size ≤ gb206));have n3_:=qA.mk ((byby : w.heap.size ≤ gb206));clear HB;have HB:=n0_;have BK206:=n1_;have GW206:=n2_;have GE206:=n3_;clear n0_ n1_ n2_ n3_;clear hb hbox hg))
  have n0_:=qA.mk (qJ BK206.out)
  have n1_:=qA.mk (jY HB.out)
  clear BK206
  clear HB
  have BK206:=n0_
  have HB:=n1_
  clear n0_ n1_
  refine kJ (n:=7) (S:=fun w'=>w'.cell? ⟨gb206,0,none⟩ = some (.slice A0_0 l0_0.length c0_0)) (ds:=[]) #[false,false,false,false,false,false,false] (by kernel_rfl) rfl rfl ((qC BK206.out 0).trans rfl) (fun hHeld=>?_)
  generalize w11.drew = w12 at BK206 HB hHeld ⊢
  refine zY (i:=3) (N:=some 11) (v:=?_) (a':=?_) #[false,false,false,true,false,false,false] rfl rfl (by kernel_rfl) (fun _ _ _ h=>h) (Or.inl ⟨by rfl,?_⟩) ?_ ?_
  rotate_left
  ·intro w'
   go_simp
   with_reducible rfl
  rotate_left
  ·simp only [Act.put,List.setIfInBounds_toArray,List.set_cons_zero,List.set_cons_succ,qY,zA]
   rfl
  refine vZ (i:=0) (N:=some 8) (v:=?_) (a':=?_) #[true,false,false,true,false,false,false] rfl rfl (by kernel_rfl) (fun _ _ _ h=>h) (Or.inl ⟨by rfl,?_⟩) hHeld ?_ ?_
  rotate_left
  ·intro w' s0
   go_simp
   with_reducible rfl
  rotate_left
  ·simp only [Act.put,List.setIfInBounds_toArray,List.set_cons_zero,List.set_cons_succ,qY,zA]
   rfl
  refine vZ (i:=1) (N:=some 9) (v:=?_) (a':=?_) #[true,true,false,true,false,false,false] rfl rfl (by kernel_rfl) (fun _ _ _ h=>h) (Or.inl ⟨by rfl,?_⟩) hHeld ?_ ?_
  rotate_left
  ·intro w' s0
   go_simp
   with_reducible rfl
  rotate_left
  ·simp only [Act.put,List.setIfInBounds_toArray,List.set_cons_zero,List.set_cons_succ,qY,zA]
   rfl
  refine one_ (i:=2) (N:=some 10) #[true,true,true,true,false,false,false] rfl rfl (by kernel_rfl) (by decide) (fun K hK=>?_)
  refine kD Try.func53 (by kernel_rfl) rfl #[.agg #[.slice A0_0 l0_0.length c0_0]] (by rfl) rfl rfl byah ?_
  with_reducible refine (jC.calls _ _ l0_0 t207 _ ?side1 ?side2 A4.out).mono ?_
  (case side1=>exact byaq HR0_0.out)
  (case side2=>exact HC0_0.out)
  rintro e w13 ⟨rfl,hb⟩
  refine ⟨_,rfl,?_⟩
  have n0_:=qA.mk (qH (g:=gb206) (o:=.cells #[.slice A0_0 l0_0.length c0_0] 25 (0,0)) (byaf BK206.out) hb)
  have n1_:=qA.mk (qE (byad GE206.out) hb)
  clear BK206
  clear HB
  have BK206:=n0_
  have HB:=n1_
  clear n0_ n1_
  (try clear hb)
  (try clear hb2)
  (try clear hk)
  (try clear hi)
  refine hK.out _ _ ((qC BK206.out 0).trans rfl) (fun hHeld=>?_)
  clear hK K
  refine uM (a':=?_) ?_ ?_
  rotate_left
  ·show Act.put _ (some 10) _ = _
   simp only [Act.put,List.setIfInBounds_toArray,List.set_cons_zero,List.set_cons_succ,qY,zA]
   rfl
  refine zY (i:=4) (N:=some 12) (v:=?_) (a':=?_) #[true,true,true,true,true,false,false] rfl rfl (by kernel_rfl) (fun _ _ _ h=>h) (Or.inl ⟨by rfl,?_⟩) ?_ ?_
  rotate_left
  ·intro w'
   go_simp
   with_reducible rfl
  rotate_left
  ·simp only [Act.put,List.setIfInBounds_toArray,List.set_cons_zero,List.set_cons_succ,qY,zA]
   rfl
  refine one_ (i:=5) (N:=some 13) #[true,true,true,true,true,true,false] rfl rfl (by kernel_rfl) (by decide) (fun K hK=>?_)
  refine kD Try.func52 (by kernel_rfl) rfl #[.agg #[.slice A0_0 l0_0.length c0_0],.int .i64 (Go.bits .andNot .i64 t207 a2)] (by rfl) rfl rfl byah ?_
  with_reducible refine (zP.calls k _ _ l0_0 (Go.bits .andNot .i64 t207 a2) t208 _ ?side1 ?side2 A5.out).mono ?_
  (case side1=>exact byaq HR0_0.out)
  (case side2=>exact HC0_0.out)
  rintro e w14 ⟨rfl,hb⟩
  refine ⟨_,rfl,?_⟩
  have n0_:=qA.mk (qH (g:=gb206) (o:=.cells #[.slice A0_0 l0_0.length c0_0] 25 (0,0)) (byaf BK206.out) hb)
  have n1_:=qA.mk (qE (byad GE206.out) hb)
  clear BK206
  clear HB
  have BK206:=n0_
  have HB:=n1_
  clear n0_ n1_
  (try clear hb)
  (try clear hb2)
  (try clear hk)
  (try clear hi)
  refine hK.out _ _ ((qC BK206.out 0).trans rfl) (fun hHeld=>?_)
  clear hK K
  refine uM (a':=?_) ?_ ?_
  rotate_left
  ·show Act.put _ (some 13) _ = _
   simp only [Act.put,List.setIfInBounds_toArray,List.set_cons_zero,List.set_cons_succ,qY,zA]
   rfl
  refine zY (i:=6) (N:=some 7) (v:=?_) (a':=?_) #[true,true,true,true,true,true,true] rfl rfl (by kernel_rfl) (fun _ _ _ h=>h) (Or.inl ⟨by rfl,?_⟩) ?_ ?_
  rotate_left
  ·intro w'
   go_simp
   with_reducible rfl
  rotate_left
  ·simp only [Act.put,List.setIfInBounds_toArray,List.set_cons_zero,List.set_cons_succ,qY,zA]
   rfl
  refine done_ (by kernel_rfl) ?_
  try go_wp2
  go_ret
  exact ⟨byac,byad GE206.out⟩
def zZ.f (k : Nat) (l0_0 : List (S58)) (a1 : Int) : Option (Bool):=(jC.f l0_0).bind fun t210=>((zP.f k l0_0 (Go.bits .andNot .i64 t210 a1)).bind fun t211=>(some (t211 == 0)))
theorem zZ.mono : ∀ a0 a1 k,LeO (zZ.f k a0 a1) (zZ.f (k + 1) a0 a1):=by
 intro a0 a1 k
 unfold zZ.f
 repeat' first
   | (with_reducible exact zP.mono _ _ _)
   | (with_reducible exact LeO.refl _)
   | (with_reducible exact LeO.none _)
   | (with_reducible refine LeO.ite ?_ ?_)
   | (with_reducible refine LeO.bind ?_ (fun _=>?_))
   | exact zP.mono _ _ _
   | exact LeO.none _
   | refine LeO.ite ?_ ?_
   | refine LeO.bind ?_ (fun _=>?_)
def zZ.T1 : Bool × List (List Nat × List Nat):=(true,[([],[]),([],[]),([1],[1]),([],[]),([2,3],[2,3]),([0,4,2],[0,4]),([5],[5]),([6,5,0,1,2,3,4,5,6],[6])])
def zZ.B1 : List Nat:=[0,0,2,0,14,31,63,127]
theorem zZ.tab1 : rtab .any (opsOf Try.f60 1) = zZ.T1:=by kernel_rfl
theorem zZ.bits1 : kL zZ.T1.2 zZ.B1 = true:=by kernel_rfl
set_option maxHeartbeats 8000000 in
set_option maxRecDepth 100000 in
theorem zZ.calls (k : Nat) (A0_0 : Option Addr) (c0_0 : Nat) (l0_0 : List (S58)) (a1 : Int) (r : Bool) (w : World) (hr0_0 : Kd.C k58 w A0_0 l0_0.length l0_0) (hc0_0 : l0_0.length ≤ c0_0) (h : zZ.f k l0_0 a1 = some r) :
  Calls Try.prog 60 #[.agg #[.slice A0_0 l0_0.length c0_0],.int .i64 a1] w fun e w'=>e = .returned (.bool r)∧Below w.heap.size w w':=by
 have hu25:=Try.underlying25
 have HR0_0:=qA.mk hr0_0
 have HC0_0:=qA.mk hc0_0
 clear hr0_0 hc0_0
 have HB:=qA.mk (Below.refl w.heap.size w)
 have H : ((jC.f l0_0).bind fun t210=>((zP.f k l0_0 (Go.bits .andNot .i64 t210 a1)).bind fun t211=>(some (t211 == 0)))) = some r:=h
 clear h
 replace H:=Option.bind_eq_some_iff.mp H
 obtain ⟨t210,A30,H⟩:=H
 replace H : ((zP.f k l0_0 (Go.bits .andNot .i64 t210 a1)).bind fun t211=>(some (t211 == 0))) = some r:=H
 have A3:=qA.mk A30
 clear A30
 replace H:=Option.bind_eq_some_iff.mp H
 obtain ⟨t211,A40,H⟩:=H
 replace H : (some (t211 == 0)) = some r:=H
 have A4:=qA.mk A40
 clear A40
 obtain rfl:=Option.some.inj H
 go_enter Try.func60,Try.ntmps60
 try go_wp2_with (first|((with_reducible refine zK (N:=2) rfl ?_);refine q9 ?hg (N:=2) ?hd (cs:=#[.slice A0_0 l0_0.length c0_0]) (t:=25) ?hr ?_;(case hd=>rfl);(case hg=>rfl);(case hr=>exact byaa);intro gb209 hg w5 hbox hb;have n0_:=qA.mk (qE byab hb);have n1_:=qA.mk (hbox);have n2_:=qA.mk ((byby : w.heap.size ≤ gb209));have n3_:=qA.mk ((byby : w.heap.size ≤ gb209));clear HB;have HB:=n0_;have BK209:=n1_;have GW209:=n2_;have GE209:=n3_;clear n0_ n1_ n2_ n3_;clear hb hbox hg))
 have n0_:=qA.mk (qJ BK209.out)
 have n1_:=qA.mk (jY HB.out)
 clear BK209
 clear HB
 have BK209:=n0_
 have HB:=n1_
 clear n0_ n1_
 refine kJ (n:=8) (S:=fun w'=>w'.cell? ⟨gb209,0,none⟩ = some (.slice A0_0 l0_0.length c0_0)) (ds:=[]) #[false,false,false,false,false,false,false,false] (by kernel_rfl) rfl rfl ((qC BK209.out 0).trans rfl) (fun hHeld=>?_);refine uY zZ.tab1 zZ.bits1 (fun HT_ HW_=>?_)
 generalize w5.drew = w6 at BK209 HB hHeld ⊢
 refine zY (i:=3) (N:=some 8) (v:=?_) (a':=?_) #[false,false,false,true,false,false,false,false] rfl rfl (zO HT_.out (by kernel_rfl)) (fun _ _ _ h=>h) (Or.inl ⟨by rfl,?_⟩) ?_ ?_
 rotate_left
 ·intro w'
  go_simp
  with_reducible rfl
 rotate_left
 ·simp only [Act.put,List.setIfInBounds_toArray,List.set_cons_zero,List.set_cons_succ,qY,zA]
  rfl
 refine vZ (i:=0) (N:=some 5) (v:=?_) (a':=?_) #[true,false,false,true,false,false,false,false] rfl rfl (vJ HT_.out HW_.out (by kernel_rfl)) (fun _ _ _ h=>h) (Or.inl ⟨by rfl,?_⟩) hHeld ?_ ?_
 rotate_left
 ·intro w' s0
  go_simp
  with_reducible rfl
 rotate_left
 ·simp only [Act.put,List.setIfInBounds_toArray,List.set_cons_zero,List.set_cons_succ,qY,zA]
  rfl
 refine vZ (i:=1) (N:=some 6) (v:=?_) (a':=?_) #[true,true,false,true,false,false,false,false] rfl rfl (vJ HT_.out HW_.out (by kernel_rfl)) (fun _ _ _ h=>h) (Or.inl ⟨by rfl,?_⟩) hHeld ?_ ?_
 rotate_left
 ·intro w' s0
  go_simp
  with_reducible rfl
 rotate_left
 ·simp only [Act.put,List.setIfInBounds_toArray,List.set_cons_zero,List.set_cons_succ,qY,zA]
  rfl
 refine one_ (i:=2) (N:=some 7) #[true,true,true,true,false,false,false,false] rfl rfl (uE HT_.out (by kernel_rfl)) (by decide) (fun K hK=>?_)
 refine kD Try.func53 (by kernel_rfl) rfl #[.agg #[.slice A0_0 l0_0.length c0_0]] (by rfl) rfl rfl byah ?_
 with_reducible refine (jC.calls _ _ l0_0 t210 _ ?side1 ?side2 A3.out).mono ?_
 (case side1=>exact byaq HR0_0.out)
 (case side2=>exact HC0_0.out)
 rintro e w7 ⟨rfl,hb⟩
 refine ⟨_,rfl,?_⟩
 have n0_:=qA.mk (qH (g:=gb209) (o:=.cells #[.slice A0_0 l0_0.length c0_0] 25 (0,0)) (byaf BK209.out) hb)
 have n1_:=qA.mk (qE (byad GE209.out) hb)
 clear BK209
 clear HB
 have BK209:=n0_
 have HB:=n1_
 clear n0_ n1_
 (try clear hb)
 (try clear hb2)
 (try clear hk)
 (try clear hi)
 refine hK.out _ _ ((qC BK209.out 0).trans rfl) (fun hHeld=>?_)
 clear hK K
 refine uM (a':=?_) ?_ ?_
 rotate_left
 ·show Act.put _ (some 7) _ = _
  simp only [Act.put,List.setIfInBounds_toArray,List.set_cons_zero,List.set_cons_succ,qY,zA]
  rfl
 refine zY (i:=4) (N:=some 9) (v:=?_) (a':=?_) #[true,true,true,true,true,false,false,false] rfl rfl (zO HT_.out (by kernel_rfl)) (fun _ _ _ h=>h) (Or.inl ⟨by rfl,?_⟩) ?_ ?_
 rotate_left
 ·intro w'
  go_simp
  with_reducible rfl
 rotate_left
 ·simp only [Act.put,List.setIfInBounds_toArray,List.set_cons_zero,List.set_cons_succ,qY,zA]
  rfl
 refine one_ (i:=5) (N:=some 10) #[true,true,true,true,true,true,false,false] rfl rfl (uE HT_.out (by kernel_rfl)) (by decide) (fun K hK=>?_)
 refine kD Try.func52 (by kernel_rfl) rfl #[.agg #[.slice A0_0 l0_0.length c0_0],.int .i64 (Go.bits .andNot .i64 t210 a1)] (by rfl) rfl rfl byah ?_
 with_reducible refine (zP.calls k _ _ l0_0 (Go.bits .andNot .i64 t210 a1) t211 _ ?side1 ?side2 A4.out).mono ?_
 (case side1=>exact byaq HR0_0.out)
 (case side2=>exact HC0_0.out)
 rintro e w8 ⟨rfl,hb⟩
 refine ⟨_,rfl,?_⟩
 have n0_:=qA.mk (qH (g:=gb209) (o:=.cells #[.slice A0_0 l0_0.length c0_0] 25 (0,0)) (byaf BK209.out) hb)
 have n1_:=qA.mk (qE (byad GE209.out) hb)
 clear BK209
 clear HB
 have BK209:=n0_
 have HB:=n1_
 clear n0_ n1_
 (try clear hb)
 (try clear hb2)
 (try clear hk)
 (try clear hi)
 refine hK.out _ _ ((qC BK209.out 0).trans rfl) (fun hHeld=>?_)
 clear hK K
 refine uM (a':=?_) ?_ ?_
 rotate_left
 ·show Act.put _ (some 10) _ = _
  simp only [Act.put,List.setIfInBounds_toArray,List.set_cons_zero,List.set_cons_succ,qY,zA]
  rfl
 refine zY (i:=6) (N:=some 11) (v:=?_) (a':=?_) #[true,true,true,true,true,true,true,false] rfl rfl (zO HT_.out (by kernel_rfl)) (fun _ _ _ h=>h) (Or.inl ⟨by rfl,?_⟩) ?_ ?_
 rotate_left
 ·intro w'
  go_simp
  with_reducible rfl
 rotate_left
 ·simp only [Act.put,List.setIfInBounds_toArray,List.set_cons_zero,List.set_cons_succ,qY,zA]
  rfl
 refine zY (i:=7) (N:=some 4) (v:=?_) (a':=?_) #[true,true,true,true,true,true,true,true] rfl rfl (zO HT_.out (by kernel_rfl)) (fun _ _ _ h=>h) (Or.inl ⟨by rfl,?_⟩) ?_ ?_
 rotate_left
 ·intro w'
  go_simp
  with_reducible rfl
 rotate_left
 ·simp only [Act.put,List.setIfInBounds_toArray,List.set_cons_zero,List.set_cons_succ,qY,zA]
  rfl
 refine done_ (kS HT_.out (by kernel_rfl)) ?_
 try go_wp2
 go_ret
 exact ⟨byac,byad GE209.out⟩
end Go.Proofs.Ytkkbdimegpdbgaa.P
