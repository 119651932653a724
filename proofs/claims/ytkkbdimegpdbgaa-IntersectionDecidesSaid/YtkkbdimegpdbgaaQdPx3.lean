/- Functions of the program as Lean functions, and the walks that show that the calls answer so; written by a program of this session (a changed print) and by hand. -/
import Derived.Test.YtkkbdimegpdbgaaQdPx0
import Derived.Test.YtkkbdimegpdbgaaQdPx1
import Derived.Test.YtkkbdimegpdbgaaQdPx2
namespace Go.Proofs.Ytkkbdimegpdbgaa.P
open Go.RowKit Go.Proofs.YtkkbdimegpdbgaaW.PrintWords Go.Proofs.YtkkbdimegpdbgaaW.PrintLast Go.Proofs.YtkkbdimegpdbgaaW.PrintMore
attribute [local go_sem] uH uI uQ uR vW vV uF uG
set_option linter.unusedVariables false
set_option linter.unusedSimpArgs false
def jU.f (k : Nat) (a0_0 : Bool) (a0_1 : Int) (l0_2 : List Int) (l0_3 : List (S56)) (a1 : Int) : Option (Int):=if a0_0 = true then ((j5.f k a0_1 l0_2 l0_3).bind fun t133=>(if t133 = 0 then ((zF.f k a0_1 l0_2 l0_3).bind fun t134=>(if 0 ≤ a1 then (if t134 ≥ (shl .i64 1 a1) then (some 5) else (some 0)) else (none))) else (some t133))) else ((vO.f a0_1 l0_2 l0_3).bind fun t132=>(if t132 = true then (some 0) else (some 1)))
theorem jU.mono : ∀ a0 a1 a2 a3 a4 k,LeO (jU.f k a0 a1 a2 a3 a4) (jU.f (k + 1) a0 a1 a2 a3 a4):=by
 intro a0 a1 a2 a3 a4 k
 unfold jU.f
 repeat' first
   | (with_reducible exact zF.mono _ _ _ _)
   | (with_reducible exact j5.mono _ _ _ _)
   | (with_reducible exact LeO.refl _)
   | (with_reducible exact LeO.none _)
   | (with_reducible refine LeO.ite ?_ ?_)
   | (with_reducible refine LeO.bind ?_ (fun _=>?_))
   | exact zF.mono _ _ _ _
   | exact j5.mono _ _ _ _
   | exact LeO.none _
   | refine LeO.ite ?_ ?_
   | refine LeO.bind ?_ (fun _=>?_)
set_option maxHeartbeats 8000000 in
set_option maxRecDepth 100000 in
theorem jU.calls (k : Nat) (a0_0 : Bool) (a0_1 : Int) (A0_2 : Option Addr) (c0_2 : Nat) (l0_2 : List Int) (A0_3 : Option Addr) (c0_3 : Nat) (l0_3 : List (S56)) (a1 : Int) (r : Int) (w : World) (hr0_2 : Kd.C (Kd.int .i64) w A0_2 l0_2.length l0_2) (hc0_2 : l0_2.length ≤ c0_2) (hr0_3 : Kd.C k56 w A0_3 l0_3.length l0_3) (hc0_3 : l0_3.length ≤ c0_3) (h : jU.f k a0_0 a0_1 l0_2 l0_3 a1 = some r) :
  Calls Try.prog 49 #[.agg #[.bool a0_0,.int .i64 a0_1,.slice A0_2 l0_2.length c0_2,.slice A0_3 l0_3.length c0_3],.int .i64 a1] w fun e w'=>e = .returned (.int .i64 r)∧Below w.heap.size w w':=by
 have hu58:=Try.underlying58
 have hu56:=Try.underlying56
 have HR0_2:=qA.mk hr0_2
 have HC0_2:=qA.mk hc0_2
 clear hr0_2 hc0_2
 have HR0_3:=qA.mk hr0_3
 have HC0_3:=qA.mk hc0_3
 clear hr0_3 hc0_3
 have HB:=qA.mk (Below.refl w.heap.size w)
 have H : (if a0_0 = true then ((j5.f k a0_1 l0_2 l0_3).bind fun t133=>(if t133 = 0 then ((zF.f k a0_1 l0_2 l0_3).bind fun t134=>(if 0 ≤ a1 then (if t134 ≥ (shl .i64 1 a1) then (some 5) else (some 0)) else (none))) else (some t133))) else ((vO.f a0_1 l0_2 l0_3).bind fun t132=>(if t132 = true then (some 0) else (some 1)))) = some r:=h
 clear h
 by_cases c3 : a0_0 = true
 ·subst c3
  have H1 : ((j5.f k a0_1 l0_2 l0_3).bind fun t133=>(if t133 = 0 then ((zF.f k a0_1 l0_2 l0_3).bind fun t134=>(if 0 ≤ a1 then (if t134 ≥ (shl .i64 1 a1) then (some 5) else (some 0)) else (none))) else (some t133))) = some r:=by rw [if_pos rfl] at H;exact H
  clear H
  have H:=H1
  clear H1
  replace H:=Option.bind_eq_some_iff.mp H
  obtain ⟨t133,A40,H⟩:=H
  replace H : (if t133 = 0 then ((zF.f k a0_1 l0_2 l0_3).bind fun t134=>(if 0 ≤ a1 then (if t134 ≥ (shl .i64 1 a1) then (some 5) else (some 0)) else (none))) else (some t133)) = some r:=H
  have A4:=qA.mk A40
  clear A40
  by_cases c5 : t133 = 0
  ·rw [if_pos c5] at H
   have c5b0 : (t133 == 0) = true:=beq_iff_eq.mpr c5
   have c5b1 : (t133 != 0) = false:=bne_eq_false_iff_eq.mpr c5
   clear c5
   replace H:=Option.bind_eq_some_iff.mp H
   obtain ⟨t134,A60,H⟩:=H
   replace H : (if 0 ≤ a1 then (if t134 ≥ (shl .i64 1 a1) then (some 5) else (some 0)) else (none)) = some r:=H
   have A6:=qA.mk A60
   clear A60
   by_cases c7 : 0 ≤ a1
   ·rw [if_pos c7] at H
    have c7b0:=eq_true c7
    have c7b1 : decide (0 ≤ a1) = true:=decide_eq_true c7
    clear c7
    obtain ⟨ji8,hji8⟩ : ∃ j_ : Int,(shl .i64 1 a1) = j_:=⟨_,rfl⟩
    replace H : (if t134 ≥ (ji8) then (some 5) else (some 0)) = some r:=by first|(rw [hji8] at H;exact H)|(simp only [hji8] at H ⊢;exact H)
    (try rw [hji8] at A4)
    (try rw [hji8] at A6)
    have hji8_ : (IntKind.i64.wrap (1 * 2 ^ min a1.toNat 64)) = ji8:=hji8
    have hji8z : a1 ≤ 64→(IntKind.i64.wrap (1 * 2 ^ a1.toNat)) = ji8:=uN hji8
    have hji8u : (IntKind.i64.wrap (2 ^ min a1.toNat 64)) = ji8:=by have h_:=hji8_;rw [Int.one_mul] at h_;exact h_
    have hji8v : a1 ≤ 64→(IntKind.i64.wrap (2 ^ a1.toNat)) = ji8:=fun hle_=>by have h_:=hji8z hle_;rw [Int.one_mul] at h_;exact h_
    have hji8y : (wrap64 (1 * 2 ^ min a1.toNat 64)) = ji8:=(qY _).symm.trans hji8_
    have hji8x : a1 ≤ 64→(wrap64 (1 * 2 ^ a1.toNat)) = ji8:=fun h_=>(qY _).symm.trans (hji8z h_)
    by_cases c9 : t134 ≥ (ji8)
    ·rw [if_pos c9] at H
     have c9b0 : decide ((ji8) ≤ t134) = true:=decide_eq_true c9
     clear c9
     obtain rfl:=Option.some.inj H
     go_enter Try.func49,Try.ntmps49
     try go_wp2_with (first|((with_reducible refine zK (N:=2) rfl ?_);refine q9 ?hg (N:=2) ?hd (cs:=#[.bool true,.int .i64 a0_1,.slice A0_2 l0_2.length c0_2,.slice A0_3 l0_3.length c0_3]) (t:=58) ?hr ?_;(case hd=>rfl);(case hg=>rfl);(case hr=>exact byaa);intro gb131 hg w10 hbox hb;have n0_:=qA.mk (qE byab hb);have n1_:=qA.mk (hbox);have n2_:=qA.mk ((byby : w.heap.size ≤ gb131));have n3_:=qA.mk ((byby : w.heap.size ≤ gb131));clear HB;have HB:=n0_;have BK131:=n1_;have GW131:=n2_;have GE131:=n3_;clear n0_ n1_ n2_ n3_;clear hb hbox hg;have hcz11_0 : w10.cell? ⟨gb131,0,none⟩ = some (.bool true):=(qC BK131.out 0).trans rfl;have hcz11_1 : w10.cell? ⟨gb131,1,none⟩ = some (.int .i64 a0_1):=(qC BK131.out 1).trans rfl;have hcz11_2 : w10.cell? ⟨gb131,2,none⟩ = some (.slice A0_2 l0_2.length c0_2):=(qC BK131.out 2).trans rfl;have hcz11_3 : w10.cell? ⟨gb131,3,none⟩ = some (.slice A0_3 l0_3.length c0_3):=(qC BK131.out 3).trans rfl;have hfz11_0:=qB BK131.out 0;have hfz11_1:=qB BK131.out 1;have hfz11_2:=qB BK131.out 2;have hfz11_3:=qB BK131.out 3)|((with_reducible refine qI (f:=69) rfl ?_);refine zL (some 15) rfl rfl Try.func69 (by kernel_rfl) rfl #[.agg #[.int .i64 a0_1,.slice A0_2 l0_2.length c0_2,.slice A0_3 l0_3.length c0_3]] rfl byah ?_;(with_reducible refine (j5.calls k a0_1 _ _ l0_2 _ _ l0_3 t133 _ ?side1 ?side2 ?side3 ?side4 A4.out).mono ?_);(case side1=>exact byaq HR0_2.out);(case side2=>exact HC0_2.out);(case side3=>exact byaq HR0_3.out);(case side4=>exact HC0_3.out);rintro e w12 ⟨rfl,hb⟩;refine ⟨_,rfl,?_⟩;have n0_:=qA.mk (qH (g:=gb131) (o:=.cells #[.bool true,.int .i64 a0_1,.slice A0_2 l0_2.length c0_2,.slice A0_3 l0_3.length c0_3] 58 (0,0)) (byaf BK131.out) hb);have n1_:=qA.mk (qE (byad GE131.out) hb);clear BK131;clear HB;have BK131:=n0_;have HB:=n1_;clear n0_ n1_;(try clear hb);(try clear hb2);(try clear hk);(try clear hi)))
     have n0_:=qA.mk (qJ BK131.out)
     have n1_:=qA.mk (jY HB.out)
     clear BK131
     clear HB
     have BK131:=n0_
     have HB:=n1_
     clear n0_ n1_
     refine kJ (n:=6) (S:=fun w'=>w'.cell? ⟨gb131,0,none⟩ = some (.bool true)∧w'.cell? ⟨gb131,1,none⟩ = some (.int .i64 a0_1)∧w'.cell? ⟨gb131,2,none⟩ = some (.slice A0_2 l0_2.length c0_2)∧w'.cell? ⟨gb131,3,none⟩ = some (.slice A0_3 l0_3.length c0_3)) (ds:=[]) #[false,false,false,false,false,false] (by kernel_rfl) rfl rfl ⟨(qC BK131.out 0).trans rfl,(qC BK131.out 1).trans rfl,(qC BK131.out 2).trans rfl,(qC BK131.out 3).trans rfl⟩ (fun hHeld=>?_)
     generalize w12.drew = w13 at BK131 HB hHeld ⊢
     refine zY (i:=0) (N:=some 19) (v:=?_) (a':=?_) #[true,false,false,false,false,false] rfl rfl (by kernel_rfl) (fun _ _ _ h=>h) (Or.inl ⟨by rfl,?_⟩) ?_ ?_
     rotate_left
     ·intro w'
      go_simp
      with_reducible rfl
     rotate_left
     ·simp only [Act.put,List.setIfInBounds_toArray,List.set_cons_zero,List.set_cons_succ,qY,zA]
      rfl
     refine zY (i:=3) (N:=some 22) (v:=?_) (a':=?_) #[true,false,false,true,false,false] rfl rfl (by kernel_rfl) (fun _ _ _ h=>h) (Or.inl ⟨by rfl,?_⟩) ?_ ?_
     rotate_left
     ·intro w'
      go_simp
      with_reducible rfl
     rotate_left
     ·simp only [Act.put,List.setIfInBounds_toArray,List.set_cons_zero,List.set_cons_succ,qY,zA]
      rfl
     refine zY (i:=4) (N:=some 23) (v:=?_) (a':=?_) #[true,false,false,true,true,false] rfl rfl (by kernel_rfl) (fun _ _ _ h=>h) (Or.inl ⟨by rfl,?_⟩) ?_ ?_
     rotate_left
     ·intro w'
      go_simp
      with_reducible rfl
     rotate_left
     ·simp only [Act.put,List.setIfInBounds_toArray,List.set_cons_zero,List.set_cons_succ,qY,zA]
      rfl
     refine vZ (i:=1) (N:=some 20) (v:=?_) (a':=?_) #[true,true,false,true,true,false] rfl rfl (by kernel_rfl) (fun _ _ _ h=>h) (Or.inl ⟨by rfl,?_⟩) hHeld ?_ ?_
     rotate_left
     ·rintro w' ⟨s0,s1,s2,s3⟩
      go_simp
      with_reducible rfl
     rotate_left
     ·simp only [Act.put,List.setIfInBounds_toArray,List.set_cons_zero,List.set_cons_succ,qY,zA]
      rfl
     refine one_ (i:=2) (N:=some 21) #[true,true,true,true,true,false] rfl rfl (by kernel_rfl) (by decide) (fun K hK=>?_)
     refine kD Try.func70 (by kernel_rfl) rfl #[.agg #[.int .i64 a0_1,.slice A0_2 l0_2.length c0_2,.slice A0_3 l0_3.length c0_3]] (by rfl) rfl rfl byah ?_
     with_reducible refine (zF.calls k a0_1 _ _ l0_2 _ _ l0_3 t134 _ ?side1 ?side2 ?side3 ?side4 A6.out).mono ?_
     (case side1=>exact byaq HR0_2.out)
     (case side2=>exact HC0_2.out)
     (case side3=>exact byaq HR0_3.out)
     (case side4=>exact HC0_3.out)
     rintro e w14 ⟨rfl,hb⟩
     refine ⟨_,rfl,?_⟩
     have n0_:=qA.mk (qH (g:=gb131) (o:=.cells #[.bool true,.int .i64 a0_1,.slice A0_2 l0_2.length c0_2,.slice A0_3 l0_3.length c0_3] 58 (0,0)) (byaf BK131.out) hb)
     have n1_:=qA.mk (qE (byad GE131.out) hb)
     clear BK131
     clear HB
     have BK131:=n0_
     have HB:=n1_
     clear n0_ n1_
     (try clear hb)
     (try clear hb2)
     (try clear hk)
     (try clear hi)
     refine hK.out _ _ ⟨(qC BK131.out 0).trans rfl,(qC BK131.out 1).trans rfl,(qC BK131.out 2).trans rfl,(qC BK131.out 3).trans rfl⟩ (fun hHeld=>?_)
     clear hK K
     refine uM (a':=?_) ?_ ?_
     rotate_left
     ·show Act.put _ (some 21) _ = _
      simp only [Act.put,List.setIfInBounds_toArray,List.set_cons_zero,List.set_cons_succ,qY,zA]
      rfl
     refine zY (i:=5) (N:=some 24) (v:=?_) (a':=?_) #[true,true,true,true,true,true] rfl rfl (by kernel_rfl) (fun _ _ _ h=>h) (Or.inl ⟨by rfl,?_⟩) ?_ ?_
     rotate_left
     ·intro w'
      go_simp
      with_reducible rfl
     rotate_left
     ·simp only [Act.put,List.setIfInBounds_toArray,List.set_cons_zero,List.set_cons_succ,qY,zA]
      rfl
     refine done_ (by kernel_rfl) ?_
     try go_wp2
     go_ret
     exact ⟨byas,byad GE131.out⟩
    ·rw [if_neg c9] at H
     have c9b0 : decide ((ji8) ≤ t134) = false:=decide_eq_false c9
     clear c9
     obtain rfl:=Option.some.inj H
     go_enter Try.func49,Try.ntmps49
     try go_wp2_with (first|((with_reducible refine zK (N:=2) rfl ?_);refine q9 ?hg (N:=2) ?hd (cs:=#[.bool true,.int .i64 a0_1,.slice A0_2 l0_2.length c0_2,.slice A0_3 l0_3.length c0_3]) (t:=58) ?hr ?_;(case hd=>rfl);(case hg=>rfl);(case hr=>exact byaa);intro gb131 hg w15 hbox hb;have n0_:=qA.mk (qE byab hb);have n1_:=qA.mk (hbox);have n2_:=qA.mk ((byby : w.heap.size ≤ gb131));have n3_:=qA.mk ((byby : w.heap.size ≤ gb131));clear HB;have HB:=n0_;have BK131:=n1_;have GW131:=n2_;have GE131:=n3_;clear n0_ n1_ n2_ n3_;clear hb hbox hg;have hcz16_0 : w15.cell? ⟨gb131,0,none⟩ = some (.bool true):=(qC BK131.out 0).trans rfl;have hcz16_1 : w15.cell? ⟨gb131,1,none⟩ = some (.int .i64 a0_1):=(qC BK131.out 1).trans rfl;have hcz16_2 : w15.cell? ⟨gb131,2,none⟩ = some (.slice A0_2 l0_2.length c0_2):=(qC BK131.out 2).trans rfl;have hcz16_3 : w15.cell? ⟨gb131,3,none⟩ = some (.slice A0_3 l0_3.length c0_3):=(qC BK131.out 3).trans rfl;have hfz16_0:=qB BK131.out 0;have hfz16_1:=qB BK131.out 1;have hfz16_2:=qB BK131.out 2;have hfz16_3:=qB BK131.out 3)|((with_reducible refine qI (f:=69) rfl ?_);refine zL (some 15) rfl rfl Try.func69 (by kernel_rfl) rfl #[.agg #[.int .i64 a0_1,.slice A0_2 l0_2.length c0_2,.slice A0_3 l0_3.length c0_3]] rfl byah ?_;(with_reducible refine (j5.calls k a0_1 _ _ l0_2 _ _ l0_3 t133 _ ?side1 ?side2 ?side3 ?side4 A4.out).mono ?_);(case side1=>exact byaq HR0_2.out);(case side2=>exact HC0_2.out);(case side3=>exact byaq HR0_3.out);(case side4=>exact HC0_3.out);rintro e w17 ⟨rfl,hb⟩;refine ⟨_,rfl,?_⟩;have n0_:=qA.mk (qH (g:=gb131) (o:=.cells #[.bool true,.int .i64 a0_1,.slice A0_2 l0_2.length c0_2,.slice A0_3 l0_3.length c0_3] 58 (0,0)) (byaf BK131.out) hb);have n1_:=qA.mk (qE (byad GE131.out) hb);clear BK131;clear HB;have BK131:=n0_;have HB:=n1_;clear n0_ n1_;(try clear hb);(try clear hb2);(try clear hk);(try clear hi)))
     have n0_:=qA.mk (qJ BK131.out)
     have n1_:=qA.mk (jY HB.out)
     clear BK131
     clear HB
     have BK131:=n0_
     have HB:=n1_
     clear n0_ n1_
     refine kJ (n:=6) (S:=fun w'=>w'.cell? ⟨gb131,0,none⟩ = some (.bool true)∧w'.cell? ⟨gb131,1,none⟩ = some (.int .i64 a0_1)∧w'.cell? ⟨gb131,2,none⟩ = some (.slice A0_2 l0_2.length c0_2)∧w'.cell? ⟨gb131,3,none⟩ = some (.slice A0_3 l0_3.length c0_3)) (ds:=[]) #[false,false,false,false,false,false] (by kernel_rfl) rfl rfl ⟨(qC BK131.out 0).trans rfl,(qC BK131.out 1).trans rfl,(qC BK131.out 2).trans rfl,(qC BK131.out 3).trans rfl⟩ (fun hHeld=>?_)
     generalize w17.drew = w18 at BK131 HB hHeld ⊢
     refine zY (i:=0) (N:=some 19) (v:=?_) (a':=?_) #[true,false,false,false,false,false] rfl rfl (by kernel_rfl) (fun _ _ _ h=>h) (Or.inl ⟨by rfl,?_⟩) ?_ ?_
     rotate_left
     ·intro w'
      go_simp
      with_reducible rfl
     rotate_left
     ·simp only [Act.put,List.setIfInBounds_toArray,List.set_cons_zero,List.set_cons_succ,qY,zA]
      rfl
     refine zY (i:=3) (N:=some 22) (v:=?_) (a':=?_) #[true,false,false,true,false,false] rfl rfl (by kernel_rfl) (fun _ _ _ h=>h) (Or.inl ⟨by rfl,?_⟩) ?_ ?_
     rotate_left
     ·intro w'
      go_simp
      with_reducible rfl
     rotate_left
     ·simp only [Act.put,List.setIfInBounds_toArray,List.set_cons_zero,List.set_cons_succ,qY,zA]
      rfl
     refine zY (i:=4) (N:=some 23) (v:=?_) (a':=?_) #[true,false,false,true,true,false] rfl rfl (by kernel_rfl) (fun _ _ _ h=>h) (Or.inl ⟨by rfl,?_⟩) ?_ ?_
     rotate_left
     ·intro w'
      go_simp
      with_reducible rfl
     rotate_left
     ·simp only [Act.put,List.setIfInBounds_toArray,List.set_cons_zero,List.set_cons_succ,qY,zA]
      rfl
     refine vZ (i:=1) (N:=some 20) (v:=?_) (a':=?_) #[true,true,false,true,true,false] rfl rfl (by kernel_rfl) (fun _ _ _ h=>h) (Or.inl ⟨by rfl,?_⟩) hHeld ?_ ?_
     rotate_left
     ·rintro w' ⟨s0,s1,s2,s3⟩
      go_simp
      with_reducible rfl
     rotate_left
     ·simp only [Act.put,List.setIfInBounds_toArray,List.set_cons_zero,List.set_cons_succ,qY,zA]
      rfl
     refine one_ (i:=2) (N:=some 21) #[true,true,true,true,true,false] rfl rfl (by kernel_rfl) (by decide) (fun K hK=>?_)
     refine kD Try.func70 (by kernel_rfl) rfl #[.agg #[.int .i64 a0_1,.slice A0_2 l0_2.length c0_2,.slice A0_3 l0_3.length c0_3]] (by rfl) rfl rfl byah ?_
     with_reducible refine (zF.calls k a0_1 _ _ l0_2 _ _ l0_3 t134 _ ?side1 ?side2 ?side3 ?side4 A6.out).mono ?_
     (case side1=>exact byaq HR0_2.out)
     (case side2=>exact HC0_2.out)
     (case side3=>exact byaq HR0_3.out)
     (case side4=>exact HC0_3.out)
     rintro e w19 ⟨rfl,hb⟩
     refine ⟨_,rfl,?_⟩
     have n0_:=qA.mk (qH (g:=gb131) (o:=.cells #[.bool true,.int .i64 a0_1,.slice A0_2 l0_2.length c0_2,.slice A0_3 l0_3.length c0_3] 58 (0,0)) (byaf BK131.out) hb)
     have n1_:=qA.mk (qE (byad GE131.out) hb)
     clear BK131
     clear HB
     have BK131:=n0_
     have HB:=n1_
     clear n0_ n1_
     (try clear hb)
     (try clear hb2)
     (try clear hk)
     (try clear hi)
     refine hK.out _ _ ⟨(qC BK131.out 0).trans rfl,(qC BK131.out 1).trans rfl,(qC BK131.out 2).trans rfl,(qC BK131.out 3).trans rfl⟩ (fun hHeld=>?_)
     clear hK K
     refine uM (a':=?_) ?_ ?_
     rotate_left
     ·show Act.put _ (some 21) _ = _
      simp only [Act.put,List.setIfInBounds_toArray,List.set_cons_zero,List.set_cons_succ,qY,zA]
      rfl
     refine zY (i:=5) (N:=some 24) (v:=?_) (a':=?_) #[true,true,true,true,true,true] rfl rfl (by kernel_rfl) (fun _ _ _ h=>h) (Or.inl ⟨by rfl,?_⟩) ?_ ?_
     rotate_left
     ·intro w'
      go_simp
      with_reducible rfl
     rotate_left
     ·simp only [Act.put,List.setIfInBounds_toArray,List.set_cons_zero,List.set_cons_succ,qY,zA]
      rfl
     refine done_ (by kernel_rfl) ?_
     try go_wp2
     go_ret
     exact ⟨byas,byad GE131.out⟩
   ·rw [if_neg c7] at H
    exact absurd H (by simp)
  ·rw [if_neg c5] at H
   have c5b0 : (t133 == 0) = false:=beq_eq_false_iff_ne.mpr c5
   have c5b1 : (t133 != 0) = true:=bne_iff_ne.mpr c5
   obtain rfl:=Option.some.inj H
   go_enter Try.func49,Try.ntmps49
   go_wp2_with (first|((with_reducible refine zK (N:=2) rfl ?_);refine q9 ?hg (N:=2) ?hd (cs:=#[.bool true,.int .i64 a0_1,.slice A0_2 l0_2.length c0_2,.slice A0_3 l0_3.length c0_3]) (t:=58) ?hr ?_;(case hd=>rfl);(case hg=>rfl);(case hr=>exact byaa);intro gb131 hg w20 hbox hb;have n0_:=qA.mk (qE byab hb);have n1_:=qA.mk (hbox);have n2_:=qA.mk ((byby : w.heap.size ≤ gb131));have n3_:=qA.mk ((byby : w.heap.size ≤ gb131));clear HB;have HB:=n0_;have BK131:=n1_;have GW131:=n2_;have GE131:=n3_;clear n0_ n1_ n2_ n3_;clear hb hbox hg;have hcz21_0 : w20.cell? ⟨gb131,0,none⟩ = some (.bool true):=(qC BK131.out 0).trans rfl;have hcz21_1 : w20.cell? ⟨gb131,1,none⟩ = some (.int .i64 a0_1):=(qC BK131.out 1).trans rfl;have hcz21_2 : w20.cell? ⟨gb131,2,none⟩ = some (.slice A0_2 l0_2.length c0_2):=(qC BK131.out 2).trans rfl;have hcz21_3 : w20.cell? ⟨gb131,3,none⟩ = some (.slice A0_3 l0_3.length c0_3):=(qC BK131.out 3).trans rfl;have hfz21_0:=qB BK131.out 0;have hfz21_1:=qB BK131.out 1;have hfz21_2:=qB BK131.out 2;have hfz21_3:=qB BK131.out 3)|((with_reducible refine qI (f:=69) rfl ?_);refine zL (some 15) rfl rfl Try.func69 (by kernel_rfl) rfl #[.agg #[.int .i64 a0_1,.slice A0_2 l0_2.length c0_2,.slice A0_3 l0_3.length c0_3]] rfl byah ?_;(with_reducible refine (j5.calls k a0_1 _ _ l0_2 _ _ l0_3 t133 _ ?side1 ?side2 ?side3 ?side4 A4.out).mono ?_);(case side1=>exact byaq HR0_2.out);(case side2=>exact HC0_2.out);(case side3=>exact byaq HR0_3.out);(case side4=>exact HC0_3.out);rintro e w22 ⟨rfl,hb⟩;refine ⟨_,rfl,?_⟩;have n0_:=qA.mk (qH (g:=gb131) (o:=.cells #[.bool true,.int .i64 a0_1,.slice A0_2 l0_2.length c0_2,.slice A0_3 l0_3.length c0_3] 58 (0,0)) (byaf BK131.out) hb);have n1_:=qA.mk (qE (byad GE131.out) hb);clear BK131;clear HB;have BK131:=n0_;have HB:=n1_;clear n0_ n1_;(try clear hb);(try clear hb2);(try clear hk);(try clear hi)))
   go_ret
   exact ⟨byac,byad GE131.out⟩
 ·replace c3:=Bool.eq_false_iff.mpr c3
  subst c3
  have H1 : ((vO.f a0_1 l0_2 l0_3).bind fun t132=>(if t132 = true then (some 0) else (some 1))) = some r:=by rw [if_neg (show ¬ (false = true) by decide)] at H;exact H
  clear H
  have H:=H1
  clear H1
  replace H:=Option.bind_eq_some_iff.mp H
  obtain ⟨t132,A230,H⟩:=H
  replace H : (if t132 = true then (some 0) else (some 1)) = some r:=H
  have A23:=qA.mk A230
  clear A230
  by_cases c24 : t132 = true
  ·subst c24
   have H1 : (some 0) = some r:=by rw [if_pos rfl] at H;exact H
   clear H
   have H:=H1
   clear H1
   obtain rfl:=Option.some.inj H
   go_enter Try.func49,Try.ntmps49
   go_wp2_with (first|((with_reducible refine zK (N:=2) rfl ?_);refine q9 ?hg (N:=2) ?hd (cs:=#[.bool false,.int .i64 a0_1,.slice A0_2 l0_2.length c0_2,.slice A0_3 l0_3.length c0_3]) (t:=58) ?hr ?_;(case hd=>rfl);(case hg=>rfl);(case hr=>exact byaa);intro gb131 hg w25 hbox hb;have n0_:=qA.mk (qE byab hb);have n1_:=qA.mk (hbox);have n2_:=qA.mk ((byby : w.heap.size ≤ gb131));have n3_:=qA.mk ((byby : w.heap.size ≤ gb131));clear HB;have HB:=n0_;have BK131:=n1_;have GW131:=n2_;have GE131:=n3_;clear n0_ n1_ n2_ n3_;clear hb hbox hg;have hcz26_0 : w25.cell? ⟨gb131,0,none⟩ = some (.bool false):=(qC BK131.out 0).trans rfl;have hcz26_1 : w25.cell? ⟨gb131,1,none⟩ = some (.int .i64 a0_1):=(qC BK131.out 1).trans rfl;have hcz26_2 : w25.cell? ⟨gb131,2,none⟩ = some (.slice A0_2 l0_2.length c0_2):=(qC BK131.out 2).trans rfl;have hcz26_3 : w25.cell? ⟨gb131,3,none⟩ = some (.slice A0_3 l0_3.length c0_3):=(qC BK131.out 3).trans rfl;have hfz26_0:=qB BK131.out 0;have hfz26_1:=qB BK131.out 1;have hfz26_2:=qB BK131.out 2;have hfz26_3:=qB BK131.out 3)|((with_reducible refine qI (f:=68) rfl ?_);refine zL (some 11) rfl rfl Try.func68 (by kernel_rfl) rfl #[.agg #[.int .i64 a0_1,.slice A0_2 l0_2.length c0_2,.slice A0_3 l0_3.length c0_3]] rfl byah ?_;(with_reducible refine (vO.calls a0_1 _ _ l0_2 _ _ l0_3 true _ ?side1 ?side2 ?side3 ?side4 A23.out).mono ?_);(case side1=>exact byaq HR0_2.out);(case side2=>exact HC0_2.out);(case side3=>exact byaq HR0_3.out);(case side4=>exact HC0_3.out);rintro e w27 ⟨rfl,hb⟩;refine ⟨_,rfl,?_⟩;have n0_:=qA.mk (qH (g:=gb131) (o:=.cells #[.bool false,.int .i64 a0_1,.slice A0_2 l0_2.length c0_2,.slice A0_3 l0_3.length c0_3] 58 (0,0)) (byaf BK131.out) hb);have n1_:=qA.mk (qE (byad GE131.out) hb);clear BK131;clear HB;have BK131:=n0_;have HB:=n1_;clear n0_ n1_;(try clear hb);(try clear hb2);(try clear hk);(try clear hi)))
   go_ret
   exact ⟨byac,byad GE131.out⟩
  ·replace c24:=Bool.eq_false_iff.mpr c24
   subst c24
   have H1 : (some 1) = some r:=by rw [if_neg (show ¬ (false = true) by decide)] at H;exact H
   clear H
   have H:=H1
   clear H1
   obtain rfl:=Option.some.inj H
   go_enter Try.func49,Try.ntmps49
   go_wp2_with (first|((with_reducible refine zK (N:=2) rfl ?_);refine q9 ?hg (N:=2) ?hd (cs:=#[.bool false,.int .i64 a0_1,.slice A0_2 l0_2.length c0_2,.slice A0_3 l0_3.length c0_3]) (t:=58) ?hr ?_;(case hd=>rfl);(case hg=>rfl);(case hr=>exact byaa);intro gb131 hg w28 hbox hb;have n0_:=qA.mk (qE byab hb);have n1_:=qA.mk (hbox);have n2_:=qA.mk ((byby : w.heap.size ≤ gb131));have n3_:=qA.mk ((byby : w.heap.size ≤ gb131));clear HB;have HB:=n0_;have BK131:=n1_;have GW131:=n2_;have GE131:=n3_;clear n0_ n1_ n2_ n3_;clear hb hbox hg;have hcz29_0 : w28.cell? ⟨gb131,0,none⟩ = some (.bool false):=(qC BK131.out 0).trans rfl;have hcz29_1 : w28.cell? ⟨gb131,1,none⟩ = some (.int .i64 a0_1):=(qC BK131.out 1).trans rfl;have hcz29_2 : w28.cell? ⟨gb131,2,none⟩ = some (.slice A0_2 l0_2.length c0_2):=(qC BK131.out 2).trans rfl;have hcz29_3 : w28.cell? ⟨gb131,3,none⟩ = some (.slice A0_3 l0_3.length c0_3):=(qC BK131.out 3).trans rfl;have hfz29_0:=qB BK131.out 0;have hfz29_1:=qB BK131.out 1;have hfz29_2:=qB BK131.out 2;have hfz29_3:=qB BK131.out 3)|((with_reducible refine qI (f:=68) rfl ?_);refine zL (some 11) rfl rfl Try.func68 (by kernel_rfl) rfl #[.agg #[.int .i64 a0_1,.slice A0_2 l0_2.length c0_2,.slice A0_3 l0_3.length c0_3]] rfl byah ?_;(with_reducible refine (vO.calls a0_1 _ _ l0_2 _ _ l0_3 false _ ?side1 ?side2 ?side3 ?side4 A23.out).mono ?_);(case side1=>exact byaq HR0_2.out);(case side2=>exact HC0_2.out);(case side3=>exact byaq HR0_3.out);(case side4=>exact HC0_3.out);rintro e w30 ⟨rfl,hb⟩;refine ⟨_,rfl,?_⟩;have n0_:=qA.mk (qH (g:=gb131) (o:=.cells #[.bool false,.int .i64 a0_1,.slice A0_2 l0_2.length c0_2,.slice A0_3 l0_3.length c0_3] 58 (0,0)) (byaf BK131.out) hb);have n1_:=qA.mk (qE (byad GE131.out) hb);clear BK131;clear HB;have BK131:=n0_;have HB:=n1_;clear n0_ n1_;(try clear hb);(try clear hb2);(try clear hk);(try clear hi)))
   go_ret
   exact ⟨byac,byad GE131.out⟩
def zB.l0 : Nat→List (S58)→Int→Int→List (S58)→Option (Int)
 | 0,_,_,_,_=>none
 | k + 1,x11,x12,x13,x136000=>if x13 < x12 then (if 0 ≤ x13 then (if x13 < (x11.length : Int) then ((jU.f k ((jO x11 x13).f0) ((jO x11 x13).f1.f0) ((jO x11 x13).f1.f1) ((jO x11 x13).f1.f2) (x136000.length : Int)).bind fun t138=>(if t138 = 0 then (zB.l0 k x11 x12 (wrap64 (x13 + 1)) x136000) else (some t138))) else (none)) else (none)) else (some 0)
def zB.f (k : Nat) (l0_0 : List (S58)) : Option (Int):=if (l0_0.length : Int) > 10 then (some 3) else (zB.l0 k l0_0 (l0_0.length : Int) 0 l0_0)
theorem zB.mono_l : ∀ k,(∀ y0 y1 y2 y3,LeO (zB.l0 k y0 y1 y2 y3) (zB.l0 (k + 1) y0 y1 y2 y3))
 | 0=>fun _ _ _ _ r h=>by simp [zB.l0] at h
 | k + 1=>by
  have ih0:=zB.mono_l k
  ·intro y0 y1 y2 y3
   unfold zB.l0
   repeat' first
   | (with_reducible exact ih0 _ _ _ _)
   | (with_reducible exact jU.mono _ _ _ _ _ _)
   | (with_reducible exact LeO.refl _)
   | (with_reducible exact LeO.none _)
   | (with_reducible refine LeO.ite ?_ ?_)
   | (with_reducible refine LeO.bind ?_ (fun _=>?_))
   | exact ih0 _ _ _ _
   | exact jU.mono _ _ _ _ _ _
   | exact LeO.none _
   | refine LeO.ite ?_ ?_
   | refine LeO.bind ?_ (fun _=>?_)
theorem zB.mono : ∀ a0 k,LeO (zB.f k a0) (zB.f (k + 1) a0):=by
 intro a0 k
 have ih0:=zB.mono_l k
 unfold zB.f
 repeat' first
   | (with_reducible exact ih0 _ _ _ _)
   | (with_reducible exact jU.mono _ _ _ _ _ _)
   | (with_reducible exact LeO.refl _)
   | (with_reducible exact LeO.none _)
   | (with_reducible refine LeO.ite ?_ ?_)
   | (with_reducible refine LeO.bind ?_ (fun _=>?_))
   | exact ih0 _ _ _ _
   | exact jU.mono _ _ _ _ _ _
   | exact LeO.none _
   | refine LeO.ite ?_ ?_
   | refine LeO.bind ?_ (fun _=>?_)
set_option maxHeartbeats 8000000 in
set_option maxRecDepth 100000 in
theorem zB.calls (k : Nat) (A0_0 : Option Addr) (c0_0 : Nat) (l0_0 : List (S58)) (r : Int) (w : World) (hr0_0 : Kd.C k58 w A0_0 l0_0.length l0_0) (hc0_0 : l0_0.length ≤ c0_0) (h : zB.f k l0_0 = some r) :
  Calls Try.prog 35 #[.agg #[.slice A0_0 l0_0.length c0_0]] w fun e w'=>e = .returned (.int .i64 r)∧Below w.heap.size w w':=by
 have hu25:=Try.underlying25
 have hu58:=Try.underlying58
 have HR0_0:=qA.mk hr0_0
 have HC0_0:=qA.mk hc0_0
 clear hr0_0 hc0_0
 have HB:=qA.mk (Below.refl w.heap.size w)
 have H : (if (l0_0.length : Int) > 10 then (some 3) else (zB.l0 k l0_0 (l0_0.length : Int) 0 l0_0)) = some r:=h
 clear h
 by_cases c2 : (l0_0.length : Int) > 10
 ·rw [if_pos c2] at H
  have c2b0 : decide (10 < (l0_0.length : Int)) = true:=decide_eq_true c2
  have c2b1 : decide (10 < l0_0.length) = true:=decide_eq_true (by omega)
  clear c2
  obtain rfl:=Option.some.inj H
  go_enter Try.func35,Try.ntmps35
  go_wp2_with (first|((with_reducible refine zK (N:=1) rfl ?_);refine q9 ?hg (N:=1) ?hd (cs:=#[.slice A0_0 l0_0.length c0_0]) (t:=25) ?hr ?_;(case hd=>rfl);(case hg=>rfl);(case hr=>exact byaa);intro gb135 hg w3 hbox hb;have n0_:=qA.mk (qE byab hb);have n1_:=qA.mk (hbox);have n2_:=qA.mk ((byby : w.heap.size ≤ gb135));have n3_:=qA.mk ((byby : w.heap.size ≤ gb135));clear HB;have HB:=n0_;have BK135:=n1_;have GW135:=n2_;have GE135:=n3_;clear n0_ n1_ n2_ n3_;clear hb hbox hg;have hcz4_0 : w3.cell? ⟨gb135,0,none⟩ = some (.slice A0_0 l0_0.length c0_0):=(qC BK135.out 0).trans rfl;have hfz4_0:=qB BK135.out 0))
  go_ret
  exact ⟨byac,byad GE135.out⟩
 ·rw [if_neg c2] at H
  have c2b0 : decide (10 < (l0_0.length : Int)) = false:=decide_eq_false c2
  have c2b1 : decide (10 < l0_0.length) = false:=decide_eq_false (by omega)
  clear c2
  have H':=qA.mk H
  clear H
  go_enter Try.func35,Try.ntmps35
  go_wp2_with (first|((with_reducible refine zK (N:=1) rfl ?_);refine q9 ?hg (N:=1) ?hd (cs:=#[.slice A0_0 l0_0.length c0_0]) (t:=25) ?hr ?_;(case hd=>rfl);(case hg=>rfl);(case hr=>exact byaa);intro gb135 hg w5 hbox hb;have n0_:=qA.mk (qE byab hb);have n1_:=qA.mk (hbox);have n2_:=qA.mk ((byby : w.heap.size ≤ gb135));have n3_:=qA.mk ((byby : w.heap.size ≤ gb135));clear HB;have HB:=n0_;have BK135:=n1_;have GW135:=n2_;have GE135:=n3_;clear n0_ n1_ n2_ n3_;clear hb hbox hg;have hcz6_0 : w5.cell? ⟨gb135,0,none⟩ = some (.slice A0_0 l0_0.length c0_0):=(qC BK135.out 0).trans rfl;have hfz6_0:=qB BK135.out 0))
  go_loopg [13] k (fun kq v13 w'=>∃ (x13_1 : Int),v13 = .int .i64 x13_1∧qA (zB.l0 kq l0_0 (l0_0.length : Int) x13_1 l0_0 = some r)∧qA (kq ≤ k)∧qA (w'.heap[gb135]? = some (.cells #[(.slice A0_0 l0_0.length c0_0)] 25 (0,0)))∧qA (Below w.heap.size w w'))
  case atStart=>exact ⟨(0),byae,H',⟨Nat.le_refl _⟩,⟨byaf BK135.out⟩,⟨byad GE135.out⟩⟩
  case round =>
   clear H'
   try clear c2
   try clear c2b0
   try clear c2b1
   try clear p2
   try clear c3
   try clear hcz4_0
   try clear hcz6_0
   try clear hfz4_0
   try clear hfz6_0
   obtain ⟨x13_1,rfl,HA,HK1,BK135,HB⟩:=hrel
   cases gk with
   | zero=>exact absurd HA.out (by simp [zB.l0])
   | succ k1 =>
    have H:=HA.out
    clear HA
    simp only [zB.l0] at H
    by_cases c7 : x13_1 < (l0_0.length : Int)
    ·rw [if_pos c7] at H
     have c7b0 : decide (x13_1 < (l0_0.length : Int)) = true:=decide_eq_true c7
     clear c7
     by_cases c8 : 0 ≤ x13_1
     ·rw [if_pos c8] at H
      have c8b0 : decide (0 ≤ x13_1) = true:=decide_eq_true c8
      clear c8
      by_cases c9 : x13_1 < (l0_0.length : Int)
      ·rw [if_pos c9] at H
       have c9b0 : decide (x13_1 < (l0_0.length : Int)) = true:=decide_eq_true c9
       clear c9
       replace H:=Option.bind_eq_some_iff.mp H
       obtain ⟨t138,A100,H⟩:=H
       replace H : (if t138 = 0 then (zB.l0 k1 l0_0 (l0_0.length : Int) (wrap64 (x13_1 + 1)) l0_0) else (some t138)) = some r:=H
       have A10:=qA.mk A100
       clear A100
       by_cases c11 : t138 = 0
       ·rw [if_pos c11] at H
        have c11b0 : (t138 == 0) = true:=beq_iff_eq.mpr c11
        have c11b1 : (t138 != 0) = false:=bne_eq_false_iff_eq.mpr c11
        clear c11
        have H':=qA.mk H
        clear H
        have p136 : 0 ≤ (x13_1 : Int):=of_decide_eq_true byag
        have q136 : x13_1 < (l0_0.length : Int):=of_decide_eq_true byag
        obtain ⟨ad136,A136_2,c136_2,A136_3,c136_3,e136,hx136_0,hx136_1,hx136_2,hx136_3,hl136_2,hi136_2,hl136_3,hi136_3⟩:=at_T58 HR0_0.out x13_1 p136 q136
        cases e136
        replace hx136_0:=(HB.out.cell (World.block_lt_of_cell? w _ hx136_0)).trans hx136_0
        replace hx136_1:=(HB.out.cell (World.block_lt_of_cell? w _ hx136_1)).trans hx136_1
        replace hx136_2:=(HB.out.cell (World.block_lt_of_cell? w _ hx136_2)).trans hx136_2
        replace hx136_3:=(HB.out.cell (World.block_lt_of_cell? w _ hx136_3)).trans hx136_3
        have HR136_2:=qA.mk hi136_2
        have HC136_2:=qA.mk hl136_2
        clear hi136_2 hl136_2
        have HR136_3:=qA.mk hi136_3
        have HC136_3:=qA.mk hl136_3
        clear hi136_3 hl136_3
        replace p136:=eq_true p136
        replace q136:=eq_true q136
        go_wp2_with (first|((with_reducible refine zK (N:=4) rfl ?_);refine q9 ?hg (N:=4) ?hd (cs:=#[.bool false,.int .i64 0,.slice none 0 0,.slice none 0 0]) (t:=58) ?hr ?_;(case hd=>rfl);(case hg=>rfl);(case hr=>exact byaa);intro gb137 hg w12 hbox hb;have n0_:=qA.mk (qH (g:=gb135) (o:=.cells #[.slice (some ad136) l0_0.length c0_0] 25 (0,0)) (byaf BK135.out) hb);have n1_:=qA.mk (qE (byad GE135.out) hb);have n2_:=qA.mk (hbox);have n3_:=qA.mk ((bybz GE135.out : w.heap.size ≤ gb137));have n4_:=qA.mk ((bybz GE135.out : w.heap.size ≤ gb137));have n5_:=qA.mk ((by rw [hg];exact Nat.ne_of_lt (jF (g:=gb135) (o:=.cells #[.slice (some ad136) l0_0.length c0_0] 25 (0,0)) (byaf BK135.out)) : gb135≠gb137));have n6_:=qA.mk ((by rw [hg];exact Nat.ne_of_gt (jF (g:=gb135) (o:=.cells #[.slice (some ad136) l0_0.length c0_0] 25 (0,0)) (byaf BK135.out)) : gb137≠gb135));clear BK135;clear HB;have BK135:=n0_;have HB:=n1_;have BK137:=n2_;have GW137:=n3_;have GE137:=n4_;have NB135_137:=n5_;have NB137_135:=n6_;clear n0_ n1_ n2_ n3_ n4_ n5_ n6_;clear hb hbox hg;have hnb13:=NB137_135.out;have hnc13:=NB135_137.out;have hcz14_0 : w12.cell? ⟨gb137,0,none⟩ = some (.bool false):=(qC BK137.out 0).trans rfl;have hcz14_1 : w12.cell? ⟨gb137,1,none⟩ = some (.int .i64 0):=(qC BK137.out 1).trans rfl;have hcz14_2 : w12.cell? ⟨gb137,2,none⟩ = some (.slice none 0 0):=(qC BK137.out 2).trans rfl;have hcz14_3 : w12.cell? ⟨gb137,3,none⟩ = some (.slice none 0 0):=(qC BK137.out 3).trans rfl;have hfz14_0:=qB BK137.out 0;have hfz14_1:=qB BK137.out 1;have hfz14_2:=qB BK137.out 2;have hfz14_3:=qB BK137.out 3;have hcz15_0 : w12.cell? ⟨gb135,0,none⟩ = some (.slice (some ad136) l0_0.length c0_0):=(qC BK135.out 0).trans rfl;have hfz15_0:=qB BK135.out 0)|((with_reducible refine qI (f:=49) rfl ?_);refine zL (some 21) rfl rfl Try.func49 (by kernel_rfl) rfl #[.agg #[.bool ((jO l0_0 x13_1).f0),.int .i64 ((jO l0_0 x13_1).f1.f0),.slice A136_2 ((jO l0_0 x13_1).f1.f1).length c136_2,.slice A136_3 ((jO l0_0 x13_1).f1.f2).length c136_3],.int .i64 (l0_0.length : Int)] rfl byah ?_;(with_reducible refine (jU.calls k1 ((jO l0_0 x13_1).f0) ((jO l0_0 x13_1).f1.f0) _ _ ((jO l0_0 x13_1).f1.f1) _ _ ((jO l0_0 x13_1).f1.f2) (l0_0.length : Int) t138 _ ?side1 ?side2 ?side3 ?side4 A10.out).mono ?_);(case side1=>exact Kd.vK HR136_2.out (byaj GE135.out GE137.out));(case side2=>exact HC136_2.out);(case side3=>exact Kd.vK HR136_3.out (byaj GE135.out GE137.out));(case side4=>exact HC136_3.out);rintro e w16 ⟨rfl,hb⟩;refine ⟨_,rfl,?_⟩;have n0_:=qA.mk (qH (g:=gb135) (o:=.cells #[.slice (some ad136) l0_0.length c0_0] 25 (0,0)) (byat NB135_137.out BK135.out) hb);have n1_:=qA.mk (qH (g:=gb137) (o:=.cells #[.bool ((jO l0_0 x13_1).f0),.int .i64 ((jO l0_0 x13_1).f1.f0),.slice A136_2 ((jO l0_0 x13_1).f1.f1).length c136_2,.slice A136_3 ((jO l0_0 x13_1).f1.f2).length c136_3] 58 (0,0)) (by (with_reducible repeat (first|refine qG ?_ _|refine qJ ?_|refine qF ?_ _));refine zJ (cs:=#[.bool ((jO l0_0 x13_1).f0),.int .i64 ((jO l0_0 x13_1).f1.f0),.slice A136_2 ((jO l0_0 x13_1).f1.f1).length c136_2,.slice none 0 0]) ?_ 3 _ rfl;(with_reducible repeat (first|refine qG ?_ _|refine qJ ?_|refine qF ?_ _));refine zJ (cs:=#[.bool ((jO l0_0 x13_1).f0),.int .i64 ((jO l0_0 x13_1).f1.f0),.slice none 0 0,.slice none 0 0]) ?_ 2 _ rfl;(with_reducible repeat (first|refine qG ?_ _|refine qJ ?_|refine qF ?_ _));refine zJ (cs:=#[.bool ((jO l0_0 x13_1).f0),.int .i64 0,.slice none 0 0,.slice none 0 0]) ?_ 1 _ rfl;(with_reducible repeat (first|refine qG ?_ _|refine qJ ?_|refine qF ?_ _));refine zJ (cs:=#[.bool false,.int .i64 0,.slice none 0 0,.slice none 0 0]) ?_ 0 _ rfl;(with_reducible repeat (first|refine qG ?_ _|refine qJ ?_|refine qF ?_ _));exact BK137.out) hb);have n2_:=qA.mk (qE (byaj GE135.out GE137.out) hb);clear BK135;clear BK137;clear HB;have BK135:=n0_;have BK137:=n1_;have HB:=n2_;clear n0_ n1_ n2_;(try clear hb);(try clear hb2);(try clear hk);(try clear hi)))
        go_roundg k1
        case measure=>have:=HK1.out;omega
        case rel=>exact ⟨(wrap64 (x13_1 + 1)),byae,H',⟨byai⟩,⟨byaf BK135.out⟩,⟨byaj GE135.out GE137.out⟩⟩
       ·rw [if_neg c11] at H
        have c11b0 : (t138 == 0) = false:=beq_eq_false_iff_ne.mpr c11
        have c11b1 : (t138 != 0) = true:=bne_iff_ne.mpr c11
        obtain rfl:=Option.some.inj H
        have p136 : 0 ≤ (x13_1 : Int):=of_decide_eq_true byag
        have q136 : x13_1 < (l0_0.length : Int):=of_decide_eq_true byag
        obtain ⟨ad136,A136_2,c136_2,A136_3,c136_3,e136,hx136_0,hx136_1,hx136_2,hx136_3,hl136_2,hi136_2,hl136_3,hi136_3⟩:=at_T58 HR0_0.out x13_1 p136 q136
        cases e136
        replace hx136_0:=(HB.out.cell (World.block_lt_of_cell? w _ hx136_0)).trans hx136_0
        replace hx136_1:=(HB.out.cell (World.block_lt_of_cell? w _ hx136_1)).trans hx136_1
        replace hx136_2:=(HB.out.cell (World.block_lt_of_cell? w _ hx136_2)).trans hx136_2
        replace hx136_3:=(HB.out.cell (World.block_lt_of_cell? w _ hx136_3)).trans hx136_3
        have HR136_2:=qA.mk hi136_2
        have HC136_2:=qA.mk hl136_2
        clear hi136_2 hl136_2
        have HR136_3:=qA.mk hi136_3
        have HC136_3:=qA.mk hl136_3
        clear hi136_3 hl136_3
        replace p136:=eq_true p136
        replace q136:=eq_true q136
        go_wp2_with (first|((with_reducible refine zK (N:=4) rfl ?_);refine q9 ?hg (N:=4) ?hd (cs:=#[.bool false,.int .i64 0,.slice none 0 0,.slice none 0 0]) (t:=58) ?hr ?_;(case hd=>rfl);(case hg=>rfl);(case hr=>exact byaa);intro gb137 hg w17 hbox hb;have n0_:=qA.mk (qH (g:=gb135) (o:=.cells #[.slice (some ad136) l0_0.length c0_0] 25 (0,0)) (byaf BK135.out) hb);have n1_:=qA.mk (qE (byad GE135.out) hb);have n2_:=qA.mk (hbox);have n3_:=qA.mk ((bybz GE135.out : w.heap.size ≤ gb137));have n4_:=qA.mk ((bybz GE135.out : w.heap.size ≤ gb137));have n5_:=qA.mk ((by rw [hg];exact Nat.ne_of_lt (jF (g:=gb135) (o:=.cells #[.slice (some ad136) l0_0.length c0_0] 25 (0,0)) (byaf BK135.out)) : gb135≠gb137));have n6_:=qA.mk ((by rw [hg];exact Nat.ne_of_gt (jF (g:=gb135) (o:=.cells #[.slice (some ad136) l0_0.length c0_0] 25 (0,0)) (byaf BK135.out)) : gb137≠gb135));clear BK135;clear HB;have BK135:=n0_;have HB:=n1_;have BK137:=n2_;have GW137:=n3_;have GE137:=n4_;have NB135_137:=n5_;have NB137_135:=n6_;clear n0_ n1_ n2_ n3_ n4_ n5_ n6_;clear hb hbox hg;have hnb18:=NB137_135.out;have hnc18:=NB135_137.out;have hcz19_0 : w17.cell? ⟨gb137,0,none⟩ = some (.bool false):=(qC BK137.out 0).trans rfl;have hcz19_1 : w17.cell? ⟨gb137,1,none⟩ = some (.int .i64 0):=(qC BK137.out 1).trans rfl;have hcz19_2 : w17.cell? ⟨gb137,2,none⟩ = some (.slice none 0 0):=(qC BK137.out 2).trans rfl;have hcz19_3 : w17.cell? ⟨gb137,3,none⟩ = some (.slice none 0 0):=(qC BK137.out 3).trans rfl;have hfz19_0:=qB BK137.out 0;have hfz19_1:=qB BK137.out 1;have hfz19_2:=qB BK137.out 2;have hfz19_3:=qB BK137.out 3;have hcz20_0 : w17.cell? ⟨gb135,0,none⟩ = some (.slice (some ad136) l0_0.length c0_0):=(qC BK135.out 0).trans rfl;have hfz20_0:=qB BK135.out 0)|((with_reducible refine qI (f:=49) rfl ?_);refine zL (some 21) rfl rfl Try.func49 (by kernel_rfl) rfl #[.agg #[.bool ((jO l0_0 x13_1).f0),.int .i64 ((jO l0_0 x13_1).f1.f0),.slice A136_2 ((jO l0_0 x13_1).f1.f1).length c136_2,.slice A136_3 ((jO l0_0 x13_1).f1.f2).length c136_3],.int .i64 (l0_0.length : Int)] rfl byah ?_;(with_reducible refine (jU.calls k1 ((jO l0_0 x13_1).f0) ((jO l0_0 x13_1).f1.f0) _ _ ((jO l0_0 x13_1).f1.f1) _ _ ((jO l0_0 x13_1).f1.f2) (l0_0.length : Int) t138 _ ?side1 ?side2 ?side3 ?side4 A10.out).mono ?_);(case side1=>exact Kd.vK HR136_2.out (byaj GE135.out GE137.out));(case side2=>exact HC136_2.out);(case side3=>exact Kd.vK HR136_3.out (byaj GE135.out GE137.out));(case side4=>exact HC136_3.out);rintro e w21 ⟨rfl,hb⟩;refine ⟨_,rfl,?_⟩;have n0_:=qA.mk (qH (g:=gb135) (o:=.cells #[.slice (some ad136) l0_0.length c0_0] 25 (0,0)) (byat NB135_137.out BK135.out) hb);have n1_:=qA.mk (qH (g:=gb137) (o:=.cells #[.bool ((jO l0_0 x13_1).f0),.int .i64 ((jO l0_0 x13_1).f1.f0),.slice A136_2 ((jO l0_0 x13_1).f1.f1).length c136_2,.slice A136_3 ((jO l0_0 x13_1).f1.f2).length c136_3] 58 (0,0)) (by (with_reducible repeat (first|refine qG ?_ _|refine qJ ?_|refine qF ?_ _));refine zJ (cs:=#[.bool ((jO l0_0 x13_1).f0),.int .i64 ((jO l0_0 x13_1).f1.f0),.slice A136_2 ((jO l0_0 x13_1).f1.f1).length c136_2,.slice none 0 0]) ?_ 3 _ rfl;(with_reducible repeat (first|refine qG ?_ _|refine qJ ?_|refine qF ?_ _));refine zJ (cs:=#[.bool ((jO l0_0 x13_1).f0),.int .i64 ((jO l0_0 x13_1).f1.f0),.slice none 0 0,.slice none 0 0]) ?_ 2 _ rfl;(with_reducible repeat (first|refine qG ?_ _|refine qJ ?_|refine qF ?_ _));refine zJ (cs:=#[.bool ((jO l0_0 x13_1).f0),.int .i64 0,.slice none 0 0,.slice none 0 0]) ?_ 1 _ rfl;(with_reducible repeat (first|refine qG ?_ _|refine qJ ?_|refine qF ?_ _));refine zJ (cs:=#[.bool false,.int .i64 0,.slice none 0 0,.slice none 0 0]) ?_ 0 _ rfl;(with_reducible repeat (first|refine qG ?_ _|refine qJ ?_|refine qF ?_ _));exact BK137.out) hb);have n2_:=qA.mk (qE (byaj GE135.out GE137.out) hb);clear BK135;clear BK137;clear HB;have BK135:=n0_;have BK137:=n1_;have HB:=n2_;clear n0_ n1_ n2_;(try clear hb);(try clear hb2);(try clear hk);(try clear hi)))
        go_ret
        exact ⟨byac,byaj GE135.out GE137.out⟩
      ·rw [if_neg c9] at H
       exact absurd H (by simp)
     ·rw [if_neg c8] at H
      exact absurd H (by simp)
    ·rw [if_neg c7] at H
     have c7b0 : decide (x13_1 < (l0_0.length : Int)) = false:=decide_eq_false c7
     clear c7
     obtain rfl:=Option.some.inj H
     go_wp2
     go_ret
     exact ⟨byac,byad GE135.out⟩
def kG.f (a0 : Int) : Option (Int):=some (Go.bits .and .i64 (wrap64 (IntKind.u64.wrap ((IntKind.u64.wrap ((IntKind.u64.wrap ((Go.bits .and .u64 (IntKind.u64.wrap (((IntKind.u64.wrap ((Go.bits .and .u64 ((IntKind.u64.wrap ((Go.bits .and .u64 (a0 / 2) 6148914691236517205) + (Go.bits .and .u64 a0 6148914691236517205))) / 4) 3689348814741910323) + (Go.bits .and .u64 (IntKind.u64.wrap ((Go.bits .and .u64 (a0 / 2) 6148914691236517205) + (Go.bits .and .u64 a0 6148914691236517205))) 3689348814741910323))) / 16) + (IntKind.u64.wrap ((Go.bits .and .u64 ((IntKind.u64.wrap ((Go.bits .and .u64 (a0 / 2) 6148914691236517205) + (Go.bits .and .u64 a0 6148914691236517205))) / 4) 3689348814741910323) + (Go.bits .and .u64 (IntKind.u64.wrap ((Go.bits .and .u64 (a0 / 2) 6148914691236517205) + (Go.bits .and .u64 a0 6148914691236517205))) 3689348814741910323))))) 1085102592571150095) + ((Go.bits .and .u64 (IntKind.u64.wrap (((IntKind.u64.wrap ((Go.bits .and .u64 ((IntKind.u64.wrap ((Go.bits .and .u64 (a0 / 2) 6148914691236517205) + (Go.bits .and .u64 a0 6148914691236517205))) / 4) 3689348814741910323) + (Go.bits .and .u64 (IntKind.u64.wrap ((Go.bits .and .u64 (a0 / 2) 6148914691236517205) + (Go.bits .and .u64 a0 6148914691236517205))) 3689348814741910323))) / 16) + (IntKind.u64.wrap ((Go.bits .and .u64 ((IntKind.u64.wrap ((Go.bits .and .u64 (a0 / 2) 6148914691236517205) + (Go.bits .and .u64 a0 6148914691236517205))) / 4) 3689348814741910323) + (Go.bits .and .u64 (IntKind.u64.wrap ((Go.bits .and .u64 (a0 / 2) 6148914691236517205) + (Go.bits .and .u64 a0 6148914691236517205))) 3689348814741910323))))) 1085102592571150095) / 256))) + ((IntKind.u64.wrap ((Go.bits .and .u64 (IntKind.u64.wrap (((IntKind.u64.wrap ((Go.bits .and .u64 ((IntKind.u64.wrap ((Go.bits .and .u64 (a0 / 2) 6148914691236517205) + (Go.bits .and .u64 a0 6148914691236517205))) / 4) 3689348814741910323) + (Go.bits .and .u64 (IntKind.u64.wrap ((Go.bits .and .u64 (a0 / 2) 6148914691236517205) + (Go.bits .and .u64 a0 6148914691236517205))) 3689348814741910323))) / 16) + (IntKind.u64.wrap ((Go.bits .and .u64 ((IntKind.u64.wrap ((Go.bits .and .u64 (a0 / 2) 6148914691236517205) + (Go.bits .and .u64 a0 6148914691236517205))) / 4) 3689348814741910323) + (Go.bits .and .u64 (IntKind.u64.wrap ((Go.bits .and .u64 (a0 / 2) 6148914691236517205) + (Go.bits .and .u64 a0 6148914691236517205))) 3689348814741910323))))) 1085102592571150095) + ((Go.bits .and .u64 (IntKind.u64.wrap (((IntKind.u64.wrap ((Go.bits .and .u64 ((IntKind.u64.wrap ((Go.bits .and .u64 (a0 / 2) 6148914691236517205) + (Go.bits .and .u64 a0 6148914691236517205))) / 4) 3689348814741910323) + (Go.bits .and .u64 (IntKind.u64.wrap ((Go.bits .and .u64 (a0 / 2) 6148914691236517205) + (Go.bits .and .u64 a0 6148914691236517205))) 3689348814741910323))) / 16) + (IntKind.u64.wrap ((Go.bits .and .u64 ((IntKind.u64.wrap ((Go.bits .and .u64 (a0 / 2) 6148914691236517205) + (Go.bits .and .u64 a0 6148914691236517205))) / 4) 3689348814741910323) + (Go.bits .and .u64 (IntKind.u64.wrap ((Go.bits .and .u64 (a0 / 2) 6148914691236517205) + (Go.bits .and .u64 a0 6148914691236517205))) 3689348814741910323))))) 1085102592571150095) / 256))) / 65536))) + ((IntKind.u64.wrap ((IntKind.u64.wrap ((Go.bits .and .u64 (IntKind.u64.wrap (((IntKind.u64.wrap ((Go.bits .and .u64 ((IntKind.u64.wrap ((Go.bits .and .u64 (a0 / 2) 6148914691236517205) + (Go.bits .and .u64 a0 6148914691236517205))) / 4) 3689348814741910323) + (Go.bits .and .u64 (IntKind.u64.wrap ((Go.bits .and .u64 (a0 / 2) 6148914691236517205) + (Go.bits .and .u64 a0 6148914691236517205))) 3689348814741910323))) / 16) + (IntKind.u64.wrap ((Go.bits .and .u64 ((IntKind.u64.wrap ((Go.bits .and .u64 (a0 / 2) 6148914691236517205) + (Go.bits .and .u64 a0 6148914691236517205))) / 4) 3689348814741910323) + (Go.bits .and .u64 (IntKind.u64.wrap ((Go.bits .and .u64 (a0 / 2) 6148914691236517205) + (Go.bits .and .u64 a0 6148914691236517205))) 3689348814741910323))))) 1085102592571150095) + ((Go.bits .and .u64 (IntKind.u64.wrap (((IntKind.u64.wrap ((Go.bits .and .u64 ((IntKind.u64.wrap ((Go.bits .and .u64 (a0 / 2) 6148914691236517205) + (Go.bits .and .u64 a0 6148914691236517205))) / 4) 3689348814741910323) + (Go.bits .and .u64 (IntKind.u64.wrap ((Go.bits .and .u64 (a0 / 2) 6148914691236517205) + (Go.bits .and .u64 a0 6148914691236517205))) 3689348814741910323))) / 16) + (IntKind.u64.wrap ((Go.bits .and .u64 ((IntKind.u64.wrap ((Go.bits .and .u64 (a0 / 2) 6148914691236517205) + (Go.bits .and .u64 a0 6148914691236517205))) / 4) 3689348814741910323) + (Go.bits .and .u64 (IntKind.u64.wrap ((Go.bits .and .u64 (a0 / 2) 6148914691236517205) + (Go.bits .and .u64 a0 6148914691236517205))) 3689348814741910323))))) 1085102592571150095) / 256))) + ((IntKind.u64.wrap ((Go.bits .and .u64 (IntKind.u64.wrap (((IntKind.u64.wrap ((Go.bits .and .u64 ((IntKind.u64.wrap ((Go.bits .and .u64 (a0 / 2) 6148914691236517205) + (Go.bits .and .u64 a0 6148914691236517205))) / 4) 3689348814741910323) + (Go.bits .and .u64 (IntKind.u64.wrap ((Go.bits .and .u64 (a0 / 2) 6148914691236517205) + (Go.bits .and .u64 a0 6148914691236517205))) 3689348814741910323))) / 16) + (IntKind.u64.wrap ((Go.bits .and .u64 ((IntKind.u64.wrap ((Go.bits .and .u64 (a0 / 2) 6148914691236517205) + (Go.bits .and .u64 a0 6148914691236517205))) / 4) 3689348814741910323) + (Go.bits .and .u64 (IntKind.u64.wrap ((Go.bits .and .u64 (a0 / 2) 6148914691236517205) + (Go.bits .and .u64 a0 6148914691236517205))) 3689348814741910323))))) 1085102592571150095) + ((Go.bits .and .u64 (IntKind.u64.wrap (((IntKind.u64.wrap ((Go.bits .and .u64 ((IntKind.u64.wrap ((Go.bits .and .u64 (a0 / 2) 6148914691236517205) + (Go.bits .and .u64 a0 6148914691236517205))) / 4) 3689348814741910323) + (Go.bits .and .u64 (IntKind.u64.wrap ((Go.bits .and .u64 (a0 / 2) 6148914691236517205) + (Go.bits .and .u64 a0 6148914691236517205))) 3689348814741910323))) / 16) + (IntKind.u64.wrap ((Go.bits .and .u64 ((IntKind.u64.wrap ((Go.bits .and .u64 (a0 / 2) 6148914691236517205) + (Go.bits .and .u64 a0 6148914691236517205))) / 4) 3689348814741910323) + (Go.bits .and .u64 (IntKind.u64.wrap ((Go.bits .and .u64 (a0 / 2) 6148914691236517205) + (Go.bits .and .u64 a0 6148914691236517205))) 3689348814741910323))))) 1085102592571150095) / 256))) / 65536))) / 4294967296)))) 127)
set_option maxHeartbeats 8000000 in
set_option maxRecDepth 100000 in
theorem kG.calls (a0 : Int) (r : Int) (w : World) (h : kG.f a0 = some r) :
  Calls Try.prog 92 #[.int .u64 a0] w fun e w'=>e = .returned (.int .i64 r)∧uC w w':=by
 have H : (some (Go.bits .and .i64 (wrap64 (IntKind.u64.wrap ((IntKind.u64.wrap ((IntKind.u64.wrap ((Go.bits .and .u64 (IntKind.u64.wrap (((IntKind.u64.wrap ((Go.bits .and .u64 ((IntKind.u64.wrap ((Go.bits .and .u64 (a0 / 2) 6148914691236517205) + (Go.bits .and .u64 a0 6148914691236517205))) / 4) 3689348814741910323) + (Go.bits .and .u64 (IntKind.u64.wrap ((Go.bits .and .u64 (a0 / 2) 6148914691236517205) + (Go.bits .and .u64 a0 6148914691236517205))) 3689348814741910323))) / 16) + (IntKind.u64.wrap ((Go.bits .and .u64 ((IntKind.u64.wrap ((Go.bits .and .u64 (a0 / 2) 6148914691236517205) + (Go.bits .and .u64 a0 6148914691236517205))) / 4) 3689348814741910323) + (Go.bits .and .u64 (IntKind.u64.wrap ((Go.bits .and .u64 (a0 / 2) 6148914691236517205) + (Go.bits .and .u64 a0 6148914691236517205))) 3689348814741910323))))) 1085102592571150095) + ((Go.bits .and .u64 (IntKind.u64.wrap (((IntKind.u64.wrap ((Go.bits .and .u64 ((IntKind.u64.wrap ((Go.bits .and .u64 (a0 / 2) 6148914691236517205) + (Go.bits .and .u64 a0 6148914691236517205))) / 4) 3689348814741910323) + (Go.bits .and .u64 (IntKind.u64.wrap ((Go.bits .and .u64 (a0 / 2) 6148914691236517205) + (Go.bits .and .u64 a0 6148914691236517205))) 3689348814741910323))) / 16) + (IntKind.u64.wrap ((Go.bits .and .u64 ((IntKind.u64.wrap ((Go.bits .and .u64 (a0 / 2) 6148914691236517205) + (Go.bits .and .u64 a0 6148914691236517205))) / 4) 3689348814741910323) + (Go.bits .and .u64 (IntKind.u64.wrap ((Go.bits .and .u64 (a0 / 2) 6148914691236517205) + (Go.bits .and .u64 a0 6148914691236517205))) 3689348814741910323))))) 1085102592571150095) / 256))) + ((IntKind.u64.wrap ((Go.bits .and .u64 (IntKind.u64.wrap (((IntKind.u64.wrap ((Go.bits .and .u64 ((IntKind.u64.wrap ((Go.bits .and .u64 (a0 / 2) 6148914691236517205) + (Go.bits .and .u64 a0 6148914691236517205))) / 4) 3689348814741910323) + (Go.bits .and .u64 (IntKind.u64.wrap ((Go.bits .and .u64 (a0 / 2) 6148914691236517205) + (Go.bits .and .u64 a0 6148914691236517205))) 3689348814741910323))) / 16) + (IntKind.u64.wrap ((Go.bits .and .u64 ((IntKind.u64.wrap ((Go.bits .and .u64 (a0 / 2) 6148914691236517205) + (Go.bits .and .u64 a0 6148914691236517205))) / 4) 3689348814741910323) + (Go.bits .and .u64 (IntKind.u64.wrap ((Go.bits .and .u64 (a0 / 2) 6148914691236517205) + (Go.bits .and .u64 a0 6148914691236517205))) 3689348814741910323))))) 1085102592571150095) + ((Go.bits .and .u64 (IntKind.u64.wrap (((IntKind.u64.wrap ((Go.bits .and .u64 ((IntKind.u64.wrap ((Go.bits .and .u64 (a0 / 2) 6148914691236517205) + (Go.bits .and .u64 a0 6148914691236517205))) / 4) 3689348814741910323) + (Go.bits .and .u64 (IntKind.u64.wrap ((Go.bits .and .u64 (a0 / 2) 6148914691236517205) + (Go.bits .and .u64 a0 6148914691236517205))) 3689348814741910323))) / 16) + (IntKind.u64.wrap ((Go.bits .and .u64 ((IntKind.u64.wrap ((Go.bits .and .u64 (a0 / 2) 6148914691236517205) + (Go.bits .and .u64 a0 6148914691236517205))) / 4) 3689348814741910323) + (Go.bits .and .u64 (IntKind.u64.wrap ((Go.bits .and .u64 (a0 / 2) 6148914691236517205) + (Go.bits .and .u64 a0 6148914691236517205))) 3689348814741910323))))) 1085102592571150095) / 256))) / 65536))) + ((IntKind.u64.wrap ((IntKind.u64.wrap ((Go.bits .and .u64 (IntKind.u64.wrap (((IntKind.u64.wrap ((Go.bits .and .u64 ((IntKind.u64.wrap ((Go.bits .and .u64 (a0 / 2) 6148914691236517205) + (Go.bits .and .u64 a0 6148914691236517205))) / 4) 3689348814741910323) + (Go.bits .and .u64 (IntKind.u64.wrap ((Go.bits .and .u64 (a0 / 2) 6148914691236517205) + (Go.bits .and .u64 a0 6148914691236517205))) 3689348814741910323))) / 16) + (IntKind.u64.wrap ((Go.bits .and .u64 ((IntKind.u64.wrap ((Go.bits .and .u64 (a0 / 2) 6148914691236517205) + (Go.bits .and .u64 a0 6148914691236517205))) / 4) 3689348814741910323) + (Go.bits .and .u64 (IntKind.u64.wrap ((Go.bits .and .u64 (a0 / 2) 6148914691236517205) + (Go.bits .and .u64 a0 6148914691236517205))) 3689348814741910323))))) 1085102592571150095) + ((Go.bits .and .u64 (IntKind.u64.wrap (((IntKind.u64.wrap ((Go.bits .and .u64 ((IntKind.u64.wrap ((Go.bits .and .u64 (a0 / 2) 6148914691236517205) + (Go.bits .and .u64 a0 6148914691236517205))) / 4) 3689348814741910323) + (Go.bits .and .u64 (IntKind.u64.wrap ((Go.bits .and .u64 (a0 / 2) 6148914691236517205) + (Go.bits .and .u64 a0 6148914691236517205))) 3689348814741910323))) / 16) + (IntKind.u64.wrap ((Go.bits .and .u64 ((IntKind.u64.wrap ((Go.bits .and .u64 (a0 / 2) 6148914691236517205) + (Go.bits .and .u64 a0 6148914691236517205))) / 4) 3689348814741910323) + (Go.bits .and .u64 (IntKind.u64.wrap ((Go.bits .and .u64 (a0 / 2) 6148914691236517205) + (Go.bits .and .u64 a0 6148914691236517205))) 3689348814741910323))))) 1085102592571150095) / 256))) + ((IntKind.u64.wrap ((Go.bits .and .u64 (IntKind.u64.wrap (((IntKind.u64.wrap ((Go.bits .and .u64 ((IntKind.u64.wrap ((Go.bits .and .u64 (a0 / 2) 6148914691236517205) + (Go.bits .and .u64 a0 6148914691236517205))) / 4) 3689348814741910323) + (Go.bits .and .u64 (IntKind.u64.wrap ((Go.bits .and .u64 (a0 / 2) 6148914691236517205) + (Go.bits .and .u64 a0 6148914691236517205))) 3689348814741910323))) / 16) + (IntKind.u64.wrap ((Go.bits .and .u64 ((IntKind.u64.wrap ((Go.bits .and .u64 (a0 / 2) 6148914691236517205) + (Go.bits .and .u64 a0 6148914691236517205))) / 4) 3689348814741910323) + (Go.bits .and .u64 (IntKind.u64.wrap ((Go.bits .and .u64 (a0 / 2) 6148914691236517205) + (Go.bits .and .u64 a0 6148914691236517205))) 3689348814741910323))))) 1085102592571150095) + ((Go.bits .and .u64 (IntKind.u64.wrap (((IntKind.u64.wrap ((Go.bits .and .u64 ((IntKind.u64.wrap ((Go.bits .and .u64 (a0 / 2) 6148914691236517205) + (Go.bits .and .u64 a0 6148914691236517205))) / 4) 3689348814741910323) + (Go.bits .and .u64 (IntKind.u64.wrap ((Go.bits .and .u64 (a0 / 2) 6148914691236517205) + (Go.bits .and .u64 a0 6148914691236517205))) 3689348814741910323))) / 16) + (IntKind.u64.wrap ((Go.bits .and .u64 ((IntKind.u64.wrap ((Go.bits .and .u64 (a0 / 2) 6148914691236517205) + (Go.bits .and .u64 a0 6148914691236517205))) / 4) 3689348814741910323) + (Go.bits .and .u64 (IntKind.u64.wrap ((Go.bits .and .u64 (a0 / 2) 6148914691236517205) + (Go.bits .and .u64 a0 6148914691236517205))) 3689348814741910323))))) 1085102592571150095) / 256))) / 65536))) / 4294967296)))) 127)) = some r:=h
 clear h
 obtain rfl:=Option.some.inj H
 go_enter Try.func92,Try.ntmps92
 go_wp2
 go_ret
 exact ⟨byae,byam⟩
def uW.f (a0 : Int) : Option (Int):=(kG.f a0).bind fun t139=>(some t139)
set_option maxHeartbeats 8000000 in
set_option maxRecDepth 100000 in
theorem uW.calls (a0 : Int) (r : Int) (w : World) (h : uW.f a0 = some r) :
  Calls Try.prog 85 #[.int .u64 a0] w fun e w'=>e = .returned (.int .i64 r)∧uC w w':=by
 have H : ((kG.f a0).bind fun t139=>(some t139)) = some r:=h
 clear h
 replace H:=Option.bind_eq_some_iff.mp H
 obtain ⟨t139,A20,H⟩:=H
 replace H : (some t139) = some r:=H
 have A2:=qA.mk A20
 clear A20
 obtain rfl:=Option.some.inj H
 go_enter Try.func85,Try.ntmps85
 go_wp2_with (first|((with_reducible refine qI (f:=92) rfl ?_);refine zL (some 7) rfl rfl Try.func92 (by kernel_rfl) rfl #[.int .u64 a0] rfl byah ?_;(with_reducible refine (kG.calls a0 t139 _ A2.out).mono ?_);rintro e w' ⟨rfl,⟨nd,rfl⟩⟩;refine ⟨_,rfl,?_⟩))
 go_ret
 exact ⟨byae,byam⟩
def uA.f (a0 : Int) : Option (Int):=(jQ.f a0).bind fun t140=>(if t140 = true then ((uW.f (IntKind.u64.wrap (a0))).bind fun t141=>(some t141)) else (some 0))
set_option maxHeartbeats 8000000 in
set_option maxRecDepth 100000 in
theorem uA.calls (a0 : Int) (r : Int) (w : World) (h : uA.f a0 = some r) :
  Calls Try.prog 72 #[.int .i64 a0] w fun e w'=>e = .returned (.int .i64 r)∧uC w w':=by
 have H : ((jQ.f a0).bind fun t140=>(if t140 = true then ((uW.f (IntKind.u64.wrap (a0))).bind fun t141=>(some t141)) else (some 0))) = some r:=h
 clear h
 replace H:=Option.bind_eq_some_iff.mp H
 obtain ⟨t140,A20,H⟩:=H
 replace H : (if t140 = true then ((uW.f (IntKind.u64.wrap (a0))).bind fun t141=>(some t141)) else (some 0)) = some r:=H
 have A2:=qA.mk A20
 clear A20
 by_cases c3 : t140 = true
 ·subst c3
  have H1 : ((uW.f (IntKind.u64.wrap (a0))).bind fun t141=>(some t141)) = some r:=by rw [if_pos rfl] at H;exact H
  clear H
  have H:=H1
  clear H1
  replace H:=Option.bind_eq_some_iff.mp H
  obtain ⟨t141,A40,H⟩:=H
  replace H : (some t141) = some r:=H
  have A4:=qA.mk A40
  clear A40
  obtain rfl:=Option.some.inj H
  go_enter Try.func72,Try.ntmps72
  go_wp2_with (first|((with_reducible refine qI (f:=73) rfl ?_);refine zL (some 4) rfl rfl Try.func73 (by kernel_rfl) rfl #[.int .i64 a0] rfl byah ?_;(with_reducible refine (jQ.calls a0 true _ A2.out).mono ?_);rintro e w' ⟨rfl,⟨nd,rfl⟩⟩;refine ⟨_,rfl,?_⟩)|((with_reducible refine qI (f:=85) rfl ?_);refine zL (some 8) rfl rfl Try.func85 (by kernel_rfl) rfl #[.int .u64 (IntKind.u64.wrap (a0))] rfl byah ?_;(with_reducible refine (uW.calls (IntKind.u64.wrap (a0)) t141 _ A4.out).mono ?_);rintro e w' ⟨rfl,⟨nd,rfl⟩⟩;refine ⟨_,rfl,?_⟩))
  go_ret
  exact ⟨byae,byam⟩
 ·replace c3:=Bool.eq_false_iff.mpr c3
  subst c3
  have H1 : (some 0) = some r:=by rw [if_neg (show ¬ (false = true) by decide)] at H;exact H
  clear H
  have H:=H1
  clear H1
  obtain rfl:=Option.some.inj H
  go_enter Try.func72,Try.ntmps72
  go_wp2_with (first|((with_reducible refine qI (f:=73) rfl ?_);refine zL (some 4) rfl rfl Try.func73 (by kernel_rfl) rfl #[.int .i64 a0] rfl byah ?_;(with_reducible refine (jQ.calls a0 false _ A2.out).mono ?_);rintro e w' ⟨rfl,⟨nd,rfl⟩⟩;refine ⟨_,rfl,?_⟩))
  go_ret
  exact ⟨byae,byam⟩
mutual
def zN.j0 : Nat→Int→Int→Bool→Option (Int × Bool)
 | 0,_,_,_=>none
 | k + 1,x0,x1,x19=>if x19 = true then (some (0,false)) else ((uA.f x0).bind fun t143=>(zN.l0 k x1 t143 (wrap64 (x0 + 1))))
def zN.l0 : Nat→Int→Int→Int→Option (Int × Bool)
 | 0,_,_,_=>none
 | k + 1,x1,x6,x7=>(vL.f x7 x1).bind fun t144=>(if t144 = true then ((uA.f x7).bind fun t145=>(if t145 = x6 then (some (x7,true)) else (zN.l0 k x1 x6 (wrap64 (x7 + 1))))) else (if x6 = x1 then (some (0,false)) else (if 0 ≤ (wrap64 (x6 + 1)) then (some (wrap64 ((shl .i64 1 (wrap64 (x6 + 1))) - 1),true)) else (none))))
end
def zN.f (k : Nat) (a0 : Int) (a1 : Int) : Option (Int × Bool):=if a1 < 0 then (zN.j0 k a0 a1 true) else (if a1 > 10 then (zN.j0 k a0 a1 true) else ((vL.f a0 a1).bind fun t142=>(zN.j0 k a0 a1 (!t142))))
theorem zN.mono_l : ∀ k,(∀ y0 y1 y2,LeO (zN.j0 k y0 y1 y2) (zN.j0 (k + 1) y0 y1 y2))∧(∀ y0 y1 y2,LeO (zN.l0 k y0 y1 y2) (zN.l0 (k + 1) y0 y1 y2))
 | 0=>⟨fun _ _ _ r h=>by simp [zN.j0] at h,fun _ _ _ r h=>by simp [zN.l0] at h⟩
 | k + 1=>by
  obtain ⟨ih0,ih1⟩:=zN.mono_l k
  refine ⟨?_,?_⟩
  ·intro y0 y1 y2
   unfold zN.j0
   repeat' first
   | (with_reducible exact ih0 _ _ _)
   | (with_reducible exact ih1 _ _ _)
   | (with_reducible exact LeO.refl _)
   | (with_reducible exact LeO.none _)
   | (with_reducible refine LeO.ite ?_ ?_)
   | (with_reducible refine LeO.bind ?_ (fun _=>?_))
   | exact ih0 _ _ _
   | exact ih1 _ _ _
   | exact LeO.none _
   | refine LeO.ite ?_ ?_
   | refine LeO.bind ?_ (fun _=>?_)
  ·intro y0 y1 y2
   unfold zN.l0
   repeat' first
   | (with_reducible exact ih0 _ _ _)
   | (with_reducible exact ih1 _ _ _)
   | (with_reducible exact LeO.refl _)
   | (with_reducible exact LeO.none _)
   | (with_reducible refine LeO.ite ?_ ?_)
   | (with_reducible refine LeO.bind ?_ (fun _=>?_))
   | exact ih0 _ _ _
   | exact ih1 _ _ _
   | exact LeO.none _
   | refine LeO.ite ?_ ?_
   | refine LeO.bind ?_ (fun _=>?_)
theorem zN.mono : ∀ a0 a1 k,LeO (zN.f k a0 a1) (zN.f (k + 1) a0 a1):=by
 intro a0 a1 k
 obtain ⟨ih0,ih1⟩:=zN.mono_l k
 unfold zN.f
 repeat' first
   | (with_reducible exact ih0 _ _ _)
   | (with_reducible exact ih1 _ _ _)
   | (with_reducible exact LeO.refl _)
   | (with_reducible exact LeO.none _)
   | (with_reducible refine LeO.ite ?_ ?_)
   | (with_reducible refine LeO.bind ?_ (fun _=>?_))
   | exact ih0 _ _ _
   | exact ih1 _ _ _
   | exact LeO.none _
   | refine LeO.ite ?_ ?_
   | refine LeO.bind ?_ (fun _=>?_)
set_option maxHeartbeats 8000000 in
set_option maxRecDepth 100000 in
theorem zN.calls (k : Nat) (a0 : Int) (a1 : Int) (r1 : Int) (r2 : Bool) (w : World) (h : zN.f k a0 a1 = some (r1,r2)) :
  Calls Try.prog 50 #[.int .i64 a0,.int .i64 a1] w fun e w'=>e = .returned (.tuple #[.int .i64 r1,.bool r2])∧uC w w':=by
 have H : (if a1 < 0 then (zN.j0 k a0 a1 true) else (if a1 > 10 then (zN.j0 k a0 a1 true) else ((vL.f a0 a1).bind fun t142=>(zN.j0 k a0 a1 (!t142))))) = some (r1,r2):=h
 clear h
 have HC3:=qA.mk H
 clear H
 go_enter Try.func50,Try.ntmps50
 go_upto_region 1 with (fail)
 go_cut [19] (fun v19 wc=>∃ (kq : Nat) (x19_2 : Bool),v19 = .bool x19_2∧qA (zN.j0 kq a0 a1 x19_2 = some (r1,r2))∧qA (kq ≤ k)∧uC w wc)
 case first =>
  have H:=HC3.out
  clear HC3
  by_cases c4 : a1 < 0
  ·rw [if_pos c4] at H
   have c4b0 : decide (a1 < 0) = true:=decide_eq_true c4
   clear c4
   (first|rw [c4b0]|(simp only [qY,zA];rw [c4b0])|skip)
   have H':=qA.mk H
   clear H
   go_wp2
   go_meet
   case rel=>exact ⟨_,(true),byae,H',⟨byap⟩,byam⟩
  ·rw [if_neg c4] at H
   have c4b0 : decide (a1 < 0) = false:=decide_eq_false c4
   clear c4
   (first|rw [c4b0]|(simp only [qY,zA];rw [c4b0])|skip)
   by_cases c5 : a1 > 10
   ·rw [if_pos c5] at H
    have c5b0 : decide (10 < a1) = true:=decide_eq_true c5
    clear c5
    have H':=qA.mk H
    clear H
    go_wp2
    go_meet
    case rel=>exact ⟨_,(true),byae,H',⟨byap⟩,byam⟩
   ·rw [if_neg c5] at H
    have c5b0 : decide (10 < a1) = false:=decide_eq_false c5
    clear c5
    replace H:=Option.bind_eq_some_iff.mp H
    obtain ⟨t142,A60,H⟩:=H
    replace H : (zN.j0 k a0 a1 (!t142)) = some (r1,r2):=H
    have A6:=qA.mk A60
    clear A60
    have H':=qA.mk H
    clear H
    go_wp2_with (first|(go_at_call 71;(with_reducible refine (vL.calls a0 a1 t142 _ A6.out).mono ?_);rintro e w' ⟨rfl,⟨nd,rfl⟩⟩))
    go_meet
    case rel=>exact ⟨_,(!t142),byae,H',⟨byap⟩,byam⟩
 case rest =>
  clear HC3
  try clear p2
  try clear c4
  try clear c4b0
  try clear c5
  try clear c5b0
  obtain ⟨kq,x19_2,rfl,HA,HJ2,⟨mc2,rfl⟩⟩:=hcut
  cases kq with
  | zero=>exact absurd HA.out (by simp [zN.j0])
  | succ kj2 =>
   have H:=HA.out
   clear HA
   simp only [zN.j0] at H
   by_cases c7 : x19_2 = true
   ·subst c7
    have H1 : (some (0,false)) = some (r1,r2):=by rw [if_pos rfl] at H;exact H
    clear H
    have H:=H1
    clear H1
    simp only [Option.some.injEq,Prod.mk.injEq] at H
    obtain ⟨rfl,rfl⟩:=H
    go_wp2
    go_ret2
    exact ⟨byae,byam⟩
   ·replace c7:=Bool.eq_false_iff.mpr c7
    subst c7
    have H1 : ((uA.f a0).bind fun t143=>(zN.l0 kj2 a1 t143 (wrap64 (a0 + 1)))) = some (r1,r2):=by rw [if_neg (show ¬ (false = true) by decide)] at H;exact H
    clear H
    have H:=H1
    clear H1
    replace H:=Option.bind_eq_some_iff.mp H
    obtain ⟨t143,A80,H⟩:=H
    replace H : (zN.l0 kj2 a1 t143 (wrap64 (a0 + 1))) = some (r1,r2):=H
    have A8:=qA.mk A80
    clear A80
    have H':=qA.mk H
    clear H
    go_wp2_with (first|((with_reducible refine qI (f:=72) rfl ?_);refine zL (some 21) rfl rfl Try.func72 (by kernel_rfl) rfl #[.int .i64 a0] rfl byah ?_;(with_reducible refine (uA.calls a0 t143 _ A8.out).mono ?_);rintro e w' ⟨rfl,⟨nd,rfl⟩⟩;refine ⟨_,rfl,?_⟩))
    go_loopg [7] kj2 (fun kq v7 w'=>∃ (x7_2 : Int),v7 = .int .i64 x7_2∧qA (zN.l0 kq a1 t143 x7_2 = some (r1,r2))∧qA (kq ≤ kj2)∧uC w w')
    case atStart=>exact ⟨(wrap64 (a0 + 1)),byae,H',⟨Nat.le_refl _⟩,byam⟩
    case round =>
     clear H'
     try clear c2
     try clear p2
     try clear c4
     try clear c4b0
     try clear c5
     try clear c5b0
     try clear p6
     try clear c7
     try clear p2
     obtain ⟨x7_2,rfl,HA,HK2,⟨m2,rfl⟩⟩:=hrel
     cases gk with
     | zero=>exact absurd HA.out (by simp [zN.l0])
     | succ k2 =>
      have H:=HA.out
      clear HA
      simp only [zN.l0] at H
      replace H:=Option.bind_eq_some_iff.mp H
      obtain ⟨t144,A90,H⟩:=H
      replace H : (if t144 = true then ((uA.f x7_2).bind fun t145=>(if t145 = t143 then (some (x7_2,true)) else (zN.l0 k2 a1 t143 (wrap64 (x7_2 + 1))))) else (if t143 = a1 then (some (0,false)) else (if 0 ≤ (wrap64 (t143 + 1)) then (some (wrap64 ((shl .i64 1 (wrap64 (t143 + 1))) - 1),true)) else (none)))) = some (r1,r2):=H
      have A9:=qA.mk A90
      clear A90
      by_cases c10 : t144 = true
      ·subst c10
       have H1 : ((uA.f x7_2).bind fun t145=>(if t145 = t143 then (some (x7_2,true)) else (zN.l0 k2 a1 t143 (wrap64 (x7_2 + 1))))) = some (r1,r2):=by rw [if_pos rfl] at H;exact H
       clear H
       have H:=H1
       clear H1
       replace H:=Option.bind_eq_some_iff.mp H
       obtain ⟨t145,A110,H⟩:=H
       replace H : (if t145 = t143 then (some (x7_2,true)) else (zN.l0 k2 a1 t143 (wrap64 (x7_2 + 1)))) = some (r1,r2):=H
       have A11:=qA.mk A110
       clear A110
       by_cases c12 : t145 = t143
       ·rw [if_pos c12] at H
        have c12b0 : (t145 == t143) = true:=beq_iff_eq.mpr c12
        have c12b1 : (t145 != t143) = false:=bne_eq_false_iff_eq.mpr c12
        clear c12
        simp only [Option.some.injEq,Prod.mk.injEq] at H
        obtain ⟨rfl,rfl⟩:=H
        go_wp2_with (first|((with_reducible refine qI (f:=71) rfl ?_);refine zL (some 26) rfl rfl Try.func71 (by kernel_rfl) rfl #[.int .i64 x7_2,.int .i64 a1] rfl byah ?_;(with_reducible refine (vL.calls x7_2 a1 true _ A9.out).mono ?_);rintro e w' ⟨rfl,⟨nd,rfl⟩⟩;refine ⟨_,rfl,?_⟩)|((with_reducible refine qI (f:=72) rfl ?_);refine zL (some 30) rfl rfl Try.func72 (by kernel_rfl) rfl #[.int .i64 x7_2] rfl byah ?_;(with_reducible refine (uA.calls x7_2 t145 _ A11.out).mono ?_);rintro e w' ⟨rfl,⟨nd,rfl⟩⟩;refine ⟨_,rfl,?_⟩))
        go_ret2
        exact ⟨byae,byam⟩
       ·rw [if_neg c12] at H
        have c12b0 : (t145 == t143) = false:=beq_eq_false_iff_ne.mpr c12
        have c12b1 : (t145 != t143) = true:=bne_iff_ne.mpr c12
        have H':=qA.mk H
        clear H
        go_wp2_with (first|((with_reducible refine qI (f:=71) rfl ?_);refine zL (some 26) rfl rfl Try.func71 (by kernel_rfl) rfl #[.int .i64 x7_2,.int .i64 a1] rfl byah ?_;(with_reducible refine (vL.calls x7_2 a1 true _ A9.out).mono ?_);rintro e w' ⟨rfl,⟨nd,rfl⟩⟩;refine ⟨_,rfl,?_⟩)|((with_reducible refine qI (f:=72) rfl ?_);refine zL (some 30) rfl rfl Try.func72 (by kernel_rfl) rfl #[.int .i64 x7_2] rfl byah ?_;(with_reducible refine (uA.calls x7_2 t145 _ A11.out).mono ?_);rintro e w' ⟨rfl,⟨nd,rfl⟩⟩;refine ⟨_,rfl,?_⟩))
        go_roundg k2
        case measure=>have:=HJ2.out;have:=HK2.out;omega
        case rel=>exact ⟨(wrap64 (x7_2 + 1)),byae,H',⟨by have:=HJ2.out;have:=HK2.out;omega⟩,byam⟩
      ·replace c10:=Bool.eq_false_iff.mpr c10
       subst c10
       have H1 : (if t143 = a1 then (some (0,false)) else (if 0 ≤ (wrap64 (t143 + 1)) then (some (wrap64 ((shl .i64 1 (wrap64 (t143 + 1))) - 1),true)) else (none))) = some (r1,r2):=by rw [if_neg (show ¬ (false = true) by decide)] at H;exact H
       clear H
       have H:=H1
       clear H1
       by_cases c13 : t143 = a1
       ·rw [if_pos c13] at H
        have c13b0 : (t143 == a1) = true:=beq_iff_eq.mpr c13
        have c13b1 : (t143 != a1) = false:=bne_eq_false_iff_eq.mpr c13
        clear c13
        simp only [Option.some.injEq,Prod.mk.injEq] at H
        obtain ⟨rfl,rfl⟩:=H
        go_wp2_with (first|((with_reducible refine qI (f:=71) rfl ?_);refine zL (some 26) rfl rfl Try.func71 (by kernel_rfl) rfl #[.int .i64 x7_2,.int .i64 a1] rfl byah ?_;(with_reducible refine (vL.calls x7_2 a1 false _ A9.out).mono ?_);rintro e w' ⟨rfl,⟨nd,rfl⟩⟩;refine ⟨_,rfl,?_⟩))
        go_ret2
        exact ⟨byae,byam⟩
       ·rw [if_neg c13] at H
        have c13b0 : (t143 == a1) = false:=beq_eq_false_iff_ne.mpr c13
        have c13b1 : (t143 != a1) = true:=bne_iff_ne.mpr c13
        obtain ⟨ji14,hji14⟩ : ∃ j_ : Int,(wrap64 (t143 + 1)) = j_:=⟨_,rfl⟩
        replace H : (if 0 ≤ (ji14) then (some (wrap64 ((shl .i64 1 (ji14)) - 1),true)) else (none)) = some (r1,r2):=by first|(rw [hji14] at H;exact H)|(simp only [hji14] at H ⊢;exact H)
        (try rw [hji14] at A9)
        have hji14w : (IntKind.i64.wrap (t143 + 1)) = ji14:=(qY _).trans hji14
        by_cases c15 : 0 ≤ (ji14)
        ·rw [if_pos c15] at H
         have c15b0:=eq_true c15
         have c15b1 : decide (0 ≤ (ji14)) = true:=decide_eq_true c15
         clear c15
         obtain ⟨ji16,hji16⟩ : ∃ j_ : Int,(shl .i64 1 (ji14)) = j_:=⟨_,rfl⟩
         replace H : (some (wrap64 ((ji16) - 1),true)) = some (r1,r2):=by first|(rw [hji16] at H;exact H)|(simp only [hji16] at H ⊢;exact H)
         (try rw [hji16] at A9)
         have hji16_ : (IntKind.i64.wrap (1 * 2 ^ min (ji14).toNat 64)) = ji16:=hji16
         have hji16z : (ji14) ≤ 64→(IntKind.i64.wrap (1 * 2 ^ (ji14).toNat)) = ji16:=uN hji16
         have hji16u : (IntKind.i64.wrap (2 ^ min (ji14).toNat 64)) = ji16:=by have h_:=hji16_;rw [Int.one_mul] at h_;exact h_
         have hji16v : (ji14) ≤ 64→(IntKind.i64.wrap (2 ^ (ji14).toNat)) = ji16:=fun hle_=>by have h_:=hji16z hle_;rw [Int.one_mul] at h_;exact h_
         have hji16y : (wrap64 (1 * 2 ^ min (ji14).toNat 64)) = ji16:=(qY _).symm.trans hji16_
         have hji16x : (ji14) ≤ 64→(wrap64 (1 * 2 ^ (ji14).toNat)) = ji16:=fun h_=>(qY _).symm.trans (hji16z h_)
         simp only [Option.some.injEq,Prod.mk.injEq] at H
         obtain ⟨rfl,rfl⟩:=H
         go_wp2_with (first|((with_reducible refine qI (f:=71) rfl ?_);refine zL (some 26) rfl rfl Try.func71 (by kernel_rfl) rfl #[.int .i64 x7_2,.int .i64 a1] rfl byah ?_;(with_reducible refine (vL.calls x7_2 a1 false _ A9.out).mono ?_);rintro e w' ⟨rfl,⟨nd,rfl⟩⟩;refine ⟨_,rfl,?_⟩))
         go_ret2
         exact ⟨by first|rfl|(simp;done)|(simp only [← hji14,← hji16]<;>(first|rfl|simp))|(simp [*];done),byam⟩
        ·rw [if_neg c15] at H
         exact absurd H (by simp)
end Go.Proofs.Ytkkbdimegpdbgaa.P
