/- Functions of the program as Lean functions, and the walks that show that the calls answer so; written by a program of this session (a changed print) and by hand. -/
import Derived.Test.YtkkbdimegpdbgaaQdPx0
import Derived.Test.YtkkbdimegpdbgaaQdPx11
import Derived.Test.YtkkbdimegpdbgaaQdPx12
import Derived.Test.YtkkbdimegpdbgaaQdPx13
namespace Go.Proofs.Ytkkbdimegpdbgaa.P
open Go.RowKit Go.Proofs.YtkkbdimegpdbgaaW.PrintWords Go.Proofs.YtkkbdimegpdbgaaW.PrintLast Go.Proofs.YtkkbdimegpdbgaaW.PrintMore
attribute [local go_sem] uH uI uQ uR vW vV uF uG
set_option linter.unusedVariables false
set_option linter.unusedSimpArgs false
mutual
def qV.j0 : Nat→Bool→Int→List Int→List (S56)→Option (Int)
 | 0,_,_,_,_=>none
 | k + 1,x24,x374000,x374001,x374002=>if x24 = true then (some 4) else (qV.l0 k x374001 (x374001.length : Int) 0 x374000 x374001 x374002)
def qV.l0 : Nat→List Int→Int→Int→Int→List Int→List (S56)→Option (Int)
 | 0,_,_,_,_,_,_=>none
 | k + 1,x26,x27,x28,x374000,x374001,x374002=>if x28 < x27 then (if 0 ≤ x28 then (if x28 < (x26.length : Int) then (if (rd x26 x28) < 0 then (some 5) else (if (rd x26 x28) ≥ 10 then (some 5) else (qV.l0 k x26 x27 (wrap64 (x28 + 1)) x374000 x374001 x374002))) else (none)) else (none)) else ((jB.f k x374001).bind fun bt375=>(if bt375.2 = 0 then (qV.l1 k x374002 (x374002.length : Int) 0) else (some bt375.2)))
def qV.l1 : Nat→List (S56)→Int→Int→Option (Int)
 | 0,_,_,_=>none
 | k + 1,x49,x50,x51=>if x51 < x50 then (if 0 ≤ x51 then (if x51 < (x49.length : Int) then ((qV.f k ((qX x49 x51).f0) ((qX x49 x51).f1) ((qX x49 x51).f2)).bind fun t379=>(if t379 = 0 then (qV.l1 k x49 x50 (wrap64 (x51 + 1))) else (some t379))) else (none)) else (none)) else (some 0)
def qV.f : Nat→Int→List Int→List (S56)→Option (Int)
 | 0,_,_,_=>none
 | k + 1,a0_0,l0_1,l0_2=>if a0_0 < 1 then (qV.j0 k true a0_0 l0_1 l0_2) else (qV.j0 k (decide (a0_0 > (wrap64 ((l0_1.length : Int) + (l0_2.length : Int))))) a0_0 l0_1 l0_2)
end
set_option maxHeartbeats 8000000 in
set_option maxRecDepth 100000 in
theorem qV.calls (k : Nat) : ∀ (a0_0 : Int) (A0_1 : Option Addr) (c0_1 : Nat) (l0_1 : List Int) (A0_2 : Option Addr) (c0_2 : Nat) (l0_2 : List (S56)) (r : Int) (w : World) (hr0_1 : Kd.C (Kd.int .i64) w A0_1 l0_1.length l0_1) (hc0_1 : l0_1.length ≤ c0_1) (hr0_2 : Kd.C k56 w A0_2 l0_2.length l0_2) (hc0_2 : l0_2.length ≤ c0_2) (h : qV.f k a0_0 l0_1 l0_2 = some r),
  Calls Try.prog 67 #[.agg #[.int .i64 a0_0,.slice A0_1 l0_1.length c0_1,.slice A0_2 l0_2.length c0_2]] w fun e w'=>e = .returned (.int .i64 r)∧Below w.heap.size w w':=by
 induction k using Nat.strongRecOn with
 | _ k ih =>
 intro a0_0 A0_1 c0_1 l0_1 A0_2 c0_2 l0_2 r w hr0_1 hc0_1 hr0_2 hc0_2 h
 cases k with
 | zero=>exact absurd h (by simp [qV.f])
 | succ k =>
 simp only [qV.f] at h
 have hu56:=Try.underlying56
 have HR0_1:=qA.mk hr0_1
 have HC0_1:=qA.mk hc0_1
 clear hr0_1 hc0_1
 have HR0_2:=qA.mk hr0_2
 have HC0_2:=qA.mk hc0_2
 clear hr0_2 hc0_2
 have HB:=qA.mk (Below.refl w.heap.size w)
 have H : (if a0_0 < 1 then (qV.j0 k true a0_0 l0_1 l0_2) else (qV.j0 k (decide (a0_0 > (wrap64 ((l0_1.length : Int) + (l0_2.length : Int))))) a0_0 l0_1 l0_2)) = some r:=h
 clear h
 have HC2:=qA.mk H
 clear H
 go_enter Try.func67,Try.ntmps67
 go_upto_region 1 with (first|((with_reducible refine zK (N:=1) rfl ?_);(try (refine uX (by rfl) ?_;dsimp only));refine q9 ?hg (N:=1) ?hd (cs:=#[.int .i64 a0_0,.slice A0_1 l0_1.length c0_1,.slice A0_2 l0_2.length c0_2]) (t:=56) ?hr ?_;(case hd=>rfl);(case hg=>rfl);(case hr=>exact byaa);intro gb373 hg w3 hbox hb;have n0_:=qA.mk (qE byab hb);have n1_:=qA.mk (hbox);have n2_:=qA.mk ((byby : w.heap.size ≤ gb373));have n3_:=qA.mk ((byby : w.heap.size ≤ gb373));clear HB;have HB:=n0_;have BK373:=n1_;have GW373:=n2_;have GE373:=n3_;clear n0_ n1_ n2_ n3_;clear hb hbox hg))
 (try simp only [Act.put,List.setIfInBounds_toArray,List.set_cons_zero,List.set_cons_succ])
 go_cut [24] (fun v24 wc=>∃ (kq : Nat) (x24_1 : Bool),v24 = .bool x24_1∧qA (qV.j0 kq x24_1 a0_0 l0_1 l0_2 = some r)∧qA (kq ≤ k)∧qA (wc.heap[gb373]? = some (.cells #[.int .i64 a0_0,(.slice A0_1 l0_1.length c0_1),(.slice A0_2 l0_2.length c0_2)] 56 (0,0)))∧qA (Below w.heap.size w wc))
 case first =>
  have H:=HC2.out
  clear HC2
  by_cases c4 : a0_0 < 1
  ·rw [if_pos c4] at H
   have c4b0 : decide (a0_0 < 1) = true:=decide_eq_true c4
   clear c4
   (first|rw [c4b0]|(simp only [qY,zA];rw [c4b0])|skip)
   have H':=qA.mk H
   clear H
   have hcz5_0 : w3.cell? ⟨gb373,0,none⟩ = some (.int .i64 a0_0):=(qC BK373.out 0).trans rfl
   have hcz5_1 : w3.cell? ⟨gb373,1,none⟩ = some (.slice A0_1 l0_1.length c0_1):=(qC BK373.out 1).trans rfl
   have hcz5_2 : w3.cell? ⟨gb373,2,none⟩ = some (.slice A0_2 l0_2.length c0_2):=(qC BK373.out 2).trans rfl
   have hfz5_0:=qB BK373.out 0
   have hfz5_1:=qB BK373.out 1
   have hfz5_2:=qB BK373.out 2
   go_wp2
   go_meet
   case rel=>exact ⟨_,(true),byae,H',⟨byap⟩,⟨byaf BK373.out⟩,⟨byad GE373.out⟩⟩
  ·rw [if_neg c4] at H
   have c4b0 : decide (a0_0 < 1) = false:=decide_eq_false c4
   clear c4
   (first|rw [c4b0]|(simp only [qY,zA];rw [c4b0])|skip)
   have H':=qA.mk H
   clear H
   have hcz6_0 : w3.cell? ⟨gb373,0,none⟩ = some (.int .i64 a0_0):=(qC BK373.out 0).trans rfl
   have hcz6_1 : w3.cell? ⟨gb373,1,none⟩ = some (.slice A0_1 l0_1.length c0_1):=(qC BK373.out 1).trans rfl
   have hcz6_2 : w3.cell? ⟨gb373,2,none⟩ = some (.slice A0_2 l0_2.length c0_2):=(qC BK373.out 2).trans rfl
   have hfz6_0:=qB BK373.out 0
   have hfz6_1:=qB BK373.out 1
   have hfz6_2:=qB BK373.out 2
   go_wp2
   go_meet
   case rel=>exact ⟨_,(decide (a0_0 > (wrap64 ((l0_1.length : Int) + (l0_2.length : Int))))),byae,H',⟨byap⟩,⟨byaf BK373.out⟩,⟨byad GE373.out⟩⟩
 case rest =>
  clear HC2
  try clear p2
  try clear c4
  try clear c4b0
  try clear c6
  try clear p6
  try clear hcz5_0
  try clear hcz5_1
  try clear hcz5_2
  try clear hcz6_0
  try clear hcz6_1
  try clear hcz6_2
  try clear hfz5_0
  try clear hfz5_1
  try clear hfz5_2
  try clear hfz6_0
  try clear hfz6_1
  try clear hfz6_2
  obtain ⟨kq,x24_1,rfl,HA,HJ1,BK373,HB⟩:=hcut
  cases kq with
  | zero=>exact absurd HA.out (by simp [qV.j0])
  | succ kj1 =>
   have H:=HA.out
   clear HA
   simp only [qV.j0] at H
   by_cases c7 : x24_1 = true
   ·subst c7
    have H1 : (some 4) = some r:=by rw [if_pos rfl] at H;exact H
    clear H
    have H:=H1
    clear H1
    obtain rfl:=Option.some.inj H
    go_wp2
    go_ret
    exact ⟨byac,byad GE373.out⟩
   ·replace c7:=Bool.eq_false_iff.mpr c7
    subst c7
    have H1 : (qV.l0 kj1 l0_1 (l0_1.length : Int) 0 a0_0 l0_1 l0_2) = some r:=by rw [if_neg (show ¬ (false = true) by decide)] at H;exact H
    clear H
    have H:=H1
    clear H1
    have H':=qA.mk H
    clear H
    have hcz8_0 : wc.cell? ⟨gb373,0,none⟩ = some (.int .i64 a0_0):=(qC BK373.out 0).trans rfl
    have hcz8_1 : wc.cell? ⟨gb373,1,none⟩ = some (.slice A0_1 l0_1.length c0_1):=(qC BK373.out 1).trans rfl
    have hcz8_2 : wc.cell? ⟨gb373,2,none⟩ = some (.slice A0_2 l0_2.length c0_2):=(qC BK373.out 2).trans rfl
    have hfz8_0:=qB BK373.out 0
    have hfz8_1:=qB BK373.out 1
    have hfz8_2:=qB BK373.out 2
    go_wp2
    go_loopg [28] kj1 (fun kq v28 w'=>∃ (x28_2 : Int),v28 = .int .i64 x28_2∧qA (qV.l0 kq l0_1 (l0_1.length : Int) x28_2 a0_0 l0_1 l0_2 = some r)∧qA (kq ≤ kj1)∧qA (w'.heap[gb373]? = some (.cells #[.int .i64 a0_0,(.slice A0_1 l0_1.length c0_1),(.slice A0_2 l0_2.length c0_2)] 56 (0,0)))∧qA (Below w.heap.size w w'))
    case atStart=>exact ⟨(0),byae,H',⟨Nat.le_refl _⟩,⟨byaf BK373.out⟩,⟨byad GE373.out⟩⟩
    case round =>
     clear H'
     try clear p2
     try clear c4
     try clear c4b0
     try clear c6
     try clear p6
     try clear c7
     try clear hcz5_0
     try clear hcz5_1
     try clear hcz5_2
     try clear hcz6_0
     try clear hcz6_1
     try clear hcz6_2
     try clear hcz8_0
     try clear hcz8_1
     try clear hcz8_2
     try clear hfz5_0
     try clear hfz5_1
     try clear hfz5_2
     try clear hfz6_0
     try clear hfz6_1
     try clear hfz6_2
     try clear hfz8_0
     try clear hfz8_1
     try clear hfz8_2
     try clear p2
     try clear p6
     obtain ⟨x28_2,rfl,HA,HK2,BK373,HB⟩:=hrel
     cases gk with
     | zero=>exact absurd HA.out (by simp [qV.l0])
     | succ k2 =>
      have H:=HA.out
      clear HA
      simp only [qV.l0] at H
      by_cases c9 : x28_2 < (l0_1.length : Int)
      ·rw [if_pos c9] at H
       have c9b0 : decide (x28_2 < (l0_1.length : Int)) = true:=decide_eq_true c9
       clear c9
       by_cases c10 : 0 ≤ x28_2
       ·rw [if_pos c10] at H
        have c10b0 : decide (0 ≤ x28_2) = true:=decide_eq_true c10
        clear c10
        by_cases c11 : x28_2 < (l0_1.length : Int)
        ·rw [if_pos c11] at H
         have c11b0 : decide (x28_2 < (l0_1.length : Int)) = true:=decide_eq_true c11
         clear c11
         by_cases c12 : (rd l0_1 x28_2) < 0
         ·rw [if_pos c12] at H
          have c12b0 : decide ((rd l0_1 x28_2) < 0) = true:=decide_eq_true c12
          clear c12
          obtain rfl:=Option.some.inj H
          have p374 : 0 ≤ (x28_2 : Int):=of_decide_eq_true byag
          have q374 : x28_2 < (l0_1.length : Int):=of_decide_eq_true byag
          obtain ⟨ad374,e374,hx374_0⟩:=Kd.uV HR0_1.out x28_2 p374 q374
          cases e374
          replace hx374_0:=(HB.out.cell (World.block_lt_of_cell? w _ hx374_0)).trans hx374_0
          replace p374:=eq_true p374
          replace q374:=eq_true q374
          go_wp2
          go_ret
          exact ⟨byac,byad GE373.out⟩
         ·rw [if_neg c12] at H
          have c12b0 : decide ((rd l0_1 x28_2) < 0) = false:=decide_eq_false c12
          clear c12
          by_cases c13 : (rd l0_1 x28_2) ≥ 10
          ·rw [if_pos c13] at H
           have c13b0 : decide (10 ≤ (rd l0_1 x28_2)) = true:=decide_eq_true c13
           clear c13
           obtain rfl:=Option.some.inj H
           have p374 : 0 ≤ (x28_2 : Int):=of_decide_eq_true byag
           have q374 : x28_2 < (l0_1.length : Int):=of_decide_eq_true byag
           obtain ⟨ad374,e374,hx374_0⟩:=Kd.uV HR0_1.out x28_2 p374 q374
           cases e374
           replace hx374_0:=(HB.out.cell (World.block_lt_of_cell? w _ hx374_0)).trans hx374_0
           replace p374:=eq_true p374
           replace q374:=eq_true q374
           go_wp2
           go_ret
           exact ⟨byac,byad GE373.out⟩
          ·rw [if_neg c13] at H
           have c13b0 : decide (10 ≤ (rd l0_1 x28_2)) = false:=decide_eq_false c13
           clear c13
           have H':=qA.mk H
           clear H
           have p374 : 0 ≤ (x28_2 : Int):=of_decide_eq_true byag
           have q374 : x28_2 < (l0_1.length : Int):=of_decide_eq_true byag
           obtain ⟨ad374,e374,hx374_0⟩:=Kd.uV HR0_1.out x28_2 p374 q374
           cases e374
           replace hx374_0:=(HB.out.cell (World.block_lt_of_cell? w _ hx374_0)).trans hx374_0
           replace p374:=eq_true p374
           replace q374:=eq_true q374
           go_wp2
           go_roundg k2
           case measure=>have:=HJ1.out;have:=HK2.out;omega
           case rel=>exact ⟨(wrap64 (x28_2 + 1)),byae,H',⟨by have:=HJ1.out;have:=HK2.out;omega⟩,⟨byaf BK373.out⟩,⟨byad GE373.out⟩⟩
        ·rw [if_neg c11] at H
         exact absurd H (by simp)
       ·rw [if_neg c10] at H
        exact absurd H (by simp)
      ·rw [if_neg c9] at H
       have c9b0 : decide (x28_2 < (l0_1.length : Int)) = false:=decide_eq_false c9
       clear c9
       replace H:=Option.bind_eq_some_iff.mp H
       obtain ⟨⟨t375,t376⟩,A140,H⟩:=H
       replace H : (if t376 = 0 then (qV.l1 k2 l0_2 (l0_2.length : Int) 0) else (some t376)) = some r:=H
       have A14:=qA.mk A140
       clear A140
       by_cases c15 : t376 = 0
       ·rw [if_pos c15] at H
        have c15b0 : (t376 == 0) = true:=beq_iff_eq.mpr c15
        have c15b1 : (t376 != 0) = false:=bne_eq_false_iff_eq.mpr c15
        clear c15
        have H':=qA.mk H
        clear H
        have hcz16_0 : wr.cell? ⟨gb373,0,none⟩ = some (.int .i64 a0_0):=(qC BK373.out 0).trans rfl
        have hcz16_1 : wr.cell? ⟨gb373,1,none⟩ = some (.slice A0_1 l0_1.length c0_1):=(qC BK373.out 1).trans rfl
        have hcz16_2 : wr.cell? ⟨gb373,2,none⟩ = some (.slice A0_2 l0_2.length c0_2):=(qC BK373.out 2).trans rfl
        have hfz16_0:=qB BK373.out 0
        have hfz16_1:=qB BK373.out 1
        have hfz16_2:=qB BK373.out 2
        go_wp2_with (first|((with_reducible refine qI (f:=80) rfl ?_);refine zL (some 42) rfl rfl Try.func80 (by kernel_rfl) rfl #[.slice A0_1 l0_1.length c0_1] rfl byah ?_;(with_reducible refine (jB.calls k2 _ _ l0_1 t375 t376 _ ?side1 ?side2 A14.out).mono ?_);(case side1=>exact byaq HR0_1.out);(case side2=>exact HC0_1.out);rintro e w' ⟨rfl,⟨nd,rfl⟩⟩;refine ⟨_,rfl,?_⟩))
        go_loopg [51] k2 (fun kq v51 w'=>∃ (x51_3 : Int),v51 = .int .i64 x51_3∧qA (qV.l1 kq l0_2 (l0_2.length : Int) x51_3 = some r)∧qA (kq ≤ k2)∧qA (w'.heap[gb373]? = some (.cells #[.int .i64 a0_0,(.slice A0_1 l0_1.length c0_1),(.slice A0_2 l0_2.length c0_2)] 56 (0,0)))∧qA (Below w.heap.size w w'))
        case atStart=>exact ⟨(0),byae,H',⟨Nat.le_refl _⟩,⟨byaf BK373.out⟩,⟨byad GE373.out⟩⟩
        case round =>
         clear H'
         try clear c1
         try clear p2
         try clear p3
         try clear q3
         try clear hx3
         try clear c4
         try clear c4b0
         try clear c6
         try clear p6
         try clear c7
         try clear c8
         try clear c9
         try clear c9b0
         try clear c10
         try clear c10b0
         try clear c11
         try clear c11b0
         try clear c12
         try clear c12b0
         try clear c13
         try clear c13b0
         try clear c15
         try clear c15b0
         try clear c15b1
         try clear hcz16_0
         try clear hcz16_1
         try clear hcz16_2
         try clear hcz5_0
         try clear hcz5_1
         try clear hcz5_2
         try clear hcz6_0
         try clear hcz6_1
         try clear hcz6_2
         try clear hcz8_0
         try clear hcz8_1
         try clear hcz8_2
         try clear hfz16_0
         try clear hfz16_1
         try clear hfz16_2
         try clear hfz5_0
         try clear hfz5_1
         try clear hfz5_2
         try clear hfz6_0
         try clear hfz6_1
         try clear hfz6_2
         try clear hfz8_0
         try clear hfz8_1
         try clear hfz8_2
         try clear hx374_0
         try clear p2
         try clear p374
         try clear p6
         try clear q374
         obtain ⟨x51_3,rfl,HA,HK3,BK373,HB⟩:=hrel
         cases gk with
         | zero=>exact absurd HA.out (by simp [qV.l1])
         | succ k3 =>
          have H:=HA.out
          clear HA
          simp only [qV.l1] at H
          by_cases c17 : x51_3 < (l0_2.length : Int)
          ·rw [if_pos c17] at H
           have c17b0 : decide (x51_3 < (l0_2.length : Int)) = true:=decide_eq_true c17
           clear c17
           by_cases c18 : 0 ≤ x51_3
           ·rw [if_pos c18] at H
            have c18b0 : decide (0 ≤ x51_3) = true:=decide_eq_true c18
            clear c18
            by_cases c19 : x51_3 < (l0_2.length : Int)
            ·rw [if_pos c19] at H
             have c19b0 : decide (x51_3 < (l0_2.length : Int)) = true:=decide_eq_true c19
             clear c19
             replace H:=Option.bind_eq_some_iff.mp H
             obtain ⟨t379,A200,H⟩:=H
             replace H : (if t379 = 0 then (qV.l1 k3 l0_2 (l0_2.length : Int) (wrap64 (x51_3 + 1))) else (some t379)) = some r:=H
             have A20:=qA.mk A200
             clear A200
             by_cases c21 : t379 = 0
             ·rw [if_pos c21] at H
              have c21b0 : (t379 == 0) = true:=beq_iff_eq.mpr c21
              have c21b1 : (t379 != 0) = false:=bne_eq_false_iff_eq.mpr c21
              clear c21
              have H':=qA.mk H
              clear H
              have p377 : 0 ≤ (x51_3 : Int):=of_decide_eq_true byag
              have q377 : x51_3 < (l0_2.length : Int):=of_decide_eq_true byag
              obtain ⟨ad377,A377_1,c377_1,A377_2,c377_2,e377,hx377_0,hx377_1,hx377_2,hl377_1,hi377_1,hl377_2,hi377_2⟩:=kW HR0_2.out x51_3 p377 q377
              cases e377
              replace hx377_0:=(HB.out.cell (World.block_lt_of_cell? w _ hx377_0)).trans hx377_0
              replace hx377_1:=(HB.out.cell (World.block_lt_of_cell? w _ hx377_1)).trans hx377_1
              replace hx377_2:=(HB.out.cell (World.block_lt_of_cell? w _ hx377_2)).trans hx377_2
              have HR377_1:=qA.mk hi377_1
              have HC377_1:=qA.mk hl377_1
              clear hi377_1 hl377_1
              have HR377_2:=qA.mk hi377_2
              have HC377_2:=qA.mk hl377_2
              clear hi377_2 hl377_2
              replace p377:=eq_true p377
              replace q377:=eq_true q377
              go_wp2_with (first|((with_reducible refine zK (N:=8) rfl ?_);(try (refine uX (by rfl) ?_;dsimp only));refine q9 ?hg (N:=8) ?hd (cs:=#[.int .i64 0,.slice none 0 0,.slice none 0 0]) (t:=56) ?hr ?_;(case hd=>rfl);(case hg=>rfl);(case hr=>exact byaa);intro gb378 hg w22 hbox hb;have n0_:=qA.mk (qH (g:=gb373) (o:=.cells #[.int .i64 a0_0,.slice A0_1 l0_1.length c0_1,.slice (some ad377) l0_2.length c0_2] 56 (0,0)) (byaf BK373.out) hb);have n1_:=qA.mk (qE (byad GE373.out) hb);have n2_:=qA.mk (hbox);have n3_:=qA.mk ((bybz GE373.out : w.heap.size ≤ gb378));have n4_:=qA.mk ((bybz GE373.out : w.heap.size ≤ gb378));have n5_:=qA.mk ((by rw [hg];exact Nat.ne_of_lt (jF (g:=gb373) (o:=.cells #[.int .i64 a0_0,.slice A0_1 l0_1.length c0_1,.slice (some ad377) l0_2.length c0_2] 56 (0,0)) (byaf BK373.out)) : gb373≠gb378));have n6_:=qA.mk ((by rw [hg];exact Nat.ne_of_gt (jF (g:=gb373) (o:=.cells #[.int .i64 a0_0,.slice A0_1 l0_1.length c0_1,.slice (some ad377) l0_2.length c0_2] 56 (0,0)) (byaf BK373.out)) : gb378≠gb373));clear BK373;clear HB;have BK373:=n0_;have HB:=n1_;have BK378:=n2_;have GW378:=n3_;have GE378:=n4_;have NB373_378:=n5_;have NB378_373:=n6_;clear n0_ n1_ n2_ n3_ n4_ n5_ n6_;clear hb hbox hg;have hnb23:=NB378_373.out;have hnc23:=NB373_378.out;have hcz24_0 : w22.cell? ⟨gb378,0,none⟩ = some (.int .i64 0):=(qC BK378.out 0).trans rfl;have hcz24_1 : w22.cell? ⟨gb378,1,none⟩ = some (.slice none 0 0):=(qC BK378.out 1).trans rfl;have hcz24_2 : w22.cell? ⟨gb378,2,none⟩ = some (.slice none 0 0):=(qC BK378.out 2).trans rfl;have hfz24_0:=qB BK378.out 0;have hfz24_1:=qB BK378.out 1;have hfz24_2:=qB BK378.out 2)|((with_reducible refine qI (f:=67) rfl ?_);refine zL (some 56) rfl rfl Try.func67 (by kernel_rfl) rfl #[.agg #[.int .i64 ((qX l0_2 x51_3).f0),.slice A377_1 ((qX l0_2 x51_3).f1).length c377_1,.slice A377_2 ((qX l0_2 x51_3).f2).length c377_2]] rfl byah ?_;(with_reducible refine (ih k3 (by have:=HJ1.out;have:=HK2.out;have:=HK3.out;omega) ((qX l0_2 x51_3).f0) _ _ ((qX l0_2 x51_3).f1) _ _ ((qX l0_2 x51_3).f2) t379 _ ?side1 ?side2 ?side3 ?side4 A20.out).mono ?_);(case side1=>exact Kd.vK HR377_1.out (byaj GE373.out GE378.out));(case side2=>exact HC377_1.out);(case side3=>exact Kd.vK HR377_2.out (byaj GE373.out GE378.out));(case side4=>exact HC377_2.out);rintro e w25 ⟨rfl,hb⟩;refine ⟨_,rfl,?_⟩;have n0_:=qA.mk (qH (g:=gb373) (o:=.cells #[.int .i64 a0_0,.slice A0_1 l0_1.length c0_1,.slice (some ad377) l0_2.length c0_2] 56 (0,0)) (byak NB373_378.out BK373.out) hb);have n1_:=qA.mk (qH (g:=gb378) (o:=.cells #[.int .i64 ((qX l0_2 x51_3).f0),.slice A377_1 ((qX l0_2 x51_3).f1).length c377_1,.slice A377_2 ((qX l0_2 x51_3).f2).length c377_2] 56 (0,0)) (by (with_reducible repeat (first|refine qG ?_ _|refine qJ ?_|refine qF ?_ _));refine zJ (cs:=#[.int .i64 ((qX l0_2 x51_3).f0),.slice A377_1 ((qX l0_2 x51_3).f1).length c377_1,.slice none 0 0]) ?_ 2 _ rfl;(with_reducible repeat (first|refine qG ?_ _|refine qJ ?_|refine qF ?_ _));refine zJ (cs:=#[.int .i64 ((qX l0_2 x51_3).f0),.slice none 0 0,.slice none 0 0]) ?_ 1 _ rfl;(with_reducible repeat (first|refine qG ?_ _|refine qJ ?_|refine qF ?_ _));refine zJ (cs:=#[.int .i64 0,.slice none 0 0,.slice none 0 0]) ?_ 0 _ rfl;(with_reducible repeat (first|refine qG ?_ _|refine qJ ?_|refine qF ?_ _));exact BK378.out) hb);have n2_:=qA.mk (qE (byaj GE373.out GE378.out) hb);clear BK373;clear BK378;clear HB;have BK373:=n0_;have BK378:=n1_;have HB:=n2_;clear n0_ n1_ n2_;(try clear hb);(try clear hb2);(try clear hk);(try clear hi)))
              go_roundg k3
              case measure=>have:=HJ1.out;have:=HK2.out;have:=HK3.out;omega
              case rel=>exact ⟨(wrap64 (x51_3 + 1)),byae,H',⟨by have:=HJ1.out;have:=HK2.out;have:=HK3.out;omega⟩,⟨byaf BK373.out⟩,⟨byaj GE373.out GE378.out⟩⟩
             ·rw [if_neg c21] at H
              have c21b0 : (t379 == 0) = false:=beq_eq_false_iff_ne.mpr c21
              have c21b1 : (t379 != 0) = true:=bne_iff_ne.mpr c21
              obtain rfl:=Option.some.inj H
              have p377 : 0 ≤ (x51_3 : Int):=of_decide_eq_true byag
              have q377 : x51_3 < (l0_2.length : Int):=of_decide_eq_true byag
              obtain ⟨ad377,A377_1,c377_1,A377_2,c377_2,e377,hx377_0,hx377_1,hx377_2,hl377_1,hi377_1,hl377_2,hi377_2⟩:=kW HR0_2.out x51_3 p377 q377
              cases e377
              replace hx377_0:=(HB.out.cell (World.block_lt_of_cell? w _ hx377_0)).trans hx377_0
              replace hx377_1:=(HB.out.cell (World.block_lt_of_cell? w _ hx377_1)).trans hx377_1
              replace hx377_2:=(HB.out.cell (World.block_lt_of_cell? w _ hx377_2)).trans hx377_2
              have HR377_1:=qA.mk hi377_1
              have HC377_1:=qA.mk hl377_1
              clear hi377_1 hl377_1
              have HR377_2:=qA.mk hi377_2
              have HC377_2:=qA.mk hl377_2
              clear hi377_2 hl377_2
              replace p377:=eq_true p377
              replace q377:=eq_true q377
              go_wp2_with (first|((with_reducible refine zK (N:=8) rfl ?_);(try (refine uX (by rfl) ?_;dsimp only));refine q9 ?hg (N:=8) ?hd (cs:=#[.int .i64 0,.slice none 0 0,.slice none 0 0]) (t:=56) ?hr ?_;(case hd=>rfl);(case hg=>rfl);(case hr=>exact byaa);intro gb378 hg w26 hbox hb;have n0_:=qA.mk (qH (g:=gb373) (o:=.cells #[.int .i64 a0_0,.slice A0_1 l0_1.length c0_1,.slice (some ad377) l0_2.length c0_2] 56 (0,0)) (byaf BK373.out) hb);have n1_:=qA.mk (qE (byad GE373.out) hb);have n2_:=qA.mk (hbox);have n3_:=qA.mk ((bybz GE373.out : w.heap.size ≤ gb378));have n4_:=qA.mk ((bybz GE373.out : w.heap.size ≤ gb378));have n5_:=qA.mk ((by rw [hg];exact Nat.ne_of_lt (jF (g:=gb373) (o:=.cells #[.int .i64 a0_0,.slice A0_1 l0_1.length c0_1,.slice (some ad377) l0_2.length c0_2] 56 (0,0)) (byaf BK373.out)) : gb373≠gb378));have n6_:=qA.mk ((by rw [hg];exact Nat.ne_of_gt (jF (g:=gb373) (o:=.cells #[.int .i64 a0_0,.slice A0_1 l0_1.length c0_1,.slice (some ad377) l0_2.length c0_2] 56 (0,0)) (byaf BK373.out)) : gb378≠gb373));clear BK373;clear HB;have BK373:=n0_;have HB:=n1_;have BK378:=n2_;have GW378:=n3_;have GE378:=n4_;have NB373_378:=n5_;have NB378_373:=n6_;clear n0_ n1_ n2_ n3_ n4_ n5_ n6_;clear hb hbox hg;have hnb27:=NB378_373.out;have hnc27:=NB373_378.out;have hcz28_0 : w26.cell? ⟨gb378,0,none⟩ = some (.int .i64 0):=(qC BK378.out 0).trans rfl;have hcz28_1 : w26.cell? ⟨gb378,1,none⟩ = some (.slice none 0 0):=(qC BK378.out 1).trans rfl;have hcz28_2 : w26.cell? ⟨gb378,2,none⟩ = some (.slice none 0 0):=(qC BK378.out 2).trans rfl;have hfz28_0:=qB BK378.out 0;have hfz28_1:=qB BK378.out 1;have hfz28_2:=qB BK378.out 2)|((with_reducible refine qI (f:=67) rfl ?_);refine zL (some 56) rfl rfl Try.func67 (by kernel_rfl) rfl #[.agg #[.int .i64 ((qX l0_2 x51_3).f0),.slice A377_1 ((qX l0_2 x51_3).f1).length c377_1,.slice A377_2 ((qX l0_2 x51_3).f2).length c377_2]] rfl byah ?_;(with_reducible refine (ih k3 (by have:=HJ1.out;have:=HK2.out;have:=HK3.out;omega) ((qX l0_2 x51_3).f0) _ _ ((qX l0_2 x51_3).f1) _ _ ((qX l0_2 x51_3).f2) t379 _ ?side1 ?side2 ?side3 ?side4 A20.out).mono ?_);(case side1=>exact Kd.vK HR377_1.out (byaj GE373.out GE378.out));(case side2=>exact HC377_1.out);(case side3=>exact Kd.vK HR377_2.out (byaj GE373.out GE378.out));(case side4=>exact HC377_2.out);rintro e w29 ⟨rfl,hb⟩;refine ⟨_,rfl,?_⟩;have n0_:=qA.mk (qH (g:=gb373) (o:=.cells #[.int .i64 a0_0,.slice A0_1 l0_1.length c0_1,.slice (some ad377) l0_2.length c0_2] 56 (0,0)) (byak NB373_378.out BK373.out) hb);have n1_:=qA.mk (qH (g:=gb378) (o:=.cells #[.int .i64 ((qX l0_2 x51_3).f0),.slice A377_1 ((qX l0_2 x51_3).f1).length c377_1,.slice A377_2 ((qX l0_2 x51_3).f2).length c377_2] 56 (0,0)) (by (with_reducible repeat (first|refine qG ?_ _|refine qJ ?_|refine qF ?_ _));refine zJ (cs:=#[.int .i64 ((qX l0_2 x51_3).f0),.slice A377_1 ((qX l0_2 x51_3).f1).length c377_1,.slice none 0 0]) ?_ 2 _ rfl;(with_reducible repeat (first|refine qG ?_ _|refine qJ ?_|refine qF ?_ _));refine zJ (cs:=#[.int .i64 ((qX l0_2 x51_3).f0),.slice none 0 0,.slice none 0 0]) ?_ 1 _ rfl;(with_reducible repeat (first|refine qG ?_ _|refine qJ ?_|refine qF ?_ _));refine zJ (cs:=#[.int .i64 0,.slice none 0 0,.slice none 0 0]) ?_ 0 _ rfl;(with_reducible repeat (first|refine qG ?_ _|refine qJ ?_|refine qF ?_ _));exact BK378.out) hb);have n2_:=qA.mk (qE (byaj GE373.out GE378.out) hb);clear BK373;clear BK378;clear HB;have BK373:=n0_;have BK378:=n1_;have HB:=n2_;clear n0_ n1_ n2_;(try clear hb);(try clear hb2);(try clear hk);(try clear hi)))
              go_ret
              exact ⟨byac,byaj GE373.out GE378.out⟩
            ·rw [if_neg c19] at H
             exact absurd H (by simp)
           ·rw [if_neg c18] at H
            exact absurd H (by simp)
          ·rw [if_neg c17] at H
           have c17b0 : decide (x51_3 < (l0_2.length : Int)) = false:=decide_eq_false c17
           clear c17
           obtain rfl:=Option.some.inj H
           go_wp2
           go_ret
           exact ⟨byac,byad GE373.out⟩
       ·rw [if_neg c15] at H
        have c15b0 : (t376 == 0) = false:=beq_eq_false_iff_ne.mpr c15
        have c15b1 : (t376 != 0) = true:=bne_iff_ne.mpr c15
        obtain rfl:=Option.some.inj H
        have hcz30_0 : wr.cell? ⟨gb373,0,none⟩ = some (.int .i64 a0_0):=(qC BK373.out 0).trans rfl
        have hcz30_1 : wr.cell? ⟨gb373,1,none⟩ = some (.slice A0_1 l0_1.length c0_1):=(qC BK373.out 1).trans rfl
        have hcz30_2 : wr.cell? ⟨gb373,2,none⟩ = some (.slice A0_2 l0_2.length c0_2):=(qC BK373.out 2).trans rfl
        have hfz30_0:=qB BK373.out 0
        have hfz30_1:=qB BK373.out 1
        have hfz30_2:=qB BK373.out 2
        go_wp2_with (first|((with_reducible refine qI (f:=80) rfl ?_);refine zL (some 42) rfl rfl Try.func80 (by kernel_rfl) rfl #[.slice A0_1 l0_1.length c0_1] rfl byah ?_;(with_reducible refine (jB.calls k2 _ _ l0_1 t375 t376 _ ?side1 ?side2 A14.out).mono ?_);(case side1=>exact byaq HR0_1.out);(case side2=>exact HC0_1.out);rintro e w' ⟨rfl,⟨nd,rfl⟩⟩;refine ⟨_,rfl,?_⟩))
        go_ret
        exact ⟨byac,byad GE373.out⟩
def vH.f (k : Nat) (a0_0 : Int) (l0_1 : List Int) (l0_2 : List (S56)) : Option (Int):=(zX.f k a0_0 l0_1 l0_2).bind fun t381=>(if t381 > 4 then (some 3) else ((jA.f k a0_0 l0_1 l0_2).bind fun t382=>(if t382 > 200 then (some 3) else ((qV.f k a0_0 l0_1 l0_2).bind fun t383=>(some t383)))))
set_option maxHeartbeats 8000000 in
set_option maxRecDepth 100000 in
theorem vH.calls (k : Nat) (a0_0 : Int) (A0_1 : Option Addr) (c0_1 : Nat) (l0_1 : List Int) (A0_2 : Option Addr) (c0_2 : Nat) (l0_2 : List (S56)) (r : Int) (w : World) (hr0_1 : Kd.C (Kd.int .i64) w A0_1 l0_1.length l0_1) (hc0_1 : l0_1.length ≤ c0_1) (hr0_2 : Kd.C k56 w A0_2 l0_2.length l0_2) (hc0_2 : l0_2.length ≤ c0_2) (h : vH.f k a0_0 l0_1 l0_2 = some r) :
  Calls Try.prog 48 #[.agg #[.int .i64 a0_0,.slice A0_1 l0_1.length c0_1,.slice A0_2 l0_2.length c0_2]] w fun e w'=>e = .returned (.int .i64 r)∧Below w.heap.size w w':=by
 have hu56:=Try.underlying56
 have HR0_1:=qA.mk hr0_1
 have HC0_1:=qA.mk hc0_1
 clear hr0_1 hc0_1
 have HR0_2:=qA.mk hr0_2
 have HC0_2:=qA.mk hc0_2
 clear hr0_2 hc0_2
 have HB:=qA.mk (Below.refl w.heap.size w)
 have H : ((zX.f k a0_0 l0_1 l0_2).bind fun t381=>(if t381 > 4 then (some 3) else ((jA.f k a0_0 l0_1 l0_2).bind fun t382=>(if t382 > 200 then (some 3) else ((qV.f k a0_0 l0_1 l0_2).bind fun t383=>(some t383)))))) = some r:=h
 clear h
 replace H:=Option.bind_eq_some_iff.mp H
 obtain ⟨t381,A20,H⟩:=H
 replace H : (if t381 > 4 then (some 3) else ((jA.f k a0_0 l0_1 l0_2).bind fun t382=>(if t382 > 200 then (some 3) else ((qV.f k a0_0 l0_1 l0_2).bind fun t383=>(some t383))))) = some r:=H
 have A2:=qA.mk A20
 clear A20
 by_cases c3 : t381 > 4
 ·rw [if_pos c3] at H
  have c3b0 : decide (4 < t381) = true:=decide_eq_true c3
  clear c3
  obtain rfl:=Option.some.inj H
  go_enter Try.func48,Try.ntmps48
  go_wp2_with (first|((with_reducible refine zK (N:=1) rfl ?_);refine q9 ?hg (N:=1) ?hd (cs:=#[.int .i64 a0_0,.slice A0_1 l0_1.length c0_1,.slice A0_2 l0_2.length c0_2]) (t:=56) ?hr ?_;(case hd=>rfl);(case hg=>rfl);(case hr=>exact byaa);intro gb380 hg w4 hbox hb;have n0_:=qA.mk (qE byab hb);have n1_:=qA.mk (hbox);have n2_:=qA.mk ((byby : w.heap.size ≤ gb380));have n3_:=qA.mk ((byby : w.heap.size ≤ gb380));clear HB;have HB:=n0_;have BK380:=n1_;have GW380:=n2_;have GE380:=n3_;clear n0_ n1_ n2_ n3_;clear hb hbox hg;have hcz5_0 : w4.cell? ⟨gb380,0,none⟩ = some (.int .i64 a0_0):=(qC BK380.out 0).trans rfl;have hcz5_1 : w4.cell? ⟨gb380,1,none⟩ = some (.slice A0_1 l0_1.length c0_1):=(qC BK380.out 1).trans rfl;have hcz5_2 : w4.cell? ⟨gb380,2,none⟩ = some (.slice A0_2 l0_2.length c0_2):=(qC BK380.out 2).trans rfl;have hfz5_0:=qB BK380.out 0;have hfz5_1:=qB BK380.out 1;have hfz5_2:=qB BK380.out 2)|((with_reducible refine qI (f:=65) rfl ?_);refine zL (some 4) rfl rfl Try.func65 (by kernel_rfl) rfl #[.agg #[.int .i64 a0_0,.slice A0_1 l0_1.length c0_1,.slice A0_2 l0_2.length c0_2]] rfl byah ?_;(with_reducible refine (zX.calls k a0_0 _ _ l0_1 _ _ l0_2 t381 _ ?side1 ?side2 ?side3 ?side4 A2.out).mono ?_);(case side1=>exact byaq HR0_1.out);(case side2=>exact HC0_1.out);(case side3=>exact byaq HR0_2.out);(case side4=>exact HC0_2.out);rintro e w6 ⟨rfl,hb⟩;refine ⟨_,rfl,?_⟩;have n0_:=qA.mk (qH (g:=gb380) (o:=.cells #[.int .i64 a0_0,.slice A0_1 l0_1.length c0_1,.slice A0_2 l0_2.length c0_2] 56 (0,0)) (byaf BK380.out) hb);have n1_:=qA.mk (qE (byad GE380.out) hb);clear BK380;clear HB;have BK380:=n0_;have HB:=n1_;clear n0_ n1_;(try clear hb);(try clear hb2);(try clear hk);(try clear hi)))
  go_ret
  exact ⟨byac,byad GE380.out⟩
 ·rw [if_neg c3] at H
  have c3b0 : decide (4 < t381) = false:=decide_eq_false c3
  clear c3
  replace H:=Option.bind_eq_some_iff.mp H
  obtain ⟨t382,A70,H⟩:=H
  replace H : (if t382 > 200 then (some 3) else ((qV.f k a0_0 l0_1 l0_2).bind fun t383=>(some t383))) = some r:=H
  have A7:=qA.mk A70
  clear A70
  by_cases c8 : t382 > 200
  ·rw [if_pos c8] at H
   have c8b0 : decide (200 < t382) = true:=decide_eq_true c8
   clear c8
   obtain rfl:=Option.some.inj H
   go_enter Try.func48,Try.ntmps48
   go_wp2_with (first|((with_reducible refine zK (N:=1) rfl ?_);refine q9 ?hg (N:=1) ?hd (cs:=#[.int .i64 a0_0,.slice A0_1 l0_1.length c0_1,.slice A0_2 l0_2.length c0_2]) (t:=56) ?hr ?_;(case hd=>rfl);(case hg=>rfl);(case hr=>exact byaa);intro gb380 hg w9 hbox hb;have n0_:=qA.mk (qE byab hb);have n1_:=qA.mk (hbox);have n2_:=qA.mk ((byby : w.heap.size ≤ gb380));have n3_:=qA.mk ((byby : w.heap.size ≤ gb380));clear HB;have HB:=n0_;have BK380:=n1_;have GW380:=n2_;have GE380:=n3_;clear n0_ n1_ n2_ n3_;clear hb hbox hg;have hcz10_0 : w9.cell? ⟨gb380,0,none⟩ = some (.int .i64 a0_0):=(qC BK380.out 0).trans rfl;have hcz10_1 : w9.cell? ⟨gb380,1,none⟩ = some (.slice A0_1 l0_1.length c0_1):=(qC BK380.out 1).trans rfl;have hcz10_2 : w9.cell? ⟨gb380,2,none⟩ = some (.slice A0_2 l0_2.length c0_2):=(qC BK380.out 2).trans rfl;have hfz10_0:=qB BK380.out 0;have hfz10_1:=qB BK380.out 1;have hfz10_2:=qB BK380.out 2)|((with_reducible refine qI (f:=65) rfl ?_);refine zL (some 4) rfl rfl Try.func65 (by kernel_rfl) rfl #[.agg #[.int .i64 a0_0,.slice A0_1 l0_1.length c0_1,.slice A0_2 l0_2.length c0_2]] rfl byah ?_;(with_reducible refine (zX.calls k a0_0 _ _ l0_1 _ _ l0_2 t381 _ ?side1 ?side2 ?side3 ?side4 A2.out).mono ?_);(case side1=>exact byaq HR0_1.out);(case side2=>exact HC0_1.out);(case side3=>exact byaq HR0_2.out);(case side4=>exact HC0_2.out);rintro e w11 ⟨rfl,hb⟩;refine ⟨_,rfl,?_⟩;have n0_:=qA.mk (qH (g:=gb380) (o:=.cells #[.int .i64 a0_0,.slice A0_1 l0_1.length c0_1,.slice A0_2 l0_2.length c0_2] 56 (0,0)) (byaf BK380.out) hb);have n1_:=qA.mk (qE (byad GE380.out) hb);clear BK380;clear HB;have BK380:=n0_;have HB:=n1_;clear n0_ n1_;(try clear hb);(try clear hb2);(try clear hk);(try clear hi);have hcz12_0 : w11.cell? ⟨gb380,0,none⟩ = some (.int .i64 a0_0):=(qC BK380.out 0).trans rfl;have hcz12_1 : w11.cell? ⟨gb380,1,none⟩ = some (.slice A0_1 l0_1.length c0_1):=(qC BK380.out 1).trans rfl;have hcz12_2 : w11.cell? ⟨gb380,2,none⟩ = some (.slice A0_2 l0_2.length c0_2):=(qC BK380.out 2).trans rfl;have hfz12_0:=qB BK380.out 0;have hfz12_1:=qB BK380.out 1;have hfz12_2:=qB BK380.out 2)|(go_at_call 66;(with_reducible refine (jA.calls k a0_0 _ _ l0_1 _ _ l0_2 t382 _ ?side1 ?side2 ?side3 ?side4 A7.out).mono ?_);(case side1=>exact byaq HR0_1.out);(case side2=>exact HC0_1.out);(case side3=>exact byaq HR0_2.out);(case side4=>exact HC0_2.out);rintro e w13 ⟨rfl,hb⟩;have n0_:=qA.mk (qH (g:=gb380) (o:=.cells #[.int .i64 a0_0,.slice A0_1 l0_1.length c0_1,.slice A0_2 l0_2.length c0_2] 56 (0,0)) (byaf BK380.out) hb);have n1_:=qA.mk (qE (byad GE380.out) hb);clear BK380;clear HB;have BK380:=n0_;have HB:=n1_;clear n0_ n1_;(try clear hb);(try clear hb2);(try clear hk);(try clear hi)))
   go_ret
   exact ⟨byac,byad GE380.out⟩
  ·rw [if_neg c8] at H
   have c8b0 : decide (200 < t382) = false:=decide_eq_false c8
   clear c8
   replace H:=Option.bind_eq_some_iff.mp H
   obtain ⟨t383,A140,H⟩:=H
   replace H : (some t383) = some r:=H
   have A14:=qA.mk A140
   clear A140
   obtain rfl:=Option.some.inj H
   go_enter Try.func48,Try.ntmps48
   go_wp2_with (first|((with_reducible refine zK (N:=1) rfl ?_);refine q9 ?hg (N:=1) ?hd (cs:=#[.int .i64 a0_0,.slice A0_1 l0_1.length c0_1,.slice A0_2 l0_2.length c0_2]) (t:=56) ?hr ?_;(case hd=>rfl);(case hg=>rfl);(case hr=>exact byaa);intro gb380 hg w15 hbox hb;have n0_:=qA.mk (qE byab hb);have n1_:=qA.mk (hbox);have n2_:=qA.mk ((byby : w.heap.size ≤ gb380));have n3_:=qA.mk ((byby : w.heap.size ≤ gb380));clear HB;have HB:=n0_;have BK380:=n1_;have GW380:=n2_;have GE380:=n3_;clear n0_ n1_ n2_ n3_;clear hb hbox hg;have hcz16_0 : w15.cell? ⟨gb380,0,none⟩ = some (.int .i64 a0_0):=(qC BK380.out 0).trans rfl;have hcz16_1 : w15.cell? ⟨gb380,1,none⟩ = some (.slice A0_1 l0_1.length c0_1):=(qC BK380.out 1).trans rfl;have hcz16_2 : w15.cell? ⟨gb380,2,none⟩ = some (.slice A0_2 l0_2.length c0_2):=(qC BK380.out 2).trans rfl;have hfz16_0:=qB BK380.out 0;have hfz16_1:=qB BK380.out 1;have hfz16_2:=qB BK380.out 2)|((with_reducible refine qI (f:=65) rfl ?_);refine zL (some 4) rfl rfl Try.func65 (by kernel_rfl) rfl #[.agg #[.int .i64 a0_0,.slice A0_1 l0_1.length c0_1,.slice A0_2 l0_2.length c0_2]] rfl byah ?_;(with_reducible refine (zX.calls k a0_0 _ _ l0_1 _ _ l0_2 t381 _ ?side1 ?side2 ?side3 ?side4 A2.out).mono ?_);(case side1=>exact byaq HR0_1.out);(case side2=>exact HC0_1.out);(case side3=>exact byaq HR0_2.out);(case side4=>exact HC0_2.out);rintro e w17 ⟨rfl,hb⟩;refine ⟨_,rfl,?_⟩;have n0_:=qA.mk (qH (g:=gb380) (o:=.cells #[.int .i64 a0_0,.slice A0_1 l0_1.length c0_1,.slice A0_2 l0_2.length c0_2] 56 (0,0)) (byaf BK380.out) hb);have n1_:=qA.mk (qE (byad GE380.out) hb);clear BK380;clear HB;have BK380:=n0_;have HB:=n1_;clear n0_ n1_;(try clear hb);(try clear hb2);(try clear hk);(try clear hi);have hcz18_0 : w17.cell? ⟨gb380,0,none⟩ = some (.int .i64 a0_0):=(qC BK380.out 0).trans rfl;have hcz18_1 : w17.cell? ⟨gb380,1,none⟩ = some (.slice A0_1 l0_1.length c0_1):=(qC BK380.out 1).trans rfl;have hcz18_2 : w17.cell? ⟨gb380,2,none⟩ = some (.slice A0_2 l0_2.length c0_2):=(qC BK380.out 2).trans rfl;have hfz18_0:=qB BK380.out 0;have hfz18_1:=qB BK380.out 1;have hfz18_2:=qB BK380.out 2)|(go_at_call 66;(with_reducible refine (jA.calls k a0_0 _ _ l0_1 _ _ l0_2 t382 _ ?side1 ?side2 ?side3 ?side4 A7.out).mono ?_);(case side1=>exact byaq HR0_1.out);(case side2=>exact HC0_1.out);(case side3=>exact byaq HR0_2.out);(case side4=>exact HC0_2.out);rintro e w19 ⟨rfl,hb⟩;have n0_:=qA.mk (qH (g:=gb380) (o:=.cells #[.int .i64 a0_0,.slice A0_1 l0_1.length c0_1,.slice A0_2 l0_2.length c0_2] 56 (0,0)) (byaf BK380.out) hb);have n1_:=qA.mk (qE (byad GE380.out) hb);clear BK380;clear HB;have BK380:=n0_;have HB:=n1_;clear n0_ n1_;(try clear hb);(try clear hb2);(try clear hk);(try clear hi);have hcz20_0 : w19.cell? ⟨gb380,0,none⟩ = some (.int .i64 a0_0):=(qC BK380.out 0).trans rfl;have hcz20_1 : w19.cell? ⟨gb380,1,none⟩ = some (.slice A0_1 l0_1.length c0_1):=(qC BK380.out 1).trans rfl;have hcz20_2 : w19.cell? ⟨gb380,2,none⟩ = some (.slice A0_2 l0_2.length c0_2):=(qC BK380.out 2).trans rfl;have hfz20_0:=qB BK380.out 0;have hfz20_1:=qB BK380.out 1;have hfz20_2:=qB BK380.out 2)|((with_reducible refine qI (f:=67) rfl ?_);refine zL (some 12) rfl rfl Try.func67 (by kernel_rfl) rfl #[.agg #[.int .i64 a0_0,.slice A0_1 l0_1.length c0_1,.slice A0_2 l0_2.length c0_2]] rfl byah ?_;(with_reducible refine (qV.calls k a0_0 _ _ l0_1 _ _ l0_2 t383 _ ?side1 ?side2 ?side3 ?side4 A14.out).mono ?_);(case side1=>exact byaq HR0_1.out);(case side2=>exact HC0_1.out);(case side3=>exact byaq HR0_2.out);(case side4=>exact HC0_2.out);rintro e w21 ⟨rfl,hb⟩;refine ⟨_,rfl,?_⟩;have n0_:=qA.mk (qH (g:=gb380) (o:=.cells #[.int .i64 a0_0,.slice A0_1 l0_1.length c0_1,.slice A0_2 l0_2.length c0_2] 56 (0,0)) (byaf BK380.out) hb);have n1_:=qA.mk (qE (byad GE380.out) hb);clear BK380;clear HB;have BK380:=n0_;have HB:=n1_;clear n0_ n1_;(try clear hb);(try clear hb2);(try clear hk);(try clear hi)))
   go_ret
   exact ⟨byac,byad GE380.out⟩
def vS.f (k : Nat) (s0_0 : List Int) (s0_1 : Int) (a1 : Int) (a2 : Int) : Option (Int × List Int × (List (S56)) × Int):=(qQ.f k s0_0 s0_1 a1 a2).bind fun bt385=>((vH.f k bt385.1 bt385.2.1 bt385.2.2.1).bind fun t394=>(if t394 = 0 then (some (bt385.1,bt385.2.1,bt385.2.2.1,bt385.2.2.2)) else ((q8.f s0_0 bt385.2.2.2 a1).bind fun bt395=>(some (1,(([bt395.1] : List Int)),([] : List (S56)),bt395.2)))))
set_option maxHeartbeats 8000000 in
set_option maxRecDepth 100000 in
theorem vS.calls (k : Nat) (g : Nat) (s0_0 : List Int) (s0_1 : Int) (a1 : Int) (a2 : Int) (r1 : Int) (r2 : List Int) (r3 : List (S56)) (r4 : Int) (w0 w : World) (hI : qD w0 w g s0_0 s0_1) (hB : Below w0.heap.size w0 w) (h : vS.f k s0_0 s0_1 a1 a2 = some (r1,r2,r3,r4)) :
  Calls Try.prog 30 #[.pointer (some ⟨g,0,none⟩),.int .i64 a1,.int .i64 a2] w fun e w'=>∃ v1_ v2_ : Value,e = .returned (.agg #[.int .i64 r1,v1_,v2_])∧Kd.R (Kd.int .i64) 3 w' w.heap.size (fun _=>True) v1_ r2∧Kd.R k56 56 w' w.heap.size (fun k_=>some k_≠(v1_ : Value).ownBlock) v2_ r3∧qD w0 w' g s0_0 r4∧Below w0.heap.size w0 w'∧qK w w' g none:=by
 have hu56:=Try.underlying56
 have HI0:=qA.mk hI
 have HK:=qA.mk (qK.refl w g none)
 have HL:=qA.mk hB.size
 clear hI
 have HW0:=qA.mk hB.size
 have HB:=qA.mk hB
 clear hB
 have H : ((qQ.f k s0_0 s0_1 a1 a2).bind fun bt385=>((vH.f k bt385.1 bt385.2.1 bt385.2.2.1).bind fun t394=>(if t394 = 0 then (some (bt385.1,bt385.2.1,bt385.2.2.1,bt385.2.2.2)) else ((q8.f s0_0 bt385.2.2.2 a1).bind fun bt395=>(some (1,(([bt395.1] : List Int)),([] : List (S56)),bt395.2)))))) = some (r1,r2,r3,r4):=h
 clear h
 replace H:=Option.bind_eq_some_iff.mp H
 obtain ⟨⟨t385,t386,t389,t392⟩,A40,H⟩:=H
 replace H : ((vH.f k t385 t386 t389).bind fun t394=>(if t394 = 0 then (some (t385,t386,t389,t392)) else ((q8.f s0_0 t392 a1).bind fun bt395=>(some (1,(([bt395.1] : List Int)),([] : List (S56)),bt395.2))))) = some (r1,r2,r3,r4):=H
 have A4:=qA.mk A40
 clear A40
 replace H:=Option.bind_eq_some_iff.mp H
 obtain ⟨t394,A50,H⟩:=H
 replace H : (if t394 = 0 then (some (t385,t386,t389,t392)) else ((q8.f s0_0 t392 a1).bind fun bt395=>(some (1,(([bt395.1] : List Int)),([] : List (S56)),bt395.2)))) = some (r1,r2,r3,r4):=H
 have A5:=qA.mk A50
 clear A50
 by_cases c6 : t394 = 0
 ·rw [if_pos c6] at H
  have c6b0 : (t394 == 0) = true:=beq_iff_eq.mpr c6
  have c6b1 : (t394 != 0) = false:=bne_eq_false_iff_eq.mpr c6
  clear c6
  simp only [Option.some.injEq,Prod.mk.injEq] at H
  obtain ⟨rfl,rfl,rfl,rfl⟩:=H
  go_enter Try.func30,Try.ntmps30
  go_wp2_with (first|((with_reducible refine zK (N:=6) rfl ?_);refine q9 ?hg (N:=6) ?hd (cs:=#[.int .i64 0,.slice none 0 0,.slice none 0 0]) (t:=56) ?hr ?_;(case hd=>rfl);(case hg=>rfl);(case hr=>exact byaa);intro gb384 hg w7 hbox hb;have n0_:=qA.mk (qD.below (bybf HI0.out) hb);have n1_:=qA.mk (qK.trans bybh (qK.of_below hb g none) (.inl rfl));have n2_:=qA.mk (qE (bybg HI0.out) hb);have n3_:=qA.mk (hbox);have n4_:=qA.mk ((bycc : w.heap.size ≤ gb384));have n5_:=qA.mk ((Nat.le_trans HW0.out (bycc : w.heap.size ≤ gb384) : w0.heap.size ≤ gb384));have n6_:=qA.mk ((by rw [hg];exact Nat.ne_of_lt (qD.lt (show qD w0 _ g s0_0 s0_1 from by repeat (first|(with_reducible first|exact HI0.out|apply qD.alloc|apply qD.drewN|apply qD.drew|apply qD.jR)|exact HI0.out))) : g≠gb384));have n7_:=qA.mk ((by rw [hg];exact Nat.ne_of_gt (qD.lt (show qD w0 _ g s0_0 s0_1 from by repeat (first|(with_reducible first|exact HI0.out|apply qD.alloc|apply qD.drewN|apply qD.drew|apply qD.jR)|exact HI0.out))) : gb384≠g));clear HI0;clear HK;clear HB;have HI0:=n0_;have HK:=n1_;have HB:=n2_;have BK384:=n3_;have GW384:=n4_;have GE384:=n5_;have NB0_384:=n6_;have NB384_0:=n7_;clear n0_ n1_ n2_ n3_ n4_ n5_ n6_ n7_;clear hb hbox hg)|((with_reducible refine qI (f:=47) rfl ?_);refine zL (some 11) rfl rfl Try.func47 (by kernel_rfl) rfl #[.pointer (some ⟨g,0,none⟩),.int .i64 a1,.int .i64 a2] rfl byah ?_;(with_reducible refine (qQ.calls k g s0_0 s0_1 a1 a2 t385 t386 t389 t392 w0 _ ?side1 ?side2 A4.out).mono ?_);(case side1=>exact bybi HI0.out NB0_384.out);(case side2=>exact bybk HI0.out GE384.out);rintro e w8 ⟨v387,v390,rfl,ho0,ho1,hi,hb,hk⟩;refine ⟨_,rfl,?_⟩;have n0_:=qA.mk (qK.blk hk (g':=gb384) (o:=.cells #[.int .i64 0,.slice none 0 0,.slice none 0 0] 56 (0,0)) (byaf BK384.out) NB384_0.out (by simp));have n1_:=qA.mk (Kd.vR ho0 (jV (w:=w) (g:=g) (row:=none) (bybj GW384.out)));have n2_:=qA.mk (Kd.vR (Kd.R_newB ho1 (g:=gb384) (o:=.cells #[.int .i64 0,.slice none 0 0,.slice none 0 0] 56 (0,0)) (byaf BK384.out)) (jV (w:=w) (g:=g) (row:=none) (bybj GW384.out)));have n3_:=qA.mk (qK.trans (bybj GW384.out) hk (.inl rfl));have n4_:=qA.mk (hb);have n5_:=qA.mk (hi);clear BK384;clear HK;clear HB;clear HI0;have BK384:=n0_;have HO388:=n1_;have HO391:=n2_;have HK:=n3_;have HB:=n4_;have HI0:=n5_;clear n0_ n1_ n2_ n3_ n4_ n5_;(try clear hb);(try clear hb2);(try clear hk);(try clear hi);(try clear ho0);(try clear ho1))|((with_reducible refine zK (N:=7) rfl ?_);refine q9 ?hg (N:=7) ?hd (cs:=#[.int .i64 0,.slice none 0 0,.slice none 0 0]) (t:=56) ?hr ?_;(case hd=>rfl);(case hg=>rfl);(case hr=>exact byaa);intro gb393 hg w9 hbox hb;have n0_:=qA.mk (Kd.vI (byav HO388.out) hb);have n1_:=qA.mk (Kd.vI (Kd.kV (byav HO391.out) gb393 (Nat.le_of_eq hg.symm)) hb);have n2_:=qA.mk (qD.below (bybi HI0.out NB0_384.out) hb);have n3_:=qA.mk (qH (g:=gb384) (o:=.cells #[.int .i64 0,.slice none 0 0,.slice none 0 0] 56 (0,0)) (byaf BK384.out) hb);have n4_:=qA.mk (qK.trans (bybj GW384.out) (qK.of_below hb g none) (.inl rfl));have n5_:=qA.mk (qE (bybk HI0.out GE384.out) hb);have n6_:=qA.mk (hbox);have n7_:=qA.mk ((bycd GW384.out : w.heap.size ≤ gb393));have n8_:=qA.mk ((Nat.le_trans HW0.out (bycd GW384.out : w.heap.size ≤ gb393) : w0.heap.size ≤ gb393));have n9_:=qA.mk ((by rw [hg];exact Nat.ne_of_lt (jF (g:=gb384) (o:=.cells #[.int .i64 0,.slice none 0 0,.slice none 0 0] 56 (0,0)) (byaf BK384.out)) : gb384≠gb393));have n10_:=qA.mk ((by rw [hg];exact Nat.ne_of_gt (jF (g:=gb384) (o:=.cells #[.int .i64 0,.slice none 0 0,.slice none 0 0] 56 (0,0)) (byaf BK384.out)) : gb393≠gb384));have n11_:=qA.mk ((by rw [hg];exact Nat.ne_of_lt (qD.lt (show qD w0 _ g s0_0 t392 from by repeat (first|(with_reducible first|exact HI0.out|apply qD.alloc|apply qD.drewN|apply qD.drew|apply qD.jR|refine qD.far ?_ NB0_384.out _)|exact HI0.out))) : g≠gb393));have n12_:=qA.mk ((by rw [hg];exact Nat.ne_of_gt (qD.lt (show qD w0 _ g s0_0 t392 from by repeat (first|(with_reducible first|exact HI0.out|apply qD.alloc|apply qD.drewN|apply qD.drew|apply qD.jR|refine qD.far ?_ NB0_384.out _)|exact HI0.out))) : gb393≠g));clear HO388;clear HO391;clear HI0;clear BK384;clear HK;clear HB;have HO388:=n0_;have HO391:=n1_;have HI0:=n2_;have BK384:=n3_;have HK:=n4_;have HB:=n5_;have BK393:=n6_;have GW393:=n7_;have GE393:=n8_;have NB384_393:=n9_;have NB393_384:=n10_;have NB0_393:=n11_;have NB393_0:=n12_;clear n0_ n1_ n2_ n3_ n4_ n5_ n6_ n7_ n8_ n9_ n10_ n11_ n12_;clear hb hbox hg;have hnb10:=NB393_384.out;have hnc10:=NB384_393.out;have hnb11:=NB393_0.out;have hnc11:=NB0_393.out;have hcz12_0 : w9.cell? ⟨gb393,0,none⟩ = some (.int .i64 0):=(qC BK393.out 0).trans rfl;have hcz12_1 : w9.cell? ⟨gb393,1,none⟩ = some (.slice none 0 0):=(qC BK393.out 1).trans rfl;have hcz12_2 : w9.cell? ⟨gb393,2,none⟩ = some (.slice none 0 0):=(qC BK393.out 2).trans rfl;have hfz12_0:=qB BK393.out 0;have hfz12_1:=qB BK393.out 1;have hfz12_2:=qB BK393.out 2;obtain ⟨Ao13,co13,eo13⟩:=Kd.jT HO388.out;subst eo13;obtain ⟨Ao14,co14,eo14⟩:=Kd.jT HO391.out;subst eo14)|((with_reducible refine qI (f:=48) rfl ?_);refine zL (some 13) rfl rfl Try.func48 (by kernel_rfl) rfl #[.agg #[.int .i64 t385,.slice Ao13 t386.length co13,.slice Ao14 t389.length co14]] rfl byah ?_;(with_reducible refine (vH.calls k t385 _ _ t386 _ _ t389 t394 _ ?side1 ?side2 ?side3 ?side4 A5.out).mono ?_);(case side1=>refine (Kd.vX (e:=3) (base:=w.heap.size) (ok:=fun k_=>True) (n:=t386.length) (c:=co13) ?_).2.2;exact (by (with_reducible repeat (first|apply Kd.jI|apply Kd.jJ|apply Kd.jM));exact (Kd.zG (Kd.jD (p:=⟨gb393,2,none⟩) (Kd.jD (p:=⟨gb393,1,none⟩) (Kd.jD (p:=⟨gb393,0,none⟩) (Kd.jW HO388.out BK393.out (by decide)) (fun _ hk=>hk.2) (.int .i64 t385)) (fun _ hk=>hk.2) (.slice Ao13 t386.length co13)) (fun _ hk=>hk.2) (.slice Ao14 t389.length co14)) (fun _ h_=>h_.1))));(case side2=>exact bybp HO388.out);(case side3=>refine (Kd.vX (e:=56) (base:=w.heap.size) (ok:=fun k_=>((some k_≠(.slice Ao13 t386.length co13 : Value).ownBlock∧k_≠gb384)∧k_≠gb393)) (n:=t389.length) (c:=co14) ?_).2.2;exact (by (with_reducible repeat (first|apply Kd.jI|apply Kd.jJ|apply Kd.jM));exact (Kd.zG (Kd.jD (p:=⟨gb393,2,none⟩) (Kd.jD (p:=⟨gb393,1,none⟩) (Kd.jD (p:=⟨gb393,0,none⟩) (Kd.zG HO391.out (fun k_ hk=>(⟨hk,hk.2⟩ : _∧k_≠gb393))) (fun _ hk=>hk.2) (.int .i64 t385)) (fun _ hk=>hk.2) (.slice Ao13 t386.length co13)) (fun _ hk=>hk.2) (.slice Ao14 t389.length co14)) (fun _ h_=>h_.1))));(case side4=>exact bybp HO391.out);rintro e w15 ⟨rfl,hb⟩;refine ⟨_,rfl,?_⟩;have n0_:=qA.mk (Kd.vI (by (with_reducible repeat (first|apply Kd.jI|apply Kd.jJ|apply Kd.jM));exact (Kd.zG (Kd.jD (p:=⟨gb393,2,none⟩) (Kd.jD (p:=⟨gb393,1,none⟩) (Kd.jD (p:=⟨gb393,0,none⟩) (Kd.jW HO388.out BK393.out (by decide)) (fun _ hk=>hk.2) (.int .i64 t385)) (fun _ hk=>hk.2) (.slice Ao13 t386.length co13)) (fun _ hk=>hk.2) (.slice Ao14 t389.length co14)) (fun _ h_=>h_.1))) hb);have n1_:=qA.mk (Kd.vI (by (with_reducible repeat (first|apply Kd.jI|apply Kd.jJ|apply Kd.jM));exact (Kd.zG (Kd.jD (p:=⟨gb393,2,none⟩) (Kd.jD (p:=⟨gb393,1,none⟩) (Kd.jD (p:=⟨gb393,0,none⟩) (Kd.zG HO391.out (fun k_ hk=>(⟨hk,hk.2⟩ : _∧k_≠gb393))) (fun _ hk=>hk.2) (.int .i64 t385)) (fun _ hk=>hk.2) (.slice Ao13 t386.length co13)) (fun _ hk=>hk.2) (.slice Ao14 t389.length co14)) (fun _ h_=>h_.1))) hb);have n2_:=qA.mk (qD.below (show qD w0 (((w9.setCell ⟨gb393,0,none⟩ (.int .i64 t385)).setCell ⟨gb393,1,none⟩ (.slice Ao13 t386.length co13)).setCell ⟨gb393,2,none⟩ (.slice Ao14 t389.length co14)) g s0_0 t392 from by repeat (first|(with_reducible first|exact HI0.out|apply qD.alloc|apply qD.drewN|apply qD.drew|apply qD.jR|refine qD.far ?_ NB0_384.out _|refine qD.far ?_ NB0_393.out _)|exact HI0.out)) hb);have n3_:=qA.mk (qH (g:=gb384) (o:=.cells #[.int .i64 0,.slice none 0 0,.slice none 0 0] 56 (0,0)) (byak NB384_393.out BK384.out) hb);have n4_:=qA.mk (qH (g:=gb393) (o:=.cells #[.int .i64 t385,.slice Ao13 t386.length co13,.slice Ao14 t389.length co14] 56 (0,0)) (by (with_reducible repeat (first|refine qG ?_ _|refine qJ ?_|refine qF ?_ _));refine zJ (cs:=#[.int .i64 t385,.slice Ao13 t386.length co13,.slice none 0 0]) ?_ 2 _ rfl;(with_reducible repeat (first|refine qG ?_ _|refine qJ ?_|refine qF ?_ _));refine zJ (cs:=#[.int .i64 t385,.slice none 0 0,.slice none 0 0]) ?_ 1 _ rfl;(with_reducible repeat (first|refine qG ?_ _|refine qJ ?_|refine qF ?_ _));refine zJ (cs:=#[.int .i64 0,.slice none 0 0,.slice none 0 0]) ?_ 0 _ rfl;(with_reducible repeat (first|refine qG ?_ _|refine qJ ?_|refine qF ?_ _));exact BK393.out) hb);have n5_:=qA.mk (qK.trans (bybn GW384.out GW393.out) (qK.of_below hb g none) (.inl rfl));have n6_:=qA.mk (qE (bybm HI0.out GE384.out GE393.out) hb);clear HO388;clear HO391;clear HI0;clear BK384;clear BK393;clear HK;clear HB;have HO388:=n0_;have HO391:=n1_;have HI0:=n2_;have BK384:=n3_;have BK393:=n4_;have HK:=n5_;have HB:=n6_;clear n0_ n1_ n2_ n3_ n4_ n5_ n6_;(try clear hb);(try clear hb2);(try clear hk);(try clear hi);have hcz16_0 : w15.cell? ⟨gb393,0,none⟩ = some (.int .i64 t385):=(qC BK393.out 0).trans rfl;have hcz16_1 : w15.cell? ⟨gb393,1,none⟩ = some (.slice Ao13 t386.length co13):=(qC BK393.out 1).trans rfl;have hcz16_2 : w15.cell? ⟨gb393,2,none⟩ = some (.slice Ao14 t389.length co14):=(qC BK393.out 2).trans rfl;have hfz16_0:=qB BK393.out 0;have hfz16_1:=qB BK393.out 1;have hfz16_2:=qB BK393.out 2;have hnb17:=NB384_0.out;have hnc17:=NB0_384.out;have hcz18_0 : w15.cell? ⟨gb384,0,none⟩ = some (.int .i64 0):=(qC BK384.out 0).trans rfl;have hcz18_1 : w15.cell? ⟨gb384,1,none⟩ = some (.slice none 0 0):=(qC BK384.out 1).trans rfl;have hcz18_2 : w15.cell? ⟨gb384,2,none⟩ = some (.slice none 0 0):=(qC BK384.out 2).trans rfl;have hfz18_0:=qB BK384.out 0;have hfz18_1:=qB BK384.out 1;have hfz18_2:=qB BK384.out 2))
  refine bodyPost_ret (results_cell_row rfl _ _ gb384 56 #[.int .i64 t385,.slice Ao13 t386.length co13,.slice Ao14 t389.length co14] (0,0) _ rfl (by (with_reducible repeat (first|refine qG ?_ _|refine qJ ?_|refine qF ?_ _));refine zJ (cs:=#[.int .i64 t385,.slice Ao13 t386.length co13,.slice none 0 0]) ?_ 2 _ rfl;(with_reducible repeat (first|refine qG ?_ _|refine qJ ?_|refine qF ?_ _));refine zJ (cs:=#[.int .i64 t385,.slice none 0 0,.slice none 0 0]) ?_ 1 _ rfl;(with_reducible repeat (first|refine qG ?_ _|refine qJ ?_|refine qF ?_ _));refine zJ (cs:=#[.int .i64 0,.slice none 0 0,.slice none 0 0]) ?_ 0 _ rfl;(with_reducible repeat (first|refine qG ?_ _|refine qJ ?_|refine qF ?_ _));exact BK384.out) Try.underlying56 rfl (by kernel_rfl)) rfl ?_
  exact ⟨_,_,byac,by (with_reducible repeat (first|apply Kd.jI|apply Kd.jJ|apply Kd.jM));exact Kd.zG (Kd.jD (p:=⟨gb384,2,none⟩) (Kd.jD (p:=⟨gb384,1,none⟩) (Kd.jD (p:=⟨gb384,0,none⟩) (Kd.jW HO388.out BK384.out (by decide)) (fun _ hk=>hk.2) (.int .i64 t385)) (fun _ hk=>hk.2) (.slice Ao13 t386.length co13)) (fun _ hk=>hk.2) (.slice Ao14 t389.length co14)) (fun _ hk=>trivial),by (with_reducible repeat (first|apply Kd.jI|apply Kd.jJ|apply Kd.jM));exact Kd.zG (Kd.jD (p:=⟨gb384,2,none⟩) (Kd.jD (p:=⟨gb384,1,none⟩) (Kd.jD (p:=⟨gb384,0,none⟩) (Kd.zG HO391.out (fun k_ hk=>(⟨hk,hk.1.2⟩ : _∧k_≠gb384))) (fun _ hk=>hk.2) (.int .i64 t385)) (fun _ hk=>hk.2) (.slice Ao13 t386.length co13)) (fun _ hk=>hk.2) (.slice Ao14 t389.length co14)) (fun _ hk=>hk.1.1.1),bybl HI0.out NB0_384.out NB0_393.out,bybm HI0.out GE384.out GE393.out,bybn GW384.out GW393.out⟩
 ·rw [if_neg c6] at H
  have c6b0 : (t394 == 0) = false:=beq_eq_false_iff_ne.mpr c6
  have c6b1 : (t394 != 0) = true:=bne_iff_ne.mpr c6
  replace H:=Option.bind_eq_some_iff.mp H
  obtain ⟨⟨t395,t396⟩,A190,H⟩:=H
  replace H : (some (1,(([t395] : List Int)),([] : List (S56)),t396)) = some (r1,r2,r3,r4):=H
  have A19:=qA.mk A190
  clear A190
  obtain ⟨y397,hy397⟩ : ∃ y_ : List Int,y_ = (([t395] : List Int)):=⟨_,rfl⟩
  replace H : (some (1,y397,([] : List (S56)),t396)) = some (r1,r2,r3,r4):=by first|(rw [hy397];with_reducible exact H)|(have H2_:=(Option.bind_some _ _).symm.trans H;rw [hy397];with_reducible exact H2_)|(have H2_:=(Option.bind_some _ _).symm.trans H;with_reducible exact H2_)|with_reducible exact H|(rw [hy397];exact H)|exact H
  have Ny397:=qA.mk hy397
  clear hy397
  simp only [Option.some.injEq,Prod.mk.injEq] at H
  obtain ⟨rfl,rfl,rfl,rfl⟩:=H
  go_enter Try.func30,Try.ntmps30
  go_wp2_with (first|((with_reducible refine zK (N:=6) rfl ?_);refine q9 ?hg (N:=6) ?hd (cs:=#[.int .i64 0,.slice none 0 0,.slice none 0 0]) (t:=56) ?hr ?_;(case hd=>rfl);(case hg=>rfl);(case hr=>exact byaa);intro gb384 hg w20 hbox hb;have n0_:=qA.mk (qD.below (bybf HI0.out) hb);have n1_:=qA.mk (qK.trans bybh (qK.of_below hb g none) (.inl rfl));have n2_:=qA.mk (qE (bybg HI0.out) hb);have n3_:=qA.mk (hbox);have n4_:=qA.mk ((bycc : w.heap.size ≤ gb384));have n5_:=qA.mk ((Nat.le_trans HW0.out (bycc : w.heap.size ≤ gb384) : w0.heap.size ≤ gb384));have n6_:=qA.mk ((by rw [hg];exact Nat.ne_of_lt (qD.lt (show qD w0 _ g s0_0 s0_1 from by repeat (first|(with_reducible first|exact HI0.out|apply qD.alloc|apply qD.drewN|apply qD.drew|apply qD.jR)|exact HI0.out))) : g≠gb384));have n7_:=qA.mk ((by rw [hg];exact Nat.ne_of_gt (qD.lt (show qD w0 _ g s0_0 s0_1 from by repeat (first|(with_reducible first|exact HI0.out|apply qD.alloc|apply qD.drewN|apply qD.drew|apply qD.jR)|exact HI0.out))) : gb384≠g));clear HI0;clear HK;clear HB;have HI0:=n0_;have HK:=n1_;have HB:=n2_;have BK384:=n3_;have GW384:=n4_;have GE384:=n5_;have NB0_384:=n6_;have NB384_0:=n7_;clear n0_ n1_ n2_ n3_ n4_ n5_ n6_ n7_;clear hb hbox hg)|((with_reducible refine qI (f:=47) rfl ?_);refine zL (some 11) rfl rfl Try.func47 (by kernel_rfl) rfl #[.pointer (some ⟨g,0,none⟩),.int .i64 a1,.int .i64 a2] rfl byah ?_;(with_reducible refine (qQ.calls k g s0_0 s0_1 a1 a2 t385 t386 t389 t392 w0 _ ?side1 ?side2 A4.out).mono ?_);(case side1=>exact bybi HI0.out NB0_384.out);(case side2=>exact bybk HI0.out GE384.out);rintro e w21 ⟨v387,v390,rfl,ho0,ho1,hi,hb,hk⟩;refine ⟨_,rfl,?_⟩;have n0_:=qA.mk (qK.blk hk (g':=gb384) (o:=.cells #[.int .i64 0,.slice none 0 0,.slice none 0 0] 56 (0,0)) (byaf BK384.out) NB384_0.out (by simp));have n1_:=qA.mk (Kd.vR ho0 (jV (w:=w) (g:=g) (row:=none) (bybj GW384.out)));have n2_:=qA.mk (Kd.vR (Kd.R_newB ho1 (g:=gb384) (o:=.cells #[.int .i64 0,.slice none 0 0,.slice none 0 0] 56 (0,0)) (byaf BK384.out)) (jV (w:=w) (g:=g) (row:=none) (bybj GW384.out)));have n3_:=qA.mk (qK.trans (bybj GW384.out) hk (.inl rfl));have n4_:=qA.mk (hb);have n5_:=qA.mk (hi);clear BK384;clear HK;clear HB;clear HI0;have BK384:=n0_;have HO388:=n1_;have HO391:=n2_;have HK:=n3_;have HB:=n4_;have HI0:=n5_;clear n0_ n1_ n2_ n3_ n4_ n5_;(try clear hb);(try clear hb2);(try clear hk);(try clear hi);(try clear ho0);(try clear ho1))|((with_reducible refine zK (N:=7) rfl ?_);refine q9 ?hg (N:=7) ?hd (cs:=#[.int .i64 0,.slice none 0 0,.slice none 0 0]) (t:=56) ?hr ?_;(case hd=>rfl);(case hg=>rfl);(case hr=>exact byaa);intro gb393 hg w22 hbox hb;have n0_:=qA.mk (Kd.vI (byav HO388.out) hb);have n1_:=qA.mk (Kd.vI (Kd.kV (byav HO391.out) gb393 (Nat.le_of_eq hg.symm)) hb);have n2_:=qA.mk (qD.below (bybi HI0.out NB0_384.out) hb);have n3_:=qA.mk (qH (g:=gb384) (o:=.cells #[.int .i64 0,.slice none 0 0,.slice none 0 0] 56 (0,0)) (byaf BK384.out) hb);have n4_:=qA.mk (qK.trans (bybj GW384.out) (qK.of_below hb g none) (.inl rfl));have n5_:=qA.mk (qE (bybk HI0.out GE384.out) hb);have n6_:=qA.mk (hbox);have n7_:=qA.mk ((bycd GW384.out : w.heap.size ≤ gb393));have n8_:=qA.mk ((Nat.le_trans HW0.out (bycd GW384.out : w.heap.size ≤ gb393) : w0.heap.size ≤ gb393));have n9_:=qA.mk ((by rw [hg];exact Nat.ne_of_lt (jF (g:=gb384) (o:=.cells #[.int .i64 0,.slice none 0 0,.slice none 0 0] 56 (0,0)) (byaf BK384.out)) : gb384≠gb393));have n10_:=qA.mk ((by rw [hg];exact Nat.ne_of_gt (jF (g:=gb384) (o:=.cells #[.int .i64 0,.slice none 0 0,.slice none 0 0] 56 (0,0)) (byaf BK384.out)) : gb393≠gb384));have n11_:=qA.mk ((by rw [hg];exact Nat.ne_of_lt (qD.lt (show qD w0 _ g s0_0 t392 from by repeat (first|(with_reducible first|exact HI0.out|apply qD.alloc|apply qD.drewN|apply qD.drew|apply qD.jR|refine qD.far ?_ NB0_384.out _)|exact HI0.out))) : g≠gb393));have n12_:=qA.mk ((by rw [hg];exact Nat.ne_of_gt (qD.lt (show qD w0 _ g s0_0 t392 from by repeat (first|(with_reducible first|exact HI0.out|apply qD.alloc|apply qD.drewN|apply qD.drew|apply qD.jR|refine qD.far ?_ NB0_384.out _)|exact HI0.out))) : gb393≠g));clear HO388;clear HO391;clear HI0;clear BK384;clear HK;clear HB;have HO388:=n0_;have HO391:=n1_;have HI0:=n2_;have BK384:=n3_;have HK:=n4_;have HB:=n5_;have BK393:=n6_;have GW393:=n7_;have GE393:=n8_;have NB384_393:=n9_;have NB393_384:=n10_;have NB0_393:=n11_;have NB393_0:=n12_;clear n0_ n1_ n2_ n3_ n4_ n5_ n6_ n7_ n8_ n9_ n10_ n11_ n12_;clear hb hbox hg;have hnb23:=NB393_384.out;have hnc23:=NB384_393.out;have hnb24:=NB393_0.out;have hnc24:=NB0_393.out;have hcz25_0 : w22.cell? ⟨gb393,0,none⟩ = some (.int .i64 0):=(qC BK393.out 0).trans rfl;have hcz25_1 : w22.cell? ⟨gb393,1,none⟩ = some (.slice none 0 0):=(qC BK393.out 1).trans rfl;have hcz25_2 : w22.cell? ⟨gb393,2,none⟩ = some (.slice none 0 0):=(qC BK393.out 2).trans rfl;have hfz25_0:=qB BK393.out 0;have hfz25_1:=qB BK393.out 1;have hfz25_2:=qB BK393.out 2;obtain ⟨Ao26,co26,eo26⟩:=Kd.jT HO388.out;subst eo26;obtain ⟨Ao27,co27,eo27⟩:=Kd.jT HO391.out;subst eo27)|((with_reducible refine qI (f:=48) rfl ?_);refine zL (some 13) rfl rfl Try.func48 (by kernel_rfl) rfl #[.agg #[.int .i64 t385,.slice Ao26 t386.length co26,.slice Ao27 t389.length co27]] rfl byah ?_;(with_reducible refine (vH.calls k t385 _ _ t386 _ _ t389 t394 _ ?side1 ?side2 ?side3 ?side4 A5.out).mono ?_);(case side1=>refine (Kd.vX (e:=3) (base:=w.heap.size) (ok:=fun k_=>True) (n:=t386.length) (c:=co26) ?_).2.2;exact (by (with_reducible repeat (first|apply Kd.jI|apply Kd.jJ|apply Kd.jM));exact (Kd.zG (Kd.jD (p:=⟨gb393,2,none⟩) (Kd.jD (p:=⟨gb393,1,none⟩) (Kd.jD (p:=⟨gb393,0,none⟩) (Kd.jW HO388.out BK393.out (by decide)) (fun _ hk=>hk.2) (.int .i64 t385)) (fun _ hk=>hk.2) (.slice Ao26 t386.length co26)) (fun _ hk=>hk.2) (.slice Ao27 t389.length co27)) (fun _ h_=>h_.1))));(case side2=>exact bybp HO388.out);(case side3=>refine (Kd.vX (e:=56) (base:=w.heap.size) (ok:=fun k_=>((some k_≠(.slice Ao26 t386.length co26 : Value).ownBlock∧k_≠gb384)∧k_≠gb393)) (n:=t389.length) (c:=co27) ?_).2.2;exact (by (with_reducible repeat (first|apply Kd.jI|apply Kd.jJ|apply Kd.jM));exact (Kd.zG (Kd.jD (p:=⟨gb393,2,none⟩) (Kd.jD (p:=⟨gb393,1,none⟩) (Kd.jD (p:=⟨gb393,0,none⟩) (Kd.zG HO391.out (fun k_ hk=>(⟨hk,hk.2⟩ : _∧k_≠gb393))) (fun _ hk=>hk.2) (.int .i64 t385)) (fun _ hk=>hk.2) (.slice Ao26 t386.length co26)) (fun _ hk=>hk.2) (.slice Ao27 t389.length co27)) (fun _ h_=>h_.1))));(case side4=>exact bybp HO391.out);rintro e w28 ⟨rfl,hb⟩;refine ⟨_,rfl,?_⟩;have n0_:=qA.mk (Kd.vI (by (with_reducible repeat (first|apply Kd.jI|apply Kd.jJ|apply Kd.jM));exact (Kd.zG (Kd.jD (p:=⟨gb393,2,none⟩) (Kd.jD (p:=⟨gb393,1,none⟩) (Kd.jD (p:=⟨gb393,0,none⟩) (Kd.jW HO388.out BK393.out (by decide)) (fun _ hk=>hk.2) (.int .i64 t385)) (fun _ hk=>hk.2) (.slice Ao26 t386.length co26)) (fun _ hk=>hk.2) (.slice Ao27 t389.length co27)) (fun _ h_=>h_.1))) hb);have n1_:=qA.mk (Kd.vI (by (with_reducible repeat (first|apply Kd.jI|apply Kd.jJ|apply Kd.jM));exact (Kd.zG (Kd.jD (p:=⟨gb393,2,none⟩) (Kd.jD (p:=⟨gb393,1,none⟩) (Kd.jD (p:=⟨gb393,0,none⟩) (Kd.zG HO391.out (fun k_ hk=>(⟨hk,hk.2⟩ : _∧k_≠gb393))) (fun _ hk=>hk.2) (.int .i64 t385)) (fun _ hk=>hk.2) (.slice Ao26 t386.length co26)) (fun _ hk=>hk.2) (.slice Ao27 t389.length co27)) (fun _ h_=>h_.1))) hb);have n2_:=qA.mk (qD.below (show qD w0 (((w22.setCell ⟨gb393,0,none⟩ (.int .i64 t385)).setCell ⟨gb393,1,none⟩ (.slice Ao26 t386.length co26)).setCell ⟨gb393,2,none⟩ (.slice Ao27 t389.length co27)) g s0_0 t392 from by repeat (first|(with_reducible first|exact HI0.out|apply qD.alloc|apply qD.drewN|apply qD.drew|apply qD.jR|refine qD.far ?_ NB0_384.out _|refine qD.far ?_ NB0_393.out _)|exact HI0.out)) hb);have n3_:=qA.mk (qH (g:=gb384) (o:=.cells #[.int .i64 0,.slice none 0 0,.slice none 0 0] 56 (0,0)) (byak NB384_393.out BK384.out) hb);have n4_:=qA.mk (qH (g:=gb393) (o:=.cells #[.int .i64 t385,.slice Ao26 t386.length co26,.slice Ao27 t389.length co27] 56 (0,0)) (by (with_reducible repeat (first|refine qG ?_ _|refine qJ ?_|refine qF ?_ _));refine zJ (cs:=#[.int .i64 t385,.slice Ao26 t386.length co26,.slice none 0 0]) ?_ 2 _ rfl;(with_reducible repeat (first|refine qG ?_ _|refine qJ ?_|refine qF ?_ _));refine zJ (cs:=#[.int .i64 t385,.slice none 0 0,.slice none 0 0]) ?_ 1 _ rfl;(with_reducible repeat (first|refine qG ?_ _|refine qJ ?_|refine qF ?_ _));refine zJ (cs:=#[.int .i64 0,.slice none 0 0,.slice none 0 0]) ?_ 0 _ rfl;(with_reducible repeat (first|refine qG ?_ _|refine qJ ?_|refine qF ?_ _));exact BK393.out) hb);have n5_:=qA.mk (qK.trans (bybn GW384.out GW393.out) (qK.of_below hb g none) (.inl rfl));have n6_:=qA.mk (qE (bybm HI0.out GE384.out GE393.out) hb);clear HO388;clear HO391;clear HI0;clear BK384;clear BK393;clear HK;clear HB;have HO388:=n0_;have HO391:=n1_;have HI0:=n2_;have BK384:=n3_;have BK393:=n4_;have HK:=n5_;have HB:=n6_;clear n0_ n1_ n2_ n3_ n4_ n5_ n6_;(try clear hb);(try clear hb2);(try clear hk);(try clear hi))|((with_reducible refine qI (f:=29) rfl ?_);refine zL (some 17) rfl rfl Try.func29 (by kernel_rfl) rfl #[.pointer (some ⟨g,0,none⟩),.int .i64 a1] rfl byah ?_;(with_reducible refine (q8.calls g s0_0 t392 a1 t395 t396 w0 _ ?side1 ?side2 A19.out).mono ?_);(case side1=>exact bybl HI0.out NB0_384.out NB0_393.out);(case side2=>exact bybm HI0.out GE384.out GE393.out);rintro e w29 ⟨rfl,hi,hb,hk⟩;refine ⟨_,rfl,?_⟩;have n0_:=qA.mk (qK.blk hk (g':=gb384) (o:=.cells #[.int .i64 0,.slice none 0 0,.slice none 0 0] 56 (0,0)) (byaf BK384.out) NB384_0.out (by simp));have n1_:=qA.mk (Kd.zG (Kd.vF (qD.apart (show qD w0 _ g s0_0 t392 from by repeat (first|(with_reducible first|exact HI0.out|apply qD.alloc|apply qD.drewN|apply qD.drew|apply qD.jR|refine qD.far ?_ NB0_384.out _|refine qD.far ?_ NB0_393.out _)|exact HI0.out)) (byav HO388.out) (by decide)) hk (fun _ h=>h.2)) (fun _ h=>h.1));have n2_:=qA.mk (Kd.zG (Kd.vF (qD.apart (show qD w0 _ g s0_0 t392 from by repeat (first|(with_reducible first|exact HI0.out|apply qD.alloc|apply qD.drewN|apply qD.drew|apply qD.jR|refine qD.far ?_ NB0_384.out _|refine qD.far ?_ NB0_393.out _)|exact HI0.out)) (byav HO391.out) (by decide)) hk (fun _ h=>h.2)) (fun _ h=>h.1));have n3_:=qA.mk (qK.blk hk (g':=gb393) (o:=.cells #[.int .i64 t385,.slice Ao26 t386.length co26,.slice Ao27 t389.length co27] 56 (0,0)) (byaf BK393.out) NB393_0.out (by simp));have n4_:=qA.mk (qK.trans (bybn GW384.out GW393.out) hk (.inl rfl));have n5_:=qA.mk (hb);have n6_:=qA.mk (hi);clear BK384;clear HO388;clear HO391;clear BK393;clear HK;clear HB;clear HI0;have BK384:=n0_;have HO388:=n1_;have HO391:=n2_;have BK393:=n3_;have HK:=n4_;have HB:=n5_;have HI0:=n6_;clear n0_ n1_ n2_ n3_ n4_ n5_ n6_;(try clear hb);(try clear hb2);(try clear hk);(try clear hi))|((with_reducible refine zK (N:=18) rfl ?_);refine Kd.R_lit (Kd.int .i64) _ 3 ?hg (N:=18) ?hd (xs:=([t395] : List Int)) (inner:=[.int .i64 t395]) (ok:=fun _=>True) (okp:=fun _=>True) ?hr ?hp (fun _ hk=>hk) trivial (Below.refl _ _) (Nat.le_refl _) (by simp) ?_;(case hd=>rfl);(case hg=>rfl);(case hr=>exact byaa);(case hp=>exact (Reps.one (show Kd.M (Kd.int .i64) _ _ _ t395 [.int .i64 t395] from rfl) (Reps.none _ _)));intro v398 w30 ho31 hb hg_ hnew_;clear hg_ hnew_;(first|rw [← Ny397.out] at ho31|(simp only [Int.reduceToNat] at ho31;rw [← Ny397.out] at ho31));have n0_:=qA.mk (Kd.R_elder' (byav HO388.out) (Kd.uD ho31) hb);have n1_:=qA.mk (Kd.R_elder' (byav HO391.out) (Kd.uD ho31) hb);have n2_:=qA.mk (Kd.vR (Kd.R_new' ho31 (Kd.R_lt (byav HO388.out))) (jV (w:=w) (g:=g) (row:=none) (bybn GW384.out GW393.out)));have n3_:=qA.mk (qD.below (bybl HI0.out NB0_384.out NB0_393.out) hb);have n4_:=qA.mk (qH (g:=gb384) (o:=.cells #[.int .i64 0,.slice none 0 0,.slice none 0 0] 56 (0,0)) (byaf BK384.out) hb);have n5_:=qA.mk (qH (g:=gb393) (o:=.cells #[.int .i64 t385,.slice Ao26 t386.length co26,.slice Ao27 t389.length co27] 56 (0,0)) (byaf BK393.out) hb);have n6_:=qA.mk (qK.trans (bybn GW384.out GW393.out) (qK.of_below hb g none) (.inl rfl));have n7_:=qA.mk (qE (bybm HI0.out GE384.out GE393.out) hb);clear HO388;clear HO391;clear HI0;clear BK384;clear BK393;clear HK;clear HB;have HO388:=n0_;have HO391:=n1_;have HO399:=n2_;have HI0:=n3_;have BK384:=n4_;have BK393:=n5_;have HK:=n6_;have HB:=n7_;clear n0_ n1_ n2_ n3_ n4_ n5_ n6_ n7_;clear hb ho31;obtain ⟨Ao32,co32,eo32⟩:=Kd.jT HO399.out;subst eo32;have hnb33:=NB384_0.out;have hnc33:=NB0_384.out;have hcz34_0 : w30.cell? ⟨gb384,0,none⟩ = some (.int .i64 0):=(qC BK384.out 0).trans rfl;have hcz34_1 : w30.cell? ⟨gb384,1,none⟩ = some (.slice none 0 0):=(qC BK384.out 1).trans rfl;have hcz34_2 : w30.cell? ⟨gb384,2,none⟩ = some (.slice none 0 0):=(qC BK384.out 2).trans rfl;have hfz34_0:=qB BK384.out 0;have hfz34_1:=qB BK384.out 1;have hfz34_2:=qB BK384.out 2))
  refine bodyPost_ret (results_cell_row rfl _ _ gb384 56 #[.int .i64 1,.slice Ao32 y397.length co32,.slice none 0 0] (0,0) _ rfl (by (with_reducible repeat (first|refine qG ?_ _|refine qJ ?_|refine qF ?_ _));refine zJ (cs:=#[.int .i64 1,.slice Ao32 y397.length co32,.slice none 0 0]) ?_ 2 _ rfl;(with_reducible repeat (first|refine qG ?_ _|refine qJ ?_|refine qF ?_ _));refine zJ (cs:=#[.int .i64 1,.slice none 0 0,.slice none 0 0]) ?_ 1 _ rfl;(with_reducible repeat (first|refine qG ?_ _|refine qJ ?_|refine qF ?_ _));refine zJ (cs:=#[.int .i64 0,.slice none 0 0,.slice none 0 0]) ?_ 0 _ rfl;(with_reducible repeat (first|refine qG ?_ _|refine qJ ?_|refine qF ?_ _));exact BK384.out) Try.underlying56 rfl (by kernel_rfl)) rfl ?_
  exact ⟨_,_,byac,by (with_reducible repeat (first|apply Kd.jI|apply Kd.jJ|apply Kd.jM));exact Kd.zG (Kd.jD (p:=⟨gb384,2,none⟩) (Kd.jD (p:=⟨gb384,1,none⟩) (Kd.jD (p:=⟨gb384,0,none⟩) (Kd.jW HO399.out BK384.out (by decide)) (fun _ hk=>hk.2) (.int .i64 1)) (fun _ hk=>hk.2) (.slice Ao32 y397.length co32)) (fun _ hk=>hk.2) (.slice none 0 0)) (fun _ hk=>trivial),byau,bybl HI0.out NB0_384.out NB0_393.out,bybm HI0.out GE384.out GE393.out,bybn GW384.out GW393.out⟩
end Go.Proofs.Ytkkbdimegpdbgaa.P
