/- Functions of the program as Lean functions, and the walks that show that the calls answer so; written by a program of this session (a changed print) and by hand. -/
import Derived.Test.YtkkbdimegpdbgaaQdPx0
import Derived.Test.YtkkbdimegpdbgaaQdPx13
import Derived.Test.YtkkbdimegpdbgaaQdPx16
namespace Go.Proofs.Ytkkbdimegpdbgaa.P
open Go.RowKit Go.Proofs.YtkkbdimegpdbgaaW.PrintWords Go.Proofs.YtkkbdimegpdbgaaW.PrintLast Go.Proofs.YtkkbdimegpdbgaaW.PrintMore
attribute [local go_sem] uH uI uQ uR vW vV uF uG
set_option linter.unusedVariables false
set_option linter.unusedSimpArgs false
mutual
def qP.l0 : Nat→Int→Int→List Int→Int→Int→Int→List Int→List (S56)→Option (Bool)
 | 0,_,_,_,_,_,_,_,_=>none
 | k + 1,x1,x5,x14,x15,x16,x498000,x498001,x498002=>if x16 < x15 then (if 0 ≤ x16 then (if x16 < (x14.length : Int) then ((jZ.f x1 (rd x14 x16)).bind fun t500=>(if t500 = true then (qP.l0 k x1 (wrap64 (x5 + 1)) x14 x15 (wrap64 (x16 + 1)) x498000 x498001 x498002) else (qP.l0 k x1 x5 x14 x15 (wrap64 (x16 + 1)) x498000 x498001 x498002))) else (none)) else (none)) else (qP.l1 k x1 x5 x498002 (x498002.length : Int) 0 x498000 x498001 x498002)
def qP.l1 : Nat→Int→Int→List (S56)→Int→Int→Int→List Int→List (S56)→Option (Bool)
 | 0,_,_,_,_,_,_,_,_=>none
 | k + 1,x1,x5,x27,x28,x29,x498000,x498001,x498002=>if x29 < x28 then (if 0 ≤ x29 then (if x29 < (x27.length : Int) then ((qP.f k ((qX x27 x29).f0) ((qX x27 x29).f1) ((qX x27 x29).f2) x1).bind fun t503=>(if t503 = true then (qP.l1 k x1 (wrap64 (x5 + 1)) x27 x28 (wrap64 (x29 + 1)) x498000 x498001 x498002) else (qP.l1 k x1 x5 x27 x28 (wrap64 (x29 + 1)) x498000 x498001 x498002))) else (none)) else (none)) else (some (decide (x5 ≥ x498000)))
def qP.f : Nat→Int→List Int→List (S56)→Int→Option (Bool)
 | 0,_,_,_,_=>none
 | k + 1,a0_0,l0_1,l0_2,a1=>(jK.f a1).bind fun t498=>(if t498 = true then (qP.l0 k a1 0 l0_1 (l0_1.length : Int) 0 a0_0 l0_1 l0_2) else (some false))
end
set_option maxHeartbeats 8000000 in
set_option maxRecDepth 100000 in
theorem qP.calls (k : Nat) : ∀ (a0_0 : Int) (A0_1 : Option Addr) (c0_1 : Nat) (l0_1 : List Int) (A0_2 : Option Addr) (c0_2 : Nat) (l0_2 : List (S56)) (a1 : Int) (r : Bool) (w : World) (hr0_1 : Kd.C (Kd.int .i64) w A0_1 l0_1.length l0_1) (hc0_1 : l0_1.length ≤ c0_1) (hr0_2 : Kd.C k56 w A0_2 l0_2.length l0_2) (hc0_2 : l0_2.length ≤ c0_2) (h : qP.f k a0_0 l0_1 l0_2 a1 = some r),
  Calls Try.prog 46 #[.agg #[.int .i64 a0_0,.slice A0_1 l0_1.length c0_1,.slice A0_2 l0_2.length c0_2],.int .i64 a1] w fun e w'=>e = .returned (.bool r)∧Below w.heap.size w w':=by
 induction k using Nat.strongRecOn with
 | _ k ih =>
 intro a0_0 A0_1 c0_1 l0_1 A0_2 c0_2 l0_2 a1 r w hr0_1 hc0_1 hr0_2 hc0_2 h
 cases k with
 | zero=>exact absurd h (by simp [qP.f])
 | succ k =>
 simp only [qP.f] at h
 have hu56:=Try.underlying56
 have HR0_1:=qA.mk hr0_1
 have HC0_1:=qA.mk hc0_1
 clear hr0_1 hc0_1
 have HR0_2:=qA.mk hr0_2
 have HC0_2:=qA.mk hc0_2
 clear hr0_2 hc0_2
 have HB:=qA.mk (Below.refl w.heap.size w)
 have H : ((jK.f a1).bind fun t498=>(if t498 = true then (qP.l0 k a1 0 l0_1 (l0_1.length : Int) 0 a0_0 l0_1 l0_2) else (some false))) = some r:=h
 clear h
 replace H:=Option.bind_eq_some_iff.mp H
 obtain ⟨t498,A30,H⟩:=H
 replace H : (if t498 = true then (qP.l0 k a1 0 l0_1 (l0_1.length : Int) 0 a0_0 l0_1 l0_2) else (some false)) = some r:=H
 have A3:=qA.mk A30
 clear A30
 by_cases c4 : t498 = true
 ·subst c4
  have H1 : (qP.l0 k a1 0 l0_1 (l0_1.length : Int) 0 a0_0 l0_1 l0_2) = some r:=by rw [if_pos rfl] at H;exact H
  clear H
  have H:=H1
  clear H1
  have H':=qA.mk H
  clear H
  go_enter Try.func46,Try.ntmps46
  go_wp2_with (first|((with_reducible refine zK (N:=2) rfl ?_);refine q9 ?hg (N:=2) ?hd (cs:=#[.int .i64 a0_0,.slice A0_1 l0_1.length c0_1,.slice A0_2 l0_2.length c0_2]) (t:=56) ?hr ?_;(case hd=>rfl);(case hg=>rfl);(case hr=>exact byaa);intro gb497 hg w5 hbox hb;have n0_:=qA.mk (qE byab hb);have n1_:=qA.mk (hbox);have n2_:=qA.mk ((byby : w.heap.size ≤ gb497));have n3_:=qA.mk ((byby : w.heap.size ≤ gb497));clear HB;have HB:=n0_;have BK497:=n1_;have GW497:=n2_;have GE497:=n3_;clear n0_ n1_ n2_ n3_;clear hb hbox hg)|((with_reducible refine qI (f:=43) rfl ?_);refine zL (some 11) rfl rfl Try.func43 (by kernel_rfl) rfl #[.int .i64 a1] rfl byah ?_;(with_reducible refine (jK.calls a1 true _ A3.out).mono ?_);rintro e w' ⟨rfl,⟨nd,rfl⟩⟩;refine ⟨_,rfl,?_⟩;have hcz6_0 : w5.cell? ⟨gb497,0,none⟩ = some (.int .i64 a0_0):=(qC BK497.out 0).trans rfl;have hcz6_1 : w5.cell? ⟨gb497,1,none⟩ = some (.slice A0_1 l0_1.length c0_1):=(qC BK497.out 1).trans rfl;have hcz6_2 : w5.cell? ⟨gb497,2,none⟩ = some (.slice A0_2 l0_2.length c0_2):=(qC BK497.out 2).trans rfl;have hfz6_0:=qB BK497.out 0;have hfz6_1:=qB BK497.out 1;have hfz6_2:=qB BK497.out 2))
  go_loopg [5,16] k (fun kq v5 v16 w'=>∃ (x5_1 : Int) (x16_1 : Int),v5 = .int .i64 x5_1∧v16 = .int .i64 x16_1∧qA (qP.l0 kq a1 x5_1 l0_1 (l0_1.length : Int) x16_1 a0_0 l0_1 l0_2 = some r)∧qA (kq ≤ k)∧qA (w'.heap[gb497]? = some (.cells #[.int .i64 a0_0,(.slice A0_1 l0_1.length c0_1),(.slice A0_2 l0_2.length c0_2)] 56 (0,0)))∧qA (Below w.heap.size w w'))
  case atStart=>exact ⟨(0),(0),byae,byae,H',⟨Nat.le_refl _⟩,⟨byaf BK497.out⟩,⟨byad GE497.out⟩⟩
  case round =>
   clear H'
   try clear p2
   try clear c4
   try clear hcz6_0
   try clear hcz6_1
   try clear hcz6_2
   try clear hfz6_0
   try clear hfz6_1
   try clear hfz6_2
   obtain ⟨x5_1,x16_1,rfl,rfl,HA,HK1,BK497,HB⟩:=hrel
   cases gk with
   | zero=>exact absurd HA.out (by simp [qP.l0])
   | succ k1 =>
    have H:=HA.out
    clear HA
    simp only [qP.l0] at H
    by_cases c7 : x16_1 < (l0_1.length : Int)
    ·rw [if_pos c7] at H
     have c7b0 : decide (x16_1 < (l0_1.length : Int)) = true:=decide_eq_true c7
     clear c7
     by_cases c8 : 0 ≤ x16_1
     ·rw [if_pos c8] at H
      have c8b0 : decide (0 ≤ x16_1) = true:=decide_eq_true c8
      clear c8
      by_cases c9 : x16_1 < (l0_1.length : Int)
      ·rw [if_pos c9] at H
       have c9b0 : decide (x16_1 < (l0_1.length : Int)) = true:=decide_eq_true c9
       clear c9
       replace H:=Option.bind_eq_some_iff.mp H
       obtain ⟨t500,A100,H⟩:=H
       replace H : (if t500 = true then (qP.l0 k1 a1 (wrap64 (x5_1 + 1)) l0_1 (l0_1.length : Int) (wrap64 (x16_1 + 1)) a0_0 l0_1 l0_2) else (qP.l0 k1 a1 x5_1 l0_1 (l0_1.length : Int) (wrap64 (x16_1 + 1)) a0_0 l0_1 l0_2)) = some r:=H
       have A10:=qA.mk A100
       clear A100
       by_cases c11 : t500 = true
       ·subst c11
        have H1 : (qP.l0 k1 a1 (wrap64 (x5_1 + 1)) l0_1 (l0_1.length : Int) (wrap64 (x16_1 + 1)) a0_0 l0_1 l0_2) = some r:=by rw [if_pos rfl] at H;exact H
        clear H
        have H:=H1
        clear H1
        have H':=qA.mk H
        clear H
        have p499 : 0 ≤ (x16_1 : Int):=of_decide_eq_true byag
        have q499 : x16_1 < (l0_1.length : Int):=of_decide_eq_true byag
        obtain ⟨ad499,e499,hx499_0⟩:=Kd.uV HR0_1.out x16_1 p499 q499
        cases e499
        replace hx499_0:=(HB.out.cell (World.block_lt_of_cell? w _ hx499_0)).trans hx499_0
        replace p499:=eq_true p499
        replace q499:=eq_true q499
        go_wp2_with (first|((with_reducible refine qI (f:=63) rfl ?_);refine zL (some 22) rfl rfl Try.func63 (by kernel_rfl) rfl #[.int .i64 a1,.int .i64 (rd l0_1 x16_1)] rfl byah ?_;(with_reducible refine (jZ.calls a1 (rd l0_1 x16_1) true _ A10.out).mono ?_);rintro e w' ⟨rfl,⟨nd,rfl⟩⟩;refine ⟨_,rfl,?_⟩))
        go_roundg k1
        case measure=>have:=HK1.out;omega
        case rel=>exact ⟨(wrap64 (x5_1 + 1)),(wrap64 (x16_1 + 1)),byae,byae,H',⟨byai⟩,⟨byaf BK497.out⟩,⟨byad GE497.out⟩⟩
       ·replace c11:=Bool.eq_false_iff.mpr c11
        subst c11
        have H1 : (qP.l0 k1 a1 x5_1 l0_1 (l0_1.length : Int) (wrap64 (x16_1 + 1)) a0_0 l0_1 l0_2) = some r:=by rw [if_neg (show ¬ (false = true) by decide)] at H;exact H
        clear H
        have H:=H1
        clear H1
        have H':=qA.mk H
        clear H
        have p499 : 0 ≤ (x16_1 : Int):=of_decide_eq_true byag
        have q499 : x16_1 < (l0_1.length : Int):=of_decide_eq_true byag
        obtain ⟨ad499,e499,hx499_0⟩:=Kd.uV HR0_1.out x16_1 p499 q499
        cases e499
        replace hx499_0:=(HB.out.cell (World.block_lt_of_cell? w _ hx499_0)).trans hx499_0
        replace p499:=eq_true p499
        replace q499:=eq_true q499
        go_wp2_with (first|((with_reducible refine qI (f:=63) rfl ?_);refine zL (some 22) rfl rfl Try.func63 (by kernel_rfl) rfl #[.int .i64 a1,.int .i64 (rd l0_1 x16_1)] rfl byah ?_;(with_reducible refine (jZ.calls a1 (rd l0_1 x16_1) false _ A10.out).mono ?_);rintro e w' ⟨rfl,⟨nd,rfl⟩⟩;refine ⟨_,rfl,?_⟩))
        go_roundg k1
        case measure=>have:=HK1.out;omega
        case rel=>exact ⟨(x5_1),(wrap64 (x16_1 + 1)),byae,byae,H',⟨byai⟩,⟨byaf BK497.out⟩,⟨byad GE497.out⟩⟩
      ·rw [if_neg c9] at H
       exact absurd H (by simp)
     ·rw [if_neg c8] at H
      exact absurd H (by simp)
    ·rw [if_neg c7] at H
     have c7b0 : decide (x16_1 < (l0_1.length : Int)) = false:=decide_eq_false c7
     clear c7
     have H':=qA.mk H
     clear H
     have hcz12_0 : wr.cell? ⟨gb497,0,none⟩ = some (.int .i64 a0_0):=(qC BK497.out 0).trans rfl
     have hcz12_1 : wr.cell? ⟨gb497,1,none⟩ = some (.slice A0_1 l0_1.length c0_1):=(qC BK497.out 1).trans rfl
     have hcz12_2 : wr.cell? ⟨gb497,2,none⟩ = some (.slice A0_2 l0_2.length c0_2):=(qC BK497.out 2).trans rfl
     have hfz12_0:=qB BK497.out 0
     have hfz12_1:=qB BK497.out 1
     have hfz12_2:=qB BK497.out 2
     go_wp2
     go_loopg [5,29] k1 (fun kq v5 v29 w'=>∃ (x5_2 : Int) (x29_2 : Int),v5 = .int .i64 x5_2∧v29 = .int .i64 x29_2∧qA (qP.l1 kq a1 x5_2 l0_2 (l0_2.length : Int) x29_2 a0_0 l0_1 l0_2 = some r)∧qA (kq ≤ k1)∧qA (w'.heap[gb497]? = some (.cells #[.int .i64 a0_0,(.slice A0_1 l0_1.length c0_1),(.slice A0_2 l0_2.length c0_2)] 56 (0,0)))∧qA (Below w.heap.size w w'))
     case atStart=>exact ⟨(x5_1),(0),byae,byae,H',⟨Nat.le_refl _⟩,⟨byaf BK497.out⟩,⟨byad GE497.out⟩⟩
     case round =>
      clear H'
      try clear c1
      try clear p2
      try clear c4
      try clear p4
      try clear q4
      try clear hx4
      try clear c6
      try clear p6
      try clear c7
      try clear c7b0
      try clear c8
      try clear c8b0
      try clear c9
      try clear c9b0
      try clear c11
      try clear hcz12_0
      try clear hcz12_1
      try clear hcz12_2
      try clear hcz6_0
      try clear hcz6_1
      try clear hcz6_2
      try clear hfz12_0
      try clear hfz12_1
      try clear hfz12_2
      try clear hfz6_0
      try clear hfz6_1
      try clear hfz6_2
      try clear hx499_0
      try clear p2
      try clear p499
      try clear q499
      obtain ⟨x5_2,x29_2,rfl,rfl,HA,HK2,BK497,HB⟩:=hrel
      cases gk with
      | zero=>exact absurd HA.out (by simp [qP.l1])
      | succ k2 =>
       have H:=HA.out
       clear HA
       simp only [qP.l1] at H
       by_cases c13 : x29_2 < (l0_2.length : Int)
       ·rw [if_pos c13] at H
        have c13b0 : decide (x29_2 < (l0_2.length : Int)) = true:=decide_eq_true c13
        clear c13
        by_cases c14 : 0 ≤ x29_2
        ·rw [if_pos c14] at H
         have c14b0 : decide (0 ≤ x29_2) = true:=decide_eq_true c14
         clear c14
         by_cases c15 : x29_2 < (l0_2.length : Int)
         ·rw [if_pos c15] at H
          have c15b0 : decide (x29_2 < (l0_2.length : Int)) = true:=decide_eq_true c15
          clear c15
          replace H:=Option.bind_eq_some_iff.mp H
          obtain ⟨t503,A160,H⟩:=H
          replace H : (if t503 = true then (qP.l1 k2 a1 (wrap64 (x5_2 + 1)) l0_2 (l0_2.length : Int) (wrap64 (x29_2 + 1)) a0_0 l0_1 l0_2) else (qP.l1 k2 a1 x5_2 l0_2 (l0_2.length : Int) (wrap64 (x29_2 + 1)) a0_0 l0_1 l0_2)) = some r:=H
          have A16:=qA.mk A160
          clear A160
          by_cases c17 : t503 = true
          ·subst c17
           have H1 : (qP.l1 k2 a1 (wrap64 (x5_2 + 1)) l0_2 (l0_2.length : Int) (wrap64 (x29_2 + 1)) a0_0 l0_1 l0_2) = some r:=by rw [if_pos rfl] at H;exact H
           clear H
           have H:=H1
           clear H1
           have H':=qA.mk H
           clear H
           have p501 : 0 ≤ (x29_2 : Int):=of_decide_eq_true byag
           have q501 : x29_2 < (l0_2.length : Int):=of_decide_eq_true byag
           obtain ⟨ad501,A501_1,c501_1,A501_2,c501_2,e501,hx501_0,hx501_1,hx501_2,hl501_1,hi501_1,hl501_2,hi501_2⟩:=kW HR0_2.out x29_2 p501 q501
           cases e501
           replace hx501_0:=(HB.out.cell (World.block_lt_of_cell? w _ hx501_0)).trans hx501_0
           replace hx501_1:=(HB.out.cell (World.block_lt_of_cell? w _ hx501_1)).trans hx501_1
           replace hx501_2:=(HB.out.cell (World.block_lt_of_cell? w _ hx501_2)).trans hx501_2
           have HR501_1:=qA.mk hi501_1
           have HC501_1:=qA.mk hl501_1
           clear hi501_1 hl501_1
           have HR501_2:=qA.mk hi501_2
           have HC501_2:=qA.mk hl501_2
           clear hi501_2 hl501_2
           replace p501:=eq_true p501
           replace q501:=eq_true q501
           go_wp2_with (first|((with_reducible refine zK (N:=9) rfl ?_);refine q9 ?hg (N:=9) ?hd (cs:=#[.int .i64 0,.slice none 0 0,.slice none 0 0]) (t:=56) ?hr ?_;(case hd=>rfl);(case hg=>rfl);(case hr=>exact byaa);intro gb502 hg w18 hbox hb;have n0_:=qA.mk (qH (g:=gb497) (o:=.cells #[.int .i64 a0_0,.slice A0_1 l0_1.length c0_1,.slice (some ad501) l0_2.length c0_2] 56 (0,0)) (byaf BK497.out) hb);have n1_:=qA.mk (qE (byad GE497.out) hb);have n2_:=qA.mk (hbox);have n3_:=qA.mk ((bybz GE497.out : w.heap.size ≤ gb502));have n4_:=qA.mk ((bybz GE497.out : w.heap.size ≤ gb502));have n5_:=qA.mk ((by rw [hg];exact Nat.ne_of_lt (jF (g:=gb497) (o:=.cells #[.int .i64 a0_0,.slice A0_1 l0_1.length c0_1,.slice (some ad501) l0_2.length c0_2] 56 (0,0)) (byaf BK497.out)) : gb497≠gb502));have n6_:=qA.mk ((by rw [hg];exact Nat.ne_of_gt (jF (g:=gb497) (o:=.cells #[.int .i64 a0_0,.slice A0_1 l0_1.length c0_1,.slice (some ad501) l0_2.length c0_2] 56 (0,0)) (byaf BK497.out)) : gb502≠gb497));clear BK497;clear HB;have BK497:=n0_;have HB:=n1_;have BK502:=n2_;have GW502:=n3_;have GE502:=n4_;have NB497_502:=n5_;have NB502_497:=n6_;clear n0_ n1_ n2_ n3_ n4_ n5_ n6_;clear hb hbox hg;have hnb19:=NB502_497.out;have hnc19:=NB497_502.out;have hcz20_0 : w18.cell? ⟨gb502,0,none⟩ = some (.int .i64 0):=(qC BK502.out 0).trans rfl;have hcz20_1 : w18.cell? ⟨gb502,1,none⟩ = some (.slice none 0 0):=(qC BK502.out 1).trans rfl;have hcz20_2 : w18.cell? ⟨gb502,2,none⟩ = some (.slice none 0 0):=(qC BK502.out 2).trans rfl;have hfz20_0:=qB BK502.out 0;have hfz20_1:=qB BK502.out 1;have hfz20_2:=qB BK502.out 2)|((with_reducible refine qI (f:=46) rfl ?_);refine zL (some 35) rfl rfl Try.func46 (by kernel_rfl) rfl #[.agg #[.int .i64 ((qX l0_2 x29_2).f0),.slice A501_1 ((qX l0_2 x29_2).f1).length c501_1,.slice A501_2 ((qX l0_2 x29_2).f2).length c501_2],.int .i64 a1] rfl byah ?_;(with_reducible refine (ih k2 byar ((qX l0_2 x29_2).f0) _ _ ((qX l0_2 x29_2).f1) _ _ ((qX l0_2 x29_2).f2) a1 true _ ?side1 ?side2 ?side3 ?side4 A16.out).mono ?_);(case side1=>exact Kd.vK HR501_1.out (byaj GE497.out GE502.out));(case side2=>exact HC501_1.out);(case side3=>exact Kd.vK HR501_2.out (byaj GE497.out GE502.out));(case side4=>exact HC501_2.out);rintro e w21 ⟨rfl,hb⟩;refine ⟨_,rfl,?_⟩;have n0_:=qA.mk (qH (g:=gb497) (o:=.cells #[.int .i64 a0_0,.slice A0_1 l0_1.length c0_1,.slice (some ad501) l0_2.length c0_2] 56 (0,0)) (byak NB497_502.out BK497.out) hb);have n1_:=qA.mk (qH (g:=gb502) (o:=.cells #[.int .i64 ((qX l0_2 x29_2).f0),.slice A501_1 ((qX l0_2 x29_2).f1).length c501_1,.slice A501_2 ((qX l0_2 x29_2).f2).length c501_2] 56 (0,0)) (by (with_reducible repeat (first|refine qG ?_ _|refine qJ ?_|refine qF ?_ _));refine zJ (cs:=#[.int .i64 ((qX l0_2 x29_2).f0),.slice A501_1 ((qX l0_2 x29_2).f1).length c501_1,.slice none 0 0]) ?_ 2 _ rfl;(with_reducible repeat (first|refine qG ?_ _|refine qJ ?_|refine qF ?_ _));refine zJ (cs:=#[.int .i64 ((qX l0_2 x29_2).f0),.slice none 0 0,.slice none 0 0]) ?_ 1 _ rfl;(with_reducible repeat (first|refine qG ?_ _|refine qJ ?_|refine qF ?_ _));refine zJ (cs:=#[.int .i64 0,.slice none 0 0,.slice none 0 0]) ?_ 0 _ rfl;(with_reducible repeat (first|refine qG ?_ _|refine qJ ?_|refine qF ?_ _));exact BK502.out) hb);have n2_:=qA.mk (qE (byaj GE497.out GE502.out) hb);clear BK497;clear BK502;clear HB;have BK497:=n0_;have BK502:=n1_;have HB:=n2_;clear n0_ n1_ n2_;(try clear hb);(try clear hb2);(try clear hk);(try clear hi)))
           go_roundg k2
           case measure=>have:=HK1.out;have:=HK2.out;omega
           case rel=>exact ⟨(wrap64 (x5_2 + 1)),(wrap64 (x29_2 + 1)),byae,byae,H',⟨byar⟩,⟨byaf BK497.out⟩,⟨byaj GE497.out GE502.out⟩⟩
          ·replace c17:=Bool.eq_false_iff.mpr c17
           subst c17
           have H1 : (qP.l1 k2 a1 x5_2 l0_2 (l0_2.length : Int) (wrap64 (x29_2 + 1)) a0_0 l0_1 l0_2) = some r:=by rw [if_neg (show ¬ (false = true) by decide)] at H;exact H
           clear H
           have H:=H1
           clear H1
           have H':=qA.mk H
           clear H
           have p501 : 0 ≤ (x29_2 : Int):=of_decide_eq_true byag
           have q501 : x29_2 < (l0_2.length : Int):=of_decide_eq_true byag
           obtain ⟨ad501,A501_1,c501_1,A501_2,c501_2,e501,hx501_0,hx501_1,hx501_2,hl501_1,hi501_1,hl501_2,hi501_2⟩:=kW HR0_2.out x29_2 p501 q501
           cases e501
           replace hx501_0:=(HB.out.cell (World.block_lt_of_cell? w _ hx501_0)).trans hx501_0
           replace hx501_1:=(HB.out.cell (World.block_lt_of_cell? w _ hx501_1)).trans hx501_1
           replace hx501_2:=(HB.out.cell (World.block_lt_of_cell? w _ hx501_2)).trans hx501_2
           have HR501_1:=qA.mk hi501_1
           have HC501_1:=qA.mk hl501_1
           clear hi501_1 hl501_1
           have HR501_2:=qA.mk hi501_2
           have HC501_2:=qA.mk hl501_2
           clear hi501_2 hl501_2
           replace p501:=eq_true p501
           replace q501:=eq_true q501
           go_wp2_with (first|((with_reducible refine zK (N:=9) rfl ?_);refine q9 ?hg (N:=9) ?hd (cs:=#[.int .i64 0,.slice none 0 0,.slice none 0 0]) (t:=56) ?hr ?_;(case hd=>rfl);(case hg=>rfl);(case hr=>exact byaa);intro gb502 hg w22 hbox hb;have n0_:=qA.mk (qH (g:=gb497) (o:=.cells #[.int .i64 a0_0,.slice A0_1 l0_1.length c0_1,.slice (some ad501) l0_2.length c0_2] 56 (0,0)) (byaf BK497.out) hb);have n1_:=qA.mk (qE (byad GE497.out) hb);have n2_:=qA.mk (hbox);have n3_:=qA.mk ((bybz GE497.out : w.heap.size ≤ gb502));have n4_:=qA.mk ((bybz GE497.out : w.heap.size ≤ gb502));have n5_:=qA.mk ((by rw [hg];exact Nat.ne_of_lt (jF (g:=gb497) (o:=.cells #[.int .i64 a0_0,.slice A0_1 l0_1.length c0_1,.slice (some ad501) l0_2.length c0_2] 56 (0,0)) (byaf BK497.out)) : gb497≠gb502));have n6_:=qA.mk ((by rw [hg];exact Nat.ne_of_gt (jF (g:=gb497) (o:=.cells #[.int .i64 a0_0,.slice A0_1 l0_1.length c0_1,.slice (some ad501) l0_2.length c0_2] 56 (0,0)) (byaf BK497.out)) : gb502≠gb497));clear BK497;clear HB;have BK497:=n0_;have HB:=n1_;have BK502:=n2_;have GW502:=n3_;have GE502:=n4_;have NB497_502:=n5_;have NB502_497:=n6_;clear n0_ n1_ n2_ n3_ n4_ n5_ n6_;clear hb hbox hg;have hnb23:=NB502_497.out;have hnc23:=NB497_502.out;have hcz24_0 : w22.cell? ⟨gb502,0,none⟩ = some (.int .i64 0):=(qC BK502.out 0).trans rfl;have hcz24_1 : w22.cell? ⟨gb502,1,none⟩ = some (.slice none 0 0):=(qC BK502.out 1).trans rfl;have hcz24_2 : w22.cell? ⟨gb502,2,none⟩ = some (.slice none 0 0):=(qC BK502.out 2).trans rfl;have hfz24_0:=qB BK502.out 0;have hfz24_1:=qB BK502.out 1;have hfz24_2:=qB BK502.out 2)|((with_reducible refine qI (f:=46) rfl ?_);refine zL (some 35) rfl rfl Try.func46 (by kernel_rfl) rfl #[.agg #[.int .i64 ((qX l0_2 x29_2).f0),.slice A501_1 ((qX l0_2 x29_2).f1).length c501_1,.slice A501_2 ((qX l0_2 x29_2).f2).length c501_2],.int .i64 a1] rfl byah ?_;(with_reducible refine (ih k2 byar ((qX l0_2 x29_2).f0) _ _ ((qX l0_2 x29_2).f1) _ _ ((qX l0_2 x29_2).f2) a1 false _ ?side1 ?side2 ?side3 ?side4 A16.out).mono ?_);(case side1=>exact Kd.vK HR501_1.out (byaj GE497.out GE502.out));(case side2=>exact HC501_1.out);(case side3=>exact Kd.vK HR501_2.out (byaj GE497.out GE502.out));(case side4=>exact HC501_2.out);rintro e w25 ⟨rfl,hb⟩;refine ⟨_,rfl,?_⟩;have n0_:=qA.mk (qH (g:=gb497) (o:=.cells #[.int .i64 a0_0,.slice A0_1 l0_1.length c0_1,.slice (some ad501) l0_2.length c0_2] 56 (0,0)) (byak NB497_502.out BK497.out) hb);have n1_:=qA.mk (qH (g:=gb502) (o:=.cells #[.int .i64 ((qX l0_2 x29_2).f0),.slice A501_1 ((qX l0_2 x29_2).f1).length c501_1,.slice A501_2 ((qX l0_2 x29_2).f2).length c501_2] 56 (0,0)) (by (with_reducible repeat (first|refine qG ?_ _|refine qJ ?_|refine qF ?_ _));refine zJ (cs:=#[.int .i64 ((qX l0_2 x29_2).f0),.slice A501_1 ((qX l0_2 x29_2).f1).length c501_1,.slice none 0 0]) ?_ 2 _ rfl;(with_reducible repeat (first|refine qG ?_ _|refine qJ ?_|refine qF ?_ _));refine zJ (cs:=#[.int .i64 ((qX l0_2 x29_2).f0),.slice none 0 0,.slice none 0 0]) ?_ 1 _ rfl;(with_reducible repeat (first|refine qG ?_ _|refine qJ ?_|refine qF ?_ _));refine zJ (cs:=#[.int .i64 0,.slice none 0 0,.slice none 0 0]) ?_ 0 _ rfl;(with_reducible repeat (first|refine qG ?_ _|refine qJ ?_|refine qF ?_ _));exact BK502.out) hb);have n2_:=qA.mk (qE (byaj GE497.out GE502.out) hb);clear BK497;clear BK502;clear HB;have BK497:=n0_;have BK502:=n1_;have HB:=n2_;clear n0_ n1_ n2_;(try clear hb);(try clear hb2);(try clear hk);(try clear hi)))
           go_roundg k2
           case measure=>have:=HK1.out;have:=HK2.out;omega
           case rel=>exact ⟨(x5_2),(wrap64 (x29_2 + 1)),byae,byae,H',⟨byar⟩,⟨byaf BK497.out⟩,⟨byaj GE497.out GE502.out⟩⟩
         ·rw [if_neg c15] at H
          exact absurd H (by simp)
        ·rw [if_neg c14] at H
         exact absurd H (by simp)
       ·rw [if_neg c13] at H
        have c13b0 : decide (x29_2 < (l0_2.length : Int)) = false:=decide_eq_false c13
        clear c13
        obtain rfl:=Option.some.inj H
        have hcz26_0 : wr.cell? ⟨gb497,0,none⟩ = some (.int .i64 a0_0):=(qC BK497.out 0).trans rfl
        have hcz26_1 : wr.cell? ⟨gb497,1,none⟩ = some (.slice A0_1 l0_1.length c0_1):=(qC BK497.out 1).trans rfl
        have hcz26_2 : wr.cell? ⟨gb497,2,none⟩ = some (.slice A0_2 l0_2.length c0_2):=(qC BK497.out 2).trans rfl
        have hfz26_0:=qB BK497.out 0
        have hfz26_1:=qB BK497.out 1
        have hfz26_2:=qB BK497.out 2
        go_wp2
        go_ret
        exact ⟨byac,byad GE497.out⟩
 ·replace c4:=Bool.eq_false_iff.mpr c4
  subst c4
  have H1 : (some false) = some r:=by rw [if_neg (show ¬ (false = true) by decide)] at H;exact H
  clear H
  have H:=H1
  clear H1
  obtain rfl:=Option.some.inj H
  go_enter Try.func46,Try.ntmps46
  go_wp2_with (first|((with_reducible refine zK (N:=2) rfl ?_);refine q9 ?hg (N:=2) ?hd (cs:=#[.int .i64 a0_0,.slice A0_1 l0_1.length c0_1,.slice A0_2 l0_2.length c0_2]) (t:=56) ?hr ?_;(case hd=>rfl);(case hg=>rfl);(case hr=>exact byaa);intro gb497 hg w27 hbox hb;have n0_:=qA.mk (qE byab hb);have n1_:=qA.mk (hbox);have n2_:=qA.mk ((byby : w.heap.size ≤ gb497));have n3_:=qA.mk ((byby : w.heap.size ≤ gb497));clear HB;have HB:=n0_;have BK497:=n1_;have GW497:=n2_;have GE497:=n3_;clear n0_ n1_ n2_ n3_;clear hb hbox hg)|((with_reducible refine qI (f:=43) rfl ?_);refine zL (some 11) rfl rfl Try.func43 (by kernel_rfl) rfl #[.int .i64 a1] rfl byah ?_;(with_reducible refine (jK.calls a1 false _ A3.out).mono ?_);rintro e w' ⟨rfl,⟨nd,rfl⟩⟩;refine ⟨_,rfl,?_⟩))
  go_ret
  exact ⟨byac,byad GE497.out⟩
mutual
def qM.j0 : Nat→Int→Bool→List (S58)→Option (Bool)
 | 0,_,_,_=>none
 | k + 1,x1,x21,x505000=>if x21 = true then (some false) else ((jE.f k x1).bind fun t507=>(qM.l0 k x1 t507 (t507.length : Int) 0 x505000))
def qM.l0 : Nat→Int→List Int→Int→Int→List (S58)→Option (Bool)
 | 0,_,_,_,_,_=>none
 | k + 1,x1,x23,x24,x25,x505000=>if x25 < x24 then (if 0 ≤ x25 then (if x25 < (x23.length : Int) then (if 0 ≤ (rd x23 x25) then (if (rd x23 x25) < (x505000.length : Int) then ((qP.f k ((jO x505000 (rd x23 x25)).f1.f0) ((jO x505000 (rd x23 x25)).f1.f1) ((jO x505000 (rd x23 x25)).f1.f2) x1).bind fun t512=>(if t512 = true then (qM.l0 k x1 x23 x24 (wrap64 (x25 + 1)) x505000) else (some false))) else (none)) else (none)) else (none)) else (none)) else (some true)
end
def qM.f (k : Nat) (l0_0 : List (S58)) (a1 : Int) : Option (Bool):=(jK.f a1).bind fun t505=>(if t505 = true then (if a1 = 0 then (qM.j0 k a1 true l0_0) else ((zM.f k l0_0).bind fun t506=>(qM.j0 k a1 ((Go.bits .and .i64 a1 t506) != a1) l0_0))) else (qM.j0 k a1 true l0_0))
set_option maxHeartbeats 8000000 in
set_option maxRecDepth 100000 in
theorem qM.calls (k : Nat) (A0_0 : Option Addr) (c0_0 : Nat) (l0_0 : List (S58)) (a1 : Int) (r : Bool) (w : World) (hr0_0 : Kd.C k58 w A0_0 l0_0.length l0_0) (hc0_0 : l0_0.length ≤ c0_0) (h : qM.f k l0_0 a1 = some r) :
  Calls Try.prog 24 #[.agg #[.slice A0_0 l0_0.length c0_0],.int .i64 a1] w fun e w'=>e = .returned (.bool r)∧Below w.heap.size w w':=by
 have hu25:=Try.underlying25
 have hu56:=Try.underlying56
 have HR0_0:=qA.mk hr0_0
 have HC0_0:=qA.mk hc0_0
 clear hr0_0 hc0_0
 have HB:=qA.mk (Below.refl w.heap.size w)
 have H : ((jK.f a1).bind fun t505=>(if t505 = true then (if a1 = 0 then (qM.j0 k a1 true l0_0) else ((zM.f k l0_0).bind fun t506=>(qM.j0 k a1 ((Go.bits .and .i64 a1 t506) != a1) l0_0))) else (qM.j0 k a1 true l0_0))) = some r:=h
 clear h
 have HC3:=qA.mk H
 clear H
 go_enter Try.func24,Try.ntmps24
 go_upto_region 1 with (first|((with_reducible refine zK (N:=2) rfl ?_);refine q9 ?hg (N:=2) ?hd (cs:=#[.slice A0_0 l0_0.length c0_0]) (t:=25) ?hr ?_;(case hd=>rfl);(case hg=>rfl);(case hr=>exact byaa);intro gb504 hg w4 hbox hb;have n0_:=qA.mk (qE byab hb);have n1_:=qA.mk (hbox);have n2_:=qA.mk ((byby : w.heap.size ≤ gb504));have n3_:=qA.mk ((byby : w.heap.size ≤ gb504));clear HB;have HB:=n0_;have BK504:=n1_;have GW504:=n2_;have GE504:=n3_;clear n0_ n1_ n2_ n3_;clear hb hbox hg))
 (try simp only [Act.put,List.setIfInBounds_toArray,List.set_cons_zero,List.set_cons_succ])
 go_cut [21] (fun v21 wc=>∃ (kq : Nat) (x21_2 : Bool),v21 = .bool x21_2∧qA (qM.j0 kq a1 x21_2 l0_0 = some r)∧qA (kq ≤ k)∧qA (wc.heap[gb504]? = some (.cells #[(.slice A0_0 l0_0.length c0_0)] 25 (0,0)))∧qA (Below w.heap.size w wc))
 case first =>
  have H:=HC3.out
  clear HC3
  replace H:=Option.bind_eq_some_iff.mp H
  obtain ⟨t505,A50,H⟩:=H
  replace H : (if t505 = true then (if a1 = 0 then (qM.j0 k a1 true l0_0) else ((zM.f k l0_0).bind fun t506=>(qM.j0 k a1 ((Go.bits .and .i64 a1 t506) != a1) l0_0))) else (qM.j0 k a1 true l0_0)) = some r:=H
  have A5:=qA.mk A50
  clear A50
  by_cases c6 : t505 = true
  ·subst c6
   have H1 : (if a1 = 0 then (qM.j0 k a1 true l0_0) else ((zM.f k l0_0).bind fun t506=>(qM.j0 k a1 ((Go.bits .and .i64 a1 t506) != a1) l0_0))) = some r:=by rw [if_pos rfl] at H;exact H
   clear H
   have H:=H1
   clear H1
   by_cases c7 : a1 = 0
   ·rw [if_pos c7] at H
    have c7b0 : (a1 == 0) = true:=beq_iff_eq.mpr c7
    have c7b1 : (a1 != 0) = false:=bne_eq_false_iff_eq.mpr c7
    clear c7
    (first|rw [c7b0]|(simp only [qY,zA];rw [c7b0])|skip)
    have H':=qA.mk H
    clear H
    go_wp2_with (first|((with_reducible refine qI (f:=43) rfl ?_);refine zL (some 8) rfl rfl Try.func43 (by kernel_rfl) rfl #[.int .i64 a1] rfl byah ?_;(with_reducible refine (jK.calls a1 true _ A5.out).mono ?_);rintro e w' ⟨rfl,⟨nd,rfl⟩⟩;refine ⟨_,rfl,?_⟩))
    go_meet
    case rel=>exact ⟨_,(true),byae,H',⟨byap⟩,⟨byaf BK504.out⟩,⟨byad GE504.out⟩⟩
   ·rw [if_neg c7] at H
    have c7b0 : (a1 == 0) = false:=beq_eq_false_iff_ne.mpr c7
    have c7b1 : (a1 != 0) = true:=bne_iff_ne.mpr c7
    (first|rw [c7b0]|(simp only [qY,zA];rw [c7b0])|skip)
    replace H:=Option.bind_eq_some_iff.mp H
    obtain ⟨t506,A80,H⟩:=H
    replace H : (qM.j0 k a1 ((Go.bits .and .i64 a1 t506) != a1) l0_0) = some r:=H
    have A8:=qA.mk A80
    clear A80
    have H':=qA.mk H
    clear H
    go_wp2_with (first|((with_reducible refine qI (f:=43) rfl ?_);refine zL (some 8) rfl rfl Try.func43 (by kernel_rfl) rfl #[.int .i64 a1] rfl byah ?_;(with_reducible refine (jK.calls a1 true _ A5.out).mono ?_);rintro e w' ⟨rfl,⟨nd,rfl⟩⟩;refine ⟨_,rfl,?_⟩;have hcz9_0 : w4.cell? ⟨gb504,0,none⟩ = some (.slice A0_0 l0_0.length c0_0):=(qC BK504.out 0).trans rfl;have hfz9_0:=qB BK504.out 0)|(go_at_call 44;(with_reducible refine (zM.calls k _ _ l0_0 t506 _ ?side1 ?side2 A8.out).mono ?_);(case side1=>exact byca HR0_0.out GE504.out);(case side2=>exact HC0_0.out);rintro e w10 ⟨rfl,hb⟩;have n0_:=qA.mk (qH (g:=gb504) (o:=.cells #[.slice A0_0 l0_0.length c0_0] 25 (0,0)) (byaf BK504.out) hb);have n1_:=qA.mk (qE (byad GE504.out) hb);clear BK504;clear HB;have BK504:=n0_;have HB:=n1_;clear n0_ n1_;(try clear hb);(try clear hb2);(try clear hk);(try clear hi)))
    go_meet
    case rel=>exact ⟨_,(((Go.bits .and .i64 a1 t506) != a1)),byae,H',⟨byap⟩,⟨byaf BK504.out⟩,⟨byad GE504.out⟩⟩
  ·replace c6:=Bool.eq_false_iff.mpr c6
   subst c6
   have H1 : (qM.j0 k a1 true l0_0) = some r:=by rw [if_neg (show ¬ (false = true) by decide)] at H;exact H
   clear H
   have H:=H1
   clear H1
   have H':=qA.mk H
   clear H
   go_wp2_with (first|((with_reducible refine qI (f:=43) rfl ?_);refine zL (some 8) rfl rfl Try.func43 (by kernel_rfl) rfl #[.int .i64 a1] rfl byah ?_;(with_reducible refine (jK.calls a1 false _ A5.out).mono ?_);rintro e w' ⟨rfl,⟨nd,rfl⟩⟩;refine ⟨_,rfl,?_⟩))
   go_meet
   case rel=>exact ⟨_,(true),byae,H',⟨byap⟩,⟨byaf BK504.out⟩,⟨byad GE504.out⟩⟩
 case rest =>
  clear HC3
  try clear c2
  try clear p2
  try clear c4
  try clear c6
  try clear c7
  try clear c7b0
  try clear c7b1
  try clear hcz9_0
  try clear hfz9_0
  obtain ⟨kq,x21_2,rfl,HA,HJ2,BK504,HB⟩:=hcut
  cases kq with
  | zero=>exact absurd HA.out (by simp [qM.j0])
  | succ kj2 =>
   have H:=HA.out
   clear HA
   simp only [qM.j0] at H
   by_cases c11 : x21_2 = true
   ·subst c11
    have H1 : (some false) = some r:=by rw [if_pos rfl] at H;exact H
    clear H
    have H:=H1
    clear H1
    obtain rfl:=Option.some.inj H
    go_wp2
    go_ret
    exact ⟨byac,byad GE504.out⟩
   ·replace c11:=Bool.eq_false_iff.mpr c11
    subst c11
    have H1 : ((jE.f kj2 a1).bind fun t507=>(qM.l0 kj2 a1 t507 (t507.length : Int) 0 l0_0)) = some r:=by rw [if_neg (show ¬ (false = true) by decide)] at H;exact H
    clear H
    have H:=H1
    clear H1
    replace H:=Option.bind_eq_some_iff.mp H
    obtain ⟨t507,A120,H⟩:=H
    replace H : (qM.l0 kj2 a1 t507 (t507.length : Int) 0 l0_0) = some r:=H
    have A12:=qA.mk A120
    clear A120
    have H':=qA.mk H
    clear H
    go_wp2_with (first|((with_reducible refine qI (f:=45) rfl ?_);refine zL (some 23) rfl rfl Try.func45 (by kernel_rfl) rfl #[.int .i64 a1] rfl byah ?_;(with_reducible refine (jE.calls kj2 a1 t507 _ A12.out).mono ?_);rintro e w13 ⟨v508,rfl,ho0,hb⟩;refine ⟨_,rfl,?_⟩;have n0_:=qA.mk (Kd.vR ho0 (j3 (byad GE504.out)));have n1_:=qA.mk (qH (g:=gb504) (o:=.cells #[.slice A0_0 l0_0.length c0_0] 25 (0,0)) (byaf BK504.out) hb);have n2_:=qA.mk (qE (byad GE504.out) hb);clear BK504;clear HB;have HO509:=n0_;have BK504:=n1_;have HB:=n2_;clear n0_ n1_ n2_;(try clear hb);(try clear hb2);(try clear hk);(try clear hi);(try clear ho0);obtain ⟨Ao14,co14,eo14⟩:=Kd.jT HO509.out;subst eo14))
    go_loopg [25] kj2 (fun kq v25 w'=>∃ (x25_2 : Int),v25 = .int .i64 x25_2∧qA (qM.l0 kq a1 t507 (t507.length : Int) x25_2 l0_0 = some r)∧qA (kq ≤ kj2)∧qA (Kd.R (Kd.int .i64) 3 w' w.heap.size (fun _=>True) (.slice Ao14 t507.length co14) t507)∧qA (w'.heap[gb504]? = some (.cells #[(.slice A0_0 l0_0.length c0_0)] 25 (0,0)))∧qA (Below w.heap.size w w'))
    case atStart=>exact ⟨(0),byae,H',⟨Nat.le_refl _⟩,⟨byav HO509.out⟩,⟨byaf BK504.out⟩,⟨byad GE504.out⟩⟩
    case round =>
     clear H'
     try clear c1
     try clear c2
     try clear p2
     try clear c4
     try clear c6
     try clear c7
     try clear c7b0
     try clear c7b1
     try clear c11
     try clear hcz9_0
     try clear hfz9_0
     try clear p2
     obtain ⟨x25_2,rfl,HA,HK2,HO_23,BK504,HB⟩:=hrel
     cases gk with
     | zero=>exact absurd HA.out (by simp [qM.l0])
     | succ k2 =>
      have H:=HA.out
      clear HA
      simp only [qM.l0] at H
      by_cases c15 : x25_2 < (t507.length : Int)
      ·rw [if_pos c15] at H
       have c15b0 : decide (x25_2 < (t507.length : Int)) = true:=decide_eq_true c15
       clear c15
       by_cases c16 : 0 ≤ x25_2
       ·rw [if_pos c16] at H
        have c16b0 : decide (0 ≤ x25_2) = true:=decide_eq_true c16
        clear c16
        by_cases c17 : x25_2 < (t507.length : Int)
        ·rw [if_pos c17] at H
         have c17b0 : decide (x25_2 < (t507.length : Int)) = true:=decide_eq_true c17
         clear c17
         by_cases c18 : 0 ≤ (rd t507 x25_2)
         ·rw [if_pos c18] at H
          have c18b0 : decide (0 ≤ (rd t507 x25_2)) = true:=decide_eq_true c18
          clear c18
          by_cases c19 : (rd t507 x25_2) < (l0_0.length : Int)
          ·rw [if_pos c19] at H
           have c19b0 : decide ((rd t507 x25_2) < (l0_0.length : Int)) = true:=decide_eq_true c19
           clear c19
           replace H:=Option.bind_eq_some_iff.mp H
           obtain ⟨t512,A200,H⟩:=H
           replace H : (if t512 = true then (qM.l0 k2 a1 t507 (t507.length : Int) (wrap64 (x25_2 + 1)) l0_0) else (some false)) = some r:=H
           have A20:=qA.mk A200
           clear A200
           by_cases c21 : t512 = true
           ·subst c21
            have H1 : (qM.l0 k2 a1 t507 (t507.length : Int) (wrap64 (x25_2 + 1)) l0_0) = some r:=by rw [if_pos rfl] at H;exact H
            clear H
            have H:=H1
            clear H1
            have H':=qA.mk H
            clear H
            have p510 : 0 ≤ (x25_2 : Int):=of_decide_eq_true byag
            have q510 : x25_2 < (t507.length : Int):=of_decide_eq_true byag
            obtain ⟨ad510,e510,hx510_0⟩:=Kd.uV (Kd.vX HO_23.out).2.2 x25_2 p510 q510
            cases e510
            replace p510:=eq_true p510
            replace q510:=eq_true q510
            have hcz22_0 : wr.cell? ⟨gb504,0,none⟩ = some (.slice A0_0 l0_0.length c0_0):=(qC BK504.out 0).trans rfl
            have hfz22_0:=qB BK504.out 0
            have p511 : 0 ≤ ((rd t507 x25_2) : Int):=of_decide_eq_true byag
            have q511 : (rd t507 x25_2) < (l0_0.length : Int):=of_decide_eq_true byag
            obtain ⟨ad511,A511_2,c511_2,A511_3,c511_3,e511,hx511_0,hx511_1,hx511_2,hx511_3,hl511_2,hi511_2,hl511_3,hi511_3⟩:=at_T58 HR0_0.out (rd t507 x25_2) p511 q511
            cases e511
            replace hx511_0:=(HB.out.cell (World.block_lt_of_cell? w _ hx511_0)).trans hx511_0
            replace hx511_1:=(HB.out.cell (World.block_lt_of_cell? w _ hx511_1)).trans hx511_1
            replace hx511_2:=(HB.out.cell (World.block_lt_of_cell? w _ hx511_2)).trans hx511_2
            replace hx511_3:=(HB.out.cell (World.block_lt_of_cell? w _ hx511_3)).trans hx511_3
            have HR511_2:=qA.mk hi511_2
            have HC511_2:=qA.mk hl511_2
            clear hi511_2 hl511_2
            have HR511_3:=qA.mk hi511_3
            have HC511_3:=qA.mk hl511_3
            clear hi511_3 hl511_3
            replace p511:=eq_true p511
            replace q511:=eq_true q511
            go_wp2_with (first|((with_reducible refine qI (f:=46) rfl ?_);refine zL (some 36) rfl rfl Try.func46 (by kernel_rfl) rfl #[.agg #[.int .i64 ((jO l0_0 (rd t507 x25_2)).f1.f0),.slice A511_2 ((jO l0_0 (rd t507 x25_2)).f1.f1).length c511_2,.slice A511_3 ((jO l0_0 (rd t507 x25_2)).f1.f2).length c511_3],.int .i64 a1] rfl byah ?_;(with_reducible refine (qP.calls k2 ((jO l0_0 (rd t507 x25_2)).f1.f0) _ _ ((jO l0_0 (rd t507 x25_2)).f1.f1) _ _ ((jO l0_0 (rd t507 x25_2)).f1.f2) a1 true _ ?side1 ?side2 ?side3 ?side4 A20.out).mono ?_);(case side1=>exact byaq HR511_2.out);(case side2=>exact HC511_2.out);(case side3=>exact byaq HR511_3.out);(case side4=>exact HC511_3.out);rintro e w23 ⟨rfl,hb⟩;refine ⟨_,rfl,?_⟩;have n0_:=qA.mk (Kd.vI (byav HO_23.out) hb);have n1_:=qA.mk (qH (g:=gb504) (o:=.cells #[.slice (some ad511) l0_0.length c0_0] 25 (0,0)) (byaf BK504.out) hb);have n2_:=qA.mk (qE (byad GE504.out) hb);clear HO_23;clear BK504;clear HB;have HO_23:=n0_;have BK504:=n1_;have HB:=n2_;clear n0_ n1_ n2_;(try clear hb);(try clear hb2);(try clear hk);(try clear hi)))
            go_roundg k2
            case measure=>have:=HJ2.out;have:=HK2.out;omega
            case rel=>exact ⟨(wrap64 (x25_2 + 1)),byae,H',⟨by have:=HJ2.out;have:=HK2.out;omega⟩,⟨byav HO_23.out⟩,⟨byaf BK504.out⟩,⟨byad GE504.out⟩⟩
           ·replace c21:=Bool.eq_false_iff.mpr c21
            subst c21
            have H1 : (some false) = some r:=by rw [if_neg (show ¬ (false = true) by decide)] at H;exact H
            clear H
            have H:=H1
            clear H1
            obtain rfl:=Option.some.inj H
            have p510 : 0 ≤ (x25_2 : Int):=of_decide_eq_true byag
            have q510 : x25_2 < (t507.length : Int):=of_decide_eq_true byag
            obtain ⟨ad510,e510,hx510_0⟩:=Kd.uV (Kd.vX HO_23.out).2.2 x25_2 p510 q510
            cases e510
            replace p510:=eq_true p510
            replace q510:=eq_true q510
            have hcz24_0 : wr.cell? ⟨gb504,0,none⟩ = some (.slice A0_0 l0_0.length c0_0):=(qC BK504.out 0).trans rfl
            have hfz24_0:=qB BK504.out 0
            have p511 : 0 ≤ ((rd t507 x25_2) : Int):=of_decide_eq_true byag
            have q511 : (rd t507 x25_2) < (l0_0.length : Int):=of_decide_eq_true byag
            obtain ⟨ad511,A511_2,c511_2,A511_3,c511_3,e511,hx511_0,hx511_1,hx511_2,hx511_3,hl511_2,hi511_2,hl511_3,hi511_3⟩:=at_T58 HR0_0.out (rd t507 x25_2) p511 q511
            cases e511
            replace hx511_0:=(HB.out.cell (World.block_lt_of_cell? w _ hx511_0)).trans hx511_0
            replace hx511_1:=(HB.out.cell (World.block_lt_of_cell? w _ hx511_1)).trans hx511_1
            replace hx511_2:=(HB.out.cell (World.block_lt_of_cell? w _ hx511_2)).trans hx511_2
            replace hx511_3:=(HB.out.cell (World.block_lt_of_cell? w _ hx511_3)).trans hx511_3
            have HR511_2:=qA.mk hi511_2
            have HC511_2:=qA.mk hl511_2
            clear hi511_2 hl511_2
            have HR511_3:=qA.mk hi511_3
            have HC511_3:=qA.mk hl511_3
            clear hi511_3 hl511_3
            replace p511:=eq_true p511
            replace q511:=eq_true q511
            go_wp2_with (first|((with_reducible refine qI (f:=46) rfl ?_);refine zL (some 36) rfl rfl Try.func46 (by kernel_rfl) rfl #[.agg #[.int .i64 ((jO l0_0 (rd t507 x25_2)).f1.f0),.slice A511_2 ((jO l0_0 (rd t507 x25_2)).f1.f1).length c511_2,.slice A511_3 ((jO l0_0 (rd t507 x25_2)).f1.f2).length c511_3],.int .i64 a1] rfl byah ?_;(with_reducible refine (qP.calls k2 ((jO l0_0 (rd t507 x25_2)).f1.f0) _ _ ((jO l0_0 (rd t507 x25_2)).f1.f1) _ _ ((jO l0_0 (rd t507 x25_2)).f1.f2) a1 false _ ?side1 ?side2 ?side3 ?side4 A20.out).mono ?_);(case side1=>exact byaq HR511_2.out);(case side2=>exact HC511_2.out);(case side3=>exact byaq HR511_3.out);(case side4=>exact HC511_3.out);rintro e w25 ⟨rfl,hb⟩;refine ⟨_,rfl,?_⟩;have n0_:=qA.mk (Kd.vI (byav HO_23.out) hb);have n1_:=qA.mk (qH (g:=gb504) (o:=.cells #[.slice (some ad511) l0_0.length c0_0] 25 (0,0)) (byaf BK504.out) hb);have n2_:=qA.mk (qE (byad GE504.out) hb);clear HO_23;clear BK504;clear HB;have HO_23:=n0_;have BK504:=n1_;have HB:=n2_;clear n0_ n1_ n2_;(try clear hb);(try clear hb2);(try clear hk);(try clear hi)))
            go_ret
            exact ⟨byac,byad GE504.out⟩
          ·rw [if_neg c19] at H
           exact absurd H (by simp)
         ·rw [if_neg c18] at H
          exact absurd H (by simp)
        ·rw [if_neg c17] at H
         exact absurd H (by simp)
       ·rw [if_neg c16] at H
        exact absurd H (by simp)
      ·rw [if_neg c15] at H
       have c15b0 : decide (x25_2 < (t507.length : Int)) = false:=decide_eq_false c15
       clear c15
       obtain rfl:=Option.some.inj H
       go_wp2
       go_ret
       exact ⟨byac,byad GE504.out⟩
end Go.Proofs.Ytkkbdimegpdbgaa.P
