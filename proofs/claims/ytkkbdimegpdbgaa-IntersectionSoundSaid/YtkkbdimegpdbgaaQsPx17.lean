/- Functions of the program as Lean functions, and the walks that show that the calls answer so; written by a program of this session (a changed print) and by hand. -/
import Derived.Test.YtkkbdimegpdbgaaQsPx0
import Derived.Test.YtkkbdimegpdbgaaQsPx13
import Derived.Test.YtkkbdimegpdbgaaQsPx16
namespace Go.Proofs.Ytkkbdimegpdbgaa.P
open Go.RowKit Go.Proofs.YtkkbdimegpdbgaaW.PrintWords Go.Proofs.YtkkbdimegpdbgaaW.PrintLast Go.Proofs.YtkkbdimegpdbgaaW.PrintMore
attribute [local go_sem] kF kD kV kU uJ uK kG kE
set_option linter.unusedVariables false
set_option linter.unusedSimpArgs false
mutual
def qV.l0 : Nat→Int→Int→List Int→Int→Int→Int→List Int→List (S56)→Option (Bool)
 | 0,_,_,_,_,_,_,_,_=>none
 | k + 1,x1,x5,x14,x15,x16,x498000,x498001,x498002=>if x16 < x15 then (if 0 ≤ x16 then (if x16 < (x14.length : Int) then ((uA.f x1 (rd x14 x16)).bind fun t500=>(if t500 = true then (qV.l0 k x1 (wrap64 (x5 + 1)) x14 x15 (wrap64 (x16 + 1)) x498000 x498001 x498002) else (qV.l0 k x1 x5 x14 x15 (wrap64 (x16 + 1)) x498000 x498001 x498002))) else (none)) else (none)) else (qV.l1 k x1 x5 x498002 (x498002.length : Int) 0 x498000 x498001 x498002)
def qV.l1 : Nat→Int→Int→List (S56)→Int→Int→Int→List Int→List (S56)→Option (Bool)
 | 0,_,_,_,_,_,_,_,_=>none
 | k + 1,x1,x5,x27,x28,x29,x498000,x498001,x498002=>if x29 < x28 then (if 0 ≤ x29 then (if x29 < (x27.length : Int) then ((qV.f k ((qM x27 x29).f0) ((qM x27 x29).f1) ((qM x27 x29).f2) x1).bind fun t503=>(if t503 = true then (qV.l1 k x1 (wrap64 (x5 + 1)) x27 x28 (wrap64 (x29 + 1)) x498000 x498001 x498002) else (qV.l1 k x1 x5 x27 x28 (wrap64 (x29 + 1)) x498000 x498001 x498002))) else (none)) else (none)) else (some (decide (x5 ≥ x498000)))
def qV.f : Nat→Int→List Int→List (S56)→Int→Option (Bool)
 | 0,_,_,_,_=>none
 | k + 1,a0_0,l0_1,l0_2,a1=>(zX.f a1).bind fun t498=>(if t498 = true then (qV.l0 k a1 0 l0_1 (l0_1.length : Int) 0 a0_0 l0_1 l0_2) else (some false))
end
set_option maxHeartbeats 8000000 in
set_option maxRecDepth 100000 in
theorem qV.calls (k : Nat) : ∀ (a0_0 : Int) (A0_1 : Option Addr) (c0_1 : Nat) (l0_1 : List Int) (A0_2 : Option Addr) (c0_2 : Nat) (l0_2 : List (S56)) (a1 : Int) (r : Bool) (w : World) (hr0_1 : Kd.C (Kd.int .i64) w A0_1 l0_1.length l0_1) (hc0_1 : l0_1.length ≤ c0_1) (hr0_2 : Kd.C k56 w A0_2 l0_2.length l0_2) (hc0_2 : l0_2.length ≤ c0_2) (h : qV.f k a0_0 l0_1 l0_2 a1 = some r),
  Calls Try.prog 46 #[.agg #[.int .i64 a0_0,.slice A0_1 l0_1.length c0_1,.slice A0_2 l0_2.length c0_2],.int .i64 a1] w fun e w'=>e = .returned (.bool r)∧Below w.heap.size w w':=by
 induction k using Nat.strongRecOn with
 | _ k ih =>
 intro a0_0 A0_1 c0_1 l0_1 A0_2 c0_2 l0_2 a1 r w hr0_1 hc0_1 hr0_2 hc0_2 h
 cases k with
 | zero=>exact absurd h (by simp [qV.f])
 | succ k =>
 simp only [qV.f] at h
 have hu56:=Try.underlying56
 have HR0_1:=qA.mk hr0_1
 have HC0_1:=qA.mk hc0_1
 clear hr0_1 hc0_1
 have HR0_2:=qA.mk hr0_2
 have HC0_2:=qA.mk hc0_2
 clear hr0_2 hc0_2
 have HB:=qA.mk (Below.refl w.heap.size w)
 have H:=h
 clear h
 replace H:=Option.bind_eq_some_iff.mp H
 obtain ⟨t498,A30,H⟩:=H
 try dsimp only at H
 have A3:=qA.mk A30
 clear A30
 by_cases c4 : t498 = true
 ·subst c4
  rw [if_pos rfl] at H
  have H':=qA.mk H
  clear H
  go_enter Try.func46,Try.ntmps46
  go_wp2_with (first|((with_reducible refine qP (N:=2) rfl ?_);refine zV (N:=2) (cs:=#[.int .i64 a0_0,.slice A0_1 l0_1.length c0_1,.slice A0_2 l0_2.length c0_2]) (t:=56) ?_;intro gb497 hg w5 hbox hb;have n_:=q_4 (qC byab hb) (hbox) ((byck : w.heap.size ≤ gb497)) ((byck : w.heap.size ≤ gb497));clear HB;obtain ⟨HB,BK497,GW497,GE497⟩:=n_;clear hb hbox hg)|((with_reducible refine qI (f:=43) rfl ?_);refine qY (some 11) rfl rfl Try.func43 (by kernel_rfl) rfl #[.int .i64 a1] rfl byah ?_;(with_reducible refine (zX.calls a1 true _ A3.out).mono ?_);rintro e w' ⟨rfl,⟨nd,rfl⟩⟩;refine ⟨_,rfl,?_⟩;obtain ⟨hcz6_0,hcz6_1,hcz6_2,hfz6_0,hfz6_1,hfz6_2⟩:=cz3 BK497.out))
  go_loopg [5,16] k (fun kq v5 v16 w'=>∃ (x5_1 : Int) (x16_1 : Int),v5 = .int .i64 x5_1∧v16 = .int .i64 x16_1∧qA (qV.l0 kq a1 x5_1 l0_1 (l0_1.length : Int) x16_1 a0_0 l0_1 l0_2 = some r)∧qA (kq ≤ k)∧qA (w'.heap[gb497]? = some (.cells #[.int .i64 a0_0,(.slice A0_1 l0_1.length c0_1),(.slice A0_2 l0_2.length c0_2)] 56 (0,0)))∧qA (Below w.heap.size w w'))
  case atStart=>exact ⟨(0),(0),byae,byae,H',⟨Nat.le_refl _⟩,⟨byaf BK497.out⟩,⟨byad GE497.out⟩⟩
  case round =>
   clear H'
   obtain ⟨x5_1,x16_1,rfl,rfl,HA,HK1,BK497,HB⟩:=hrel
   cases gk with
   | zero=>exact absurd HA.out (by simp [qV.l0])
   | succ k1 =>
    have H:=HA.out
    clear HA
    simp only [qV.l0] at H
    by_cases c7 : x16_1 < (l0_1.length : Int)
    ·rw [if_pos c7] at H
     have c7b0:=decide_eq_true c7
     clear c7
     by_cases c8 : 0 ≤ x16_1
     ·rw [if_pos c8] at H
      have c8b0:=decide_eq_true c8
      clear c8
      by_cases c9 : x16_1 < (l0_1.length : Int)
      ·rw [if_pos c9] at H
       have c9b0:=decide_eq_true c9
       clear c9
       replace H:=Option.bind_eq_some_iff.mp H
       obtain ⟨t500,A100,H⟩:=H
       try dsimp only at H
       have A10:=qA.mk A100
       clear A100
       by_cases c11 : t500 = true
       ·subst c11
        rw [if_pos rfl] at H
        have H':=qA.mk H
        clear H
        have p499 : 0 ≤ (x16_1 : Int):=of_decide_eq_true byag
        have q499 : x16_1 < (l0_1.length : Int):=of_decide_eq_true byag
        obtain ⟨ad499,e499,hx499_0⟩:=Kd.kW HR0_1.out x16_1 p499 q499
        cases e499
        replace hx499_0:=(HB.out.cell (World.block_lt_of_cell? w _ hx499_0)).trans hx499_0
        replace p499:=eq_true p499
        replace q499:=eq_true q499
        go_wp2_with (first|((with_reducible refine qI (f:=63) rfl ?_);refine qY (some 22) rfl rfl Try.func63 (by kernel_rfl) rfl #[.int .i64 a1,.int .i64 (rd l0_1 x16_1)] rfl byah ?_;(with_reducible refine (uA.calls a1 (rd l0_1 x16_1) true _ A10.out).mono ?_);rintro e w' ⟨rfl,⟨nd,rfl⟩⟩;refine ⟨_,rfl,?_⟩))
        go_roundg k1
        case measure=>have:=HK1.out;omega
        case rel=>exact ⟨(wrap64 (x5_1 + 1)),(wrap64 (x16_1 + 1)),byae,byae,H',⟨byai⟩,⟨byaf BK497.out⟩,⟨byad GE497.out⟩⟩
       ·replace c11:=Bool.eq_false_iff.mpr c11
        subst c11
        rw [if_neg (show ¬ (false = true) by decide)] at H
        have H':=qA.mk H
        clear H
        have p499 : 0 ≤ (x16_1 : Int):=of_decide_eq_true byag
        have q499 : x16_1 < (l0_1.length : Int):=of_decide_eq_true byag
        obtain ⟨ad499,e499,hx499_0⟩:=Kd.kW HR0_1.out x16_1 p499 q499
        cases e499
        replace hx499_0:=(HB.out.cell (World.block_lt_of_cell? w _ hx499_0)).trans hx499_0
        replace p499:=eq_true p499
        replace q499:=eq_true q499
        go_wp2_with (first|((with_reducible refine qI (f:=63) rfl ?_);refine qY (some 22) rfl rfl Try.func63 (by kernel_rfl) rfl #[.int .i64 a1,.int .i64 (rd l0_1 x16_1)] rfl byah ?_;(with_reducible refine (uA.calls a1 (rd l0_1 x16_1) false _ A10.out).mono ?_);rintro e w' ⟨rfl,⟨nd,rfl⟩⟩;refine ⟨_,rfl,?_⟩))
        go_roundg k1
        case measure=>have:=HK1.out;omega
        case rel=>exact ⟨(x5_1),(wrap64 (x16_1 + 1)),byae,byae,H',⟨byai⟩,⟨byaf BK497.out⟩,⟨byad GE497.out⟩⟩
      ·rw [if_neg c9] at H
       exact absurd H (by simp)
     ·rw [if_neg c8] at H
      exact absurd H (by simp)
    ·rw [if_neg c7] at H
     have c7b0:=decide_eq_false c7
     clear c7
     have H':=qA.mk H
     clear H
     obtain ⟨hcz12_0,hcz12_1,hcz12_2,hfz12_0,hfz12_1,hfz12_2⟩:=cz3 BK497.out
     go_wp2
     go_loopg [5,29] k1 (fun kq v5 v29 w'=>∃ (x5_2 : Int) (x29_2 : Int),v5 = .int .i64 x5_2∧v29 = .int .i64 x29_2∧qA (qV.l1 kq a1 x5_2 l0_2 (l0_2.length : Int) x29_2 a0_0 l0_1 l0_2 = some r)∧qA (kq ≤ k1)∧qA (w'.heap[gb497]? = some (.cells #[.int .i64 a0_0,(.slice A0_1 l0_1.length c0_1),(.slice A0_2 l0_2.length c0_2)] 56 (0,0)))∧qA (Below w.heap.size w w'))
     case atStart=>exact ⟨(x5_1),(0),byae,byae,H',⟨Nat.le_refl _⟩,⟨byaf BK497.out⟩,⟨byad GE497.out⟩⟩
     case round =>
      clear H'
      try clear hx4
      try clear hx499_0
      obtain ⟨x5_2,x29_2,rfl,rfl,HA,HK2,BK497,HB⟩:=hrel
      cases gk with
      | zero=>exact absurd HA.out (by simp [qV.l1])
      | succ k2 =>
       have H:=HA.out
       clear HA
       simp only [qV.l1] at H
       by_cases c13 : x29_2 < (l0_2.length : Int)
       ·rw [if_pos c13] at H
        have c13b0:=decide_eq_true c13
        clear c13
        by_cases c14 : 0 ≤ x29_2
        ·rw [if_pos c14] at H
         have c14b0:=decide_eq_true c14
         clear c14
         by_cases c15 : x29_2 < (l0_2.length : Int)
         ·rw [if_pos c15] at H
          have c15b0:=decide_eq_true c15
          clear c15
          replace H:=Option.bind_eq_some_iff.mp H
          obtain ⟨t503,A160,H⟩:=H
          try dsimp only at H
          have A16:=qA.mk A160
          clear A160
          by_cases c17 : t503 = true
          ·subst c17
           rw [if_pos rfl] at H
           have H':=qA.mk H
           clear H
           have p501 : 0 ≤ (x29_2 : Int):=of_decide_eq_true byag
           have q501 : x29_2 < (l0_2.length : Int):=of_decide_eq_true byag
           obtain ⟨ad501,A501_1,c501_1,A501_2,c501_2,e501,hx501_0,hx501_1,hx501_2,hl501_1,hi501_1,hl501_2,hi501_2⟩:=Zj HR0_2.out x29_2 p501 q501
           cases e501
           replace hx501_0:=(HB.out.cell (World.block_lt_of_cell? w _ hx501_0)).trans hx501_0
           replace hx501_1:=(HB.out.cell (World.block_lt_of_cell? w _ hx501_1)).trans hx501_1
           replace hx501_2:=(HB.out.cell (World.block_lt_of_cell? w _ hx501_2)).trans hx501_2
           have HR501_1:=qA.mk hi501_1
           have HC501_1:=qA.mk hl501_1
           clear hi501_1 hl501_1
           have HR501_2:=qA.mk hi501_2
           have HC501_2:=qA.mk hl501_2
           clear hi501_2 hl501_2
           replace p501:=eq_true p501
           replace q501:=eq_true q501
           go_wp2_with (first|((with_reducible refine qP (N:=9) rfl ?_);refine zV (N:=9) (cs:=#[.int .i64 0,.slice none 0 0,.slice none 0 0]) (t:=56) ?_;intro gb502 hg w18 hbox hb;have n_:=q_6 (qH BK497.out hb) (qC (byad GE497.out) hb) (hbox) ((bycl GE497.out : w.heap.size ≤ gb502)) ((bycl GE497.out : w.heap.size ≤ gb502)) ((by rw [hg];exact Nat.ne_of_lt (vF BK497.out) : gb497≠gb502));clear BK497 HB;obtain ⟨BK497,HB,BK502,GW502,GE502,NB497_502⟩:=n_;have NB502_497:=ns NB497_502;clear hb hbox hg;have hnb19:=NB502_497.out;have hnc19:=NB497_502.out;obtain ⟨hcz20_0,hcz20_1,hcz20_2,hfz20_0,hfz20_1,hfz20_2⟩:=cz3 BK502.out)|((with_reducible refine qI (f:=46) rfl ?_);refine qY (some 35) rfl rfl Try.func46 (by kernel_rfl) rfl #[.agg #[.int .i64 ((qM l0_2 x29_2).f0),.slice A501_1 ((qM l0_2 x29_2).f1).length c501_1,.slice A501_2 ((qM l0_2 x29_2).f2).length c501_2],.int .i64 a1] rfl byah ?_;(with_reducible refine (ih k2 byar ((qM l0_2 x29_2).f0) _ _ ((qM l0_2 x29_2).f1) _ _ ((qM l0_2 x29_2).f2) a1 true _ ?side1 ?side2 ?side3 ?side4 A16.out).mono ?_);(case side1=>exact Kd.vU HR501_1.out (byaj GE497.out GE502.out));(case side2=>exact HC501_1.out);(case side3=>exact Kd.vU HR501_2.out (byaj GE497.out GE502.out));(case side4=>exact HC501_2.out);rintro e w21 ⟨rfl,hb⟩;refine ⟨_,rfl,?_⟩;have n_:=q_3 (jQ (g:=gb497) (o:=.cells #[.int .i64 a0_0,.slice A0_1 l0_1.length c0_1,.slice (some ad501) l0_2.length c0_2] 56 (0,0)) (byak NB497_502.out BK497.out) hb) (jQ (g:=gb502) (o:=.cells #[.int .i64 ((qM l0_2 x29_2).f0),.slice A501_1 ((qM l0_2 x29_2).f1).length c501_1,.slice A501_2 ((qM l0_2 x29_2).f2).length c501_2] 56 (0,0)) (by (with_reducible repeat (first|refine qF ?_ _|refine qG ?_|refine qE ?_ _));refine qO (cs:=#[.int .i64 ((qM l0_2 x29_2).f0),.slice A501_1 ((qM l0_2 x29_2).f1).length c501_1,.slice none 0 0]) ?_ 2 _ rfl;(with_reducible repeat (first|refine qF ?_ _|refine qG ?_|refine qE ?_ _));refine qO (cs:=#[.int .i64 ((qM l0_2 x29_2).f0),.slice none 0 0,.slice none 0 0]) ?_ 1 _ rfl;(with_reducible repeat (first|refine qF ?_ _|refine qG ?_|refine qE ?_ _));refine qO (cs:=#[.int .i64 0,.slice none 0 0,.slice none 0 0]) ?_ 0 _ rfl;(with_reducible repeat (first|refine qF ?_ _|refine qG ?_|refine qE ?_ _));exact BK502.out) hb) (qC (byaj GE497.out GE502.out) hb);clear BK497 BK502 HB;obtain ⟨BK497,BK502,HB⟩:=n_;clear hb))
           go_roundg k2
           case measure=>have:=HK1.out;have:=HK2.out;omega
           case rel=>exact ⟨(wrap64 (x5_2 + 1)),(wrap64 (x29_2 + 1)),byae,byae,H',⟨byar⟩,⟨byaf BK497.out⟩,⟨byaj GE497.out GE502.out⟩⟩
          ·replace c17:=Bool.eq_false_iff.mpr c17
           subst c17
           rw [if_neg (show ¬ (false = true) by decide)] at H
           have H':=qA.mk H
           clear H
           have p501 : 0 ≤ (x29_2 : Int):=of_decide_eq_true byag
           have q501 : x29_2 < (l0_2.length : Int):=of_decide_eq_true byag
           obtain ⟨ad501,A501_1,c501_1,A501_2,c501_2,e501,hx501_0,hx501_1,hx501_2,hl501_1,hi501_1,hl501_2,hi501_2⟩:=Zj HR0_2.out x29_2 p501 q501
           cases e501
           replace hx501_0:=(HB.out.cell (World.block_lt_of_cell? w _ hx501_0)).trans hx501_0
           replace hx501_1:=(HB.out.cell (World.block_lt_of_cell? w _ hx501_1)).trans hx501_1
           replace hx501_2:=(HB.out.cell (World.block_lt_of_cell? w _ hx501_2)).trans hx501_2
           have HR501_1:=qA.mk hi501_1
           have HC501_1:=qA.mk hl501_1
           clear hi501_1 hl501_1
           have HR501_2:=qA.mk hi501_2
           have HC501_2:=qA.mk hl501_2
           clear hi501_2 hl501_2
           replace p501:=eq_true p501
           replace q501:=eq_true q501
           go_wp2_with (first|((with_reducible refine qP (N:=9) rfl ?_);refine zV (N:=9) (cs:=#[.int .i64 0,.slice none 0 0,.slice none 0 0]) (t:=56) ?_;intro gb502 hg w22 hbox hb;have n_:=q_6 (qH BK497.out hb) (qC (byad GE497.out) hb) (hbox) ((bycl GE497.out : w.heap.size ≤ gb502)) ((bycl GE497.out : w.heap.size ≤ gb502)) ((by rw [hg];exact Nat.ne_of_lt (vF BK497.out) : gb497≠gb502));clear BK497 HB;obtain ⟨BK497,HB,BK502,GW502,GE502,NB497_502⟩:=n_;have NB502_497:=ns NB497_502;clear hb hbox hg;have hnb23:=NB502_497.out;have hnc23:=NB497_502.out;obtain ⟨hcz24_0,hcz24_1,hcz24_2,hfz24_0,hfz24_1,hfz24_2⟩:=cz3 BK502.out)|((with_reducible refine qI (f:=46) rfl ?_);refine qY (some 35) rfl rfl Try.func46 (by kernel_rfl) rfl #[.agg #[.int .i64 ((qM l0_2 x29_2).f0),.slice A501_1 ((qM l0_2 x29_2).f1).length c501_1,.slice A501_2 ((qM l0_2 x29_2).f2).length c501_2],.int .i64 a1] rfl byah ?_;(with_reducible refine (ih k2 byar ((qM l0_2 x29_2).f0) _ _ ((qM l0_2 x29_2).f1) _ _ ((qM l0_2 x29_2).f2) a1 false _ ?side1 ?side2 ?side3 ?side4 A16.out).mono ?_);(case side1=>exact Kd.vU HR501_1.out (byaj GE497.out GE502.out));(case side2=>exact HC501_1.out);(case side3=>exact Kd.vU HR501_2.out (byaj GE497.out GE502.out));(case side4=>exact HC501_2.out);rintro e w25 ⟨rfl,hb⟩;refine ⟨_,rfl,?_⟩;have n_:=q_3 (jQ (g:=gb497) (o:=.cells #[.int .i64 a0_0,.slice A0_1 l0_1.length c0_1,.slice (some ad501) l0_2.length c0_2] 56 (0,0)) (byak NB497_502.out BK497.out) hb) (jQ (g:=gb502) (o:=.cells #[.int .i64 ((qM l0_2 x29_2).f0),.slice A501_1 ((qM l0_2 x29_2).f1).length c501_1,.slice A501_2 ((qM l0_2 x29_2).f2).length c501_2] 56 (0,0)) (by (with_reducible repeat (first|refine qF ?_ _|refine qG ?_|refine qE ?_ _));refine qO (cs:=#[.int .i64 ((qM l0_2 x29_2).f0),.slice A501_1 ((qM l0_2 x29_2).f1).length c501_1,.slice none 0 0]) ?_ 2 _ rfl;(with_reducible repeat (first|refine qF ?_ _|refine qG ?_|refine qE ?_ _));refine qO (cs:=#[.int .i64 ((qM l0_2 x29_2).f0),.slice none 0 0,.slice none 0 0]) ?_ 1 _ rfl;(with_reducible repeat (first|refine qF ?_ _|refine qG ?_|refine qE ?_ _));refine qO (cs:=#[.int .i64 0,.slice none 0 0,.slice none 0 0]) ?_ 0 _ rfl;(with_reducible repeat (first|refine qF ?_ _|refine qG ?_|refine qE ?_ _));exact BK502.out) hb) (qC (byaj GE497.out GE502.out) hb);clear BK497 BK502 HB;obtain ⟨BK497,BK502,HB⟩:=n_;clear hb))
           go_roundg k2
           case measure=>have:=HK1.out;have:=HK2.out;omega
           case rel=>exact ⟨(x5_2),(wrap64 (x29_2 + 1)),byae,byae,H',⟨byar⟩,⟨byaf BK497.out⟩,⟨byaj GE497.out GE502.out⟩⟩
         ·rw [if_neg c15] at H
          exact absurd H (by simp)
        ·rw [if_neg c14] at H
         exact absurd H (by simp)
       ·rw [if_neg c13] at H
        have c13b0:=decide_eq_false c13
        clear c13
        obtain rfl:=Option.some.inj H
        obtain ⟨hcz26_0,hcz26_1,hcz26_2,hfz26_0,hfz26_1,hfz26_2⟩:=cz3 BK497.out
        go_wp2
        go_ret
        exact ⟨byac,byad GE497.out⟩
 ·replace c4:=Bool.eq_false_iff.mpr c4
  subst c4
  rw [if_neg (show ¬ (false = true) by decide)] at H
  obtain rfl:=Option.some.inj H
  go_enter Try.func46,Try.ntmps46
  go_wp2_with (first|((with_reducible refine qP (N:=2) rfl ?_);refine zV (N:=2) (cs:=#[.int .i64 a0_0,.slice A0_1 l0_1.length c0_1,.slice A0_2 l0_2.length c0_2]) (t:=56) ?_;intro gb497 hg w27 hbox hb;have n_:=q_4 (qC byab hb) (hbox) ((byck : w.heap.size ≤ gb497)) ((byck : w.heap.size ≤ gb497));clear HB;obtain ⟨HB,BK497,GW497,GE497⟩:=n_;clear hb hbox hg)|((with_reducible refine qI (f:=43) rfl ?_);refine qY (some 11) rfl rfl Try.func43 (by kernel_rfl) rfl #[.int .i64 a1] rfl byah ?_;(with_reducible refine (zX.calls a1 false _ A3.out).mono ?_);rintro e w' ⟨rfl,⟨nd,rfl⟩⟩;refine ⟨_,rfl,?_⟩))
  go_ret
  exact ⟨byac,byad GE497.out⟩
mutual
def zW.j0 : Nat→Int→Bool→List (S58)→Option (Bool)
 | 0,_,_,_=>none
 | k + 1,x1,x21,x505000=>if x21 = true then (some false) else ((jT.f k x1).bind fun t507=>(zW.l0 k x1 t507 (t507.length : Int) 0 x505000))
def zW.l0 : Nat→Int→List Int→Int→Int→List (S58)→Option (Bool)
 | 0,_,_,_,_,_=>none
 | k + 1,x1,x23,x24,x25,x505000=>if x25 < x24 then (if 0 ≤ x25 then (if x25 < (x23.length : Int) then (if 0 ≤ (rd x23 x25) then (if (rd x23 x25) < (x505000.length : Int) then ((qV.f k ((zD x505000 (rd x23 x25)).f1.f0) ((zD x505000 (rd x23 x25)).f1.f1) ((zD x505000 (rd x23 x25)).f1.f2) x1).bind fun t512=>(if t512 = true then (zW.l0 k x1 x23 x24 (wrap64 (x25 + 1)) x505000) else (some false))) else (none)) else (none)) else (none)) else (none)) else (some true)
end
def zW.f (k : Nat) (l0_0 : List (S58)) (a1 : Int) : Option (Bool):=(zX.f a1).bind fun t505=>(if t505 = true then (if a1 = 0 then (zW.j0 k a1 true l0_0) else ((zU.f k l0_0).bind fun t506=>(zW.j0 k a1 ((Go.bits .and .i64 a1 t506) != a1) l0_0))) else (zW.j0 k a1 true l0_0))
set_option maxHeartbeats 8000000 in
set_option maxRecDepth 100000 in
theorem zW.calls (k : Nat) (A0_0 : Option Addr) (c0_0 : Nat) (l0_0 : List (S58)) (a1 : Int) (r : Bool) (w : World) (hr0_0 : Kd.C k58 w A0_0 l0_0.length l0_0) (hc0_0 : l0_0.length ≤ c0_0) (h : zW.f k l0_0 a1 = some r) :
  Calls Try.prog 24 #[.agg #[.slice A0_0 l0_0.length c0_0],.int .i64 a1] w fun e w'=>e = .returned (.bool r)∧Below w.heap.size w w':=by
 have hu25:=Try.underlying25
 have hu56:=Try.underlying56
 have HR0_0:=qA.mk hr0_0
 have HC0_0:=qA.mk hc0_0
 clear hr0_0 hc0_0
 have HB:=qA.mk (Below.refl w.heap.size w)
 unfold zW.f at h
 have H:=h
 clear h
 have HC3:=qA.mk H
 clear H
 go_enter Try.func24,Try.ntmps24
 go_upto_region 1 with (first|((with_reducible refine qP (N:=2) rfl ?_);refine zV (N:=2) (cs:=#[.slice A0_0 l0_0.length c0_0]) (t:=25) ?_;intro gb504 hg w4 hbox hb;have n_:=q_4 (qC byab hb) (hbox) ((byck : w.heap.size ≤ gb504)) ((byck : w.heap.size ≤ gb504));clear HB;obtain ⟨HB,BK504,GW504,GE504⟩:=n_;clear hb hbox hg))
 (try simp only [Act.put,List.setIfInBounds_toArray,List.set_cons_zero,List.set_cons_succ])
 go_cut [21] (fun v21 wc=>∃ (kq : Nat) (x21_2 : Bool),v21 = .bool x21_2∧qA (zW.j0 kq a1 x21_2 l0_0 = some r)∧qA (kq ≤ k)∧qA (wc.heap[gb504]? = some (.cells #[(.slice A0_0 l0_0.length c0_0)] 25 (0,0)))∧qA (Below w.heap.size w wc))
 case first =>
  have H:=HC3.out
  clear HC3
  replace H:=Option.bind_eq_some_iff.mp H
  obtain ⟨t505,A50,H⟩:=H
  try dsimp only at H
  have A5:=qA.mk A50
  clear A50
  by_cases c6 : t505 = true
  ·subst c6
   rw [if_pos rfl] at H
   by_cases c7 : a1 = 0
   ·rw [if_pos c7] at H
    obtain ⟨c7b0,c7b1⟩:=eqT c7
    clear c7
    (first|rw [c7b0]|(simp only [Qe,Qh];rw [c7b0])|skip)
    have H':=qA.mk H
    clear H
    go_wp2_with (first|((with_reducible refine qI (f:=43) rfl ?_);refine qY (some 8) rfl rfl Try.func43 (by kernel_rfl) rfl #[.int .i64 a1] rfl byah ?_;(with_reducible refine (zX.calls a1 true _ A5.out).mono ?_);rintro e w' ⟨rfl,⟨nd,rfl⟩⟩;refine ⟨_,rfl,?_⟩))
    go_meet
    case rel=>exact ⟨_,(true),byae,H',⟨byap⟩,⟨byaf BK504.out⟩,⟨byad GE504.out⟩⟩
   ·rw [if_neg c7] at H
    obtain ⟨c7b0,c7b1⟩:=eqF c7
    (first|rw [c7b0]|(simp only [Qe,Qh];rw [c7b0])|skip)
    replace H:=Option.bind_eq_some_iff.mp H
    obtain ⟨t506,A80,H⟩:=H
    try dsimp only at H
    have A8:=qA.mk A80
    clear A80
    have H':=qA.mk H
    clear H
    go_wp2_with (first|((with_reducible refine qI (f:=43) rfl ?_);refine qY (some 8) rfl rfl Try.func43 (by kernel_rfl) rfl #[.int .i64 a1] rfl byah ?_;(with_reducible refine (zX.calls a1 true _ A5.out).mono ?_);rintro e w' ⟨rfl,⟨nd,rfl⟩⟩;refine ⟨_,rfl,?_⟩;obtain ⟨hcz9_0,hfz9_0⟩:=cz1 BK504.out)|(go_at_call 44;(with_reducible refine (zU.calls k _ _ l0_0 t506 _ ?side1 ?side2 A8.out).mono ?_);(case side1=>exact bycm HR0_0.out GE504.out);(case side2=>exact HC0_0.out);rintro e w10 ⟨rfl,hb⟩;have n_:=q_2 (qH BK504.out hb) (qC (byad GE504.out) hb);clear BK504 HB;obtain ⟨BK504,HB⟩:=n_;clear hb))
    go_meet
    case rel=>exact ⟨_,(((Go.bits .and .i64 a1 t506) != a1)),byae,H',⟨byap⟩,⟨byaf BK504.out⟩,⟨byad GE504.out⟩⟩
  ·replace c6:=Bool.eq_false_iff.mpr c6
   subst c6
   rw [if_neg (show ¬ (false = true) by decide)] at H
   have H':=qA.mk H
   clear H
   go_wp2_with (first|((with_reducible refine qI (f:=43) rfl ?_);refine qY (some 8) rfl rfl Try.func43 (by kernel_rfl) rfl #[.int .i64 a1] rfl byah ?_;(with_reducible refine (zX.calls a1 false _ A5.out).mono ?_);rintro e w' ⟨rfl,⟨nd,rfl⟩⟩;refine ⟨_,rfl,?_⟩))
   go_meet
   case rel=>exact ⟨_,(true),byae,H',⟨byap⟩,⟨byaf BK504.out⟩,⟨byad GE504.out⟩⟩
 case rest =>
  clear HC3
  obtain ⟨kq,x21_2,rfl,HA,HJ2,BK504,HB⟩:=hcut
  cases kq with
  | zero=>exact absurd HA.out (by simp [zW.j0])
  | succ kj2 =>
   have H:=HA.out
   clear HA
   simp only [zW.j0] at H
   by_cases c11 : x21_2 = true
   ·subst c11
    rw [if_pos rfl] at H
    obtain rfl:=Option.some.inj H
    go_wp2
    go_ret
    exact ⟨byac,byad GE504.out⟩
   ·replace c11:=Bool.eq_false_iff.mpr c11
    subst c11
    rw [if_neg (show ¬ (false = true) by decide)] at H
    replace H:=Option.bind_eq_some_iff.mp H
    obtain ⟨t507,A120,H⟩:=H
    try dsimp only at H
    have A12:=qA.mk A120
    clear A120
    have H':=qA.mk H
    clear H
    go_wp2_with (first|((with_reducible refine qI (f:=45) rfl ?_);refine qY (some 23) rfl rfl Try.func45 (by kernel_rfl) rfl #[.int .i64 a1] rfl byah ?_;(with_reducible refine (jT.calls kj2 a1 t507 _ A12.out).mono ?_);rintro e w13 ⟨v508,rfl,ho0,hb⟩;refine ⟨_,rfl,?_⟩;have n_:=q_3 (Kd.uZ ho0 (jX (byad GE504.out))) (qH BK504.out hb) (qC (byad GE504.out) hb);clear BK504 HB;obtain ⟨HO509,BK504,HB⟩:=n_;clear hb;(try clear ho0);obtain ⟨Ao14,co14,eo14⟩:=Kd.vJ HO509.out;subst eo14))
    go_loopg [25] kj2 (fun kq v25 w'=>∃ (x25_2 : Int),v25 = .int .i64 x25_2∧qA (zW.l0 kq a1 t507 (t507.length : Int) x25_2 l0_0 = some r)∧qA (kq ≤ kj2)∧qA (Kd.R (Kd.int .i64) 3 w' w.heap.size (fun _=>True) (.slice Ao14 t507.length co14) t507)∧qA (w'.heap[gb504]? = some (.cells #[(.slice A0_0 l0_0.length c0_0)] 25 (0,0)))∧qA (Below w.heap.size w w'))
    case atStart=>exact ⟨(0),byae,H',⟨Nat.le_refl _⟩,⟨byav HO509.out⟩,⟨byaf BK504.out⟩,⟨byad GE504.out⟩⟩
    case round =>
     clear H'
     obtain ⟨x25_2,rfl,HA,HK2,HO_23,BK504,HB⟩:=hrel
     cases gk with
     | zero=>exact absurd HA.out (by simp [zW.l0])
     | succ k2 =>
      have H:=HA.out
      clear HA
      simp only [zW.l0] at H
      by_cases c15 : x25_2 < (t507.length : Int)
      ·rw [if_pos c15] at H
       have c15b0:=decide_eq_true c15
       clear c15
       by_cases c16 : 0 ≤ x25_2
       ·rw [if_pos c16] at H
        have c16b0:=decide_eq_true c16
        clear c16
        by_cases c17 : x25_2 < (t507.length : Int)
        ·rw [if_pos c17] at H
         have c17b0:=decide_eq_true c17
         clear c17
         by_cases c18 : 0 ≤ (rd t507 x25_2)
         ·rw [if_pos c18] at H
          have c18b0:=decide_eq_true c18
          clear c18
          by_cases c19 : (rd t507 x25_2) < (l0_0.length : Int)
          ·rw [if_pos c19] at H
           have c19b0:=decide_eq_true c19
           clear c19
           replace H:=Option.bind_eq_some_iff.mp H
           obtain ⟨t512,A200,H⟩:=H
           try dsimp only at H
           have A20:=qA.mk A200
           clear A200
           by_cases c21 : t512 = true
           ·subst c21
            rw [if_pos rfl] at H
            have H':=qA.mk H
            clear H
            have p510 : 0 ≤ (x25_2 : Int):=of_decide_eq_true byag
            have q510 : x25_2 < (t507.length : Int):=of_decide_eq_true byag
            obtain ⟨ad510,e510,hx510_0⟩:=Kd.kW (Kd.uM HO_23.out).2.2 x25_2 p510 q510
            cases e510
            replace p510:=eq_true p510
            replace q510:=eq_true q510
            obtain ⟨hcz22_0,hfz22_0⟩:=cz1 BK504.out
            have p511 : 0 ≤ ((rd t507 x25_2) : Int):=of_decide_eq_true byag
            have q511 : (rd t507 x25_2) < (l0_0.length : Int):=of_decide_eq_true byag
            obtain ⟨ad511,A511_2,c511_2,A511_3,c511_3,e511,hx511_0,hx511_1,hx511_2,hx511_3,hl511_2,hi511_2,hl511_3,hi511_3⟩:=Zm HR0_0.out (rd t507 x25_2) p511 q511
            cases e511
            replace hx511_0:=(HB.out.cell (World.block_lt_of_cell? w _ hx511_0)).trans hx511_0
            replace hx511_1:=(HB.out.cell (World.block_lt_of_cell? w _ hx511_1)).trans hx511_1
            replace hx511_2:=(HB.out.cell (World.block_lt_of_cell? w _ hx511_2)).trans hx511_2
            replace hx511_3:=(HB.out.cell (World.block_lt_of_cell? w _ hx511_3)).trans hx511_3
            have HR511_2:=qA.mk hi511_2
            have HC511_2:=qA.mk hl511_2
            clear hi511_2 hl511_2
            have HR511_3:=qA.mk hi511_3
            have HC511_3:=qA.mk hl511_3
            clear hi511_3 hl511_3
            replace p511:=eq_true p511
            replace q511:=eq_true q511
            go_wp2_with (first|((with_reducible refine qI (f:=46) rfl ?_);refine qY (some 36) rfl rfl Try.func46 (by kernel_rfl) rfl #[.agg #[.int .i64 ((zD l0_0 (rd t507 x25_2)).f1.f0),.slice A511_2 ((zD l0_0 (rd t507 x25_2)).f1.f1).length c511_2,.slice A511_3 ((zD l0_0 (rd t507 x25_2)).f1.f2).length c511_3],.int .i64 a1] rfl byah ?_;(with_reducible refine (qV.calls k2 ((zD l0_0 (rd t507 x25_2)).f1.f0) _ _ ((zD l0_0 (rd t507 x25_2)).f1.f1) _ _ ((zD l0_0 (rd t507 x25_2)).f1.f2) a1 true _ ?side1 ?side2 ?side3 ?side4 A20.out).mono ?_);(case side1=>exact byaq HR511_2.out);(case side2=>exact HC511_2.out);(case side3=>exact byaq HR511_3.out);(case side4=>exact HC511_3.out);rintro e w23 ⟨rfl,hb⟩;refine ⟨_,rfl,?_⟩;have n_:=q_3 (Kd.uP (byav HO_23.out) hb) (qH BK504.out hb) (qC (byad GE504.out) hb);clear HO_23 BK504 HB;obtain ⟨HO_23,BK504,HB⟩:=n_;clear hb))
            go_roundg k2
            case measure=>have:=HJ2.out;have:=HK2.out;omega
            case rel=>exact ⟨(wrap64 (x25_2 + 1)),byae,H',⟨by have:=HJ2.out;have:=HK2.out;omega⟩,⟨byav HO_23.out⟩,⟨byaf BK504.out⟩,⟨byad GE504.out⟩⟩
           ·replace c21:=Bool.eq_false_iff.mpr c21
            subst c21
            rw [if_neg (show ¬ (false = true) by decide)] at H
            obtain rfl:=Option.some.inj H
            have p510 : 0 ≤ (x25_2 : Int):=of_decide_eq_true byag
            have q510 : x25_2 < (t507.length : Int):=of_decide_eq_true byag
            obtain ⟨ad510,e510,hx510_0⟩:=Kd.kW (Kd.uM HO_23.out).2.2 x25_2 p510 q510
            cases e510
            replace p510:=eq_true p510
            replace q510:=eq_true q510
            obtain ⟨hcz24_0,hfz24_0⟩:=cz1 BK504.out
            have p511 : 0 ≤ ((rd t507 x25_2) : Int):=of_decide_eq_true byag
            have q511 : (rd t507 x25_2) < (l0_0.length : Int):=of_decide_eq_true byag
            obtain ⟨ad511,A511_2,c511_2,A511_3,c511_3,e511,hx511_0,hx511_1,hx511_2,hx511_3,hl511_2,hi511_2,hl511_3,hi511_3⟩:=Zm HR0_0.out (rd t507 x25_2) p511 q511
            cases e511
            replace hx511_0:=(HB.out.cell (World.block_lt_of_cell? w _ hx511_0)).trans hx511_0
            replace hx511_1:=(HB.out.cell (World.block_lt_of_cell? w _ hx511_1)).trans hx511_1
            replace hx511_2:=(HB.out.cell (World.block_lt_of_cell? w _ hx511_2)).trans hx511_2
            replace hx511_3:=(HB.out.cell (World.block_lt_of_cell? w _ hx511_3)).trans hx511_3
            have HR511_2:=qA.mk hi511_2
            have HC511_2:=qA.mk hl511_2
            clear hi511_2 hl511_2
            have HR511_3:=qA.mk hi511_3
            have HC511_3:=qA.mk hl511_3
            clear hi511_3 hl511_3
            replace p511:=eq_true p511
            replace q511:=eq_true q511
            go_wp2_with (first|((with_reducible refine qI (f:=46) rfl ?_);refine qY (some 36) rfl rfl Try.func46 (by kernel_rfl) rfl #[.agg #[.int .i64 ((zD l0_0 (rd t507 x25_2)).f1.f0),.slice A511_2 ((zD l0_0 (rd t507 x25_2)).f1.f1).length c511_2,.slice A511_3 ((zD l0_0 (rd t507 x25_2)).f1.f2).length c511_3],.int .i64 a1] rfl byah ?_;(with_reducible refine (qV.calls k2 ((zD l0_0 (rd t507 x25_2)).f1.f0) _ _ ((zD l0_0 (rd t507 x25_2)).f1.f1) _ _ ((zD l0_0 (rd t507 x25_2)).f1.f2) a1 false _ ?side1 ?side2 ?side3 ?side4 A20.out).mono ?_);(case side1=>exact byaq HR511_2.out);(case side2=>exact HC511_2.out);(case side3=>exact byaq HR511_3.out);(case side4=>exact HC511_3.out);rintro e w25 ⟨rfl,hb⟩;refine ⟨_,rfl,?_⟩;have n_:=q_3 (Kd.uP (byav HO_23.out) hb) (qH BK504.out hb) (qC (byad GE504.out) hb);clear HO_23 BK504 HB;obtain ⟨HO_23,BK504,HB⟩:=n_;clear hb))
            go_ret
            exact ⟨byac,byad GE504.out⟩
          ·rw [if_neg c19] at H
           exact absurd H (by simp)
         ·rw [if_neg c18] at H
          exact absurd H (by simp)
        ·rw [if_neg c17] at H
         exact absurd H (by simp)
       ·rw [if_neg c16] at H
        exact absurd H (by simp)
      ·rw [if_neg c15] at H
       have c15b0:=decide_eq_false c15
       clear c15
       obtain rfl:=Option.some.inj H
       go_wp2
       go_ret
       exact ⟨byac,byad GE504.out⟩
end Go.Proofs.Ytkkbdimegpdbgaa.P
