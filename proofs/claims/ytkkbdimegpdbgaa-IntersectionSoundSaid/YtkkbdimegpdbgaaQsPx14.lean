/- Functions of the program as Lean functions, and the walks that show that the calls answer so; written by a program of this session (a changed print) and by hand. -/
import Derived.Test.YtkkbdimegpdbgaaQsPx0
import Derived.Test.YtkkbdimegpdbgaaQsPx11
import Derived.Test.YtkkbdimegpdbgaaQsPx12
import Derived.Test.YtkkbdimegpdbgaaQsPx13
namespace Go.Proofs.Ytkkbdimegpdbgaa.P
open Go.RowKit Go.Proofs.YtkkbdimegpdbgaaW.PrintWords Go.Proofs.YtkkbdimegpdbgaaW.PrintLast Go.Proofs.YtkkbdimegpdbgaaW.PrintMore
attribute [local go_sem] kF kD kV kU uJ uK kG kE
set_option linter.unusedVariables false
set_option linter.unusedSimpArgs false
mutual
def zC.j0 : Nat→Bool→Int→List Int→List (S56)→Option (Int)
 | 0,_,_,_,_=>none
 | k + 1,x24,x374000,x374001,x374002=>if x24 = true then (some 4) else (zC.l0 k x374001 (x374001.length : Int) 0 x374000 x374001 x374002)
def zC.l0 : Nat→List Int→Int→Int→Int→List Int→List (S56)→Option (Int)
 | 0,_,_,_,_,_,_=>none
 | k + 1,x26,x27,x28,x374000,x374001,x374002=>if x28 < x27 then (if 0 ≤ x28 then (if x28 < (x26.length : Int) then (if (rd x26 x28) < 0 then (some 5) else (if (rd x26 x28) ≥ 10 then (some 5) else (zC.l0 k x26 x27 (wrap64 (x28 + 1)) x374000 x374001 x374002))) else (none)) else (none)) else ((jR.f k x374001).bind fun bt375=>(if bt375.2 = 0 then (zC.l1 k x374002 (x374002.length : Int) 0) else (some bt375.2)))
def zC.l1 : Nat→List (S56)→Int→Int→Option (Int)
 | 0,_,_,_=>none
 | k + 1,x49,x50,x51=>if x51 < x50 then (if 0 ≤ x51 then (if x51 < (x49.length : Int) then ((zC.f k ((qM x49 x51).f0) ((qM x49 x51).f1) ((qM x49 x51).f2)).bind fun t379=>(if t379 = 0 then (zC.l1 k x49 x50 (wrap64 (x51 + 1))) else (some t379))) else (none)) else (none)) else (some 0)
def zC.f : Nat→Int→List Int→List (S56)→Option (Int)
 | 0,_,_,_=>none
 | k + 1,a0_0,l0_1,l0_2=>if a0_0 < 1 then (zC.j0 k true a0_0 l0_1 l0_2) else (zC.j0 k (decide (a0_0 > (wrap64 ((l0_1.length : Int) + (l0_2.length : Int))))) a0_0 l0_1 l0_2)
end
set_option maxHeartbeats 8000000 in
set_option maxRecDepth 100000 in
theorem zC.calls (k : Nat) : ∀ (a0_0 : Int) (A0_1 : Option Addr) (c0_1 : Nat) (l0_1 : List Int) (A0_2 : Option Addr) (c0_2 : Nat) (l0_2 : List (S56)) (r : Int) (w : World) (hr0_1 : Kd.C (Kd.int .i64) w A0_1 l0_1.length l0_1) (hc0_1 : l0_1.length ≤ c0_1) (hr0_2 : Kd.C k56 w A0_2 l0_2.length l0_2) (hc0_2 : l0_2.length ≤ c0_2) (h : zC.f k a0_0 l0_1 l0_2 = some r),
  Calls Try.prog 67 #[.agg #[.int .i64 a0_0,.slice A0_1 l0_1.length c0_1,.slice A0_2 l0_2.length c0_2]] w fun e w'=>e = .returned (.int .i64 r)∧Below w.heap.size w w':=by
 induction k using Nat.strongRecOn with
 | _ k ih =>
 intro a0_0 A0_1 c0_1 l0_1 A0_2 c0_2 l0_2 r w hr0_1 hc0_1 hr0_2 hc0_2 h
 cases k with
 | zero=>exact absurd h (by simp [zC.f])
 | succ k =>
 simp only [zC.f] at h
 have hu56:=Try.underlying56
 have HR0_1:=qA.mk hr0_1
 have HC0_1:=qA.mk hc0_1
 clear hr0_1 hc0_1
 have HR0_2:=qA.mk hr0_2
 have HC0_2:=qA.mk hc0_2
 clear hr0_2 hc0_2
 have HB:=qA.mk (Below.refl w.heap.size w)
 have H:=h
 clear h
 have HC2:=qA.mk H
 clear H
 go_enter Try.func67,Try.ntmps67
 go_upto_region 1 with (first|((with_reducible refine qP (N:=1) rfl ?_);(try (refine Ql (by rfl) ?_;dsimp only));refine zV (N:=1) (cs:=#[.int .i64 a0_0,.slice A0_1 l0_1.length c0_1,.slice A0_2 l0_2.length c0_2]) (t:=56) ?_;intro gb373 hg w3 hbox hb;have n_:=q_4 (qC byab hb) (hbox) ((byck : w.heap.size ≤ gb373)) ((byck : w.heap.size ≤ gb373));clear HB;obtain ⟨HB,BK373,GW373,GE373⟩:=n_;clear hb hbox hg))
 (try simp only [Act.put,List.setIfInBounds_toArray,List.set_cons_zero,List.set_cons_succ])
 go_cut [24] (fun v24 wc=>∃ (kq : Nat) (x24_1 : Bool),v24 = .bool x24_1∧qA (zC.j0 kq x24_1 a0_0 l0_1 l0_2 = some r)∧qA (kq ≤ k)∧qA (wc.heap[gb373]? = some (.cells #[.int .i64 a0_0,(.slice A0_1 l0_1.length c0_1),(.slice A0_2 l0_2.length c0_2)] 56 (0,0)))∧qA (Below w.heap.size w wc))
 case first =>
  have H:=HC2.out
  clear HC2
  by_cases c4 : a0_0 < 1
  ·rw [if_pos c4] at H
   have c4b0:=decide_eq_true c4
   clear c4
   (first|rw [c4b0]|(simp only [Qe,Qh];rw [c4b0])|skip)
   have H':=qA.mk H
   clear H
   obtain ⟨hcz5_0,hcz5_1,hcz5_2,hfz5_0,hfz5_1,hfz5_2⟩:=cz3 BK373.out
   go_wp2
   go_meet
   case rel=>exact ⟨_,(true),byae,H',⟨byap⟩,⟨byaf BK373.out⟩,⟨byad GE373.out⟩⟩
  ·rw [if_neg c4] at H
   have c4b0:=decide_eq_false c4
   clear c4
   (first|rw [c4b0]|(simp only [Qe,Qh];rw [c4b0])|skip)
   have H':=qA.mk H
   clear H
   obtain ⟨hcz6_0,hcz6_1,hcz6_2,hfz6_0,hfz6_1,hfz6_2⟩:=cz3 BK373.out
   go_wp2
   go_meet
   case rel=>exact ⟨_,(decide (a0_0 > (wrap64 ((l0_1.length : Int) + (l0_2.length : Int))))),byae,H',⟨byap⟩,⟨byaf BK373.out⟩,⟨byad GE373.out⟩⟩
 case rest =>
  clear HC2
  obtain ⟨kq,x24_1,rfl,HA,HJ1,BK373,HB⟩:=hcut
  cases kq with
  | zero=>exact absurd HA.out (by simp [zC.j0])
  | succ kj1 =>
   have H:=HA.out
   clear HA
   simp only [zC.j0] at H
   by_cases c7 : x24_1 = true
   ·subst c7
    rw [if_pos rfl] at H
    obtain rfl:=Option.some.inj H
    go_wp2
    go_ret
    exact ⟨byac,byad GE373.out⟩
   ·replace c7:=Bool.eq_false_iff.mpr c7
    subst c7
    rw [if_neg (show ¬ (false = true) by decide)] at H
    have H':=qA.mk H
    clear H
    obtain ⟨hcz8_0,hcz8_1,hcz8_2,hfz8_0,hfz8_1,hfz8_2⟩:=cz3 BK373.out
    go_wp2
    go_loopg [28] kj1 (fun kq v28 w'=>∃ (x28_2 : Int),v28 = .int .i64 x28_2∧qA (zC.l0 kq l0_1 (l0_1.length : Int) x28_2 a0_0 l0_1 l0_2 = some r)∧qA (kq ≤ kj1)∧qA (w'.heap[gb373]? = some (.cells #[.int .i64 a0_0,(.slice A0_1 l0_1.length c0_1),(.slice A0_2 l0_2.length c0_2)] 56 (0,0)))∧qA (Below w.heap.size w w'))
    case atStart=>exact ⟨(0),byae,H',⟨Nat.le_refl _⟩,⟨byaf BK373.out⟩,⟨byad GE373.out⟩⟩
    case round =>
     clear H'
     obtain ⟨x28_2,rfl,HA,HK2,BK373,HB⟩:=hrel
     cases gk with
     | zero=>exact absurd HA.out (by simp [zC.l0])
     | succ k2 =>
      have H:=HA.out
      clear HA
      simp only [zC.l0] at H
      by_cases c9 : x28_2 < (l0_1.length : Int)
      ·rw [if_pos c9] at H
       have c9b0:=decide_eq_true c9
       clear c9
       by_cases c10 : 0 ≤ x28_2
       ·rw [if_pos c10] at H
        have c10b0:=decide_eq_true c10
        clear c10
        by_cases c11 : x28_2 < (l0_1.length : Int)
        ·rw [if_pos c11] at H
         have c11b0:=decide_eq_true c11
         clear c11
         by_cases c12 : (rd l0_1 x28_2) < 0
         ·rw [if_pos c12] at H
          have c12b0:=decide_eq_true c12
          clear c12
          obtain rfl:=Option.some.inj H
          have p374 : 0 ≤ (x28_2 : Int):=of_decide_eq_true byag
          have q374 : x28_2 < (l0_1.length : Int):=of_decide_eq_true byag
          obtain ⟨ad374,e374,hx374_0⟩:=Kd.kW HR0_1.out x28_2 p374 q374
          cases e374
          replace hx374_0:=(HB.out.cell (World.block_lt_of_cell? w _ hx374_0)).trans hx374_0
          replace p374:=eq_true p374
          replace q374:=eq_true q374
          go_wp2
          go_ret
          exact ⟨byac,byad GE373.out⟩
         ·rw [if_neg c12] at H
          have c12b0:=decide_eq_false c12
          clear c12
          by_cases c13 : (rd l0_1 x28_2) ≥ 10
          ·rw [if_pos c13] at H
           have c13b0:=decide_eq_true c13
           clear c13
           obtain rfl:=Option.some.inj H
           have p374 : 0 ≤ (x28_2 : Int):=of_decide_eq_true byag
           have q374 : x28_2 < (l0_1.length : Int):=of_decide_eq_true byag
           obtain ⟨ad374,e374,hx374_0⟩:=Kd.kW HR0_1.out x28_2 p374 q374
           cases e374
           replace hx374_0:=(HB.out.cell (World.block_lt_of_cell? w _ hx374_0)).trans hx374_0
           replace p374:=eq_true p374
           replace q374:=eq_true q374
           go_wp2
           go_ret
           exact ⟨byac,byad GE373.out⟩
          ·rw [if_neg c13] at H
           have c13b0:=decide_eq_false c13
           clear c13
           have H':=qA.mk H
           clear H
           have p374 : 0 ≤ (x28_2 : Int):=of_decide_eq_true byag
           have q374 : x28_2 < (l0_1.length : Int):=of_decide_eq_true byag
           obtain ⟨ad374,e374,hx374_0⟩:=Kd.kW HR0_1.out x28_2 p374 q374
           cases e374
           replace hx374_0:=(HB.out.cell (World.block_lt_of_cell? w _ hx374_0)).trans hx374_0
           replace p374:=eq_true p374
           replace q374:=eq_true q374
           go_wp2
           go_roundg k2
           case measure=>have:=HJ1.out;have:=HK2.out;omega
           case rel=>exact ⟨(wrap64 (x28_2 + 1)),byae,H',⟨by have:=HJ1.out;have:=HK2.out;omega⟩,⟨byaf BK373.out⟩,⟨byad GE373.out⟩⟩
        ·rw [if_neg c11] at H
         exact absurd H (by simp)
       ·rw [if_neg c10] at H
        exact absurd H (by simp)
      ·rw [if_neg c9] at H
       have c9b0:=decide_eq_false c9
       clear c9
       replace H:=Option.bind_eq_some_iff.mp H
       obtain ⟨⟨t375,t376⟩,A140,H⟩:=H
       try dsimp only at H
       have A14:=qA.mk A140
       clear A140
       by_cases c15 : t376 = 0
       ·rw [if_pos c15] at H
        obtain ⟨c15b0,c15b1⟩:=eqT c15
        clear c15
        have H':=qA.mk H
        clear H
        obtain ⟨hcz16_0,hcz16_1,hcz16_2,hfz16_0,hfz16_1,hfz16_2⟩:=cz3 BK373.out
        go_wp2_with (first|((with_reducible refine qI (f:=80) rfl ?_);refine qY (some 42) rfl rfl Try.func80 (by kernel_rfl) rfl #[.slice A0_1 l0_1.length c0_1] rfl byah ?_;(with_reducible refine (jR.calls k2 _ _ l0_1 t375 t376 _ ?side1 ?side2 A14.out).mono ?_);(case side1=>exact byaq HR0_1.out);(case side2=>exact HC0_1.out);rintro e w' ⟨rfl,⟨nd,rfl⟩⟩;refine ⟨_,rfl,?_⟩))
        go_loopg [51] k2 (fun kq v51 w'=>∃ (x51_3 : Int),v51 = .int .i64 x51_3∧qA (zC.l1 kq l0_2 (l0_2.length : Int) x51_3 = some r)∧qA (kq ≤ k2)∧qA (w'.heap[gb373]? = some (.cells #[.int .i64 a0_0,(.slice A0_1 l0_1.length c0_1),(.slice A0_2 l0_2.length c0_2)] 56 (0,0)))∧qA (Below w.heap.size w w'))
        case atStart=>exact ⟨(0),byae,H',⟨Nat.le_refl _⟩,⟨byaf BK373.out⟩,⟨byad GE373.out⟩⟩
        case round =>
         clear H'
         try clear hx3
         try clear hx374_0
         obtain ⟨x51_3,rfl,HA,HK3,BK373,HB⟩:=hrel
         cases gk with
         | zero=>exact absurd HA.out (by simp [zC.l1])
         | succ k3 =>
          have H:=HA.out
          clear HA
          simp only [zC.l1] at H
          by_cases c17 : x51_3 < (l0_2.length : Int)
          ·rw [if_pos c17] at H
           have c17b0:=decide_eq_true c17
           clear c17
           by_cases c18 : 0 ≤ x51_3
           ·rw [if_pos c18] at H
            have c18b0:=decide_eq_true c18
            clear c18
            by_cases c19 : x51_3 < (l0_2.length : Int)
            ·rw [if_pos c19] at H
             have c19b0:=decide_eq_true c19
             clear c19
             replace H:=Option.bind_eq_some_iff.mp H
             obtain ⟨t379,A200,H⟩:=H
             try dsimp only at H
             have A20:=qA.mk A200
             clear A200
             by_cases c21 : t379 = 0
             ·rw [if_pos c21] at H
              obtain ⟨c21b0,c21b1⟩:=eqT c21
              clear c21
              have H':=qA.mk H
              clear H
              have p377 : 0 ≤ (x51_3 : Int):=of_decide_eq_true byag
              have q377 : x51_3 < (l0_2.length : Int):=of_decide_eq_true byag
              obtain ⟨ad377,A377_1,c377_1,A377_2,c377_2,e377,hx377_0,hx377_1,hx377_2,hl377_1,hi377_1,hl377_2,hi377_2⟩:=Zj HR0_2.out x51_3 p377 q377
              cases e377
              replace hx377_0:=(HB.out.cell (World.block_lt_of_cell? w _ hx377_0)).trans hx377_0
              replace hx377_1:=(HB.out.cell (World.block_lt_of_cell? w _ hx377_1)).trans hx377_1
              replace hx377_2:=(HB.out.cell (World.block_lt_of_cell? w _ hx377_2)).trans hx377_2
              have HR377_1:=qA.mk hi377_1
              have HC377_1:=qA.mk hl377_1
              clear hi377_1 hl377_1
              have HR377_2:=qA.mk hi377_2
              have HC377_2:=qA.mk hl377_2
              clear hi377_2 hl377_2
              replace p377:=eq_true p377
              replace q377:=eq_true q377
              go_wp2_with (first|((with_reducible refine qP (N:=8) rfl ?_);(try (refine Ql (by rfl) ?_;dsimp only));refine zV (N:=8) (cs:=#[.int .i64 0,.slice none 0 0,.slice none 0 0]) (t:=56) ?_;intro gb378 hg w22 hbox hb;have n_:=q_6 (qH BK373.out hb) (qC (byad GE373.out) hb) (hbox) ((bycl GE373.out : w.heap.size ≤ gb378)) ((bycl GE373.out : w.heap.size ≤ gb378)) ((by rw [hg];exact Nat.ne_of_lt (vF BK373.out) : gb373≠gb378));clear BK373 HB;obtain ⟨BK373,HB,BK378,GW378,GE378,NB373_378⟩:=n_;have NB378_373:=ns NB373_378;clear hb hbox hg;have hnb23:=NB378_373.out;have hnc23:=NB373_378.out;obtain ⟨hcz24_0,hcz24_1,hcz24_2,hfz24_0,hfz24_1,hfz24_2⟩:=cz3 BK378.out)|((with_reducible refine qI (f:=67) rfl ?_);refine qY (some 56) rfl rfl Try.func67 (by kernel_rfl) rfl #[.agg #[.int .i64 ((qM l0_2 x51_3).f0),.slice A377_1 ((qM l0_2 x51_3).f1).length c377_1,.slice A377_2 ((qM l0_2 x51_3).f2).length c377_2]] rfl byah ?_;(with_reducible refine (ih k3 (by have:=HJ1.out;have:=HK2.out;have:=HK3.out;omega) ((qM l0_2 x51_3).f0) _ _ ((qM l0_2 x51_3).f1) _ _ ((qM l0_2 x51_3).f2) t379 _ ?side1 ?side2 ?side3 ?side4 A20.out).mono ?_);(case side1=>exact Kd.vU HR377_1.out (byaj GE373.out GE378.out));(case side2=>exact HC377_1.out);(case side3=>exact Kd.vU HR377_2.out (byaj GE373.out GE378.out));(case side4=>exact HC377_2.out);rintro e w25 ⟨rfl,hb⟩;refine ⟨_,rfl,?_⟩;have n_:=q_3 (jQ (g:=gb373) (o:=.cells #[.int .i64 a0_0,.slice A0_1 l0_1.length c0_1,.slice (some ad377) l0_2.length c0_2] 56 (0,0)) (byak NB373_378.out BK373.out) hb) (jQ (g:=gb378) (o:=.cells #[.int .i64 ((qM l0_2 x51_3).f0),.slice A377_1 ((qM l0_2 x51_3).f1).length c377_1,.slice A377_2 ((qM l0_2 x51_3).f2).length c377_2] 56 (0,0)) (by (with_reducible repeat (first|refine qF ?_ _|refine qG ?_|refine qE ?_ _));refine qO (cs:=#[.int .i64 ((qM l0_2 x51_3).f0),.slice A377_1 ((qM l0_2 x51_3).f1).length c377_1,.slice none 0 0]) ?_ 2 _ rfl;(with_reducible repeat (first|refine qF ?_ _|refine qG ?_|refine qE ?_ _));refine qO (cs:=#[.int .i64 ((qM l0_2 x51_3).f0),.slice none 0 0,.slice none 0 0]) ?_ 1 _ rfl;(with_reducible repeat (first|refine qF ?_ _|refine qG ?_|refine qE ?_ _));refine qO (cs:=#[.int .i64 0,.slice none 0 0,.slice none 0 0]) ?_ 0 _ rfl;(with_reducible repeat (first|refine qF ?_ _|refine qG ?_|refine qE ?_ _));exact BK378.out) hb) (qC (byaj GE373.out GE378.out) hb);clear BK373 BK378 HB;obtain ⟨BK373,BK378,HB⟩:=n_;clear hb))
              go_roundg k3
              case measure=>have:=HJ1.out;have:=HK2.out;have:=HK3.out;omega
              case rel=>exact ⟨(wrap64 (x51_3 + 1)),byae,H',⟨by have:=HJ1.out;have:=HK2.out;have:=HK3.out;omega⟩,⟨byaf BK373.out⟩,⟨byaj GE373.out GE378.out⟩⟩
             ·rw [if_neg c21] at H
              obtain ⟨c21b0,c21b1⟩:=eqF c21
              obtain rfl:=Option.some.inj H
              have p377 : 0 ≤ (x51_3 : Int):=of_decide_eq_true byag
              have q377 : x51_3 < (l0_2.length : Int):=of_decide_eq_true byag
              obtain ⟨ad377,A377_1,c377_1,A377_2,c377_2,e377,hx377_0,hx377_1,hx377_2,hl377_1,hi377_1,hl377_2,hi377_2⟩:=Zj HR0_2.out x51_3 p377 q377
              cases e377
              replace hx377_0:=(HB.out.cell (World.block_lt_of_cell? w _ hx377_0)).trans hx377_0
              replace hx377_1:=(HB.out.cell (World.block_lt_of_cell? w _ hx377_1)).trans hx377_1
              replace hx377_2:=(HB.out.cell (World.block_lt_of_cell? w _ hx377_2)).trans hx377_2
              have HR377_1:=qA.mk hi377_1
              have HC377_1:=qA.mk hl377_1
              clear hi377_1 hl377_1
              have HR377_2:=qA.mk hi377_2
              have HC377_2:=qA.mk hl377_2
              clear hi377_2 hl377_2
              replace p377:=eq_true p377
              replace q377:=eq_true q377
              go_wp2_with (first|((with_reducible refine qP (N:=8) rfl ?_);(try (refine Ql (by rfl) ?_;dsimp only));refine zV (N:=8) (cs:=#[.int .i64 0,.slice none 0 0,.slice none 0 0]) (t:=56) ?_;intro gb378 hg w26 hbox hb;have n_:=q_6 (qH BK373.out hb) (qC (byad GE373.out) hb) (hbox) ((bycl GE373.out : w.heap.size ≤ gb378)) ((bycl GE373.out : w.heap.size ≤ gb378)) ((by rw [hg];exact Nat.ne_of_lt (vF BK373.out) : gb373≠gb378));clear BK373 HB;obtain ⟨BK373,HB,BK378,GW378,GE378,NB373_378⟩:=n_;have NB378_373:=ns NB373_378;clear hb hbox hg;have hnb27:=NB378_373.out;have hnc27:=NB373_378.out;obtain ⟨hcz28_0,hcz28_1,hcz28_2,hfz28_0,hfz28_1,hfz28_2⟩:=cz3 BK378.out)|((with_reducible refine qI (f:=67) rfl ?_);refine qY (some 56) rfl rfl Try.func67 (by kernel_rfl) rfl #[.agg #[.int .i64 ((qM l0_2 x51_3).f0),.slice A377_1 ((qM l0_2 x51_3).f1).length c377_1,.slice A377_2 ((qM l0_2 x51_3).f2).length c377_2]] rfl byah ?_;(with_reducible refine (ih k3 (by have:=HJ1.out;have:=HK2.out;have:=HK3.out;omega) ((qM l0_2 x51_3).f0) _ _ ((qM l0_2 x51_3).f1) _ _ ((qM l0_2 x51_3).f2) t379 _ ?side1 ?side2 ?side3 ?side4 A20.out).mono ?_);(case side1=>exact Kd.vU HR377_1.out (byaj GE373.out GE378.out));(case side2=>exact HC377_1.out);(case side3=>exact Kd.vU HR377_2.out (byaj GE373.out GE378.out));(case side4=>exact HC377_2.out);rintro e w29 ⟨rfl,hb⟩;refine ⟨_,rfl,?_⟩;have n_:=q_3 (jQ (g:=gb373) (o:=.cells #[.int .i64 a0_0,.slice A0_1 l0_1.length c0_1,.slice (some ad377) l0_2.length c0_2] 56 (0,0)) (byak NB373_378.out BK373.out) hb) (jQ (g:=gb378) (o:=.cells #[.int .i64 ((qM l0_2 x51_3).f0),.slice A377_1 ((qM l0_2 x51_3).f1).length c377_1,.slice A377_2 ((qM l0_2 x51_3).f2).length c377_2] 56 (0,0)) (by (with_reducible repeat (first|refine qF ?_ _|refine qG ?_|refine qE ?_ _));refine qO (cs:=#[.int .i64 ((qM l0_2 x51_3).f0),.slice A377_1 ((qM l0_2 x51_3).f1).length c377_1,.slice none 0 0]) ?_ 2 _ rfl;(with_reducible repeat (first|refine qF ?_ _|refine qG ?_|refine qE ?_ _));refine qO (cs:=#[.int .i64 ((qM l0_2 x51_3).f0),.slice none 0 0,.slice none 0 0]) ?_ 1 _ rfl;(with_reducible repeat (first|refine qF ?_ _|refine qG ?_|refine qE ?_ _));refine qO (cs:=#[.int .i64 0,.slice none 0 0,.slice none 0 0]) ?_ 0 _ rfl;(with_reducible repeat (first|refine qF ?_ _|refine qG ?_|refine qE ?_ _));exact BK378.out) hb) (qC (byaj GE373.out GE378.out) hb);clear BK373 BK378 HB;obtain ⟨BK373,BK378,HB⟩:=n_;clear hb))
              go_ret
              exact ⟨byac,byaj GE373.out GE378.out⟩
            ·rw [if_neg c19] at H
             exact absurd H (by simp)
           ·rw [if_neg c18] at H
            exact absurd H (by simp)
          ·rw [if_neg c17] at H
           have c17b0:=decide_eq_false c17
           clear c17
           obtain rfl:=Option.some.inj H
           go_wp2
           go_ret
           exact ⟨byac,byad GE373.out⟩
       ·rw [if_neg c15] at H
        obtain ⟨c15b0,c15b1⟩:=eqF c15
        obtain rfl:=Option.some.inj H
        obtain ⟨hcz30_0,hcz30_1,hcz30_2,hfz30_0,hfz30_1,hfz30_2⟩:=cz3 BK373.out
        go_wp2_with (first|((with_reducible refine qI (f:=80) rfl ?_);refine qY (some 42) rfl rfl Try.func80 (by kernel_rfl) rfl #[.slice A0_1 l0_1.length c0_1] rfl byah ?_;(with_reducible refine (jR.calls k2 _ _ l0_1 t375 t376 _ ?side1 ?side2 A14.out).mono ?_);(case side1=>exact byaq HR0_1.out);(case side2=>exact HC0_1.out);rintro e w' ⟨rfl,⟨nd,rfl⟩⟩;refine ⟨_,rfl,?_⟩))
        go_ret
        exact ⟨byac,byad GE373.out⟩
def vW.f (k : Nat) (a0_0 : Int) (l0_1 : List Int) (l0_2 : List (S56)) : Option (Int):=(jK.f k a0_0 l0_1 l0_2).bind fun t381=>(if t381 > 4 then (some 3) else ((jM.f k a0_0 l0_1 l0_2).bind fun t382=>(if t382 > 200 then (some 3) else ((zC.f k a0_0 l0_1 l0_2).bind fun t383=>(some t383)))))
set_option maxHeartbeats 8000000 in
set_option maxRecDepth 100000 in
theorem vW.calls (k : Nat) (a0_0 : Int) (A0_1 : Option Addr) (c0_1 : Nat) (l0_1 : List Int) (A0_2 : Option Addr) (c0_2 : Nat) (l0_2 : List (S56)) (r : Int) (w : World) (hr0_1 : Kd.C (Kd.int .i64) w A0_1 l0_1.length l0_1) (hc0_1 : l0_1.length ≤ c0_1) (hr0_2 : Kd.C k56 w A0_2 l0_2.length l0_2) (hc0_2 : l0_2.length ≤ c0_2) (h : vW.f k a0_0 l0_1 l0_2 = some r) :
  Calls Try.prog 48 #[.agg #[.int .i64 a0_0,.slice A0_1 l0_1.length c0_1,.slice A0_2 l0_2.length c0_2]] w fun e w'=>e = .returned (.int .i64 r)∧Below w.heap.size w w':=by
 have hu56:=Try.underlying56
 have HR0_1:=qA.mk hr0_1
 have HC0_1:=qA.mk hc0_1
 clear hr0_1 hc0_1
 have HR0_2:=qA.mk hr0_2
 have HC0_2:=qA.mk hc0_2
 clear hr0_2 hc0_2
 have HB:=qA.mk (Below.refl w.heap.size w)
 unfold vW.f at h
 have H:=h
 clear h
 replace H:=Option.bind_eq_some_iff.mp H
 obtain ⟨t381,A20,H⟩:=H
 try dsimp only at H
 have A2:=qA.mk A20
 clear A20
 by_cases c3 : t381 > 4
 ·rw [if_pos c3] at H
  have c3b0:=decide_eq_true c3
  clear c3
  obtain rfl:=Option.some.inj H
  go_enter Try.func48,Try.ntmps48
  go_wp2_with (first|((with_reducible refine qP (N:=1) rfl ?_);refine zV (N:=1) (cs:=#[.int .i64 a0_0,.slice A0_1 l0_1.length c0_1,.slice A0_2 l0_2.length c0_2]) (t:=56) ?_;intro gb380 hg w4 hbox hb;have n_:=q_4 (qC byab hb) (hbox) ((byck : w.heap.size ≤ gb380)) ((byck : w.heap.size ≤ gb380));clear HB;obtain ⟨HB,BK380,GW380,GE380⟩:=n_;clear hb hbox hg;obtain ⟨hcz5_0,hcz5_1,hcz5_2,hfz5_0,hfz5_1,hfz5_2⟩:=cz3 BK380.out)|((with_reducible refine qI (f:=65) rfl ?_);refine qY (some 4) rfl rfl Try.func65 (by kernel_rfl) rfl #[.agg #[.int .i64 a0_0,.slice A0_1 l0_1.length c0_1,.slice A0_2 l0_2.length c0_2]] rfl byah ?_;(with_reducible refine (jK.calls k a0_0 _ _ l0_1 _ _ l0_2 t381 _ ?side1 ?side2 ?side3 ?side4 A2.out).mono ?_);(case side1=>exact byaq HR0_1.out);(case side2=>exact HC0_1.out);(case side3=>exact byaq HR0_2.out);(case side4=>exact HC0_2.out);rintro e w6 ⟨rfl,hb⟩;refine ⟨_,rfl,?_⟩;have n_:=q_2 (qH BK380.out hb) (qC (byad GE380.out) hb);clear BK380 HB;obtain ⟨BK380,HB⟩:=n_;clear hb))
  go_ret
  exact ⟨byac,byad GE380.out⟩
 ·rw [if_neg c3] at H
  have c3b0:=decide_eq_false c3
  clear c3
  replace H:=Option.bind_eq_some_iff.mp H
  obtain ⟨t382,A70,H⟩:=H
  try dsimp only at H
  have A7:=qA.mk A70
  clear A70
  by_cases c8 : t382 > 200
  ·rw [if_pos c8] at H
   have c8b0:=decide_eq_true c8
   clear c8
   obtain rfl:=Option.some.inj H
   go_enter Try.func48,Try.ntmps48
   go_wp2_with (first|((with_reducible refine qP (N:=1) rfl ?_);refine zV (N:=1) (cs:=#[.int .i64 a0_0,.slice A0_1 l0_1.length c0_1,.slice A0_2 l0_2.length c0_2]) (t:=56) ?_;intro gb380 hg w9 hbox hb;have n_:=q_4 (qC byab hb) (hbox) ((byck : w.heap.size ≤ gb380)) ((byck : w.heap.size ≤ gb380));clear HB;obtain ⟨HB,BK380,GW380,GE380⟩:=n_;clear hb hbox hg;obtain ⟨hcz10_0,hcz10_1,hcz10_2,hfz10_0,hfz10_1,hfz10_2⟩:=cz3 BK380.out)|((with_reducible refine qI (f:=65) rfl ?_);refine qY (some 4) rfl rfl Try.func65 (by kernel_rfl) rfl #[.agg #[.int .i64 a0_0,.slice A0_1 l0_1.length c0_1,.slice A0_2 l0_2.length c0_2]] rfl byah ?_;(with_reducible refine (jK.calls k a0_0 _ _ l0_1 _ _ l0_2 t381 _ ?side1 ?side2 ?side3 ?side4 A2.out).mono ?_);(case side1=>exact byaq HR0_1.out);(case side2=>exact HC0_1.out);(case side3=>exact byaq HR0_2.out);(case side4=>exact HC0_2.out);rintro e w11 ⟨rfl,hb⟩;refine ⟨_,rfl,?_⟩;have n_:=q_2 (qH BK380.out hb) (qC (byad GE380.out) hb);clear BK380 HB;obtain ⟨BK380,HB⟩:=n_;clear hb;obtain ⟨hcz12_0,hcz12_1,hcz12_2,hfz12_0,hfz12_1,hfz12_2⟩:=cz3 BK380.out)|(go_at_call 66;(with_reducible refine (jM.calls k a0_0 _ _ l0_1 _ _ l0_2 t382 _ ?side1 ?side2 ?side3 ?side4 A7.out).mono ?_);(case side1=>exact byaq HR0_1.out);(case side2=>exact HC0_1.out);(case side3=>exact byaq HR0_2.out);(case side4=>exact HC0_2.out);rintro e w13 ⟨rfl,hb⟩;have n_:=q_2 (qH BK380.out hb) (qC (byad GE380.out) hb);clear BK380 HB;obtain ⟨BK380,HB⟩:=n_;clear hb))
   go_ret
   exact ⟨byac,byad GE380.out⟩
  ·rw [if_neg c8] at H
   have c8b0:=decide_eq_false c8
   clear c8
   replace H:=Option.bind_eq_some_iff.mp H
   obtain ⟨t383,A140,H⟩:=H
   try dsimp only at H
   have A14:=qA.mk A140
   clear A140
   obtain rfl:=Option.some.inj H
   go_enter Try.func48,Try.ntmps48
   go_wp2_with (first|((with_reducible refine qP (N:=1) rfl ?_);refine zV (N:=1) (cs:=#[.int .i64 a0_0,.slice A0_1 l0_1.length c0_1,.slice A0_2 l0_2.length c0_2]) (t:=56) ?_;intro gb380 hg w15 hbox hb;have n_:=q_4 (qC byab hb) (hbox) ((byck : w.heap.size ≤ gb380)) ((byck : w.heap.size ≤ gb380));clear HB;obtain ⟨HB,BK380,GW380,GE380⟩:=n_;clear hb hbox hg;obtain ⟨hcz16_0,hcz16_1,hcz16_2,hfz16_0,hfz16_1,hfz16_2⟩:=cz3 BK380.out)|((with_reducible refine qI (f:=65) rfl ?_);refine qY (some 4) rfl rfl Try.func65 (by kernel_rfl) rfl #[.agg #[.int .i64 a0_0,.slice A0_1 l0_1.length c0_1,.slice A0_2 l0_2.length c0_2]] rfl byah ?_;(with_reducible refine (jK.calls k a0_0 _ _ l0_1 _ _ l0_2 t381 _ ?side1 ?side2 ?side3 ?side4 A2.out).mono ?_);(case side1=>exact byaq HR0_1.out);(case side2=>exact HC0_1.out);(case side3=>exact byaq HR0_2.out);(case side4=>exact HC0_2.out);rintro e w17 ⟨rfl,hb⟩;refine ⟨_,rfl,?_⟩;have n_:=q_2 (qH BK380.out hb) (qC (byad GE380.out) hb);clear BK380 HB;obtain ⟨BK380,HB⟩:=n_;clear hb;obtain ⟨hcz18_0,hcz18_1,hcz18_2,hfz18_0,hfz18_1,hfz18_2⟩:=cz3 BK380.out)|(go_at_call 66;(with_reducible refine (jM.calls k a0_0 _ _ l0_1 _ _ l0_2 t382 _ ?side1 ?side2 ?side3 ?side4 A7.out).mono ?_);(case side1=>exact byaq HR0_1.out);(case side2=>exact HC0_1.out);(case side3=>exact byaq HR0_2.out);(case side4=>exact HC0_2.out);rintro e w19 ⟨rfl,hb⟩;have n_:=q_2 (qH BK380.out hb) (qC (byad GE380.out) hb);clear BK380 HB;obtain ⟨BK380,HB⟩:=n_;clear hb;obtain ⟨hcz20_0,hcz20_1,hcz20_2,hfz20_0,hfz20_1,hfz20_2⟩:=cz3 BK380.out)|((with_reducible refine qI (f:=67) rfl ?_);refine qY (some 12) rfl rfl Try.func67 (by kernel_rfl) rfl #[.agg #[.int .i64 a0_0,.slice A0_1 l0_1.length c0_1,.slice A0_2 l0_2.length c0_2]] rfl byah ?_;(with_reducible refine (zC.calls k a0_0 _ _ l0_1 _ _ l0_2 t383 _ ?side1 ?side2 ?side3 ?side4 A14.out).mono ?_);(case side1=>exact byaq HR0_1.out);(case side2=>exact HC0_1.out);(case side3=>exact byaq HR0_2.out);(case side4=>exact HC0_2.out);rintro e w21 ⟨rfl,hb⟩;refine ⟨_,rfl,?_⟩;have n_:=q_2 (qH BK380.out hb) (qC (byad GE380.out) hb);clear BK380 HB;obtain ⟨BK380,HB⟩:=n_;clear hb))
   go_ret
   exact ⟨byac,byad GE380.out⟩
def kH.f (k : Nat) (s0_0 : List Int) (s0_1 : Int) (a1 : Int) (a2 : Int) : Option (Int × List Int × (List (S56)) × Int):=(qR.f k s0_0 s0_1 a1 a2).bind fun bt385=>((vW.f k bt385.1 bt385.2.1 bt385.2.2.1).bind fun t394=>(if t394 = 0 then (some (bt385.1,bt385.2.1,bt385.2.2.1,bt385.2.2.2)) else ((qZ.f s0_0 bt385.2.2.2 a1).bind fun bt395=>(some (1,(([bt395.1] : List Int)),([] : List (S56)),bt395.2)))))
set_option maxHeartbeats 8000000 in
set_option maxRecDepth 100000 in
theorem kH.calls (k : Nat) (g : Nat) (s0_0 : List Int) (s0_1 : Int) (a1 : Int) (a2 : Int) (r1 : Int) (r2 : List Int) (r3 : List (S56)) (r4 : Int) (w0 w : World) (hI : qB w0 w g s0_0 s0_1) (hB : Below w0.heap.size w0 w) (h : kH.f k s0_0 s0_1 a1 a2 = some (r1,r2,r3,r4)) :
  Calls Try.prog 30 #[.pointer (some ⟨g,0,none⟩),.int .i64 a1,.int .i64 a2] w fun e w'=>∃ v1_ v2_ : Value,e = .returned (.agg #[.int .i64 r1,v1_,v2_])∧Kd.R (Kd.int .i64) 3 w' w.heap.size (fun _=>True) v1_ r2∧Kd.R k56 56 w' w.heap.size (fun k_=>some k_≠(v1_ : Value).ownBlock) v2_ r3∧qB w0 w' g s0_0 r4∧Below w0.heap.size w0 w'∧qJ w w' g none:=by
 have hu56:=Try.underlying56
 have HI0:=qA.mk hI
 have HK:=qA.mk (qJ.refl w g none)
 have HL:=qA.mk hB.size
 clear hI
 have HW0:=qA.mk hB.size
 have HB:=qA.mk hB
 clear hB
 unfold kH.f at h
 have H:=h
 clear h
 replace H:=Option.bind_eq_some_iff.mp H
 obtain ⟨⟨t385,t386,t389,t392⟩,A40,H⟩:=H
 try dsimp only at H
 have A4:=qA.mk A40
 clear A40
 replace H:=Option.bind_eq_some_iff.mp H
 obtain ⟨t394,A50,H⟩:=H
 try dsimp only at H
 have A5:=qA.mk A50
 clear A50
 by_cases c6 : t394 = 0
 ·rw [if_pos c6] at H
  obtain ⟨c6b0,c6b1⟩:=eqT c6
  clear c6
  simp only [Option.some.injEq,Prod.mk.injEq] at H
  obtain ⟨rfl,rfl,rfl,rfl⟩:=H
  go_enter Try.func30,Try.ntmps30
  go_wp2_with (first|((with_reducible refine qP (N:=6) rfl ?_);refine zV (N:=6) (cs:=#[.int .i64 0,.slice none 0 0,.slice none 0 0]) (t:=56) ?_;intro gb384 hg w7 hbox hb;have n_:=q_7 (qB.below (bybj HI0.out) hb) (qJ.trans bybl (qJ.of_below hb g none) (.inl rfl)) (qC (bybk HI0.out) hb) (hbox) ((byco : w.heap.size ≤ gb384)) ((Nat.le_trans HW0.out (byco : w.heap.size ≤ gb384) : w0.heap.size ≤ gb384)) ((by rw [hg];exact Nat.ne_of_lt (qB.lt (show qB w0 _ g s0_0 s0_1 from by repeat (first|(with_reducible first|exact HI0.out|apply qB.alloc|apply qB.drewN|apply qB.drew|apply qB.vZ)|exact HI0.out))) : g≠gb384));clear HI0 HK HB;obtain ⟨HI0,HK,HB,BK384,GW384,GE384,NB0_384⟩:=n_;have NB384_0:=ns NB0_384;clear hb hbox hg)|((with_reducible refine qI (f:=47) rfl ?_);refine qY (some 11) rfl rfl Try.func47 (by kernel_rfl) rfl #[.pointer (some ⟨g,0,none⟩),.int .i64 a1,.int .i64 a2] rfl byah ?_;(with_reducible refine (qR.calls k g s0_0 s0_1 a1 a2 t385 t386 t389 t392 w0 _ ?side1 ?side2 A4.out).mono ?_);(case side1=>exact bybm HI0.out NB0_384.out);(case side2=>exact bybo HI0.out GE384.out);rintro e w8 ⟨v387,v390,rfl,ho0,ho1,hi,hb,hk⟩;refine ⟨_,rfl,?_⟩;have n_:=q_6 (qJ.blkB hk BK384.out NB384_0.out (by simp)) (Kd.uZ ho0 (vM (w:=w) (g:=g) (row:=none) (bybn GW384.out))) (Kd.uZ (Kd.Zw ho1 (g:=gb384) (o:=.cells #[.int .i64 0,.slice none 0 0,.slice none 0 0] 56 (0,0)) (byaf BK384.out)) (vM (w:=w) (g:=g) (row:=none) (bybn GW384.out))) (qJ.trans (bybn GW384.out) hk (.inl rfl)) (hb) (hi);clear BK384 HK HB HI0;obtain ⟨BK384,HO388,HO391,HK,HB,HI0⟩:=n_;clear hb hk hi;(try clear ho0);(try clear ho1))|((with_reducible refine qP (N:=7) rfl ?_);refine zV (N:=7) (cs:=#[.int .i64 0,.slice none 0 0,.slice none 0 0]) (t:=56) ?_;intro gb393 hg w9 hbox hb;have n_:=q_11 (Kd.uP (byav HO388.out) hb) (Kd.uP (Kd.Zy (byav HO391.out) gb393 (Nat.le_of_eq hg.symm)) hb) (qB.below (bybm HI0.out NB0_384.out) hb) (qH BK384.out hb) (qJ.trans (bybn GW384.out) (qJ.of_below hb g none) (.inl rfl)) (qC (bybo HI0.out GE384.out) hb) (hbox) ((bycp GW384.out : w.heap.size ≤ gb393)) ((Nat.le_trans HW0.out (bycp GW384.out : w.heap.size ≤ gb393) : w0.heap.size ≤ gb393)) ((by rw [hg];exact Nat.ne_of_lt (vF BK384.out) : gb384≠gb393)) ((by rw [hg];exact Nat.ne_of_lt (qB.lt (show qB w0 _ g s0_0 t392 from by repeat (first|(with_reducible first|exact HI0.out|apply qB.alloc|apply qB.drewN|apply qB.drew|apply qB.vZ|refine qB.far ?_ NB0_384.out _)|exact HI0.out))) : g≠gb393));clear HO388 HO391 HI0 BK384 HK HB;obtain ⟨HO388,HO391,HI0,BK384,HK,HB,BK393,GW393,GE393,NB384_393,NB0_393⟩:=n_;have NB393_384:=ns NB384_393;have NB393_0:=ns NB0_393;clear hb hbox hg;have hnb10:=NB393_384.out;have hnc10:=NB384_393.out;have hnb11:=NB393_0.out;have hnc11:=NB0_393.out;obtain ⟨hcz12_0,hcz12_1,hcz12_2,hfz12_0,hfz12_1,hfz12_2⟩:=cz3 BK393.out;obtain ⟨Ao13,co13,eo13⟩:=Kd.vJ HO388.out;subst eo13;obtain ⟨Ao14,co14,eo14⟩:=Kd.vJ HO391.out;subst eo14)|((with_reducible refine qI (f:=48) rfl ?_);refine qY (some 13) rfl rfl Try.func48 (by kernel_rfl) rfl #[.agg #[.int .i64 t385,.slice Ao13 t386.length co13,.slice Ao14 t389.length co14]] rfl byah ?_;(with_reducible refine (vW.calls k t385 _ _ t386 _ _ t389 t394 _ ?side1 ?side2 ?side3 ?side4 A5.out).mono ?_);(case side1=>refine (Kd.uM (e:=3) (base:=w.heap.size) (ok:=fun k_=>True) (n:=t386.length) (c:=co13) ?_).2.2;exact (by (with_reducible repeat (first|apply Kd.jP|apply Kd.jO|apply Kd.jZ));exact (Kd.zB (Kd.jF (p:=⟨gb393,2,none⟩) (Kd.jF (p:=⟨gb393,1,none⟩) (Kd.jF (p:=⟨gb393,0,none⟩) (Kd.uB HO388.out BK393.out (by decide)) (fun _ hk=>hk.2) (.int .i64 t385)) (fun _ hk=>hk.2) (.slice Ao13 t386.length co13)) (fun _ hk=>hk.2) (.slice Ao14 t389.length co14)) (fun _ h_=>h_.1))));(case side2=>exact (Kd.uM HO388.out).2.1);(case side3=>refine (Kd.uM (e:=56) (base:=w.heap.size) (ok:=fun k_=>((some k_≠(.slice Ao13 t386.length co13 : Value).ownBlock∧k_≠gb384)∧k_≠gb393)) (n:=t389.length) (c:=co14) ?_).2.2;exact (by (with_reducible repeat (first|apply Kd.jP|apply Kd.jO|apply Kd.jZ));exact (Kd.zB (Kd.jF (p:=⟨gb393,2,none⟩) (Kd.jF (p:=⟨gb393,1,none⟩) (Kd.jF (p:=⟨gb393,0,none⟩) (Kd.zB HO391.out (fun k_ hk=>(⟨hk,hk.2⟩ : _∧k_≠gb393))) (fun _ hk=>hk.2) (.int .i64 t385)) (fun _ hk=>hk.2) (.slice Ao13 t386.length co13)) (fun _ hk=>hk.2) (.slice Ao14 t389.length co14)) (fun _ h_=>h_.1))));(case side4=>exact (Kd.uM HO391.out).2.1);rintro e w15 ⟨rfl,hb⟩;refine ⟨_,rfl,?_⟩;have n_:=q_7 (Kd.uP (by (with_reducible repeat (first|apply Kd.jP|apply Kd.jO|apply Kd.jZ));exact (Kd.zB (Kd.jF (p:=⟨gb393,2,none⟩) (Kd.jF (p:=⟨gb393,1,none⟩) (Kd.jF (p:=⟨gb393,0,none⟩) (Kd.uB HO388.out BK393.out (by decide)) (fun _ hk=>hk.2) (.int .i64 t385)) (fun _ hk=>hk.2) (.slice Ao13 t386.length co13)) (fun _ hk=>hk.2) (.slice Ao14 t389.length co14)) (fun _ h_=>h_.1))) hb) (Kd.uP (by (with_reducible repeat (first|apply Kd.jP|apply Kd.jO|apply Kd.jZ));exact (Kd.zB (Kd.jF (p:=⟨gb393,2,none⟩) (Kd.jF (p:=⟨gb393,1,none⟩) (Kd.jF (p:=⟨gb393,0,none⟩) (Kd.zB HO391.out (fun k_ hk=>(⟨hk,hk.2⟩ : _∧k_≠gb393))) (fun _ hk=>hk.2) (.int .i64 t385)) (fun _ hk=>hk.2) (.slice Ao13 t386.length co13)) (fun _ hk=>hk.2) (.slice Ao14 t389.length co14)) (fun _ h_=>h_.1))) hb) (qB.below (show qB w0 (((w9.setCell ⟨gb393,0,none⟩ (.int .i64 t385)).setCell ⟨gb393,1,none⟩ (.slice Ao13 t386.length co13)).setCell ⟨gb393,2,none⟩ (.slice Ao14 t389.length co14)) g s0_0 t392 from by repeat (first|(with_reducible first|exact HI0.out|apply qB.alloc|apply qB.drewN|apply qB.drew|apply qB.vZ|refine qB.far ?_ NB0_384.out _|refine qB.far ?_ NB0_393.out _)|exact HI0.out)) hb) (jQ (g:=gb384) (o:=.cells #[.int .i64 0,.slice none 0 0,.slice none 0 0] 56 (0,0)) (byak NB384_393.out BK384.out) hb) (jQ (g:=gb393) (o:=.cells #[.int .i64 t385,.slice Ao13 t386.length co13,.slice Ao14 t389.length co14] 56 (0,0)) (by (with_reducible repeat (first|refine qF ?_ _|refine qG ?_|refine qE ?_ _));refine qO (cs:=#[.int .i64 t385,.slice Ao13 t386.length co13,.slice none 0 0]) ?_ 2 _ rfl;(with_reducible repeat (first|refine qF ?_ _|refine qG ?_|refine qE ?_ _));refine qO (cs:=#[.int .i64 t385,.slice none 0 0,.slice none 0 0]) ?_ 1 _ rfl;(with_reducible repeat (first|refine qF ?_ _|refine qG ?_|refine qE ?_ _));refine qO (cs:=#[.int .i64 0,.slice none 0 0,.slice none 0 0]) ?_ 0 _ rfl;(with_reducible repeat (first|refine qF ?_ _|refine qG ?_|refine qE ?_ _));exact BK393.out) hb) (qJ.trans (bybr GW384.out GW393.out) (qJ.of_below hb g none) (.inl rfl)) (qC (bybq HI0.out GE384.out GE393.out) hb);clear HO388 HO391 HI0 BK384 BK393 HK HB;obtain ⟨HO388,HO391,HI0,BK384,BK393,HK,HB⟩:=n_;clear hb;obtain ⟨hcz16_0,hcz16_1,hcz16_2,hfz16_0,hfz16_1,hfz16_2⟩:=cz3 BK393.out;have hnb17:=NB384_0.out;have hnc17:=NB0_384.out;obtain ⟨hcz18_0,hcz18_1,hcz18_2,hfz18_0,hfz18_1,hfz18_2⟩:=cz3 BK384.out))
  refine bodyPost_ret (results_cell_row rfl _ _ gb384 56 #[.int .i64 t385,.slice Ao13 t386.length co13,.slice Ao14 t389.length co14] (0,0) _ rfl (by (with_reducible repeat (first|refine qF ?_ _|refine qG ?_|refine qE ?_ _));refine qO (cs:=#[.int .i64 t385,.slice Ao13 t386.length co13,.slice none 0 0]) ?_ 2 _ rfl;(with_reducible repeat (first|refine qF ?_ _|refine qG ?_|refine qE ?_ _));refine qO (cs:=#[.int .i64 t385,.slice none 0 0,.slice none 0 0]) ?_ 1 _ rfl;(with_reducible repeat (first|refine qF ?_ _|refine qG ?_|refine qE ?_ _));refine qO (cs:=#[.int .i64 0,.slice none 0 0,.slice none 0 0]) ?_ 0 _ rfl;(with_reducible repeat (first|refine qF ?_ _|refine qG ?_|refine qE ?_ _));exact BK384.out) Try.underlying56 rfl (by kernel_rfl)) rfl ?_
  exact ⟨_,_,byac,by (with_reducible repeat (first|apply Kd.jP|apply Kd.jO|apply Kd.jZ));exact Kd.zB (Kd.jF (p:=⟨gb384,2,none⟩) (Kd.jF (p:=⟨gb384,1,none⟩) (Kd.jF (p:=⟨gb384,0,none⟩) (Kd.uB HO388.out BK384.out (by decide)) (fun _ hk=>hk.2) (.int .i64 t385)) (fun _ hk=>hk.2) (.slice Ao13 t386.length co13)) (fun _ hk=>hk.2) (.slice Ao14 t389.length co14)) (fun _ hk=>trivial),by (with_reducible repeat (first|apply Kd.jP|apply Kd.jO|apply Kd.jZ));exact Kd.zB (Kd.jF (p:=⟨gb384,2,none⟩) (Kd.jF (p:=⟨gb384,1,none⟩) (Kd.jF (p:=⟨gb384,0,none⟩) (Kd.zB HO391.out (fun k_ hk=>(⟨hk,hk.1.2⟩ : _∧k_≠gb384))) (fun _ hk=>hk.2) (.int .i64 t385)) (fun _ hk=>hk.2) (.slice Ao13 t386.length co13)) (fun _ hk=>hk.2) (.slice Ao14 t389.length co14)) (fun _ hk=>hk.1.1.1),bybp HI0.out NB0_384.out NB0_393.out,bybq HI0.out GE384.out GE393.out,bybr GW384.out GW393.out⟩
 ·rw [if_neg c6] at H
  obtain ⟨c6b0,c6b1⟩:=eqF c6
  replace H:=Option.bind_eq_some_iff.mp H
  obtain ⟨⟨t395,t396⟩,A190,H⟩:=H
  try dsimp only at H
  have A19:=qA.mk A190
  clear A190
  obtain ⟨y397,hy397⟩ : ∃ y_ : List Int,y_ = (([t395] : List Int)):=⟨_,rfl⟩
  replace H : (some (1,y397,([] : List (S56)),t396)) = some (r1,r2,r3,r4):=by first|(rw [hy397];with_reducible exact H)|(have H2_:=(Option.bind_some _ _).symm.trans H;rw [hy397];with_reducible exact H2_)|(have H2_:=(Option.bind_some _ _).symm.trans H;with_reducible exact H2_)|with_reducible exact H|(rw [hy397];exact H)|exact H
  have Ny397:=qA.mk hy397
  clear hy397
  simp only [Option.some.injEq,Prod.mk.injEq] at H
  obtain ⟨rfl,rfl,rfl,rfl⟩:=H
  go_enter Try.func30,Try.ntmps30
  go_wp2_with (first|((with_reducible refine qP (N:=6) rfl ?_);refine zV (N:=6) (cs:=#[.int .i64 0,.slice none 0 0,.slice none 0 0]) (t:=56) ?_;intro gb384 hg w20 hbox hb;have n_:=q_7 (qB.below (bybj HI0.out) hb) (qJ.trans bybl (qJ.of_below hb g none) (.inl rfl)) (qC (bybk HI0.out) hb) (hbox) ((byco : w.heap.size ≤ gb384)) ((Nat.le_trans HW0.out (byco : w.heap.size ≤ gb384) : w0.heap.size ≤ gb384)) ((by rw [hg];exact Nat.ne_of_lt (qB.lt (show qB w0 _ g s0_0 s0_1 from by repeat (first|(with_reducible first|exact HI0.out|apply qB.alloc|apply qB.drewN|apply qB.drew|apply qB.vZ)|exact HI0.out))) : g≠gb384));clear HI0 HK HB;obtain ⟨HI0,HK,HB,BK384,GW384,GE384,NB0_384⟩:=n_;have NB384_0:=ns NB0_384;clear hb hbox hg)|((with_reducible refine qI (f:=47) rfl ?_);refine qY (some 11) rfl rfl Try.func47 (by kernel_rfl) rfl #[.pointer (some ⟨g,0,none⟩),.int .i64 a1,.int .i64 a2] rfl byah ?_;(with_reducible refine (qR.calls k g s0_0 s0_1 a1 a2 t385 t386 t389 t392 w0 _ ?side1 ?side2 A4.out).mono ?_);(case side1=>exact bybm HI0.out NB0_384.out);(case side2=>exact bybo HI0.out GE384.out);rintro e w21 ⟨v387,v390,rfl,ho0,ho1,hi,hb,hk⟩;refine ⟨_,rfl,?_⟩;have n_:=q_6 (qJ.blkB hk BK384.out NB384_0.out (by simp)) (Kd.uZ ho0 (vM (w:=w) (g:=g) (row:=none) (bybn GW384.out))) (Kd.uZ (Kd.Zw ho1 (g:=gb384) (o:=.cells #[.int .i64 0,.slice none 0 0,.slice none 0 0] 56 (0,0)) (byaf BK384.out)) (vM (w:=w) (g:=g) (row:=none) (bybn GW384.out))) (qJ.trans (bybn GW384.out) hk (.inl rfl)) (hb) (hi);clear BK384 HK HB HI0;obtain ⟨BK384,HO388,HO391,HK,HB,HI0⟩:=n_;clear hb hk hi;(try clear ho0);(try clear ho1))|((with_reducible refine qP (N:=7) rfl ?_);refine zV (N:=7) (cs:=#[.int .i64 0,.slice none 0 0,.slice none 0 0]) (t:=56) ?_;intro gb393 hg w22 hbox hb;have n_:=q_11 (Kd.uP (byav HO388.out) hb) (Kd.uP (Kd.Zy (byav HO391.out) gb393 (Nat.le_of_eq hg.symm)) hb) (qB.below (bybm HI0.out NB0_384.out) hb) (qH BK384.out hb) (qJ.trans (bybn GW384.out) (qJ.of_below hb g none) (.inl rfl)) (qC (bybo HI0.out GE384.out) hb) (hbox) ((bycp GW384.out : w.heap.size ≤ gb393)) ((Nat.le_trans HW0.out (bycp GW384.out : w.heap.size ≤ gb393) : w0.heap.size ≤ gb393)) ((by rw [hg];exact Nat.ne_of_lt (vF BK384.out) : gb384≠gb393)) ((by rw [hg];exact Nat.ne_of_lt (qB.lt (show qB w0 _ g s0_0 t392 from by repeat (first|(with_reducible first|exact HI0.out|apply qB.alloc|apply qB.drewN|apply qB.drew|apply qB.vZ|refine qB.far ?_ NB0_384.out _)|exact HI0.out))) : g≠gb393));clear HO388 HO391 HI0 BK384 HK HB;obtain ⟨HO388,HO391,HI0,BK384,HK,HB,BK393,GW393,GE393,NB384_393,NB0_393⟩:=n_;have NB393_384:=ns NB384_393;have NB393_0:=ns NB0_393;clear hb hbox hg;have hnb23:=NB393_384.out;have hnc23:=NB384_393.out;have hnb24:=NB393_0.out;have hnc24:=NB0_393.out;obtain ⟨hcz25_0,hcz25_1,hcz25_2,hfz25_0,hfz25_1,hfz25_2⟩:=cz3 BK393.out;obtain ⟨Ao26,co26,eo26⟩:=Kd.vJ HO388.out;subst eo26;obtain ⟨Ao27,co27,eo27⟩:=Kd.vJ HO391.out;subst eo27)|((with_reducible refine qI (f:=48) rfl ?_);refine qY (some 13) rfl rfl Try.func48 (by kernel_rfl) rfl #[.agg #[.int .i64 t385,.slice Ao26 t386.length co26,.slice Ao27 t389.length co27]] rfl byah ?_;(with_reducible refine (vW.calls k t385 _ _ t386 _ _ t389 t394 _ ?side1 ?side2 ?side3 ?side4 A5.out).mono ?_);(case side1=>refine (Kd.uM (e:=3) (base:=w.heap.size) (ok:=fun k_=>True) (n:=t386.length) (c:=co26) ?_).2.2;exact (by (with_reducible repeat (first|apply Kd.jP|apply Kd.jO|apply Kd.jZ));exact (Kd.zB (Kd.jF (p:=⟨gb393,2,none⟩) (Kd.jF (p:=⟨gb393,1,none⟩) (Kd.jF (p:=⟨gb393,0,none⟩) (Kd.uB HO388.out BK393.out (by decide)) (fun _ hk=>hk.2) (.int .i64 t385)) (fun _ hk=>hk.2) (.slice Ao26 t386.length co26)) (fun _ hk=>hk.2) (.slice Ao27 t389.length co27)) (fun _ h_=>h_.1))));(case side2=>exact (Kd.uM HO388.out).2.1);(case side3=>refine (Kd.uM (e:=56) (base:=w.heap.size) (ok:=fun k_=>((some k_≠(.slice Ao26 t386.length co26 : Value).ownBlock∧k_≠gb384)∧k_≠gb393)) (n:=t389.length) (c:=co27) ?_).2.2;exact (by (with_reducible repeat (first|apply Kd.jP|apply Kd.jO|apply Kd.jZ));exact (Kd.zB (Kd.jF (p:=⟨gb393,2,none⟩) (Kd.jF (p:=⟨gb393,1,none⟩) (Kd.jF (p:=⟨gb393,0,none⟩) (Kd.zB HO391.out (fun k_ hk=>(⟨hk,hk.2⟩ : _∧k_≠gb393))) (fun _ hk=>hk.2) (.int .i64 t385)) (fun _ hk=>hk.2) (.slice Ao26 t386.length co26)) (fun _ hk=>hk.2) (.slice Ao27 t389.length co27)) (fun _ h_=>h_.1))));(case side4=>exact (Kd.uM HO391.out).2.1);rintro e w28 ⟨rfl,hb⟩;refine ⟨_,rfl,?_⟩;have n_:=q_7 (Kd.uP (by (with_reducible repeat (first|apply Kd.jP|apply Kd.jO|apply Kd.jZ));exact (Kd.zB (Kd.jF (p:=⟨gb393,2,none⟩) (Kd.jF (p:=⟨gb393,1,none⟩) (Kd.jF (p:=⟨gb393,0,none⟩) (Kd.uB HO388.out BK393.out (by decide)) (fun _ hk=>hk.2) (.int .i64 t385)) (fun _ hk=>hk.2) (.slice Ao26 t386.length co26)) (fun _ hk=>hk.2) (.slice Ao27 t389.length co27)) (fun _ h_=>h_.1))) hb) (Kd.uP (by (with_reducible repeat (first|apply Kd.jP|apply Kd.jO|apply Kd.jZ));exact (Kd.zB (Kd.jF (p:=⟨gb393,2,none⟩) (Kd.jF (p:=⟨gb393,1,none⟩) (Kd.jF (p:=⟨gb393,0,none⟩) (Kd.zB HO391.out (fun k_ hk=>(⟨hk,hk.2⟩ : _∧k_≠gb393))) (fun _ hk=>hk.2) (.int .i64 t385)) (fun _ hk=>hk.2) (.slice Ao26 t386.length co26)) (fun _ hk=>hk.2) (.slice Ao27 t389.length co27)) (fun _ h_=>h_.1))) hb) (qB.below (show qB w0 (((w22.setCell ⟨gb393,0,none⟩ (.int .i64 t385)).setCell ⟨gb393,1,none⟩ (.slice Ao26 t386.length co26)).setCell ⟨gb393,2,none⟩ (.slice Ao27 t389.length co27)) g s0_0 t392 from by repeat (first|(with_reducible first|exact HI0.out|apply qB.alloc|apply qB.drewN|apply qB.drew|apply qB.vZ|refine qB.far ?_ NB0_384.out _|refine qB.far ?_ NB0_393.out _)|exact HI0.out)) hb) (jQ (g:=gb384) (o:=.cells #[.int .i64 0,.slice none 0 0,.slice none 0 0] 56 (0,0)) (byak NB384_393.out BK384.out) hb) (jQ (g:=gb393) (o:=.cells #[.int .i64 t385,.slice Ao26 t386.length co26,.slice Ao27 t389.length co27] 56 (0,0)) (by (with_reducible repeat (first|refine qF ?_ _|refine qG ?_|refine qE ?_ _));refine qO (cs:=#[.int .i64 t385,.slice Ao26 t386.length co26,.slice none 0 0]) ?_ 2 _ rfl;(with_reducible repeat (first|refine qF ?_ _|refine qG ?_|refine qE ?_ _));refine qO (cs:=#[.int .i64 t385,.slice none 0 0,.slice none 0 0]) ?_ 1 _ rfl;(with_reducible repeat (first|refine qF ?_ _|refine qG ?_|refine qE ?_ _));refine qO (cs:=#[.int .i64 0,.slice none 0 0,.slice none 0 0]) ?_ 0 _ rfl;(with_reducible repeat (first|refine qF ?_ _|refine qG ?_|refine qE ?_ _));exact BK393.out) hb) (qJ.trans (bybr GW384.out GW393.out) (qJ.of_below hb g none) (.inl rfl)) (qC (bybq HI0.out GE384.out GE393.out) hb);clear HO388 HO391 HI0 BK384 BK393 HK HB;obtain ⟨HO388,HO391,HI0,BK384,BK393,HK,HB⟩:=n_;clear hb)|((with_reducible refine qI (f:=29) rfl ?_);refine qY (some 17) rfl rfl Try.func29 (by kernel_rfl) rfl #[.pointer (some ⟨g,0,none⟩),.int .i64 a1] rfl byah ?_;(with_reducible refine (qZ.calls g s0_0 t392 a1 t395 t396 w0 _ ?side1 ?side2 A19.out).mono ?_);(case side1=>exact bybp HI0.out NB0_384.out NB0_393.out);(case side2=>exact bybq HI0.out GE384.out GE393.out);rintro e w29 ⟨rfl,hi,hb,hk⟩;refine ⟨_,rfl,?_⟩;have n_:=q_7 (qJ.blkB hk BK384.out NB384_0.out (by simp)) (Kd.zB (Kd.uO (qB.apart (show qB w0 _ g s0_0 t392 from by repeat (first|(with_reducible first|exact HI0.out|apply qB.alloc|apply qB.drewN|apply qB.drew|apply qB.vZ|refine qB.far ?_ NB0_384.out _|refine qB.far ?_ NB0_393.out _)|exact HI0.out)) (byav HO388.out) (by decide)) hk (fun _ h=>h.2)) (fun _ h=>h.1)) (Kd.zB (Kd.uO (qB.apart (show qB w0 _ g s0_0 t392 from by repeat (first|(with_reducible first|exact HI0.out|apply qB.alloc|apply qB.drewN|apply qB.drew|apply qB.vZ|refine qB.far ?_ NB0_384.out _|refine qB.far ?_ NB0_393.out _)|exact HI0.out)) (byav HO391.out) (by decide)) hk (fun _ h=>h.2)) (fun _ h=>h.1)) (qJ.blkB hk BK393.out NB393_0.out (by simp)) (qJ.trans (bybr GW384.out GW393.out) hk (.inl rfl)) (hb) (hi);clear BK384 HO388 HO391 BK393 HK HB HI0;obtain ⟨BK384,HO388,HO391,BK393,HK,HB,HI0⟩:=n_;clear hb hk hi)|((with_reducible refine qP (N:=18) rfl ?_);refine Kd.R_lit (Kd.int .i64) _ 3 ?hg (N:=18) ?hd (xs:=([t395] : List Int)) (inner:=[.int .i64 t395]) (ok:=fun _=>True) (okp:=fun _=>True) ?hr ?hp (fun _ hk=>hk) trivial (Below.refl _ _) (Nat.le_refl _) (by simp) ?_;(case hd=>rfl);(case hg=>rfl);(case hr=>exact byaa);(case hp=>exact (Reps.one (show Kd.M (Kd.int .i64) _ _ _ t395 [.int .i64 t395] from rfl) (Reps.none _ _)));intro v398 w30 ho31 hb hg_ hnew_;clear hg_ hnew_;(first|rw [← Ny397.out] at ho31|(simp only [Int.reduceToNat] at ho31;rw [← Ny397.out] at ho31));have n_:=q_8 (Kd.Zz (byav HO388.out) (Kd.kL ho31) hb) (Kd.Zz (byav HO391.out) (Kd.kL ho31) hb) (Kd.uZ (Kd.R_new' ho31 (Kd.R_lt (byav HO388.out))) (vM (w:=w) (g:=g) (row:=none) (bybr GW384.out GW393.out))) (qB.below (bybp HI0.out NB0_384.out NB0_393.out) hb) (qH BK384.out hb) (qH BK393.out hb) (qJ.trans (bybr GW384.out GW393.out) (qJ.of_below hb g none) (.inl rfl)) (qC (bybq HI0.out GE384.out GE393.out) hb);clear HO388 HO391 HI0 BK384 BK393 HK HB;obtain ⟨HO388,HO391,HO399,HI0,BK384,BK393,HK,HB⟩:=n_;clear hb ho31;obtain ⟨Ao32,co32,eo32⟩:=Kd.vJ HO399.out;subst eo32;have hnb33:=NB384_0.out;have hnc33:=NB0_384.out;obtain ⟨hcz34_0,hcz34_1,hcz34_2,hfz34_0,hfz34_1,hfz34_2⟩:=cz3 BK384.out))
  refine bodyPost_ret (results_cell_row rfl _ _ gb384 56 #[.int .i64 1,.slice Ao32 y397.length co32,.slice none 0 0] (0,0) _ rfl (by (with_reducible repeat (first|refine qF ?_ _|refine qG ?_|refine qE ?_ _));refine qO (cs:=#[.int .i64 1,.slice Ao32 y397.length co32,.slice none 0 0]) ?_ 2 _ rfl;(with_reducible repeat (first|refine qF ?_ _|refine qG ?_|refine qE ?_ _));refine qO (cs:=#[.int .i64 1,.slice none 0 0,.slice none 0 0]) ?_ 1 _ rfl;(with_reducible repeat (first|refine qF ?_ _|refine qG ?_|refine qE ?_ _));refine qO (cs:=#[.int .i64 0,.slice none 0 0,.slice none 0 0]) ?_ 0 _ rfl;(with_reducible repeat (first|refine qF ?_ _|refine qG ?_|refine qE ?_ _));exact BK384.out) Try.underlying56 rfl (by kernel_rfl)) rfl ?_
  exact ⟨_,_,byac,by (with_reducible repeat (first|apply Kd.jP|apply Kd.jO|apply Kd.jZ));exact Kd.zB (Kd.jF (p:=⟨gb384,2,none⟩) (Kd.jF (p:=⟨gb384,1,none⟩) (Kd.jF (p:=⟨gb384,0,none⟩) (Kd.uB HO399.out BK384.out (by decide)) (fun _ hk=>hk.2) (.int .i64 1)) (fun _ hk=>hk.2) (.slice Ao32 y397.length co32)) (fun _ hk=>hk.2) (.slice none 0 0)) (fun _ hk=>trivial),byau,bybp HI0.out NB0_384.out NB0_393.out,bybq HI0.out GE384.out GE393.out,bybr GW384.out GW393.out⟩
end Go.Proofs.Ytkkbdimegpdbgaa.P
