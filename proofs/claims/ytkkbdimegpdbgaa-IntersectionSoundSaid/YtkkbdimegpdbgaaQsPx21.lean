/- Functions of the program as Lean functions, and the walks that show that the calls answer so; written by a program of this session (a changed print) and by hand. -/
import Derived.Test.YtkkbdimegpdbgaaQsPx0
import Derived.Test.YtkkbdimegpdbgaaQsPx14
import Derived.Test.YtkkbdimegpdbgaaQsPx20
namespace Go.Proofs.Ytkkbdimegpdbgaa.P
open Go.RowKit Go.Proofs.YtkkbdimegpdbgaaW.PrintWords Go.Proofs.YtkkbdimegpdbgaaW.PrintLast Go.Proofs.YtkkbdimegpdbgaaW.PrintMore
attribute [local go_sem] kF kD kV kU uJ uK kG kE
set_option linter.unusedVariables false
set_option linter.unusedSimpArgs false
mutual
def zK.l0 : Nat→Int→List Int→Int→Int→Int→List Int→List (S56)→Option (Int)
 | 0,_,_,_,_,_,_,_=>none
 | k + 1,x3,x9,x10,x11,x545000,x545001,x545002=>if x11 < x10 then (if 0 ≤ x11 then (if x11 < (x9.length : Int) then (if (rd x9 x11) ≥ 0 then (if (rd x9 x11) < 10 then (if 0 ≤ (rd x9 x11) then (zK.l0 k (Go.bits .or .i64 x3 (shl .i64 1 (rd x9 x11))) x9 x10 (wrap64 (x11 + 1)) x545000 x545001 x545002) else (none)) else (zK.l0 k x3 x9 x10 (wrap64 (x11 + 1)) x545000 x545001 x545002)) else (zK.l0 k x3 x9 x10 (wrap64 (x11 + 1)) x545000 x545001 x545002)) else (none)) else (none)) else (zK.l1 k x3 x545002 (x545002.length : Int) 0)
def zK.l1 : Nat→Int→List (S56)→Int→Int→Option (Int)
 | 0,_,_,_,_=>none
 | k + 1,x3,x27,x28,x29=>if x29 < x28 then (if 0 ≤ x29 then (if x29 < (x27.length : Int) then ((zK.f k ((qM x27 x29).f0) ((qM x27 x29).f1) ((qM x27 x29).f2)).bind fun t548=>(zK.l1 k (Go.bits .or .i64 x3 t548) x27 x28 (wrap64 (x29 + 1)))) else (none)) else (none)) else (some x3)
def zK.f : Nat→Int→List Int→List (S56)→Option (Int)
 | 0,_,_,_=>none
 | k + 1,a0_0,l0_1,l0_2=>zK.l0 k 0 l0_1 (l0_1.length : Int) 0 a0_0 l0_1 l0_2
end
set_option maxHeartbeats 8000000 in
set_option maxRecDepth 100000 in
theorem zK.calls (k : Nat) : ∀ (a0_0 : Int) (A0_1 : Option Addr) (c0_1 : Nat) (l0_1 : List Int) (A0_2 : Option Addr) (c0_2 : Nat) (l0_2 : List (S56)) (r : Int) (w : World) (hr0_1 : Kd.C (Kd.int .i64) w A0_1 l0_1.length l0_1) (hc0_1 : l0_1.length ≤ c0_1) (hr0_2 : Kd.C k56 w A0_2 l0_2.length l0_2) (hc0_2 : l0_2.length ≤ c0_2) (h : zK.f k a0_0 l0_1 l0_2 = some r),
  Calls Try.prog 55 #[.agg #[.int .i64 a0_0,.slice A0_1 l0_1.length c0_1,.slice A0_2 l0_2.length c0_2]] w fun e w'=>e = .returned (.int .i64 r)∧Below w.heap.size w w':=by
 induction k using Nat.strongRecOn with
 | _ k ih =>
 intro a0_0 A0_1 c0_1 l0_1 A0_2 c0_2 l0_2 r w hr0_1 hc0_1 hr0_2 hc0_2 h
 cases k with
 | zero=>exact absurd h (by simp [zK.f])
 | succ k =>
 simp only [zK.f] at h
 have hu56:=Try.underlying56
 have HR0_1:=qA.mk hr0_1
 have HC0_1:=qA.mk hc0_1
 clear hr0_1 hc0_1
 have HR0_2:=qA.mk hr0_2
 have HC0_2:=qA.mk hc0_2
 clear hr0_2 hc0_2
 have HB:=qA.mk (Below.refl w.heap.size w)
 have H:=h
 clear h
 have H':=qA.mk H
 clear H
 go_enter Try.func55,Try.ntmps55
 go_wp2_with (first|((with_reducible refine qP (N:=1) rfl ?_);refine zV (N:=1) (cs:=#[.int .i64 a0_0,.slice A0_1 l0_1.length c0_1,.slice A0_2 l0_2.length c0_2]) (t:=56) ?_;intro gb544 hg w2 hbox hb;have n_:=q_4 (qC byab hb) (hbox) ((byck : w.heap.size ≤ gb544)) ((byck : w.heap.size ≤ gb544));clear HB;obtain ⟨HB,BK544,GW544,GE544⟩:=n_;clear hb hbox hg;obtain ⟨hcz3_0,hcz3_1,hcz3_2,hfz3_0,hfz3_1,hfz3_2⟩:=cz3 BK544.out))
 go_loopg [3,11] k (fun kq v3 v11 w'=>∃ (x3_1 : Int) (x11_1 : Int),v3 = .int .i64 x3_1∧v11 = .int .i64 x11_1∧qA (zK.l0 kq x3_1 l0_1 (l0_1.length : Int) x11_1 a0_0 l0_1 l0_2 = some r)∧qA (kq ≤ k)∧qA (w'.heap[gb544]? = some (.cells #[.int .i64 a0_0,(.slice A0_1 l0_1.length c0_1),(.slice A0_2 l0_2.length c0_2)] 56 (0,0)))∧qA (Below w.heap.size w w'))
 case atStart=>exact ⟨(0),(0),byae,byae,H',⟨Nat.le_refl _⟩,⟨byaf BK544.out⟩,⟨byad GE544.out⟩⟩
 case round =>
  clear H'
  obtain ⟨x3_1,x11_1,rfl,rfl,HA,HK1,BK544,HB⟩:=hrel
  cases gk with
  | zero=>exact absurd HA.out (by simp [zK.l0])
  | succ k1 =>
   have H:=HA.out
   clear HA
   simp only [zK.l0] at H
   by_cases c4 : x11_1 < (l0_1.length : Int)
   ·rw [if_pos c4] at H
    have c4b0:=decide_eq_true c4
    clear c4
    by_cases c5 : 0 ≤ x11_1
    ·rw [if_pos c5] at H
     have c5b0:=decide_eq_true c5
     clear c5
     by_cases c6 : x11_1 < (l0_1.length : Int)
     ·rw [if_pos c6] at H
      have c6b0:=decide_eq_true c6
      clear c6
      by_cases c7 : (rd l0_1 x11_1) ≥ 0
      ·rw [if_pos c7] at H
       have c7b0:=decide_eq_true c7
       clear c7
       by_cases c8 : (rd l0_1 x11_1) < 10
       ·rw [if_pos c8] at H
        have c8b0:=decide_eq_true c8
        clear c8
        by_cases c9 : 0 ≤ (rd l0_1 x11_1)
        ·rw [if_pos c9] at H
         have c9b0:=eq_true c9
         have c9b1:=decide_eq_true c9
         clear c9
         obtain ⟨ji10,hji10⟩ : ∃ j_ : Int,(shl .i64 1 (rd l0_1 x11_1)) = j_:=⟨_,rfl⟩
         (first|rw [hji10] at H|(simp only [hji10] at H))
         obtain ⟨hji10_,hji10z,hji10u,hji10v,hji10y,hji10x⟩:=jiA hji10
         have H':=qA.mk H
         clear H
         have p545 : 0 ≤ (x11_1 : Int):=of_decide_eq_true byag
         have q545 : x11_1 < (l0_1.length : Int):=of_decide_eq_true byag
         obtain ⟨ad545,e545,hx545_0⟩:=Kd.kW HR0_1.out x11_1 p545 q545
         cases e545
         replace hx545_0:=(HB.out.cell (World.block_lt_of_cell? w _ hx545_0)).trans hx545_0
         replace p545:=eq_true p545
         replace q545:=eq_true q545
         go_wp2
         go_roundg k1
         case measure=>have:=HK1.out;omega
         case rel=>exact ⟨(Go.bits .or .i64 x3_1 (ji10)),(wrap64 (x11_1 + 1)),(by first|rfl|(simp;done)|(simp only [← hji10]<;>(first|rfl|simp))|(simp [*];done)),byae,H',⟨byai⟩,⟨byaf BK544.out⟩,⟨byad GE544.out⟩⟩
        ·rw [if_neg c9] at H
         exact absurd H (by simp)
       ·rw [if_neg c8] at H
        have c8b0:=decide_eq_false c8
        clear c8
        have H':=qA.mk H
        clear H
        have p545 : 0 ≤ (x11_1 : Int):=of_decide_eq_true byag
        have q545 : x11_1 < (l0_1.length : Int):=of_decide_eq_true byag
        obtain ⟨ad545,e545,hx545_0⟩:=Kd.kW HR0_1.out x11_1 p545 q545
        cases e545
        replace hx545_0:=(HB.out.cell (World.block_lt_of_cell? w _ hx545_0)).trans hx545_0
        replace p545:=eq_true p545
        replace q545:=eq_true q545
        go_wp2
        go_roundg k1
        case measure=>have:=HK1.out;omega
        case rel=>exact ⟨(x3_1),(wrap64 (x11_1 + 1)),byae,byae,H',⟨byai⟩,⟨byaf BK544.out⟩,⟨byad GE544.out⟩⟩
      ·rw [if_neg c7] at H
       have c7b0:=decide_eq_false c7
       clear c7
       have H':=qA.mk H
       clear H
       have p545 : 0 ≤ (x11_1 : Int):=of_decide_eq_true byag
       have q545 : x11_1 < (l0_1.length : Int):=of_decide_eq_true byag
       obtain ⟨ad545,e545,hx545_0⟩:=Kd.kW HR0_1.out x11_1 p545 q545
       cases e545
       replace hx545_0:=(HB.out.cell (World.block_lt_of_cell? w _ hx545_0)).trans hx545_0
       replace p545:=eq_true p545
       replace q545:=eq_true q545
       go_wp2
       go_roundg k1
       case measure=>have:=HK1.out;omega
       case rel=>exact ⟨(x3_1),(wrap64 (x11_1 + 1)),byae,byae,H',⟨byai⟩,⟨byaf BK544.out⟩,⟨byad GE544.out⟩⟩
     ·rw [if_neg c6] at H
      exact absurd H (by simp)
    ·rw [if_neg c5] at H
     exact absurd H (by simp)
   ·rw [if_neg c4] at H
    have c4b0:=decide_eq_false c4
    clear c4
    have H':=qA.mk H
    clear H
    obtain ⟨hcz11_0,hcz11_1,hcz11_2,hfz11_0,hfz11_1,hfz11_2⟩:=cz3 BK544.out
    go_wp2
    go_loopg [3,29] k1 (fun kq v3 v29 w'=>∃ (x3_2 : Int) (x29_2 : Int),v3 = .int .i64 x3_2∧v29 = .int .i64 x29_2∧qA (zK.l1 kq x3_2 l0_2 (l0_2.length : Int) x29_2 = some r)∧qA (kq ≤ k1)∧qA (w'.heap[gb544]? = some (.cells #[.int .i64 a0_0,(.slice A0_1 l0_1.length c0_1),(.slice A0_2 l0_2.length c0_2)] 56 (0,0)))∧qA (Below w.heap.size w w'))
    case atStart=>exact ⟨(x3_1),(0),byae,byae,H',⟨Nat.le_refl _⟩,⟨byaf BK544.out⟩,⟨byad GE544.out⟩⟩
    case round =>
     clear H'
     try clear hx5
     try clear hx545_0
     obtain ⟨x3_2,x29_2,rfl,rfl,HA,HK2,BK544,HB⟩:=hrel
     cases gk with
     | zero=>exact absurd HA.out (by simp [zK.l1])
     | succ k2 =>
      have H:=HA.out
      clear HA
      simp only [zK.l1] at H
      by_cases c12 : x29_2 < (l0_2.length : Int)
      ·rw [if_pos c12] at H
       have c12b0:=decide_eq_true c12
       clear c12
       by_cases c13 : 0 ≤ x29_2
       ·rw [if_pos c13] at H
        have c13b0:=decide_eq_true c13
        clear c13
        by_cases c14 : x29_2 < (l0_2.length : Int)
        ·rw [if_pos c14] at H
         have c14b0:=decide_eq_true c14
         clear c14
         replace H:=Option.bind_eq_some_iff.mp H
         obtain ⟨t548,A150,H⟩:=H
         try dsimp only at H
         have A15:=qA.mk A150
         clear A150
         have H':=qA.mk H
         clear H
         have p546 : 0 ≤ (x29_2 : Int):=of_decide_eq_true byag
         have q546 : x29_2 < (l0_2.length : Int):=of_decide_eq_true byag
         obtain ⟨ad546,A546_1,c546_1,A546_2,c546_2,e546,hx546_0,hx546_1,hx546_2,hl546_1,hi546_1,hl546_2,hi546_2⟩:=Zj HR0_2.out x29_2 p546 q546
         cases e546
         replace hx546_0:=(HB.out.cell (World.block_lt_of_cell? w _ hx546_0)).trans hx546_0
         replace hx546_1:=(HB.out.cell (World.block_lt_of_cell? w _ hx546_1)).trans hx546_1
         replace hx546_2:=(HB.out.cell (World.block_lt_of_cell? w _ hx546_2)).trans hx546_2
         have HR546_1:=qA.mk hi546_1
         have HC546_1:=qA.mk hl546_1
         clear hi546_1 hl546_1
         have HR546_2:=qA.mk hi546_2
         have HC546_2:=qA.mk hl546_2
         clear hi546_2 hl546_2
         replace p546:=eq_true p546
         replace q546:=eq_true q546
         go_wp2_with (first|((with_reducible refine qP (N:=7) rfl ?_);refine zV (N:=7) (cs:=#[.int .i64 0,.slice none 0 0,.slice none 0 0]) (t:=56) ?_;intro gb547 hg w16 hbox hb;have n_:=q_6 (qH BK544.out hb) (qC (byad GE544.out) hb) (hbox) ((bycl GE544.out : w.heap.size ≤ gb547)) ((bycl GE544.out : w.heap.size ≤ gb547)) ((by rw [hg];exact Nat.ne_of_lt (vF BK544.out) : gb544≠gb547));clear BK544 HB;obtain ⟨BK544,HB,BK547,GW547,GE547,NB544_547⟩:=n_;have NB547_544:=ns NB544_547;clear hb hbox hg;have hnb17:=NB547_544.out;have hnc17:=NB544_547.out;obtain ⟨hcz18_0,hcz18_1,hcz18_2,hfz18_0,hfz18_1,hfz18_2⟩:=cz3 BK547.out)|((with_reducible refine qI (f:=55) rfl ?_);refine qY (some 35) rfl rfl Try.func55 (by kernel_rfl) rfl #[.agg #[.int .i64 ((qM l0_2 x29_2).f0),.slice A546_1 ((qM l0_2 x29_2).f1).length c546_1,.slice A546_2 ((qM l0_2 x29_2).f2).length c546_2]] rfl byah ?_;(with_reducible refine (ih k2 byar ((qM l0_2 x29_2).f0) _ _ ((qM l0_2 x29_2).f1) _ _ ((qM l0_2 x29_2).f2) t548 _ ?side1 ?side2 ?side3 ?side4 A15.out).mono ?_);(case side1=>exact Kd.vU HR546_1.out (byaj GE544.out GE547.out));(case side2=>exact HC546_1.out);(case side3=>exact Kd.vU HR546_2.out (byaj GE544.out GE547.out));(case side4=>exact HC546_2.out);rintro e w19 ⟨rfl,hb⟩;refine ⟨_,rfl,?_⟩;have n_:=q_3 (jQ (g:=gb544) (o:=.cells #[.int .i64 a0_0,.slice A0_1 l0_1.length c0_1,.slice (some ad546) l0_2.length c0_2] 56 (0,0)) (byak NB544_547.out BK544.out) hb) (jQ (g:=gb547) (o:=.cells #[.int .i64 ((qM l0_2 x29_2).f0),.slice A546_1 ((qM l0_2 x29_2).f1).length c546_1,.slice A546_2 ((qM l0_2 x29_2).f2).length c546_2] 56 (0,0)) (by (with_reducible repeat (first|refine qF ?_ _|refine qG ?_|refine qE ?_ _));refine qO (cs:=#[.int .i64 ((qM l0_2 x29_2).f0),.slice A546_1 ((qM l0_2 x29_2).f1).length c546_1,.slice none 0 0]) ?_ 2 _ rfl;(with_reducible repeat (first|refine qF ?_ _|refine qG ?_|refine qE ?_ _));refine qO (cs:=#[.int .i64 ((qM l0_2 x29_2).f0),.slice none 0 0,.slice none 0 0]) ?_ 1 _ rfl;(with_reducible repeat (first|refine qF ?_ _|refine qG ?_|refine qE ?_ _));refine qO (cs:=#[.int .i64 0,.slice none 0 0,.slice none 0 0]) ?_ 0 _ rfl;(with_reducible repeat (first|refine qF ?_ _|refine qG ?_|refine qE ?_ _));exact BK547.out) hb) (qC (byaj GE544.out GE547.out) hb);clear BK544 BK547 HB;obtain ⟨BK544,BK547,HB⟩:=n_;clear hb))
         go_roundg k2
         case measure=>have:=HK1.out;have:=HK2.out;omega
         case rel=>exact ⟨(Go.bits .or .i64 x3_2 t548),(wrap64 (x29_2 + 1)),byae,byae,H',⟨byar⟩,⟨byaf BK544.out⟩,⟨byaj GE544.out GE547.out⟩⟩
        ·rw [if_neg c14] at H
         exact absurd H (by simp)
       ·rw [if_neg c13] at H
        exact absurd H (by simp)
      ·rw [if_neg c12] at H
       have c12b0:=decide_eq_false c12
       clear c12
       obtain rfl:=Option.some.inj H
       go_wp2
       go_ret
       exact ⟨byac,byad GE544.out⟩
def zN.l0 : Nat→List (S58)→Int→Int→List (S58)→Option (Int)
 | 0,_,_,_,_=>none
 | k + 1,x11,x12,x13,x550000=>if x13 < x12 then (if 0 ≤ x13 then (if x13 < (x11.length : Int) then (if ((zD x11 x13).f0 = true) then ((vW.f k ((zD x11 x13).f1.f0) ((zD x11 x13).f1.f1) ((zD x11 x13).f1.f2)).bind fun t553=>(if t553 = 0 then ((zK.f k ((zD x11 x13).f1.f0) ((zD x11 x13).f1.f1) ((zD x11 x13).f1.f2)).bind fun t554=>(if t554 ≥ (shl .i64 1 (x550000.length : Int)) then (some 5) else (zN.l0 k x11 x12 (wrap64 (x13 + 1)) x550000))) else (some t553))) else ((zG.f k ((zD x11 x13).f1.f0) ((zD x11 x13).f1.f1) ((zD x11 x13).f1.f2) 0 ([] : List Int) ([] : List (S56))).bind fun t552=>(if t552 = true then (zN.l0 k x11 x12 (wrap64 (x13 + 1)) x550000) else (some 1)))) else (none)) else (none)) else (some 0)
def zN.f (k : Nat) (l0_0 : List (S58)) : Option (Int):=if (l0_0.length : Int) > 10 then (some 3) else (zN.l0 k l0_0 (l0_0.length : Int) 0 l0_0)
def zN.T12 : Bool × List (List Nat × List Nat):=(true,[([],[]),([0],[0]),([1],[1]),([],[]),([3],[3]),([4],[4]),([5],[5]),([2,6],[2,6])])
def zN.B12 : List Nat:=[0,1,3,0,8,24,56,127]
theorem zN.tab12 : rtab .any (opsOf Try.f37 12) = zN.T12:=by kernel_rfl
theorem zN.bits12 : Qv zN.T12.2 zN.B12 = true:=by kernel_rfl
set_option maxHeartbeats 8000000 in
set_option maxRecDepth 100000 in
theorem zN.calls (k : Nat) (A0_0 : Option Addr) (c0_0 : Nat) (l0_0 : List (S58)) (r : Int) (w : World) (hr0_0 : Kd.C k58 w A0_0 l0_0.length l0_0) (hc0_0 : l0_0.length ≤ c0_0) (h : zN.f k l0_0 = some r) :
  Calls Try.prog 37 #[.agg #[.slice A0_0 l0_0.length c0_0]] w fun e w'=>e = .returned (.int .i64 r)∧Below w.heap.size w w':=by
 have hu25:=Try.underlying25
 have hu58:=Try.underlying58
 have hu56:=Try.underlying56
 have HR0_0:=qA.mk hr0_0
 have HC0_0:=qA.mk hc0_0
 clear hr0_0 hc0_0
 have HB:=qA.mk (Below.refl w.heap.size w)
 unfold zN.f at h
 have H:=h
 clear h
 by_cases c2 : (l0_0.length : Int) > 10
 ·rw [if_pos c2] at H
  have c2b0:=decide_eq_true c2
  have c2b1 : decide (10 < l0_0.length) = true:=decide_eq_true (by omega)
  clear c2
  obtain rfl:=Option.some.inj H
  go_enter Try.func37,Try.ntmps37
  go_wp2_with (first|((with_reducible refine qP (N:=1) rfl ?_);refine zV (N:=1) (cs:=#[.slice A0_0 l0_0.length c0_0]) (t:=25) ?_;intro gb549 hg w3 hbox hb;have n_:=q_4 (qC byab hb) (hbox) ((byck : w.heap.size ≤ gb549)) ((byck : w.heap.size ≤ gb549));clear HB;obtain ⟨HB,BK549,GW549,GE549⟩:=n_;clear hb hbox hg;obtain ⟨hcz4_0,hfz4_0⟩:=cz1 BK549.out))
  go_ret
  exact ⟨byac,byad GE549.out⟩
 ·rw [if_neg c2] at H
  have c2b0:=decide_eq_false c2
  have c2b1 : decide (10 < l0_0.length) = false:=decide_eq_false (by omega)
  clear c2
  have H':=qA.mk H
  clear H
  go_enter Try.func37,Try.ntmps37
  go_wp2_with (first|((with_reducible refine qP (N:=1) rfl ?_);refine zV (N:=1) (cs:=#[.slice A0_0 l0_0.length c0_0]) (t:=25) ?_;intro gb549 hg w5 hbox hb;have n_:=q_4 (qC byab hb) (hbox) ((byck : w.heap.size ≤ gb549)) ((byck : w.heap.size ≤ gb549));clear HB;obtain ⟨HB,BK549,GW549,GE549⟩:=n_;clear hb hbox hg;obtain ⟨hcz6_0,hfz6_0⟩:=cz1 BK549.out))
  go_loopg [13] k (fun kq v13 w'=>∃ (x13_1 : Int),v13 = .int .i64 x13_1∧qA (zN.l0 kq l0_0 (l0_0.length : Int) x13_1 l0_0 = some r)∧qA (kq ≤ k)∧qA (w'.heap[gb549]? = some (.cells #[(.slice A0_0 l0_0.length c0_0)] 25 (0,0)))∧qA (Below w.heap.size w w'))
  case atStart=>exact ⟨(0),byae,H',⟨Nat.le_refl _⟩,⟨byaf BK549.out⟩,⟨byad GE549.out⟩⟩
  case round =>
   clear H'
   obtain ⟨x13_1,rfl,HA,HK1,BK549,HB⟩:=hrel
   cases gk with
   | zero=>exact absurd HA.out (by simp [zN.l0])
   | succ k1 =>
    have H:=HA.out
    clear HA
    simp only [zN.l0] at H
    by_cases c7 : x13_1 < (l0_0.length : Int)
    ·rw [if_pos c7] at H
     have c7b0:=decide_eq_true c7
     clear c7
     by_cases c8 : 0 ≤ x13_1
     ·rw [if_pos c8] at H
      have c8b0:=decide_eq_true c8
      clear c8
      by_cases c9 : x13_1 < (l0_0.length : Int)
      ·rw [if_pos c9] at H
       have c9b0:=decide_eq_true c9
       clear c9
       obtain ⟨bq10,hbq10⟩ : ∃ b_ : Bool,b_ = ((zD l0_0 x13_1).f0):=⟨_,rfl⟩
       replace H : (if (bq10 = true) then ((vW.f k1 ((zD l0_0 x13_1).f1.f0) ((zD l0_0 x13_1).f1.f1) ((zD l0_0 x13_1).f1.f2)).bind fun t553=>(if t553 = 0 then ((zK.f k1 ((zD l0_0 x13_1).f1.f0) ((zD l0_0 x13_1).f1.f1) ((zD l0_0 x13_1).f1.f2)).bind fun t554=>(if t554 ≥ (shl .i64 1 (l0_0.length : Int)) then (some 5) else (zN.l0 k1 l0_0 (l0_0.length : Int) (wrap64 (x13_1 + 1)) l0_0))) else (some t553))) else ((zG.f k1 ((zD l0_0 x13_1).f1.f0) ((zD l0_0 x13_1).f1.f1) ((zD l0_0 x13_1).f1.f2) 0 ([] : List Int) ([] : List (S56))).bind fun t552=>(if t552 = true then (zN.l0 k1 l0_0 (l0_0.length : Int) (wrap64 (x13_1 + 1)) l0_0) else (some 1)))) = some r:=by rw [← hbq10] at H;exact H
       have Nbq10:=qA.mk hbq10
       clear hbq10
       by_cases c11 : (bq10 = true)
       ·subst c11
        rw [if_pos rfl] at H
        replace H:=Option.bind_eq_some_iff.mp H
        obtain ⟨t553,A120,H⟩:=H
        try dsimp only at H
        have A12:=qA.mk A120
        clear A120
        by_cases c13 : t553 = 0
        ·rw [if_pos c13] at H
         obtain ⟨c13b0,c13b1⟩:=eqT c13
         clear c13
         replace H:=Option.bind_eq_some_iff.mp H
         obtain ⟨t554,A140,H⟩:=H
         try dsimp only at H
         have A14:=qA.mk A140
         clear A140
         obtain ⟨ji15,hji15⟩ : ∃ j_ : Int,(shl .i64 1 (l0_0.length : Int)) = j_:=⟨_,rfl⟩
         (first|rw [hji15] at H|(simp only [hji15] at H))
         (try rw [hji15] at A12)
         (try rw [hji15] at A14)
         obtain ⟨hji15_,hji15z,hji15p,hji15q,hji15r,hji15s,hji15u,hji15v,hji15y,hji15x⟩:=jiB hji15
         by_cases c16 : t554 ≥ (ji15)
         ·rw [if_pos c16] at H
          have c16b0:=decide_eq_true c16
          clear c16
          obtain rfl:=Option.some.inj H
          have p550 : 0 ≤ (x13_1 : Int):=of_decide_eq_true byag
          have q550 : x13_1 < (l0_0.length : Int):=of_decide_eq_true byag
          obtain ⟨ad550,A550_2,c550_2,A550_3,c550_3,e550,hx550_0,hx550_1,hx550_2,hx550_3,hl550_2,hi550_2,hl550_3,hi550_3⟩:=Zm HR0_0.out x13_1 p550 q550
          (try rw [← Nbq10.out] at hx550_0)
          cases e550
          replace hx550_0:=(HB.out.cell (World.block_lt_of_cell? w _ hx550_0)).trans hx550_0
          replace hx550_1:=(HB.out.cell (World.block_lt_of_cell? w _ hx550_1)).trans hx550_1
          replace hx550_2:=(HB.out.cell (World.block_lt_of_cell? w _ hx550_2)).trans hx550_2
          replace hx550_3:=(HB.out.cell (World.block_lt_of_cell? w _ hx550_3)).trans hx550_3
          have HR550_2:=qA.mk hi550_2
          have HC550_2:=qA.mk hl550_2
          clear hi550_2 hl550_2
          have HR550_3:=qA.mk hi550_3
          have HC550_3:=qA.mk hl550_3
          clear hi550_3 hl550_3
          replace p550:=eq_true p550
          replace q550:=eq_true q550
          try go_wp2_with (first|((with_reducible refine qP (N:=4) rfl ?_);refine zV (N:=4) (cs:=#[.bool false,.int .i64 0,.slice none 0 0,.slice none 0 0]) (t:=58) ?_;intro gb551 hg w17 hbox hb;have n_:=q_6 (qH BK549.out hb) (qC (byad GE549.out) hb) (hbox) ((bycl GE549.out : w.heap.size ≤ gb551)) ((bycl GE549.out : w.heap.size ≤ gb551)) ((by rw [hg];exact Nat.ne_of_lt (vF BK549.out) : gb549≠gb551));clear BK549 HB;obtain ⟨BK549,HB,BK551,GW551,GE551,NB549_551⟩:=n_;have NB551_549:=ns NB549_551;clear hb hbox hg;have hnb18:=NB551_549.out;have hnc18:=NB549_551.out;obtain ⟨hcz19_0,hcz19_1,hcz19_2,hcz19_3,hfz19_0,hfz19_1,hfz19_2,hfz19_3⟩:=cz4 BK551.out)|((with_reducible refine qI (f:=48) rfl ?_);refine qY (some 27) rfl rfl Try.func48 (by kernel_rfl) rfl #[.agg #[.int .i64 ((zD l0_0 x13_1).f1.f0),.slice A550_2 ((zD l0_0 x13_1).f1.f1).length c550_2,.slice A550_3 ((zD l0_0 x13_1).f1.f2).length c550_3]] rfl byah ?_;(with_reducible refine (vW.calls k1 ((zD l0_0 x13_1).f1.f0) _ _ ((zD l0_0 x13_1).f1.f1) _ _ ((zD l0_0 x13_1).f1.f2) t553 _ ?side1 ?side2 ?side3 ?side4 A12.out).mono ?_);(case side1=>exact Kd.vU HR550_2.out (byaj GE549.out GE551.out));(case side2=>exact HC550_2.out);(case side3=>exact Kd.vU HR550_3.out (byaj GE549.out GE551.out));(case side4=>exact HC550_3.out);rintro e w20 ⟨rfl,hb⟩;refine ⟨_,rfl,?_⟩;have n_:=q_3 (jQ (g:=gb549) (o:=.cells #[.slice (some ad550) l0_0.length c0_0] 25 (0,0)) (byat NB549_551.out BK549.out) hb) (jQ (g:=gb551) (o:=.cells #[.bool true,.int .i64 ((zD l0_0 x13_1).f1.f0),.slice A550_2 ((zD l0_0 x13_1).f1.f1).length c550_2,.slice A550_3 ((zD l0_0 x13_1).f1.f2).length c550_3] 58 (0,0)) (by (with_reducible repeat (first|refine qF ?_ _|refine qG ?_|refine qE ?_ _));refine qO (cs:=#[.bool true,.int .i64 ((zD l0_0 x13_1).f1.f0),.slice A550_2 ((zD l0_0 x13_1).f1.f1).length c550_2,.slice none 0 0]) ?_ 3 _ rfl;(with_reducible repeat (first|refine qF ?_ _|refine qG ?_|refine qE ?_ _));refine qO (cs:=#[.bool true,.int .i64 ((zD l0_0 x13_1).f1.f0),.slice none 0 0,.slice none 0 0]) ?_ 2 _ rfl;(with_reducible repeat (first|refine qF ?_ _|refine qG ?_|refine qE ?_ _));refine qO (cs:=#[.bool true,.int .i64 0,.slice none 0 0,.slice none 0 0]) ?_ 1 _ rfl;(with_reducible repeat (first|refine qF ?_ _|refine qG ?_|refine qE ?_ _));refine qO (cs:=#[.bool false,.int .i64 0,.slice none 0 0,.slice none 0 0]) ?_ 0 _ rfl;(with_reducible repeat (first|refine qF ?_ _|refine qG ?_|refine qE ?_ _));exact BK551.out) hb) (qC (byaj GE549.out GE551.out) hb);clear BK549 BK551 HB;obtain ⟨BK549,BK551,HB⟩:=n_;clear hb))
          have n_:=q_3 (qG BK549.out) (qG BK551.out) (vI HB.out)
          clear BK549 BK551 HB
          obtain ⟨BK549,BK551,HB⟩:=n_
          refine Qm (n:=8) (S:=fun w'=>w'.cell? ⟨gb551,0,none⟩ = some (.bool true)∧w'.cell? ⟨gb551,1,none⟩ = some (.int .i64 ((zD l0_0 x13_1).f1.f0))∧w'.cell? ⟨gb551,2,none⟩ = some (.slice A550_2 ((zD l0_0 x13_1).f1.f1).length c550_2)∧w'.cell? ⟨gb551,3,none⟩ = some (.slice A550_3 ((zD l0_0 x13_1).f1.f2).length c550_3)∧w'.cell? ⟨gb549,0,none⟩ = some (.slice (some ad550) l0_0.length c0_0)) (ds:=[]) (bb 8 0) (by kernel_rfl) rfl rfl ⟨(qN BK551.out 0).trans rfl,(qN BK551.out 1).trans rfl,(qN BK551.out 2).trans rfl,(qN BK551.out 3).trans rfl,(qN BK549.out 0).trans rfl⟩ (fun hHeld=>?_);refine Qb zN.tab12 zN.bits12 (fun HT_ HW_=>?_)
          generalize w20.drew = w21 at BK549 BK551 HB hHeld ⊢
          refine zH (i:=0) (N:=some 31) (bb 8 1) ?_
          refine zH (i:=3) (N:=some 34) (bb 8 9) ?_
          refine takeZJ (i:=1) (N:=some 32) (bb 8 11) hHeld ?_
          refine takeZJ (i:=4) (N:=some 35) (bb 8 27) hHeld ?_
          refine zH (i:=5) (N:=some 36) (bb 8 59) ?_
          refine zH (i:=6) (N:=some 37) (bb 8 123) ?_
          refine one_ (i:=2) (N:=some 33) (bb 8 127) rfl rfl (kC HT_.out (by kernel_rfl)) (by decide) (fun K hK=>?_)
          refine Qg Try.func55 (by kernel_rfl) rfl #[.agg #[.int .i64 ((zD l0_0 x13_1).f1.f0),.slice A550_2 ((zD l0_0 x13_1).f1.f1).length c550_2,.slice A550_3 ((zD l0_0 x13_1).f1.f2).length c550_3]] (by rfl) rfl rfl byah ?_
          with_reducible refine (zK.calls k1 ((zD l0_0 x13_1).f1.f0) _ _ ((zD l0_0 x13_1).f1.f1) _ _ ((zD l0_0 x13_1).f1.f2) t554 _ ?side1 ?side2 ?side3 ?side4 A14.out).mono ?_
          (case side1=>exact byaq HR550_2.out)
          (case side2=>exact HC550_2.out)
          (case side3=>exact byaq HR550_3.out)
          (case side4=>exact HC550_3.out)
          rintro e w22 ⟨rfl,hb⟩
          refine ⟨_,rfl,?_⟩
          have n_:=q_3 (qH BK549.out hb) (qH BK551.out hb) (qC (byaj GE549.out GE551.out) hb)
          clear BK549 BK551 HB
          obtain ⟨BK549,BK551,HB⟩:=n_
          (try clear hb)
          (try clear hb2)
          (try clear hk)
          (try clear hi)
          refine hK.out _ _ ⟨(qN BK551.out 0).trans rfl,(qN BK551.out 1).trans rfl,(qN BK551.out 2).trans rfl,(qN BK551.out 3).trans rfl,(qN BK549.out 0).trans rfl⟩ (fun hHeld=>?_)
          clear hK K
          refine kN (N:=some 33) ?_
          refine zH (i:=7) (N:=some 38) (bb 8 255) ?_
          refine Ze (Qz HT_.out (by kernel_rfl)) ?_
          try go_wp2
          go_ret
          exact ⟨by first|rfl|(simp [uC,uD]<;>rfl)|(simp only [← hji15];first|rfl|(simp [uC,uD]<;>rfl))|(simp [*,uC,uD]<;>rfl),byaj GE549.out GE551.out⟩
         ·rw [if_neg c16] at H
          have c16b0:=decide_eq_false c16
          clear c16
          have H':=qA.mk H
          clear H
          have p550 : 0 ≤ (x13_1 : Int):=of_decide_eq_true byag
          have q550 : x13_1 < (l0_0.length : Int):=of_decide_eq_true byag
          obtain ⟨ad550,A550_2,c550_2,A550_3,c550_3,e550,hx550_0,hx550_1,hx550_2,hx550_3,hl550_2,hi550_2,hl550_3,hi550_3⟩:=Zm HR0_0.out x13_1 p550 q550
          (try rw [← Nbq10.out] at hx550_0)
          cases e550
          replace hx550_0:=(HB.out.cell (World.block_lt_of_cell? w _ hx550_0)).trans hx550_0
          replace hx550_1:=(HB.out.cell (World.block_lt_of_cell? w _ hx550_1)).trans hx550_1
          replace hx550_2:=(HB.out.cell (World.block_lt_of_cell? w _ hx550_2)).trans hx550_2
          replace hx550_3:=(HB.out.cell (World.block_lt_of_cell? w _ hx550_3)).trans hx550_3
          have HR550_2:=qA.mk hi550_2
          have HC550_2:=qA.mk hl550_2
          clear hi550_2 hl550_2
          have HR550_3:=qA.mk hi550_3
          have HC550_3:=qA.mk hl550_3
          clear hi550_3 hl550_3
          replace p550:=eq_true p550
          replace q550:=eq_true q550
          try go_wp2_with (first|((with_reducible refine qP (N:=4) rfl ?_);refine zV (N:=4) (cs:=#[.bool false,.int .i64 0,.slice none 0 0,.slice none 0 0]) (t:=58) ?_;intro gb551 hg w23 hbox hb;have n_:=q_6 (qH BK549.out hb) (qC (byad GE549.out) hb) (hbox) ((bycl GE549.out : w.heap.size ≤ gb551)) ((bycl GE549.out : w.heap.size ≤ gb551)) ((by rw [hg];exact Nat.ne_of_lt (vF BK549.out) : gb549≠gb551));clear BK549 HB;obtain ⟨BK549,HB,BK551,GW551,GE551,NB549_551⟩:=n_;have NB551_549:=ns NB549_551;clear hb hbox hg;have hnb24:=NB551_549.out;have hnc24:=NB549_551.out;obtain ⟨hcz25_0,hcz25_1,hcz25_2,hcz25_3,hfz25_0,hfz25_1,hfz25_2,hfz25_3⟩:=cz4 BK551.out)|((with_reducible refine qI (f:=48) rfl ?_);refine qY (some 27) rfl rfl Try.func48 (by kernel_rfl) rfl #[.agg #[.int .i64 ((zD l0_0 x13_1).f1.f0),.slice A550_2 ((zD l0_0 x13_1).f1.f1).length c550_2,.slice A550_3 ((zD l0_0 x13_1).f1.f2).length c550_3]] rfl byah ?_;(with_reducible refine (vW.calls k1 ((zD l0_0 x13_1).f1.f0) _ _ ((zD l0_0 x13_1).f1.f1) _ _ ((zD l0_0 x13_1).f1.f2) t553 _ ?side1 ?side2 ?side3 ?side4 A12.out).mono ?_);(case side1=>exact Kd.vU HR550_2.out (byaj GE549.out GE551.out));(case side2=>exact HC550_2.out);(case side3=>exact Kd.vU HR550_3.out (byaj GE549.out GE551.out));(case side4=>exact HC550_3.out);rintro e w26 ⟨rfl,hb⟩;refine ⟨_,rfl,?_⟩;have n_:=q_3 (jQ (g:=gb549) (o:=.cells #[.slice (some ad550) l0_0.length c0_0] 25 (0,0)) (byat NB549_551.out BK549.out) hb) (jQ (g:=gb551) (o:=.cells #[.bool true,.int .i64 ((zD l0_0 x13_1).f1.f0),.slice A550_2 ((zD l0_0 x13_1).f1.f1).length c550_2,.slice A550_3 ((zD l0_0 x13_1).f1.f2).length c550_3] 58 (0,0)) (by (with_reducible repeat (first|refine qF ?_ _|refine qG ?_|refine qE ?_ _));refine qO (cs:=#[.bool true,.int .i64 ((zD l0_0 x13_1).f1.f0),.slice A550_2 ((zD l0_0 x13_1).f1.f1).length c550_2,.slice none 0 0]) ?_ 3 _ rfl;(with_reducible repeat (first|refine qF ?_ _|refine qG ?_|refine qE ?_ _));refine qO (cs:=#[.bool true,.int .i64 ((zD l0_0 x13_1).f1.f0),.slice none 0 0,.slice none 0 0]) ?_ 2 _ rfl;(with_reducible repeat (first|refine qF ?_ _|refine qG ?_|refine qE ?_ _));refine qO (cs:=#[.bool true,.int .i64 0,.slice none 0 0,.slice none 0 0]) ?_ 1 _ rfl;(with_reducible repeat (first|refine qF ?_ _|refine qG ?_|refine qE ?_ _));refine qO (cs:=#[.bool false,.int .i64 0,.slice none 0 0,.slice none 0 0]) ?_ 0 _ rfl;(with_reducible repeat (first|refine qF ?_ _|refine qG ?_|refine qE ?_ _));exact BK551.out) hb) (qC (byaj GE549.out GE551.out) hb);clear BK549 BK551 HB;obtain ⟨BK549,BK551,HB⟩:=n_;clear hb))
          have n_:=q_3 (qG BK549.out) (qG BK551.out) (vI HB.out)
          clear BK549 BK551 HB
          obtain ⟨BK549,BK551,HB⟩:=n_
          refine Qm (n:=8) (S:=fun w'=>w'.cell? ⟨gb551,0,none⟩ = some (.bool true)∧w'.cell? ⟨gb551,1,none⟩ = some (.int .i64 ((zD l0_0 x13_1).f1.f0))∧w'.cell? ⟨gb551,2,none⟩ = some (.slice A550_2 ((zD l0_0 x13_1).f1.f1).length c550_2)∧w'.cell? ⟨gb551,3,none⟩ = some (.slice A550_3 ((zD l0_0 x13_1).f1.f2).length c550_3)∧w'.cell? ⟨gb549,0,none⟩ = some (.slice (some ad550) l0_0.length c0_0)) (ds:=[]) (bb 8 0) (by kernel_rfl) rfl rfl ⟨(qN BK551.out 0).trans rfl,(qN BK551.out 1).trans rfl,(qN BK551.out 2).trans rfl,(qN BK551.out 3).trans rfl,(qN BK549.out 0).trans rfl⟩ (fun hHeld=>?_);refine Qb zN.tab12 zN.bits12 (fun HT_ HW_=>?_)
          generalize w26.drew = w27 at BK549 BK551 HB hHeld ⊢
          refine zH (i:=0) (N:=some 31) (bb 8 1) ?_
          refine zH (i:=3) (N:=some 34) (bb 8 9) ?_
          refine takeZJ (i:=1) (N:=some 32) (bb 8 11) hHeld ?_
          refine takeZJ (i:=4) (N:=some 35) (bb 8 27) hHeld ?_
          refine zH (i:=5) (N:=some 36) (bb 8 59) ?_
          refine zH (i:=6) (N:=some 37) (bb 8 123) ?_
          refine one_ (i:=2) (N:=some 33) (bb 8 127) rfl rfl (kC HT_.out (by kernel_rfl)) (by decide) (fun K hK=>?_)
          refine Qg Try.func55 (by kernel_rfl) rfl #[.agg #[.int .i64 ((zD l0_0 x13_1).f1.f0),.slice A550_2 ((zD l0_0 x13_1).f1.f1).length c550_2,.slice A550_3 ((zD l0_0 x13_1).f1.f2).length c550_3]] (by rfl) rfl rfl byah ?_
          with_reducible refine (zK.calls k1 ((zD l0_0 x13_1).f1.f0) _ _ ((zD l0_0 x13_1).f1.f1) _ _ ((zD l0_0 x13_1).f1.f2) t554 _ ?side1 ?side2 ?side3 ?side4 A14.out).mono ?_
          (case side1=>exact byaq HR550_2.out)
          (case side2=>exact HC550_2.out)
          (case side3=>exact byaq HR550_3.out)
          (case side4=>exact HC550_3.out)
          rintro e w28 ⟨rfl,hb⟩
          refine ⟨_,rfl,?_⟩
          have n_:=q_3 (qH BK549.out hb) (qH BK551.out hb) (qC (byaj GE549.out GE551.out) hb)
          clear BK549 BK551 HB
          obtain ⟨BK549,BK551,HB⟩:=n_
          (try clear hb)
          (try clear hb2)
          (try clear hk)
          (try clear hi)
          refine hK.out _ _ ⟨(qN BK551.out 0).trans rfl,(qN BK551.out 1).trans rfl,(qN BK551.out 2).trans rfl,(qN BK551.out 3).trans rfl,(qN BK549.out 0).trans rfl⟩ (fun hHeld=>?_)
          clear hK K
          refine kN (N:=some 33) ?_
          refine zH (i:=7) (N:=some 38) (bb 8 255) ?_
          refine Ze (Qz HT_.out (by kernel_rfl)) ?_
          try go_wp2
          go_roundg k1
          case measure=>have:=HK1.out;omega
          case rel=>exact ⟨(wrap64 (x13_1 + 1)),byae,H',⟨byai⟩,⟨byaf BK549.out⟩,⟨byaj GE549.out GE551.out⟩⟩
        ·rw [if_neg c13] at H
         obtain ⟨c13b0,c13b1⟩:=eqF c13
         obtain rfl:=Option.some.inj H
         have p550 : 0 ≤ (x13_1 : Int):=of_decide_eq_true byag
         have q550 : x13_1 < (l0_0.length : Int):=of_decide_eq_true byag
         obtain ⟨ad550,A550_2,c550_2,A550_3,c550_3,e550,hx550_0,hx550_1,hx550_2,hx550_3,hl550_2,hi550_2,hl550_3,hi550_3⟩:=Zm HR0_0.out x13_1 p550 q550
         (try rw [← Nbq10.out] at hx550_0)
         cases e550
         replace hx550_0:=(HB.out.cell (World.block_lt_of_cell? w _ hx550_0)).trans hx550_0
         replace hx550_1:=(HB.out.cell (World.block_lt_of_cell? w _ hx550_1)).trans hx550_1
         replace hx550_2:=(HB.out.cell (World.block_lt_of_cell? w _ hx550_2)).trans hx550_2
         replace hx550_3:=(HB.out.cell (World.block_lt_of_cell? w _ hx550_3)).trans hx550_3
         have HR550_2:=qA.mk hi550_2
         have HC550_2:=qA.mk hl550_2
         clear hi550_2 hl550_2
         have HR550_3:=qA.mk hi550_3
         have HC550_3:=qA.mk hl550_3
         clear hi550_3 hl550_3
         replace p550:=eq_true p550
         replace q550:=eq_true q550
         go_wp2_with (first|((with_reducible refine qP (N:=4) rfl ?_);refine zV (N:=4) (cs:=#[.bool false,.int .i64 0,.slice none 0 0,.slice none 0 0]) (t:=58) ?_;intro gb551 hg w29 hbox hb;have n_:=q_6 (qH BK549.out hb) (qC (byad GE549.out) hb) (hbox) ((bycl GE549.out : w.heap.size ≤ gb551)) ((bycl GE549.out : w.heap.size ≤ gb551)) ((by rw [hg];exact Nat.ne_of_lt (vF BK549.out) : gb549≠gb551));clear BK549 HB;obtain ⟨BK549,HB,BK551,GW551,GE551,NB549_551⟩:=n_;have NB551_549:=ns NB549_551;clear hb hbox hg;have hnb30:=NB551_549.out;have hnc30:=NB549_551.out;obtain ⟨hcz31_0,hcz31_1,hcz31_2,hcz31_3,hfz31_0,hfz31_1,hfz31_2,hfz31_3⟩:=cz4 BK551.out)|((with_reducible refine qI (f:=48) rfl ?_);refine qY (some 27) rfl rfl Try.func48 (by kernel_rfl) rfl #[.agg #[.int .i64 ((zD l0_0 x13_1).f1.f0),.slice A550_2 ((zD l0_0 x13_1).f1.f1).length c550_2,.slice A550_3 ((zD l0_0 x13_1).f1.f2).length c550_3]] rfl byah ?_;(with_reducible refine (vW.calls k1 ((zD l0_0 x13_1).f1.f0) _ _ ((zD l0_0 x13_1).f1.f1) _ _ ((zD l0_0 x13_1).f1.f2) t553 _ ?side1 ?side2 ?side3 ?side4 A12.out).mono ?_);(case side1=>exact Kd.vU HR550_2.out (byaj GE549.out GE551.out));(case side2=>exact HC550_2.out);(case side3=>exact Kd.vU HR550_3.out (byaj GE549.out GE551.out));(case side4=>exact HC550_3.out);rintro e w32 ⟨rfl,hb⟩;refine ⟨_,rfl,?_⟩;have n_:=q_3 (jQ (g:=gb549) (o:=.cells #[.slice (some ad550) l0_0.length c0_0] 25 (0,0)) (byat NB549_551.out BK549.out) hb) (jQ (g:=gb551) (o:=.cells #[.bool true,.int .i64 ((zD l0_0 x13_1).f1.f0),.slice A550_2 ((zD l0_0 x13_1).f1.f1).length c550_2,.slice A550_3 ((zD l0_0 x13_1).f1.f2).length c550_3] 58 (0,0)) (by (with_reducible repeat (first|refine qF ?_ _|refine qG ?_|refine qE ?_ _));refine qO (cs:=#[.bool true,.int .i64 ((zD l0_0 x13_1).f1.f0),.slice A550_2 ((zD l0_0 x13_1).f1.f1).length c550_2,.slice none 0 0]) ?_ 3 _ rfl;(with_reducible repeat (first|refine qF ?_ _|refine qG ?_|refine qE ?_ _));refine qO (cs:=#[.bool true,.int .i64 ((zD l0_0 x13_1).f1.f0),.slice none 0 0,.slice none 0 0]) ?_ 2 _ rfl;(with_reducible repeat (first|refine qF ?_ _|refine qG ?_|refine qE ?_ _));refine qO (cs:=#[.bool true,.int .i64 0,.slice none 0 0,.slice none 0 0]) ?_ 1 _ rfl;(with_reducible repeat (first|refine qF ?_ _|refine qG ?_|refine qE ?_ _));refine qO (cs:=#[.bool false,.int .i64 0,.slice none 0 0,.slice none 0 0]) ?_ 0 _ rfl;(with_reducible repeat (first|refine qF ?_ _|refine qG ?_|refine qE ?_ _));exact BK551.out) hb) (qC (byaj GE549.out GE551.out) hb);clear BK549 BK551 HB;obtain ⟨BK549,BK551,HB⟩:=n_;clear hb))
         go_ret
         exact ⟨byac,byaj GE549.out GE551.out⟩
       ·replace c11:=Bool.eq_false_iff.mpr c11
        subst c11
        rw [if_neg (show ¬ (false = true) by decide)] at H
        replace H:=Option.bind_eq_some_iff.mp H
        obtain ⟨t552,A330,H⟩:=H
        try dsimp only at H
        have A33:=qA.mk A330
        clear A330
        by_cases c34 : t552 = true
        ·subst c34
         rw [if_pos rfl] at H
         have H':=qA.mk H
         clear H
         have p550 : 0 ≤ (x13_1 : Int):=of_decide_eq_true byag
         have q550 : x13_1 < (l0_0.length : Int):=of_decide_eq_true byag
         obtain ⟨ad550,A550_2,c550_2,A550_3,c550_3,e550,hx550_0,hx550_1,hx550_2,hx550_3,hl550_2,hi550_2,hl550_3,hi550_3⟩:=Zm HR0_0.out x13_1 p550 q550
         (try rw [← Nbq10.out] at hx550_0)
         cases e550
         replace hx550_0:=(HB.out.cell (World.block_lt_of_cell? w _ hx550_0)).trans hx550_0
         replace hx550_1:=(HB.out.cell (World.block_lt_of_cell? w _ hx550_1)).trans hx550_1
         replace hx550_2:=(HB.out.cell (World.block_lt_of_cell? w _ hx550_2)).trans hx550_2
         replace hx550_3:=(HB.out.cell (World.block_lt_of_cell? w _ hx550_3)).trans hx550_3
         have HR550_2:=qA.mk hi550_2
         have HC550_2:=qA.mk hl550_2
         clear hi550_2 hl550_2
         have HR550_3:=qA.mk hi550_3
         have HC550_3:=qA.mk hl550_3
         clear hi550_3 hl550_3
         replace p550:=eq_true p550
         replace q550:=eq_true q550
         go_wp2_with (first|((with_reducible refine qP (N:=4) rfl ?_);refine zV (N:=4) (cs:=#[.bool false,.int .i64 0,.slice none 0 0,.slice none 0 0]) (t:=58) ?_;intro gb551 hg w35 hbox hb;have n_:=q_6 (qH BK549.out hb) (qC (byad GE549.out) hb) (hbox) ((bycl GE549.out : w.heap.size ≤ gb551)) ((bycl GE549.out : w.heap.size ≤ gb551)) ((by rw [hg];exact Nat.ne_of_lt (vF BK549.out) : gb549≠gb551));clear BK549 HB;obtain ⟨BK549,HB,BK551,GW551,GE551,NB549_551⟩:=n_;have NB551_549:=ns NB549_551;clear hb hbox hg;have hnb36:=NB551_549.out;have hnc36:=NB549_551.out;obtain ⟨hcz37_0,hcz37_1,hcz37_2,hcz37_3,hfz37_0,hfz37_1,hfz37_2,hfz37_3⟩:=cz4 BK551.out)|((with_reducible refine qI (f:=54) rfl ?_);refine qY (some 23) rfl rfl Try.func54 (by kernel_rfl) rfl #[.agg #[.int .i64 ((zD l0_0 x13_1).f1.f0),.slice A550_2 ((zD l0_0 x13_1).f1.f1).length c550_2,.slice A550_3 ((zD l0_0 x13_1).f1.f2).length c550_3],.agg #[.int .i64 0,.slice none 0 0,.slice none 0 0]] rfl byah ?_;(refine (zG.calls k1 ((zD l0_0 x13_1).f1.f0) _ _ ((zD l0_0 x13_1).f1.f1) _ _ ((zD l0_0 x13_1).f1.f2) 0 _ _ ([] : List Int) _ _ ([] : List (S56)) true _ ?side1 ?side2 ?side3 ?side4 ?side5 ?side6 ?side7 ?side8 A33.out).mono ?_);(case side1=>exact Kd.vU HR550_2.out (byaj GE549.out GE551.out));(case side2=>exact HC550_2.out);(case side3=>exact Kd.vU HR550_3.out (byaj GE549.out GE551.out));(case side4=>exact HC550_3.out);(case side5=>exact Kd.C_nil _ _);(case side6=>exact Nat.le_refl _);(case side7=>exact Kd.C_nil _ _);(case side8=>exact Nat.le_refl _);rintro e w38 ⟨rfl,hb⟩;refine ⟨_,rfl,?_⟩;have n_:=q_3 (jQ (g:=gb549) (o:=.cells #[.slice (some ad550) l0_0.length c0_0] 25 (0,0)) (byat NB549_551.out BK549.out) hb) (jQ (g:=gb551) (o:=.cells #[.bool false,.int .i64 ((zD l0_0 x13_1).f1.f0),.slice A550_2 ((zD l0_0 x13_1).f1.f1).length c550_2,.slice A550_3 ((zD l0_0 x13_1).f1.f2).length c550_3] 58 (0,0)) (by (with_reducible repeat (first|refine qF ?_ _|refine qG ?_|refine qE ?_ _));refine qO (cs:=#[.bool false,.int .i64 ((zD l0_0 x13_1).f1.f0),.slice A550_2 ((zD l0_0 x13_1).f1.f1).length c550_2,.slice none 0 0]) ?_ 3 _ rfl;(with_reducible repeat (first|refine qF ?_ _|refine qG ?_|refine qE ?_ _));refine qO (cs:=#[.bool false,.int .i64 ((zD l0_0 x13_1).f1.f0),.slice none 0 0,.slice none 0 0]) ?_ 2 _ rfl;(with_reducible repeat (first|refine qF ?_ _|refine qG ?_|refine qE ?_ _));refine qO (cs:=#[.bool false,.int .i64 0,.slice none 0 0,.slice none 0 0]) ?_ 1 _ rfl;(with_reducible repeat (first|refine qF ?_ _|refine qG ?_|refine qE ?_ _));refine qO (cs:=#[.bool false,.int .i64 0,.slice none 0 0,.slice none 0 0]) ?_ 0 _ rfl;(with_reducible repeat (first|refine qF ?_ _|refine qG ?_|refine qE ?_ _));exact BK551.out) hb) (qC (byaj GE549.out GE551.out) hb);clear BK549 BK551 HB;obtain ⟨BK549,BK551,HB⟩:=n_;clear hb))
         go_roundg k1
         case measure=>have:=HK1.out;omega
         case rel=>exact ⟨(wrap64 (x13_1 + 1)),byae,H',⟨byai⟩,⟨byaf BK549.out⟩,⟨byaj GE549.out GE551.out⟩⟩
        ·replace c34:=Bool.eq_false_iff.mpr c34
         subst c34
         rw [if_neg (show ¬ (false = true) by decide)] at H
         obtain rfl:=Option.some.inj H
         have p550 : 0 ≤ (x13_1 : Int):=of_decide_eq_true byag
         have q550 : x13_1 < (l0_0.length : Int):=of_decide_eq_true byag
         obtain ⟨ad550,A550_2,c550_2,A550_3,c550_3,e550,hx550_0,hx550_1,hx550_2,hx550_3,hl550_2,hi550_2,hl550_3,hi550_3⟩:=Zm HR0_0.out x13_1 p550 q550
         (try rw [← Nbq10.out] at hx550_0)
         cases e550
         replace hx550_0:=(HB.out.cell (World.block_lt_of_cell? w _ hx550_0)).trans hx550_0
         replace hx550_1:=(HB.out.cell (World.block_lt_of_cell? w _ hx550_1)).trans hx550_1
         replace hx550_2:=(HB.out.cell (World.block_lt_of_cell? w _ hx550_2)).trans hx550_2
         replace hx550_3:=(HB.out.cell (World.block_lt_of_cell? w _ hx550_3)).trans hx550_3
         have HR550_2:=qA.mk hi550_2
         have HC550_2:=qA.mk hl550_2
         clear hi550_2 hl550_2
         have HR550_3:=qA.mk hi550_3
         have HC550_3:=qA.mk hl550_3
         clear hi550_3 hl550_3
         replace p550:=eq_true p550
         replace q550:=eq_true q550
         go_wp2_with (first|((with_reducible refine qP (N:=4) rfl ?_);refine zV (N:=4) (cs:=#[.bool false,.int .i64 0,.slice none 0 0,.slice none 0 0]) (t:=58) ?_;intro gb551 hg w39 hbox hb;have n_:=q_6 (qH BK549.out hb) (qC (byad GE549.out) hb) (hbox) ((bycl GE549.out : w.heap.size ≤ gb551)) ((bycl GE549.out : w.heap.size ≤ gb551)) ((by rw [hg];exact Nat.ne_of_lt (vF BK549.out) : gb549≠gb551));clear BK549 HB;obtain ⟨BK549,HB,BK551,GW551,GE551,NB549_551⟩:=n_;have NB551_549:=ns NB549_551;clear hb hbox hg;have hnb40:=NB551_549.out;have hnc40:=NB549_551.out;obtain ⟨hcz41_0,hcz41_1,hcz41_2,hcz41_3,hfz41_0,hfz41_1,hfz41_2,hfz41_3⟩:=cz4 BK551.out)|((with_reducible refine qI (f:=54) rfl ?_);refine qY (some 23) rfl rfl Try.func54 (by kernel_rfl) rfl #[.agg #[.int .i64 ((zD l0_0 x13_1).f1.f0),.slice A550_2 ((zD l0_0 x13_1).f1.f1).length c550_2,.slice A550_3 ((zD l0_0 x13_1).f1.f2).length c550_3],.agg #[.int .i64 0,.slice none 0 0,.slice none 0 0]] rfl byah ?_;(refine (zG.calls k1 ((zD l0_0 x13_1).f1.f0) _ _ ((zD l0_0 x13_1).f1.f1) _ _ ((zD l0_0 x13_1).f1.f2) 0 _ _ ([] : List Int) _ _ ([] : List (S56)) false _ ?side1 ?side2 ?side3 ?side4 ?side5 ?side6 ?side7 ?side8 A33.out).mono ?_);(case side1=>exact Kd.vU HR550_2.out (byaj GE549.out GE551.out));(case side2=>exact HC550_2.out);(case side3=>exact Kd.vU HR550_3.out (byaj GE549.out GE551.out));(case side4=>exact HC550_3.out);(case side5=>exact Kd.C_nil _ _);(case side6=>exact Nat.le_refl _);(case side7=>exact Kd.C_nil _ _);(case side8=>exact Nat.le_refl _);rintro e w42 ⟨rfl,hb⟩;refine ⟨_,rfl,?_⟩;have n_:=q_3 (jQ (g:=gb549) (o:=.cells #[.slice (some ad550) l0_0.length c0_0] 25 (0,0)) (byat NB549_551.out BK549.out) hb) (jQ (g:=gb551) (o:=.cells #[.bool false,.int .i64 ((zD l0_0 x13_1).f1.f0),.slice A550_2 ((zD l0_0 x13_1).f1.f1).length c550_2,.slice A550_3 ((zD l0_0 x13_1).f1.f2).length c550_3] 58 (0,0)) (by (with_reducible repeat (first|refine qF ?_ _|refine qG ?_|refine qE ?_ _));refine qO (cs:=#[.bool false,.int .i64 ((zD l0_0 x13_1).f1.f0),.slice A550_2 ((zD l0_0 x13_1).f1.f1).length c550_2,.slice none 0 0]) ?_ 3 _ rfl;(with_reducible repeat (first|refine qF ?_ _|refine qG ?_|refine qE ?_ _));refine qO (cs:=#[.bool false,.int .i64 ((zD l0_0 x13_1).f1.f0),.slice none 0 0,.slice none 0 0]) ?_ 2 _ rfl;(with_reducible repeat (first|refine qF ?_ _|refine qG ?_|refine qE ?_ _));refine qO (cs:=#[.bool false,.int .i64 0,.slice none 0 0,.slice none 0 0]) ?_ 1 _ rfl;(with_reducible repeat (first|refine qF ?_ _|refine qG ?_|refine qE ?_ _));refine qO (cs:=#[.bool false,.int .i64 0,.slice none 0 0,.slice none 0 0]) ?_ 0 _ rfl;(with_reducible repeat (first|refine qF ?_ _|refine qG ?_|refine qE ?_ _));exact BK551.out) hb) (qC (byaj GE549.out GE551.out) hb);clear BK549 BK551 HB;obtain ⟨BK549,BK551,HB⟩:=n_;clear hb))
         go_ret
         exact ⟨byac,byaj GE549.out GE551.out⟩
      ·rw [if_neg c9] at H
       exact absurd H (by simp)
     ·rw [if_neg c8] at H
      exact absurd H (by simp)
    ·rw [if_neg c7] at H
     have c7b0:=decide_eq_false c7
     clear c7
     obtain rfl:=Option.some.inj H
     go_wp2
     go_ret
     exact ⟨byac,byad GE549.out⟩
end Go.Proofs.Ytkkbdimegpdbgaa.P
