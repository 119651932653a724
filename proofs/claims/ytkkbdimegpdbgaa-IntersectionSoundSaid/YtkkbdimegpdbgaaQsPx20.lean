/- Functions of the program as Lean functions, and the walks that show that the calls answer so; written by a program of this session (a changed print) and by hand. -/
import Derived.Test.YtkkbdimegpdbgaaQsPx0
import Derived.Test.YtkkbdimegpdbgaaQsPx19
namespace Go.Proofs.Ytkkbdimegpdbgaa.P
open Go.RowKit Go.Proofs.YtkkbdimegpdbgaaW.PrintWords Go.Proofs.YtkkbdimegpdbgaaW.PrintLast Go.Proofs.YtkkbdimegpdbgaaW.PrintMore
attribute [local go_sem] kF kD kV kU uJ uK kG kE
set_option linter.unusedVariables false
set_option linter.unusedSimpArgs false
mutual
def zG.j0 : Nat→Bool→Int→List Int→List (S56)→Int→List Int→List (S56)→Option (Bool)
 | 0,_,_,_,_,_,_,_=>none
 | k + 1,x27,x539000,x539001,x539002,x540000,x540001,x540002=>if x27 = true then (some false) else (zG.l0 k (x539002.length : Int) 0 x539000 x539001 x539002 x540000 x540001 x540002)
def zG.l0 : Nat→Int→Int→Int→List Int→List (S56)→Int→List Int→List (S56)→Option (Bool)
 | 0,_,_,_,_,_,_,_,_=>none
 | k + 1,x30,x31,x539000,x539001,x539002,x540000,x540001,x540002=>if x31 < x30 then (if 0 ≤ x31 then (if x31 < (x539002.length : Int) then (if x31 < (x540002.length : Int) then ((zG.f k ((qM x539002 x31).f0) ((qM x539002 x31).f1) ((qM x539002 x31).f2) ((qM x540002 x31).f0) ((qM x540002 x31).f1) ((qM x540002 x31).f2)).bind fun t543=>(if t543 = true then (zG.l0 k x30 (wrap64 (x31 + 1)) x539000 x539001 x539002 x540000 x540001 x540002) else (some false))) else (none)) else (none)) else (none)) else (some true)
def zG.f : Nat→Int→List Int→List (S56)→Int→List Int→List (S56)→Option (Bool)
 | 0,_,_,_,_,_,_=>none
 | k + 1,a0_0,l0_1,l0_2,a1_0,l1_1,l1_2=>if a0_0 = a1_0 then ((vO.f k l0_1 l1_1).bind fun t540=>(if t540 = true then (zG.j0 k ((l0_2.length : Int) != (l1_2.length : Int)) a0_0 l0_1 l0_2 a1_0 l1_1 l1_2) else (zG.j0 k true a0_0 l0_1 l0_2 a1_0 l1_1 l1_2))) else (zG.j0 k true a0_0 l0_1 l0_2 a1_0 l1_1 l1_2)
end
def zG.T6 : Bool × List (List Nat × List Nat):=(true,[([],[]),([0],[0]),([],[]),([1,2],[1,2]),([3],[3]),([],[]),([5],[5]),([],[]),([6,7],[6,7]),([8],[8]),([4,9],[4,9]),([10],[10])])
def zG.B6 : List Nat:=[0,1,0,7,15,0,32,0,224,480,1023,2047]
theorem zG.tab6 : rtab .any (opsOf Try.f54 6) = zG.T6:=by kernel_rfl
theorem zG.bits6 : Qv zG.T6.2 zG.B6 = true:=by kernel_rfl
set_option maxHeartbeats 8000000 in
set_option maxRecDepth 100000 in
theorem zG.calls (k : Nat) : ∀ (a0_0 : Int) (A0_1 : Option Addr) (c0_1 : Nat) (l0_1 : List Int) (A0_2 : Option Addr) (c0_2 : Nat) (l0_2 : List (S56)) (a1_0 : Int) (A1_1 : Option Addr) (c1_1 : Nat) (l1_1 : List Int) (A1_2 : Option Addr) (c1_2 : Nat) (l1_2 : List (S56)) (r : Bool) (w : World) (hr0_1 : Kd.C (Kd.int .i64) w A0_1 l0_1.length l0_1) (hc0_1 : l0_1.length ≤ c0_1) (hr0_2 : Kd.C k56 w A0_2 l0_2.length l0_2) (hc0_2 : l0_2.length ≤ c0_2) (hr1_1 : Kd.C (Kd.int .i64) w A1_1 l1_1.length l1_1) (hc1_1 : l1_1.length ≤ c1_1) (hr1_2 : Kd.C k56 w A1_2 l1_2.length l1_2) (hc1_2 : l1_2.length ≤ c1_2) (h : zG.f k a0_0 l0_1 l0_2 a1_0 l1_1 l1_2 = some r),
  Calls Try.prog 54 #[.agg #[.int .i64 a0_0,.slice A0_1 l0_1.length c0_1,.slice A0_2 l0_2.length c0_2],.agg #[.int .i64 a1_0,.slice A1_1 l1_1.length c1_1,.slice A1_2 l1_2.length c1_2]] w fun e w'=>e = .returned (.bool r)∧Below w.heap.size w w':=by
 induction k using Nat.strongRecOn with
 | _ k ih =>
 intro a0_0 A0_1 c0_1 l0_1 A0_2 c0_2 l0_2 a1_0 A1_1 c1_1 l1_1 A1_2 c1_2 l1_2 r w hr0_1 hc0_1 hr0_2 hc0_2 hr1_1 hc1_1 hr1_2 hc1_2 h
 cases k with
 | zero=>exact absurd h (by simp [zG.f])
 | succ k =>
 simp only [zG.f] at h
 have hu56:=Try.underlying56
 have HR0_1:=qA.mk hr0_1
 have HC0_1:=qA.mk hc0_1
 clear hr0_1 hc0_1
 have HR0_2:=qA.mk hr0_2
 have HC0_2:=qA.mk hc0_2
 clear hr0_2 hc0_2
 have HR1_1:=qA.mk hr1_1
 have HC1_1:=qA.mk hc1_1
 clear hr1_1 hc1_1
 have HR1_2:=qA.mk hr1_2
 have HC1_2:=qA.mk hc1_2
 clear hr1_2 hc1_2
 have HB:=qA.mk (Below.refl w.heap.size w)
 have H:=h
 clear h
 have HC3:=qA.mk H
 clear H
 go_enter Try.func54,Try.ntmps54
 go_upto_region 1 with (first|((with_reducible refine qP (N:=2) rfl ?_);(try (refine Ql (by rfl) ?_;dsimp only));refine zV (N:=2) (cs:=#[.int .i64 a0_0,.slice A0_1 l0_1.length c0_1,.slice A0_2 l0_2.length c0_2]) (t:=56) ?_;intro gb538 hg w4 hbox hb;have n_:=q_4 (qC byab hb) (hbox) ((byck : w.heap.size ≤ gb538)) ((byck : w.heap.size ≤ gb538));clear HB;obtain ⟨HB,BK538,GW538,GE538⟩:=n_;clear hb hbox hg)|((with_reducible refine qP (N:=3) rfl ?_);(try (refine Ql (by rfl) ?_;dsimp only));refine zV (N:=3) (cs:=#[.int .i64 a1_0,.slice A1_1 l1_1.length c1_1,.slice A1_2 l1_2.length c1_2]) (t:=56) ?_;intro gb539 hg w5 hbox hb;have n_:=q_6 (qH BK538.out hb) (qC (byad GE538.out) hb) (hbox) ((bycl GE538.out : w.heap.size ≤ gb539)) ((bycl GE538.out : w.heap.size ≤ gb539)) ((by rw [hg];exact Nat.ne_of_lt (vF BK538.out) : gb538≠gb539));clear BK538 HB;obtain ⟨BK538,HB,BK539,GW539,GE539,NB538_539⟩:=n_;have NB539_538:=ns NB538_539;clear hb hbox hg))
 (try simp only [Act.put,List.setIfInBounds_toArray,List.set_cons_zero,List.set_cons_succ])
 go_cut [27] (fun v27 wc=>∃ (kq : Nat) (x27_2 : Bool),v27 = .bool x27_2∧qA (zG.j0 kq x27_2 a0_0 l0_1 l0_2 a1_0 l1_1 l1_2 = some r)∧qA (kq ≤ k)∧qA (wc.heap[gb538]? = some (.cells #[.int .i64 a0_0,(.slice A0_1 l0_1.length c0_1),(.slice A0_2 l0_2.length c0_2)] 56 (0,0)))∧qA (wc.heap[gb539]? = some (.cells #[.int .i64 a1_0,(.slice A1_1 l1_1.length c1_1),(.slice A1_2 l1_2.length c1_2)] 56 (0,0)))∧qA (Below w.heap.size w wc))
 case first =>
  have H:=HC3.out
  clear HC3
  by_cases c6 : a0_0 = a1_0
  ·rw [if_pos c6] at H
   obtain ⟨c6b0,c6b1⟩:=eqT c6
   clear c6
   (first|rw [c6b0]|(simp only [Qe,Qh];rw [c6b0])|skip)
   replace H:=Option.bind_eq_some_iff.mp H
   obtain ⟨t540,A70,H⟩:=H
   try dsimp only at H
   have A7:=qA.mk A70
   clear A70
   by_cases c8 : t540 = true
   ·subst c8
    rw [if_pos rfl] at H
    have H':=qA.mk H
    clear H
    have hnb9:=NB538_539.out
    have hnc9:=NB539_538.out
    obtain ⟨hcz10_0,hcz10_1,hcz10_2,hfz10_0,hfz10_1,hfz10_2⟩:=cz3 BK538.out
    obtain ⟨hcz11_0,hcz11_1,hcz11_2,hfz11_0,hfz11_1,hfz11_2⟩:=cz3 BK539.out
    go_wp2_with (first|(go_at_call 77;(with_reducible refine (vO.calls k _ _ l0_1 _ _ l1_1 true _ ?side1 ?side2 ?side3 ?side4 A7.out).mono ?_);(case side1=>exact byaq HR0_1.out);(case side2=>exact HC0_1.out);(case side3=>exact byaq HR1_1.out);(case side4=>exact HC1_1.out);rintro e w' ⟨rfl,⟨nd,rfl⟩⟩))
    go_meet
    case rel=>exact ⟨_,(((l0_2.length : Int) != (l1_2.length : Int))),byae,H',⟨byap⟩,⟨byaf BK538.out⟩,⟨byaf BK539.out⟩,⟨byaj GE538.out GE539.out⟩⟩
   ·replace c8:=Bool.eq_false_iff.mpr c8
    subst c8
    rw [if_neg (show ¬ (false = true) by decide)] at H
    have H':=qA.mk H
    clear H
    have hnb12:=NB538_539.out
    have hnc12:=NB539_538.out
    obtain ⟨hcz13_0,hcz13_1,hcz13_2,hfz13_0,hfz13_1,hfz13_2⟩:=cz3 BK538.out
    obtain ⟨hcz14_0,hcz14_1,hcz14_2,hfz14_0,hfz14_1,hfz14_2⟩:=cz3 BK539.out
    go_wp2_with (first|(go_at_call 77;(with_reducible refine (vO.calls k _ _ l0_1 _ _ l1_1 false _ ?side1 ?side2 ?side3 ?side4 A7.out).mono ?_);(case side1=>exact byaq HR0_1.out);(case side2=>exact HC0_1.out);(case side3=>exact byaq HR1_1.out);(case side4=>exact HC1_1.out);rintro e w' ⟨rfl,⟨nd,rfl⟩⟩))
    go_meet
    case rel=>exact ⟨_,(true),byae,H',⟨byap⟩,⟨byaf BK538.out⟩,⟨byaf BK539.out⟩,⟨byaj GE538.out GE539.out⟩⟩
  ·rw [if_neg c6] at H
   obtain ⟨c6b0,c6b1⟩:=eqF c6
   (first|rw [c6b0]|(simp only [Qe,Qh];rw [c6b0])|skip)
   have H':=qA.mk H
   clear H
   have hnb15:=NB538_539.out
   have hnc15:=NB539_538.out
   obtain ⟨hcz16_0,hcz16_1,hcz16_2,hfz16_0,hfz16_1,hfz16_2⟩:=cz3 BK538.out
   obtain ⟨hcz17_0,hcz17_1,hcz17_2,hfz17_0,hfz17_1,hfz17_2⟩:=cz3 BK539.out
   go_wp2
   go_meet
   case rel=>exact ⟨_,(true),byae,H',⟨byap⟩,⟨byaf BK538.out⟩,⟨byaf BK539.out⟩,⟨byaj GE538.out GE539.out⟩⟩
 case rest =>
  clear HC3
  obtain ⟨kq,x27_2,rfl,HA,HJ2,BK538,BK539,HB⟩:=hcut
  cases kq with
  | zero=>exact absurd HA.out (by simp [zG.j0])
  | succ kj2 =>
   have H:=HA.out
   clear HA
   simp only [zG.j0] at H
   by_cases c18 : x27_2 = true
   ·subst c18
    rw [if_pos rfl] at H
    obtain rfl:=Option.some.inj H
    go_wp2
    go_ret
    exact ⟨byac,byaj GE538.out GE539.out⟩
   ·replace c18:=Bool.eq_false_iff.mpr c18
    subst c18
    rw [if_neg (show ¬ (false = true) by decide)] at H
    have H':=qA.mk H
    clear H
    have hnb19:=NB538_539.out
    have hnc19:=NB539_538.out
    obtain ⟨hcz20_0,hcz20_1,hcz20_2,hfz20_0,hfz20_1,hfz20_2⟩:=cz3 BK538.out
    go_wp2
    go_loopg [31] kj2 (fun kq v31 w'=>∃ (x31_2 : Int),v31 = .int .i64 x31_2∧qA (zG.l0 kq (l0_2.length : Int) x31_2 a0_0 l0_1 l0_2 a1_0 l1_1 l1_2 = some r)∧qA (kq ≤ kj2)∧qA (w'.heap[gb538]? = some (.cells #[.int .i64 a0_0,(.slice A0_1 l0_1.length c0_1),(.slice A0_2 l0_2.length c0_2)] 56 (0,0)))∧qA (w'.heap[gb539]? = some (.cells #[.int .i64 a1_0,(.slice A1_1 l1_1.length c1_1),(.slice A1_2 l1_2.length c1_2)] 56 (0,0)))∧qA (Below w.heap.size w w'))
    case atStart=>exact ⟨(0),byae,H',⟨Nat.le_refl _⟩,⟨byaf BK538.out⟩,⟨byaf BK539.out⟩,⟨byaj GE538.out GE539.out⟩⟩
    case round =>
     clear H'
     obtain ⟨x31_2,rfl,HA,HK2,BK538,BK539,HB⟩:=hrel
     cases gk with
     | zero=>exact absurd HA.out (by simp [zG.l0])
     | succ k2 =>
      have H:=HA.out
      clear HA
      simp only [zG.l0] at H
      by_cases c21 : x31_2 < (l0_2.length : Int)
      ·rw [if_pos c21] at H
       have c21b0:=decide_eq_true c21
       clear c21
       by_cases c22 : 0 ≤ x31_2
       ·rw [if_pos c22] at H
        have c22b0:=decide_eq_true c22
        clear c22
        by_cases c23 : x31_2 < (l0_2.length : Int)
        ·rw [if_pos c23] at H
         have c23b0:=decide_eq_true c23
         clear c23
         by_cases c24 : x31_2 < (l1_2.length : Int)
         ·rw [if_pos c24] at H
          have c24b0:=decide_eq_true c24
          clear c24
          replace H:=Option.bind_eq_some_iff.mp H
          obtain ⟨t543,A250,H⟩:=H
          try dsimp only at H
          have A25:=qA.mk A250
          clear A250
          by_cases c26 : t543 = true
          ·subst c26
           rw [if_pos rfl] at H
           have H':=qA.mk H
           clear H
           try go_wp2
           have n_:=q_3 (qG BK538.out) (qG BK539.out) (vI HB.out)
           clear BK538 BK539 HB
           obtain ⟨BK538,BK539,HB⟩:=n_
           have p541 : 0 ≤ (x31_2 : Int):=of_decide_eq_true byag
           have q541 : x31_2 < (l0_2.length : Int):=of_decide_eq_true byag
           obtain ⟨ad541,A541_1,c541_1,A541_2,c541_2,e541,hx541_0,hx541_1,hx541_2,hl541_1,hi541_1,hl541_2,hi541_2⟩:=Zj HR0_2.out x31_2 p541 q541
           have hw541_2:=hx541_2
           have hw541_1:=hx541_1
           have hw541_0:=hx541_0
           cases e541
           replace hx541_0:=(HB.out.cell (World.block_lt_of_cell? w _ hx541_0)).trans hx541_0
           replace hx541_1:=(HB.out.cell (World.block_lt_of_cell? w _ hx541_1)).trans hx541_1
           replace hx541_2:=(HB.out.cell (World.block_lt_of_cell? w _ hx541_2)).trans hx541_2
           have HR541_1:=qA.mk hi541_1
           have HC541_1:=qA.mk hl541_1
           clear hi541_1 hl541_1
           have HR541_2:=qA.mk hi541_2
           have HC541_2:=qA.mk hl541_2
           clear hi541_2 hl541_2
           replace p541:=eq_true p541
           replace q541:=eq_true q541
           have p542 : 0 ≤ (x31_2 : Int):=of_decide_eq_true byag
           have q542 : x31_2 < (l1_2.length : Int):=of_decide_eq_true byag
           obtain ⟨ad542,A542_1,c542_1,A542_2,c542_2,e542,hx542_0,hx542_1,hx542_2,hl542_1,hi542_1,hl542_2,hi542_2⟩:=Zj HR1_2.out x31_2 p542 q542
           have hw542_2:=hx542_2
           have hw542_1:=hx542_1
           have hw542_0:=hx542_0
           cases e542
           replace hx542_0:=(HB.out.cell (World.block_lt_of_cell? w _ hx542_0)).trans hx542_0
           replace hx542_1:=(HB.out.cell (World.block_lt_of_cell? w _ hx542_1)).trans hx542_1
           replace hx542_2:=(HB.out.cell (World.block_lt_of_cell? w _ hx542_2)).trans hx542_2
           have HR542_1:=qA.mk hi542_1
           have HC542_1:=qA.mk hl542_1
           clear hi542_1 hl542_1
           have HR542_2:=qA.mk hi542_2
           have HC542_2:=qA.mk hl542_2
           clear hi542_2 hl542_2
           replace p542:=eq_true p542
           replace q542:=eq_true q542
           refine Qm (n:=12) (S:=fun w'=>w'.cell? ⟨gb538,0,none⟩ = some (.int .i64 a0_0)∧w'.cell? ⟨gb538,1,none⟩ = some (.slice A0_1 l0_1.length c0_1)∧w'.cell? ⟨gb538,2,none⟩ = some (.slice (some ad541) l0_2.length c0_2)∧w'.cell? ⟨gb539,0,none⟩ = some (.int .i64 a1_0)∧w'.cell? ⟨gb539,1,none⟩ = some (.slice A1_1 l1_1.length c1_1)∧w'.cell? ⟨gb539,2,none⟩ = some (.slice (some ad542) l1_2.length c1_2)∧w'.cell? (ad541.add ((x31_2).toNat * 3)) = some (.int .i64 ((qM l0_2 x31_2).f0))∧w'.cell? ⟨(ad541.add ((x31_2).toNat * 3)).block,(ad541.add ((x31_2).toNat * 3)).off + 1,none⟩ = some (.slice A541_1 ((qM l0_2 x31_2).f1).length c541_1)∧w'.cell? ⟨(ad541.add ((x31_2).toNat * 3)).block,(ad541.add ((x31_2).toNat * 3)).off + 2,none⟩ = some (.slice A541_2 ((qM l0_2 x31_2).f2).length c541_2)∧w'.cell? (ad542.add ((x31_2).toNat * 3)) = some (.int .i64 ((qM l1_2 x31_2).f0))∧w'.cell? ⟨(ad542.add ((x31_2).toNat * 3)).block,(ad542.add ((x31_2).toNat * 3)).off + 1,none⟩ = some (.slice A542_1 ((qM l1_2 x31_2).f1).length c542_1)∧w'.cell? ⟨(ad542.add ((x31_2).toNat * 3)).block,(ad542.add ((x31_2).toNat * 3)).off + 2,none⟩ = some (.slice A542_2 ((qM l1_2 x31_2).f2).length c542_2)) (ds:=[]) (bb 12 0) (by kernel_rfl) rfl rfl ⟨(qN BK538.out 0).trans rfl,(qN BK538.out 1).trans rfl,(qN BK538.out 2).trans rfl,(qN BK539.out 0).trans rfl,(qN BK539.out 1).trans rfl,(qN BK539.out 2).trans rfl,((HB.out.cell (World.block_lt_of_cell? w _ hw541_0)).trans hw541_0),((HB.out.cell (World.block_lt_of_cell? w _ hw541_1)).trans hw541_1),((HB.out.cell (World.block_lt_of_cell? w _ hw541_2)).trans hw541_2),((HB.out.cell (World.block_lt_of_cell? w _ hw542_0)).trans hw542_0),((HB.out.cell (World.block_lt_of_cell? w _ hw542_1)).trans hw542_1),((HB.out.cell (World.block_lt_of_cell? w _ hw542_2)).trans hw542_2)⟩ (fun hHeld=>?_);refine Qb zG.tab6 zG.bits6 (fun HT_ HW_=>?_)
           generalize wr.drew = w27 at BK538 BK539 HB HR541_1 HR541_2 HR542_1 HR542_2 hx541_0 hx541_1 hx541_2 hx542_0 hx542_1 hx542_2 hHeld ⊢
           refine zH (i:=0) (N:=some 34) (bb 12 1) ?_
           refine zH (i:=2) (N:=some 36) (bb 12 5) ?_
           refine zH (i:=5) (N:=some 39) (bb 12 37) ?_
           refine zH (i:=7) (N:=some 41) (bb 12 165) ?_
           refine takeZI (i:=1) (N:=some 35) (bb 12 167) hHeld ?_
           refine zH (i:=3) (N:=some 37) (bb 12 175) ?_
           refine takeZI (i:=4) (N:=some 38) (bb 12 191) hHeld ?_
           refine takeZI (i:=6) (N:=some 40) (bb 12 255) hHeld ?_
           refine zH (i:=8) (N:=some 42) (bb 12 511) ?_
           refine takeZI (i:=9) (N:=some 43) (bb 12 1023) hHeld ?_
           refine one_ (i:=10) (N:=some 44) (bb 12 2047) rfl rfl (kC HT_.out (by kernel_rfl)) (by decide) (fun K hK=>?_)
           refine Qg Try.func54 (by kernel_rfl) rfl #[.agg #[.int .i64 ((qM l0_2 x31_2).f0),.slice A541_1 ((qM l0_2 x31_2).f1).length c541_1,.slice A541_2 ((qM l0_2 x31_2).f2).length c541_2],.agg #[.int .i64 ((qM l1_2 x31_2).f0),.slice A542_1 ((qM l1_2 x31_2).f1).length c542_1,.slice A542_2 ((qM l1_2 x31_2).f2).length c542_2]] (by rfl) rfl rfl byah ?_
           with_reducible refine (ih k2 (by have:=HJ2.out;have:=HK2.out;omega) ((qM l0_2 x31_2).f0) _ _ ((qM l0_2 x31_2).f1) _ _ ((qM l0_2 x31_2).f2) ((qM l1_2 x31_2).f0) _ _ ((qM l1_2 x31_2).f1) _ _ ((qM l1_2 x31_2).f2) true _ ?side1 ?side2 ?side3 ?side4 ?side5 ?side6 ?side7 ?side8 A25.out).mono ?_
           (case side1=>exact byaq HR541_1.out)
           (case side2=>exact HC541_1.out)
           (case side3=>exact byaq HR541_2.out)
           (case side4=>exact HC541_2.out)
           (case side5=>exact byaq HR542_1.out)
           (case side6=>exact HC542_1.out)
           (case side7=>exact byaq HR542_2.out)
           (case side8=>exact HC542_2.out)
           rintro e w28 ⟨rfl,hb⟩
           refine ⟨_,rfl,?_⟩
           have n_:=q_3 (qH BK538.out hb) (qH BK539.out hb) (qC (byaj GE538.out GE539.out) hb)
           clear BK538 BK539 HB
           obtain ⟨BK538,BK539,HB⟩:=n_
           (try clear hb)
           (try clear hb2)
           (try clear hk)
           (try clear hi)
           refine hK.out _ _ ⟨(qN BK538.out 0).trans rfl,(qN BK538.out 1).trans rfl,(qN BK538.out 2).trans rfl,(qN BK539.out 0).trans rfl,(qN BK539.out 1).trans rfl,(qN BK539.out 2).trans rfl,((HB.out.cell (World.block_lt_of_cell? w _ hw541_0)).trans hw541_0),((HB.out.cell (World.block_lt_of_cell? w _ hw541_1)).trans hw541_1),((HB.out.cell (World.block_lt_of_cell? w _ hw541_2)).trans hw541_2),((HB.out.cell (World.block_lt_of_cell? w _ hw542_0)).trans hw542_0),((HB.out.cell (World.block_lt_of_cell? w _ hw542_1)).trans hw542_1),((HB.out.cell (World.block_lt_of_cell? w _ hw542_2)).trans hw542_2)⟩ (fun hHeld=>?_)
           clear hK K
           refine kN (N:=some 44) ?_
           refine zH (i:=11) (N:=some 45) (bb 12 4095) ?_
           refine Ze (Qz HT_.out (by kernel_rfl)) ?_
           try go_wp2
           go_roundg k2
           case measure=>have:=HJ2.out;have:=HK2.out;omega
           case rel=>exact ⟨(wrap64 (x31_2 + 1)),byae,H',⟨by have:=HJ2.out;have:=HK2.out;omega⟩,⟨byaf BK538.out⟩,⟨byaf BK539.out⟩,⟨byaj GE538.out GE539.out⟩⟩
          ·replace c26:=Bool.eq_false_iff.mpr c26
           subst c26
           rw [if_neg (show ¬ (false = true) by decide)] at H
           obtain rfl:=Option.some.inj H
           try go_wp2
           have n_:=q_3 (qG BK538.out) (qG BK539.out) (vI HB.out)
           clear BK538 BK539 HB
           obtain ⟨BK538,BK539,HB⟩:=n_
           have p541 : 0 ≤ (x31_2 : Int):=of_decide_eq_true byag
           have q541 : x31_2 < (l0_2.length : Int):=of_decide_eq_true byag
           obtain ⟨ad541,A541_1,c541_1,A541_2,c541_2,e541,hx541_0,hx541_1,hx541_2,hl541_1,hi541_1,hl541_2,hi541_2⟩:=Zj HR0_2.out x31_2 p541 q541
           have hw541_2:=hx541_2
           have hw541_1:=hx541_1
           have hw541_0:=hx541_0
           cases e541
           replace hx541_0:=(HB.out.cell (World.block_lt_of_cell? w _ hx541_0)).trans hx541_0
           replace hx541_1:=(HB.out.cell (World.block_lt_of_cell? w _ hx541_1)).trans hx541_1
           replace hx541_2:=(HB.out.cell (World.block_lt_of_cell? w _ hx541_2)).trans hx541_2
           have HR541_1:=qA.mk hi541_1
           have HC541_1:=qA.mk hl541_1
           clear hi541_1 hl541_1
           have HR541_2:=qA.mk hi541_2
           have HC541_2:=qA.mk hl541_2
           clear hi541_2 hl541_2
           replace p541:=eq_true p541
           replace q541:=eq_true q541
           have p542 : 0 ≤ (x31_2 : Int):=of_decide_eq_true byag
           have q542 : x31_2 < (l1_2.length : Int):=of_decide_eq_true byag
           obtain ⟨ad542,A542_1,c542_1,A542_2,c542_2,e542,hx542_0,hx542_1,hx542_2,hl542_1,hi542_1,hl542_2,hi542_2⟩:=Zj HR1_2.out x31_2 p542 q542
           have hw542_2:=hx542_2
           have hw542_1:=hx542_1
           have hw542_0:=hx542_0
           cases e542
           replace hx542_0:=(HB.out.cell (World.block_lt_of_cell? w _ hx542_0)).trans hx542_0
           replace hx542_1:=(HB.out.cell (World.block_lt_of_cell? w _ hx542_1)).trans hx542_1
           replace hx542_2:=(HB.out.cell (World.block_lt_of_cell? w _ hx542_2)).trans hx542_2
           have HR542_1:=qA.mk hi542_1
           have HC542_1:=qA.mk hl542_1
           clear hi542_1 hl542_1
           have HR542_2:=qA.mk hi542_2
           have HC542_2:=qA.mk hl542_2
           clear hi542_2 hl542_2
           replace p542:=eq_true p542
           replace q542:=eq_true q542
           refine Qm (n:=12) (S:=fun w'=>w'.cell? ⟨gb538,0,none⟩ = some (.int .i64 a0_0)∧w'.cell? ⟨gb538,1,none⟩ = some (.slice A0_1 l0_1.length c0_1)∧w'.cell? ⟨gb538,2,none⟩ = some (.slice (some ad541) l0_2.length c0_2)∧w'.cell? ⟨gb539,0,none⟩ = some (.int .i64 a1_0)∧w'.cell? ⟨gb539,1,none⟩ = some (.slice A1_1 l1_1.length c1_1)∧w'.cell? ⟨gb539,2,none⟩ = some (.slice (some ad542) l1_2.length c1_2)∧w'.cell? (ad541.add ((x31_2).toNat * 3)) = some (.int .i64 ((qM l0_2 x31_2).f0))∧w'.cell? ⟨(ad541.add ((x31_2).toNat * 3)).block,(ad541.add ((x31_2).toNat * 3)).off + 1,none⟩ = some (.slice A541_1 ((qM l0_2 x31_2).f1).length c541_1)∧w'.cell? ⟨(ad541.add ((x31_2).toNat * 3)).block,(ad541.add ((x31_2).toNat * 3)).off + 2,none⟩ = some (.slice A541_2 ((qM l0_2 x31_2).f2).length c541_2)∧w'.cell? (ad542.add ((x31_2).toNat * 3)) = some (.int .i64 ((qM l1_2 x31_2).f0))∧w'.cell? ⟨(ad542.add ((x31_2).toNat * 3)).block,(ad542.add ((x31_2).toNat * 3)).off + 1,none⟩ = some (.slice A542_1 ((qM l1_2 x31_2).f1).length c542_1)∧w'.cell? ⟨(ad542.add ((x31_2).toNat * 3)).block,(ad542.add ((x31_2).toNat * 3)).off + 2,none⟩ = some (.slice A542_2 ((qM l1_2 x31_2).f2).length c542_2)) (ds:=[]) (bb 12 0) (by kernel_rfl) rfl rfl ⟨(qN BK538.out 0).trans rfl,(qN BK538.out 1).trans rfl,(qN BK538.out 2).trans rfl,(qN BK539.out 0).trans rfl,(qN BK539.out 1).trans rfl,(qN BK539.out 2).trans rfl,((HB.out.cell (World.block_lt_of_cell? w _ hw541_0)).trans hw541_0),((HB.out.cell (World.block_lt_of_cell? w _ hw541_1)).trans hw541_1),((HB.out.cell (World.block_lt_of_cell? w _ hw541_2)).trans hw541_2),((HB.out.cell (World.block_lt_of_cell? w _ hw542_0)).trans hw542_0),((HB.out.cell (World.block_lt_of_cell? w _ hw542_1)).trans hw542_1),((HB.out.cell (World.block_lt_of_cell? w _ hw542_2)).trans hw542_2)⟩ (fun hHeld=>?_);refine Qb zG.tab6 zG.bits6 (fun HT_ HW_=>?_)
           generalize wr.drew = w29 at BK538 BK539 HB HR541_1 HR541_2 HR542_1 HR542_2 hx541_0 hx541_1 hx541_2 hx542_0 hx542_1 hx542_2 hHeld ⊢
           refine zH (i:=0) (N:=some 34) (bb 12 1) ?_
           refine zH (i:=2) (N:=some 36) (bb 12 5) ?_
           refine zH (i:=5) (N:=some 39) (bb 12 37) ?_
           refine zH (i:=7) (N:=some 41) (bb 12 165) ?_
           refine takeZI (i:=1) (N:=some 35) (bb 12 167) hHeld ?_
           refine zH (i:=3) (N:=some 37) (bb 12 175) ?_
           refine takeZI (i:=4) (N:=some 38) (bb 12 191) hHeld ?_
           refine takeZI (i:=6) (N:=some 40) (bb 12 255) hHeld ?_
           refine zH (i:=8) (N:=some 42) (bb 12 511) ?_
           refine takeZI (i:=9) (N:=some 43) (bb 12 1023) hHeld ?_
           refine one_ (i:=10) (N:=some 44) (bb 12 2047) rfl rfl (kC HT_.out (by kernel_rfl)) (by decide) (fun K hK=>?_)
           refine Qg Try.func54 (by kernel_rfl) rfl #[.agg #[.int .i64 ((qM l0_2 x31_2).f0),.slice A541_1 ((qM l0_2 x31_2).f1).length c541_1,.slice A541_2 ((qM l0_2 x31_2).f2).length c541_2],.agg #[.int .i64 ((qM l1_2 x31_2).f0),.slice A542_1 ((qM l1_2 x31_2).f1).length c542_1,.slice A542_2 ((qM l1_2 x31_2).f2).length c542_2]] (by rfl) rfl rfl byah ?_
           with_reducible refine (ih k2 (by have:=HJ2.out;have:=HK2.out;omega) ((qM l0_2 x31_2).f0) _ _ ((qM l0_2 x31_2).f1) _ _ ((qM l0_2 x31_2).f2) ((qM l1_2 x31_2).f0) _ _ ((qM l1_2 x31_2).f1) _ _ ((qM l1_2 x31_2).f2) false _ ?side1 ?side2 ?side3 ?side4 ?side5 ?side6 ?side7 ?side8 A25.out).mono ?_
           (case side1=>exact byaq HR541_1.out)
           (case side2=>exact HC541_1.out)
           (case side3=>exact byaq HR541_2.out)
           (case side4=>exact HC541_2.out)
           (case side5=>exact byaq HR542_1.out)
           (case side6=>exact HC542_1.out)
           (case side7=>exact byaq HR542_2.out)
           (case side8=>exact HC542_2.out)
           rintro e w30 ⟨rfl,hb⟩
           refine ⟨_,rfl,?_⟩
           have n_:=q_3 (qH BK538.out hb) (qH BK539.out hb) (qC (byaj GE538.out GE539.out) hb)
           clear BK538 BK539 HB
           obtain ⟨BK538,BK539,HB⟩:=n_
           (try clear hb)
           (try clear hb2)
           (try clear hk)
           (try clear hi)
           refine hK.out _ _ ⟨(qN BK538.out 0).trans rfl,(qN BK538.out 1).trans rfl,(qN BK538.out 2).trans rfl,(qN BK539.out 0).trans rfl,(qN BK539.out 1).trans rfl,(qN BK539.out 2).trans rfl,((HB.out.cell (World.block_lt_of_cell? w _ hw541_0)).trans hw541_0),((HB.out.cell (World.block_lt_of_cell? w _ hw541_1)).trans hw541_1),((HB.out.cell (World.block_lt_of_cell? w _ hw541_2)).trans hw541_2),((HB.out.cell (World.block_lt_of_cell? w _ hw542_0)).trans hw542_0),((HB.out.cell (World.block_lt_of_cell? w _ hw542_1)).trans hw542_1),((HB.out.cell (World.block_lt_of_cell? w _ hw542_2)).trans hw542_2)⟩ (fun hHeld=>?_)
           clear hK K
           refine kN (N:=some 44) ?_
           refine zH (i:=11) (N:=some 45) (bb 12 4095) ?_
           refine Ze (Qz HT_.out (by kernel_rfl)) ?_
           try go_wp2
           go_ret
           exact ⟨byac,byaj GE538.out GE539.out⟩
         ·rw [if_neg c24] at H
          exact absurd H (by simp)
        ·rw [if_neg c23] at H
         exact absurd H (by simp)
       ·rw [if_neg c22] at H
        exact absurd H (by simp)
      ·rw [if_neg c21] at H
       have c21b0:=decide_eq_false c21
       clear c21
       obtain rfl:=Option.some.inj H
       go_wp2
       go_ret
       exact ⟨byac,byaj GE538.out GE539.out⟩
end Go.Proofs.Ytkkbdimegpdbgaa.P
