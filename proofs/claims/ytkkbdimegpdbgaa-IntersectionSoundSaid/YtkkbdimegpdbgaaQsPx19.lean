/- Functions of the program as Lean functions, and the walks that show that the calls answer so; written by a program of this session (a changed print) and by hand. -/
import Derived.Test.YtkkbdimegpdbgaaQsPx0
namespace Go.Proofs.Ytkkbdimegpdbgaa.P
open Go.RowKit Go.Proofs.YtkkbdimegpdbgaaW.PrintWords Go.Proofs.YtkkbdimegpdbgaaW.PrintLast Go.Proofs.YtkkbdimegpdbgaaW.PrintMore
attribute [local go_sem] kF kD kV kU uJ uK kG kE
set_option linter.unusedVariables false
set_option linter.unusedSimpArgs false
def vO.l0 : Nat→List Int→List Int→Int→Int→Option (Bool)
 | 0,_,_,_,_=>none
 | k + 1,x0,x1,x12,x13=>if x13 < x12 then (if 0 ≤ x13 then (if x13 < (x0.length : Int) then (if x13 < (x1.length : Int) then (if (rd x0 x13) = (rd x1 x13) then (vO.l0 k x0 x1 x12 (wrap64 (x13 + 1))) else (some false)) else (none)) else (none)) else (none)) else (some true)
def vO.f (k : Nat) (l0 : List Int) (l1 : List Int) : Option (Bool):=if (l0.length : Int) = (l1.length : Int) then (vO.l0 k l0 l1 (l0.length : Int) 0) else (some false)
set_option maxHeartbeats 8000000 in
set_option maxRecDepth 100000 in
theorem vO.calls (k : Nat) (A0 : Option Addr) (c0 : Nat) (l0 : List Int) (A1 : Option Addr) (c1 : Nat) (l1 : List Int) (r : Bool) (w : World) (hr0 : Kd.C (Kd.int .i64) w A0 l0.length l0) (hc0 : l0.length ≤ c0) (hr1 : Kd.C (Kd.int .i64) w A1 l1.length l1) (hc1 : l1.length ≤ c1) (h : vO.f k l0 l1 = some r) :
  Calls Try.prog 77 #[.slice A0 l0.length c0,.slice A1 l1.length c1] w fun e w'=>e = .returned (.bool r)∧kZ w w':=by
 have HR0:=qA.mk hr0
 have HC0:=qA.mk hc0
 clear hr0 hc0
 have HR1:=qA.mk hr1
 have HC1:=qA.mk hc1
 clear hr1 hc1
 unfold vO.f at h
 have H:=h
 clear h
 by_cases c3 : (l0.length : Int) = (l1.length : Int)
 ·rw [if_pos c3] at H
  obtain ⟨c3b0,c3b1⟩:=eqT c3
  have c3b2 : (l0.length == l1.length) = true:=by first|simpa using c3|(simp at c3 ⊢;omega)
  clear c3
  have H':=qA.mk H
  clear H
  go_enter Try.func77,Try.ntmps77
  go_wp2
  repeat (go_quiet (fail);try go_wp2)
  go_loopg [13] k (fun kq v13 w'=>∃ (x13_1 : Int),v13 = .int .i64 x13_1∧qA (vO.l0 kq l0 l1 (l0.length : Int) x13_1 = some r)∧qA (kq ≤ k)∧kZ w w')
  case atStart=>exact ⟨(0),byae,H',⟨Nat.le_refl _⟩,byam⟩
  case round =>
   clear H'
   obtain ⟨x13_1,rfl,HA,HK1,⟨m1,rfl⟩⟩:=hrel
   cases gk with
   | zero=>exact absurd HA.out (by simp [vO.l0])
   | succ k1 =>
    have H:=HA.out
    clear HA
    simp only [vO.l0] at H
    by_cases c4 : x13_1 < (l0.length : Int)
    ·rw [if_pos c4] at H
     have c4b0:=decide_eq_true c4
     clear c4
     by_cases c5 : 0 ≤ x13_1
     ·rw [if_pos c5] at H
      have c5b0:=decide_eq_true c5
      clear c5
      by_cases c6 : x13_1 < (l0.length : Int)
      ·rw [if_pos c6] at H
       have c6b0:=decide_eq_true c6
       clear c6
       by_cases c7 : x13_1 < (l1.length : Int)
       ·rw [if_pos c7] at H
        have c7b0:=decide_eq_true c7
        clear c7
        by_cases c8 : (rd l0 x13_1) = (rd l1 x13_1)
        ·rw [if_pos c8] at H
         obtain ⟨c8b0,c8b1⟩:=eqT c8
         clear c8
         have H':=qA.mk H
         clear H
         have p536 : 0 ≤ (x13_1 : Int):=of_decide_eq_true byag
         have q536 : x13_1 < (l0.length : Int):=of_decide_eq_true byag
         obtain ⟨ad536,e536,hx536_0⟩:=Kd.kW HR0.out x13_1 p536 q536
         cases e536
         replace p536:=eq_true p536
         replace q536:=eq_true q536
         have p537 : 0 ≤ (x13_1 : Int):=of_decide_eq_true byag
         have q537 : x13_1 < (l1.length : Int):=of_decide_eq_true byag
         obtain ⟨ad537,e537,hx537_0⟩:=Kd.kW HR1.out x13_1 p537 q537
         cases e537
         replace p537:=eq_true p537
         replace q537:=eq_true q537
         go_wp2
         repeat (go_quiet (fail);try go_wp2)
         go_roundg k1
         case measure=>have:=HK1.out;omega
         case rel=>exact ⟨(wrap64 (x13_1 + 1)),byae,H',⟨byai⟩,byam⟩
        ·rw [if_neg c8] at H
         obtain ⟨c8b0,c8b1⟩:=eqF c8
         obtain rfl:=Option.some.inj H
         have p536 : 0 ≤ (x13_1 : Int):=of_decide_eq_true byag
         have q536 : x13_1 < (l0.length : Int):=of_decide_eq_true byag
         obtain ⟨ad536,e536,hx536_0⟩:=Kd.kW HR0.out x13_1 p536 q536
         cases e536
         replace p536:=eq_true p536
         replace q536:=eq_true q536
         have p537 : 0 ≤ (x13_1 : Int):=of_decide_eq_true byag
         have q537 : x13_1 < (l1.length : Int):=of_decide_eq_true byag
         obtain ⟨ad537,e537,hx537_0⟩:=Kd.kW HR1.out x13_1 p537 q537
         cases e537
         replace p537:=eq_true p537
         replace q537:=eq_true q537
         go_wp2
         repeat (go_quiet (fail);try go_wp2)
         go_ret
         exact ⟨byae,byam⟩
       ·rw [if_neg c7] at H
        exact absurd H (by simp)
      ·rw [if_neg c6] at H
       exact absurd H (by simp)
     ·rw [if_neg c5] at H
      exact absurd H (by simp)
    ·rw [if_neg c4] at H
     have c4b0:=decide_eq_false c4
     clear c4
     obtain rfl:=Option.some.inj H
     go_wp2
     repeat (go_quiet (fail);try go_wp2)
     go_ret
     exact ⟨byae,byam⟩
 ·rw [if_neg c3] at H
  obtain ⟨c3b0,c3b1⟩:=eqF c3
  have c3b2 : (l0.length == l1.length) = false:=by first|simpa using c3|(simp at c3 ⊢;omega)
  obtain rfl:=Option.some.inj H
  go_enter Try.func77,Try.ntmps77
  go_wp2
  repeat (go_quiet (fail);try go_wp2)
  go_ret
  exact ⟨byae,byam⟩
end Go.Proofs.Ytkkbdimegpdbgaa.P
