/- Functions of the program as Lean functions, and the walks that show that the calls answer so; written by a program of this session (a changed print) and by hand. -/
import Derived.Test.YtkkbdimegpdbgaaQsPx0
import Derived.Test.YtkkbdimegpdbgaaQsPx5
import Derived.Test.YtkkbdimegpdbgaaQsPx10
import Derived.Test.YtkkbdimegpdbgaaQsPx11
import Derived.Test.YtkkbdimegpdbgaaQsPx16
import Derived.Test.YtkkbdimegpdbgaaQsPx17
namespace Go.Proofs.Ytkkbdimegpdbgaa.P
open Go.RowKit Go.Proofs.YtkkbdimegpdbgaaW.PrintWords Go.Proofs.YtkkbdimegpdbgaaW.PrintLast Go.Proofs.YtkkbdimegpdbgaaW.PrintMore
attribute [local go_sem] kF kD kV kU uJ uK kG kE
set_option linter.unusedVariables false
set_option linter.unusedSimpArgs false
mutual
def jL.l0 : Nat→Int→Int→Int→Int→List (S28)→Option (Int)
 | 0,_,_,_,_,_=>none
 | k + 1,x1,x5,x532000,x532001,x532002=>if x5 < (x532002.length : Int) then (if x1 ≤ 600 then (if 0 ≤ x5 then ((jL.f k ((zJ x532002 x5).f0) ((zJ x532002 x5).f1) ((zJ x532002 x5).f2) x1).bind fun t533=>(jL.l0 k t533 (wrap64 (x5 + 1)) x532000 x532001 x532002)) else (none)) else (some x1)) else (some x1)
def jL.f : Nat→Int→Int→List (S28)→Int→Option (Int)
 | 0,_,_,_,_=>none
 | k + 1,a0_0,a0_1,l0_2,a1=>jL.l0 k (wrap64 (a1 + 1)) 0 a0_0 a0_1 l0_2
end
set_option maxHeartbeats 8000000 in
set_option maxRecDepth 100000 in
theorem jL.calls (k : Nat) : ∀ (a0_0 : Int) (a0_1 : Int) (A0_2 : Option Addr) (c0_2 : Nat) (l0_2 : List (S28)) (a1 : Int) (r : Int) (w : World) (hr0_2 : Kd.C k28 w A0_2 l0_2.length l0_2) (hc0_2 : l0_2.length ≤ c0_2) (h : jL.f k a0_0 a0_1 l0_2 a1 = some r),
  Calls Try.prog 27 #[.agg #[.int .i64 a0_0,.int .i64 a0_1,.slice A0_2 l0_2.length c0_2],.int .i64 a1] w fun e w'=>e = .returned (.int .i64 r)∧Below w.heap.size w w':=by
 induction k using Nat.strongRecOn with
 | _ k ih =>
 intro a0_0 a0_1 A0_2 c0_2 l0_2 a1 r w hr0_2 hc0_2 h
 cases k with
 | zero=>exact absurd h (by simp [jL.f])
 | succ k =>
 simp only [jL.f] at h
 have hu28:=Try.underlying28
 have HR0_2:=qA.mk hr0_2
 have HC0_2:=qA.mk hc0_2
 clear hr0_2 hc0_2
 have HB:=qA.mk (Below.refl w.heap.size w)
 have H:=h
 clear h
 have H':=qA.mk H
 clear H
 go_enter Try.func27,Try.ntmps27
 go_wp2_with (first|((with_reducible refine qP (N:=2) rfl ?_);refine zV (N:=2) (cs:=#[.int .i64 a0_0,.int .i64 a0_1,.slice A0_2 l0_2.length c0_2]) (t:=28) ?_;intro gb531 hg w3 hbox hb;have n_:=q_4 (qC byab hb) (hbox) ((byck : w.heap.size ≤ gb531)) ((byck : w.heap.size ≤ gb531));clear HB;obtain ⟨HB,BK531,GW531,GE531⟩:=n_;clear hb hbox hg))
 go_loopg [1,5] k (fun kq v1 v5 w'=>∃ (x1_1 : Int) (x5_1 : Int),v1 = .int .i64 x1_1∧v5 = .int .i64 x5_1∧qA (jL.l0 kq x1_1 x5_1 a0_0 a0_1 l0_2 = some r)∧qA (kq ≤ k)∧qA (w'.heap[gb531]? = some (.cells #[.int .i64 a0_0,.int .i64 a0_1,(.slice A0_2 l0_2.length c0_2)] 28 (0,0)))∧qA (Below w.heap.size w w'))
 case atStart=>exact ⟨(wrap64 (a1 + 1)),(0),byae,byae,H',⟨Nat.le_refl _⟩,⟨byaf BK531.out⟩,⟨byad GE531.out⟩⟩
 case round =>
  clear H'
  obtain ⟨x1_1,x5_1,rfl,rfl,HA,HK1,BK531,HB⟩:=hrel
  cases gk with
  | zero=>exact absurd HA.out (by simp [jL.l0])
  | succ k1 =>
   have H:=HA.out
   clear HA
   simp only [jL.l0] at H
   by_cases c4 : x5_1 < (l0_2.length : Int)
   ·rw [if_pos c4] at H
    have c4b0:=decide_eq_true c4
    clear c4
    by_cases c5 : x1_1 ≤ 600
    ·rw [if_pos c5] at H
     have c5b0:=decide_eq_true c5
     clear c5
     by_cases c6 : 0 ≤ x5_1
     ·rw [if_pos c6] at H
      have c6b0:=decide_eq_true c6
      clear c6
      replace H:=Option.bind_eq_some_iff.mp H
      obtain ⟨t533,A70,H⟩:=H
      try dsimp only at H
      have A7:=qA.mk A70
      clear A70
      have H':=qA.mk H
      clear H
      obtain ⟨hcz8_0,hcz8_1,hcz8_2,hfz8_0,hfz8_1,hfz8_2⟩:=cz3 BK531.out
      have p532 : 0 ≤ (x5_1 : Int):=of_decide_eq_true byag
      have q532 : x5_1 < (l0_2.length : Int):=of_decide_eq_true byag
      obtain ⟨ad532,A532_2,c532_2,e532,hx532_0,hx532_1,hx532_2,hl532_2,hi532_2⟩:=at_T28 HR0_2.out x5_1 p532 q532
      cases e532
      replace hx532_0:=(HB.out.cell (World.block_lt_of_cell? w _ hx532_0)).trans hx532_0
      replace hx532_1:=(HB.out.cell (World.block_lt_of_cell? w _ hx532_1)).trans hx532_1
      replace hx532_2:=(HB.out.cell (World.block_lt_of_cell? w _ hx532_2)).trans hx532_2
      have HR532_2:=qA.mk hi532_2
      have HC532_2:=qA.mk hl532_2
      clear hi532_2 hl532_2
      replace p532:=eq_true p532
      replace q532:=eq_true q532
      go_wp2_with (first|((with_reducible refine qI (f:=27) rfl ?_);refine qY (some 25) rfl rfl Try.func27 (by kernel_rfl) rfl #[.agg #[.int .i64 ((zJ l0_2 x5_1).f0),.int .i64 ((zJ l0_2 x5_1).f1),.slice A532_2 ((zJ l0_2 x5_1).f2).length c532_2],.int .i64 x1_1] rfl byah ?_;(with_reducible refine (ih k1 byai ((zJ l0_2 x5_1).f0) ((zJ l0_2 x5_1).f1) _ _ ((zJ l0_2 x5_1).f2) x1_1 t533 _ ?side1 ?side2 A7.out).mono ?_);(case side1=>exact byaq HR532_2.out);(case side2=>exact HC532_2.out);rintro e w9 ⟨rfl,hb⟩;refine ⟨_,rfl,?_⟩;have n_:=q_2 (qH BK531.out hb) (qC (byad GE531.out) hb);clear BK531 HB;obtain ⟨BK531,HB⟩:=n_;clear hb))
      go_roundg k1
      case measure=>have:=HK1.out;omega
      case rel=>exact ⟨(t533),(wrap64 (x5_1 + 1)),byae,byae,H',⟨byai⟩,⟨byaf BK531.out⟩,⟨byad GE531.out⟩⟩
     ·rw [if_neg c6] at H
      exact absurd H (by simp)
    ·rw [if_neg c5] at H
     have c5b0:=decide_eq_false c5
     clear c5
     obtain rfl:=Option.some.inj H
     obtain ⟨hcz10_0,hcz10_1,hcz10_2,hfz10_0,hfz10_1,hfz10_2⟩:=cz3 BK531.out
     go_wp2
     go_ret
     exact ⟨byac,byad GE531.out⟩
   ·rw [if_neg c4] at H
    have c4b0:=decide_eq_false c4
    clear c4
    obtain rfl:=Option.some.inj H
    obtain ⟨hcz11_0,hcz11_1,hcz11_2,hfz11_0,hfz11_1,hfz11_2⟩:=cz3 BK531.out
    go_wp2
    go_ret
    exact ⟨byac,byad GE531.out⟩
def uI.f (k : Nat) (a0_0 : Int) (a0_1 : Int) (l0_2 : List (S28)) : Option (Bool):=(jL.f k a0_0 a0_1 l0_2 0).bind fun t535=>(some (decide (t535 ≤ 600)))
set_option maxHeartbeats 8000000 in
set_option maxRecDepth 100000 in
theorem uI.calls (k : Nat) (a0_0 : Int) (a0_1 : Int) (A0_2 : Option Addr) (c0_2 : Nat) (l0_2 : List (S28)) (r : Bool) (w : World) (hr0_2 : Kd.C k28 w A0_2 l0_2.length l0_2) (hc0_2 : l0_2.length ≤ c0_2) (h : uI.f k a0_0 a0_1 l0_2 = some r) :
  Calls Try.prog 9 #[.agg #[.int .i64 a0_0,.int .i64 a0_1,.slice A0_2 l0_2.length c0_2]] w fun e w'=>e = .returned (.bool r)∧Below w.heap.size w w':=by
 have hu28:=Try.underlying28
 have HR0_2:=qA.mk hr0_2
 have HC0_2:=qA.mk hc0_2
 clear hr0_2 hc0_2
 have HB:=qA.mk (Below.refl w.heap.size w)
 unfold uI.f at h
 have H:=h
 clear h
 replace H:=Option.bind_eq_some_iff.mp H
 obtain ⟨t535,A20,H⟩:=H
 try dsimp only at H
 have A2:=qA.mk A20
 clear A20
 obtain rfl:=Option.some.inj H
 go_enter Try.func9,Try.ntmps9
 go_wp2_with (first|((with_reducible refine qP (N:=1) rfl ?_);refine zV (N:=1) (cs:=#[.int .i64 a0_0,.int .i64 a0_1,.slice A0_2 l0_2.length c0_2]) (t:=28) ?_;intro gb534 hg w3 hbox hb;have n_:=q_4 (qC byab hb) (hbox) ((byck : w.heap.size ≤ gb534)) ((byck : w.heap.size ≤ gb534));clear HB;obtain ⟨HB,BK534,GW534,GE534⟩:=n_;clear hb hbox hg;obtain ⟨hcz4_0,hcz4_1,hcz4_2,hfz4_0,hfz4_1,hfz4_2⟩:=cz3 BK534.out)|((with_reducible refine qI (f:=27) rfl ?_);refine qY (some 4) rfl rfl Try.func27 (by kernel_rfl) rfl #[.agg #[.int .i64 a0_0,.int .i64 a0_1,.slice A0_2 l0_2.length c0_2],.int .i64 0] rfl byah ?_;(with_reducible refine (jL.calls k a0_0 a0_1 _ _ l0_2 0 t535 _ ?side1 ?side2 A2.out).mono ?_);(case side1=>exact byaq HR0_2.out);(case side2=>exact HC0_2.out);rintro e w5 ⟨rfl,hb⟩;refine ⟨_,rfl,?_⟩;have n_:=q_2 (qH BK534.out hb) (qC (byad GE534.out) hb);clear BK534 HB;obtain ⟨BK534,HB⟩:=n_;clear hb))
 go_ret
 exact ⟨byac,byad GE534.out⟩
end Go.Proofs.Ytkkbdimegpdbgaa.P
