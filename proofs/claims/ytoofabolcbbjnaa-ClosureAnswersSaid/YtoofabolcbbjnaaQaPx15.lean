/- Functions of the program as Lean functions, and the walks that show that the calls answer so; written by a program of this session (a changed print) and by hand. -/
import Derived.Test.YtoofabolcbbjnaaQaPx0
namespace Go.Proofs.Ytoofabolcbbjnaa.P
open Go.RowKit Go.Proofs.YtoofabolcbbjnaaW.PrintWords Go.Proofs.YtoofabolcbbjnaaW.PrintLast Go.Proofs.YtoofabolcbbjnaaW.PrintMore
attribute [local go_sem] kR kP Qa Qc kE kD kQ kN
set_option linter.unusedVariables false
set_option linter.unusedSimpArgs false
mutual
def jD.l0 : Nat→Int→Int→Int→List Int→List (S49)→Option (Int)
 | 0,_,_,_,_,_=>none
 | k + 1,x1,x5,x521000,x521001,x521002=>if x5 < (x521002.length : Int) then (if x1 ≤ 400 then (if 0 ≤ x5 then ((jD.f k ((zB x521002 x5).f0) ((zB x521002 x5).f1) ((zB x521002 x5).f2) x1).bind fun t522=>(jD.l0 k t522 (wrap64 (x5 + 1)) x521000 x521001 x521002)) else (none)) else (some x1)) else (some x1)
def jD.f : Nat→Int→List Int→List (S49)→Int→Option (Int)
 | 0,_,_,_,_=>none
 | k + 1,a0_0,l0_1,l0_2,a1=>jD.l0 k (wrap64 (a1 + (wrap64 (1 + (l0_1.length : Int))))) 0 a0_0 l0_1 l0_2
end
set_option maxHeartbeats 8000000 in
set_option maxRecDepth 100000 in
theorem jD.calls (k : Nat) : ∀ (a0_0 : Int) (A0_1 : Option Addr) (c0_1 : Nat) (l0_1 : List Int) (A0_2 : Option Addr) (c0_2 : Nat) (l0_2 : List (S49)) (a1 : Int) (r : Int) (w : World) (hr0_1 : Kd.C (Kd.int .i64) w A0_1 l0_1.length l0_1) (hc0_1 : l0_1.length ≤ c0_1) (hr0_2 : Kd.C k49 w A0_2 l0_2.length l0_2) (hc0_2 : l0_2.length ≤ c0_2) (h : jD.f k a0_0 l0_1 l0_2 a1 = some r),
  Calls Try.prog 28 #[.agg #[.int .i64 a0_0,.slice A0_1 l0_1.length c0_1,.slice A0_2 l0_2.length c0_2],.int .i64 a1] w fun e w'=>e = .returned (.int .i64 r)∧Below w.heap.size w w':=by
 induction k using Nat.strongRecOn with
 | _ k ih =>
 intro a0_0 A0_1 c0_1 l0_1 A0_2 c0_2 l0_2 a1 r w hr0_1 hc0_1 hr0_2 hc0_2 h
 cases k with
 | zero=>exact absurd h (by simp [jD.f])
 | succ k =>
 simp only [jD.f] at h
 have hu49:=Try.underlying49
 have HR0_1:=qA.mk hr0_1
 have HC0_1:=qA.mk hc0_1
 clear hr0_1 hc0_1
 have HR0_2:=qA.mk hr0_2
 have HC0_2:=qA.mk hc0_2
 clear hr0_2 hc0_2
 have HB:=qA.mk (Below.refl w.heap.size w)
 have H:=h
 clear h
 have H':=qA.mk H
 clear H
 go_enter Try.func28,Try.ntmps28
 go_wp2_with (first|((with_reducible refine qX (N:=2) rfl ?_);refine zD ?hg (N:=2) ?hd (cs:=#[.int .i64 a0_0,.slice A0_1 l0_1.length c0_1,.slice A0_2 l0_2.length c0_2]) (t:=49) ?hr ?_;(case hd=>rfl);(case hg=>rfl);(case hr=>exact byad);intro gb520 hg w3 hbox hb;have n_:=q_4 (qE byae hb) (hbox) ((byck : w.heap.size ≤ gb520)) ((byck : w.heap.size ≤ gb520));clear HB;obtain ⟨HB,BK520,GW520,GE520⟩:=n_;clear hb hbox hg;obtain ⟨hcz4_0,hcz4_1,hcz4_2,hfz4_0,hfz4_1,hfz4_2⟩:=cz3 BK520.out))
 go_loopg [1,5] k (fun kq v1 v5 w'=>∃ (x1_1 : Int) (x5_1 : Int),v1 = .int .i64 x1_1∧v5 = .int .i64 x5_1∧qA (jD.l0 kq x1_1 x5_1 a0_0 l0_1 l0_2 = some r)∧qA (kq ≤ k)∧qA (w'.heap[gb520]? = some (.cells #[.int .i64 a0_0,(.slice A0_1 l0_1.length c0_1),(.slice A0_2 l0_2.length c0_2)] 49 (0,0)))∧qA (Below w.heap.size w w'))
 case atStart=>exact ⟨(wrap64 (a1 + (wrap64 (1 + (l0_1.length : Int))))),(0),byab,byab,H',⟨Nat.le_refl _⟩,⟨byaf BK520.out⟩,⟨byag GE520.out⟩⟩
 case round =>
  clear H'
  obtain ⟨x1_1,x5_1,rfl,rfl,HA,HK1,BK520,HB⟩:=hrel
  cases gk with
  | zero=>exact absurd HA.out (by simp [jD.l0])
  | succ k1 =>
   have H:=HA.out
   clear HA
   simp only [jD.l0] at H
   by_cases c5 : x5_1 < (l0_2.length : Int)
   ·rw [if_pos c5] at H
    have c5b0:=decide_eq_true c5
    clear c5
    by_cases c6 : x1_1 ≤ 400
    ·rw [if_pos c6] at H
     have c6b0:=decide_eq_true c6
     clear c6
     by_cases c7 : 0 ≤ x5_1
     ·rw [if_pos c7] at H
      have c7b0:=decide_eq_true c7
      clear c7
      replace H:=Option.bind_eq_some_iff.mp H
      obtain ⟨t522,A80,H⟩:=H
      try dsimp only at H
      have A8:=qA.mk A80
      clear A80
      have H':=qA.mk H
      clear H
      obtain ⟨hcz9_0,hcz9_1,hcz9_2,hfz9_0,hfz9_1,hfz9_2⟩:=cz3 BK520.out
      have p521 : 0 ≤ (x5_1 : Int):=of_decide_eq_true byah
      have q521 : x5_1 < (l0_2.length : Int):=of_decide_eq_true byah
      obtain ⟨ad521,A521_1,c521_1,A521_2,c521_2,e521,hx521_0,hx521_1,hx521_2,hl521_1,hi521_1,hl521_2,hi521_2⟩:=at_T49 HR0_2.out x5_1 p521 q521
      cases e521
      replace hx521_0:=(HB.out.cell (World.block_lt_of_cell? w _ hx521_0)).trans hx521_0
      replace hx521_1:=(HB.out.cell (World.block_lt_of_cell? w _ hx521_1)).trans hx521_1
      replace hx521_2:=(HB.out.cell (World.block_lt_of_cell? w _ hx521_2)).trans hx521_2
      have HR521_1:=qA.mk hi521_1
      have HC521_1:=qA.mk hl521_1
      clear hi521_1 hl521_1
      have HR521_2:=qA.mk hi521_2
      have HC521_2:=qA.mk hl521_2
      clear hi521_2 hl521_2
      replace p521:=eq_true p521
      replace q521:=eq_true q521
      go_wp2_with (first|((with_reducible refine qF (f:=28) rfl ?_);refine zC (some 29) rfl rfl Try.func28 (by kernel_rfl) rfl #[.agg #[.int .i64 ((zB l0_2 x5_1).f0),.slice A521_1 ((zB l0_2 x5_1).f1).length c521_1,.slice A521_2 ((zB l0_2 x5_1).f2).length c521_2],.int .i64 x1_1] rfl byac ?_;(with_reducible refine (ih k1 byaj ((zB l0_2 x5_1).f0) _ _ ((zB l0_2 x5_1).f1) _ _ ((zB l0_2 x5_1).f2) x1_1 t522 _ ?side1 ?side2 ?side3 ?side4 A8.out).mono ?_);(case side1=>exact byan HR521_1.out);(case side2=>exact HC521_1.out);(case side3=>exact byan HR521_2.out);(case side4=>exact HC521_2.out);rintro e w10 ⟨rfl,hb⟩;refine ⟨_,rfl,?_⟩;have n_:=q_2 (qI BK520.out hb) (qE (byag GE520.out) hb);clear BK520 HB;obtain ⟨BK520,HB⟩:=n_;clear hb))
      go_roundg k1
      case measure=>have:=HK1.out;omega
      case rel=>exact ⟨(t522),(wrap64 (x5_1 + 1)),byab,byab,H',⟨byaj⟩,⟨byaf BK520.out⟩,⟨byag GE520.out⟩⟩
     ·rw [if_neg c7] at H
      exact absurd H (by simp)
    ·rw [if_neg c6] at H
     have c6b0:=decide_eq_false c6
     clear c6
     obtain rfl:=Option.some.inj H
     obtain ⟨hcz11_0,hcz11_1,hcz11_2,hfz11_0,hfz11_1,hfz11_2⟩:=cz3 BK520.out
     go_wp2
     go_ret
     exact ⟨byam,byag GE520.out⟩
   ·rw [if_neg c5] at H
    have c5b0:=decide_eq_false c5
    clear c5
    obtain rfl:=Option.some.inj H
    obtain ⟨hcz12_0,hcz12_1,hcz12_2,hfz12_0,hfz12_1,hfz12_2⟩:=cz3 BK520.out
    go_wp2
    go_ret
    exact ⟨byam,byag GE520.out⟩
def zZ.l0 : Nat→Int→Int→List (S51)→Option (Bool)
 | 0,_,_,_=>none
 | k + 1,x3,x4,x524000=>if x4 < (x524000.length : Int) then (if x3 ≤ 400 then (if 0 ≤ x4 then ((jD.f k ((zF x524000 x4).f1.f0) ((zF x524000 x4).f1.f1) ((zF x524000 x4).f1.f2) x3).bind fun t525=>(zZ.l0 k t525 (wrap64 (x4 + 1)) x524000)) else (none)) else (some (decide (x3 ≤ 400)))) else (some (decide (x3 ≤ 400)))
def zZ.f (k : Nat) (l0_0 : List (S51)) : Option (Bool):=if (l0_0.length : Int) > 30 then (some false) else (zZ.l0 k 0 0 l0_0)
set_option maxHeartbeats 8000000 in
set_option maxRecDepth 100000 in
theorem zZ.calls (k : Nat) (A0_0 : Option Addr) (c0_0 : Nat) (l0_0 : List (S51)) (r : Bool) (w : World) (hr0_0 : Kd.C k51 w A0_0 l0_0.length l0_0) (hc0_0 : l0_0.length ≤ c0_0) (h : zZ.f k l0_0 = some r) :
  Calls Try.prog 8 #[.agg #[.slice A0_0 l0_0.length c0_0]] w fun e w'=>e = .returned (.bool r)∧Below w.heap.size w w':=by
 have hu25:=Try.underlying25
 have hu49:=Try.underlying49
 have HR0_0:=qA.mk hr0_0
 have HC0_0:=qA.mk hc0_0
 clear hr0_0 hc0_0
 have HB:=qA.mk (Below.refl w.heap.size w)
 unfold zZ.f at h
 have H:=h
 clear h
 by_cases c2 : (l0_0.length : Int) > 30
 ·rw [if_pos c2] at H
  have c2b0:=decide_eq_true c2
  have c2b1 : decide (30 < l0_0.length) = true:=decide_eq_true (by omega)
  clear c2
  obtain rfl:=Option.some.inj H
  go_enter Try.func8,Try.ntmps8
  go_wp2_with (first|((with_reducible refine qX (N:=1) rfl ?_);refine zD ?hg (N:=1) ?hd (cs:=#[.slice A0_0 l0_0.length c0_0]) (t:=25) ?hr ?_;(case hd=>rfl);(case hg=>rfl);(case hr=>exact byad);intro gb523 hg w3 hbox hb;have n_:=q_4 (qE byae hb) (hbox) ((byck : w.heap.size ≤ gb523)) ((byck : w.heap.size ≤ gb523));clear HB;obtain ⟨HB,BK523,GW523,GE523⟩:=n_;clear hb hbox hg;obtain ⟨hcz4_0,hfz4_0⟩:=cz1 BK523.out))
  go_ret
  exact ⟨byam,byag GE523.out⟩
 ·rw [if_neg c2] at H
  have c2b0:=decide_eq_false c2
  have c2b1 : decide (30 < l0_0.length) = false:=decide_eq_false (by omega)
  clear c2
  have H':=qA.mk H
  clear H
  go_enter Try.func8,Try.ntmps8
  go_wp2_with (first|((with_reducible refine qX (N:=1) rfl ?_);refine zD ?hg (N:=1) ?hd (cs:=#[.slice A0_0 l0_0.length c0_0]) (t:=25) ?hr ?_;(case hd=>rfl);(case hg=>rfl);(case hr=>exact byad);intro gb523 hg w5 hbox hb;have n_:=q_4 (qE byae hb) (hbox) ((byck : w.heap.size ≤ gb523)) ((byck : w.heap.size ≤ gb523));clear HB;obtain ⟨HB,BK523,GW523,GE523⟩:=n_;clear hb hbox hg;obtain ⟨hcz6_0,hfz6_0⟩:=cz1 BK523.out))
  go_loopg [3,4] k (fun kq v3 v4 w'=>∃ (x3_1 : Int) (x4_1 : Int),v3 = .int .i64 x3_1∧v4 = .int .i64 x4_1∧qA (zZ.l0 kq x3_1 x4_1 l0_0 = some r)∧qA (kq ≤ k)∧qA (w'.heap[gb523]? = some (.cells #[(.slice A0_0 l0_0.length c0_0)] 25 (0,0)))∧qA (Below w.heap.size w w'))
  case atStart=>exact ⟨(0),(0),byab,byab,H',⟨Nat.le_refl _⟩,⟨byaf BK523.out⟩,⟨byag GE523.out⟩⟩
  case round =>
   clear H'
   obtain ⟨x3_1,x4_1,rfl,rfl,HA,HK1,BK523,HB⟩:=hrel
   cases gk with
   | zero=>exact absurd HA.out (by simp [zZ.l0])
   | succ k1 =>
    have H:=HA.out
    clear HA
    simp only [zZ.l0] at H
    by_cases c7 : x4_1 < (l0_0.length : Int)
    ·rw [if_pos c7] at H
     have c7b0:=decide_eq_true c7
     clear c7
     by_cases c8 : x3_1 ≤ 400
     ·rw [if_pos c8] at H
      have c8b0:=decide_eq_true c8
      clear c8
      by_cases c9 : 0 ≤ x4_1
      ·rw [if_pos c9] at H
       have c9b0:=decide_eq_true c9
       clear c9
       replace H:=Option.bind_eq_some_iff.mp H
       obtain ⟨t525,A100,H⟩:=H
       try dsimp only at H
       have A10:=qA.mk A100
       clear A100
       have H':=qA.mk H
       clear H
       obtain ⟨hcz11_0,hfz11_0⟩:=cz1 BK523.out
       have p524 : 0 ≤ (x4_1 : Int):=of_decide_eq_true byah
       have q524 : x4_1 < (l0_0.length : Int):=of_decide_eq_true byah
       obtain ⟨ad524,A524_2,c524_2,A524_3,c524_3,e524,hx524_0,hx524_1,hx524_2,hx524_3,hl524_2,hi524_2,hl524_3,hi524_3⟩:=Qm HR0_0.out x4_1 p524 q524
       cases e524
       replace hx524_0:=(HB.out.cell (World.block_lt_of_cell? w _ hx524_0)).trans hx524_0
       replace hx524_1:=(HB.out.cell (World.block_lt_of_cell? w _ hx524_1)).trans hx524_1
       replace hx524_2:=(HB.out.cell (World.block_lt_of_cell? w _ hx524_2)).trans hx524_2
       replace hx524_3:=(HB.out.cell (World.block_lt_of_cell? w _ hx524_3)).trans hx524_3
       have HR524_2:=qA.mk hi524_2
       have HC524_2:=qA.mk hl524_2
       clear hi524_2 hl524_2
       have HR524_3:=qA.mk hi524_3
       have HC524_3:=qA.mk hl524_3
       clear hi524_3 hl524_3
       replace p524:=eq_true p524
       replace q524:=eq_true q524
       go_wp2_with (first|((with_reducible refine qF (f:=28) rfl ?_);refine zC (some 27) rfl rfl Try.func28 (by kernel_rfl) rfl #[.agg #[.int .i64 ((zF l0_0 x4_1).f1.f0),.slice A524_2 ((zF l0_0 x4_1).f1.f1).length c524_2,.slice A524_3 ((zF l0_0 x4_1).f1.f2).length c524_3],.int .i64 x3_1] rfl byac ?_;(with_reducible refine (jD.calls k1 ((zF l0_0 x4_1).f1.f0) _ _ ((zF l0_0 x4_1).f1.f1) _ _ ((zF l0_0 x4_1).f1.f2) x3_1 t525 _ ?side1 ?side2 ?side3 ?side4 A10.out).mono ?_);(case side1=>exact byan HR524_2.out);(case side2=>exact HC524_2.out);(case side3=>exact byan HR524_3.out);(case side4=>exact HC524_3.out);rintro e w12 ⟨rfl,hb⟩;refine ⟨_,rfl,?_⟩;have n_:=q_2 (qI BK523.out hb) (qE (byag GE523.out) hb);clear BK523 HB;obtain ⟨BK523,HB⟩:=n_;clear hb))
       go_roundg k1
       case measure=>have:=HK1.out;omega
       case rel=>exact ⟨(t525),(wrap64 (x4_1 + 1)),byab,byab,H',⟨byaj⟩,⟨byaf BK523.out⟩,⟨byag GE523.out⟩⟩
      ·rw [if_neg c9] at H
       exact absurd H (by simp)
     ·rw [if_neg c8] at H
      have c8b0:=decide_eq_false c8
      clear c8
      obtain rfl:=Option.some.inj H
      obtain ⟨hcz13_0,hfz13_0⟩:=cz1 BK523.out
      go_wp2
      go_ret
      exact ⟨byam,byag GE523.out⟩
    ·rw [if_neg c7] at H
     have c7b0:=decide_eq_false c7
     clear c7
     obtain rfl:=Option.some.inj H
     obtain ⟨hcz14_0,hfz14_0⟩:=cz1 BK523.out
     go_wp2
     go_ret
     exact ⟨byam,byag GE523.out⟩
end Go.Proofs.Ytoofabolcbbjnaa.P
