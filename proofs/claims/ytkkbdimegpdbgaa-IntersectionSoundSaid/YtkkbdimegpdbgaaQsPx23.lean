/- Functions of the program as Lean functions, and the walks that show that the calls answer so; written by a program of this session (a changed print) and by hand. -/
import Derived.Test.YtkkbdimegpdbgaaQsPx0
import Derived.Test.YtkkbdimegpdbgaaQsPx17
import Derived.Test.YtkkbdimegpdbgaaQsPx21
import Derived.Test.YtkkbdimegpdbgaaQsPx22
namespace Go.Proofs.Ytkkbdimegpdbgaa.P
open Go.RowKit Go.Proofs.YtkkbdimegpdbgaaW.PrintWords Go.Proofs.YtkkbdimegpdbgaaW.PrintLast Go.Proofs.YtkkbdimegpdbgaaW.PrintMore
attribute [local go_sem] kF kD kV kU uJ uK kG kE
set_option linter.unusedVariables false
set_option linter.unusedSimpArgs false
def vG.l0 : Nat→List Int→Int→Int→List (S58)→Option (Int × Int)
 | 0,_,_,_,_=>none
 | k + 1,x9,x10,x11,x583000=>if x11 < x10 then (if 0 ≤ x11 then (if x11 < (x9.length : Int) then ((zW.f k x583000 (rd x9 x11)).bind fun t588=>(if t588 = true then ((uF.f x583000).bind fun t589=>((jC.f k x583000 (wrap64 (t589 - (rd x9 x11)))).bind fun t590=>(if t590 = 0 then (vG.l0 k x9 x10 (wrap64 (x11 + 1)) x583000) else (some (rd x9 x11,t590))))) else (vG.l0 k x9 x10 (wrap64 (x11 + 1)) x583000))) else (none)) else (none)) else (some (0,0))
def vG.f (k : Nat) (l0_0 : List (S58)) : Option (Int × Int):=(uF.f l0_0).bind fun t583=>((qX.f k t583).bind fun t584=>(vG.l0 k t584 (t584.length : Int) 0 l0_0))
set_option maxHeartbeats 8000000 in
set_option maxRecDepth 100000 in
theorem vG.calls (k : Nat) (A0_0 : Option Addr) (c0_0 : Nat) (l0_0 : List (S58)) (r1 : Int) (r2 : Int) (w : World) (hr0_0 : Kd.C k58 w A0_0 l0_0.length l0_0) (hc0_0 : l0_0.length ≤ c0_0) (h : vG.f k l0_0 = some (r1,r2)) :
  Calls Try.prog 38 #[.agg #[.slice A0_0 l0_0.length c0_0]] w fun e w'=>e = .returned (.tuple #[.int .i64 r1,.int .i64 r2])∧Below w.heap.size w w':=by
 have hu25:=Try.underlying25
 have HR0_0:=qA.mk hr0_0
 have HC0_0:=qA.mk hc0_0
 clear hr0_0 hc0_0
 have HB:=qA.mk (Below.refl w.heap.size w)
 unfold vG.f at h
 have H:=h
 clear h
 replace H:=Option.bind_eq_some_iff.mp H
 obtain ⟨t583,A20,H⟩:=H
 try dsimp only at H
 have A2:=qA.mk A20
 clear A20
 replace H:=Option.bind_eq_some_iff.mp H
 obtain ⟨t584,A30,H⟩:=H
 try dsimp only at H
 have A3:=qA.mk A30
 clear A30
 have H':=qA.mk H
 clear H
 go_enter Try.func38,Try.ntmps38
 go_wp2_with (first|((with_reducible refine qP (N:=1) rfl ?_);refine zV (N:=1) (cs:=#[.slice A0_0 l0_0.length c0_0]) (t:=25) ?_;intro gb582 hg w4 hbox hb;have n_:=q_4 (qC byab hb) (hbox) ((byck : w.heap.size ≤ gb582)) ((byck : w.heap.size ≤ gb582));clear HB;obtain ⟨HB,BK582,GW582,GE582⟩:=n_;clear hb hbox hg;obtain ⟨hcz5_0,hfz5_0⟩:=cz1 BK582.out)|((with_reducible refine qI (f:=57) rfl ?_);refine qY (some 8) rfl rfl Try.func57 (by kernel_rfl) rfl #[.agg #[.slice A0_0 l0_0.length c0_0]] rfl byah ?_;(with_reducible refine (uF.calls _ _ l0_0 t583 _ ?side1 ?side2 A2.out).mono ?_);(case side1=>exact byaq HR0_0.out);(case side2=>exact HC0_0.out);rintro e w6 ⟨rfl,hb⟩;refine ⟨_,rfl,?_⟩;have n_:=q_2 (qH BK582.out hb) (qC (byad GE582.out) hb);clear BK582 HB;obtain ⟨BK582,HB⟩:=n_;clear hb)|((with_reducible refine qI (f:=56) rfl ?_);refine qY (some 9) rfl rfl Try.func56 (by kernel_rfl) rfl #[.int .i64 t583] rfl byah ?_;(with_reducible refine (qX.calls k t583 t584 _ A3.out).mono ?_);rintro e w7 ⟨v585,rfl,ho0,hb⟩;refine ⟨_,rfl,?_⟩;have n_:=q_3 (Kd.uZ ho0 (jX (byad GE582.out))) (qH BK582.out hb) (qC (byad GE582.out) hb);clear BK582 HB;obtain ⟨HO586,BK582,HB⟩:=n_;clear hb;(try clear ho0);obtain ⟨Ao8,co8,eo8⟩:=Kd.vJ HO586.out;subst eo8))
 go_loopg [11] k (fun kq v11 w'=>∃ (x11_1 : Int),v11 = .int .i64 x11_1∧qA (vG.l0 kq t584 (t584.length : Int) x11_1 l0_0 = some (r1,r2))∧qA (kq ≤ k)∧qA (Kd.R (Kd.int .i64) 3 w' w.heap.size (fun _=>True) (.slice Ao8 t584.length co8) t584)∧qA (w'.heap[gb582]? = some (.cells #[(.slice A0_0 l0_0.length c0_0)] 25 (0,0)))∧qA (Below w.heap.size w w'))
 case atStart=>exact ⟨(0),byae,H',⟨Nat.le_refl _⟩,⟨byav HO586.out⟩,⟨byaf BK582.out⟩,⟨byad GE582.out⟩⟩
 case round =>
  clear H'
  obtain ⟨x11_1,rfl,HA,HK1,HO_9,BK582,HB⟩:=hrel
  cases gk with
  | zero=>exact absurd HA.out (by simp [vG.l0])
  | succ k1 =>
   have H:=HA.out
   clear HA
   simp only [vG.l0] at H
   by_cases c9 : x11_1 < (t584.length : Int)
   ·rw [if_pos c9] at H
    have c9b0:=decide_eq_true c9
    clear c9
    by_cases c10 : 0 ≤ x11_1
    ·rw [if_pos c10] at H
     have c10b0:=decide_eq_true c10
     clear c10
     by_cases c11 : x11_1 < (t584.length : Int)
     ·rw [if_pos c11] at H
      have c11b0:=decide_eq_true c11
      clear c11
      replace H:=Option.bind_eq_some_iff.mp H
      obtain ⟨t588,A120,H⟩:=H
      try dsimp only at H
      have A12:=qA.mk A120
      clear A120
      by_cases c13 : t588 = true
      ·subst c13
       rw [if_pos rfl] at H
       replace H:=Option.bind_eq_some_iff.mp H
       obtain ⟨t589,A140,H⟩:=H
       try dsimp only at H
       have A14:=qA.mk A140
       clear A140
       replace H:=Option.bind_eq_some_iff.mp H
       obtain ⟨t590,A150,H⟩:=H
       try dsimp only at H
       have A15:=qA.mk A150
       clear A150
       by_cases c16 : t590 = 0
       ·rw [if_pos c16] at H
        obtain ⟨c16b0,c16b1⟩:=eqT c16
        clear c16
        have H':=qA.mk H
        clear H
        have p587 : 0 ≤ (x11_1 : Int):=of_decide_eq_true byag
        have q587 : x11_1 < (t584.length : Int):=of_decide_eq_true byag
        obtain ⟨ad587,e587,hx587_0⟩:=Kd.kW (Kd.uM HO_9.out).2.2 x11_1 p587 q587
        cases e587
        replace p587:=eq_true p587
        replace q587:=eq_true q587
        obtain ⟨hcz17_0,hfz17_0⟩:=cz1 BK582.out
        try go_wp2_with (first|((with_reducible refine qI (f:=24) rfl ?_);refine qY (some 17) rfl rfl Try.func24 (by kernel_rfl) rfl #[.agg #[.slice A0_0 l0_0.length c0_0],.int .i64 (rd t584 x11_1)] rfl byah ?_;(with_reducible refine (zW.calls k1 _ _ l0_0 (rd t584 x11_1) true _ ?side1 ?side2 A12.out).mono ?_);(case side1=>exact byaq HR0_0.out);(case side2=>exact HC0_0.out);rintro e w18 ⟨rfl,hb⟩;refine ⟨_,rfl,?_⟩;have n_:=q_3 (Kd.uP (byav HO_9.out) hb) (qH BK582.out hb) (qC (byad GE582.out) hb);clear HO_9 BK582 HB;obtain ⟨HO_9,BK582,HB⟩:=n_;clear hb))
        have n_:=q_3 (Kd.jZ HO_9.out) (qG BK582.out) (vI HB.out)
        clear HO_9 BK582 HB
        obtain ⟨HO_9,BK582,HB⟩:=n_
        refine Qm (n:=7) (S:=fun w'=>w'.cell? ⟨gb582,0,none⟩ = some (.slice A0_0 l0_0.length c0_0)) (ds:=[]) (bb 7 0) (by kernel_rfl) rfl rfl ((qN BK582.out 0).trans rfl) (fun hHeld=>?_)
        generalize w18.drew = w19 at HO_9 BK582 HB hHeld ⊢
        refine Qr (i:=3) (N:=some 22) (bb 7 8) ?_
        refine takeZB (i:=0) (N:=some 19) (bb 7 9) hHeld ?_
        refine takeZB (i:=1) (N:=some 20) (bb 7 11) hHeld ?_
        refine one_ (i:=2) (N:=some 21) (bb 7 15) rfl rfl (by kernel_rfl) (by decide) (fun K hK=>?_)
        refine Qg Try.func57 (by kernel_rfl) rfl #[.agg #[.slice A0_0 l0_0.length c0_0]] (by rfl) rfl rfl byah ?_
        with_reducible refine (uF.calls _ _ l0_0 t589 _ ?side1 ?side2 A14.out).mono ?_
        (case side1=>exact byaq HR0_0.out)
        (case side2=>exact HC0_0.out)
        rintro e w20 ⟨rfl,hb⟩
        refine ⟨_,rfl,?_⟩
        have n_:=q_3 (Kd.uP (byav HO_9.out) hb) (qH BK582.out hb) (qC (byad GE582.out) hb)
        clear HO_9 BK582 HB
        obtain ⟨HO_9,BK582,HB⟩:=n_
        (try clear hb)
        (try clear hb2)
        (try clear hk)
        (try clear hi)
        refine hK.out _ _ ((qN BK582.out 0).trans rfl) (fun hHeld=>?_)
        clear hK K
        refine kN (N:=some 21) ?_
        refine Qr (i:=4) (N:=some 23) (bb 7 31) ?_
        refine one_ (i:=5) (N:=some 24) (bb 7 63) rfl rfl (by kernel_rfl) (by decide) (fun K hK=>?_)
        refine Qg Try.func58 (by kernel_rfl) rfl #[.agg #[.slice A0_0 l0_0.length c0_0],.int .i64 (wrap64 (t589 - (rd t584 x11_1)))] (by rfl) rfl rfl byah ?_
        with_reducible refine (jC.calls k1 _ _ l0_0 (wrap64 (t589 - (rd t584 x11_1))) t590 _ ?side1 ?side2 A15.out).mono ?_
        (case side1=>exact byaq HR0_0.out)
        (case side2=>exact HC0_0.out)
        rintro e w21 ⟨rfl,hb⟩
        refine ⟨_,rfl,?_⟩
        have n_:=q_3 (Kd.uP (byav HO_9.out) hb) (qH BK582.out hb) (qC (byad GE582.out) hb)
        clear HO_9 BK582 HB
        obtain ⟨HO_9,BK582,HB⟩:=n_
        (try clear hb)
        (try clear hb2)
        (try clear hk)
        (try clear hi)
        refine hK.out _ _ ((qN BK582.out 0).trans rfl) (fun hHeld=>?_)
        clear hK K
        refine kN (N:=some 24) ?_
        refine Qr (i:=6) (N:=some 6) (bb 7 127) ?_
        refine Ze (by kernel_rfl) ?_
        try go_wp2
        go_roundg k1
        case measure=>have:=HK1.out;omega
        case rel=>exact ⟨(wrap64 (x11_1 + 1)),byae,H',⟨byai⟩,⟨byav HO_9.out⟩,⟨byaf BK582.out⟩,⟨byad GE582.out⟩⟩
       ·rw [if_neg c16] at H
        obtain ⟨c16b0,c16b1⟩:=eqF c16
        simp only [Option.some.injEq,Prod.mk.injEq] at H
        obtain ⟨rfl,rfl⟩:=H
        have p587 : 0 ≤ (x11_1 : Int):=of_decide_eq_true byag
        have q587 : x11_1 < (t584.length : Int):=of_decide_eq_true byag
        obtain ⟨ad587,e587,hx587_0⟩:=Kd.kW (Kd.uM HO_9.out).2.2 x11_1 p587 q587
        cases e587
        replace p587:=eq_true p587
        replace q587:=eq_true q587
        obtain ⟨hcz22_0,hfz22_0⟩:=cz1 BK582.out
        try go_wp2_with (first|((with_reducible refine qI (f:=24) rfl ?_);refine qY (some 17) rfl rfl Try.func24 (by kernel_rfl) rfl #[.agg #[.slice A0_0 l0_0.length c0_0],.int .i64 (rd t584 x11_1)] rfl byah ?_;(with_reducible refine (zW.calls k1 _ _ l0_0 (rd t584 x11_1) true _ ?side1 ?side2 A12.out).mono ?_);(case side1=>exact byaq HR0_0.out);(case side2=>exact HC0_0.out);rintro e w23 ⟨rfl,hb⟩;refine ⟨_,rfl,?_⟩;have n_:=q_3 (Kd.uP (byav HO_9.out) hb) (qH BK582.out hb) (qC (byad GE582.out) hb);clear HO_9 BK582 HB;obtain ⟨HO_9,BK582,HB⟩:=n_;clear hb))
        have n_:=q_3 (Kd.jZ HO_9.out) (qG BK582.out) (vI HB.out)
        clear HO_9 BK582 HB
        obtain ⟨HO_9,BK582,HB⟩:=n_
        refine Qm (n:=7) (S:=fun w'=>w'.cell? ⟨gb582,0,none⟩ = some (.slice A0_0 l0_0.length c0_0)) (ds:=[]) (bb 7 0) (by kernel_rfl) rfl rfl ((qN BK582.out 0).trans rfl) (fun hHeld=>?_)
        generalize w23.drew = w24 at HO_9 BK582 HB hHeld ⊢
        refine Qr (i:=3) (N:=some 22) (bb 7 8) ?_
        refine takeZB (i:=0) (N:=some 19) (bb 7 9) hHeld ?_
        refine takeZB (i:=1) (N:=some 20) (bb 7 11) hHeld ?_
        refine one_ (i:=2) (N:=some 21) (bb 7 15) rfl rfl (by kernel_rfl) (by decide) (fun K hK=>?_)
        refine Qg Try.func57 (by kernel_rfl) rfl #[.agg #[.slice A0_0 l0_0.length c0_0]] (by rfl) rfl rfl byah ?_
        with_reducible refine (uF.calls _ _ l0_0 t589 _ ?side1 ?side2 A14.out).mono ?_
        (case side1=>exact byaq HR0_0.out)
        (case side2=>exact HC0_0.out)
        rintro e w25 ⟨rfl,hb⟩
        refine ⟨_,rfl,?_⟩
        have n_:=q_3 (Kd.uP (byav HO_9.out) hb) (qH BK582.out hb) (qC (byad GE582.out) hb)
        clear HO_9 BK582 HB
        obtain ⟨HO_9,BK582,HB⟩:=n_
        (try clear hb)
        (try clear hb2)
        (try clear hk)
        (try clear hi)
        refine hK.out _ _ ((qN BK582.out 0).trans rfl) (fun hHeld=>?_)
        clear hK K
        refine kN (N:=some 21) ?_
        refine Qr (i:=4) (N:=some 23) (bb 7 31) ?_
        refine one_ (i:=5) (N:=some 24) (bb 7 63) rfl rfl (by kernel_rfl) (by decide) (fun K hK=>?_)
        refine Qg Try.func58 (by kernel_rfl) rfl #[.agg #[.slice A0_0 l0_0.length c0_0],.int .i64 (wrap64 (t589 - (rd t584 x11_1)))] (by rfl) rfl rfl byah ?_
        with_reducible refine (jC.calls k1 _ _ l0_0 (wrap64 (t589 - (rd t584 x11_1))) t590 _ ?side1 ?side2 A15.out).mono ?_
        (case side1=>exact byaq HR0_0.out)
        (case side2=>exact HC0_0.out)
        rintro e w26 ⟨rfl,hb⟩
        refine ⟨_,rfl,?_⟩
        have n_:=q_3 (Kd.uP (byav HO_9.out) hb) (qH BK582.out hb) (qC (byad GE582.out) hb)
        clear HO_9 BK582 HB
        obtain ⟨HO_9,BK582,HB⟩:=n_
        (try clear hb)
        (try clear hb2)
        (try clear hk)
        (try clear hi)
        refine hK.out _ _ ((qN BK582.out 0).trans rfl) (fun hHeld=>?_)
        clear hK K
        refine kN (N:=some 24) ?_
        refine Qr (i:=6) (N:=some 6) (bb 7 127) ?_
        refine Ze (by kernel_rfl) ?_
        try go_wp2
        go_ret2
        exact ⟨byac,byad GE582.out⟩
      ·replace c13:=Bool.eq_false_iff.mpr c13
       subst c13
       rw [if_neg (show ¬ (false = true) by decide)] at H
       have H':=qA.mk H
       clear H
       have p587 : 0 ≤ (x11_1 : Int):=of_decide_eq_true byag
       have q587 : x11_1 < (t584.length : Int):=of_decide_eq_true byag
       obtain ⟨ad587,e587,hx587_0⟩:=Kd.kW (Kd.uM HO_9.out).2.2 x11_1 p587 q587
       cases e587
       replace p587:=eq_true p587
       replace q587:=eq_true q587
       obtain ⟨hcz27_0,hfz27_0⟩:=cz1 BK582.out
       go_wp2_with (first|((with_reducible refine qI (f:=24) rfl ?_);refine qY (some 17) rfl rfl Try.func24 (by kernel_rfl) rfl #[.agg #[.slice A0_0 l0_0.length c0_0],.int .i64 (rd t584 x11_1)] rfl byah ?_;(with_reducible refine (zW.calls k1 _ _ l0_0 (rd t584 x11_1) false _ ?side1 ?side2 A12.out).mono ?_);(case side1=>exact byaq HR0_0.out);(case side2=>exact HC0_0.out);rintro e w28 ⟨rfl,hb⟩;refine ⟨_,rfl,?_⟩;have n_:=q_3 (Kd.uP (byav HO_9.out) hb) (qH BK582.out hb) (qC (byad GE582.out) hb);clear HO_9 BK582 HB;obtain ⟨HO_9,BK582,HB⟩:=n_;clear hb))
       go_roundg k1
       case measure=>have:=HK1.out;omega
       case rel=>exact ⟨(wrap64 (x11_1 + 1)),byae,H',⟨byai⟩,⟨byav HO_9.out⟩,⟨byaf BK582.out⟩,⟨byad GE582.out⟩⟩
     ·rw [if_neg c11] at H
      exact absurd H (by simp)
    ·rw [if_neg c10] at H
     exact absurd H (by simp)
   ·rw [if_neg c9] at H
    have c9b0:=decide_eq_false c9
    clear c9
    simp only [Option.some.injEq,Prod.mk.injEq] at H
    obtain ⟨rfl,rfl⟩:=H
    go_wp2
    go_ret2
    exact ⟨byac,byad GE582.out⟩
def kM.f (k : Nat) (l0_0 : List (S58)) : Option (Bool × Int):=(zN.f k l0_0).bind fun t592=>(if t592 = 0 then ((vG.f k l0_0).bind fun bt593=>(some ((bt593.1 == 0),0))) else (some (false,t592)))
set_option maxHeartbeats 8000000 in
set_option maxRecDepth 100000 in
theorem kM.calls (k : Nat) (A0_0 : Option Addr) (c0_0 : Nat) (l0_0 : List (S58)) (r1 : Bool) (r2 : Int) (w : World) (hr0_0 : Kd.C k58 w A0_0 l0_0.length l0_0) (hc0_0 : l0_0.length ≤ c0_0) (h : kM.f k l0_0 = some (r1,r2)) :
  Calls Try.prog 15 #[.agg #[.slice A0_0 l0_0.length c0_0]] w fun e w'=>e = .returned (.tuple #[.bool r1,.int .i64 r2])∧Below w.heap.size w w':=by
 have hu25:=Try.underlying25
 have HR0_0:=qA.mk hr0_0
 have HC0_0:=qA.mk hc0_0
 clear hr0_0 hc0_0
 have HB:=qA.mk (Below.refl w.heap.size w)
 unfold kM.f at h
 have H:=h
 clear h
 replace H:=Option.bind_eq_some_iff.mp H
 obtain ⟨t592,A20,H⟩:=H
 try dsimp only at H
 have A2:=qA.mk A20
 clear A20
 by_cases c3 : t592 = 0
 ·rw [if_pos c3] at H
  obtain ⟨c3b0,c3b1⟩:=eqT c3
  clear c3
  replace H:=Option.bind_eq_some_iff.mp H
  obtain ⟨⟨t593,t594⟩,A40,H⟩:=H
  try dsimp only at H
  have A4:=qA.mk A40
  clear A40
  simp only [Option.some.injEq,Prod.mk.injEq] at H
  obtain ⟨rfl,rfl⟩:=H
  go_enter Try.func15,Try.ntmps15
  go_wp2_with (first|((with_reducible refine qP (N:=1) rfl ?_);refine zV (N:=1) (cs:=#[.slice A0_0 l0_0.length c0_0]) (t:=25) ?_;intro gb591 hg w5 hbox hb;have n_:=q_4 (qC byab hb) (hbox) ((byck : w.heap.size ≤ gb591)) ((byck : w.heap.size ≤ gb591));clear HB;obtain ⟨HB,BK591,GW591,GE591⟩:=n_;clear hb hbox hg;obtain ⟨hcz6_0,hfz6_0⟩:=cz1 BK591.out)|((with_reducible refine qI (f:=37) rfl ?_);refine qY (some 8) rfl rfl Try.func37 (by kernel_rfl) rfl #[.agg #[.slice A0_0 l0_0.length c0_0]] rfl byah ?_;(with_reducible refine (zN.calls k _ _ l0_0 t592 _ ?side1 ?side2 A2.out).mono ?_);(case side1=>exact byaq HR0_0.out);(case side2=>exact HC0_0.out);rintro e w7 ⟨rfl,hb⟩;refine ⟨_,rfl,?_⟩;have n_:=q_2 (qH BK591.out hb) (qC (byad GE591.out) hb);clear BK591 HB;obtain ⟨BK591,HB⟩:=n_;clear hb;obtain ⟨hcz8_0,hfz8_0⟩:=cz1 BK591.out)|((with_reducible refine qI (f:=38) rfl ?_);refine qY (some 14) rfl rfl Try.func38 (by kernel_rfl) rfl #[.agg #[.slice A0_0 l0_0.length c0_0]] rfl byah ?_;(with_reducible refine (vG.calls k _ _ l0_0 t593 t594 _ ?side1 ?side2 A4.out).mono ?_);(case side1=>exact byaq HR0_0.out);(case side2=>exact HC0_0.out);rintro e w9 ⟨rfl,hb⟩;refine ⟨_,rfl,?_⟩;have n_:=q_2 (qH BK591.out hb) (qC (byad GE591.out) hb);clear BK591 HB;obtain ⟨BK591,HB⟩:=n_;clear hb))
  go_ret2
  exact ⟨byac,byad GE591.out⟩
 ·rw [if_neg c3] at H
  obtain ⟨c3b0,c3b1⟩:=eqF c3
  simp only [Option.some.injEq,Prod.mk.injEq] at H
  obtain ⟨rfl,rfl⟩:=H
  go_enter Try.func15,Try.ntmps15
  go_wp2_with (first|((with_reducible refine qP (N:=1) rfl ?_);refine zV (N:=1) (cs:=#[.slice A0_0 l0_0.length c0_0]) (t:=25) ?_;intro gb591 hg w10 hbox hb;have n_:=q_4 (qC byab hb) (hbox) ((byck : w.heap.size ≤ gb591)) ((byck : w.heap.size ≤ gb591));clear HB;obtain ⟨HB,BK591,GW591,GE591⟩:=n_;clear hb hbox hg;obtain ⟨hcz11_0,hfz11_0⟩:=cz1 BK591.out)|((with_reducible refine qI (f:=37) rfl ?_);refine qY (some 8) rfl rfl Try.func37 (by kernel_rfl) rfl #[.agg #[.slice A0_0 l0_0.length c0_0]] rfl byah ?_;(with_reducible refine (zN.calls k _ _ l0_0 t592 _ ?side1 ?side2 A2.out).mono ?_);(case side1=>exact byaq HR0_0.out);(case side2=>exact HC0_0.out);rintro e w12 ⟨rfl,hb⟩;refine ⟨_,rfl,?_⟩;have n_:=q_2 (qH BK591.out hb) (qC (byad GE591.out) hb);clear BK591 HB;obtain ⟨BK591,HB⟩:=n_;clear hb))
  go_ret2
  exact ⟨byac,byad GE591.out⟩
end Go.Proofs.Ytkkbdimegpdbgaa.P
