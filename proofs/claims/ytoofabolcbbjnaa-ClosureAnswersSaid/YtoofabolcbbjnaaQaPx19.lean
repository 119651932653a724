/- Functions of the program as Lean functions, and the walks that show that the calls answer so; written by a program of this session (a changed print) and by hand. -/
import Derived.Test.YtoofabolcbbjnaaQaPx0
import Derived.Test.YtoofabolcbbjnaaQaPx5
import Derived.Test.YtoofabolcbbjnaaQaPx11
import Derived.Test.YtoofabolcbbjnaaQaPx18
namespace Go.Proofs.Ytoofabolcbbjnaa.P
open Go.RowKit Go.Proofs.YtoofabolcbbjnaaW.PrintWords Go.Proofs.YtoofabolcbbjnaaW.PrintLast Go.Proofs.YtoofabolcbbjnaaW.PrintMore
attribute [local go_sem] kR kP Qa Qc kE kD kQ kN
set_option linter.unusedVariables false
set_option linter.unusedSimpArgs false
def trustquorumref09_Check.l0 : Nat→Int→List Int→Int→Int→List (S51)→Option (Int × Int)
 | 0,_,_,_,_,_=>none
 | k + 1,x8,x18,x19,x20,x670000=>if x20 < x19 then (if 0 ≤ x20 then (if x20 < (x18.length : Int) then ((jS.f x8 (rd x18 x20)).bind fun t674=>(if t674 = true then (if 0 ≤ (rd x18 x20) then (if (rd x18 x20) < (x670000.length : Int) then ((qP.f k ((zF x670000 (rd x18 x20)).f1.f0) ((zF x670000 (rd x18 x20)).f1.f1) ((zF x670000 (rd x18 x20)).f1.f2) x8).bind fun t676=>(if t676 = true then (some (0,12)) else (trustquorumref09_Check.l0 k (wrap64 (x8 - (shl .i64 1 (rd x18 x20)))) x18 x19 (wrap64 (x20 + 1)) x670000))) else (none)) else (none)) else (some (0,12)))) else (none)) else (none)) else (if x8 = 0 then (some (x8,0)) else ((trustquorumref09_Quorum.f k x670000 x8).bind fun t672=>(if t672 = true then (some (x8,0)) else (some (0,12)))))
def trustquorumref09_Check.f (k : Nat) (l0_0 : List (S51)) (a1 : Int) (l2 : List Int) : Option (Int × Int):=(zL.f a1).bind fun t670=>(if t670 = true then ((zI.f k l0_0).bind fun t671=>(trustquorumref09_Check.l0 k (Go.bits .and .i64 a1 t671) l2 (l2.length : Int) 0 l0_0)) else (some (0,1)))
set_option maxHeartbeats 8000000 in
set_option maxRecDepth 100000 in
theorem trustquorumref09_Check.calls (k : Nat) (A0_0 : Option Addr) (c0_0 : Nat) (l0_0 : List (S51)) (a1 : Int) (A2 : Option Addr) (c2 : Nat) (l2 : List Int) (r1 : Int) (r2 : Int) (w : World) (hr0_0 : Kd.C k51 w A0_0 l0_0.length l0_0) (hc0_0 : l0_0.length ≤ c0_0) (hr2 : Kd.C (Kd.int .i64) w A2 l2.length l2) (hc2 : l2.length ≤ c2) (h : trustquorumref09_Check.f k l0_0 a1 l2 = some (r1,r2)) :
  Calls Try.prog 23 #[.agg #[.slice A0_0 l0_0.length c0_0],.int .i64 a1,.slice A2 l2.length c2] w fun e w'=>e = .returned (.tuple #[.int .i64 r1,.int .i64 r2])∧Below w.heap.size w w':=by
 have hu25:=Try.underlying25
 have hu49:=Try.underlying49
 have HR0_0:=qA.mk hr0_0
 have HC0_0:=qA.mk hc0_0
 clear hr0_0 hc0_0
 have HR2:=qA.mk hr2
 have HC2:=qA.mk hc2
 clear hr2 hc2
 have HB:=qA.mk (Below.refl w.heap.size w)
 unfold trustquorumref09_Check.f at h
 have H:=h
 clear h
 replace H:=Option.bind_eq_some_iff.mp H
 obtain ⟨t670,A40,H⟩:=H
 try dsimp only at H
 have A4:=qA.mk A40
 clear A40
 by_cases c5 : t670 = true
 ·subst c5
  rw [if_pos rfl] at H
  replace H:=Option.bind_eq_some_iff.mp H
  obtain ⟨t671,A60,H⟩:=H
  try dsimp only at H
  have A6:=qA.mk A60
  clear A60
  have H':=qA.mk H
  clear H
  go_enter Try.func23,Try.ntmps23
  go_wp2_with (first|((with_reducible refine qX (N:=3) rfl ?_);refine zD ?hg (N:=3) ?hd (cs:=#[.slice A0_0 l0_0.length c0_0]) (t:=25) ?hr ?_;(case hd=>rfl);(case hg=>rfl);(case hr=>exact byad);intro gb669 hg w7 hbox hb;have n_:=q_4 (qE byae hb) (hbox) ((byck : w.heap.size ≤ gb669)) ((byck : w.heap.size ≤ gb669));clear HB;obtain ⟨HB,BK669,GW669,GE669⟩:=n_;clear hb hbox hg)|((with_reducible refine qF (f:=36) rfl ?_);refine zC (some 12) rfl rfl Try.func36 (by kernel_rfl) rfl #[.int .i64 a1] rfl byac ?_;(with_reducible refine (zL.calls a1 true _ A4.out).mono ?_);rintro e w' ⟨rfl,⟨nd,rfl⟩⟩;refine ⟨_,rfl,?_⟩;obtain ⟨hcz8_0,hfz8_0⟩:=cz1 BK669.out)|((with_reducible refine qF (f:=24) rfl ?_);refine zC (some 16) rfl rfl Try.func24 (by kernel_rfl) rfl #[.agg #[.slice A0_0 l0_0.length c0_0]] rfl byac ?_;(with_reducible refine (zI.calls k _ _ l0_0 t671 _ ?side1 ?side2 A6.out).mono ?_);(case side1=>exact bycm HR0_0.out GE669.out);(case side2=>exact HC0_0.out);rintro e w9 ⟨rfl,hb⟩;refine ⟨_,rfl,?_⟩;have n_:=q_2 (qI BK669.out hb) (qE (byag GE669.out) hb);clear BK669 HB;obtain ⟨BK669,HB⟩:=n_;clear hb))
  go_loopg [8,20] k (fun kq v8 v20 w'=>∃ (x8_1 : Int) (x20_1 : Int),v8 = .int .i64 x8_1∧v20 = .int .i64 x20_1∧qA (trustquorumref09_Check.l0 kq x8_1 l2 (l2.length : Int) x20_1 l0_0 = some (r1,r2))∧qA (kq ≤ k)∧qA (w'.heap[gb669]? = some (.cells #[(.slice A0_0 l0_0.length c0_0)] 25 (0,0)))∧qA (Below w.heap.size w w'))
  case atStart=>exact ⟨(Go.bits .and .i64 a1 t671),(0),byab,byab,H',⟨Nat.le_refl _⟩,⟨byaf BK669.out⟩,⟨byag GE669.out⟩⟩
  case round =>
   clear H'
   obtain ⟨x8_1,x20_1,rfl,rfl,HA,HK1,BK669,HB⟩:=hrel
   cases gk with
   | zero=>exact absurd HA.out (by simp [trustquorumref09_Check.l0])
   | succ k1 =>
    have H:=HA.out
    clear HA
    simp only [trustquorumref09_Check.l0] at H
    by_cases c10 : x20_1 < (l2.length : Int)
    ·rw [if_pos c10] at H
     have c10b0:=decide_eq_true c10
     clear c10
     by_cases c11 : 0 ≤ x20_1
     ·rw [if_pos c11] at H
      have c11b0:=decide_eq_true c11
      clear c11
      by_cases c12 : x20_1 < (l2.length : Int)
      ·rw [if_pos c12] at H
       have c12b0:=decide_eq_true c12
       clear c12
       replace H:=Option.bind_eq_some_iff.mp H
       obtain ⟨t674,A130,H⟩:=H
       try dsimp only at H
       have A13:=qA.mk A130
       clear A130
       by_cases c14 : t674 = true
       ·subst c14
        rw [if_pos rfl] at H
        by_cases c15 : 0 ≤ (rd l2 x20_1)
        ·rw [if_pos c15] at H
         have c15b0:=decide_eq_true c15
         clear c15
         by_cases c16 : (rd l2 x20_1) < (l0_0.length : Int)
         ·rw [if_pos c16] at H
          have c16b0:=decide_eq_true c16
          clear c16
          replace H:=Option.bind_eq_some_iff.mp H
          obtain ⟨t676,A170,H⟩:=H
          try dsimp only at H
          have A17:=qA.mk A170
          clear A170
          by_cases c18 : t676 = true
          ·subst c18
           rw [if_pos rfl] at H
           simp only [Option.some.injEq,Prod.mk.injEq] at H
           obtain ⟨rfl,rfl⟩:=H
           have p673 : 0 ≤ (x20_1 : Int):=of_decide_eq_true byah
           have q673 : x20_1 < (l2.length : Int):=of_decide_eq_true byah
           obtain ⟨ad673,e673,hx673_0⟩:=Kd.uV HR2.out x20_1 p673 q673
           cases e673
           replace hx673_0:=(HB.out.cell (World.block_lt_of_cell? w _ hx673_0)).trans hx673_0
           replace p673:=eq_true p673
           replace q673:=eq_true q673
           go_wp2_with (first|((with_reducible refine qF (f:=44) rfl ?_);refine zC (some 26) rfl rfl Try.func44 (by kernel_rfl) rfl #[.int .i64 x8_1,.int .i64 (rd l2 x20_1)] rfl byac ?_;(with_reducible refine (jS.calls x8_1 (rd l2 x20_1) true _ A13.out).mono ?_);rintro e w' ⟨rfl,⟨nd,rfl⟩⟩;refine ⟨_,rfl,?_⟩;obtain ⟨hcz19_0,hfz19_0⟩:=cz1 BK669.out;have p675 : 0 ≤ ((rd l2 x20_1) : Int):=of_decide_eq_true byah;have q675 : (rd l2 x20_1) < (l0_0.length : Int):=of_decide_eq_true byah;obtain ⟨ad675,A675_2,c675_2,A675_3,c675_3,e675,hx675_0,hx675_1,hx675_2,hx675_3,hl675_2,hi675_2,hl675_3,hi675_3⟩:=Qm HR0_0.out (rd l2 x20_1) p675 q675;cases e675;replace hx675_0:=(HB.out.cell (World.block_lt_of_cell? w _ hx675_0)).trans hx675_0;replace hx675_1:=(HB.out.cell (World.block_lt_of_cell? w _ hx675_1)).trans hx675_1;replace hx675_2:=(HB.out.cell (World.block_lt_of_cell? w _ hx675_2)).trans hx675_2;replace hx675_3:=(HB.out.cell (World.block_lt_of_cell? w _ hx675_3)).trans hx675_3;have HR675_2:=qA.mk hi675_2;have HC675_2:=qA.mk hl675_2;clear hi675_2 hl675_2;have HR675_3:=qA.mk hi675_3;have HC675_3:=qA.mk hl675_3;clear hi675_3 hl675_3;replace p675:=eq_true p675;replace q675:=eq_true q675)|(go_at_call 26;(with_reducible refine (qP.calls k1 ((zF l0_0 (rd l2 x20_1)).f1.f0) _ _ ((zF l0_0 (rd l2 x20_1)).f1.f1) _ _ ((zF l0_0 (rd l2 x20_1)).f1.f2) x8_1 true _ ?side1 ?side2 ?side3 ?side4 A17.out).mono ?_);(case side1=>exact bycm HR675_2.out GE669.out);(case side2=>exact HC675_2.out);(case side3=>exact bycm HR675_3.out GE669.out);(case side4=>exact HC675_3.out);rintro e w20 ⟨rfl,hb⟩;have n_:=q_2 (qI BK669.out hb) (qE (byag GE669.out) hb);clear BK669 HB;obtain ⟨BK669,HB⟩:=n_;clear hb))
           go_ret2
           exact ⟨byam,byag GE669.out⟩
          ·replace c18:=Bool.eq_false_iff.mpr c18
           subst c18
           rw [if_neg (show ¬ (false = true) by decide)] at H
           have c21b0:=eq_true (of_decide_eq_true byah : 0 ≤ (rd l2 x20_1))
           obtain ⟨ji22,hji22⟩ : ∃ j_ : Int,(shl .i64 1 (rd l2 x20_1)) = j_:=⟨_,rfl⟩
           (first|rw [hji22] at H|(simp only [hji22] at H))
           (try rw [hji22] at A13)
           (try rw [hji22] at A17)
           obtain ⟨hji22_,hji22z,hji22u,hji22v,hji22y,hji22x⟩:=jiA hji22
           have H':=qA.mk H
           clear H
           have p673 : 0 ≤ (x20_1 : Int):=of_decide_eq_true byah
           have q673 : x20_1 < (l2.length : Int):=of_decide_eq_true byah
           obtain ⟨ad673,e673,hx673_0⟩:=Kd.uV HR2.out x20_1 p673 q673
           cases e673
           replace hx673_0:=(HB.out.cell (World.block_lt_of_cell? w _ hx673_0)).trans hx673_0
           replace p673:=eq_true p673
           replace q673:=eq_true q673
           go_wp2_with (first|((with_reducible refine qF (f:=44) rfl ?_);refine zC (some 26) rfl rfl Try.func44 (by kernel_rfl) rfl #[.int .i64 x8_1,.int .i64 (rd l2 x20_1)] rfl byac ?_;(with_reducible refine (jS.calls x8_1 (rd l2 x20_1) true _ A13.out).mono ?_);rintro e w' ⟨rfl,⟨nd,rfl⟩⟩;refine ⟨_,rfl,?_⟩;obtain ⟨hcz23_0,hfz23_0⟩:=cz1 BK669.out;have p675 : 0 ≤ ((rd l2 x20_1) : Int):=of_decide_eq_true byah;have q675 : (rd l2 x20_1) < (l0_0.length : Int):=of_decide_eq_true byah;obtain ⟨ad675,A675_2,c675_2,A675_3,c675_3,e675,hx675_0,hx675_1,hx675_2,hx675_3,hl675_2,hi675_2,hl675_3,hi675_3⟩:=Qm HR0_0.out (rd l2 x20_1) p675 q675;cases e675;replace hx675_0:=(HB.out.cell (World.block_lt_of_cell? w _ hx675_0)).trans hx675_0;replace hx675_1:=(HB.out.cell (World.block_lt_of_cell? w _ hx675_1)).trans hx675_1;replace hx675_2:=(HB.out.cell (World.block_lt_of_cell? w _ hx675_2)).trans hx675_2;replace hx675_3:=(HB.out.cell (World.block_lt_of_cell? w _ hx675_3)).trans hx675_3;have HR675_2:=qA.mk hi675_2;have HC675_2:=qA.mk hl675_2;clear hi675_2 hl675_2;have HR675_3:=qA.mk hi675_3;have HC675_3:=qA.mk hl675_3;clear hi675_3 hl675_3;replace p675:=eq_true p675;replace q675:=eq_true q675)|(go_at_call 26;(with_reducible refine (qP.calls k1 ((zF l0_0 (rd l2 x20_1)).f1.f0) _ _ ((zF l0_0 (rd l2 x20_1)).f1.f1) _ _ ((zF l0_0 (rd l2 x20_1)).f1.f2) x8_1 false _ ?side1 ?side2 ?side3 ?side4 A17.out).mono ?_);(case side1=>exact bycm HR675_2.out GE669.out);(case side2=>exact HC675_2.out);(case side3=>exact bycm HR675_3.out GE669.out);(case side4=>exact HC675_3.out);rintro e w24 ⟨rfl,hb⟩;have n_:=q_2 (qI BK669.out hb) (qE (byag GE669.out) hb);clear BK669 HB;obtain ⟨BK669,HB⟩:=n_;clear hb))
           go_roundg k1
           case measure=>have:=HK1.out;omega
           case rel=>exact ⟨(wrap64 (x8_1 - (ji22))),(wrap64 (x20_1 + 1)),(by first|rfl|(simp;done)|(simp only [← hji22]<;>(first|rfl|simp))|(simp [*];done)),byab,H',⟨byaj⟩,⟨byaf BK669.out⟩,⟨byag GE669.out⟩⟩
         ·rw [if_neg c16] at H
          exact absurd H (by simp)
        ·rw [if_neg c15] at H
         exact absurd H (by simp)
       ·replace c14:=Bool.eq_false_iff.mpr c14
        subst c14
        rw [if_neg (show ¬ (false = true) by decide)] at H
        simp only [Option.some.injEq,Prod.mk.injEq] at H
        obtain ⟨rfl,rfl⟩:=H
        have p673 : 0 ≤ (x20_1 : Int):=of_decide_eq_true byah
        have q673 : x20_1 < (l2.length : Int):=of_decide_eq_true byah
        obtain ⟨ad673,e673,hx673_0⟩:=Kd.uV HR2.out x20_1 p673 q673
        cases e673
        replace hx673_0:=(HB.out.cell (World.block_lt_of_cell? w _ hx673_0)).trans hx673_0
        replace p673:=eq_true p673
        replace q673:=eq_true q673
        go_wp2_with (first|((with_reducible refine qF (f:=44) rfl ?_);refine zC (some 26) rfl rfl Try.func44 (by kernel_rfl) rfl #[.int .i64 x8_1,.int .i64 (rd l2 x20_1)] rfl byac ?_;(with_reducible refine (jS.calls x8_1 (rd l2 x20_1) false _ A13.out).mono ?_);rintro e w' ⟨rfl,⟨nd,rfl⟩⟩;refine ⟨_,rfl,?_⟩))
        go_ret2
        exact ⟨byam,byag GE669.out⟩
      ·rw [if_neg c12] at H
       exact absurd H (by simp)
     ·rw [if_neg c11] at H
      exact absurd H (by simp)
    ·rw [if_neg c10] at H
     have c10b0:=decide_eq_false c10
     clear c10
     by_cases c25 : x8_1 = 0
     ·rw [if_pos c25] at H
      obtain ⟨c25b0,c25b1⟩:=eqT c25
      clear c25
      simp only [Option.some.injEq,Prod.mk.injEq] at H
      obtain ⟨rfl,rfl⟩:=H
      go_wp2
      go_ret2
      exact ⟨byam,byag GE669.out⟩
     ·rw [if_neg c25] at H
      obtain ⟨c25b0,c25b1⟩:=eqF c25
      replace H:=Option.bind_eq_some_iff.mp H
      obtain ⟨t672,A260,H⟩:=H
      try dsimp only at H
      have A26:=qA.mk A260
      clear A260
      by_cases c27 : t672 = true
      ·subst c27
       rw [if_pos rfl] at H
       simp only [Option.some.injEq,Prod.mk.injEq] at H
       obtain ⟨rfl,rfl⟩:=H
       obtain ⟨hcz28_0,hfz28_0⟩:=cz1 BK669.out
       go_wp2_with (first|(go_at_call 16;(with_reducible refine (trustquorumref09_Quorum.calls k1 _ _ l0_0 x8_1 true _ ?side1 ?side2 A26.out).mono ?_);(case side1=>exact byan HR0_0.out);(case side2=>exact HC0_0.out);rintro e w29 ⟨rfl,hb⟩;have n_:=q_2 (qI BK669.out hb) (qE (byag GE669.out) hb);clear BK669 HB;obtain ⟨BK669,HB⟩:=n_;clear hb))
       go_ret2
       exact ⟨byam,byag GE669.out⟩
      ·replace c27:=Bool.eq_false_iff.mpr c27
       subst c27
       rw [if_neg (show ¬ (false = true) by decide)] at H
       simp only [Option.some.injEq,Prod.mk.injEq] at H
       obtain ⟨rfl,rfl⟩:=H
       obtain ⟨hcz30_0,hfz30_0⟩:=cz1 BK669.out
       go_wp2_with (first|(go_at_call 16;(with_reducible refine (trustquorumref09_Quorum.calls k1 _ _ l0_0 x8_1 false _ ?side1 ?side2 A26.out).mono ?_);(case side1=>exact byan HR0_0.out);(case side2=>exact HC0_0.out);rintro e w31 ⟨rfl,hb⟩;have n_:=q_2 (qI BK669.out hb) (qE (byag GE669.out) hb);clear BK669 HB;obtain ⟨BK669,HB⟩:=n_;clear hb))
       go_ret2
       exact ⟨byam,byag GE669.out⟩
 ·replace c5:=Bool.eq_false_iff.mpr c5
  subst c5
  rw [if_neg (show ¬ (false = true) by decide)] at H
  simp only [Option.some.injEq,Prod.mk.injEq] at H
  obtain ⟨rfl,rfl⟩:=H
  go_enter Try.func23,Try.ntmps23
  go_wp2_with (first|((with_reducible refine qX (N:=3) rfl ?_);refine zD ?hg (N:=3) ?hd (cs:=#[.slice A0_0 l0_0.length c0_0]) (t:=25) ?hr ?_;(case hd=>rfl);(case hg=>rfl);(case hr=>exact byad);intro gb669 hg w32 hbox hb;have n_:=q_4 (qE byae hb) (hbox) ((byck : w.heap.size ≤ gb669)) ((byck : w.heap.size ≤ gb669));clear HB;obtain ⟨HB,BK669,GW669,GE669⟩:=n_;clear hb hbox hg)|((with_reducible refine qF (f:=36) rfl ?_);refine zC (some 12) rfl rfl Try.func36 (by kernel_rfl) rfl #[.int .i64 a1] rfl byac ?_;(with_reducible refine (zL.calls a1 false _ A4.out).mono ?_);rintro e w' ⟨rfl,⟨nd,rfl⟩⟩;refine ⟨_,rfl,?_⟩))
  go_ret2
  exact ⟨byam,byag GE669.out⟩
end Go.Proofs.Ytoofabolcbbjnaa.P
