/- Functions of the program as Lean functions, and the walks that show that the calls answer so; written by a program of this session (a changed print) and by hand. -/
import Derived.Test.YtoofabolcbbjnaaQaPx0
import Derived.Test.YtoofabolcbbjnaaQaPx5
import Derived.Test.YtoofabolcbbjnaaQaPx11
namespace Go.Proofs.Ytoofabolcbbjnaa.P
open Go.RowKit Go.Proofs.YtoofabolcbbjnaaW.PrintWords Go.Proofs.YtoofabolcbbjnaaW.PrintLast Go.Proofs.YtoofabolcbbjnaaW.PrintMore
attribute [local go_sem] kR kP Qa Qc kE kD kQ kN
set_option linter.unusedVariables false
set_option linter.unusedSimpArgs false
mutual
def trustquorumref09_Elimination.l0 : Nat→Int→List Int→Bool→List (S51)→Option (List Int)
 | 0,_,_,_,_=>none
 | k + 1,x5,x6,x7,x642000=>if x7 = true then ((jE.f k x5).bind fun t644=>(trustquorumref09_Elimination.l1 k x5 x6 false t644 (t644.length : Int) 0 x642000)) else (some x6)
def trustquorumref09_Elimination.l1 : Nat→Int→List Int→Bool→List Int→Int→Int→List (S51)→Option (List Int)
 | 0,_,_,_,_,_,_,_=>none
 | k + 1,x5,x6,x7,x19,x20,x21,x642000=>if x21 < x20 then (if 0 ≤ x21 then (if x21 < (x19.length : Int) then (if 0 ≤ (rd x19 x21) then (if (rd x19 x21) < (x642000.length : Int) then ((qP.f k ((zF x642000 (rd x19 x21)).f1.f0) ((zF x642000 (rd x19 x21)).f1.f1) ((zF x642000 (rd x19 x21)).f1.f2) x5).bind fun t649=>(if t649 = true then (trustquorumref09_Elimination.l1 k x5 x6 x7 x19 x20 (wrap64 (x21 + 1)) x642000) else (if x6.length < 17592186044416 then (trustquorumref09_Elimination.l0 k (wrap64 (x5 - (shl .i64 1 (rd x19 x21)))) (x6 ++ [rd x19 x21]) true x642000) else (none)))) else (none)) else (none)) else (none)) else (none)) else (trustquorumref09_Elimination.l0 k x5 x6 x7 x642000)
end
def trustquorumref09_Elimination.f (k : Nat) (l0_0 : List (S51)) (a1 : Int) : Option (List Int):=(zL.f a1).bind fun t642=>(if t642 = true then ((zI.f k l0_0).bind fun t643=>(trustquorumref09_Elimination.l0 k (Go.bits .and .i64 a1 t643) ([] : List Int) true l0_0)) else (some ([] : List Int)))
set_option maxHeartbeats 8000000 in
set_option maxRecDepth 100000 in
theorem trustquorumref09_Elimination.calls (k : Nat) (A0_0 : Option Addr) (c0_0 : Nat) (l0_0 : List (S51)) (a1 : Int) (r : List Int) (w : World) (hr0_0 : Kd.C k51 w A0_0 l0_0.length l0_0) (hc0_0 : l0_0.length ≤ c0_0) (h : trustquorumref09_Elimination.f k l0_0 a1 = some r) :
  Calls Try.prog 14 #[.agg #[.slice A0_0 l0_0.length c0_0],.int .i64 a1] w fun e w'=>∃ v0_ : Value,e = .returned (v0_)∧Kd.R (Kd.int .i64) 3 w' w.heap.size (fun _=>True) v0_ r∧Below w.heap.size w w':=by
 have hu25:=Try.underlying25
 have hu49:=Try.underlying49
 have HR0_0:=qA.mk hr0_0
 have HC0_0:=qA.mk hc0_0
 clear hr0_0 hc0_0
 have HB:=qA.mk (Below.refl w.heap.size w)
 unfold trustquorumref09_Elimination.f at h
 have H:=h
 clear h
 replace H:=Option.bind_eq_some_iff.mp H
 obtain ⟨t642,A30,H⟩:=H
 try dsimp only at H
 have A3:=qA.mk A30
 clear A30
 by_cases c4 : t642 = true
 ·subst c4
  rw [if_pos rfl] at H
  replace H:=Option.bind_eq_some_iff.mp H
  obtain ⟨t643,A50,H⟩:=H
  try dsimp only at H
  have A5:=qA.mk A50
  clear A50
  have H':=qA.mk H
  clear H
  go_enter Try.func14,Try.ntmps14
  go_wp2_with (first|((with_reducible refine qX (N:=2) rfl ?_);refine zD ?hg (N:=2) ?hd (cs:=#[.slice A0_0 l0_0.length c0_0]) (t:=25) ?hr ?_;(case hd=>rfl);(case hg=>rfl);(case hr=>exact byad);intro gb641 hg w6 hbox hb;have n_:=q_4 (qE byae hb) (hbox) ((byck : w.heap.size ≤ gb641)) ((byck : w.heap.size ≤ gb641));clear HB;obtain ⟨HB,BK641,GW641,GE641⟩:=n_;clear hb hbox hg)|((with_reducible refine qF (f:=36) rfl ?_);refine zC (some 11) rfl rfl Try.func36 (by kernel_rfl) rfl #[.int .i64 a1] rfl byac ?_;(with_reducible refine (zL.calls a1 true _ A3.out).mono ?_);rintro e w' ⟨rfl,⟨nd,rfl⟩⟩;refine ⟨_,rfl,?_⟩;obtain ⟨hcz7_0,hfz7_0⟩:=cz1 BK641.out)|((with_reducible refine qF (f:=24) rfl ?_);refine zC (some 15) rfl rfl Try.func24 (by kernel_rfl) rfl #[.agg #[.slice A0_0 l0_0.length c0_0]] rfl byac ?_;(with_reducible refine (zI.calls k _ _ l0_0 t643 _ ?side1 ?side2 A5.out).mono ?_);(case side1=>exact bycm HR0_0.out GE641.out);(case side2=>exact HC0_0.out);rintro e w8 ⟨rfl,hb⟩;refine ⟨_,rfl,?_⟩;have n_:=q_2 (qI BK641.out hb) (qE (byag GE641.out) hb);clear BK641 HB;obtain ⟨BK641,HB⟩:=n_;clear hb))
  go_loopg [5,6,7] k (fun kq v5 v6 v7 w'=>∃ (x5_1 : Int) (x6_1 : List Int) (x7_1 : Bool),v5 = .int .i64 x5_1∧v7 = .bool x7_1∧qA (trustquorumref09_Elimination.l0 kq x5_1 x6_1 x7_1 l0_0 = some r)∧qA (kq ≤ k)∧qA (Kd.R (Kd.int .i64) 3 w' w.heap.size (fun _=>True) v6 x6_1)∧qA (w'.heap[gb641]? = some (.cells #[(.slice A0_0 l0_0.length c0_0)] 25 (0,0)))∧qA (Below w.heap.size w w'))
  case atStart=>exact ⟨(Go.bits .and .i64 a1 t643),(([] : List Int)),(true),byab,byab,H',⟨Nat.le_refl _⟩,⟨byar⟩,⟨byaf BK641.out⟩,⟨byag GE641.out⟩⟩
  case round =>
   clear H'
   obtain ⟨x5_1,x6_1,x7_1,rfl,rfl,HA,HK1,HO_6,BK641,HB⟩:=hrel
   cases gk with
   | zero=>exact absurd HA.out (by simp [trustquorumref09_Elimination.l0])
   | succ k1 =>
    have H:=HA.out
    clear HA
    simp only [trustquorumref09_Elimination.l0] at H
    by_cases c9 : x7_1 = true
    ·subst c9
     rw [if_pos rfl] at H
     replace H:=Option.bind_eq_some_iff.mp H
     obtain ⟨t644,A100,H⟩:=H
     try dsimp only at H
     have A10:=qA.mk A100
     clear A100
     have H':=qA.mk H
     clear H
     go_wp2_with (first|((with_reducible refine qF (f:=25) rfl ?_);refine zC (some 19) rfl rfl Try.func25 (by kernel_rfl) rfl #[.int .i64 x5_1] rfl byac ?_;(with_reducible refine (jE.calls k1 x5_1 t644 _ A10.out).mono ?_);rintro e w11 ⟨v645,rfl,ho0,hb⟩;refine ⟨_,rfl,?_⟩;have n_:=q_4 (Kd.uH (byas HO_6.out) (Kd.zW ho0) hb) (Kd.vG (Kd.uY ho0 (Kd.R_lt (byas HO_6.out))) (zJ (byag GE641.out))) (qI BK641.out hb) (qE (byag GE641.out) hb);clear HO_6 BK641 HB;obtain ⟨HO_6,HO646,BK641,HB⟩:=n_;clear hb;(try clear ho0);obtain ⟨Ao12,co12,eo12⟩:=Kd.jI HO646.out;subst eo12))
     go_loopg [5,6,7,21] k1 (fun kq v5 v6 v7 v21 w'=>∃ (x5_2 : Int) (x6_2 : List Int) (x7_2 : Bool) (x21_2 : Int),v5 = .int .i64 x5_2∧v7 = .bool x7_2∧v21 = .int .i64 x21_2∧qA (trustquorumref09_Elimination.l1 kq x5_2 x6_2 x7_2 t644 (t644.length : Int) x21_2 l0_0 = some r)∧qA (kq ≤ k1)∧qA (Kd.R (Kd.int .i64) 3 w' w.heap.size (fun k_=>some k_≠((.slice Ao12 t644.length co12) : Value).ownBlock) v6 x6_2)∧qA (Kd.R (Kd.int .i64) 3 w' w.heap.size (fun k_=>some k_≠(v6 : Value).ownBlock) (.slice Ao12 t644.length co12) t644)∧qA (w'.heap[gb641]? = some (.cells #[(.slice A0_0 l0_0.length c0_0)] 25 (0,0)))∧qA (Below w.heap.size w w'))
     case atStart=>exact ⟨(x5_1),(x6_1),(false),(0),byab,byab,byab,H',⟨Nat.le_refl _⟩,⟨by (with_reducible repeat (first|apply Kd.jF|apply Kd.jG|apply Kd.jM));exact Kd.qV HO_6.out (fun _ hk=>hk.2)⟩,⟨by (with_reducible repeat (first|apply Kd.jF|apply Kd.jG|apply Kd.jM));exact Kd.qV HO646.out (fun _ hk=>hk.2)⟩,⟨byaf BK641.out⟩,⟨byag GE641.out⟩⟩
     case round =>
      clear H'
      obtain ⟨x5_2,x6_2,x7_2,x21_2,rfl,rfl,rfl,HA,HK2,HO_6,HO_19,BK641,HB⟩:=hrel
      cases gk with
      | zero=>exact absurd HA.out (by simp [trustquorumref09_Elimination.l1])
      | succ k2 =>
       have H:=HA.out
       clear HA
       simp only [trustquorumref09_Elimination.l1] at H
       by_cases c13 : x21_2 < (t644.length : Int)
       ·rw [if_pos c13] at H
        have c13b0:=decide_eq_true c13
        clear c13
        by_cases c14 : 0 ≤ x21_2
        ·rw [if_pos c14] at H
         have c14b0:=decide_eq_true c14
         clear c14
         by_cases c15 : x21_2 < (t644.length : Int)
         ·rw [if_pos c15] at H
          have c15b0:=decide_eq_true c15
          clear c15
          by_cases c16 : 0 ≤ (rd t644 x21_2)
          ·rw [if_pos c16] at H
           have c16b0:=decide_eq_true c16
           clear c16
           by_cases c17 : (rd t644 x21_2) < (l0_0.length : Int)
           ·rw [if_pos c17] at H
            have c17b0:=decide_eq_true c17
            clear c17
            replace H:=Option.bind_eq_some_iff.mp H
            obtain ⟨t649,A180,H⟩:=H
            try dsimp only at H
            have A18:=qA.mk A180
            clear A180
            by_cases c19 : t649 = true
            ·subst c19
             rw [if_pos rfl] at H
             have H':=qA.mk H
             clear H
             have p647 : 0 ≤ (x21_2 : Int):=of_decide_eq_true byah
             have q647 : x21_2 < (t644.length : Int):=of_decide_eq_true byah
             obtain ⟨ad647,e647,hx647_0⟩:=Kd.uV (Kd.vS HO_19.out).2.2 x21_2 p647 q647
             cases e647
             replace p647:=eq_true p647
             replace q647:=eq_true q647
             obtain ⟨hcz20_0,hfz20_0⟩:=cz1 BK641.out
             have p648 : 0 ≤ ((rd t644 x21_2) : Int):=of_decide_eq_true byah
             have q648 : (rd t644 x21_2) < (l0_0.length : Int):=of_decide_eq_true byah
             obtain ⟨ad648,A648_2,c648_2,A648_3,c648_3,e648,hx648_0,hx648_1,hx648_2,hx648_3,hl648_2,hi648_2,hl648_3,hi648_3⟩:=Qm HR0_0.out (rd t644 x21_2) p648 q648
             cases e648
             replace hx648_0:=(HB.out.cell (World.block_lt_of_cell? w _ hx648_0)).trans hx648_0
             replace hx648_1:=(HB.out.cell (World.block_lt_of_cell? w _ hx648_1)).trans hx648_1
             replace hx648_2:=(HB.out.cell (World.block_lt_of_cell? w _ hx648_2)).trans hx648_2
             replace hx648_3:=(HB.out.cell (World.block_lt_of_cell? w _ hx648_3)).trans hx648_3
             have HR648_2:=qA.mk hi648_2
             have HC648_2:=qA.mk hl648_2
             clear hi648_2 hl648_2
             have HR648_3:=qA.mk hi648_3
             have HC648_3:=qA.mk hl648_3
             clear hi648_3 hl648_3
             replace p648:=eq_true p648
             replace q648:=eq_true q648
             go_wp2_with (first|((with_reducible refine qF (f:=26) rfl ?_);refine zC (some 32) rfl rfl Try.func26 (by kernel_rfl) rfl #[.agg #[.int .i64 ((zF l0_0 (rd t644 x21_2)).f1.f0),.slice A648_2 ((zF l0_0 (rd t644 x21_2)).f1.f1).length c648_2,.slice A648_3 ((zF l0_0 (rd t644 x21_2)).f1.f2).length c648_3],.int .i64 x5_2] rfl byac ?_;(with_reducible refine (qP.calls k2 ((zF l0_0 (rd t644 x21_2)).f1.f0) _ _ ((zF l0_0 (rd t644 x21_2)).f1.f1) _ _ ((zF l0_0 (rd t644 x21_2)).f1.f2) x5_2 true _ ?side1 ?side2 ?side3 ?side4 A18.out).mono ?_);(case side1=>exact byan HR648_2.out);(case side2=>exact HC648_2.out);(case side3=>exact byan HR648_3.out);(case side4=>exact HC648_3.out);rintro e w21 ⟨rfl,hb⟩;refine ⟨_,rfl,?_⟩;have n_:=q_4 (Kd.jH (byas HO_6.out) hb) (Kd.jH (byas HO_19.out) hb) (qI BK641.out hb) (qE (byag GE641.out) hb);clear HO_6 HO_19 BK641 HB;obtain ⟨HO_6,HO_19,BK641,HB⟩:=n_;clear hb))
             go_roundg k2
             case measure=>have:=HK1.out;have:=HK2.out;omega
             case rel=>exact ⟨(x5_2),(x6_2),(x7_2),(wrap64 (x21_2 + 1)),byab,byab,byab,H',⟨byap⟩,⟨byas HO_6.out⟩,⟨byas HO_19.out⟩,⟨byaf BK641.out⟩,⟨byag GE641.out⟩⟩
            ·replace c19:=Bool.eq_false_iff.mpr c19
             subst c19
             rw [if_neg (show ¬ (false = true) by decide)] at H
             have c22b0:=eq_true (of_decide_eq_true byah : 0 ≤ (rd t644 x21_2))
             obtain ⟨ji23,hji23⟩ : ∃ j_ : Int,(shl .i64 1 (rd t644 x21_2)) = j_:=⟨_,rfl⟩
             (first|rw [hji23] at H|(simp only [hji23] at H))
             (try rw [hji23] at A18)
             obtain ⟨hji23_,hji23z,hji23u,hji23v,hji23y,hji23x⟩:=jiA hji23
             by_cases c24 : x6_2.length < 17592186044416
             ·rw [if_pos c24] at H
              have LMc24:=qA.mk c24
              clear c24
              obtain ⟨y650,hy650⟩ : ∃ y_ : List Int,y_ = (x6_2 ++ [rd t644 x21_2]):=⟨_,rfl⟩
              replace H : (trustquorumref09_Elimination.l0 k2 (wrap64 (x5_2 - (ji23))) y650 true l0_0) = some r:=by first|(rw [hy650];with_reducible exact H)|(have H2_:=(Option.bind_some _ _).symm.trans H;rw [hy650];with_reducible exact H2_)|(have H2_:=(Option.bind_some _ _).symm.trans H;with_reducible exact H2_)|with_reducible exact H|(rw [hy650];exact H)|exact H
              have Ny650:=qA.mk hy650
              clear hy650
              have H':=qA.mk H
              clear H
              have p647 : 0 ≤ (x21_2 : Int):=of_decide_eq_true byah
              have q647 : x21_2 < (t644.length : Int):=of_decide_eq_true byah
              obtain ⟨ad647,e647,hx647_0⟩:=Kd.uV (Kd.vS HO_19.out).2.2 x21_2 p647 q647
              cases e647
              replace p647:=eq_true p647
              replace q647:=eq_true q647
              obtain ⟨hcz25_0,hfz25_0⟩:=cz1 BK641.out
              have p648 : 0 ≤ ((rd t644 x21_2) : Int):=of_decide_eq_true byah
              have q648 : (rd t644 x21_2) < (l0_0.length : Int):=of_decide_eq_true byah
              obtain ⟨ad648,A648_2,c648_2,A648_3,c648_3,e648,hx648_0,hx648_1,hx648_2,hx648_3,hl648_2,hi648_2,hl648_3,hi648_3⟩:=Qm HR0_0.out (rd t644 x21_2) p648 q648
              cases e648
              replace hx648_0:=(HB.out.cell (World.block_lt_of_cell? w _ hx648_0)).trans hx648_0
              replace hx648_1:=(HB.out.cell (World.block_lt_of_cell? w _ hx648_1)).trans hx648_1
              replace hx648_2:=(HB.out.cell (World.block_lt_of_cell? w _ hx648_2)).trans hx648_2
              replace hx648_3:=(HB.out.cell (World.block_lt_of_cell? w _ hx648_3)).trans hx648_3
              have HR648_2:=qA.mk hi648_2
              have HC648_2:=qA.mk hl648_2
              clear hi648_2 hl648_2
              have HR648_3:=qA.mk hi648_3
              have HC648_3:=qA.mk hl648_3
              clear hi648_3 hl648_3
              replace p648:=eq_true p648
              replace q648:=eq_true q648
              go_wp2_with (first|((with_reducible refine qF (f:=26) rfl ?_);refine zC (some 32) rfl rfl Try.func26 (by kernel_rfl) rfl #[.agg #[.int .i64 ((zF l0_0 (rd t644 x21_2)).f1.f0),.slice A648_2 ((zF l0_0 (rd t644 x21_2)).f1.f1).length c648_2,.slice A648_3 ((zF l0_0 (rd t644 x21_2)).f1.f2).length c648_3],.int .i64 x5_2] rfl byac ?_;(with_reducible refine (qP.calls k2 ((zF l0_0 (rd t644 x21_2)).f1.f0) _ _ ((zF l0_0 (rd t644 x21_2)).f1.f1) _ _ ((zF l0_0 (rd t644 x21_2)).f1.f2) x5_2 false _ ?side1 ?side2 ?side3 ?side4 A18.out).mono ?_);(case side1=>exact byan HR648_2.out);(case side2=>exact HC648_2.out);(case side3=>exact byan HR648_3.out);(case side4=>exact HC648_3.out);rintro e w26 ⟨rfl,hb⟩;refine ⟨_,rfl,?_⟩;have n_:=q_4 (Kd.jH (byas HO_6.out) hb) (Kd.jH (byas HO_19.out) hb) (qI BK641.out hb) (qE (byag GE641.out) hb);clear HO_6 HO_19 BK641 HB;obtain ⟨HO_6,HO_19,BK641,HB⟩:=n_;clear hb)|((with_reducible refine jU (b:=.append) (xs:=#[.tmp 38,.tmp 40]) rfl ?_);at_builtin;refine Kd.kF (Kd.int .i64) (w0:=w) w.heap.size rfl (.tmp 38) (.tmp 40) 22 3 (.int .i64 0) 8 rfl Try.underlying22 info3 rfl (by decide) (by omega) u6 x6_2 (rd t644 x21_2) [.int .i64 (rd t644 x21_2)] (fun k_=>some k_≠(.slice (some ad647) t644.length co12 : Value).ownBlock) (fun _=>False) rfl rfl ?aP (fun _ hk=>hk.elim) ?aF ?aO ?aB ?aS ?aL ?_;(case aP=>exact rfl);(case aB=>exact (byag GE641.out));(case aF=>exact (fun k_ hk=>Kd.fresh' (Kd.R_lt (byas HO_19.out)) k_ hk));(case aO=>exact (byas HO_6.out));(case aS=>exact (zJ (byag GE641.out)));(case aL=>have:=LMc24.out;omega);intro v651 w27 ho hb hg hat;rw [← Ny650.out] at ho;have n_:=q_4 (Kd.Qq (ok:=(fun _=>True)) (by (with_reducible repeat (first|apply Kd.jF|apply Kd.jG|apply Kd.jM));exact Kd.qV HO_19.out (fun _ hk=>⟨trivial,hk⟩)) hg hat) (zS (g:=gb641) (o:=.cells #[.slice (some ad648) l0_0.length c0_0] 25 (0,0)) (byaf BK641.out) hg (Kd.R_ne HO_6.out BK641.out (by decide))) (hb) (ho);clear HO_19 BK641 HB HO_6;obtain ⟨HO_19,BK641,HB,HO652⟩:=n_;clear ho hb hg hat))
              go_roundg k2
              case measure=>have:=HK1.out;have:=HK2.out;omega
              case rel=>exact ⟨(wrap64 (x5_2 - (ji23))),(y650),(true),(by first|rfl|(simp;done)|(simp only [← hji23]<;>(first|rfl|simp))|(simp [*];done)),byab,H',⟨byap⟩,⟨bybj HO652.out⟩,⟨byaf BK641.out⟩,⟨byag GE641.out⟩⟩
             ·rw [if_neg c24] at H
              exact absurd H (by simp)
           ·rw [if_neg c17] at H
            exact absurd H (by simp)
          ·rw [if_neg c16] at H
           exact absurd H (by simp)
         ·rw [if_neg c15] at H
          exact absurd H (by simp)
        ·rw [if_neg c14] at H
         exact absurd H (by simp)
       ·rw [if_neg c13] at H
        have c13b0:=decide_eq_false c13
        clear c13
        have H':=qA.mk H
        clear H
        go_wp2
        go_roundg k2
        case measure=>have:=HK1.out;have:=HK2.out;omega
        case rel=>exact ⟨(x5_2),(x6_2),(x7_2),byab,byab,H',⟨byap⟩,⟨bybj HO_6.out⟩,⟨byaf BK641.out⟩,⟨byag GE641.out⟩⟩
    ·replace c9:=Bool.eq_false_iff.mpr c9
     subst c9
     rw [if_neg (show ¬ (false = true) by decide)] at H
     obtain rfl:=Option.some.inj H
     go_wp2
     go_ret
     exact ⟨_,byam,byas HO_6.out,byag GE641.out⟩
 ·replace c4:=Bool.eq_false_iff.mpr c4
  subst c4
  rw [if_neg (show ¬ (false = true) by decide)] at H
  obtain rfl:=Option.some.inj H
  go_enter Try.func14,Try.ntmps14
  go_wp2_with (first|((with_reducible refine qX (N:=2) rfl ?_);refine zD ?hg (N:=2) ?hd (cs:=#[.slice A0_0 l0_0.length c0_0]) (t:=25) ?hr ?_;(case hd=>rfl);(case hg=>rfl);(case hr=>exact byad);intro gb641 hg w28 hbox hb;have n_:=q_4 (qE byae hb) (hbox) ((byck : w.heap.size ≤ gb641)) ((byck : w.heap.size ≤ gb641));clear HB;obtain ⟨HB,BK641,GW641,GE641⟩:=n_;clear hb hbox hg)|((with_reducible refine qF (f:=36) rfl ?_);refine zC (some 11) rfl rfl Try.func36 (by kernel_rfl) rfl #[.int .i64 a1] rfl byac ?_;(with_reducible refine (zL.calls a1 false _ A3.out).mono ?_);rintro e w' ⟨rfl,⟨nd,rfl⟩⟩;refine ⟨_,rfl,?_⟩))
  go_ret
  exact ⟨_,byam,byar,byag GE641.out⟩
mutual
def trustquorumref09_Quorum.j0 : Nat→Int→Bool→List (S51)→Option (Bool)
 | 0,_,_,_=>none
 | k + 1,x1,x21,x654000=>if x21 = true then (some false) else ((jE.f k x1).bind fun t656=>(trustquorumref09_Quorum.l0 k x1 t656 (t656.length : Int) 0 x654000))
def trustquorumref09_Quorum.l0 : Nat→Int→List Int→Int→Int→List (S51)→Option (Bool)
 | 0,_,_,_,_,_=>none
 | k + 1,x1,x23,x24,x25,x654000=>if x25 < x24 then (if 0 ≤ x25 then (if x25 < (x23.length : Int) then (if 0 ≤ (rd x23 x25) then (if (rd x23 x25) < (x654000.length : Int) then ((qP.f k ((zF x654000 (rd x23 x25)).f1.f0) ((zF x654000 (rd x23 x25)).f1.f1) ((zF x654000 (rd x23 x25)).f1.f2) x1).bind fun t661=>(if t661 = true then (trustquorumref09_Quorum.l0 k x1 x23 x24 (wrap64 (x25 + 1)) x654000) else (some false))) else (none)) else (none)) else (none)) else (none)) else (some true)
end
def trustquorumref09_Quorum.f (k : Nat) (l0_0 : List (S51)) (a1 : Int) : Option (Bool):=(zL.f a1).bind fun t654=>(if t654 = true then (if a1 = 0 then (trustquorumref09_Quorum.j0 k a1 true l0_0) else ((zI.f k l0_0).bind fun t655=>(trustquorumref09_Quorum.j0 k a1 ((Go.bits .and .i64 a1 t655) != a1) l0_0))) else (trustquorumref09_Quorum.j0 k a1 true l0_0))
set_option maxHeartbeats 8000000 in
set_option maxRecDepth 100000 in
theorem trustquorumref09_Quorum.calls (k : Nat) (A0_0 : Option Addr) (c0_0 : Nat) (l0_0 : List (S51)) (a1 : Int) (r : Bool) (w : World) (hr0_0 : Kd.C k51 w A0_0 l0_0.length l0_0) (hc0_0 : l0_0.length ≤ c0_0) (h : trustquorumref09_Quorum.f k l0_0 a1 = some r) :
  Calls Try.prog 16 #[.agg #[.slice A0_0 l0_0.length c0_0],.int .i64 a1] w fun e w'=>e = .returned (.bool r)∧Below w.heap.size w w':=by
 have hu25:=Try.underlying25
 have hu49:=Try.underlying49
 have HR0_0:=qA.mk hr0_0
 have HC0_0:=qA.mk hc0_0
 clear hr0_0 hc0_0
 have HB:=qA.mk (Below.refl w.heap.size w)
 unfold trustquorumref09_Quorum.f at h
 have H:=h
 clear h
 have HC3:=qA.mk H
 clear H
 go_enter Try.func16,Try.ntmps16
 go_upto_region 1 with (first|((with_reducible refine qX (N:=2) rfl ?_);refine zD ?hg (N:=2) ?hd (cs:=#[.slice A0_0 l0_0.length c0_0]) (t:=25) ?hr ?_;(case hd=>rfl);(case hg=>rfl);(case hr=>exact byad);intro gb653 hg w4 hbox hb;have n_:=q_4 (qE byae hb) (hbox) ((byck : w.heap.size ≤ gb653)) ((byck : w.heap.size ≤ gb653));clear HB;obtain ⟨HB,BK653,GW653,GE653⟩:=n_;clear hb hbox hg))
 (try simp only [Act.put,List.setIfInBounds_toArray,List.set_cons_zero,List.set_cons_succ])
 go_cut [21] (fun v21 wc=>∃ (kq : Nat) (x21_2 : Bool),v21 = .bool x21_2∧qA (trustquorumref09_Quorum.j0 kq a1 x21_2 l0_0 = some r)∧qA (kq ≤ k)∧qA (wc.heap[gb653]? = some (.cells #[(.slice A0_0 l0_0.length c0_0)] 25 (0,0)))∧qA (Below w.heap.size w wc))
 case first =>
  have H:=HC3.out
  clear HC3
  replace H:=Option.bind_eq_some_iff.mp H
  obtain ⟨t654,A50,H⟩:=H
  try dsimp only at H
  have A5:=qA.mk A50
  clear A50
  by_cases c6 : t654 = true
  ·subst c6
   rw [if_pos rfl] at H
   by_cases c7 : a1 = 0
   ·rw [if_pos c7] at H
    obtain ⟨c7b0,c7b1⟩:=eqT c7
    clear c7
    (first|rw [c7b0]|(simp only [i64_w,i32_w];rw [c7b0])|skip)
    have H':=qA.mk H
    clear H
    go_wp2_with (first|((with_reducible refine qF (f:=36) rfl ?_);refine zC (some 8) rfl rfl Try.func36 (by kernel_rfl) rfl #[.int .i64 a1] rfl byac ?_;(with_reducible refine (zL.calls a1 true _ A5.out).mono ?_);rintro e w' ⟨rfl,⟨nd,rfl⟩⟩;refine ⟨_,rfl,?_⟩))
    go_meet
    case rel=>exact ⟨_,(true),byab,H',⟨bybl⟩,⟨byaf BK653.out⟩,⟨byag GE653.out⟩⟩
   ·rw [if_neg c7] at H
    obtain ⟨c7b0,c7b1⟩:=eqF c7
    (first|rw [c7b0]|(simp only [i64_w,i32_w];rw [c7b0])|skip)
    replace H:=Option.bind_eq_some_iff.mp H
    obtain ⟨t655,A80,H⟩:=H
    try dsimp only at H
    have A8:=qA.mk A80
    clear A80
    have H':=qA.mk H
    clear H
    go_wp2_with (first|((with_reducible refine qF (f:=36) rfl ?_);refine zC (some 8) rfl rfl Try.func36 (by kernel_rfl) rfl #[.int .i64 a1] rfl byac ?_;(with_reducible refine (zL.calls a1 true _ A5.out).mono ?_);rintro e w' ⟨rfl,⟨nd,rfl⟩⟩;refine ⟨_,rfl,?_⟩;obtain ⟨hcz9_0,hfz9_0⟩:=cz1 BK653.out)|(go_at_call 24;(with_reducible refine (zI.calls k _ _ l0_0 t655 _ ?side1 ?side2 A8.out).mono ?_);(case side1=>exact bycm HR0_0.out GE653.out);(case side2=>exact HC0_0.out);rintro e w10 ⟨rfl,hb⟩;have n_:=q_2 (qI BK653.out hb) (qE (byag GE653.out) hb);clear BK653 HB;obtain ⟨BK653,HB⟩:=n_;clear hb))
    go_meet
    case rel=>exact ⟨_,(((Go.bits .and .i64 a1 t655) != a1)),byab,H',⟨bybl⟩,⟨byaf BK653.out⟩,⟨byag GE653.out⟩⟩
  ·replace c6:=Bool.eq_false_iff.mpr c6
   subst c6
   rw [if_neg (show ¬ (false = true) by decide)] at H
   have H':=qA.mk H
   clear H
   go_wp2_with (first|((with_reducible refine qF (f:=36) rfl ?_);refine zC (some 8) rfl rfl Try.func36 (by kernel_rfl) rfl #[.int .i64 a1] rfl byac ?_;(with_reducible refine (zL.calls a1 false _ A5.out).mono ?_);rintro e w' ⟨rfl,⟨nd,rfl⟩⟩;refine ⟨_,rfl,?_⟩))
   go_meet
   case rel=>exact ⟨_,(true),byab,H',⟨bybl⟩,⟨byaf BK653.out⟩,⟨byag GE653.out⟩⟩
 case rest =>
  clear HC3
  obtain ⟨kq,x21_2,rfl,HA,HJ2,BK653,HB⟩:=hcut
  cases kq with
  | zero=>exact absurd HA.out (by simp [trustquorumref09_Quorum.j0])
  | succ kj2 =>
   have H:=HA.out
   clear HA
   simp only [trustquorumref09_Quorum.j0] at H
   by_cases c11 : x21_2 = true
   ·subst c11
    rw [if_pos rfl] at H
    obtain rfl:=Option.some.inj H
    go_wp2
    go_ret
    exact ⟨byam,byag GE653.out⟩
   ·replace c11:=Bool.eq_false_iff.mpr c11
    subst c11
    rw [if_neg (show ¬ (false = true) by decide)] at H
    replace H:=Option.bind_eq_some_iff.mp H
    obtain ⟨t656,A120,H⟩:=H
    try dsimp only at H
    have A12:=qA.mk A120
    clear A120
    have H':=qA.mk H
    clear H
    go_wp2_with (first|((with_reducible refine qF (f:=25) rfl ?_);refine zC (some 23) rfl rfl Try.func25 (by kernel_rfl) rfl #[.int .i64 a1] rfl byac ?_;(with_reducible refine (jE.calls kj2 a1 t656 _ A12.out).mono ?_);rintro e w13 ⟨v657,rfl,ho0,hb⟩;refine ⟨_,rfl,?_⟩;have n_:=q_3 (Kd.vG ho0 (zJ (byag GE653.out))) (qI BK653.out hb) (qE (byag GE653.out) hb);clear BK653 HB;obtain ⟨HO658,BK653,HB⟩:=n_;clear hb;(try clear ho0);obtain ⟨Ao14,co14,eo14⟩:=Kd.jI HO658.out;subst eo14))
    go_loopg [25] kj2 (fun kq v25 w'=>∃ (x25_2 : Int),v25 = .int .i64 x25_2∧qA (trustquorumref09_Quorum.l0 kq a1 t656 (t656.length : Int) x25_2 l0_0 = some r)∧qA (kq ≤ kj2)∧qA (Kd.R (Kd.int .i64) 3 w' w.heap.size (fun _=>True) (.slice Ao14 t656.length co14) t656)∧qA (w'.heap[gb653]? = some (.cells #[(.slice A0_0 l0_0.length c0_0)] 25 (0,0)))∧qA (Below w.heap.size w w'))
    case atStart=>exact ⟨(0),byab,H',⟨Nat.le_refl _⟩,⟨byas HO658.out⟩,⟨byaf BK653.out⟩,⟨byag GE653.out⟩⟩
    case round =>
     clear H'
     obtain ⟨x25_2,rfl,HA,HK2,HO_23,BK653,HB⟩:=hrel
     cases gk with
     | zero=>exact absurd HA.out (by simp [trustquorumref09_Quorum.l0])
     | succ k2 =>
      have H:=HA.out
      clear HA
      simp only [trustquorumref09_Quorum.l0] at H
      by_cases c15 : x25_2 < (t656.length : Int)
      ·rw [if_pos c15] at H
       have c15b0:=decide_eq_true c15
       clear c15
       by_cases c16 : 0 ≤ x25_2
       ·rw [if_pos c16] at H
        have c16b0:=decide_eq_true c16
        clear c16
        by_cases c17 : x25_2 < (t656.length : Int)
        ·rw [if_pos c17] at H
         have c17b0:=decide_eq_true c17
         clear c17
         by_cases c18 : 0 ≤ (rd t656 x25_2)
         ·rw [if_pos c18] at H
          have c18b0:=decide_eq_true c18
          clear c18
          by_cases c19 : (rd t656 x25_2) < (l0_0.length : Int)
          ·rw [if_pos c19] at H
           have c19b0:=decide_eq_true c19
           clear c19
           replace H:=Option.bind_eq_some_iff.mp H
           obtain ⟨t661,A200,H⟩:=H
           try dsimp only at H
           have A20:=qA.mk A200
           clear A200
           by_cases c21 : t661 = true
           ·subst c21
            rw [if_pos rfl] at H
            have H':=qA.mk H
            clear H
            have p659 : 0 ≤ (x25_2 : Int):=of_decide_eq_true byah
            have q659 : x25_2 < (t656.length : Int):=of_decide_eq_true byah
            obtain ⟨ad659,e659,hx659_0⟩:=Kd.uV (Kd.vS HO_23.out).2.2 x25_2 p659 q659
            cases e659
            replace p659:=eq_true p659
            replace q659:=eq_true q659
            obtain ⟨hcz22_0,hfz22_0⟩:=cz1 BK653.out
            have p660 : 0 ≤ ((rd t656 x25_2) : Int):=of_decide_eq_true byah
            have q660 : (rd t656 x25_2) < (l0_0.length : Int):=of_decide_eq_true byah
            obtain ⟨ad660,A660_2,c660_2,A660_3,c660_3,e660,hx660_0,hx660_1,hx660_2,hx660_3,hl660_2,hi660_2,hl660_3,hi660_3⟩:=Qm HR0_0.out (rd t656 x25_2) p660 q660
            cases e660
            replace hx660_0:=(HB.out.cell (World.block_lt_of_cell? w _ hx660_0)).trans hx660_0
            replace hx660_1:=(HB.out.cell (World.block_lt_of_cell? w _ hx660_1)).trans hx660_1
            replace hx660_2:=(HB.out.cell (World.block_lt_of_cell? w _ hx660_2)).trans hx660_2
            replace hx660_3:=(HB.out.cell (World.block_lt_of_cell? w _ hx660_3)).trans hx660_3
            have HR660_2:=qA.mk hi660_2
            have HC660_2:=qA.mk hl660_2
            clear hi660_2 hl660_2
            have HR660_3:=qA.mk hi660_3
            have HC660_3:=qA.mk hl660_3
            clear hi660_3 hl660_3
            replace p660:=eq_true p660
            replace q660:=eq_true q660
            go_wp2_with (first|((with_reducible refine qF (f:=26) rfl ?_);refine zC (some 36) rfl rfl Try.func26 (by kernel_rfl) rfl #[.agg #[.int .i64 ((zF l0_0 (rd t656 x25_2)).f1.f0),.slice A660_2 ((zF l0_0 (rd t656 x25_2)).f1.f1).length c660_2,.slice A660_3 ((zF l0_0 (rd t656 x25_2)).f1.f2).length c660_3],.int .i64 a1] rfl byac ?_;(with_reducible refine (qP.calls k2 ((zF l0_0 (rd t656 x25_2)).f1.f0) _ _ ((zF l0_0 (rd t656 x25_2)).f1.f1) _ _ ((zF l0_0 (rd t656 x25_2)).f1.f2) a1 true _ ?side1 ?side2 ?side3 ?side4 A20.out).mono ?_);(case side1=>exact byan HR660_2.out);(case side2=>exact HC660_2.out);(case side3=>exact byan HR660_3.out);(case side4=>exact HC660_3.out);rintro e w23 ⟨rfl,hb⟩;refine ⟨_,rfl,?_⟩;have n_:=q_3 (Kd.jH (byas HO_23.out) hb) (qI BK653.out hb) (qE (byag GE653.out) hb);clear HO_23 BK653 HB;obtain ⟨HO_23,BK653,HB⟩:=n_;clear hb))
            go_roundg k2
            case measure=>have:=HJ2.out;have:=HK2.out;omega
            case rel=>exact ⟨(wrap64 (x25_2 + 1)),byab,H',⟨by have:=HJ2.out;have:=HK2.out;omega⟩,⟨byas HO_23.out⟩,⟨byaf BK653.out⟩,⟨byag GE653.out⟩⟩
           ·replace c21:=Bool.eq_false_iff.mpr c21
            subst c21
            rw [if_neg (show ¬ (false = true) by decide)] at H
            obtain rfl:=Option.some.inj H
            have p659 : 0 ≤ (x25_2 : Int):=of_decide_eq_true byah
            have q659 : x25_2 < (t656.length : Int):=of_decide_eq_true byah
            obtain ⟨ad659,e659,hx659_0⟩:=Kd.uV (Kd.vS HO_23.out).2.2 x25_2 p659 q659
            cases e659
            replace p659:=eq_true p659
            replace q659:=eq_true q659
            obtain ⟨hcz24_0,hfz24_0⟩:=cz1 BK653.out
            have p660 : 0 ≤ ((rd t656 x25_2) : Int):=of_decide_eq_true byah
            have q660 : (rd t656 x25_2) < (l0_0.length : Int):=of_decide_eq_true byah
            obtain ⟨ad660,A660_2,c660_2,A660_3,c660_3,e660,hx660_0,hx660_1,hx660_2,hx660_3,hl660_2,hi660_2,hl660_3,hi660_3⟩:=Qm HR0_0.out (rd t656 x25_2) p660 q660
            cases e660
            replace hx660_0:=(HB.out.cell (World.block_lt_of_cell? w _ hx660_0)).trans hx660_0
            replace hx660_1:=(HB.out.cell (World.block_lt_of_cell? w _ hx660_1)).trans hx660_1
            replace hx660_2:=(HB.out.cell (World.block_lt_of_cell? w _ hx660_2)).trans hx660_2
            replace hx660_3:=(HB.out.cell (World.block_lt_of_cell? w _ hx660_3)).trans hx660_3
            have HR660_2:=qA.mk hi660_2
            have HC660_2:=qA.mk hl660_2
            clear hi660_2 hl660_2
            have HR660_3:=qA.mk hi660_3
            have HC660_3:=qA.mk hl660_3
            clear hi660_3 hl660_3
            replace p660:=eq_true p660
            replace q660:=eq_true q660
            go_wp2_with (first|((with_reducible refine qF (f:=26) rfl ?_);refine zC (some 36) rfl rfl Try.func26 (by kernel_rfl) rfl #[.agg #[.int .i64 ((zF l0_0 (rd t656 x25_2)).f1.f0),.slice A660_2 ((zF l0_0 (rd t656 x25_2)).f1.f1).length c660_2,.slice A660_3 ((zF l0_0 (rd t656 x25_2)).f1.f2).length c660_3],.int .i64 a1] rfl byac ?_;(with_reducible refine (qP.calls k2 ((zF l0_0 (rd t656 x25_2)).f1.f0) _ _ ((zF l0_0 (rd t656 x25_2)).f1.f1) _ _ ((zF l0_0 (rd t656 x25_2)).f1.f2) a1 false _ ?side1 ?side2 ?side3 ?side4 A20.out).mono ?_);(case side1=>exact byan HR660_2.out);(case side2=>exact HC660_2.out);(case side3=>exact byan HR660_3.out);(case side4=>exact HC660_3.out);rintro e w25 ⟨rfl,hb⟩;refine ⟨_,rfl,?_⟩;have n_:=q_3 (Kd.jH (byas HO_23.out) hb) (qI BK653.out hb) (qE (byag GE653.out) hb);clear HO_23 BK653 HB;obtain ⟨HO_23,BK653,HB⟩:=n_;clear hb))
            go_ret
            exact ⟨byam,byag GE653.out⟩
          ·rw [if_neg c19] at H
           exact absurd H (by simp)
         ·rw [if_neg c18] at H
          exact absurd H (by simp)
        ·rw [if_neg c17] at H
         exact absurd H (by simp)
       ·rw [if_neg c16] at H
        exact absurd H (by simp)
      ·rw [if_neg c15] at H
       have c15b0:=decide_eq_false c15
       clear c15
       obtain rfl:=Option.some.inj H
       go_wp2
       go_ret
       exact ⟨byam,byag GE653.out⟩
def trustquorumref09_Greatest.l0 : Nat→Int→List Int→Int→Int→Option (Int)
 | 0,_,_,_,_=>none
 | k + 1,x5,x17,x18,x19=>if x19 < x18 then (if 0 ≤ x19 then (if x19 < (x17.length : Int) then (if 0 ≤ (rd x17 x19) then (trustquorumref09_Greatest.l0 k (wrap64 (x5 - (shl .i64 1 (rd x17 x19)))) x17 x18 (wrap64 (x19 + 1))) else (none)) else (none)) else (none)) else (some x5)
def trustquorumref09_Greatest.f (k : Nat) (l0_0 : List (S51)) (a1 : Int) : Option (Int):=(zL.f a1).bind fun t663=>(if t663 = true then ((zI.f k l0_0).bind fun t664=>((trustquorumref09_Elimination.f k l0_0 a1).bind fun t665=>(trustquorumref09_Greatest.l0 k (Go.bits .and .i64 a1 t664) t665 (t665.length : Int) 0))) else (some 0))
set_option maxHeartbeats 8000000 in
set_option maxRecDepth 100000 in
theorem trustquorumref09_Greatest.calls (k : Nat) (A0_0 : Option Addr) (c0_0 : Nat) (l0_0 : List (S51)) (a1 : Int) (r : Int) (w : World) (hr0_0 : Kd.C k51 w A0_0 l0_0.length l0_0) (hc0_0 : l0_0.length ≤ c0_0) (h : trustquorumref09_Greatest.f k l0_0 a1 = some r) :
  Calls Try.prog 18 #[.agg #[.slice A0_0 l0_0.length c0_0],.int .i64 a1] w fun e w'=>e = .returned (.int .i64 r)∧Below w.heap.size w w':=by
 have hu25:=Try.underlying25
 have HR0_0:=qA.mk hr0_0
 have HC0_0:=qA.mk hc0_0
 clear hr0_0 hc0_0
 have HB:=qA.mk (Below.refl w.heap.size w)
 unfold trustquorumref09_Greatest.f at h
 have H:=h
 clear h
 replace H:=Option.bind_eq_some_iff.mp H
 obtain ⟨t663,A30,H⟩:=H
 try dsimp only at H
 have A3:=qA.mk A30
 clear A30
 by_cases c4 : t663 = true
 ·subst c4
  rw [if_pos rfl] at H
  replace H:=Option.bind_eq_some_iff.mp H
  obtain ⟨t664,A50,H⟩:=H
  try dsimp only at H
  have A5:=qA.mk A50
  clear A50
  replace H:=Option.bind_eq_some_iff.mp H
  obtain ⟨t665,A60,H⟩:=H
  try dsimp only at H
  have A6:=qA.mk A60
  clear A60
  have H':=qA.mk H
  clear H
  go_enter Try.func18,Try.ntmps18
  go_wp2_with (first|((with_reducible refine qX (N:=2) rfl ?_);refine zD ?hg (N:=2) ?hd (cs:=#[.slice A0_0 l0_0.length c0_0]) (t:=25) ?hr ?_;(case hd=>rfl);(case hg=>rfl);(case hr=>exact byad);intro gb662 hg w7 hbox hb;have n_:=q_4 (qE byae hb) (hbox) ((byck : w.heap.size ≤ gb662)) ((byck : w.heap.size ≤ gb662));clear HB;obtain ⟨HB,BK662,GW662,GE662⟩:=n_;clear hb hbox hg)|((with_reducible refine qF (f:=36) rfl ?_);refine zC (some 9) rfl rfl Try.func36 (by kernel_rfl) rfl #[.int .i64 a1] rfl byac ?_;(with_reducible refine (zL.calls a1 true _ A3.out).mono ?_);rintro e w' ⟨rfl,⟨nd,rfl⟩⟩;refine ⟨_,rfl,?_⟩;obtain ⟨hcz8_0,hfz8_0⟩:=cz1 BK662.out)|((with_reducible refine qF (f:=24) rfl ?_);refine zC (some 13) rfl rfl Try.func24 (by kernel_rfl) rfl #[.agg #[.slice A0_0 l0_0.length c0_0]] rfl byac ?_;(with_reducible refine (zI.calls k _ _ l0_0 t664 _ ?side1 ?side2 A5.out).mono ?_);(case side1=>exact bycm HR0_0.out GE662.out);(case side2=>exact HC0_0.out);rintro e w9 ⟨rfl,hb⟩;refine ⟨_,rfl,?_⟩;have n_:=q_2 (qI BK662.out hb) (qE (byag GE662.out) hb);clear BK662 HB;obtain ⟨BK662,HB⟩:=n_;clear hb;obtain ⟨hcz10_0,hfz10_0⟩:=cz1 BK662.out)|((with_reducible refine qF (f:=14) rfl ?_);refine zC (some 17) rfl rfl Try.func14 (by kernel_rfl) rfl #[.agg #[.slice A0_0 l0_0.length c0_0],.int .i64 a1] rfl byac ?_;(with_reducible refine (trustquorumref09_Elimination.calls k _ _ l0_0 a1 t665 _ ?side1 ?side2 A6.out).mono ?_);(case side1=>exact byan HR0_0.out);(case side2=>exact HC0_0.out);rintro e w11 ⟨v666,rfl,ho0,hb⟩;refine ⟨_,rfl,?_⟩;have n_:=q_3 (Kd.vG ho0 (zJ (byag GE662.out))) (qI BK662.out hb) (qE (byag GE662.out) hb);clear BK662 HB;obtain ⟨HO667,BK662,HB⟩:=n_;clear hb;(try clear ho0);obtain ⟨Ao12,co12,eo12⟩:=Kd.jI HO667.out;subst eo12))
  go_loopg [5,19] k (fun kq v5 v19 w'=>∃ (x5_1 : Int) (x19_1 : Int),v5 = .int .i64 x5_1∧v19 = .int .i64 x19_1∧qA (trustquorumref09_Greatest.l0 kq x5_1 t665 (t665.length : Int) x19_1 = some r)∧qA (kq ≤ k)∧qA (Kd.R (Kd.int .i64) 3 w' w.heap.size (fun _=>True) (.slice Ao12 t665.length co12) t665)∧qA (w'.heap[gb662]? = some (.cells #[(.slice A0_0 l0_0.length c0_0)] 25 (0,0)))∧qA (Below w.heap.size w w'))
  case atStart=>exact ⟨(Go.bits .and .i64 a1 t664),(0),byab,byab,H',⟨Nat.le_refl _⟩,⟨byas HO667.out⟩,⟨byaf BK662.out⟩,⟨byag GE662.out⟩⟩
  case round =>
   clear H'
   obtain ⟨x5_1,x19_1,rfl,rfl,HA,HK1,HO_17,BK662,HB⟩:=hrel
   cases gk with
   | zero=>exact absurd HA.out (by simp [trustquorumref09_Greatest.l0])
   | succ k1 =>
    have H:=HA.out
    clear HA
    simp only [trustquorumref09_Greatest.l0] at H
    by_cases c13 : x19_1 < (t665.length : Int)
    ·rw [if_pos c13] at H
     have c13b0:=decide_eq_true c13
     clear c13
     by_cases c14 : 0 ≤ x19_1
     ·rw [if_pos c14] at H
      have c14b0:=decide_eq_true c14
      clear c14
      by_cases c15 : x19_1 < (t665.length : Int)
      ·rw [if_pos c15] at H
       have c15b0:=decide_eq_true c15
       clear c15
       by_cases c16 : 0 ≤ (rd t665 x19_1)
       ·rw [if_pos c16] at H
        have c16b0:=eq_true c16
        have c16b1:=decide_eq_true c16
        clear c16
        obtain ⟨ji17,hji17⟩ : ∃ j_ : Int,(shl .i64 1 (rd t665 x19_1)) = j_:=⟨_,rfl⟩
        (first|rw [hji17] at H|(simp only [hji17] at H))
        obtain ⟨hji17_,hji17z,hji17u,hji17v,hji17y,hji17x⟩:=jiA hji17
        have H':=qA.mk H
        clear H
        have p668 : 0 ≤ (x19_1 : Int):=of_decide_eq_true byah
        have q668 : x19_1 < (t665.length : Int):=of_decide_eq_true byah
        obtain ⟨ad668,e668,hx668_0⟩:=Kd.uV (Kd.vS HO_17.out).2.2 x19_1 p668 q668
        cases e668
        replace p668:=eq_true p668
        replace q668:=eq_true q668
        go_wp2
        go_roundg k1
        case measure=>have:=HK1.out;omega
        case rel=>exact ⟨(wrap64 (x5_1 - (ji17))),(wrap64 (x19_1 + 1)),(by first|rfl|(simp;done)|(simp only [← hji17]<;>(first|rfl|simp))|(simp [*];done)),byab,H',⟨byaj⟩,⟨byas HO_17.out⟩,⟨byaf BK662.out⟩,⟨byag GE662.out⟩⟩
       ·rw [if_neg c16] at H
        exact absurd H (by simp)
      ·rw [if_neg c15] at H
       exact absurd H (by simp)
     ·rw [if_neg c14] at H
      exact absurd H (by simp)
    ·rw [if_neg c13] at H
     have c13b0:=decide_eq_false c13
     clear c13
     obtain rfl:=Option.some.inj H
     go_wp2
     go_ret
     exact ⟨byam,byag GE662.out⟩
 ·replace c4:=Bool.eq_false_iff.mpr c4
  subst c4
  rw [if_neg (show ¬ (false = true) by decide)] at H
  obtain rfl:=Option.some.inj H
  go_enter Try.func18,Try.ntmps18
  go_wp2_with (first|((with_reducible refine qX (N:=2) rfl ?_);refine zD ?hg (N:=2) ?hd (cs:=#[.slice A0_0 l0_0.length c0_0]) (t:=25) ?hr ?_;(case hd=>rfl);(case hg=>rfl);(case hr=>exact byad);intro gb662 hg w18 hbox hb;have n_:=q_4 (qE byae hb) (hbox) ((byck : w.heap.size ≤ gb662)) ((byck : w.heap.size ≤ gb662));clear HB;obtain ⟨HB,BK662,GW662,GE662⟩:=n_;clear hb hbox hg)|((with_reducible refine qF (f:=36) rfl ?_);refine zC (some 9) rfl rfl Try.func36 (by kernel_rfl) rfl #[.int .i64 a1] rfl byac ?_;(with_reducible refine (zL.calls a1 false _ A3.out).mono ?_);rintro e w' ⟨rfl,⟨nd,rfl⟩⟩;refine ⟨_,rfl,?_⟩))
  go_ret
  exact ⟨byam,byag GE662.out⟩
end Go.Proofs.Ytoofabolcbbjnaa.P
