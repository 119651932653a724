/- Functions of the program as Lean functions, and the walks that show that the calls answer so; written by a program of this session (a changed print) and by hand. -/
import Derived.Test.YtoofabolcbbjnaaQaPx0
import Derived.Test.YtoofabolcbbjnaaQaPx3
import Derived.Test.YtoofabolcbbjnaaQaPx4
import Derived.Test.YtoofabolcbbjnaaQaPx5
namespace Go.Proofs.Ytoofabolcbbjnaa.P
open Go.RowKit Go.Proofs.YtoofabolcbbjnaaW.PrintWords Go.Proofs.YtoofabolcbbjnaaW.PrintLast Go.Proofs.YtoofabolcbbjnaaW.PrintMore
attribute [local go_sem] kR kP Qa Qc kE kD kQ kN
set_option linter.unusedVariables false
set_option linter.unusedSimpArgs false
mutual
def qW.j0 : Nat→Bool→Int→List Int→List (S49)→Option (Int)
 | 0,_,_,_,_=>none
 | k + 1,x24,x268000,x268001,x268002=>if x24 = true then (some 4) else (qW.l0 k x268001 (x268001.length : Int) 0 x268000 x268001 x268002)
def qW.l0 : Nat→List Int→Int→Int→Int→List Int→List (S49)→Option (Int)
 | 0,_,_,_,_,_,_=>none
 | k + 1,x26,x27,x28,x268000,x268001,x268002=>if x28 < x27 then (if 0 ≤ x28 then (if x28 < (x26.length : Int) then (if (rd x26 x28) < 0 then (some 5) else (if (rd x26 x28) ≥ 10 then (some 5) else (qW.l0 k x26 x27 (wrap64 (x28 + 1)) x268000 x268001 x268002))) else (none)) else (none)) else ((jC.f k x268001).bind fun bt269=>(if bt269.2 = 0 then (qW.l1 k x268002 (x268002.length : Int) 0) else (some bt269.2)))
def qW.l1 : Nat→List (S49)→Int→Int→Option (Int)
 | 0,_,_,_=>none
 | k + 1,x49,x50,x51=>if x51 < x50 then (if 0 ≤ x51 then (if x51 < (x49.length : Int) then ((qW.f k ((zB x49 x51).f0) ((zB x49 x51).f1) ((zB x49 x51).f2)).bind fun t273=>(if t273 = 0 then (qW.l1 k x49 x50 (wrap64 (x51 + 1))) else (some t273))) else (none)) else (none)) else (some 0)
def qW.f : Nat→Int→List Int→List (S49)→Option (Int)
 | 0,_,_,_=>none
 | k + 1,a0_0,l0_1,l0_2=>if a0_0 < 1 then (qW.j0 k true a0_0 l0_1 l0_2) else (qW.j0 k (decide (a0_0 > (wrap64 ((l0_1.length : Int) + (l0_2.length : Int))))) a0_0 l0_1 l0_2)
end
set_option maxHeartbeats 8000000 in
set_option maxRecDepth 100000 in
theorem qW.calls (k : Nat) : ∀ (a0_0 : Int) (A0_1 : Option Addr) (c0_1 : Nat) (l0_1 : List Int) (A0_2 : Option Addr) (c0_2 : Nat) (l0_2 : List (S49)) (r : Int) (w : World) (hr0_1 : Kd.C (Kd.int .i64) w A0_1 l0_1.length l0_1) (hc0_1 : l0_1.length ≤ c0_1) (hr0_2 : Kd.C k49 w A0_2 l0_2.length l0_2) (hc0_2 : l0_2.length ≤ c0_2) (h : qW.f k a0_0 l0_1 l0_2 = some r),
  Calls Try.prog 52 #[.agg #[.int .i64 a0_0,.slice A0_1 l0_1.length c0_1,.slice A0_2 l0_2.length c0_2]] w fun e w'=>e = .returned (.int .i64 r)∧Below w.heap.size w w':=by
 induction k using Nat.strongRecOn with
 | _ k ih =>
 intro a0_0 A0_1 c0_1 l0_1 A0_2 c0_2 l0_2 r w hr0_1 hc0_1 hr0_2 hc0_2 h
 cases k with
 | zero=>exact absurd h (by simp [qW.f])
 | succ k =>
 simp only [qW.f] at h
 have hu49:=Try.underlying49
 have HR0_1:=qA.mk hr0_1
 have HC0_1:=qA.mk hc0_1
 clear hr0_1 hc0_1
 have HR0_2:=qA.mk hr0_2
 have HC0_2:=qA.mk hc0_2
 clear hr0_2 hc0_2
 have HB:=qA.mk (Below.refl w.heap.size w)
 have H:=h
 clear h
 have HC2:=qA.mk H
 clear H
 go_enter Try.func52,Try.ntmps52
 go_upto_region 1 with (first|((with_reducible refine qX (N:=1) rfl ?_);(try (refine uB (by rfl) ?_;dsimp only));refine zD ?hg (N:=1) ?hd (cs:=#[.int .i64 a0_0,.slice A0_1 l0_1.length c0_1,.slice A0_2 l0_2.length c0_2]) (t:=49) ?hr ?_;(case hd=>rfl);(case hg=>rfl);(case hr=>exact byad);intro gb267 hg w3 hbox hb;have n_:=q_4 (qE byae hb) (hbox) ((byck : w.heap.size ≤ gb267)) ((byck : w.heap.size ≤ gb267));clear HB;obtain ⟨HB,BK267,GW267,GE267⟩:=n_;clear hb hbox hg))
 (try simp only [Act.put,List.setIfInBounds_toArray,List.set_cons_zero,List.set_cons_succ])
 go_cut [24] (fun v24 wc=>∃ (kq : Nat) (x24_1 : Bool),v24 = .bool x24_1∧qA (qW.j0 kq x24_1 a0_0 l0_1 l0_2 = some r)∧qA (kq ≤ k)∧qA (wc.heap[gb267]? = some (.cells #[.int .i64 a0_0,(.slice A0_1 l0_1.length c0_1),(.slice A0_2 l0_2.length c0_2)] 49 (0,0)))∧qA (Below w.heap.size w wc))
 case first =>
  have H:=HC2.out
  clear HC2
  by_cases c4 : a0_0 < 1
  ·rw [if_pos c4] at H
   have c4b0:=decide_eq_true c4
   clear c4
   (first|rw [c4b0]|(simp only [i64_w,i32_w];rw [c4b0])|skip)
   have H':=qA.mk H
   clear H
   obtain ⟨hcz5_0,hcz5_1,hcz5_2,hfz5_0,hfz5_1,hfz5_2⟩:=cz3 BK267.out
   go_wp2
   go_meet
   case rel=>exact ⟨_,(true),byab,H',⟨bybl⟩,⟨byaf BK267.out⟩,⟨byag GE267.out⟩⟩
  ·rw [if_neg c4] at H
   have c4b0:=decide_eq_false c4
   clear c4
   (first|rw [c4b0]|(simp only [i64_w,i32_w];rw [c4b0])|skip)
   have H':=qA.mk H
   clear H
   obtain ⟨hcz6_0,hcz6_1,hcz6_2,hfz6_0,hfz6_1,hfz6_2⟩:=cz3 BK267.out
   go_wp2
   go_meet
   case rel=>exact ⟨_,(decide (a0_0 > (wrap64 ((l0_1.length : Int) + (l0_2.length : Int))))),byab,H',⟨bybl⟩,⟨byaf BK267.out⟩,⟨byag GE267.out⟩⟩
 case rest =>
  clear HC2
  obtain ⟨kq,x24_1,rfl,HA,HJ1,BK267,HB⟩:=hcut
  cases kq with
  | zero=>exact absurd HA.out (by simp [qW.j0])
  | succ kj1 =>
   have H:=HA.out
   clear HA
   simp only [qW.j0] at H
   by_cases c7 : x24_1 = true
   ·subst c7
    rw [if_pos rfl] at H
    obtain rfl:=Option.some.inj H
    go_wp2
    go_ret
    exact ⟨byam,byag GE267.out⟩
   ·replace c7:=Bool.eq_false_iff.mpr c7
    subst c7
    rw [if_neg (show ¬ (false = true) by decide)] at H
    have H':=qA.mk H
    clear H
    obtain ⟨hcz8_0,hcz8_1,hcz8_2,hfz8_0,hfz8_1,hfz8_2⟩:=cz3 BK267.out
    go_wp2
    go_loopg [28] kj1 (fun kq v28 w'=>∃ (x28_2 : Int),v28 = .int .i64 x28_2∧qA (qW.l0 kq l0_1 (l0_1.length : Int) x28_2 a0_0 l0_1 l0_2 = some r)∧qA (kq ≤ kj1)∧qA (w'.heap[gb267]? = some (.cells #[.int .i64 a0_0,(.slice A0_1 l0_1.length c0_1),(.slice A0_2 l0_2.length c0_2)] 49 (0,0)))∧qA (Below w.heap.size w w'))
    case atStart=>exact ⟨(0),byab,H',⟨Nat.le_refl _⟩,⟨byaf BK267.out⟩,⟨byag GE267.out⟩⟩
    case round =>
     clear H'
     obtain ⟨x28_2,rfl,HA,HK2,BK267,HB⟩:=hrel
     cases gk with
     | zero=>exact absurd HA.out (by simp [qW.l0])
     | succ k2 =>
      have H:=HA.out
      clear HA
      simp only [qW.l0] at H
      by_cases c9 : x28_2 < (l0_1.length : Int)
      ·rw [if_pos c9] at H
       have c9b0:=decide_eq_true c9
       clear c9
       by_cases c10 : 0 ≤ x28_2
       ·rw [if_pos c10] at H
        have c10b0:=decide_eq_true c10
        clear c10
        by_cases c11 : x28_2 < (l0_1.length : Int)
        ·rw [if_pos c11] at H
         have c11b0:=decide_eq_true c11
         clear c11
         by_cases c12 : (rd l0_1 x28_2) < 0
         ·rw [if_pos c12] at H
          have c12b0:=decide_eq_true c12
          clear c12
          obtain rfl:=Option.some.inj H
          have p268 : 0 ≤ (x28_2 : Int):=of_decide_eq_true byah
          have q268 : x28_2 < (l0_1.length : Int):=of_decide_eq_true byah
          obtain ⟨ad268,e268,hx268_0⟩:=Kd.uV HR0_1.out x28_2 p268 q268
          cases e268
          replace hx268_0:=(HB.out.cell (World.block_lt_of_cell? w _ hx268_0)).trans hx268_0
          replace p268:=eq_true p268
          replace q268:=eq_true q268
          go_wp2
          go_ret
          exact ⟨byam,byag GE267.out⟩
         ·rw [if_neg c12] at H
          have c12b0:=decide_eq_false c12
          clear c12
          by_cases c13 : (rd l0_1 x28_2) ≥ 10
          ·rw [if_pos c13] at H
           have c13b0:=decide_eq_true c13
           clear c13
           obtain rfl:=Option.some.inj H
           have p268 : 0 ≤ (x28_2 : Int):=of_decide_eq_true byah
           have q268 : x28_2 < (l0_1.length : Int):=of_decide_eq_true byah
           obtain ⟨ad268,e268,hx268_0⟩:=Kd.uV HR0_1.out x28_2 p268 q268
           cases e268
           replace hx268_0:=(HB.out.cell (World.block_lt_of_cell? w _ hx268_0)).trans hx268_0
           replace p268:=eq_true p268
           replace q268:=eq_true q268
           go_wp2
           go_ret
           exact ⟨byam,byag GE267.out⟩
          ·rw [if_neg c13] at H
           have c13b0:=decide_eq_false c13
           clear c13
           have H':=qA.mk H
           clear H
           have p268 : 0 ≤ (x28_2 : Int):=of_decide_eq_true byah
           have q268 : x28_2 < (l0_1.length : Int):=of_decide_eq_true byah
           obtain ⟨ad268,e268,hx268_0⟩:=Kd.uV HR0_1.out x28_2 p268 q268
           cases e268
           replace hx268_0:=(HB.out.cell (World.block_lt_of_cell? w _ hx268_0)).trans hx268_0
           replace p268:=eq_true p268
           replace q268:=eq_true q268
           go_wp2
           go_roundg k2
           case measure=>have:=HJ1.out;have:=HK2.out;omega
           case rel=>exact ⟨(wrap64 (x28_2 + 1)),byab,H',⟨by have:=HJ1.out;have:=HK2.out;omega⟩,⟨byaf BK267.out⟩,⟨byag GE267.out⟩⟩
        ·rw [if_neg c11] at H
         exact absurd H (by simp)
       ·rw [if_neg c10] at H
        exact absurd H (by simp)
      ·rw [if_neg c9] at H
       have c9b0:=decide_eq_false c9
       clear c9
       replace H:=Option.bind_eq_some_iff.mp H
       obtain ⟨⟨t269,t270⟩,A140,H⟩:=H
       try dsimp only at H
       have A14:=qA.mk A140
       clear A140
       by_cases c15 : t270 = 0
       ·rw [if_pos c15] at H
        obtain ⟨c15b0,c15b1⟩:=eqT c15
        clear c15
        have H':=qA.mk H
        clear H
        obtain ⟨hcz16_0,hcz16_1,hcz16_2,hfz16_0,hfz16_1,hfz16_2⟩:=cz3 BK267.out
        go_wp2_with (first|((with_reducible refine qF (f:=53) rfl ?_);refine zC (some 42) rfl rfl Try.func53 (by kernel_rfl) rfl #[.slice A0_1 l0_1.length c0_1] rfl byac ?_;(with_reducible refine (jC.calls k2 _ _ l0_1 t269 t270 _ ?side1 ?side2 A14.out).mono ?_);(case side1=>exact byan HR0_1.out);(case side2=>exact HC0_1.out);rintro e w' ⟨rfl,⟨nd,rfl⟩⟩;refine ⟨_,rfl,?_⟩))
        go_loopg [51] k2 (fun kq v51 w'=>∃ (x51_3 : Int),v51 = .int .i64 x51_3∧qA (qW.l1 kq l0_2 (l0_2.length : Int) x51_3 = some r)∧qA (kq ≤ k2)∧qA (w'.heap[gb267]? = some (.cells #[.int .i64 a0_0,(.slice A0_1 l0_1.length c0_1),(.slice A0_2 l0_2.length c0_2)] 49 (0,0)))∧qA (Below w.heap.size w w'))
        case atStart=>exact ⟨(0),byab,H',⟨Nat.le_refl _⟩,⟨byaf BK267.out⟩,⟨byag GE267.out⟩⟩
        case round =>
         clear H'
         try clear hx2
         try clear hx268_0
         obtain ⟨x51_3,rfl,HA,HK3,BK267,HB⟩:=hrel
         cases gk with
         | zero=>exact absurd HA.out (by simp [qW.l1])
         | succ k3 =>
          have H:=HA.out
          clear HA
          simp only [qW.l1] at H
          by_cases c17 : x51_3 < (l0_2.length : Int)
          ·rw [if_pos c17] at H
           have c17b0:=decide_eq_true c17
           clear c17
           by_cases c18 : 0 ≤ x51_3
           ·rw [if_pos c18] at H
            have c18b0:=decide_eq_true c18
            clear c18
            by_cases c19 : x51_3 < (l0_2.length : Int)
            ·rw [if_pos c19] at H
             have c19b0:=decide_eq_true c19
             clear c19
             replace H:=Option.bind_eq_some_iff.mp H
             obtain ⟨t273,A200,H⟩:=H
             try dsimp only at H
             have A20:=qA.mk A200
             clear A200
             by_cases c21 : t273 = 0
             ·rw [if_pos c21] at H
              obtain ⟨c21b0,c21b1⟩:=eqT c21
              clear c21
              have H':=qA.mk H
              clear H
              have p271 : 0 ≤ (x51_3 : Int):=of_decide_eq_true byah
              have q271 : x51_3 < (l0_2.length : Int):=of_decide_eq_true byah
              obtain ⟨ad271,A271_1,c271_1,A271_2,c271_2,e271,hx271_0,hx271_1,hx271_2,hl271_1,hi271_1,hl271_2,hi271_2⟩:=at_T49 HR0_2.out x51_3 p271 q271
              cases e271
              replace hx271_0:=(HB.out.cell (World.block_lt_of_cell? w _ hx271_0)).trans hx271_0
              replace hx271_1:=(HB.out.cell (World.block_lt_of_cell? w _ hx271_1)).trans hx271_1
              replace hx271_2:=(HB.out.cell (World.block_lt_of_cell? w _ hx271_2)).trans hx271_2
              have HR271_1:=qA.mk hi271_1
              have HC271_1:=qA.mk hl271_1
              clear hi271_1 hl271_1
              have HR271_2:=qA.mk hi271_2
              have HC271_2:=qA.mk hl271_2
              clear hi271_2 hl271_2
              replace p271:=eq_true p271
              replace q271:=eq_true q271
              go_wp2_with (first|((with_reducible refine qX (N:=8) rfl ?_);(try (refine uB (by rfl) ?_;dsimp only));refine zD ?hg (N:=8) ?hd (cs:=#[.int .i64 0,.slice none 0 0,.slice none 0 0]) (t:=49) ?hr ?_;(case hd=>rfl);(case hg=>rfl);(case hr=>exact byad);intro gb272 hg w22 hbox hb;have n_:=q_6 (qI BK267.out hb) (qE (byag GE267.out) hb) (hbox) ((bycl GE267.out : w.heap.size ≤ gb272)) ((bycl GE267.out : w.heap.size ≤ gb272)) ((by rw [hg];exact Nat.ne_of_lt (vH BK267.out) : gb267≠gb272));clear BK267 HB;obtain ⟨BK267,HB,BK272,GW272,GE272,NB267_272⟩:=n_;have NB272_267:=ns NB267_272;clear hb hbox hg;have hnb23:=NB272_267.out;have hnc23:=NB267_272.out;obtain ⟨hcz24_0,hcz24_1,hcz24_2,hfz24_0,hfz24_1,hfz24_2⟩:=cz3 BK272.out)|((with_reducible refine qF (f:=52) rfl ?_);refine zC (some 56) rfl rfl Try.func52 (by kernel_rfl) rfl #[.agg #[.int .i64 ((zB l0_2 x51_3).f0),.slice A271_1 ((zB l0_2 x51_3).f1).length c271_1,.slice A271_2 ((zB l0_2 x51_3).f2).length c271_2]] rfl byac ?_;(with_reducible refine (ih k3 (by have:=HJ1.out;have:=HK2.out;have:=HK3.out;omega) ((zB l0_2 x51_3).f0) _ _ ((zB l0_2 x51_3).f1) _ _ ((zB l0_2 x51_3).f2) t273 _ ?side1 ?side2 ?side3 ?side4 A20.out).mono ?_);(case side1=>exact Kd.uX HR271_1.out (byal GE267.out GE272.out));(case side2=>exact HC271_1.out);(case side3=>exact Kd.uX HR271_2.out (byal GE267.out GE272.out));(case side4=>exact HC271_2.out);rintro e w25 ⟨rfl,hb⟩;refine ⟨_,rfl,?_⟩;have n_:=q_3 (uA (g:=gb267) (o:=.cells #[.int .i64 a0_0,.slice A0_1 l0_1.length c0_1,.slice (some ad271) l0_2.length c0_2] 49 (0,0)) (byaq NB267_272.out BK267.out) hb) (uA (g:=gb272) (o:=.cells #[.int .i64 ((zB l0_2 x51_3).f0),.slice A271_1 ((zB l0_2 x51_3).f1).length c271_1,.slice A271_2 ((zB l0_2 x51_3).f2).length c271_2] 49 (0,0)) (by (with_reducible repeat (first|refine qH ?_ _|refine qJ ?_|refine qG ?_ _));refine zG (cs:=#[.int .i64 ((zB l0_2 x51_3).f0),.slice A271_1 ((zB l0_2 x51_3).f1).length c271_1,.slice none 0 0]) ?_ 2 _ rfl;(with_reducible repeat (first|refine qH ?_ _|refine qJ ?_|refine qG ?_ _));refine zG (cs:=#[.int .i64 ((zB l0_2 x51_3).f0),.slice none 0 0,.slice none 0 0]) ?_ 1 _ rfl;(with_reducible repeat (first|refine qH ?_ _|refine qJ ?_|refine qG ?_ _));refine zG (cs:=#[.int .i64 0,.slice none 0 0,.slice none 0 0]) ?_ 0 _ rfl;(with_reducible repeat (first|refine qH ?_ _|refine qJ ?_|refine qG ?_ _));exact BK272.out) hb) (qE (byal GE267.out GE272.out) hb);clear BK267 BK272 HB;obtain ⟨BK267,BK272,HB⟩:=n_;clear hb))
              go_roundg k3
              case measure=>have:=HJ1.out;have:=HK2.out;have:=HK3.out;omega
              case rel=>exact ⟨(wrap64 (x51_3 + 1)),byab,H',⟨by have:=HJ1.out;have:=HK2.out;have:=HK3.out;omega⟩,⟨byaf BK267.out⟩,⟨byal GE267.out GE272.out⟩⟩
             ·rw [if_neg c21] at H
              obtain ⟨c21b0,c21b1⟩:=eqF c21
              obtain rfl:=Option.some.inj H
              have p271 : 0 ≤ (x51_3 : Int):=of_decide_eq_true byah
              have q271 : x51_3 < (l0_2.length : Int):=of_decide_eq_true byah
              obtain ⟨ad271,A271_1,c271_1,A271_2,c271_2,e271,hx271_0,hx271_1,hx271_2,hl271_1,hi271_1,hl271_2,hi271_2⟩:=at_T49 HR0_2.out x51_3 p271 q271
              cases e271
              replace hx271_0:=(HB.out.cell (World.block_lt_of_cell? w _ hx271_0)).trans hx271_0
              replace hx271_1:=(HB.out.cell (World.block_lt_of_cell? w _ hx271_1)).trans hx271_1
              replace hx271_2:=(HB.out.cell (World.block_lt_of_cell? w _ hx271_2)).trans hx271_2
              have HR271_1:=qA.mk hi271_1
              have HC271_1:=qA.mk hl271_1
              clear hi271_1 hl271_1
              have HR271_2:=qA.mk hi271_2
              have HC271_2:=qA.mk hl271_2
              clear hi271_2 hl271_2
              replace p271:=eq_true p271
              replace q271:=eq_true q271
              go_wp2_with (first|((with_reducible refine qX (N:=8) rfl ?_);(try (refine uB (by rfl) ?_;dsimp only));refine zD ?hg (N:=8) ?hd (cs:=#[.int .i64 0,.slice none 0 0,.slice none 0 0]) (t:=49) ?hr ?_;(case hd=>rfl);(case hg=>rfl);(case hr=>exact byad);intro gb272 hg w26 hbox hb;have n_:=q_6 (qI BK267.out hb) (qE (byag GE267.out) hb) (hbox) ((bycl GE267.out : w.heap.size ≤ gb272)) ((bycl GE267.out : w.heap.size ≤ gb272)) ((by rw [hg];exact Nat.ne_of_lt (vH BK267.out) : gb267≠gb272));clear BK267 HB;obtain ⟨BK267,HB,BK272,GW272,GE272,NB267_272⟩:=n_;have NB272_267:=ns NB267_272;clear hb hbox hg;have hnb27:=NB272_267.out;have hnc27:=NB267_272.out;obtain ⟨hcz28_0,hcz28_1,hcz28_2,hfz28_0,hfz28_1,hfz28_2⟩:=cz3 BK272.out)|((with_reducible refine qF (f:=52) rfl ?_);refine zC (some 56) rfl rfl Try.func52 (by kernel_rfl) rfl #[.agg #[.int .i64 ((zB l0_2 x51_3).f0),.slice A271_1 ((zB l0_2 x51_3).f1).length c271_1,.slice A271_2 ((zB l0_2 x51_3).f2).length c271_2]] rfl byac ?_;(with_reducible refine (ih k3 (by have:=HJ1.out;have:=HK2.out;have:=HK3.out;omega) ((zB l0_2 x51_3).f0) _ _ ((zB l0_2 x51_3).f1) _ _ ((zB l0_2 x51_3).f2) t273 _ ?side1 ?side2 ?side3 ?side4 A20.out).mono ?_);(case side1=>exact Kd.uX HR271_1.out (byal GE267.out GE272.out));(case side2=>exact HC271_1.out);(case side3=>exact Kd.uX HR271_2.out (byal GE267.out GE272.out));(case side4=>exact HC271_2.out);rintro e w29 ⟨rfl,hb⟩;refine ⟨_,rfl,?_⟩;have n_:=q_3 (uA (g:=gb267) (o:=.cells #[.int .i64 a0_0,.slice A0_1 l0_1.length c0_1,.slice (some ad271) l0_2.length c0_2] 49 (0,0)) (byaq NB267_272.out BK267.out) hb) (uA (g:=gb272) (o:=.cells #[.int .i64 ((zB l0_2 x51_3).f0),.slice A271_1 ((zB l0_2 x51_3).f1).length c271_1,.slice A271_2 ((zB l0_2 x51_3).f2).length c271_2] 49 (0,0)) (by (with_reducible repeat (first|refine qH ?_ _|refine qJ ?_|refine qG ?_ _));refine zG (cs:=#[.int .i64 ((zB l0_2 x51_3).f0),.slice A271_1 ((zB l0_2 x51_3).f1).length c271_1,.slice none 0 0]) ?_ 2 _ rfl;(with_reducible repeat (first|refine qH ?_ _|refine qJ ?_|refine qG ?_ _));refine zG (cs:=#[.int .i64 ((zB l0_2 x51_3).f0),.slice none 0 0,.slice none 0 0]) ?_ 1 _ rfl;(with_reducible repeat (first|refine qH ?_ _|refine qJ ?_|refine qG ?_ _));refine zG (cs:=#[.int .i64 0,.slice none 0 0,.slice none 0 0]) ?_ 0 _ rfl;(with_reducible repeat (first|refine qH ?_ _|refine qJ ?_|refine qG ?_ _));exact BK272.out) hb) (qE (byal GE267.out GE272.out) hb);clear BK267 BK272 HB;obtain ⟨BK267,BK272,HB⟩:=n_;clear hb))
              go_ret
              exact ⟨byam,byal GE267.out GE272.out⟩
            ·rw [if_neg c19] at H
             exact absurd H (by simp)
           ·rw [if_neg c18] at H
            exact absurd H (by simp)
          ·rw [if_neg c17] at H
           have c17b0:=decide_eq_false c17
           clear c17
           obtain rfl:=Option.some.inj H
           go_wp2
           go_ret
           exact ⟨byam,byag GE267.out⟩
       ·rw [if_neg c15] at H
        obtain ⟨c15b0,c15b1⟩:=eqF c15
        obtain rfl:=Option.some.inj H
        obtain ⟨hcz30_0,hcz30_1,hcz30_2,hfz30_0,hfz30_1,hfz30_2⟩:=cz3 BK267.out
        go_wp2_with (first|((with_reducible refine qF (f:=53) rfl ?_);refine zC (some 42) rfl rfl Try.func53 (by kernel_rfl) rfl #[.slice A0_1 l0_1.length c0_1] rfl byac ?_;(with_reducible refine (jC.calls k2 _ _ l0_1 t269 t270 _ ?side1 ?side2 A14.out).mono ?_);(case side1=>exact byan HR0_1.out);(case side2=>exact HC0_1.out);rintro e w' ⟨rfl,⟨nd,rfl⟩⟩;refine ⟨_,rfl,?_⟩))
        go_ret
        exact ⟨byam,byag GE267.out⟩
def uC.f (k : Nat) (a0_0 : Int) (l0_1 : List Int) (l0_2 : List (S49)) : Option (Int):=(jA.f k a0_0 l0_1 l0_2).bind fun t275=>(if t275 > 4 then (some 3) else ((jB.f k a0_0 l0_1 l0_2).bind fun t276=>(if t276 > 200 then (some 3) else ((qW.f k a0_0 l0_1 l0_2).bind fun t277=>(some t277)))))
set_option maxHeartbeats 8000000 in
set_option maxRecDepth 100000 in
theorem uC.calls (k : Nat) (a0_0 : Int) (A0_1 : Option Addr) (c0_1 : Nat) (l0_1 : List Int) (A0_2 : Option Addr) (c0_2 : Nat) (l0_2 : List (S49)) (r : Int) (w : World) (hr0_1 : Kd.C (Kd.int .i64) w A0_1 l0_1.length l0_1) (hc0_1 : l0_1.length ≤ c0_1) (hr0_2 : Kd.C k49 w A0_2 l0_2.length l0_2) (hc0_2 : l0_2.length ≤ c0_2) (h : uC.f k a0_0 l0_1 l0_2 = some r) :
  Calls Try.prog 46 #[.agg #[.int .i64 a0_0,.slice A0_1 l0_1.length c0_1,.slice A0_2 l0_2.length c0_2]] w fun e w'=>e = .returned (.int .i64 r)∧Below w.heap.size w w':=by
 have hu49:=Try.underlying49
 have HR0_1:=qA.mk hr0_1
 have HC0_1:=qA.mk hc0_1
 clear hr0_1 hc0_1
 have HR0_2:=qA.mk hr0_2
 have HC0_2:=qA.mk hc0_2
 clear hr0_2 hc0_2
 have HB:=qA.mk (Below.refl w.heap.size w)
 unfold uC.f at h
 have H:=h
 clear h
 replace H:=Option.bind_eq_some_iff.mp H
 obtain ⟨t275,A20,H⟩:=H
 try dsimp only at H
 have A2:=qA.mk A20
 clear A20
 by_cases c3 : t275 > 4
 ·rw [if_pos c3] at H
  have c3b0:=decide_eq_true c3
  clear c3
  obtain rfl:=Option.some.inj H
  go_enter Try.func46,Try.ntmps46
  go_wp2_with (first|((with_reducible refine qX (N:=1) rfl ?_);refine zD ?hg (N:=1) ?hd (cs:=#[.int .i64 a0_0,.slice A0_1 l0_1.length c0_1,.slice A0_2 l0_2.length c0_2]) (t:=49) ?hr ?_;(case hd=>rfl);(case hg=>rfl);(case hr=>exact byad);intro gb274 hg w4 hbox hb;have n_:=q_4 (qE byae hb) (hbox) ((byck : w.heap.size ≤ gb274)) ((byck : w.heap.size ≤ gb274));clear HB;obtain ⟨HB,BK274,GW274,GE274⟩:=n_;clear hb hbox hg;obtain ⟨hcz5_0,hcz5_1,hcz5_2,hfz5_0,hfz5_1,hfz5_2⟩:=cz3 BK274.out)|((with_reducible refine qF (f:=50) rfl ?_);refine zC (some 4) rfl rfl Try.func50 (by kernel_rfl) rfl #[.agg #[.int .i64 a0_0,.slice A0_1 l0_1.length c0_1,.slice A0_2 l0_2.length c0_2]] rfl byac ?_;(with_reducible refine (jA.calls k a0_0 _ _ l0_1 _ _ l0_2 t275 _ ?side1 ?side2 ?side3 ?side4 A2.out).mono ?_);(case side1=>exact byan HR0_1.out);(case side2=>exact HC0_1.out);(case side3=>exact byan HR0_2.out);(case side4=>exact HC0_2.out);rintro e w6 ⟨rfl,hb⟩;refine ⟨_,rfl,?_⟩;have n_:=q_2 (qI BK274.out hb) (qE (byag GE274.out) hb);clear BK274 HB;obtain ⟨BK274,HB⟩:=n_;clear hb))
  go_ret
  exact ⟨byam,byag GE274.out⟩
 ·rw [if_neg c3] at H
  have c3b0:=decide_eq_false c3
  clear c3
  replace H:=Option.bind_eq_some_iff.mp H
  obtain ⟨t276,A70,H⟩:=H
  try dsimp only at H
  have A7:=qA.mk A70
  clear A70
  by_cases c8 : t276 > 200
  ·rw [if_pos c8] at H
   have c8b0:=decide_eq_true c8
   clear c8
   obtain rfl:=Option.some.inj H
   go_enter Try.func46,Try.ntmps46
   go_wp2_with (first|((with_reducible refine qX (N:=1) rfl ?_);refine zD ?hg (N:=1) ?hd (cs:=#[.int .i64 a0_0,.slice A0_1 l0_1.length c0_1,.slice A0_2 l0_2.length c0_2]) (t:=49) ?hr ?_;(case hd=>rfl);(case hg=>rfl);(case hr=>exact byad);intro gb274 hg w9 hbox hb;have n_:=q_4 (qE byae hb) (hbox) ((byck : w.heap.size ≤ gb274)) ((byck : w.heap.size ≤ gb274));clear HB;obtain ⟨HB,BK274,GW274,GE274⟩:=n_;clear hb hbox hg;obtain ⟨hcz10_0,hcz10_1,hcz10_2,hfz10_0,hfz10_1,hfz10_2⟩:=cz3 BK274.out)|((with_reducible refine qF (f:=50) rfl ?_);refine zC (some 4) rfl rfl Try.func50 (by kernel_rfl) rfl #[.agg #[.int .i64 a0_0,.slice A0_1 l0_1.length c0_1,.slice A0_2 l0_2.length c0_2]] rfl byac ?_;(with_reducible refine (jA.calls k a0_0 _ _ l0_1 _ _ l0_2 t275 _ ?side1 ?side2 ?side3 ?side4 A2.out).mono ?_);(case side1=>exact byan HR0_1.out);(case side2=>exact HC0_1.out);(case side3=>exact byan HR0_2.out);(case side4=>exact HC0_2.out);rintro e w11 ⟨rfl,hb⟩;refine ⟨_,rfl,?_⟩;have n_:=q_2 (qI BK274.out hb) (qE (byag GE274.out) hb);clear BK274 HB;obtain ⟨BK274,HB⟩:=n_;clear hb;obtain ⟨hcz12_0,hcz12_1,hcz12_2,hfz12_0,hfz12_1,hfz12_2⟩:=cz3 BK274.out)|(go_at_call 51;(with_reducible refine (jB.calls k a0_0 _ _ l0_1 _ _ l0_2 t276 _ ?side1 ?side2 ?side3 ?side4 A7.out).mono ?_);(case side1=>exact byan HR0_1.out);(case side2=>exact HC0_1.out);(case side3=>exact byan HR0_2.out);(case side4=>exact HC0_2.out);rintro e w13 ⟨rfl,hb⟩;have n_:=q_2 (qI BK274.out hb) (qE (byag GE274.out) hb);clear BK274 HB;obtain ⟨BK274,HB⟩:=n_;clear hb))
   go_ret
   exact ⟨byam,byag GE274.out⟩
  ·rw [if_neg c8] at H
   have c8b0:=decide_eq_false c8
   clear c8
   replace H:=Option.bind_eq_some_iff.mp H
   obtain ⟨t277,A140,H⟩:=H
   try dsimp only at H
   have A14:=qA.mk A140
   clear A140
   obtain rfl:=Option.some.inj H
   go_enter Try.func46,Try.ntmps46
   go_wp2_with (first|((with_reducible refine qX (N:=1) rfl ?_);refine zD ?hg (N:=1) ?hd (cs:=#[.int .i64 a0_0,.slice A0_1 l0_1.length c0_1,.slice A0_2 l0_2.length c0_2]) (t:=49) ?hr ?_;(case hd=>rfl);(case hg=>rfl);(case hr=>exact byad);intro gb274 hg w15 hbox hb;have n_:=q_4 (qE byae hb) (hbox) ((byck : w.heap.size ≤ gb274)) ((byck : w.heap.size ≤ gb274));clear HB;obtain ⟨HB,BK274,GW274,GE274⟩:=n_;clear hb hbox hg;obtain ⟨hcz16_0,hcz16_1,hcz16_2,hfz16_0,hfz16_1,hfz16_2⟩:=cz3 BK274.out)|((with_reducible refine qF (f:=50) rfl ?_);refine zC (some 4) rfl rfl Try.func50 (by kernel_rfl) rfl #[.agg #[.int .i64 a0_0,.slice A0_1 l0_1.length c0_1,.slice A0_2 l0_2.length c0_2]] rfl byac ?_;(with_reducible refine (jA.calls k a0_0 _ _ l0_1 _ _ l0_2 t275 _ ?side1 ?side2 ?side3 ?side4 A2.out).mono ?_);(case side1=>exact byan HR0_1.out);(case side2=>exact HC0_1.out);(case side3=>exact byan HR0_2.out);(case side4=>exact HC0_2.out);rintro e w17 ⟨rfl,hb⟩;refine ⟨_,rfl,?_⟩;have n_:=q_2 (qI BK274.out hb) (qE (byag GE274.out) hb);clear BK274 HB;obtain ⟨BK274,HB⟩:=n_;clear hb;obtain ⟨hcz18_0,hcz18_1,hcz18_2,hfz18_0,hfz18_1,hfz18_2⟩:=cz3 BK274.out)|(go_at_call 51;(with_reducible refine (jB.calls k a0_0 _ _ l0_1 _ _ l0_2 t276 _ ?side1 ?side2 ?side3 ?side4 A7.out).mono ?_);(case side1=>exact byan HR0_1.out);(case side2=>exact HC0_1.out);(case side3=>exact byan HR0_2.out);(case side4=>exact HC0_2.out);rintro e w19 ⟨rfl,hb⟩;have n_:=q_2 (qI BK274.out hb) (qE (byag GE274.out) hb);clear BK274 HB;obtain ⟨BK274,HB⟩:=n_;clear hb;obtain ⟨hcz20_0,hcz20_1,hcz20_2,hfz20_0,hfz20_1,hfz20_2⟩:=cz3 BK274.out)|((with_reducible refine qF (f:=52) rfl ?_);refine zC (some 12) rfl rfl Try.func52 (by kernel_rfl) rfl #[.agg #[.int .i64 a0_0,.slice A0_1 l0_1.length c0_1,.slice A0_2 l0_2.length c0_2]] rfl byac ?_;(with_reducible refine (qW.calls k a0_0 _ _ l0_1 _ _ l0_2 t277 _ ?side1 ?side2 ?side3 ?side4 A14.out).mono ?_);(case side1=>exact byan HR0_1.out);(case side2=>exact HC0_1.out);(case side3=>exact byan HR0_2.out);(case side4=>exact HC0_2.out);rintro e w21 ⟨rfl,hb⟩;refine ⟨_,rfl,?_⟩;have n_:=q_2 (qI BK274.out hb) (qE (byag GE274.out) hb);clear BK274 HB;obtain ⟨BK274,HB⟩:=n_;clear hb))
   go_ret
   exact ⟨byam,byag GE274.out⟩
def uF.f (k : Nat) (s0_0 : List Int) (s0_1 : Int) (a1 : Int) (a2 : Int) : Option (Int × List Int × (List (S49)) × Int):=(qQ.f k s0_0 s0_1 a1 a2).bind fun bt279=>((uC.f k bt279.1 bt279.2.1 bt279.2.2.1).bind fun t288=>(if t288 = 0 then (some (bt279.1,bt279.2.1,bt279.2.2.1,bt279.2.2.2)) else ((qK.f s0_0 bt279.2.2.2 a1).bind fun bt289=>(some (1,(([bt289.1] : List Int)),([] : List (S49)),bt289.2)))))
set_option maxHeartbeats 8000000 in
set_option maxRecDepth 100000 in
theorem uF.calls (k : Nat) (g : Nat) (s0_0 : List Int) (s0_1 : Int) (a1 : Int) (a2 : Int) (r1 : Int) (r2 : List Int) (r3 : List (S49)) (r4 : Int) (w0 w : World) (hI : qB w0 w g s0_0 s0_1) (hB : Below w0.heap.size w0 w) (h : uF.f k s0_0 s0_1 a1 a2 = some (r1,r2,r3,r4)) :
  Calls Try.prog 31 #[.pointer (some ⟨g,0,none⟩),.int .i64 a1,.int .i64 a2] w fun e w'=>∃ v1_ v2_ : Value,e = .returned (.agg #[.int .i64 r1,v1_,v2_])∧Kd.R (Kd.int .i64) 3 w' w.heap.size (fun _=>True) v1_ r2∧Kd.R k49 49 w' w.heap.size (fun k_=>some k_≠(v1_ : Value).ownBlock) v2_ r3∧qB w0 w' g s0_0 r4∧Below w0.heap.size w0 w'∧qC w w' g none:=by
 have hu49:=Try.underlying49
 have HI0:=qA.mk hI
 have HK:=qA.mk (qC.refl w g none)
 have HL:=qA.mk hB.size
 clear hI
 have HW0:=qA.mk hB.size
 have HB:=qA.mk hB
 clear hB
 unfold uF.f at h
 have H:=h
 clear h
 replace H:=Option.bind_eq_some_iff.mp H
 obtain ⟨⟨t279,t280,t283,t286⟩,A40,H⟩:=H
 try dsimp only at H
 have A4:=qA.mk A40
 clear A40
 replace H:=Option.bind_eq_some_iff.mp H
 obtain ⟨t288,A50,H⟩:=H
 try dsimp only at H
 have A5:=qA.mk A50
 clear A50
 by_cases c6 : t288 = 0
 ·rw [if_pos c6] at H
  obtain ⟨c6b0,c6b1⟩:=eqT c6
  clear c6
  simp only [Option.some.injEq,Prod.mk.injEq] at H
  obtain ⟨rfl,rfl,rfl,rfl⟩:=H
  go_enter Try.func31,Try.ntmps31
  go_wp2_with (first|((with_reducible refine qX (N:=6) rfl ?_);refine zD ?hg (N:=6) ?hd (cs:=#[.int .i64 0,.slice none 0 0,.slice none 0 0]) (t:=49) ?hr ?_;(case hd=>rfl);(case hg=>rfl);(case hr=>exact byad);intro gb278 hg w7 hbox hb;have n_:=q_7 (qB.below (byaz HI0.out) hb) (qC.trans bybb (qC.of_below hb g none) (.inl rfl)) (qE (byba HI0.out) hb) (hbox) ((byco : w.heap.size ≤ gb278)) ((Nat.le_trans HW0.out (byco : w.heap.size ≤ gb278) : w0.heap.size ≤ gb278)) ((by rw [hg];exact Nat.ne_of_lt (qB.lt (show qB w0 _ g s0_0 s0_1 from by repeat (first|(with_reducible first|exact HI0.out|apply qB.alloc|apply qB.drewN|apply qB.drew|apply qB.jO)|exact HI0.out))) : g≠gb278));clear HI0 HK HB;obtain ⟨HI0,HK,HB,BK278,GW278,GE278,NB0_278⟩:=n_;have NB278_0:=ns NB0_278;clear hb hbox hg)|((with_reducible refine qF (f:=45) rfl ?_);refine zC (some 11) rfl rfl Try.func45 (by kernel_rfl) rfl #[.pointer (some ⟨g,0,none⟩),.int .i64 a1,.int .i64 a2] rfl byac ?_;(with_reducible refine (qQ.calls k g s0_0 s0_1 a1 a2 t279 t280 t283 t286 w0 _ ?side1 ?side2 A4.out).mono ?_);(case side1=>exact bybc HI0.out NB0_278.out);(case side2=>exact bybe HI0.out GE278.out);rintro e w8 ⟨v281,v284,rfl,ho0,ho1,hi,hb,hk⟩;refine ⟨_,rfl,?_⟩;have n_:=q_6 (qC.blkB hk BK278.out NB278_0.out (by simp)) (Kd.vG ho0 (qY (w:=w) (g:=g) (row:=none) (bybd GW278.out))) (Kd.vG (Kd.R_newB ho1 (g:=gb278) (o:=.cells #[.int .i64 0,.slice none 0 0,.slice none 0 0] 49 (0,0)) (byaf BK278.out)) (qY (w:=w) (g:=g) (row:=none) (bybd GW278.out))) (qC.trans (bybd GW278.out) hk (.inl rfl)) (hb) (hi);clear BK278 HK HB HI0;obtain ⟨BK278,HO282,HO285,HK,HB,HI0⟩:=n_;clear hb hk hi;(try clear ho0);(try clear ho1))|((with_reducible refine qX (N:=7) rfl ?_);refine zD ?hg (N:=7) ?hd (cs:=#[.int .i64 0,.slice none 0 0,.slice none 0 0]) (t:=49) ?hr ?_;(case hd=>rfl);(case hg=>rfl);(case hr=>exact byad);intro gb287 hg w9 hbox hb;have n_:=q_11 (Kd.jH (byas HO282.out) hb) (Kd.jH (Kd.Qx (byas HO285.out) gb287 (Nat.le_of_eq hg.symm)) hb) (qB.below (bybc HI0.out NB0_278.out) hb) (qI BK278.out hb) (qC.trans (bybd GW278.out) (qC.of_below hb g none) (.inl rfl)) (qE (bybe HI0.out GE278.out) hb) (hbox) ((bycp GW278.out : w.heap.size ≤ gb287)) ((Nat.le_trans HW0.out (bycp GW278.out : w.heap.size ≤ gb287) : w0.heap.size ≤ gb287)) ((by rw [hg];exact Nat.ne_of_lt (vH BK278.out) : gb278≠gb287)) ((by rw [hg];exact Nat.ne_of_lt (qB.lt (show qB w0 _ g s0_0 t286 from by repeat (first|(with_reducible first|exact HI0.out|apply qB.alloc|apply qB.drewN|apply qB.drew|apply qB.jO|refine qB.far ?_ NB0_278.out _)|exact HI0.out))) : g≠gb287));clear HO282 HO285 HI0 BK278 HK HB;obtain ⟨HO282,HO285,HI0,BK278,HK,HB,BK287,GW287,GE287,NB278_287,NB0_287⟩:=n_;have NB287_278:=ns NB278_287;have NB287_0:=ns NB0_287;clear hb hbox hg;have hnb10:=NB287_278.out;have hnc10:=NB278_287.out;have hnb11:=NB287_0.out;have hnc11:=NB0_287.out;obtain ⟨hcz12_0,hcz12_1,hcz12_2,hfz12_0,hfz12_1,hfz12_2⟩:=cz3 BK287.out;obtain ⟨Ao13,co13,eo13⟩:=Kd.jI HO282.out;subst eo13;obtain ⟨Ao14,co14,eo14⟩:=Kd.jI HO285.out;subst eo14)|((with_reducible refine qF (f:=46) rfl ?_);refine zC (some 13) rfl rfl Try.func46 (by kernel_rfl) rfl #[.agg #[.int .i64 t279,.slice Ao13 t280.length co13,.slice Ao14 t283.length co14]] rfl byac ?_;(with_reducible refine (uC.calls k t279 _ _ t280 _ _ t283 t288 _ ?side1 ?side2 ?side3 ?side4 A5.out).mono ?_);(case side1=>refine (Kd.vS (e:=3) (base:=w.heap.size) (ok:=fun k_=>True) (n:=t280.length) (c:=co13) ?_).2.2;exact (by (with_reducible repeat (first|apply Kd.jF|apply Kd.jG|apply Kd.jM));exact (Kd.qV (Kd.zT (p:=⟨gb287,2,none⟩) (Kd.zT (p:=⟨gb287,1,none⟩) (Kd.zT (p:=⟨gb287,0,none⟩) (Kd.zX HO282.out BK287.out (by decide)) (fun _ hk=>hk.2) (.int .i64 t279)) (fun _ hk=>hk.2) (.slice Ao13 t280.length co13)) (fun _ hk=>hk.2) (.slice Ao14 t283.length co14)) (fun _ h_=>h_.1))));(case side2=>exact byay HO282.out);(case side3=>refine (Kd.vS (e:=49) (base:=w.heap.size) (ok:=fun k_=>((some k_≠(.slice Ao13 t280.length co13 : Value).ownBlock∧k_≠gb278)∧k_≠gb287)) (n:=t283.length) (c:=co14) ?_).2.2;exact (by (with_reducible repeat (first|apply Kd.jF|apply Kd.jG|apply Kd.jM));exact (Kd.qV (Kd.zT (p:=⟨gb287,2,none⟩) (Kd.zT (p:=⟨gb287,1,none⟩) (Kd.zT (p:=⟨gb287,0,none⟩) (Kd.qV HO285.out (fun k_ hk=>(⟨hk,hk.2⟩ : _∧k_≠gb287))) (fun _ hk=>hk.2) (.int .i64 t279)) (fun _ hk=>hk.2) (.slice Ao13 t280.length co13)) (fun _ hk=>hk.2) (.slice Ao14 t283.length co14)) (fun _ h_=>h_.1))));(case side4=>exact byay HO285.out);rintro e w15 ⟨rfl,hb⟩;refine ⟨_,rfl,?_⟩;have n_:=q_7 (Kd.jH (by (with_reducible repeat (first|apply Kd.jF|apply Kd.jG|apply Kd.jM));exact (Kd.qV (Kd.zT (p:=⟨gb287,2,none⟩) (Kd.zT (p:=⟨gb287,1,none⟩) (Kd.zT (p:=⟨gb287,0,none⟩) (Kd.zX HO282.out BK287.out (by decide)) (fun _ hk=>hk.2) (.int .i64 t279)) (fun _ hk=>hk.2) (.slice Ao13 t280.length co13)) (fun _ hk=>hk.2) (.slice Ao14 t283.length co14)) (fun _ h_=>h_.1))) hb) (Kd.jH (by (with_reducible repeat (first|apply Kd.jF|apply Kd.jG|apply Kd.jM));exact (Kd.qV (Kd.zT (p:=⟨gb287,2,none⟩) (Kd.zT (p:=⟨gb287,1,none⟩) (Kd.zT (p:=⟨gb287,0,none⟩) (Kd.qV HO285.out (fun k_ hk=>(⟨hk,hk.2⟩ : _∧k_≠gb287))) (fun _ hk=>hk.2) (.int .i64 t279)) (fun _ hk=>hk.2) (.slice Ao13 t280.length co13)) (fun _ hk=>hk.2) (.slice Ao14 t283.length co14)) (fun _ h_=>h_.1))) hb) (qB.below (show qB w0 (((w9.setCell ⟨gb287,0,none⟩ (.int .i64 t279)).setCell ⟨gb287,1,none⟩ (.slice Ao13 t280.length co13)).setCell ⟨gb287,2,none⟩ (.slice Ao14 t283.length co14)) g s0_0 t286 from by repeat (first|(with_reducible first|exact HI0.out|apply qB.alloc|apply qB.drewN|apply qB.drew|apply qB.jO|refine qB.far ?_ NB0_278.out _|refine qB.far ?_ NB0_287.out _)|exact HI0.out)) hb) (uA (g:=gb278) (o:=.cells #[.int .i64 0,.slice none 0 0,.slice none 0 0] 49 (0,0)) (byaq NB278_287.out BK278.out) hb) (uA (g:=gb287) (o:=.cells #[.int .i64 t279,.slice Ao13 t280.length co13,.slice Ao14 t283.length co14] 49 (0,0)) (by (with_reducible repeat (first|refine qH ?_ _|refine qJ ?_|refine qG ?_ _));refine zG (cs:=#[.int .i64 t279,.slice Ao13 t280.length co13,.slice none 0 0]) ?_ 2 _ rfl;(with_reducible repeat (first|refine qH ?_ _|refine qJ ?_|refine qG ?_ _));refine zG (cs:=#[.int .i64 t279,.slice none 0 0,.slice none 0 0]) ?_ 1 _ rfl;(with_reducible repeat (first|refine qH ?_ _|refine qJ ?_|refine qG ?_ _));refine zG (cs:=#[.int .i64 0,.slice none 0 0,.slice none 0 0]) ?_ 0 _ rfl;(with_reducible repeat (first|refine qH ?_ _|refine qJ ?_|refine qG ?_ _));exact BK287.out) hb) (qC.trans (bybh GW278.out GW287.out) (qC.of_below hb g none) (.inl rfl)) (qE (bybg HI0.out GE278.out GE287.out) hb);clear HO282 HO285 HI0 BK278 BK287 HK HB;obtain ⟨HO282,HO285,HI0,BK278,BK287,HK,HB⟩:=n_;clear hb;obtain ⟨hcz16_0,hcz16_1,hcz16_2,hfz16_0,hfz16_1,hfz16_2⟩:=cz3 BK287.out;have hnb17:=NB278_0.out;have hnc17:=NB0_278.out;obtain ⟨hcz18_0,hcz18_1,hcz18_2,hfz18_0,hfz18_1,hfz18_2⟩:=cz3 BK278.out))
  refine bodyPost_ret (results_cell_row rfl _ _ gb278 49 #[.int .i64 t279,.slice Ao13 t280.length co13,.slice Ao14 t283.length co14] (0,0) _ rfl (by (with_reducible repeat (first|refine qH ?_ _|refine qJ ?_|refine qG ?_ _));refine zG (cs:=#[.int .i64 t279,.slice Ao13 t280.length co13,.slice none 0 0]) ?_ 2 _ rfl;(with_reducible repeat (first|refine qH ?_ _|refine qJ ?_|refine qG ?_ _));refine zG (cs:=#[.int .i64 t279,.slice none 0 0,.slice none 0 0]) ?_ 1 _ rfl;(with_reducible repeat (first|refine qH ?_ _|refine qJ ?_|refine qG ?_ _));refine zG (cs:=#[.int .i64 0,.slice none 0 0,.slice none 0 0]) ?_ 0 _ rfl;(with_reducible repeat (first|refine qH ?_ _|refine qJ ?_|refine qG ?_ _));exact BK278.out) Try.underlying49 rfl (by kernel_rfl)) rfl ?_
  exact ⟨_,_,byam,by (with_reducible repeat (first|apply Kd.jF|apply Kd.jG|apply Kd.jM));exact Kd.qV (Kd.zT (p:=⟨gb278,2,none⟩) (Kd.zT (p:=⟨gb278,1,none⟩) (Kd.zT (p:=⟨gb278,0,none⟩) (Kd.zX HO282.out BK278.out (by decide)) (fun _ hk=>hk.2) (.int .i64 t279)) (fun _ hk=>hk.2) (.slice Ao13 t280.length co13)) (fun _ hk=>hk.2) (.slice Ao14 t283.length co14)) (fun _ hk=>trivial),by (with_reducible repeat (first|apply Kd.jF|apply Kd.jG|apply Kd.jM));exact Kd.qV (Kd.zT (p:=⟨gb278,2,none⟩) (Kd.zT (p:=⟨gb278,1,none⟩) (Kd.zT (p:=⟨gb278,0,none⟩) (Kd.qV HO285.out (fun k_ hk=>(⟨hk,hk.1.2⟩ : _∧k_≠gb278))) (fun _ hk=>hk.2) (.int .i64 t279)) (fun _ hk=>hk.2) (.slice Ao13 t280.length co13)) (fun _ hk=>hk.2) (.slice Ao14 t283.length co14)) (fun _ hk=>hk.1.1.1),bybf HI0.out NB0_278.out NB0_287.out,bybg HI0.out GE278.out GE287.out,bybh GW278.out GW287.out⟩
 ·rw [if_neg c6] at H
  obtain ⟨c6b0,c6b1⟩:=eqF c6
  replace H:=Option.bind_eq_some_iff.mp H
  obtain ⟨⟨t289,t290⟩,A190,H⟩:=H
  try dsimp only at H
  have A19:=qA.mk A190
  clear A190
  obtain ⟨y291,hy291⟩ : ∃ y_ : List Int,y_ = (([t289] : List Int)):=⟨_,rfl⟩
  replace H : (some (1,y291,([] : List (S49)),t290)) = some (r1,r2,r3,r4):=by first|(rw [hy291];with_reducible exact H)|(have H2_:=(Option.bind_some _ _).symm.trans H;rw [hy291];with_reducible exact H2_)|(have H2_:=(Option.bind_some _ _).symm.trans H;with_reducible exact H2_)|with_reducible exact H|(rw [hy291];exact H)|exact H
  have Ny291:=qA.mk hy291
  clear hy291
  simp only [Option.some.injEq,Prod.mk.injEq] at H
  obtain ⟨rfl,rfl,rfl,rfl⟩:=H
  go_enter Try.func31,Try.ntmps31
  go_wp2_with (first|((with_reducible refine qX (N:=6) rfl ?_);refine zD ?hg (N:=6) ?hd (cs:=#[.int .i64 0,.slice none 0 0,.slice none 0 0]) (t:=49) ?hr ?_;(case hd=>rfl);(case hg=>rfl);(case hr=>exact byad);intro gb278 hg w20 hbox hb;have n_:=q_7 (qB.below (byaz HI0.out) hb) (qC.trans bybb (qC.of_below hb g none) (.inl rfl)) (qE (byba HI0.out) hb) (hbox) ((byco : w.heap.size ≤ gb278)) ((Nat.le_trans HW0.out (byco : w.heap.size ≤ gb278) : w0.heap.size ≤ gb278)) ((by rw [hg];exact Nat.ne_of_lt (qB.lt (show qB w0 _ g s0_0 s0_1 from by repeat (first|(with_reducible first|exact HI0.out|apply qB.alloc|apply qB.drewN|apply qB.drew|apply qB.jO)|exact HI0.out))) : g≠gb278));clear HI0 HK HB;obtain ⟨HI0,HK,HB,BK278,GW278,GE278,NB0_278⟩:=n_;have NB278_0:=ns NB0_278;clear hb hbox hg)|((with_reducible refine qF (f:=45) rfl ?_);refine zC (some 11) rfl rfl Try.func45 (by kernel_rfl) rfl #[.pointer (some ⟨g,0,none⟩),.int .i64 a1,.int .i64 a2] rfl byac ?_;(with_reducible refine (qQ.calls k g s0_0 s0_1 a1 a2 t279 t280 t283 t286 w0 _ ?side1 ?side2 A4.out).mono ?_);(case side1=>exact bybc HI0.out NB0_278.out);(case side2=>exact bybe HI0.out GE278.out);rintro e w21 ⟨v281,v284,rfl,ho0,ho1,hi,hb,hk⟩;refine ⟨_,rfl,?_⟩;have n_:=q_6 (qC.blkB hk BK278.out NB278_0.out (by simp)) (Kd.vG ho0 (qY (w:=w) (g:=g) (row:=none) (bybd GW278.out))) (Kd.vG (Kd.R_newB ho1 (g:=gb278) (o:=.cells #[.int .i64 0,.slice none 0 0,.slice none 0 0] 49 (0,0)) (byaf BK278.out)) (qY (w:=w) (g:=g) (row:=none) (bybd GW278.out))) (qC.trans (bybd GW278.out) hk (.inl rfl)) (hb) (hi);clear BK278 HK HB HI0;obtain ⟨BK278,HO282,HO285,HK,HB,HI0⟩:=n_;clear hb hk hi;(try clear ho0);(try clear ho1))|((with_reducible refine qX (N:=7) rfl ?_);refine zD ?hg (N:=7) ?hd (cs:=#[.int .i64 0,.slice none 0 0,.slice none 0 0]) (t:=49) ?hr ?_;(case hd=>rfl);(case hg=>rfl);(case hr=>exact byad);intro gb287 hg w22 hbox hb;have n_:=q_11 (Kd.jH (byas HO282.out) hb) (Kd.jH (Kd.Qx (byas HO285.out) gb287 (Nat.le_of_eq hg.symm)) hb) (qB.below (bybc HI0.out NB0_278.out) hb) (qI BK278.out hb) (qC.trans (bybd GW278.out) (qC.of_below hb g none) (.inl rfl)) (qE (bybe HI0.out GE278.out) hb) (hbox) ((bycp GW278.out : w.heap.size ≤ gb287)) ((Nat.le_trans HW0.out (bycp GW278.out : w.heap.size ≤ gb287) : w0.heap.size ≤ gb287)) ((by rw [hg];exact Nat.ne_of_lt (vH BK278.out) : gb278≠gb287)) ((by rw [hg];exact Nat.ne_of_lt (qB.lt (show qB w0 _ g s0_0 t286 from by repeat (first|(with_reducible first|exact HI0.out|apply qB.alloc|apply qB.drewN|apply qB.drew|apply qB.jO|refine qB.far ?_ NB0_278.out _)|exact HI0.out))) : g≠gb287));clear HO282 HO285 HI0 BK278 HK HB;obtain ⟨HO282,HO285,HI0,BK278,HK,HB,BK287,GW287,GE287,NB278_287,NB0_287⟩:=n_;have NB287_278:=ns NB278_287;have NB287_0:=ns NB0_287;clear hb hbox hg;have hnb23:=NB287_278.out;have hnc23:=NB278_287.out;have hnb24:=NB287_0.out;have hnc24:=NB0_287.out;obtain ⟨hcz25_0,hcz25_1,hcz25_2,hfz25_0,hfz25_1,hfz25_2⟩:=cz3 BK287.out;obtain ⟨Ao26,co26,eo26⟩:=Kd.jI HO282.out;subst eo26;obtain ⟨Ao27,co27,eo27⟩:=Kd.jI HO285.out;subst eo27)|((with_reducible refine qF (f:=46) rfl ?_);refine zC (some 13) rfl rfl Try.func46 (by kernel_rfl) rfl #[.agg #[.int .i64 t279,.slice Ao26 t280.length co26,.slice Ao27 t283.length co27]] rfl byac ?_;(with_reducible refine (uC.calls k t279 _ _ t280 _ _ t283 t288 _ ?side1 ?side2 ?side3 ?side4 A5.out).mono ?_);(case side1=>refine (Kd.vS (e:=3) (base:=w.heap.size) (ok:=fun k_=>True) (n:=t280.length) (c:=co26) ?_).2.2;exact (by (with_reducible repeat (first|apply Kd.jF|apply Kd.jG|apply Kd.jM));exact (Kd.qV (Kd.zT (p:=⟨gb287,2,none⟩) (Kd.zT (p:=⟨gb287,1,none⟩) (Kd.zT (p:=⟨gb287,0,none⟩) (Kd.zX HO282.out BK287.out (by decide)) (fun _ hk=>hk.2) (.int .i64 t279)) (fun _ hk=>hk.2) (.slice Ao26 t280.length co26)) (fun _ hk=>hk.2) (.slice Ao27 t283.length co27)) (fun _ h_=>h_.1))));(case side2=>exact byay HO282.out);(case side3=>refine (Kd.vS (e:=49) (base:=w.heap.size) (ok:=fun k_=>((some k_≠(.slice Ao26 t280.length co26 : Value).ownBlock∧k_≠gb278)∧k_≠gb287)) (n:=t283.length) (c:=co27) ?_).2.2;exact (by (with_reducible repeat (first|apply Kd.jF|apply Kd.jG|apply Kd.jM));exact (Kd.qV (Kd.zT (p:=⟨gb287,2,none⟩) (Kd.zT (p:=⟨gb287,1,none⟩) (Kd.zT (p:=⟨gb287,0,none⟩) (Kd.qV HO285.out (fun k_ hk=>(⟨hk,hk.2⟩ : _∧k_≠gb287))) (fun _ hk=>hk.2) (.int .i64 t279)) (fun _ hk=>hk.2) (.slice Ao26 t280.length co26)) (fun _ hk=>hk.2) (.slice Ao27 t283.length co27)) (fun _ h_=>h_.1))));(case side4=>exact byay HO285.out);rintro e w28 ⟨rfl,hb⟩;refine ⟨_,rfl,?_⟩;have n_:=q_7 (Kd.jH (by (with_reducible repeat (first|apply Kd.jF|apply Kd.jG|apply Kd.jM));exact (Kd.qV (Kd.zT (p:=⟨gb287,2,none⟩) (Kd.zT (p:=⟨gb287,1,none⟩) (Kd.zT (p:=⟨gb287,0,none⟩) (Kd.zX HO282.out BK287.out (by decide)) (fun _ hk=>hk.2) (.int .i64 t279)) (fun _ hk=>hk.2) (.slice Ao26 t280.length co26)) (fun _ hk=>hk.2) (.slice Ao27 t283.length co27)) (fun _ h_=>h_.1))) hb) (Kd.jH (by (with_reducible repeat (first|apply Kd.jF|apply Kd.jG|apply Kd.jM));exact (Kd.qV (Kd.zT (p:=⟨gb287,2,none⟩) (Kd.zT (p:=⟨gb287,1,none⟩) (Kd.zT (p:=⟨gb287,0,none⟩) (Kd.qV HO285.out (fun k_ hk=>(⟨hk,hk.2⟩ : _∧k_≠gb287))) (fun _ hk=>hk.2) (.int .i64 t279)) (fun _ hk=>hk.2) (.slice Ao26 t280.length co26)) (fun _ hk=>hk.2) (.slice Ao27 t283.length co27)) (fun _ h_=>h_.1))) hb) (qB.below (show qB w0 (((w22.setCell ⟨gb287,0,none⟩ (.int .i64 t279)).setCell ⟨gb287,1,none⟩ (.slice Ao26 t280.length co26)).setCell ⟨gb287,2,none⟩ (.slice Ao27 t283.length co27)) g s0_0 t286 from by repeat (first|(with_reducible first|exact HI0.out|apply qB.alloc|apply qB.drewN|apply qB.drew|apply qB.jO|refine qB.far ?_ NB0_278.out _|refine qB.far ?_ NB0_287.out _)|exact HI0.out)) hb) (uA (g:=gb278) (o:=.cells #[.int .i64 0,.slice none 0 0,.slice none 0 0] 49 (0,0)) (byaq NB278_287.out BK278.out) hb) (uA (g:=gb287) (o:=.cells #[.int .i64 t279,.slice Ao26 t280.length co26,.slice Ao27 t283.length co27] 49 (0,0)) (by (with_reducible repeat (first|refine qH ?_ _|refine qJ ?_|refine qG ?_ _));refine zG (cs:=#[.int .i64 t279,.slice Ao26 t280.length co26,.slice none 0 0]) ?_ 2 _ rfl;(with_reducible repeat (first|refine qH ?_ _|refine qJ ?_|refine qG ?_ _));refine zG (cs:=#[.int .i64 t279,.slice none 0 0,.slice none 0 0]) ?_ 1 _ rfl;(with_reducible repeat (first|refine qH ?_ _|refine qJ ?_|refine qG ?_ _));refine zG (cs:=#[.int .i64 0,.slice none 0 0,.slice none 0 0]) ?_ 0 _ rfl;(with_reducible repeat (first|refine qH ?_ _|refine qJ ?_|refine qG ?_ _));exact BK287.out) hb) (qC.trans (bybh GW278.out GW287.out) (qC.of_below hb g none) (.inl rfl)) (qE (bybg HI0.out GE278.out GE287.out) hb);clear HO282 HO285 HI0 BK278 BK287 HK HB;obtain ⟨HO282,HO285,HI0,BK278,BK287,HK,HB⟩:=n_;clear hb)|((with_reducible refine qF (f:=13) rfl ?_);refine zC (some 17) rfl rfl Try.func13 (by kernel_rfl) rfl #[.pointer (some ⟨g,0,none⟩),.int .i64 a1] rfl byac ?_;(with_reducible refine (qK.calls g s0_0 t286 a1 t289 t290 w0 _ ?side1 ?side2 A19.out).mono ?_);(case side1=>exact bybf HI0.out NB0_278.out NB0_287.out);(case side2=>exact bybg HI0.out GE278.out GE287.out);rintro e w29 ⟨rfl,hi,hb,hk⟩;refine ⟨_,rfl,?_⟩;have n_:=q_7 (qC.blkB hk BK278.out NB278_0.out (by simp)) (Kd.qV (Kd.vK (qB.apart (show qB w0 _ g s0_0 t286 from by repeat (first|(with_reducible first|exact HI0.out|apply qB.alloc|apply qB.drewN|apply qB.drew|apply qB.jO|refine qB.far ?_ NB0_278.out _|refine qB.far ?_ NB0_287.out _)|exact HI0.out)) (byas HO282.out) (by decide)) hk (fun _ h=>h.2)) (fun _ h=>h.1)) (Kd.qV (Kd.vK (qB.apart (show qB w0 _ g s0_0 t286 from by repeat (first|(with_reducible first|exact HI0.out|apply qB.alloc|apply qB.drewN|apply qB.drew|apply qB.jO|refine qB.far ?_ NB0_278.out _|refine qB.far ?_ NB0_287.out _)|exact HI0.out)) (byas HO285.out) (by decide)) hk (fun _ h=>h.2)) (fun _ h=>h.1)) (qC.blkB hk BK287.out NB287_0.out (by simp)) (qC.trans (bybh GW278.out GW287.out) hk (.inl rfl)) (hb) (hi);clear BK278 HO282 HO285 BK287 HK HB HI0;obtain ⟨BK278,HO282,HO285,BK287,HK,HB,HI0⟩:=n_;clear hb hk hi)|((with_reducible refine qX (N:=18) rfl ?_);refine Kd.Qk (Kd.int .i64) _ 3 ?hg (N:=18) ?hd (xs:=([t289] : List Int)) (inner:=[.int .i64 t289]) (ok:=fun _=>True) (okp:=fun _=>True) ?hr ?hp (fun _ hk=>hk) trivial (Below.refl _ _) (Nat.le_refl _) (by simp) ?_;(case hd=>rfl);(case hg=>rfl);(case hr=>exact byad);(case hp=>exact (Reps.one (show Kd.M (Kd.int .i64) _ _ _ t289 [.int .i64 t289] from rfl) (Reps.none _ _)));intro v292 w30 ho31 hb hg_ hnew_;clear hg_ hnew_;(first|rw [← Ny291.out] at ho31|(simp only [Int.reduceToNat] at ho31;rw [← Ny291.out] at ho31));have n_:=q_8 (Kd.uH (byas HO282.out) (Kd.zW ho31) hb) (Kd.uH (byas HO285.out) (Kd.zW ho31) hb) (Kd.vG (Kd.uY ho31 (Kd.R_lt (byas HO282.out))) (qY (w:=w) (g:=g) (row:=none) (bybh GW278.out GW287.out))) (qB.below (bybf HI0.out NB0_278.out NB0_287.out) hb) (qI BK278.out hb) (qI BK287.out hb) (qC.trans (bybh GW278.out GW287.out) (qC.of_below hb g none) (.inl rfl)) (qE (bybg HI0.out GE278.out GE287.out) hb);clear HO282 HO285 HI0 BK278 BK287 HK HB;obtain ⟨HO282,HO285,HO293,HI0,BK278,BK287,HK,HB⟩:=n_;clear hb ho31;obtain ⟨Ao32,co32,eo32⟩:=Kd.jI HO293.out;subst eo32;have hnb33:=NB278_0.out;have hnc33:=NB0_278.out;obtain ⟨hcz34_0,hcz34_1,hcz34_2,hfz34_0,hfz34_1,hfz34_2⟩:=cz3 BK278.out))
  refine bodyPost_ret (results_cell_row rfl _ _ gb278 49 #[.int .i64 1,.slice Ao32 y291.length co32,.slice none 0 0] (0,0) _ rfl (by (with_reducible repeat (first|refine qH ?_ _|refine qJ ?_|refine qG ?_ _));refine zG (cs:=#[.int .i64 1,.slice Ao32 y291.length co32,.slice none 0 0]) ?_ 2 _ rfl;(with_reducible repeat (first|refine qH ?_ _|refine qJ ?_|refine qG ?_ _));refine zG (cs:=#[.int .i64 1,.slice none 0 0,.slice none 0 0]) ?_ 1 _ rfl;(with_reducible repeat (first|refine qH ?_ _|refine qJ ?_|refine qG ?_ _));refine zG (cs:=#[.int .i64 0,.slice none 0 0,.slice none 0 0]) ?_ 0 _ rfl;(with_reducible repeat (first|refine qH ?_ _|refine qJ ?_|refine qG ?_ _));exact BK278.out) Try.underlying49 rfl (by kernel_rfl)) rfl ?_
  exact ⟨_,_,byam,by (with_reducible repeat (first|apply Kd.jF|apply Kd.jG|apply Kd.jM));exact Kd.qV (Kd.zT (p:=⟨gb278,2,none⟩) (Kd.zT (p:=⟨gb278,1,none⟩) (Kd.zT (p:=⟨gb278,0,none⟩) (Kd.zX HO293.out BK278.out (by decide)) (fun _ hk=>hk.2) (.int .i64 1)) (fun _ hk=>hk.2) (.slice Ao32 y291.length co32)) (fun _ hk=>hk.2) (.slice none 0 0)) (fun _ hk=>trivial),byar,bybf HI0.out NB0_278.out NB0_287.out,bybg HI0.out GE278.out GE287.out,bybh GW278.out GW287.out⟩
end Go.Proofs.Ytoofabolcbbjnaa.P
