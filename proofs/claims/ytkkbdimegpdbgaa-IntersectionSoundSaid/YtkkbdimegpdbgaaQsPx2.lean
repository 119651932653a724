/- Functions of the program as Lean functions, and the walks that show that the calls answer so; written by a program of this session (a changed print) and by hand. -/
import Derived.Test.YtkkbdimegpdbgaaQsPx0
import Derived.Test.YtkkbdimegpdbgaaQsF1
import Derived.Test.YtkkbdimegpdbgaaQsPx1
namespace Go.Proofs.Ytkkbdimegpdbgaa.P
open Go.RowKit Go.Proofs.YtkkbdimegpdbgaaW.PrintWords Go.Proofs.YtkkbdimegpdbgaaW.PrintLast Go.Proofs.YtkkbdimegpdbgaaW.PrintMore
attribute [local go_sem] kF kD kV kU uJ uK kG kE
set_option linter.unusedVariables false
set_option linter.unusedSimpArgs false
mutual
def zL.j0 : Nat→Bool→Int→List Int→List (S56)→Option (Int)
 | 0,_,_,_,_=>none
 | k + 1,x22,x115000,x115001,x115002=>if x22 = true then (some 4) else ((threshold_bad.f x115001).bind fun t115=>(if t115 = true then (some 5) else ((vC.f k x115001).bind fun bt116=>(if bt116.2 = 0 then (zL.l0 k x115002 (x115002.length : Int) 0) else (some bt116.2)))))
def zL.l0 : Nat→List (S56)→Int→Int→Option (Int)
 | 0,_,_,_=>none
 | k + 1,x36,x37,x38=>if x38 < x37 then (if 0 ≤ x38 then (if x38 < (x36.length : Int) then ((zL.f k ((qM x36 x38).f0) ((qM x36 x38).f1) ((qM x36 x38).f2)).bind fun t120=>(if t120 = 0 then (zL.l0 k x36 x37 (wrap64 (x38 + 1))) else (some t120))) else (none)) else (none)) else (some 0)
def zL.f : Nat→Int→List Int→List (S56)→Option (Int)
 | 0,_,_,_=>none
 | k + 1,a0_0,l0_1,l0_2=>if a0_0 < 1 then (zL.j0 k true a0_0 l0_1 l0_2) else (zL.j0 k (decide (a0_0 > (wrap64 ((l0_1.length : Int) + (l0_2.length : Int))))) a0_0 l0_1 l0_2)
end
theorem zL.mono_l : ∀ k,(∀ y0 y1 y2,LeO (zL.f k y0 y1 y2) (zL.f (k + 1) y0 y1 y2))∧(∀ y0 y1 y2 y3,LeO (zL.j0 k y0 y1 y2 y3) (zL.j0 (k + 1) y0 y1 y2 y3))∧(∀ y0 y1 y2,LeO (zL.l0 k y0 y1 y2) (zL.l0 (k + 1) y0 y1 y2))
 | 0=>⟨fun _ _ _ r h=>by simp [zL.f] at h,fun _ _ _ _ r h=>by simp [zL.j0] at h,fun _ _ _ r h=>by simp [zL.l0] at h⟩
 | k + 1=>by
  obtain ⟨ih0,ih1,ih2⟩:=zL.mono_l k
  refine ⟨?_,?_,?_⟩
  ·intro y0 y1 y2
   unfold zL.f
   repeat' first
   | (with_reducible exact ih0 _ _ _)
   | (with_reducible exact ih1 _ _ _ _)
   | (with_reducible exact ih2 _ _ _)
   | (with_reducible exact vC.mono _ _)
   | (with_reducible exact LeO.refl _)
   | (with_reducible exact LeO.none _)
   | (with_reducible refine LeO.ite ?_ ?_)
   | (with_reducible refine LeO.bind ?_ (fun _=>?_))
   | exact ih0 _ _ _
   | exact ih1 _ _ _ _
   | exact ih2 _ _ _
   | exact vC.mono _ _
   | exact LeO.none _
   | refine LeO.ite ?_ ?_
   | refine LeO.bind ?_ (fun _=>?_)
  ·intro y0 y1 y2 y3
   unfold zL.j0
   repeat' first
   | (with_reducible exact ih0 _ _ _)
   | (with_reducible exact ih1 _ _ _ _)
   | (with_reducible exact ih2 _ _ _)
   | (with_reducible exact vC.mono _ _)
   | (with_reducible exact LeO.refl _)
   | (with_reducible exact LeO.none _)
   | (with_reducible refine LeO.ite ?_ ?_)
   | (with_reducible refine LeO.bind ?_ (fun _=>?_))
   | exact ih0 _ _ _
   | exact ih1 _ _ _ _
   | exact ih2 _ _ _
   | exact vC.mono _ _
   | exact LeO.none _
   | refine LeO.ite ?_ ?_
   | refine LeO.bind ?_ (fun _=>?_)
  ·intro y0 y1 y2
   unfold zL.l0
   repeat' first
   | (with_reducible exact ih0 _ _ _)
   | (with_reducible exact ih1 _ _ _ _)
   | (with_reducible exact ih2 _ _ _)
   | (with_reducible exact vC.mono _ _)
   | (with_reducible exact LeO.refl _)
   | (with_reducible exact LeO.none _)
   | (with_reducible refine LeO.ite ?_ ?_)
   | (with_reducible refine LeO.bind ?_ (fun _=>?_))
   | exact ih0 _ _ _
   | exact ih1 _ _ _ _
   | exact ih2 _ _ _
   | exact vC.mono _ _
   | exact LeO.none _
   | refine LeO.ite ?_ ?_
   | refine LeO.bind ?_ (fun _=>?_)
theorem zL.mono : ∀ a0 a1 a2 k,LeO (zL.f k a0 a1 a2) (zL.f (k + 1) a0 a1 a2):=by
 intro a0 a1 a2 k
 obtain ⟨ih0,ih1,ih2⟩:=zL.mono_l k
 exact ih0 a0 a1 a2
set_option maxHeartbeats 8000000 in
set_option maxRecDepth 100000 in
theorem zL.calls (k : Nat) : ∀ (a0_0 : Int) (A0_1 : Option Addr) (c0_1 : Nat) (l0_1 : List Int) (A0_2 : Option Addr) (c0_2 : Nat) (l0_2 : List (S56)) (r : Int) (w : World) (hr0_1 : Kd.C (Kd.int .i64) w A0_1 l0_1.length l0_1) (hc0_1 : l0_1.length ≤ c0_1) (hr0_2 : Kd.C k56 w A0_2 l0_2.length l0_2) (hc0_2 : l0_2.length ≤ c0_2) (h : zL.f k a0_0 l0_1 l0_2 = some r),
  Calls Try.prog 83 #[.agg #[.int .i64 a0_0,.slice A0_1 l0_1.length c0_1,.slice A0_2 l0_2.length c0_2]] w fun e w'=>e = .returned (.int .i64 r)∧Below w.heap.size w w':=by
 induction k using Nat.strongRecOn with
 | _ k ih =>
 intro a0_0 A0_1 c0_1 l0_1 A0_2 c0_2 l0_2 r w hr0_1 hc0_1 hr0_2 hc0_2 h
 cases k with
 | zero=>exact absurd h (by simp [zL.f])
 | succ k =>
 simp only [zL.f] at h
 have hu56:=Try.underlying56
 have HR0_1:=qA.mk hr0_1
 have HC0_1:=qA.mk hc0_1
 clear hr0_1 hc0_1
 have HR0_2:=qA.mk hr0_2
 have HC0_2:=qA.mk hc0_2
 clear hr0_2 hc0_2
 have HB:=qA.mk (Below.refl w.heap.size w)
 have H:=h
 clear h
 have HC2:=qA.mk H
 clear H
 go_enter Try.func83,Try.ntmps83
 go_upto_region 1 with (first|((with_reducible refine qP (N:=1) rfl ?_);(try (refine Ql (by rfl) ?_;dsimp only));refine zV (N:=1) (cs:=#[.int .i64 a0_0,.slice A0_1 l0_1.length c0_1,.slice A0_2 l0_2.length c0_2]) (t:=56) ?_;intro gb114 hg w3 hbox hb;have n_:=q_4 (qC byab hb) (hbox) ((byck : w.heap.size ≤ gb114)) ((byck : w.heap.size ≤ gb114));clear HB;obtain ⟨HB,BK114,GW114,GE114⟩:=n_;clear hb hbox hg))
 (try simp only [Act.put,List.setIfInBounds_toArray,List.set_cons_zero,List.set_cons_succ])
 go_cut [22] (fun v22 wc=>∃ (kq : Nat) (x22_1 : Bool),v22 = .bool x22_1∧qA (zL.j0 kq x22_1 a0_0 l0_1 l0_2 = some r)∧qA (kq ≤ k)∧qA (wc.heap[gb114]? = some (.cells #[.int .i64 a0_0,(.slice A0_1 l0_1.length c0_1),(.slice A0_2 l0_2.length c0_2)] 56 (0,0)))∧qA (Below w.heap.size w wc))
 case first =>
  have H:=HC2.out
  clear HC2
  by_cases c4 : a0_0 < 1
  ·rw [if_pos c4] at H
   have c4b0:=decide_eq_true c4
   clear c4
   (first|rw [c4b0]|(simp only [Qe,Qh];rw [c4b0])|skip)
   have H':=qA.mk H
   clear H
   obtain ⟨hcz5_0,hcz5_1,hcz5_2,hfz5_0,hfz5_1,hfz5_2⟩:=cz3 BK114.out
   go_wp2
   go_meet
   case rel=>exact ⟨_,(true),byae,H',⟨byap⟩,⟨byaf BK114.out⟩,⟨byad GE114.out⟩⟩
  ·rw [if_neg c4] at H
   have c4b0:=decide_eq_false c4
   clear c4
   (first|rw [c4b0]|(simp only [Qe,Qh];rw [c4b0])|skip)
   have H':=qA.mk H
   clear H
   obtain ⟨hcz6_0,hcz6_1,hcz6_2,hfz6_0,hfz6_1,hfz6_2⟩:=cz3 BK114.out
   go_wp2
   go_meet
   case rel=>exact ⟨_,(decide (a0_0 > (wrap64 ((l0_1.length : Int) + (l0_2.length : Int))))),byae,H',⟨byap⟩,⟨byaf BK114.out⟩,⟨byad GE114.out⟩⟩
 case rest =>
  clear HC2
  obtain ⟨kq,x22_1,rfl,HA,HJ1,BK114,HB⟩:=hcut
  cases kq with
  | zero=>exact absurd HA.out (by simp [zL.j0])
  | succ kj1 =>
   have H:=HA.out
   clear HA
   simp only [zL.j0] at H
   by_cases c7 : x22_1 = true
   ·subst c7
    rw [if_pos rfl] at H
    obtain rfl:=Option.some.inj H
    go_wp2
    go_ret
    exact ⟨byac,byad GE114.out⟩
   ·replace c7:=Bool.eq_false_iff.mpr c7
    subst c7
    rw [if_neg (show ¬ (false = true) by decide)] at H
    replace H:=Option.bind_eq_some_iff.mp H
    obtain ⟨t115,A80,H⟩:=H
    try dsimp only at H
    have A8:=qA.mk A80
    clear A80
    by_cases c9 : t115 = true
    ·subst c9
     rw [if_pos rfl] at H
     obtain rfl:=Option.some.inj H
     obtain ⟨hcz10_0,hcz10_1,hcz10_2,hfz10_0,hfz10_1,hfz10_2⟩:=cz3 BK114.out
     go_wp2_with (first|((with_reducible refine qI (f:=88) rfl ?_);refine qY (some 25) rfl rfl Try.func88 (by kernel_rfl) rfl #[.slice A0_1 l0_1.length c0_1,.func (.func 89) #[] #[]] rfl byah ?_;(with_reducible refine (threshold_bad.calls _ _ l0_1 true _ ?side1 ?side2 A8.out).mono ?_);(case side1=>exact byaq HR0_1.out);(case side2=>exact HC0_1.out);rintro e w' ⟨rfl,⟨nd,rfl⟩⟩;refine ⟨_,rfl,?_⟩))
     go_ret
     exact ⟨byac,byad GE114.out⟩
    ·replace c9:=Bool.eq_false_iff.mpr c9
     subst c9
     rw [if_neg (show ¬ (false = true) by decide)] at H
     replace H:=Option.bind_eq_some_iff.mp H
     obtain ⟨⟨t116,t117⟩,A110,H⟩:=H
     try dsimp only at H
     have A11:=qA.mk A110
     clear A110
     by_cases c12 : t117 = 0
     ·rw [if_pos c12] at H
      obtain ⟨c12b0,c12b1⟩:=eqT c12
      clear c12
      have H':=qA.mk H
      clear H
      obtain ⟨hcz13_0,hcz13_1,hcz13_2,hfz13_0,hfz13_1,hfz13_2⟩:=cz3 BK114.out
      go_wp2_with (first|((with_reducible refine qI (f:=88) rfl ?_);refine qY (some 25) rfl rfl Try.func88 (by kernel_rfl) rfl #[.slice A0_1 l0_1.length c0_1,.func (.func 89) #[] #[]] rfl byah ?_;(with_reducible refine (threshold_bad.calls _ _ l0_1 false _ ?side1 ?side2 A8.out).mono ?_);(case side1=>exact byaq HR0_1.out);(case side2=>exact HC0_1.out);rintro e w' ⟨rfl,⟨nd,rfl⟩⟩;refine ⟨_,rfl,?_⟩)|((with_reducible refine qI (f:=90) rfl ?_);refine qY (some 29) rfl rfl Try.func90 (by kernel_rfl) rfl #[.slice A0_1 l0_1.length c0_1] rfl byah ?_;(with_reducible refine (vC.calls kj1 _ _ l0_1 t116 t117 _ ?side1 ?side2 A11.out).mono ?_);(case side1=>exact bycm HR0_1.out GE114.out);(case side2=>exact HC0_1.out);rintro e w' ⟨rfl,⟨nd,rfl⟩⟩;refine ⟨_,rfl,?_⟩))
      go_loopg [38] kj1 (fun kq v38 w'=>∃ (x38_2 : Int),v38 = .int .i64 x38_2∧qA (zL.l0 kq l0_2 (l0_2.length : Int) x38_2 = some r)∧qA (kq ≤ kj1)∧qA (w'.heap[gb114]? = some (.cells #[.int .i64 a0_0,(.slice A0_1 l0_1.length c0_1),(.slice A0_2 l0_2.length c0_2)] 56 (0,0)))∧qA (Below w.heap.size w w'))
      case atStart=>exact ⟨(0),byae,H',⟨Nat.le_refl _⟩,⟨byaf BK114.out⟩,⟨byad GE114.out⟩⟩
      case round =>
       clear H'
       obtain ⟨x38_2,rfl,HA,HK2,BK114,HB⟩:=hrel
       cases gk with
       | zero=>exact absurd HA.out (by simp [zL.l0])
       | succ k2 =>
        have H:=HA.out
        clear HA
        simp only [zL.l0] at H
        by_cases c14 : x38_2 < (l0_2.length : Int)
        ·rw [if_pos c14] at H
         have c14b0:=decide_eq_true c14
         clear c14
         by_cases c15 : 0 ≤ x38_2
         ·rw [if_pos c15] at H
          have c15b0:=decide_eq_true c15
          clear c15
          by_cases c16 : x38_2 < (l0_2.length : Int)
          ·rw [if_pos c16] at H
           have c16b0:=decide_eq_true c16
           clear c16
           replace H:=Option.bind_eq_some_iff.mp H
           obtain ⟨t120,A170,H⟩:=H
           try dsimp only at H
           have A17:=qA.mk A170
           clear A170
           by_cases c18 : t120 = 0
           ·rw [if_pos c18] at H
            obtain ⟨c18b0,c18b1⟩:=eqT c18
            clear c18
            have H':=qA.mk H
            clear H
            have p118 : 0 ≤ (x38_2 : Int):=of_decide_eq_true byag
            have q118 : x38_2 < (l0_2.length : Int):=of_decide_eq_true byag
            obtain ⟨ad118,A118_1,c118_1,A118_2,c118_2,e118,hx118_0,hx118_1,hx118_2,hl118_1,hi118_1,hl118_2,hi118_2⟩:=Zj HR0_2.out x38_2 p118 q118
            cases e118
            replace hx118_0:=(HB.out.cell (World.block_lt_of_cell? w _ hx118_0)).trans hx118_0
            replace hx118_1:=(HB.out.cell (World.block_lt_of_cell? w _ hx118_1)).trans hx118_1
            replace hx118_2:=(HB.out.cell (World.block_lt_of_cell? w _ hx118_2)).trans hx118_2
            have HR118_1:=qA.mk hi118_1
            have HC118_1:=qA.mk hl118_1
            clear hi118_1 hl118_1
            have HR118_2:=qA.mk hi118_2
            have HC118_2:=qA.mk hl118_2
            clear hi118_2 hl118_2
            replace p118:=eq_true p118
            replace q118:=eq_true q118
            go_wp2_with (first|((with_reducible refine qP (N:=6) rfl ?_);(try (refine Ql (by rfl) ?_;dsimp only));refine zV (N:=6) (cs:=#[.int .i64 0,.slice none 0 0,.slice none 0 0]) (t:=56) ?_;intro gb119 hg w19 hbox hb;have n_:=q_6 (qH BK114.out hb) (qC (byad GE114.out) hb) (hbox) ((bycl GE114.out : w.heap.size ≤ gb119)) ((bycl GE114.out : w.heap.size ≤ gb119)) ((by rw [hg];exact Nat.ne_of_lt (vF BK114.out) : gb114≠gb119));clear BK114 HB;obtain ⟨BK114,HB,BK119,GW119,GE119,NB114_119⟩:=n_;have NB119_114:=ns NB114_119;clear hb hbox hg;have hnb20:=NB119_114.out;have hnc20:=NB114_119.out;obtain ⟨hcz21_0,hcz21_1,hcz21_2,hfz21_0,hfz21_1,hfz21_2⟩:=cz3 BK119.out)|((with_reducible refine qI (f:=83) rfl ?_);refine qY (some 43) rfl rfl Try.func83 (by kernel_rfl) rfl #[.agg #[.int .i64 ((qM l0_2 x38_2).f0),.slice A118_1 ((qM l0_2 x38_2).f1).length c118_1,.slice A118_2 ((qM l0_2 x38_2).f2).length c118_2]] rfl byah ?_;(with_reducible refine (ih k2 (by have:=HJ1.out;have:=HK2.out;omega) ((qM l0_2 x38_2).f0) _ _ ((qM l0_2 x38_2).f1) _ _ ((qM l0_2 x38_2).f2) t120 _ ?side1 ?side2 ?side3 ?side4 A17.out).mono ?_);(case side1=>exact Kd.vU HR118_1.out (byaj GE114.out GE119.out));(case side2=>exact HC118_1.out);(case side3=>exact Kd.vU HR118_2.out (byaj GE114.out GE119.out));(case side4=>exact HC118_2.out);rintro e w22 ⟨rfl,hb⟩;refine ⟨_,rfl,?_⟩;have n_:=q_3 (jQ (g:=gb114) (o:=.cells #[.int .i64 a0_0,.slice A0_1 l0_1.length c0_1,.slice (some ad118) l0_2.length c0_2] 56 (0,0)) (byak NB114_119.out BK114.out) hb) (jQ (g:=gb119) (o:=.cells #[.int .i64 ((qM l0_2 x38_2).f0),.slice A118_1 ((qM l0_2 x38_2).f1).length c118_1,.slice A118_2 ((qM l0_2 x38_2).f2).length c118_2] 56 (0,0)) (by (with_reducible repeat (first|refine qF ?_ _|refine qG ?_|refine qE ?_ _));refine qO (cs:=#[.int .i64 ((qM l0_2 x38_2).f0),.slice A118_1 ((qM l0_2 x38_2).f1).length c118_1,.slice none 0 0]) ?_ 2 _ rfl;(with_reducible repeat (first|refine qF ?_ _|refine qG ?_|refine qE ?_ _));refine qO (cs:=#[.int .i64 ((qM l0_2 x38_2).f0),.slice none 0 0,.slice none 0 0]) ?_ 1 _ rfl;(with_reducible repeat (first|refine qF ?_ _|refine qG ?_|refine qE ?_ _));refine qO (cs:=#[.int .i64 0,.slice none 0 0,.slice none 0 0]) ?_ 0 _ rfl;(with_reducible repeat (first|refine qF ?_ _|refine qG ?_|refine qE ?_ _));exact BK119.out) hb) (qC (byaj GE114.out GE119.out) hb);clear BK114 BK119 HB;obtain ⟨BK114,BK119,HB⟩:=n_;clear hb))
            go_roundg k2
            case measure=>have:=HJ1.out;have:=HK2.out;omega
            case rel=>exact ⟨(wrap64 (x38_2 + 1)),byae,H',⟨by have:=HJ1.out;have:=HK2.out;omega⟩,⟨byaf BK114.out⟩,⟨byaj GE114.out GE119.out⟩⟩
           ·rw [if_neg c18] at H
            obtain ⟨c18b0,c18b1⟩:=eqF c18
            obtain rfl:=Option.some.inj H
            have p118 : 0 ≤ (x38_2 : Int):=of_decide_eq_true byag
            have q118 : x38_2 < (l0_2.length : Int):=of_decide_eq_true byag
            obtain ⟨ad118,A118_1,c118_1,A118_2,c118_2,e118,hx118_0,hx118_1,hx118_2,hl118_1,hi118_1,hl118_2,hi118_2⟩:=Zj HR0_2.out x38_2 p118 q118
            cases e118
            replace hx118_0:=(HB.out.cell (World.block_lt_of_cell? w _ hx118_0)).trans hx118_0
            replace hx118_1:=(HB.out.cell (World.block_lt_of_cell? w _ hx118_1)).trans hx118_1
            replace hx118_2:=(HB.out.cell (World.block_lt_of_cell? w _ hx118_2)).trans hx118_2
            have HR118_1:=qA.mk hi118_1
            have HC118_1:=qA.mk hl118_1
            clear hi118_1 hl118_1
            have HR118_2:=qA.mk hi118_2
            have HC118_2:=qA.mk hl118_2
            clear hi118_2 hl118_2
            replace p118:=eq_true p118
            replace q118:=eq_true q118
            go_wp2_with (first|((with_reducible refine qP (N:=6) rfl ?_);(try (refine Ql (by rfl) ?_;dsimp only));refine zV (N:=6) (cs:=#[.int .i64 0,.slice none 0 0,.slice none 0 0]) (t:=56) ?_;intro gb119 hg w23 hbox hb;have n_:=q_6 (qH BK114.out hb) (qC (byad GE114.out) hb) (hbox) ((bycl GE114.out : w.heap.size ≤ gb119)) ((bycl GE114.out : w.heap.size ≤ gb119)) ((by rw [hg];exact Nat.ne_of_lt (vF BK114.out) : gb114≠gb119));clear BK114 HB;obtain ⟨BK114,HB,BK119,GW119,GE119,NB114_119⟩:=n_;have NB119_114:=ns NB114_119;clear hb hbox hg;have hnb24:=NB119_114.out;have hnc24:=NB114_119.out;obtain ⟨hcz25_0,hcz25_1,hcz25_2,hfz25_0,hfz25_1,hfz25_2⟩:=cz3 BK119.out)|((with_reducible refine qI (f:=83) rfl ?_);refine qY (some 43) rfl rfl Try.func83 (by kernel_rfl) rfl #[.agg #[.int .i64 ((qM l0_2 x38_2).f0),.slice A118_1 ((qM l0_2 x38_2).f1).length c118_1,.slice A118_2 ((qM l0_2 x38_2).f2).length c118_2]] rfl byah ?_;(with_reducible refine (ih k2 (by have:=HJ1.out;have:=HK2.out;omega) ((qM l0_2 x38_2).f0) _ _ ((qM l0_2 x38_2).f1) _ _ ((qM l0_2 x38_2).f2) t120 _ ?side1 ?side2 ?side3 ?side4 A17.out).mono ?_);(case side1=>exact Kd.vU HR118_1.out (byaj GE114.out GE119.out));(case side2=>exact HC118_1.out);(case side3=>exact Kd.vU HR118_2.out (byaj GE114.out GE119.out));(case side4=>exact HC118_2.out);rintro e w26 ⟨rfl,hb⟩;refine ⟨_,rfl,?_⟩;have n_:=q_3 (jQ (g:=gb114) (o:=.cells #[.int .i64 a0_0,.slice A0_1 l0_1.length c0_1,.slice (some ad118) l0_2.length c0_2] 56 (0,0)) (byak NB114_119.out BK114.out) hb) (jQ (g:=gb119) (o:=.cells #[.int .i64 ((qM l0_2 x38_2).f0),.slice A118_1 ((qM l0_2 x38_2).f1).length c118_1,.slice A118_2 ((qM l0_2 x38_2).f2).length c118_2] 56 (0,0)) (by (with_reducible repeat (first|refine qF ?_ _|refine qG ?_|refine qE ?_ _));refine qO (cs:=#[.int .i64 ((qM l0_2 x38_2).f0),.slice A118_1 ((qM l0_2 x38_2).f1).length c118_1,.slice none 0 0]) ?_ 2 _ rfl;(with_reducible repeat (first|refine qF ?_ _|refine qG ?_|refine qE ?_ _));refine qO (cs:=#[.int .i64 ((qM l0_2 x38_2).f0),.slice none 0 0,.slice none 0 0]) ?_ 1 _ rfl;(with_reducible repeat (first|refine qF ?_ _|refine qG ?_|refine qE ?_ _));refine qO (cs:=#[.int .i64 0,.slice none 0 0,.slice none 0 0]) ?_ 0 _ rfl;(with_reducible repeat (first|refine qF ?_ _|refine qG ?_|refine qE ?_ _));exact BK119.out) hb) (qC (byaj GE114.out GE119.out) hb);clear BK114 BK119 HB;obtain ⟨BK114,BK119,HB⟩:=n_;clear hb))
            go_ret
            exact ⟨byac,byaj GE114.out GE119.out⟩
          ·rw [if_neg c16] at H
           exact absurd H (by simp)
         ·rw [if_neg c15] at H
          exact absurd H (by simp)
        ·rw [if_neg c14] at H
         have c14b0:=decide_eq_false c14
         clear c14
         obtain rfl:=Option.some.inj H
         go_wp2
         go_ret
         exact ⟨byac,byad GE114.out⟩
     ·rw [if_neg c12] at H
      obtain ⟨c12b0,c12b1⟩:=eqF c12
      obtain rfl:=Option.some.inj H
      obtain ⟨hcz27_0,hcz27_1,hcz27_2,hfz27_0,hfz27_1,hfz27_2⟩:=cz3 BK114.out
      go_wp2_with (first|((with_reducible refine qI (f:=88) rfl ?_);refine qY (some 25) rfl rfl Try.func88 (by kernel_rfl) rfl #[.slice A0_1 l0_1.length c0_1,.func (.func 89) #[] #[]] rfl byah ?_;(with_reducible refine (threshold_bad.calls _ _ l0_1 false _ ?side1 ?side2 A8.out).mono ?_);(case side1=>exact byaq HR0_1.out);(case side2=>exact HC0_1.out);rintro e w' ⟨rfl,⟨nd,rfl⟩⟩;refine ⟨_,rfl,?_⟩)|((with_reducible refine qI (f:=90) rfl ?_);refine qY (some 29) rfl rfl Try.func90 (by kernel_rfl) rfl #[.slice A0_1 l0_1.length c0_1] rfl byah ?_;(with_reducible refine (vC.calls kj1 _ _ l0_1 t116 t117 _ ?side1 ?side2 A11.out).mono ?_);(case side1=>exact bycm HR0_1.out GE114.out);(case side2=>exact HC0_1.out);rintro e w' ⟨rfl,⟨nd,rfl⟩⟩;refine ⟨_,rfl,?_⟩))
      go_ret
      exact ⟨byac,byad GE114.out⟩
def uN.f (k : Nat) (a0_0 : Int) (l0_1 : List Int) (l0_2 : List (S56)) : Option (Int):=(jE.f k a0_0 l0_1 l0_2).bind fun t122=>(if t122 > 4 then (some 3) else ((jI.f k a0_0 l0_1 l0_2).bind fun t123=>(if t123 > 200 then (some 3) else ((zL.f k a0_0 l0_1 l0_2).bind fun t124=>(some t124)))))
theorem uN.mono : ∀ a0 a1 a2 k,LeO (uN.f k a0 a1 a2) (uN.f (k + 1) a0 a1 a2):=by
 intro a0 a1 a2 k
 unfold uN.f
 repeat' first
   | (with_reducible exact jE.mono _ _ _ _)
   | (with_reducible exact jI.mono _ _ _ _)
   | (with_reducible exact zL.mono _ _ _ _)
   | (with_reducible exact LeO.refl _)
   | (with_reducible exact LeO.none _)
   | (with_reducible refine LeO.ite ?_ ?_)
   | (with_reducible refine LeO.bind ?_ (fun _=>?_))
   | exact jE.mono _ _ _ _
   | exact jI.mono _ _ _ _
   | exact zL.mono _ _ _ _
   | exact LeO.none _
   | refine LeO.ite ?_ ?_
   | refine LeO.bind ?_ (fun _=>?_)
set_option maxHeartbeats 8000000 in
set_option maxRecDepth 100000 in
theorem uN.calls (k : Nat) (a0_0 : Int) (A0_1 : Option Addr) (c0_1 : Nat) (l0_1 : List Int) (A0_2 : Option Addr) (c0_2 : Nat) (l0_2 : List (S56)) (r : Int) (w : World) (hr0_1 : Kd.C (Kd.int .i64) w A0_1 l0_1.length l0_1) (hc0_1 : l0_1.length ≤ c0_1) (hr0_2 : Kd.C k56 w A0_2 l0_2.length l0_2) (hc0_2 : l0_2.length ≤ c0_2) (h : uN.f k a0_0 l0_1 l0_2 = some r) :
  Calls Try.prog 69 #[.agg #[.int .i64 a0_0,.slice A0_1 l0_1.length c0_1,.slice A0_2 l0_2.length c0_2]] w fun e w'=>e = .returned (.int .i64 r)∧Below w.heap.size w w':=by
 have hu56:=Try.underlying56
 have HR0_1:=qA.mk hr0_1
 have HC0_1:=qA.mk hc0_1
 clear hr0_1 hc0_1
 have HR0_2:=qA.mk hr0_2
 have HC0_2:=qA.mk hc0_2
 clear hr0_2 hc0_2
 have HB:=qA.mk (Below.refl w.heap.size w)
 unfold uN.f at h
 have H:=h
 clear h
 replace H:=Option.bind_eq_some_iff.mp H
 obtain ⟨t122,A20,H⟩:=H
 try dsimp only at H
 have A2:=qA.mk A20
 clear A20
 by_cases c3 : t122 > 4
 ·rw [if_pos c3] at H
  have c3b0:=decide_eq_true c3
  clear c3
  obtain rfl:=Option.some.inj H
  go_enter Try.func69,Try.ntmps69
  go_wp2_with (first|((with_reducible refine qP (N:=1) rfl ?_);refine zV (N:=1) (cs:=#[.int .i64 a0_0,.slice A0_1 l0_1.length c0_1,.slice A0_2 l0_2.length c0_2]) (t:=56) ?_;intro gb121 hg w4 hbox hb;have n_:=q_4 (qC byab hb) (hbox) ((byck : w.heap.size ≤ gb121)) ((byck : w.heap.size ≤ gb121));clear HB;obtain ⟨HB,BK121,GW121,GE121⟩:=n_;clear hb hbox hg;obtain ⟨hcz5_0,hcz5_1,hcz5_2,hfz5_0,hfz5_1,hfz5_2⟩:=cz3 BK121.out)|((with_reducible refine qI (f:=81) rfl ?_);refine qY (some 4) rfl rfl Try.func81 (by kernel_rfl) rfl #[.agg #[.int .i64 a0_0,.slice A0_1 l0_1.length c0_1,.slice A0_2 l0_2.length c0_2]] rfl byah ?_;(with_reducible refine (jE.calls k a0_0 _ _ l0_1 _ _ l0_2 t122 _ ?side1 ?side2 ?side3 ?side4 A2.out).mono ?_);(case side1=>exact byaq HR0_1.out);(case side2=>exact HC0_1.out);(case side3=>exact byaq HR0_2.out);(case side4=>exact HC0_2.out);rintro e w6 ⟨rfl,hb⟩;refine ⟨_,rfl,?_⟩;have n_:=q_2 (qH BK121.out hb) (qC (byad GE121.out) hb);clear BK121 HB;obtain ⟨BK121,HB⟩:=n_;clear hb))
  go_ret
  exact ⟨byac,byad GE121.out⟩
 ·rw [if_neg c3] at H
  have c3b0:=decide_eq_false c3
  clear c3
  replace H:=Option.bind_eq_some_iff.mp H
  obtain ⟨t123,A70,H⟩:=H
  try dsimp only at H
  have A7:=qA.mk A70
  clear A70
  by_cases c8 : t123 > 200
  ·rw [if_pos c8] at H
   have c8b0:=decide_eq_true c8
   clear c8
   obtain rfl:=Option.some.inj H
   go_enter Try.func69,Try.ntmps69
   go_wp2_with (first|((with_reducible refine qP (N:=1) rfl ?_);refine zV (N:=1) (cs:=#[.int .i64 a0_0,.slice A0_1 l0_1.length c0_1,.slice A0_2 l0_2.length c0_2]) (t:=56) ?_;intro gb121 hg w9 hbox hb;have n_:=q_4 (qC byab hb) (hbox) ((byck : w.heap.size ≤ gb121)) ((byck : w.heap.size ≤ gb121));clear HB;obtain ⟨HB,BK121,GW121,GE121⟩:=n_;clear hb hbox hg;obtain ⟨hcz10_0,hcz10_1,hcz10_2,hfz10_0,hfz10_1,hfz10_2⟩:=cz3 BK121.out)|((with_reducible refine qI (f:=81) rfl ?_);refine qY (some 4) rfl rfl Try.func81 (by kernel_rfl) rfl #[.agg #[.int .i64 a0_0,.slice A0_1 l0_1.length c0_1,.slice A0_2 l0_2.length c0_2]] rfl byah ?_;(with_reducible refine (jE.calls k a0_0 _ _ l0_1 _ _ l0_2 t122 _ ?side1 ?side2 ?side3 ?side4 A2.out).mono ?_);(case side1=>exact byaq HR0_1.out);(case side2=>exact HC0_1.out);(case side3=>exact byaq HR0_2.out);(case side4=>exact HC0_2.out);rintro e w11 ⟨rfl,hb⟩;refine ⟨_,rfl,?_⟩;have n_:=q_2 (qH BK121.out hb) (qC (byad GE121.out) hb);clear BK121 HB;obtain ⟨BK121,HB⟩:=n_;clear hb;obtain ⟨hcz12_0,hcz12_1,hcz12_2,hfz12_0,hfz12_1,hfz12_2⟩:=cz3 BK121.out)|(go_at_call 82;(with_reducible refine (jI.calls k a0_0 _ _ l0_1 _ _ l0_2 t123 _ ?side1 ?side2 ?side3 ?side4 A7.out).mono ?_);(case side1=>exact byaq HR0_1.out);(case side2=>exact HC0_1.out);(case side3=>exact byaq HR0_2.out);(case side4=>exact HC0_2.out);rintro e w13 ⟨rfl,hb⟩;have n_:=q_2 (qH BK121.out hb) (qC (byad GE121.out) hb);clear BK121 HB;obtain ⟨BK121,HB⟩:=n_;clear hb))
   go_ret
   exact ⟨byac,byad GE121.out⟩
  ·rw [if_neg c8] at H
   have c8b0:=decide_eq_false c8
   clear c8
   replace H:=Option.bind_eq_some_iff.mp H
   obtain ⟨t124,A140,H⟩:=H
   try dsimp only at H
   have A14:=qA.mk A140
   clear A140
   obtain rfl:=Option.some.inj H
   go_enter Try.func69,Try.ntmps69
   go_wp2_with (first|((with_reducible refine qP (N:=1) rfl ?_);refine zV (N:=1) (cs:=#[.int .i64 a0_0,.slice A0_1 l0_1.length c0_1,.slice A0_2 l0_2.length c0_2]) (t:=56) ?_;intro gb121 hg w15 hbox hb;have n_:=q_4 (qC byab hb) (hbox) ((byck : w.heap.size ≤ gb121)) ((byck : w.heap.size ≤ gb121));clear HB;obtain ⟨HB,BK121,GW121,GE121⟩:=n_;clear hb hbox hg;obtain ⟨hcz16_0,hcz16_1,hcz16_2,hfz16_0,hfz16_1,hfz16_2⟩:=cz3 BK121.out)|((with_reducible refine qI (f:=81) rfl ?_);refine qY (some 4) rfl rfl Try.func81 (by kernel_rfl) rfl #[.agg #[.int .i64 a0_0,.slice A0_1 l0_1.length c0_1,.slice A0_2 l0_2.length c0_2]] rfl byah ?_;(with_reducible refine (jE.calls k a0_0 _ _ l0_1 _ _ l0_2 t122 _ ?side1 ?side2 ?side3 ?side4 A2.out).mono ?_);(case side1=>exact byaq HR0_1.out);(case side2=>exact HC0_1.out);(case side3=>exact byaq HR0_2.out);(case side4=>exact HC0_2.out);rintro e w17 ⟨rfl,hb⟩;refine ⟨_,rfl,?_⟩;have n_:=q_2 (qH BK121.out hb) (qC (byad GE121.out) hb);clear BK121 HB;obtain ⟨BK121,HB⟩:=n_;clear hb;obtain ⟨hcz18_0,hcz18_1,hcz18_2,hfz18_0,hfz18_1,hfz18_2⟩:=cz3 BK121.out)|(go_at_call 82;(with_reducible refine (jI.calls k a0_0 _ _ l0_1 _ _ l0_2 t123 _ ?side1 ?side2 ?side3 ?side4 A7.out).mono ?_);(case side1=>exact byaq HR0_1.out);(case side2=>exact HC0_1.out);(case side3=>exact byaq HR0_2.out);(case side4=>exact HC0_2.out);rintro e w19 ⟨rfl,hb⟩;have n_:=q_2 (qH BK121.out hb) (qC (byad GE121.out) hb);clear BK121 HB;obtain ⟨BK121,HB⟩:=n_;clear hb;obtain ⟨hcz20_0,hcz20_1,hcz20_2,hfz20_0,hfz20_1,hfz20_2⟩:=cz3 BK121.out)|((with_reducible refine qI (f:=83) rfl ?_);refine qY (some 12) rfl rfl Try.func83 (by kernel_rfl) rfl #[.agg #[.int .i64 a0_0,.slice A0_1 l0_1.length c0_1,.slice A0_2 l0_2.length c0_2]] rfl byah ?_;(with_reducible refine (zL.calls k a0_0 _ _ l0_1 _ _ l0_2 t124 _ ?side1 ?side2 ?side3 ?side4 A14.out).mono ?_);(case side1=>exact byaq HR0_1.out);(case side2=>exact HC0_1.out);(case side3=>exact byaq HR0_2.out);(case side4=>exact HC0_2.out);rintro e w21 ⟨rfl,hb⟩;refine ⟨_,rfl,?_⟩;have n_:=q_2 (qH BK121.out hb) (qC (byad GE121.out) hb);clear BK121 HB;obtain ⟨BK121,HB⟩:=n_;clear hb))
   go_ret
   exact ⟨byac,byad GE121.out⟩
def Qu.f (a0 : Int) : Option (Bool):=if a0 ≥ 0 then (some (decide (a0 < 10))) else (some false)
set_option maxHeartbeats 8000000 in
set_option maxRecDepth 100000 in
theorem Qu.calls (a0 : Int) (r : Bool) (w : World) (h : Qu.f a0 = some r) :
  Calls Try.prog 84 #[.int .i64 a0] w fun e w'=>e = .returned (.bool r)∧kZ w w':=by
 unfold Qu.f at h
 have H:=h
 clear h
 by_cases c2 : a0 ≥ 0
 ·rw [if_pos c2] at H
  have c2b0:=decide_eq_true c2
  clear c2
  obtain rfl:=Option.some.inj H
  go_enter Try.func84,Try.ntmps84
  go_wp2
  go_ret
  exact ⟨byae,byam⟩
 ·rw [if_neg c2] at H
  have c2b0:=decide_eq_false c2
  clear c2
  obtain rfl:=Option.some.inj H
  go_enter Try.func84,Try.ntmps84
  go_wp2
  go_ret
  exact ⟨byae,byam⟩
mutual
def zO.l0 : Nat→Int→List Int→Int→Int→Int→List Int→List (S56)→Option (Int)
 | 0,_,_,_,_,_,_,_=>none
 | k + 1,x3,x9,x10,x11,x126000,x126001,x126002=>if x11 < x10 then (if 0 ≤ x11 then (if x11 < (x9.length : Int) then ((Qu.f (rd x9 x11)).bind fun t127=>(if t127 = true then (if 0 ≤ (rd x9 x11) then (zO.l0 k (Go.bits .or .i64 x3 (shl .i64 1 (rd x9 x11))) x9 x10 (wrap64 (x11 + 1)) x126000 x126001 x126002) else (none)) else (zO.l0 k x3 x9 x10 (wrap64 (x11 + 1)) x126000 x126001 x126002))) else (none)) else (none)) else (zO.l1 k x3 x126002 (x126002.length : Int) 0)
def zO.l1 : Nat→Int→List (S56)→Int→Int→Option (Int)
 | 0,_,_,_,_=>none
 | k + 1,x3,x23,x24,x25=>if x25 < x24 then (if 0 ≤ x25 then (if x25 < (x23.length : Int) then ((zO.f k ((qM x23 x25).f0) ((qM x23 x25).f1) ((qM x23 x25).f2)).bind fun t130=>(zO.l1 k (Go.bits .or .i64 x3 t130) x23 x24 (wrap64 (x25 + 1)))) else (none)) else (none)) else (some x3)
def zO.f : Nat→Int→List Int→List (S56)→Option (Int)
 | 0,_,_,_=>none
 | k + 1,a0_0,l0_1,l0_2=>zO.l0 k 0 l0_1 (l0_1.length : Int) 0 a0_0 l0_1 l0_2
end
theorem zO.mono_l : ∀ k,(∀ y0 y1 y2,LeO (zO.f k y0 y1 y2) (zO.f (k + 1) y0 y1 y2))∧(∀ y0 y1 y2 y3 y4 y5 y6,LeO (zO.l0 k y0 y1 y2 y3 y4 y5 y6) (zO.l0 (k + 1) y0 y1 y2 y3 y4 y5 y6))∧(∀ y0 y1 y2 y3,LeO (zO.l1 k y0 y1 y2 y3) (zO.l1 (k + 1) y0 y1 y2 y3))
 | 0=>⟨fun _ _ _ r h=>by simp [zO.f] at h,fun _ _ _ _ _ _ _ r h=>by simp [zO.l0] at h,fun _ _ _ _ r h=>by simp [zO.l1] at h⟩
 | k + 1=>by
  obtain ⟨ih0,ih1,ih2⟩:=zO.mono_l k
  refine ⟨?_,?_,?_⟩
  ·intro y0 y1 y2
   unfold zO.f
   repeat' first
   | (with_reducible exact ih0 _ _ _)
   | (with_reducible exact ih1 _ _ _ _ _ _ _)
   | (with_reducible exact ih2 _ _ _ _)
   | (with_reducible exact LeO.refl _)
   | (with_reducible exact LeO.none _)
   | (with_reducible refine LeO.ite ?_ ?_)
   | (with_reducible refine LeO.bind ?_ (fun _=>?_))
   | exact ih0 _ _ _
   | exact ih1 _ _ _ _ _ _ _
   | exact ih2 _ _ _ _
   | exact LeO.none _
   | refine LeO.ite ?_ ?_
   | refine LeO.bind ?_ (fun _=>?_)
  ·intro y0 y1 y2 y3 y4 y5 y6
   unfold zO.l0
   repeat' first
   | (with_reducible exact ih0 _ _ _)
   | (with_reducible exact ih1 _ _ _ _ _ _ _)
   | (with_reducible exact ih2 _ _ _ _)
   | (with_reducible exact LeO.refl _)
   | (with_reducible exact LeO.none _)
   | (with_reducible refine LeO.ite ?_ ?_)
   | (with_reducible refine LeO.bind ?_ (fun _=>?_))
   | exact ih0 _ _ _
   | exact ih1 _ _ _ _ _ _ _
   | exact ih2 _ _ _ _
   | exact LeO.none _
   | refine LeO.ite ?_ ?_
   | refine LeO.bind ?_ (fun _=>?_)
  ·intro y0 y1 y2 y3
   unfold zO.l1
   repeat' first
   | (with_reducible exact ih0 _ _ _)
   | (with_reducible exact ih1 _ _ _ _ _ _ _)
   | (with_reducible exact ih2 _ _ _ _)
   | (with_reducible exact LeO.refl _)
   | (with_reducible exact LeO.none _)
   | (with_reducible refine LeO.ite ?_ ?_)
   | (with_reducible refine LeO.bind ?_ (fun _=>?_))
   | exact ih0 _ _ _
   | exact ih1 _ _ _ _ _ _ _
   | exact ih2 _ _ _ _
   | exact LeO.none _
   | refine LeO.ite ?_ ?_
   | refine LeO.bind ?_ (fun _=>?_)
theorem zO.mono : ∀ a0 a1 a2 k,LeO (zO.f k a0 a1 a2) (zO.f (k + 1) a0 a1 a2):=by
 intro a0 a1 a2 k
 obtain ⟨ih0,ih1,ih2⟩:=zO.mono_l k
 exact ih0 a0 a1 a2
set_option maxHeartbeats 8000000 in
set_option maxRecDepth 100000 in
theorem zO.calls (k : Nat) : ∀ (a0_0 : Int) (A0_1 : Option Addr) (c0_1 : Nat) (l0_1 : List Int) (A0_2 : Option Addr) (c0_2 : Nat) (l0_2 : List (S56)) (r : Int) (w : World) (hr0_1 : Kd.C (Kd.int .i64) w A0_1 l0_1.length l0_1) (hc0_1 : l0_1.length ≤ c0_1) (hr0_2 : Kd.C k56 w A0_2 l0_2.length l0_2) (hc0_2 : l0_2.length ≤ c0_2) (h : zO.f k a0_0 l0_1 l0_2 = some r),
  Calls Try.prog 70 #[.agg #[.int .i64 a0_0,.slice A0_1 l0_1.length c0_1,.slice A0_2 l0_2.length c0_2]] w fun e w'=>e = .returned (.int .i64 r)∧Below w.heap.size w w':=by
 induction k using Nat.strongRecOn with
 | _ k ih =>
 intro a0_0 A0_1 c0_1 l0_1 A0_2 c0_2 l0_2 r w hr0_1 hc0_1 hr0_2 hc0_2 h
 cases k with
 | zero=>exact absurd h (by simp [zO.f])
 | succ k =>
 simp only [zO.f] at h
 have hu56:=Try.underlying56
 have HR0_1:=qA.mk hr0_1
 have HC0_1:=qA.mk hc0_1
 clear hr0_1 hc0_1
 have HR0_2:=qA.mk hr0_2
 have HC0_2:=qA.mk hc0_2
 clear hr0_2 hc0_2
 have HB:=qA.mk (Below.refl w.heap.size w)
 have H:=h
 clear h
 have H':=qA.mk H
 clear H
 go_enter Try.func70,Try.ntmps70
 go_wp2_with (first|((with_reducible refine qP (N:=1) rfl ?_);refine zV (N:=1) (cs:=#[.int .i64 a0_0,.slice A0_1 l0_1.length c0_1,.slice A0_2 l0_2.length c0_2]) (t:=56) ?_;intro gb125 hg w2 hbox hb;have n_:=q_4 (qC byab hb) (hbox) ((byck : w.heap.size ≤ gb125)) ((byck : w.heap.size ≤ gb125));clear HB;obtain ⟨HB,BK125,GW125,GE125⟩:=n_;clear hb hbox hg;obtain ⟨hcz3_0,hcz3_1,hcz3_2,hfz3_0,hfz3_1,hfz3_2⟩:=cz3 BK125.out))
 go_loopg [3,11] k (fun kq v3 v11 w'=>∃ (x3_1 : Int) (x11_1 : Int),v3 = .int .i64 x3_1∧v11 = .int .i64 x11_1∧qA (zO.l0 kq x3_1 l0_1 (l0_1.length : Int) x11_1 a0_0 l0_1 l0_2 = some r)∧qA (kq ≤ k)∧qA (w'.heap[gb125]? = some (.cells #[.int .i64 a0_0,(.slice A0_1 l0_1.length c0_1),(.slice A0_2 l0_2.length c0_2)] 56 (0,0)))∧qA (Below w.heap.size w w'))
 case atStart=>exact ⟨(0),(0),byae,byae,H',⟨Nat.le_refl _⟩,⟨byaf BK125.out⟩,⟨byad GE125.out⟩⟩
 case round =>
  clear H'
  obtain ⟨x3_1,x11_1,rfl,rfl,HA,HK1,BK125,HB⟩:=hrel
  cases gk with
  | zero=>exact absurd HA.out (by simp [zO.l0])
  | succ k1 =>
   have H:=HA.out
   clear HA
   simp only [zO.l0] at H
   by_cases c4 : x11_1 < (l0_1.length : Int)
   ·rw [if_pos c4] at H
    have c4b0:=decide_eq_true c4
    clear c4
    by_cases c5 : 0 ≤ x11_1
    ·rw [if_pos c5] at H
     have c5b0:=decide_eq_true c5
     clear c5
     by_cases c6 : x11_1 < (l0_1.length : Int)
     ·rw [if_pos c6] at H
      have c6b0:=decide_eq_true c6
      clear c6
      replace H:=Option.bind_eq_some_iff.mp H
      obtain ⟨t127,A70,H⟩:=H
      try dsimp only at H
      have A7:=qA.mk A70
      clear A70
      by_cases c8 : t127 = true
      ·subst c8
       rw [if_pos rfl] at H
       by_cases c9 : 0 ≤ (rd l0_1 x11_1)
       ·rw [if_pos c9] at H
        have c9b0:=eq_true c9
        have c9b1:=decide_eq_true c9
        clear c9
        obtain ⟨ji10,hji10⟩ : ∃ j_ : Int,(shl .i64 1 (rd l0_1 x11_1)) = j_:=⟨_,rfl⟩
        (first|rw [hji10] at H|(simp only [hji10] at H))
        (try rw [hji10] at A7)
        obtain ⟨hji10_,hji10z,hji10u,hji10v,hji10y,hji10x⟩:=jiA hji10
        have H':=qA.mk H
        clear H
        have p126 : 0 ≤ (x11_1 : Int):=of_decide_eq_true byag
        have q126 : x11_1 < (l0_1.length : Int):=of_decide_eq_true byag
        obtain ⟨ad126,e126,hx126_0⟩:=Kd.kW HR0_1.out x11_1 p126 q126
        cases e126
        replace hx126_0:=(HB.out.cell (World.block_lt_of_cell? w _ hx126_0)).trans hx126_0
        replace p126:=eq_true p126
        replace q126:=eq_true q126
        go_wp2_with (first|((with_reducible refine qI (f:=84) rfl ?_);refine qY (some 16) rfl rfl Try.func84 (by kernel_rfl) rfl #[.int .i64 (rd l0_1 x11_1)] rfl byah ?_;(with_reducible refine (Qu.calls (rd l0_1 x11_1) true _ A7.out).mono ?_);rintro e w' ⟨rfl,⟨nd,rfl⟩⟩;refine ⟨_,rfl,?_⟩))
        go_roundg k1
        case measure=>have:=HK1.out;omega
        case rel=>exact ⟨(Go.bits .or .i64 x3_1 (ji10)),(wrap64 (x11_1 + 1)),(by first|rfl|(simp;done)|(simp only [← hji10]<;>(first|rfl|simp))|(simp [*];done)),byae,H',⟨byai⟩,⟨byaf BK125.out⟩,⟨byad GE125.out⟩⟩
       ·rw [if_neg c9] at H
        exact absurd H (by simp)
      ·replace c8:=Bool.eq_false_iff.mpr c8
       subst c8
       rw [if_neg (show ¬ (false = true) by decide)] at H
       have H':=qA.mk H
       clear H
       have p126 : 0 ≤ (x11_1 : Int):=of_decide_eq_true byag
       have q126 : x11_1 < (l0_1.length : Int):=of_decide_eq_true byag
       obtain ⟨ad126,e126,hx126_0⟩:=Kd.kW HR0_1.out x11_1 p126 q126
       cases e126
       replace hx126_0:=(HB.out.cell (World.block_lt_of_cell? w _ hx126_0)).trans hx126_0
       replace p126:=eq_true p126
       replace q126:=eq_true q126
       go_wp2_with (first|((with_reducible refine qI (f:=84) rfl ?_);refine qY (some 16) rfl rfl Try.func84 (by kernel_rfl) rfl #[.int .i64 (rd l0_1 x11_1)] rfl byah ?_;(with_reducible refine (Qu.calls (rd l0_1 x11_1) false _ A7.out).mono ?_);rintro e w' ⟨rfl,⟨nd,rfl⟩⟩;refine ⟨_,rfl,?_⟩))
       go_roundg k1
       case measure=>have:=HK1.out;omega
       case rel=>exact ⟨(x3_1),(wrap64 (x11_1 + 1)),byae,byae,H',⟨byai⟩,⟨byaf BK125.out⟩,⟨byad GE125.out⟩⟩
     ·rw [if_neg c6] at H
      exact absurd H (by simp)
    ·rw [if_neg c5] at H
     exact absurd H (by simp)
   ·rw [if_neg c4] at H
    have c4b0:=decide_eq_false c4
    clear c4
    have H':=qA.mk H
    clear H
    obtain ⟨hcz11_0,hcz11_1,hcz11_2,hfz11_0,hfz11_1,hfz11_2⟩:=cz3 BK125.out
    go_wp2
    go_loopg [3,25] k1 (fun kq v3 v25 w'=>∃ (x3_2 : Int) (x25_2 : Int),v3 = .int .i64 x3_2∧v25 = .int .i64 x25_2∧qA (zO.l1 kq x3_2 l0_2 (l0_2.length : Int) x25_2 = some r)∧qA (kq ≤ k1)∧qA (w'.heap[gb125]? = some (.cells #[.int .i64 a0_0,(.slice A0_1 l0_1.length c0_1),(.slice A0_2 l0_2.length c0_2)] 56 (0,0)))∧qA (Below w.heap.size w w'))
    case atStart=>exact ⟨(x3_1),(0),byae,byae,H',⟨Nat.le_refl _⟩,⟨byaf BK125.out⟩,⟨byad GE125.out⟩⟩
    case round =>
     clear H'
     try clear hx1
     try clear hx126_0
     obtain ⟨x3_2,x25_2,rfl,rfl,HA,HK2,BK125,HB⟩:=hrel
     cases gk with
     | zero=>exact absurd HA.out (by simp [zO.l1])
     | succ k2 =>
      have H:=HA.out
      clear HA
      simp only [zO.l1] at H
      by_cases c12 : x25_2 < (l0_2.length : Int)
      ·rw [if_pos c12] at H
       have c12b0:=decide_eq_true c12
       clear c12
       by_cases c13 : 0 ≤ x25_2
       ·rw [if_pos c13] at H
        have c13b0:=decide_eq_true c13
        clear c13
        by_cases c14 : x25_2 < (l0_2.length : Int)
        ·rw [if_pos c14] at H
         have c14b0:=decide_eq_true c14
         clear c14
         replace H:=Option.bind_eq_some_iff.mp H
         obtain ⟨t130,A150,H⟩:=H
         try dsimp only at H
         have A15:=qA.mk A150
         clear A150
         have H':=qA.mk H
         clear H
         have p128 : 0 ≤ (x25_2 : Int):=of_decide_eq_true byag
         have q128 : x25_2 < (l0_2.length : Int):=of_decide_eq_true byag
         obtain ⟨ad128,A128_1,c128_1,A128_2,c128_2,e128,hx128_0,hx128_1,hx128_2,hl128_1,hi128_1,hl128_2,hi128_2⟩:=Zj HR0_2.out x25_2 p128 q128
         cases e128
         replace hx128_0:=(HB.out.cell (World.block_lt_of_cell? w _ hx128_0)).trans hx128_0
         replace hx128_1:=(HB.out.cell (World.block_lt_of_cell? w _ hx128_1)).trans hx128_1
         replace hx128_2:=(HB.out.cell (World.block_lt_of_cell? w _ hx128_2)).trans hx128_2
         have HR128_1:=qA.mk hi128_1
         have HC128_1:=qA.mk hl128_1
         clear hi128_1 hl128_1
         have HR128_2:=qA.mk hi128_2
         have HC128_2:=qA.mk hl128_2
         clear hi128_2 hl128_2
         replace p128:=eq_true p128
         replace q128:=eq_true q128
         go_wp2_with (first|((with_reducible refine qP (N:=7) rfl ?_);refine zV (N:=7) (cs:=#[.int .i64 0,.slice none 0 0,.slice none 0 0]) (t:=56) ?_;intro gb129 hg w16 hbox hb;have n_:=q_6 (qH BK125.out hb) (qC (byad GE125.out) hb) (hbox) ((bycl GE125.out : w.heap.size ≤ gb129)) ((bycl GE125.out : w.heap.size ≤ gb129)) ((by rw [hg];exact Nat.ne_of_lt (vF BK125.out) : gb125≠gb129));clear BK125 HB;obtain ⟨BK125,HB,BK129,GW129,GE129,NB125_129⟩:=n_;have NB129_125:=ns NB125_129;clear hb hbox hg;have hnb17:=NB129_125.out;have hnc17:=NB125_129.out;obtain ⟨hcz18_0,hcz18_1,hcz18_2,hfz18_0,hfz18_1,hfz18_2⟩:=cz3 BK129.out)|((with_reducible refine qI (f:=70) rfl ?_);refine qY (some 31) rfl rfl Try.func70 (by kernel_rfl) rfl #[.agg #[.int .i64 ((qM l0_2 x25_2).f0),.slice A128_1 ((qM l0_2 x25_2).f1).length c128_1,.slice A128_2 ((qM l0_2 x25_2).f2).length c128_2]] rfl byah ?_;(with_reducible refine (ih k2 byar ((qM l0_2 x25_2).f0) _ _ ((qM l0_2 x25_2).f1) _ _ ((qM l0_2 x25_2).f2) t130 _ ?side1 ?side2 ?side3 ?side4 A15.out).mono ?_);(case side1=>exact Kd.vU HR128_1.out (byaj GE125.out GE129.out));(case side2=>exact HC128_1.out);(case side3=>exact Kd.vU HR128_2.out (byaj GE125.out GE129.out));(case side4=>exact HC128_2.out);rintro e w19 ⟨rfl,hb⟩;refine ⟨_,rfl,?_⟩;have n_:=q_3 (jQ (g:=gb125) (o:=.cells #[.int .i64 a0_0,.slice A0_1 l0_1.length c0_1,.slice (some ad128) l0_2.length c0_2] 56 (0,0)) (byak NB125_129.out BK125.out) hb) (jQ (g:=gb129) (o:=.cells #[.int .i64 ((qM l0_2 x25_2).f0),.slice A128_1 ((qM l0_2 x25_2).f1).length c128_1,.slice A128_2 ((qM l0_2 x25_2).f2).length c128_2] 56 (0,0)) (by (with_reducible repeat (first|refine qF ?_ _|refine qG ?_|refine qE ?_ _));refine qO (cs:=#[.int .i64 ((qM l0_2 x25_2).f0),.slice A128_1 ((qM l0_2 x25_2).f1).length c128_1,.slice none 0 0]) ?_ 2 _ rfl;(with_reducible repeat (first|refine qF ?_ _|refine qG ?_|refine qE ?_ _));refine qO (cs:=#[.int .i64 ((qM l0_2 x25_2).f0),.slice none 0 0,.slice none 0 0]) ?_ 1 _ rfl;(with_reducible repeat (first|refine qF ?_ _|refine qG ?_|refine qE ?_ _));refine qO (cs:=#[.int .i64 0,.slice none 0 0,.slice none 0 0]) ?_ 0 _ rfl;(with_reducible repeat (first|refine qF ?_ _|refine qG ?_|refine qE ?_ _));exact BK129.out) hb) (qC (byaj GE125.out GE129.out) hb);clear BK125 BK129 HB;obtain ⟨BK125,BK129,HB⟩:=n_;clear hb))
         go_roundg k2
         case measure=>have:=HK1.out;have:=HK2.out;omega
         case rel=>exact ⟨(Go.bits .or .i64 x3_2 t130),(wrap64 (x25_2 + 1)),byae,byae,H',⟨byar⟩,⟨byaf BK125.out⟩,⟨byaj GE125.out GE129.out⟩⟩
        ·rw [if_neg c14] at H
         exact absurd H (by simp)
       ·rw [if_neg c13] at H
        exact absurd H (by simp)
      ·rw [if_neg c12] at H
       have c12b0:=decide_eq_false c12
       clear c12
       obtain rfl:=Option.some.inj H
       go_wp2
       go_ret
       exact ⟨byac,byad GE125.out⟩
end Go.Proofs.Ytkkbdimegpdbgaa.P
