/- Functions of the program as Lean functions, and the walks that show that the calls answer so; written by a program of this session (a changed print) and by hand. -/
import Derived.Test.YtkkbdimegpdbgaaQdPx0
import Derived.Test.YtkkbdimegpdbgaaQdF1
import Derived.Test.YtkkbdimegpdbgaaQdPx1
namespace Go.Proofs.Ytkkbdimegpdbgaa.P
open Go.RowKit Go.Proofs.YtkkbdimegpdbgaaW.PrintWords Go.Proofs.YtkkbdimegpdbgaaW.PrintLast Go.Proofs.YtkkbdimegpdbgaaW.PrintMore
attribute [local go_sem] uH uI uQ uR vW vV uF uG
set_option linter.unusedVariables false
set_option linter.unusedSimpArgs false
mutual
def zD.j0 : Nat→Bool→Int→List Int→List (S56)→Option (Int)
 | 0,_,_,_,_=>none
 | k + 1,x22,x115000,x115001,x115002=>if x22 = true then (some 4) else ((threshold_bad.f x115001).bind fun t115=>(if t115 = true then (some 5) else ((jH.f k x115001).bind fun bt116=>(if bt116.2 = 0 then (zD.l0 k x115002 (x115002.length : Int) 0) else (some bt116.2)))))
def zD.l0 : Nat→List (S56)→Int→Int→Option (Int)
 | 0,_,_,_=>none
 | k + 1,x36,x37,x38=>if x38 < x37 then (if 0 ≤ x38 then (if x38 < (x36.length : Int) then ((zD.f k ((qX x36 x38).f0) ((qX x36 x38).f1) ((qX x36 x38).f2)).bind fun t120=>(if t120 = 0 then (zD.l0 k x36 x37 (wrap64 (x38 + 1))) else (some t120))) else (none)) else (none)) else (some 0)
def zD.f : Nat→Int→List Int→List (S56)→Option (Int)
 | 0,_,_,_=>none
 | k + 1,a0_0,l0_1,l0_2=>if a0_0 < 1 then (zD.j0 k true a0_0 l0_1 l0_2) else (zD.j0 k (decide (a0_0 > (wrap64 ((l0_1.length : Int) + (l0_2.length : Int))))) a0_0 l0_1 l0_2)
end
theorem zD.mono_l : ∀ k,(∀ y0 y1 y2,LeO (zD.f k y0 y1 y2) (zD.f (k + 1) y0 y1 y2))∧(∀ y0 y1 y2 y3,LeO (zD.j0 k y0 y1 y2 y3) (zD.j0 (k + 1) y0 y1 y2 y3))∧(∀ y0 y1 y2,LeO (zD.l0 k y0 y1 y2) (zD.l0 (k + 1) y0 y1 y2))
 | 0=>⟨fun _ _ _ r h=>by simp [zD.f] at h,fun _ _ _ _ r h=>by simp [zD.j0] at h,fun _ _ _ r h=>by simp [zD.l0] at h⟩
 | k + 1=>by
  obtain ⟨ih0,ih1,ih2⟩:=zD.mono_l k
  refine ⟨?_,?_,?_⟩
  ·intro y0 y1 y2
   unfold zD.f
   repeat' first
   | (with_reducible exact ih0 _ _ _)
   | (with_reducible exact ih1 _ _ _ _)
   | (with_reducible exact ih2 _ _ _)
   | (with_reducible exact jH.mono _ _)
   | (with_reducible exact LeO.refl _)
   | (with_reducible exact LeO.none _)
   | (with_reducible refine LeO.ite ?_ ?_)
   | (with_reducible refine LeO.bind ?_ (fun _=>?_))
   | exact ih0 _ _ _
   | exact ih1 _ _ _ _
   | exact ih2 _ _ _
   | exact jH.mono _ _
   | exact LeO.none _
   | refine LeO.ite ?_ ?_
   | refine LeO.bind ?_ (fun _=>?_)
  ·intro y0 y1 y2 y3
   unfold zD.j0
   repeat' first
   | (with_reducible exact ih0 _ _ _)
   | (with_reducible exact ih1 _ _ _ _)
   | (with_reducible exact ih2 _ _ _)
   | (with_reducible exact jH.mono _ _)
   | (with_reducible exact LeO.refl _)
   | (with_reducible exact LeO.none _)
   | (with_reducible refine LeO.ite ?_ ?_)
   | (with_reducible refine LeO.bind ?_ (fun _=>?_))
   | exact ih0 _ _ _
   | exact ih1 _ _ _ _
   | exact ih2 _ _ _
   | exact jH.mono _ _
   | exact LeO.none _
   | refine LeO.ite ?_ ?_
   | refine LeO.bind ?_ (fun _=>?_)
  ·intro y0 y1 y2
   unfold zD.l0
   repeat' first
   | (with_reducible exact ih0 _ _ _)
   | (with_reducible exact ih1 _ _ _ _)
   | (with_reducible exact ih2 _ _ _)
   | (with_reducible exact jH.mono _ _)
   | (with_reducible exact LeO.refl _)
   | (with_reducible exact LeO.none _)
   | (with_reducible refine LeO.ite ?_ ?_)
   | (with_reducible refine LeO.bind ?_ (fun _=>?_))
   | exact ih0 _ _ _
   | exact ih1 _ _ _ _
   | exact ih2 _ _ _
   | exact jH.mono _ _
   | exact LeO.none _
   | refine LeO.ite ?_ ?_
   | refine LeO.bind ?_ (fun _=>?_)
theorem zD.mono : ∀ a0 a1 a2 k,LeO (zD.f k a0 a1 a2) (zD.f (k + 1) a0 a1 a2):=by
 intro a0 a1 a2 k
 obtain ⟨ih0,ih1,ih2⟩:=zD.mono_l k
 exact ih0 a0 a1 a2
set_option maxHeartbeats 8000000 in
set_option maxRecDepth 100000 in
theorem zD.calls (k : Nat) : ∀ (a0_0 : Int) (A0_1 : Option Addr) (c0_1 : Nat) (l0_1 : List Int) (A0_2 : Option Addr) (c0_2 : Nat) (l0_2 : List (S56)) (r : Int) (w : World) (hr0_1 : Kd.C (Kd.int .i64) w A0_1 l0_1.length l0_1) (hc0_1 : l0_1.length ≤ c0_1) (hr0_2 : Kd.C k56 w A0_2 l0_2.length l0_2) (hc0_2 : l0_2.length ≤ c0_2) (h : zD.f k a0_0 l0_1 l0_2 = some r),
  Calls Try.prog 83 #[.agg #[.int .i64 a0_0,.slice A0_1 l0_1.length c0_1,.slice A0_2 l0_2.length c0_2]] w fun e w'=>e = .returned (.int .i64 r)∧Below w.heap.size w w':=by
 induction k using Nat.strongRecOn with
 | _ k ih =>
 intro a0_0 A0_1 c0_1 l0_1 A0_2 c0_2 l0_2 r w hr0_1 hc0_1 hr0_2 hc0_2 h
 cases k with
 | zero=>exact absurd h (by simp [zD.f])
 | succ k =>
 simp only [zD.f] at h
 have hu56:=Try.underlying56
 have HR0_1:=qA.mk hr0_1
 have HC0_1:=qA.mk hc0_1
 clear hr0_1 hc0_1
 have HR0_2:=qA.mk hr0_2
 have HC0_2:=qA.mk hc0_2
 clear hr0_2 hc0_2
 have HB:=qA.mk (Below.refl w.heap.size w)
 have H : (if a0_0 < 1 then (zD.j0 k true a0_0 l0_1 l0_2) else (zD.j0 k (decide (a0_0 > (wrap64 ((l0_1.length : Int) + (l0_2.length : Int))))) a0_0 l0_1 l0_2)) = some r:=h
 clear h
 have HC2:=qA.mk H
 clear H
 go_enter Try.func83,Try.ntmps83
 go_upto_region 1 with (first|((with_reducible refine zK (N:=1) rfl ?_);(try (refine uX (by rfl) ?_;dsimp only));refine q9 ?hg (N:=1) ?hd (cs:=#[.int .i64 a0_0,.slice A0_1 l0_1.length c0_1,.slice A0_2 l0_2.length c0_2]) (t:=56) ?hr ?_;(case hd=>rfl);(case hg=>rfl);(case hr=>exact byaa);intro gb114 hg w3 hbox hb;have n0_:=qA.mk (qE byab hb);have n1_:=qA.mk (hbox);have n2_:=qA.mk ((byby : w.heap.size ≤ gb114));have n3_:=qA.mk ((byby : w.heap.size ≤ gb114));clear HB;have HB:=n0_;have BK114:=n1_;have GW114:=n2_;have GE114:=n3_;clear n0_ n1_ n2_ n3_;clear hb hbox hg))
 (try simp only [Act.put,List.setIfInBounds_toArray,List.set_cons_zero,List.set_cons_succ])
 go_cut [22] (fun v22 wc=>∃ (kq : Nat) (x22_1 : Bool),v22 = .bool x22_1∧qA (zD.j0 kq x22_1 a0_0 l0_1 l0_2 = some r)∧qA (kq ≤ k)∧qA (wc.heap[gb114]? = some (.cells #[.int .i64 a0_0,(.slice A0_1 l0_1.length c0_1),(.slice A0_2 l0_2.length c0_2)] 56 (0,0)))∧qA (Below w.heap.size w wc))
 case first =>
  have H:=HC2.out
  clear HC2
  by_cases c4 : a0_0 < 1
  ·rw [if_pos c4] at H
   have c4b0 : decide (a0_0 < 1) = true:=decide_eq_true c4
   clear c4
   (first|rw [c4b0]|(simp only [qY,zA];rw [c4b0])|skip)
   have H':=qA.mk H
   clear H
   have hcz5_0 : w3.cell? ⟨gb114,0,none⟩ = some (.int .i64 a0_0):=(qC BK114.out 0).trans rfl
   have hcz5_1 : w3.cell? ⟨gb114,1,none⟩ = some (.slice A0_1 l0_1.length c0_1):=(qC BK114.out 1).trans rfl
   have hcz5_2 : w3.cell? ⟨gb114,2,none⟩ = some (.slice A0_2 l0_2.length c0_2):=(qC BK114.out 2).trans rfl
   have hfz5_0:=qB BK114.out 0
   have hfz5_1:=qB BK114.out 1
   have hfz5_2:=qB BK114.out 2
   go_wp2
   go_meet
   case rel=>exact ⟨_,(true),byae,H',⟨byap⟩,⟨byaf BK114.out⟩,⟨byad GE114.out⟩⟩
  ·rw [if_neg c4] at H
   have c4b0 : decide (a0_0 < 1) = false:=decide_eq_false c4
   clear c4
   (first|rw [c4b0]|(simp only [qY,zA];rw [c4b0])|skip)
   have H':=qA.mk H
   clear H
   have hcz6_0 : w3.cell? ⟨gb114,0,none⟩ = some (.int .i64 a0_0):=(qC BK114.out 0).trans rfl
   have hcz6_1 : w3.cell? ⟨gb114,1,none⟩ = some (.slice A0_1 l0_1.length c0_1):=(qC BK114.out 1).trans rfl
   have hcz6_2 : w3.cell? ⟨gb114,2,none⟩ = some (.slice A0_2 l0_2.length c0_2):=(qC BK114.out 2).trans rfl
   have hfz6_0:=qB BK114.out 0
   have hfz6_1:=qB BK114.out 1
   have hfz6_2:=qB BK114.out 2
   go_wp2
   go_meet
   case rel=>exact ⟨_,(decide (a0_0 > (wrap64 ((l0_1.length : Int) + (l0_2.length : Int))))),byae,H',⟨byap⟩,⟨byaf BK114.out⟩,⟨byad GE114.out⟩⟩
 case rest =>
  clear HC2
  try clear p2
  try clear c4
  try clear c4b0
  try clear p6
  try clear hcz5_0
  try clear hcz5_1
  try clear hcz5_2
  try clear hcz6_0
  try clear hcz6_1
  try clear hcz6_2
  try clear hfz5_0
  try clear hfz5_1
  try clear hfz5_2
  try clear hfz6_0
  try clear hfz6_1
  try clear hfz6_2
  obtain ⟨kq,x22_1,rfl,HA,HJ1,BK114,HB⟩:=hcut
  cases kq with
  | zero=>exact absurd HA.out (by simp [zD.j0])
  | succ kj1 =>
   have H:=HA.out
   clear HA
   simp only [zD.j0] at H
   by_cases c7 : x22_1 = true
   ·subst c7
    have H1 : (some 4) = some r:=by rw [if_pos rfl] at H;exact H
    clear H
    have H:=H1
    clear H1
    obtain rfl:=Option.some.inj H
    go_wp2
    go_ret
    exact ⟨byac,byad GE114.out⟩
   ·replace c7:=Bool.eq_false_iff.mpr c7
    subst c7
    have H1 : ((threshold_bad.f l0_1).bind fun t115=>(if t115 = true then (some 5) else ((jH.f kj1 l0_1).bind fun bt116=>(if bt116.2 = 0 then (zD.l0 kj1 l0_2 (l0_2.length : Int) 0) else (some bt116.2))))) = some r:=by rw [if_neg (show ¬ (false = true) by decide)] at H;exact H
    clear H
    have H:=H1
    clear H1
    replace H:=Option.bind_eq_some_iff.mp H
    obtain ⟨t115,A80,H⟩:=H
    replace H : (if t115 = true then (some 5) else ((jH.f kj1 l0_1).bind fun bt116=>(if bt116.2 = 0 then (zD.l0 kj1 l0_2 (l0_2.length : Int) 0) else (some bt116.2)))) = some r:=H
    have A8:=qA.mk A80
    clear A80
    by_cases c9 : t115 = true
    ·subst c9
     have H1 : (some 5) = some r:=by rw [if_pos rfl] at H;exact H
     clear H
     have H:=H1
     clear H1
     obtain rfl:=Option.some.inj H
     have hcz10_0 : wc.cell? ⟨gb114,0,none⟩ = some (.int .i64 a0_0):=(qC BK114.out 0).trans rfl
     have hcz10_1 : wc.cell? ⟨gb114,1,none⟩ = some (.slice A0_1 l0_1.length c0_1):=(qC BK114.out 1).trans rfl
     have hcz10_2 : wc.cell? ⟨gb114,2,none⟩ = some (.slice A0_2 l0_2.length c0_2):=(qC BK114.out 2).trans rfl
     have hfz10_0:=qB BK114.out 0
     have hfz10_1:=qB BK114.out 1
     have hfz10_2:=qB BK114.out 2
     go_wp2_with (first|((with_reducible refine qI (f:=88) rfl ?_);refine zL (some 25) rfl rfl Try.func88 (by kernel_rfl) rfl #[.slice A0_1 l0_1.length c0_1,.func (.func 89) #[] #[]] rfl byah ?_;(with_reducible refine (threshold_bad.calls _ _ l0_1 true _ ?side1 ?side2 A8.out).mono ?_);(case side1=>exact byaq HR0_1.out);(case side2=>exact HC0_1.out);rintro e w' ⟨rfl,⟨nd,rfl⟩⟩;refine ⟨_,rfl,?_⟩))
     go_ret
     exact ⟨byac,byad GE114.out⟩
    ·replace c9:=Bool.eq_false_iff.mpr c9
     subst c9
     have H1 : ((jH.f kj1 l0_1).bind fun bt116=>(if bt116.2 = 0 then (zD.l0 kj1 l0_2 (l0_2.length : Int) 0) else (some bt116.2))) = some r:=by rw [if_neg (show ¬ (false = true) by decide)] at H;exact H
     clear H
     have H:=H1
     clear H1
     replace H:=Option.bind_eq_some_iff.mp H
     obtain ⟨⟨t116,t117⟩,A110,H⟩:=H
     replace H : (if t117 = 0 then (zD.l0 kj1 l0_2 (l0_2.length : Int) 0) else (some t117)) = some r:=H
     have A11:=qA.mk A110
     clear A110
     by_cases c12 : t117 = 0
     ·rw [if_pos c12] at H
      have c12b0 : (t117 == 0) = true:=beq_iff_eq.mpr c12
      have c12b1 : (t117 != 0) = false:=bne_eq_false_iff_eq.mpr c12
      clear c12
      have H':=qA.mk H
      clear H
      have hcz13_0 : wc.cell? ⟨gb114,0,none⟩ = some (.int .i64 a0_0):=(qC BK114.out 0).trans rfl
      have hcz13_1 : wc.cell? ⟨gb114,1,none⟩ = some (.slice A0_1 l0_1.length c0_1):=(qC BK114.out 1).trans rfl
      have hcz13_2 : wc.cell? ⟨gb114,2,none⟩ = some (.slice A0_2 l0_2.length c0_2):=(qC BK114.out 2).trans rfl
      have hfz13_0:=qB BK114.out 0
      have hfz13_1:=qB BK114.out 1
      have hfz13_2:=qB BK114.out 2
      go_wp2_with (first|((with_reducible refine qI (f:=88) rfl ?_);refine zL (some 25) rfl rfl Try.func88 (by kernel_rfl) rfl #[.slice A0_1 l0_1.length c0_1,.func (.func 89) #[] #[]] rfl byah ?_;(with_reducible refine (threshold_bad.calls _ _ l0_1 false _ ?side1 ?side2 A8.out).mono ?_);(case side1=>exact byaq HR0_1.out);(case side2=>exact HC0_1.out);rintro e w' ⟨rfl,⟨nd,rfl⟩⟩;refine ⟨_,rfl,?_⟩)|((with_reducible refine qI (f:=90) rfl ?_);refine zL (some 29) rfl rfl Try.func90 (by kernel_rfl) rfl #[.slice A0_1 l0_1.length c0_1] rfl byah ?_;(with_reducible refine (jH.calls kj1 _ _ l0_1 t116 t117 _ ?side1 ?side2 A11.out).mono ?_);(case side1=>exact byca HR0_1.out GE114.out);(case side2=>exact HC0_1.out);rintro e w' ⟨rfl,⟨nd,rfl⟩⟩;refine ⟨_,rfl,?_⟩))
      go_loopg [38] kj1 (fun kq v38 w'=>∃ (x38_2 : Int),v38 = .int .i64 x38_2∧qA (zD.l0 kq l0_2 (l0_2.length : Int) x38_2 = some r)∧qA (kq ≤ kj1)∧qA (w'.heap[gb114]? = some (.cells #[.int .i64 a0_0,(.slice A0_1 l0_1.length c0_1),(.slice A0_2 l0_2.length c0_2)] 56 (0,0)))∧qA (Below w.heap.size w w'))
      case atStart=>exact ⟨(0),byae,H',⟨Nat.le_refl _⟩,⟨byaf BK114.out⟩,⟨byad GE114.out⟩⟩
      case round =>
       clear H'
       try clear c1
       try clear p2
       try clear c4
       try clear c4b0
       try clear p6
       try clear c7
       try clear c8
       try clear c9
       try clear c12
       try clear c12b0
       try clear c12b1
       try clear hcz10_0
       try clear hcz10_1
       try clear hcz10_2
       try clear hcz13_0
       try clear hcz13_1
       try clear hcz13_2
       try clear hcz5_0
       try clear hcz5_1
       try clear hcz5_2
       try clear hcz6_0
       try clear hcz6_1
       try clear hcz6_2
       try clear hfz10_0
       try clear hfz10_1
       try clear hfz10_2
       try clear hfz13_0
       try clear hfz13_1
       try clear hfz13_2
       try clear hfz5_0
       try clear hfz5_1
       try clear hfz5_2
       try clear hfz6_0
       try clear hfz6_1
       try clear hfz6_2
       try clear p2
       try clear p6
       obtain ⟨x38_2,rfl,HA,HK2,BK114,HB⟩:=hrel
       cases gk with
       | zero=>exact absurd HA.out (by simp [zD.l0])
       | succ k2 =>
        have H:=HA.out
        clear HA
        simp only [zD.l0] at H
        by_cases c14 : x38_2 < (l0_2.length : Int)
        ·rw [if_pos c14] at H
         have c14b0 : decide (x38_2 < (l0_2.length : Int)) = true:=decide_eq_true c14
         clear c14
         by_cases c15 : 0 ≤ x38_2
         ·rw [if_pos c15] at H
          have c15b0 : decide (0 ≤ x38_2) = true:=decide_eq_true c15
          clear c15
          by_cases c16 : x38_2 < (l0_2.length : Int)
          ·rw [if_pos c16] at H
           have c16b0 : decide (x38_2 < (l0_2.length : Int)) = true:=decide_eq_true c16
           clear c16
           replace H:=Option.bind_eq_some_iff.mp H
           obtain ⟨t120,A170,H⟩:=H
           replace H : (if t120 = 0 then (zD.l0 k2 l0_2 (l0_2.length : Int) (wrap64 (x38_2 + 1))) else (some t120)) = some r:=H
           have A17:=qA.mk A170
           clear A170
           by_cases c18 : t120 = 0
           ·rw [if_pos c18] at H
            have c18b0 : (t120 == 0) = true:=beq_iff_eq.mpr c18
            have c18b1 : (t120 != 0) = false:=bne_eq_false_iff_eq.mpr c18
            clear c18
            have H':=qA.mk H
            clear H
            have p118 : 0 ≤ (x38_2 : Int):=of_decide_eq_true byag
            have q118 : x38_2 < (l0_2.length : Int):=of_decide_eq_true byag
            obtain ⟨ad118,A118_1,c118_1,A118_2,c118_2,e118,hx118_0,hx118_1,hx118_2,hl118_1,hi118_1,hl118_2,hi118_2⟩:=kW HR0_2.out x38_2 p118 q118
            cases e118
            replace hx118_0:=(HB.out.cell (World.block_lt_of_cell? w _ hx118_0)).trans hx118_0
            replace hx118_1:=(HB.out.cell (World.block_lt_of_cell? w _ hx118_1)).trans hx118_1
            replace hx118_2:=(HB.out.cell (World.block_lt_of_cell? w _ hx118_2)).trans hx118_2
            have HR118_1:=qA.mk hi118_1
            have HC118_1:=qA.mk hl118_1
            clear hi118_1 hl118_1
            have HR118_2:=qA.mk hi118_2
            have HC118_2:=qA.mk hl118_2
            clear hi118_2 hl118_2
            replace p118:=eq_true p118
            replace q118:=eq_true q118
            go_wp2_with (first|((with_reducible refine zK (N:=6) rfl ?_);(try (refine uX (by rfl) ?_;dsimp only));refine q9 ?hg (N:=6) ?hd (cs:=#[.int .i64 0,.slice none 0 0,.slice none 0 0]) (t:=56) ?hr ?_;(case hd=>rfl);(case hg=>rfl);(case hr=>exact byaa);intro gb119 hg w19 hbox hb;have n0_:=qA.mk (qH (g:=gb114) (o:=.cells #[.int .i64 a0_0,.slice A0_1 l0_1.length c0_1,.slice (some ad118) l0_2.length c0_2] 56 (0,0)) (byaf BK114.out) hb);have n1_:=qA.mk (qE (byad GE114.out) hb);have n2_:=qA.mk (hbox);have n3_:=qA.mk ((bybz GE114.out : w.heap.size ≤ gb119));have n4_:=qA.mk ((bybz GE114.out : w.heap.size ≤ gb119));have n5_:=qA.mk ((by rw [hg];exact Nat.ne_of_lt (jF (g:=gb114) (o:=.cells #[.int .i64 a0_0,.slice A0_1 l0_1.length c0_1,.slice (some ad118) l0_2.length c0_2] 56 (0,0)) (byaf BK114.out)) : gb114≠gb119));have n6_:=qA.mk ((by rw [hg];exact Nat.ne_of_gt (jF (g:=gb114) (o:=.cells #[.int .i64 a0_0,.slice A0_1 l0_1.length c0_1,.slice (some ad118) l0_2.length c0_2] 56 (0,0)) (byaf BK114.out)) : gb119≠gb114));clear BK114;clear HB;have BK114:=n0_;have HB:=n1_;have BK119:=n2_;have GW119:=n3_;have GE119:=n4_;have NB114_119:=n5_;have NB119_114:=n6_;clear n0_ n1_ n2_ n3_ n4_ n5_ n6_;clear hb hbox hg;have hnb20:=NB119_114.out;have hnc20:=NB114_119.out;have hcz21_0 : w19.cell? ⟨gb119,0,none⟩ = some (.int .i64 0):=(qC BK119.out 0).trans rfl;have hcz21_1 : w19.cell? ⟨gb119,1,none⟩ = some (.slice none 0 0):=(qC BK119.out 1).trans rfl;have hcz21_2 : w19.cell? ⟨gb119,2,none⟩ = some (.slice none 0 0):=(qC BK119.out 2).trans rfl;have hfz21_0:=qB BK119.out 0;have hfz21_1:=qB BK119.out 1;have hfz21_2:=qB BK119.out 2)|((with_reducible refine qI (f:=83) rfl ?_);refine zL (some 43) rfl rfl Try.func83 (by kernel_rfl) rfl #[.agg #[.int .i64 ((qX l0_2 x38_2).f0),.slice A118_1 ((qX l0_2 x38_2).f1).length c118_1,.slice A118_2 ((qX l0_2 x38_2).f2).length c118_2]] rfl byah ?_;(with_reducible refine (ih k2 (by have:=HJ1.out;have:=HK2.out;omega) ((qX l0_2 x38_2).f0) _ _ ((qX l0_2 x38_2).f1) _ _ ((qX l0_2 x38_2).f2) t120 _ ?side1 ?side2 ?side3 ?side4 A17.out).mono ?_);(case side1=>exact Kd.vK HR118_1.out (byaj GE114.out GE119.out));(case side2=>exact HC118_1.out);(case side3=>exact Kd.vK HR118_2.out (byaj GE114.out GE119.out));(case side4=>exact HC118_2.out);rintro e w22 ⟨rfl,hb⟩;refine ⟨_,rfl,?_⟩;have n0_:=qA.mk (qH (g:=gb114) (o:=.cells #[.int .i64 a0_0,.slice A0_1 l0_1.length c0_1,.slice (some ad118) l0_2.length c0_2] 56 (0,0)) (byak NB114_119.out BK114.out) hb);have n1_:=qA.mk (qH (g:=gb119) (o:=.cells #[.int .i64 ((qX l0_2 x38_2).f0),.slice A118_1 ((qX l0_2 x38_2).f1).length c118_1,.slice A118_2 ((qX l0_2 x38_2).f2).length c118_2] 56 (0,0)) (by (with_reducible repeat (first|refine qG ?_ _|refine qJ ?_|refine qF ?_ _));refine zJ (cs:=#[.int .i64 ((qX l0_2 x38_2).f0),.slice A118_1 ((qX l0_2 x38_2).f1).length c118_1,.slice none 0 0]) ?_ 2 _ rfl;(with_reducible repeat (first|refine qG ?_ _|refine qJ ?_|refine qF ?_ _));refine zJ (cs:=#[.int .i64 ((qX l0_2 x38_2).f0),.slice none 0 0,.slice none 0 0]) ?_ 1 _ rfl;(with_reducible repeat (first|refine qG ?_ _|refine qJ ?_|refine qF ?_ _));refine zJ (cs:=#[.int .i64 0,.slice none 0 0,.slice none 0 0]) ?_ 0 _ rfl;(with_reducible repeat (first|refine qG ?_ _|refine qJ ?_|refine qF ?_ _));exact BK119.out) hb);have n2_:=qA.mk (qE (byaj GE114.out GE119.out) hb);clear BK114;clear BK119;clear HB;have BK114:=n0_;have BK119:=n1_;have HB:=n2_;clear n0_ n1_ n2_;(try clear hb);(try clear hb2);(try clear hk);(try clear hi)))
            go_roundg k2
            case measure=>have:=HJ1.out;have:=HK2.out;omega
            case rel=>exact ⟨(wrap64 (x38_2 + 1)),byae,H',⟨by have:=HJ1.out;have:=HK2.out;omega⟩,⟨byaf BK114.out⟩,⟨byaj GE114.out GE119.out⟩⟩
           ·rw [if_neg c18] at H
            have c18b0 : (t120 == 0) = false:=beq_eq_false_iff_ne.mpr c18
            have c18b1 : (t120 != 0) = true:=bne_iff_ne.mpr c18
            obtain rfl:=Option.some.inj H
            have p118 : 0 ≤ (x38_2 : Int):=of_decide_eq_true byag
            have q118 : x38_2 < (l0_2.length : Int):=of_decide_eq_true byag
            obtain ⟨ad118,A118_1,c118_1,A118_2,c118_2,e118,hx118_0,hx118_1,hx118_2,hl118_1,hi118_1,hl118_2,hi118_2⟩:=kW HR0_2.out x38_2 p118 q118
            cases e118
            replace hx118_0:=(HB.out.cell (World.block_lt_of_cell? w _ hx118_0)).trans hx118_0
            replace hx118_1:=(HB.out.cell (World.block_lt_of_cell? w _ hx118_1)).trans hx118_1
            replace hx118_2:=(HB.out.cell (World.block_lt_of_cell? w _ hx118_2)).trans hx118_2
            have HR118_1:=qA.mk hi118_1
            have HC118_1:=qA.mk hl118_1
            clear hi118_1 hl118_1
            have HR118_2:=qA.mk hi118_2
            have HC118_2:=qA.mk hl118_2
            clear hi118_2 hl118_2
            replace p118:=eq_true p118
            replace q118:=eq_true q118
            go_wp2_with (first|((with_reducible refine zK (N:=6) rfl ?_);(try (refine uX (by rfl) ?_;dsimp only));refine q9 ?hg (N:=6) ?hd (cs:=#[.int .i64 0,.slice none 0 0,.slice none 0 0]) (t:=56) ?hr ?_;(case hd=>rfl);(case hg=>rfl);(case hr=>exact byaa);intro gb119 hg w23 hbox hb;have n0_:=qA.mk (qH (g:=gb114) (o:=.cells #[.int .i64 a0_0,.slice A0_1 l0_1.length c0_1,.slice (some ad118) l0_2.length c0_2] 56 (0,0)) (byaf BK114.out) hb);have n1_:=qA.mk (qE (byad GE114.out) hb);have n2_:=qA.mk (hbox);have n3_:=qA.mk ((bybz GE114.out : w.heap.size ≤ gb119));have n4_:=qA.mk ((bybz GE114.out : w.heap.size ≤ gb119));have n5_:=qA.mk ((by rw [hg];exact Nat.ne_of_lt (jF (g:=gb114) (o:=.cells #[.int .i64 a0_0,.slice A0_1 l0_1.length c0_1,.slice (some ad118) l0_2.length c0_2] 56 (0,0)) (byaf BK114.out)) : gb114≠gb119));have n6_:=qA.mk ((by rw [hg];exact Nat.ne_of_gt (jF (g:=gb114) (o:=.cells #[.int .i64 a0_0,.slice A0_1 l0_1.length c0_1,.slice (some ad118) l0_2.length c0_2] 56 (0,0)) (byaf BK114.out)) : gb119≠gb114));clear BK114;clear HB;have BK114:=n0_;have HB:=n1_;have BK119:=n2_;have GW119:=n3_;have GE119:=n4_;have NB114_119:=n5_;have NB119_114:=n6_;clear n0_ n1_ n2_ n3_ n4_ n5_ n6_;clear hb hbox hg;have hnb24:=NB119_114.out;have hnc24:=NB114_119.out;have hcz25_0 : w23.cell? ⟨gb119,0,none⟩ = some (.int .i64 0):=(qC BK119.out 0).trans rfl;have hcz25_1 : w23.cell? ⟨gb119,1,none⟩ = some (.slice none 0 0):=(qC BK119.out 1).trans rfl;have hcz25_2 : w23.cell? ⟨gb119,2,none⟩ = some (.slice none 0 0):=(qC BK119.out 2).trans rfl;have hfz25_0:=qB BK119.out 0;have hfz25_1:=qB BK119.out 1;have hfz25_2:=qB BK119.out 2)|((with_reducible refine qI (f:=83) rfl ?_);refine zL (some 43) rfl rfl Try.func83 (by kernel_rfl) rfl #[.agg #[.int .i64 ((qX l0_2 x38_2).f0),.slice A118_1 ((qX l0_2 x38_2).f1).length c118_1,.slice A118_2 ((qX l0_2 x38_2).f2).length c118_2]] rfl byah ?_;(with_reducible refine (ih k2 (by have:=HJ1.out;have:=HK2.out;omega) ((qX l0_2 x38_2).f0) _ _ ((qX l0_2 x38_2).f1) _ _ ((qX l0_2 x38_2).f2) t120 _ ?side1 ?side2 ?side3 ?side4 A17.out).mono ?_);(case side1=>exact Kd.vK HR118_1.out (byaj GE114.out GE119.out));(case side2=>exact HC118_1.out);(case side3=>exact Kd.vK HR118_2.out (byaj GE114.out GE119.out));(case side4=>exact HC118_2.out);rintro e w26 ⟨rfl,hb⟩;refine ⟨_,rfl,?_⟩;have n0_:=qA.mk (qH (g:=gb114) (o:=.cells #[.int .i64 a0_0,.slice A0_1 l0_1.length c0_1,.slice (some ad118) l0_2.length c0_2] 56 (0,0)) (byak NB114_119.out BK114.out) hb);have n1_:=qA.mk (qH (g:=gb119) (o:=.cells #[.int .i64 ((qX l0_2 x38_2).f0),.slice A118_1 ((qX l0_2 x38_2).f1).length c118_1,.slice A118_2 ((qX l0_2 x38_2).f2).length c118_2] 56 (0,0)) (by (with_reducible repeat (first|refine qG ?_ _|refine qJ ?_|refine qF ?_ _));refine zJ (cs:=#[.int .i64 ((qX l0_2 x38_2).f0),.slice A118_1 ((qX l0_2 x38_2).f1).length c118_1,.slice none 0 0]) ?_ 2 _ rfl;(with_reducible repeat (first|refine qG ?_ _|refine qJ ?_|refine qF ?_ _));refine zJ (cs:=#[.int .i64 ((qX l0_2 x38_2).f0),.slice none 0 0,.slice none 0 0]) ?_ 1 _ rfl;(with_reducible repeat (first|refine qG ?_ _|refine qJ ?_|refine qF ?_ _));refine zJ (cs:=#[.int .i64 0,.slice none 0 0,.slice none 0 0]) ?_ 0 _ rfl;(with_reducible repeat (first|refine qG ?_ _|refine qJ ?_|refine qF ?_ _));exact BK119.out) hb);have n2_:=qA.mk (qE (byaj GE114.out GE119.out) hb);clear BK114;clear BK119;clear HB;have BK114:=n0_;have BK119:=n1_;have HB:=n2_;clear n0_ n1_ n2_;(try clear hb);(try clear hb2);(try clear hk);(try clear hi)))
            go_ret
            exact ⟨byac,byaj GE114.out GE119.out⟩
          ·rw [if_neg c16] at H
           exact absurd H (by simp)
         ·rw [if_neg c15] at H
          exact absurd H (by simp)
        ·rw [if_neg c14] at H
         have c14b0 : decide (x38_2 < (l0_2.length : Int)) = false:=decide_eq_false c14
         clear c14
         obtain rfl:=Option.some.inj H
         go_wp2
         go_ret
         exact ⟨byac,byad GE114.out⟩
     ·rw [if_neg c12] at H
      have c12b0 : (t117 == 0) = false:=beq_eq_false_iff_ne.mpr c12
      have c12b1 : (t117 != 0) = true:=bne_iff_ne.mpr c12
      obtain rfl:=Option.some.inj H
      have hcz27_0 : wc.cell? ⟨gb114,0,none⟩ = some (.int .i64 a0_0):=(qC BK114.out 0).trans rfl
      have hcz27_1 : wc.cell? ⟨gb114,1,none⟩ = some (.slice A0_1 l0_1.length c0_1):=(qC BK114.out 1).trans rfl
      have hcz27_2 : wc.cell? ⟨gb114,2,none⟩ = some (.slice A0_2 l0_2.length c0_2):=(qC BK114.out 2).trans rfl
      have hfz27_0:=qB BK114.out 0
      have hfz27_1:=qB BK114.out 1
      have hfz27_2:=qB BK114.out 2
      go_wp2_with (first|((with_reducible refine qI (f:=88) rfl ?_);refine zL (some 25) rfl rfl Try.func88 (by kernel_rfl) rfl #[.slice A0_1 l0_1.length c0_1,.func (.func 89) #[] #[]] rfl byah ?_;(with_reducible refine (threshold_bad.calls _ _ l0_1 false _ ?side1 ?side2 A8.out).mono ?_);(case side1=>exact byaq HR0_1.out);(case side2=>exact HC0_1.out);rintro e w' ⟨rfl,⟨nd,rfl⟩⟩;refine ⟨_,rfl,?_⟩)|((with_reducible refine qI (f:=90) rfl ?_);refine zL (some 29) rfl rfl Try.func90 (by kernel_rfl) rfl #[.slice A0_1 l0_1.length c0_1] rfl byah ?_;(with_reducible refine (jH.calls kj1 _ _ l0_1 t116 t117 _ ?side1 ?side2 A11.out).mono ?_);(case side1=>exact byca HR0_1.out GE114.out);(case side2=>exact HC0_1.out);rintro e w' ⟨rfl,⟨nd,rfl⟩⟩;refine ⟨_,rfl,?_⟩))
      go_ret
      exact ⟨byac,byad GE114.out⟩
def j5.f (k : Nat) (a0_0 : Int) (l0_1 : List Int) (l0_2 : List (S56)) : Option (Int):=(zV.f k a0_0 l0_1 l0_2).bind fun t122=>(if t122 > 4 then (some 3) else ((z8.f k a0_0 l0_1 l0_2).bind fun t123=>(if t123 > 200 then (some 3) else ((zD.f k a0_0 l0_1 l0_2).bind fun t124=>(some t124)))))
theorem j5.mono : ∀ a0 a1 a2 k,LeO (j5.f k a0 a1 a2) (j5.f (k + 1) a0 a1 a2):=by
 intro a0 a1 a2 k
 unfold j5.f
 repeat' first
   | (with_reducible exact zV.mono _ _ _ _)
   | (with_reducible exact z8.mono _ _ _ _)
   | (with_reducible exact zD.mono _ _ _ _)
   | (with_reducible exact LeO.refl _)
   | (with_reducible exact LeO.none _)
   | (with_reducible refine LeO.ite ?_ ?_)
   | (with_reducible refine LeO.bind ?_ (fun _=>?_))
   | exact zV.mono _ _ _ _
   | exact z8.mono _ _ _ _
   | exact zD.mono _ _ _ _
   | exact LeO.none _
   | refine LeO.ite ?_ ?_
   | refine LeO.bind ?_ (fun _=>?_)
set_option maxHeartbeats 8000000 in
set_option maxRecDepth 100000 in
theorem j5.calls (k : Nat) (a0_0 : Int) (A0_1 : Option Addr) (c0_1 : Nat) (l0_1 : List Int) (A0_2 : Option Addr) (c0_2 : Nat) (l0_2 : List (S56)) (r : Int) (w : World) (hr0_1 : Kd.C (Kd.int .i64) w A0_1 l0_1.length l0_1) (hc0_1 : l0_1.length ≤ c0_1) (hr0_2 : Kd.C k56 w A0_2 l0_2.length l0_2) (hc0_2 : l0_2.length ≤ c0_2) (h : j5.f k a0_0 l0_1 l0_2 = some r) :
  Calls Try.prog 69 #[.agg #[.int .i64 a0_0,.slice A0_1 l0_1.length c0_1,.slice A0_2 l0_2.length c0_2]] w fun e w'=>e = .returned (.int .i64 r)∧Below w.heap.size w w':=by
 have hu56:=Try.underlying56
 have HR0_1:=qA.mk hr0_1
 have HC0_1:=qA.mk hc0_1
 clear hr0_1 hc0_1
 have HR0_2:=qA.mk hr0_2
 have HC0_2:=qA.mk hc0_2
 clear hr0_2 hc0_2
 have HB:=qA.mk (Below.refl w.heap.size w)
 have H : ((zV.f k a0_0 l0_1 l0_2).bind fun t122=>(if t122 > 4 then (some 3) else ((z8.f k a0_0 l0_1 l0_2).bind fun t123=>(if t123 > 200 then (some 3) else ((zD.f k a0_0 l0_1 l0_2).bind fun t124=>(some t124)))))) = some r:=h
 clear h
 replace H:=Option.bind_eq_some_iff.mp H
 obtain ⟨t122,A20,H⟩:=H
 replace H : (if t122 > 4 then (some 3) else ((z8.f k a0_0 l0_1 l0_2).bind fun t123=>(if t123 > 200 then (some 3) else ((zD.f k a0_0 l0_1 l0_2).bind fun t124=>(some t124))))) = some r:=H
 have A2:=qA.mk A20
 clear A20
 by_cases c3 : t122 > 4
 ·rw [if_pos c3] at H
  have c3b0 : decide (4 < t122) = true:=decide_eq_true c3
  clear c3
  obtain rfl:=Option.some.inj H
  go_enter Try.func69,Try.ntmps69
  go_wp2_with (first|((with_reducible refine zK (N:=1) rfl ?_);refine q9 ?hg (N:=1) ?hd (cs:=#[.int .i64 a0_0,.slice A0_1 l0_1.length c0_1,.slice A0_2 l0_2.length c0_2]) (t:=56) ?hr ?_;(case hd=>rfl);(case hg=>rfl);(case hr=>exact byaa);intro gb121 hg w4 hbox hb;have n0_:=qA.mk (qE byab hb);have n1_:=qA.mk (hbox);have n2_:=qA.mk ((byby : w.heap.size ≤ gb121));have n3_:=qA.mk ((byby : w.heap.size ≤ gb121));clear HB;have HB:=n0_;have BK121:=n1_;have GW121:=n2_;have GE121:=n3_;clear n0_ n1_ n2_ n3_;clear hb hbox hg;have hcz5_0 : w4.cell? ⟨gb121,0,none⟩ = some (.int .i64 a0_0):=(qC BK121.out 0).trans rfl;have hcz5_1 : w4.cell? ⟨gb121,1,none⟩ = some (.slice A0_1 l0_1.length c0_1):=(qC BK121.out 1).trans rfl;have hcz5_2 : w4.cell? ⟨gb121,2,none⟩ = some (.slice A0_2 l0_2.length c0_2):=(qC BK121.out 2).trans rfl;have hfz5_0:=qB BK121.out 0;have hfz5_1:=qB BK121.out 1;have hfz5_2:=qB BK121.out 2)|((with_reducible refine qI (f:=81) rfl ?_);refine zL (some 4) rfl rfl Try.func81 (by kernel_rfl) rfl #[.agg #[.int .i64 a0_0,.slice A0_1 l0_1.length c0_1,.slice A0_2 l0_2.length c0_2]] rfl byah ?_;(with_reducible refine (zV.calls k a0_0 _ _ l0_1 _ _ l0_2 t122 _ ?side1 ?side2 ?side3 ?side4 A2.out).mono ?_);(case side1=>exact byaq HR0_1.out);(case side2=>exact HC0_1.out);(case side3=>exact byaq HR0_2.out);(case side4=>exact HC0_2.out);rintro e w6 ⟨rfl,hb⟩;refine ⟨_,rfl,?_⟩;have n0_:=qA.mk (qH (g:=gb121) (o:=.cells #[.int .i64 a0_0,.slice A0_1 l0_1.length c0_1,.slice A0_2 l0_2.length c0_2] 56 (0,0)) (byaf BK121.out) hb);have n1_:=qA.mk (qE (byad GE121.out) hb);clear BK121;clear HB;have BK121:=n0_;have HB:=n1_;clear n0_ n1_;(try clear hb);(try clear hb2);(try clear hk);(try clear hi)))
  go_ret
  exact ⟨byac,byad GE121.out⟩
 ·rw [if_neg c3] at H
  have c3b0 : decide (4 < t122) = false:=decide_eq_false c3
  clear c3
  replace H:=Option.bind_eq_some_iff.mp H
  obtain ⟨t123,A70,H⟩:=H
  replace H : (if t123 > 200 then (some 3) else ((zD.f k a0_0 l0_1 l0_2).bind fun t124=>(some t124))) = some r:=H
  have A7:=qA.mk A70
  clear A70
  by_cases c8 : t123 > 200
  ·rw [if_pos c8] at H
   have c8b0 : decide (200 < t123) = true:=decide_eq_true c8
   clear c8
   obtain rfl:=Option.some.inj H
   go_enter Try.func69,Try.ntmps69
   go_wp2_with (first|((with_reducible refine zK (N:=1) rfl ?_);refine q9 ?hg (N:=1) ?hd (cs:=#[.int .i64 a0_0,.slice A0_1 l0_1.length c0_1,.slice A0_2 l0_2.length c0_2]) (t:=56) ?hr ?_;(case hd=>rfl);(case hg=>rfl);(case hr=>exact byaa);intro gb121 hg w9 hbox hb;have n0_:=qA.mk (qE byab hb);have n1_:=qA.mk (hbox);have n2_:=qA.mk ((byby : w.heap.size ≤ gb121));have n3_:=qA.mk ((byby : w.heap.size ≤ gb121));clear HB;have HB:=n0_;have BK121:=n1_;have GW121:=n2_;have GE121:=n3_;clear n0_ n1_ n2_ n3_;clear hb hbox hg;have hcz10_0 : w9.cell? ⟨gb121,0,none⟩ = some (.int .i64 a0_0):=(qC BK121.out 0).trans rfl;have hcz10_1 : w9.cell? ⟨gb121,1,none⟩ = some (.slice A0_1 l0_1.length c0_1):=(qC BK121.out 1).trans rfl;have hcz10_2 : w9.cell? ⟨gb121,2,none⟩ = some (.slice A0_2 l0_2.length c0_2):=(qC BK121.out 2).trans rfl;have hfz10_0:=qB BK121.out 0;have hfz10_1:=qB BK121.out 1;have hfz10_2:=qB BK121.out 2)|((with_reducible refine qI (f:=81) rfl ?_);refine zL (some 4) rfl rfl Try.func81 (by kernel_rfl) rfl #[.agg #[.int .i64 a0_0,.slice A0_1 l0_1.length c0_1,.slice A0_2 l0_2.length c0_2]] rfl byah ?_;(with_reducible refine (zV.calls k a0_0 _ _ l0_1 _ _ l0_2 t122 _ ?side1 ?side2 ?side3 ?side4 A2.out).mono ?_);(case side1=>exact byaq HR0_1.out);(case side2=>exact HC0_1.out);(case side3=>exact byaq HR0_2.out);(case side4=>exact HC0_2.out);rintro e w11 ⟨rfl,hb⟩;refine ⟨_,rfl,?_⟩;have n0_:=qA.mk (qH (g:=gb121) (o:=.cells #[.int .i64 a0_0,.slice A0_1 l0_1.length c0_1,.slice A0_2 l0_2.length c0_2] 56 (0,0)) (byaf BK121.out) hb);have n1_:=qA.mk (qE (byad GE121.out) hb);clear BK121;clear HB;have BK121:=n0_;have HB:=n1_;clear n0_ n1_;(try clear hb);(try clear hb2);(try clear hk);(try clear hi);have hcz12_0 : w11.cell? ⟨gb121,0,none⟩ = some (.int .i64 a0_0):=(qC BK121.out 0).trans rfl;have hcz12_1 : w11.cell? ⟨gb121,1,none⟩ = some (.slice A0_1 l0_1.length c0_1):=(qC BK121.out 1).trans rfl;have hcz12_2 : w11.cell? ⟨gb121,2,none⟩ = some (.slice A0_2 l0_2.length c0_2):=(qC BK121.out 2).trans rfl;have hfz12_0:=qB BK121.out 0;have hfz12_1:=qB BK121.out 1;have hfz12_2:=qB BK121.out 2)|(go_at_call 82;(with_reducible refine (z8.calls k a0_0 _ _ l0_1 _ _ l0_2 t123 _ ?side1 ?side2 ?side3 ?side4 A7.out).mono ?_);(case side1=>exact byaq HR0_1.out);(case side2=>exact HC0_1.out);(case side3=>exact byaq HR0_2.out);(case side4=>exact HC0_2.out);rintro e w13 ⟨rfl,hb⟩;have n0_:=qA.mk (qH (g:=gb121) (o:=.cells #[.int .i64 a0_0,.slice A0_1 l0_1.length c0_1,.slice A0_2 l0_2.length c0_2] 56 (0,0)) (byaf BK121.out) hb);have n1_:=qA.mk (qE (byad GE121.out) hb);clear BK121;clear HB;have BK121:=n0_;have HB:=n1_;clear n0_ n1_;(try clear hb);(try clear hb2);(try clear hk);(try clear hi)))
   go_ret
   exact ⟨byac,byad GE121.out⟩
  ·rw [if_neg c8] at H
   have c8b0 : decide (200 < t123) = false:=decide_eq_false c8
   clear c8
   replace H:=Option.bind_eq_some_iff.mp H
   obtain ⟨t124,A140,H⟩:=H
   replace H : (some t124) = some r:=H
   have A14:=qA.mk A140
   clear A140
   obtain rfl:=Option.some.inj H
   go_enter Try.func69,Try.ntmps69
   go_wp2_with (first|((with_reducible refine zK (N:=1) rfl ?_);refine q9 ?hg (N:=1) ?hd (cs:=#[.int .i64 a0_0,.slice A0_1 l0_1.length c0_1,.slice A0_2 l0_2.length c0_2]) (t:=56) ?hr ?_;(case hd=>rfl);(case hg=>rfl);(case hr=>exact byaa);intro gb121 hg w15 hbox hb;have n0_:=qA.mk (qE byab hb);have n1_:=qA.mk (hbox);have n2_:=qA.mk ((byby : w.heap.size ≤ gb121));have n3_:=qA.mk ((byby : w.heap.size ≤ gb121));clear HB;have HB:=n0_;have BK121:=n1_;have GW121:=n2_;have GE121:=n3_;clear n0_ n1_ n2_ n3_;clear hb hbox hg;have hcz16_0 : w15.cell? ⟨gb121,0,none⟩ = some (.int .i64 a0_0):=(qC BK121.out 0).trans rfl;have hcz16_1 : w15.cell? ⟨gb121,1,none⟩ = some (.slice A0_1 l0_1.length c0_1):=(qC BK121.out 1).trans rfl;have hcz16_2 : w15.cell? ⟨gb121,2,none⟩ = some (.slice A0_2 l0_2.length c0_2):=(qC BK121.out 2).trans rfl;have hfz16_0:=qB BK121.out 0;have hfz16_1:=qB BK121.out 1;have hfz16_2:=qB BK121.out 2)|((with_reducible refine qI (f:=81) rfl ?_);refine zL (some 4) rfl rfl Try.func81 (by kernel_rfl) rfl #[.agg #[.int .i64 a0_0,.slice A0_1 l0_1.length c0_1,.slice A0_2 l0_2.length c0_2]] rfl byah ?_;(with_reducible refine (zV.calls k a0_0 _ _ l0_1 _ _ l0_2 t122 _ ?side1 ?side2 ?side3 ?side4 A2.out).mono ?_);(case side1=>exact byaq HR0_1.out);(case side2=>exact HC0_1.out);(case side3=>exact byaq HR0_2.out);(case side4=>exact HC0_2.out);rintro e w17 ⟨rfl,hb⟩;refine ⟨_,rfl,?_⟩;have n0_:=qA.mk (qH (g:=gb121) (o:=.cells #[.int .i64 a0_0,.slice A0_1 l0_1.length c0_1,.slice A0_2 l0_2.length c0_2] 56 (0,0)) (byaf BK121.out) hb);have n1_:=qA.mk (qE (byad GE121.out) hb);clear BK121;clear HB;have BK121:=n0_;have HB:=n1_;clear n0_ n1_;(try clear hb);(try clear hb2);(try clear hk);(try clear hi);have hcz18_0 : w17.cell? ⟨gb121,0,none⟩ = some (.int .i64 a0_0):=(qC BK121.out 0).trans rfl;have hcz18_1 : w17.cell? ⟨gb121,1,none⟩ = some (.slice A0_1 l0_1.length c0_1):=(qC BK121.out 1).trans rfl;have hcz18_2 : w17.cell? ⟨gb121,2,none⟩ = some (.slice A0_2 l0_2.length c0_2):=(qC BK121.out 2).trans rfl;have hfz18_0:=qB BK121.out 0;have hfz18_1:=qB BK121.out 1;have hfz18_2:=qB BK121.out 2)|(go_at_call 82;(with_reducible refine (z8.calls k a0_0 _ _ l0_1 _ _ l0_2 t123 _ ?side1 ?side2 ?side3 ?side4 A7.out).mono ?_);(case side1=>exact byaq HR0_1.out);(case side2=>exact HC0_1.out);(case side3=>exact byaq HR0_2.out);(case side4=>exact HC0_2.out);rintro e w19 ⟨rfl,hb⟩;have n0_:=qA.mk (qH (g:=gb121) (o:=.cells #[.int .i64 a0_0,.slice A0_1 l0_1.length c0_1,.slice A0_2 l0_2.length c0_2] 56 (0,0)) (byaf BK121.out) hb);have n1_:=qA.mk (qE (byad GE121.out) hb);clear BK121;clear HB;have BK121:=n0_;have HB:=n1_;clear n0_ n1_;(try clear hb);(try clear hb2);(try clear hk);(try clear hi);have hcz20_0 : w19.cell? ⟨gb121,0,none⟩ = some (.int .i64 a0_0):=(qC BK121.out 0).trans rfl;have hcz20_1 : w19.cell? ⟨gb121,1,none⟩ = some (.slice A0_1 l0_1.length c0_1):=(qC BK121.out 1).trans rfl;have hcz20_2 : w19.cell? ⟨gb121,2,none⟩ = some (.slice A0_2 l0_2.length c0_2):=(qC BK121.out 2).trans rfl;have hfz20_0:=qB BK121.out 0;have hfz20_1:=qB BK121.out 1;have hfz20_2:=qB BK121.out 2)|((with_reducible refine qI (f:=83) rfl ?_);refine zL (some 12) rfl rfl Try.func83 (by kernel_rfl) rfl #[.agg #[.int .i64 a0_0,.slice A0_1 l0_1.length c0_1,.slice A0_2 l0_2.length c0_2]] rfl byah ?_;(with_reducible refine (zD.calls k a0_0 _ _ l0_1 _ _ l0_2 t124 _ ?side1 ?side2 ?side3 ?side4 A14.out).mono ?_);(case side1=>exact byaq HR0_1.out);(case side2=>exact HC0_1.out);(case side3=>exact byaq HR0_2.out);(case side4=>exact HC0_2.out);rintro e w21 ⟨rfl,hb⟩;refine ⟨_,rfl,?_⟩;have n0_:=qA.mk (qH (g:=gb121) (o:=.cells #[.int .i64 a0_0,.slice A0_1 l0_1.length c0_1,.slice A0_2 l0_2.length c0_2] 56 (0,0)) (byaf BK121.out) hb);have n1_:=qA.mk (qE (byad GE121.out) hb);clear BK121;clear HB;have BK121:=n0_;have HB:=n1_;clear n0_ n1_;(try clear hb);(try clear hb2);(try clear hk);(try clear hi)))
   go_ret
   exact ⟨byac,byad GE121.out⟩
def uU.f (a0 : Int) : Option (Bool):=if a0 ≥ 0 then (some (decide (a0 < 10))) else (some false)
set_option maxHeartbeats 8000000 in
set_option maxRecDepth 100000 in
theorem uU.calls (a0 : Int) (r : Bool) (w : World) (h : uU.f a0 = some r) :
  Calls Try.prog 84 #[.int .i64 a0] w fun e w'=>e = .returned (.bool r)∧uC w w':=by
 have H : (if a0 ≥ 0 then (some (decide (a0 < 10))) else (some false)) = some r:=h
 clear h
 by_cases c2 : a0 ≥ 0
 ·rw [if_pos c2] at H
  have c2b0 : decide (0 ≤ a0) = true:=decide_eq_true c2
  clear c2
  obtain rfl:=Option.some.inj H
  go_enter Try.func84,Try.ntmps84
  go_wp2
  go_ret
  exact ⟨byae,byam⟩
 ·rw [if_neg c2] at H
  have c2b0 : decide (0 ≤ a0) = false:=decide_eq_false c2
  clear c2
  obtain rfl:=Option.some.inj H
  go_enter Try.func84,Try.ntmps84
  go_wp2
  go_ret
  exact ⟨byae,byam⟩
mutual
def zF.l0 : Nat→Int→List Int→Int→Int→Int→List Int→List (S56)→Option (Int)
 | 0,_,_,_,_,_,_,_=>none
 | k + 1,x3,x9,x10,x11,x126000,x126001,x126002=>if x11 < x10 then (if 0 ≤ x11 then (if x11 < (x9.length : Int) then ((uU.f (rd x9 x11)).bind fun t127=>(if t127 = true then (if 0 ≤ (rd x9 x11) then (zF.l0 k (Go.bits .or .i64 x3 (shl .i64 1 (rd x9 x11))) x9 x10 (wrap64 (x11 + 1)) x126000 x126001 x126002) else (none)) else (zF.l0 k x3 x9 x10 (wrap64 (x11 + 1)) x126000 x126001 x126002))) else (none)) else (none)) else (zF.l1 k x3 x126002 (x126002.length : Int) 0)
def zF.l1 : Nat→Int→List (S56)→Int→Int→Option (Int)
 | 0,_,_,_,_=>none
 | k + 1,x3,x23,x24,x25=>if x25 < x24 then (if 0 ≤ x25 then (if x25 < (x23.length : Int) then ((zF.f k ((qX x23 x25).f0) ((qX x23 x25).f1) ((qX x23 x25).f2)).bind fun t130=>(zF.l1 k (Go.bits .or .i64 x3 t130) x23 x24 (wrap64 (x25 + 1)))) else (none)) else (none)) else (some x3)
def zF.f : Nat→Int→List Int→List (S56)→Option (Int)
 | 0,_,_,_=>none
 | k + 1,a0_0,l0_1,l0_2=>zF.l0 k 0 l0_1 (l0_1.length : Int) 0 a0_0 l0_1 l0_2
end
theorem zF.mono_l : ∀ k,(∀ y0 y1 y2,LeO (zF.f k y0 y1 y2) (zF.f (k + 1) y0 y1 y2))∧(∀ y0 y1 y2 y3 y4 y5 y6,LeO (zF.l0 k y0 y1 y2 y3 y4 y5 y6) (zF.l0 (k + 1) y0 y1 y2 y3 y4 y5 y6))∧(∀ y0 y1 y2 y3,LeO (zF.l1 k y0 y1 y2 y3) (zF.l1 (k + 1) y0 y1 y2 y3))
 | 0=>⟨fun _ _ _ r h=>by simp [zF.f] at h,fun _ _ _ _ _ _ _ r h=>by simp [zF.l0] at h,fun _ _ _ _ r h=>by simp [zF.l1] at h⟩
 | k + 1=>by
  obtain ⟨ih0,ih1,ih2⟩:=zF.mono_l k
  refine ⟨?_,?_,?_⟩
  ·intro y0 y1 y2
   unfold zF.f
   repeat' first
   | (with_reducible exact ih0 _ _ _)
   | (with_reducible exact ih1 _ _ _ _ _ _ _)
   | (with_reducible exact ih2 _ _ _ _)
   | (with_reducible exact LeO.refl _)
   | (with_reducible exact LeO.none _)
   | (with_reducible refine LeO.ite ?_ ?_)
   | (with_reducible refine LeO.bind ?_ (fun _=>?_))
   | exact ih0 _ _ _
   | exact ih1 _ _ _ _ _ _ _
   | exact ih2 _ _ _ _
   | exact LeO.none _
   | refine LeO.ite ?_ ?_
   | refine LeO.bind ?_ (fun _=>?_)
  ·intro y0 y1 y2 y3 y4 y5 y6
   unfold zF.l0
   repeat' first
   | (with_reducible exact ih0 _ _ _)
   | (with_reducible exact ih1 _ _ _ _ _ _ _)
   | (with_reducible exact ih2 _ _ _ _)
   | (with_reducible exact LeO.refl _)
   | (with_reducible exact LeO.none _)
   | (with_reducible refine LeO.ite ?_ ?_)
   | (with_reducible refine LeO.bind ?_ (fun _=>?_))
   | exact ih0 _ _ _
   | exact ih1 _ _ _ _ _ _ _
   | exact ih2 _ _ _ _
   | exact LeO.none _
   | refine LeO.ite ?_ ?_
   | refine LeO.bind ?_ (fun _=>?_)
  ·intro y0 y1 y2 y3
   unfold zF.l1
   repeat' first
   | (with_reducible exact ih0 _ _ _)
   | (with_reducible exact ih1 _ _ _ _ _ _ _)
   | (with_reducible exact ih2 _ _ _ _)
   | (with_reducible exact LeO.refl _)
   | (with_reducible exact LeO.none _)
   | (with_reducible refine LeO.ite ?_ ?_)
   | (with_reducible refine LeO.bind ?_ (fun _=>?_))
   | exact ih0 _ _ _
   | exact ih1 _ _ _ _ _ _ _
   | exact ih2 _ _ _ _
   | exact LeO.none _
   | refine LeO.ite ?_ ?_
   | refine LeO.bind ?_ (fun _=>?_)
theorem zF.mono : ∀ a0 a1 a2 k,LeO (zF.f k a0 a1 a2) (zF.f (k + 1) a0 a1 a2):=by
 intro a0 a1 a2 k
 obtain ⟨ih0,ih1,ih2⟩:=zF.mono_l k
 exact ih0 a0 a1 a2
set_option maxHeartbeats 8000000 in
set_option maxRecDepth 100000 in
theorem zF.calls (k : Nat) : ∀ (a0_0 : Int) (A0_1 : Option Addr) (c0_1 : Nat) (l0_1 : List Int) (A0_2 : Option Addr) (c0_2 : Nat) (l0_2 : List (S56)) (r : Int) (w : World) (hr0_1 : Kd.C (Kd.int .i64) w A0_1 l0_1.length l0_1) (hc0_1 : l0_1.length ≤ c0_1) (hr0_2 : Kd.C k56 w A0_2 l0_2.length l0_2) (hc0_2 : l0_2.length ≤ c0_2) (h : zF.f k a0_0 l0_1 l0_2 = some r),
  Calls Try.prog 70 #[.agg #[.int .i64 a0_0,.slice A0_1 l0_1.length c0_1,.slice A0_2 l0_2.length c0_2]] w fun e w'=>e = .returned (.int .i64 r)∧Below w.heap.size w w':=by
 induction k using Nat.strongRecOn with
 | _ k ih =>
 intro a0_0 A0_1 c0_1 l0_1 A0_2 c0_2 l0_2 r w hr0_1 hc0_1 hr0_2 hc0_2 h
 cases k with
 | zero=>exact absurd h (by simp [zF.f])
 | succ k =>
 simp only [zF.f] at h
 have hu56:=Try.underlying56
 have HR0_1:=qA.mk hr0_1
 have HC0_1:=qA.mk hc0_1
 clear hr0_1 hc0_1
 have HR0_2:=qA.mk hr0_2
 have HC0_2:=qA.mk hc0_2
 clear hr0_2 hc0_2
 have HB:=qA.mk (Below.refl w.heap.size w)
 have H : (zF.l0 k 0 l0_1 (l0_1.length : Int) 0 a0_0 l0_1 l0_2) = some r:=h
 clear h
 have H':=qA.mk H
 clear H
 go_enter Try.func70,Try.ntmps70
 go_wp2_with (first|((with_reducible refine zK (N:=1) rfl ?_);refine q9 ?hg (N:=1) ?hd (cs:=#[.int .i64 a0_0,.slice A0_1 l0_1.length c0_1,.slice A0_2 l0_2.length c0_2]) (t:=56) ?hr ?_;(case hd=>rfl);(case hg=>rfl);(case hr=>exact byaa);intro gb125 hg w2 hbox hb;have n0_:=qA.mk (qE byab hb);have n1_:=qA.mk (hbox);have n2_:=qA.mk ((byby : w.heap.size ≤ gb125));have n3_:=qA.mk ((byby : w.heap.size ≤ gb125));clear HB;have HB:=n0_;have BK125:=n1_;have GW125:=n2_;have GE125:=n3_;clear n0_ n1_ n2_ n3_;clear hb hbox hg;have hcz3_0 : w2.cell? ⟨gb125,0,none⟩ = some (.int .i64 a0_0):=(qC BK125.out 0).trans rfl;have hcz3_1 : w2.cell? ⟨gb125,1,none⟩ = some (.slice A0_1 l0_1.length c0_1):=(qC BK125.out 1).trans rfl;have hcz3_2 : w2.cell? ⟨gb125,2,none⟩ = some (.slice A0_2 l0_2.length c0_2):=(qC BK125.out 2).trans rfl;have hfz3_0:=qB BK125.out 0;have hfz3_1:=qB BK125.out 1;have hfz3_2:=qB BK125.out 2))
 go_loopg [3,11] k (fun kq v3 v11 w'=>∃ (x3_1 : Int) (x11_1 : Int),v3 = .int .i64 x3_1∧v11 = .int .i64 x11_1∧qA (zF.l0 kq x3_1 l0_1 (l0_1.length : Int) x11_1 a0_0 l0_1 l0_2 = some r)∧qA (kq ≤ k)∧qA (w'.heap[gb125]? = some (.cells #[.int .i64 a0_0,(.slice A0_1 l0_1.length c0_1),(.slice A0_2 l0_2.length c0_2)] 56 (0,0)))∧qA (Below w.heap.size w w'))
 case atStart=>exact ⟨(0),(0),byae,byae,H',⟨Nat.le_refl _⟩,⟨byaf BK125.out⟩,⟨byad GE125.out⟩⟩
 case round =>
  clear H'
  try clear p2
  try clear hcz3_0
  try clear hcz3_1
  try clear hcz3_2
  try clear hfz3_0
  try clear hfz3_1
  try clear hfz3_2
  obtain ⟨x3_1,x11_1,rfl,rfl,HA,HK1,BK125,HB⟩:=hrel
  cases gk with
  | zero=>exact absurd HA.out (by simp [zF.l0])
  | succ k1 =>
   have H:=HA.out
   clear HA
   simp only [zF.l0] at H
   by_cases c4 : x11_1 < (l0_1.length : Int)
   ·rw [if_pos c4] at H
    have c4b0 : decide (x11_1 < (l0_1.length : Int)) = true:=decide_eq_true c4
    clear c4
    by_cases c5 : 0 ≤ x11_1
    ·rw [if_pos c5] at H
     have c5b0 : decide (0 ≤ x11_1) = true:=decide_eq_true c5
     clear c5
     by_cases c6 : x11_1 < (l0_1.length : Int)
     ·rw [if_pos c6] at H
      have c6b0 : decide (x11_1 < (l0_1.length : Int)) = true:=decide_eq_true c6
      clear c6
      replace H:=Option.bind_eq_some_iff.mp H
      obtain ⟨t127,A70,H⟩:=H
      replace H : (if t127 = true then (if 0 ≤ (rd l0_1 x11_1) then (zF.l0 k1 (Go.bits .or .i64 x3_1 (shl .i64 1 (rd l0_1 x11_1))) l0_1 (l0_1.length : Int) (wrap64 (x11_1 + 1)) a0_0 l0_1 l0_2) else (none)) else (zF.l0 k1 x3_1 l0_1 (l0_1.length : Int) (wrap64 (x11_1 + 1)) a0_0 l0_1 l0_2)) = some r:=H
      have A7:=qA.mk A70
      clear A70
      by_cases c8 : t127 = true
      ·subst c8
       have H1 : (if 0 ≤ (rd l0_1 x11_1) then (zF.l0 k1 (Go.bits .or .i64 x3_1 (shl .i64 1 (rd l0_1 x11_1))) l0_1 (l0_1.length : Int) (wrap64 (x11_1 + 1)) a0_0 l0_1 l0_2) else (none)) = some r:=by rw [if_pos rfl] at H;exact H
       clear H
       have H:=H1
       clear H1
       by_cases c9 : 0 ≤ (rd l0_1 x11_1)
       ·rw [if_pos c9] at H
        have c9b0:=eq_true c9
        have c9b1 : decide (0 ≤ (rd l0_1 x11_1)) = true:=decide_eq_true c9
        clear c9
        obtain ⟨ji10,hji10⟩ : ∃ j_ : Int,(shl .i64 1 (rd l0_1 x11_1)) = j_:=⟨_,rfl⟩
        replace H : (zF.l0 k1 (Go.bits .or .i64 x3_1 (ji10)) l0_1 (l0_1.length : Int) (wrap64 (x11_1 + 1)) a0_0 l0_1 l0_2) = some r:=by first|(rw [hji10] at H;exact H)|(simp only [hji10] at H ⊢;exact H)
        (try rw [hji10] at A7)
        have hji10_ : (IntKind.i64.wrap (1 * 2 ^ min (rd l0_1 x11_1).toNat 64)) = ji10:=hji10
        have hji10z : (rd l0_1 x11_1) ≤ 64→(IntKind.i64.wrap (1 * 2 ^ (rd l0_1 x11_1).toNat)) = ji10:=uN hji10
        have hji10u : (IntKind.i64.wrap (2 ^ min (rd l0_1 x11_1).toNat 64)) = ji10:=by have h_:=hji10_;rw [Int.one_mul] at h_;exact h_
        have hji10v : (rd l0_1 x11_1) ≤ 64→(IntKind.i64.wrap (2 ^ (rd l0_1 x11_1).toNat)) = ji10:=fun hle_=>by have h_:=hji10z hle_;rw [Int.one_mul] at h_;exact h_
        have hji10y : (wrap64 (1 * 2 ^ min (rd l0_1 x11_1).toNat 64)) = ji10:=(qY _).symm.trans hji10_
        have hji10x : (rd l0_1 x11_1) ≤ 64→(wrap64 (1 * 2 ^ (rd l0_1 x11_1).toNat)) = ji10:=fun h_=>(qY _).symm.trans (hji10z h_)
        have H':=qA.mk H
        clear H
        have p126 : 0 ≤ (x11_1 : Int):=of_decide_eq_true byag
        have q126 : x11_1 < (l0_1.length : Int):=of_decide_eq_true byag
        obtain ⟨ad126,e126,hx126_0⟩:=Kd.uV HR0_1.out x11_1 p126 q126
        cases e126
        replace hx126_0:=(HB.out.cell (World.block_lt_of_cell? w _ hx126_0)).trans hx126_0
        replace p126:=eq_true p126
        replace q126:=eq_true q126
        go_wp2_with (first|((with_reducible refine qI (f:=84) rfl ?_);refine zL (some 16) rfl rfl Try.func84 (by kernel_rfl) rfl #[.int .i64 (rd l0_1 x11_1)] rfl byah ?_;(with_reducible refine (uU.calls (rd l0_1 x11_1) true _ A7.out).mono ?_);rintro e w' ⟨rfl,⟨nd,rfl⟩⟩;refine ⟨_,rfl,?_⟩))
        go_roundg k1
        case measure=>have:=HK1.out;omega
        case rel=>exact ⟨(Go.bits .or .i64 x3_1 (ji10)),(wrap64 (x11_1 + 1)),(by first|rfl|(simp;done)|(simp only [← hji10]<;>(first|rfl|simp))|(simp [*];done)),byae,H',⟨byai⟩,⟨byaf BK125.out⟩,⟨byad GE125.out⟩⟩
       ·rw [if_neg c9] at H
        exact absurd H (by simp)
      ·replace c8:=Bool.eq_false_iff.mpr c8
       subst c8
       have H1 : (zF.l0 k1 x3_1 l0_1 (l0_1.length : Int) (wrap64 (x11_1 + 1)) a0_0 l0_1 l0_2) = some r:=by rw [if_neg (show ¬ (false = true) by decide)] at H;exact H
       clear H
       have H:=H1
       clear H1
       have H':=qA.mk H
       clear H
       have p126 : 0 ≤ (x11_1 : Int):=of_decide_eq_true byag
       have q126 : x11_1 < (l0_1.length : Int):=of_decide_eq_true byag
       obtain ⟨ad126,e126,hx126_0⟩:=Kd.uV HR0_1.out x11_1 p126 q126
       cases e126
       replace hx126_0:=(HB.out.cell (World.block_lt_of_cell? w _ hx126_0)).trans hx126_0
       replace p126:=eq_true p126
       replace q126:=eq_true q126
       go_wp2_with (first|((with_reducible refine qI (f:=84) rfl ?_);refine zL (some 16) rfl rfl Try.func84 (by kernel_rfl) rfl #[.int .i64 (rd l0_1 x11_1)] rfl byah ?_;(with_reducible refine (uU.calls (rd l0_1 x11_1) false _ A7.out).mono ?_);rintro e w' ⟨rfl,⟨nd,rfl⟩⟩;refine ⟨_,rfl,?_⟩))
       go_roundg k1
       case measure=>have:=HK1.out;omega
       case rel=>exact ⟨(x3_1),(wrap64 (x11_1 + 1)),byae,byae,H',⟨byai⟩,⟨byaf BK125.out⟩,⟨byad GE125.out⟩⟩
     ·rw [if_neg c6] at H
      exact absurd H (by simp)
    ·rw [if_neg c5] at H
     exact absurd H (by simp)
   ·rw [if_neg c4] at H
    have c4b0 : decide (x11_1 < (l0_1.length : Int)) = false:=decide_eq_false c4
    clear c4
    have H':=qA.mk H
    clear H
    have hcz11_0 : wr.cell? ⟨gb125,0,none⟩ = some (.int .i64 a0_0):=(qC BK125.out 0).trans rfl
    have hcz11_1 : wr.cell? ⟨gb125,1,none⟩ = some (.slice A0_1 l0_1.length c0_1):=(qC BK125.out 1).trans rfl
    have hcz11_2 : wr.cell? ⟨gb125,2,none⟩ = some (.slice A0_2 l0_2.length c0_2):=(qC BK125.out 2).trans rfl
    have hfz11_0:=qB BK125.out 0
    have hfz11_1:=qB BK125.out 1
    have hfz11_2:=qB BK125.out 2
    go_wp2
    go_loopg [3,25] k1 (fun kq v3 v25 w'=>∃ (x3_2 : Int) (x25_2 : Int),v3 = .int .i64 x3_2∧v25 = .int .i64 x25_2∧qA (zF.l1 kq x3_2 l0_2 (l0_2.length : Int) x25_2 = some r)∧qA (kq ≤ k1)∧qA (w'.heap[gb125]? = some (.cells #[.int .i64 a0_0,(.slice A0_1 l0_1.length c0_1),(.slice A0_2 l0_2.length c0_2)] 56 (0,0)))∧qA (Below w.heap.size w w'))
    case atStart=>exact ⟨(x3_1),(0),byae,byae,H',⟨Nat.le_refl _⟩,⟨byaf BK125.out⟩,⟨byad GE125.out⟩⟩
    case round =>
     clear H'
     try clear p1
     try clear q1
     try clear hx1
     try clear p2
     try clear c4
     try clear c4b0
     try clear c5
     try clear c5b0
     try clear c6
     try clear c6b0
     try clear p6
     try clear c7
     try clear c8
     try clear c9
     try clear c9b0
     try clear c9b1
     try clear hcz11_0
     try clear hcz11_1
     try clear hcz11_2
     try clear hcz3_0
     try clear hcz3_1
     try clear hcz3_2
     try clear hfz11_0
     try clear hfz11_1
     try clear hfz11_2
     try clear hfz3_0
     try clear hfz3_1
     try clear hfz3_2
     try clear hx126_0
     try clear p126
     try clear p2
     try clear q126
     obtain ⟨x3_2,x25_2,rfl,rfl,HA,HK2,BK125,HB⟩:=hrel
     cases gk with
     | zero=>exact absurd HA.out (by simp [zF.l1])
     | succ k2 =>
      have H:=HA.out
      clear HA
      simp only [zF.l1] at H
      by_cases c12 : x25_2 < (l0_2.length : Int)
      ·rw [if_pos c12] at H
       have c12b0 : decide (x25_2 < (l0_2.length : Int)) = true:=decide_eq_true c12
       clear c12
       by_cases c13 : 0 ≤ x25_2
       ·rw [if_pos c13] at H
        have c13b0 : decide (0 ≤ x25_2) = true:=decide_eq_true c13
        clear c13
        by_cases c14 : x25_2 < (l0_2.length : Int)
        ·rw [if_pos c14] at H
         have c14b0 : decide (x25_2 < (l0_2.length : Int)) = true:=decide_eq_true c14
         clear c14
         replace H:=Option.bind_eq_some_iff.mp H
         obtain ⟨t130,A150,H⟩:=H
         replace H : (zF.l1 k2 (Go.bits .or .i64 x3_2 t130) l0_2 (l0_2.length : Int) (wrap64 (x25_2 + 1))) = some r:=H
         have A15:=qA.mk A150
         clear A150
         have H':=qA.mk H
         clear H
         have p128 : 0 ≤ (x25_2 : Int):=of_decide_eq_true byag
         have q128 : x25_2 < (l0_2.length : Int):=of_decide_eq_true byag
         obtain ⟨ad128,A128_1,c128_1,A128_2,c128_2,e128,hx128_0,hx128_1,hx128_2,hl128_1,hi128_1,hl128_2,hi128_2⟩:=kW HR0_2.out x25_2 p128 q128
         cases e128
         replace hx128_0:=(HB.out.cell (World.block_lt_of_cell? w _ hx128_0)).trans hx128_0
         replace hx128_1:=(HB.out.cell (World.block_lt_of_cell? w _ hx128_1)).trans hx128_1
         replace hx128_2:=(HB.out.cell (World.block_lt_of_cell? w _ hx128_2)).trans hx128_2
         have HR128_1:=qA.mk hi128_1
         have HC128_1:=qA.mk hl128_1
         clear hi128_1 hl128_1
         have HR128_2:=qA.mk hi128_2
         have HC128_2:=qA.mk hl128_2
         clear hi128_2 hl128_2
         replace p128:=eq_true p128
         replace q128:=eq_true q128
         go_wp2_with (first|((with_reducible refine zK (N:=7) rfl ?_);refine q9 ?hg (N:=7) ?hd (cs:=#[.int .i64 0,.slice none 0 0,.slice none 0 0]) (t:=56) ?hr ?_;(case hd=>rfl);(case hg=>rfl);(case hr=>exact byaa);intro gb129 hg w16 hbox hb;have n0_:=qA.mk (qH (g:=gb125) (o:=.cells #[.int .i64 a0_0,.slice A0_1 l0_1.length c0_1,.slice (some ad128) l0_2.length c0_2] 56 (0,0)) (byaf BK125.out) hb);have n1_:=qA.mk (qE (byad GE125.out) hb);have n2_:=qA.mk (hbox);have n3_:=qA.mk ((bybz GE125.out : w.heap.size ≤ gb129));have n4_:=qA.mk ((bybz GE125.out : w.heap.size ≤ gb129));have n5_:=qA.mk ((by rw [hg];exact Nat.ne_of_lt (jF (g:=gb125) (o:=.cells #[.int .i64 a0_0,.slice A0_1 l0_1.length c0_1,.slice (some ad128) l0_2.length c0_2] 56 (0,0)) (byaf BK125.out)) : gb125≠gb129));have n6_:=qA.mk ((by rw [hg];exact Nat.ne_of_gt (jF (g:=gb125) (o:=.cells #[.int .i64 a0_0,.slice A0_1 l0_1.length c0_1,.slice (some ad128) l0_2.length c0_2] 56 (0,0)) (byaf BK125.out)) : gb129≠gb125));clear BK125;clear HB;have BK125:=n0_;have HB:=n1_;have BK129:=n2_;have GW129:=n3_;have GE129:=n4_;have NB125_129:=n5_;have NB129_125:=n6_;clear n0_ n1_ n2_ n3_ n4_ n5_ n6_;clear hb hbox hg;have hnb17:=NB129_125.out;have hnc17:=NB125_129.out;have hcz18_0 : w16.cell? ⟨gb129,0,none⟩ = some (.int .i64 0):=(qC BK129.out 0).trans rfl;have hcz18_1 : w16.cell? ⟨gb129,1,none⟩ = some (.slice none 0 0):=(qC BK129.out 1).trans rfl;have hcz18_2 : w16.cell? ⟨gb129,2,none⟩ = some (.slice none 0 0):=(qC BK129.out 2).trans rfl;have hfz18_0:=qB BK129.out 0;have hfz18_1:=qB BK129.out 1;have hfz18_2:=qB BK129.out 2)|((with_reducible refine qI (f:=70) rfl ?_);refine zL (some 31) rfl rfl Try.func70 (by kernel_rfl) rfl #[.agg #[.int .i64 ((qX l0_2 x25_2).f0),.slice A128_1 ((qX l0_2 x25_2).f1).length c128_1,.slice A128_2 ((qX l0_2 x25_2).f2).length c128_2]] rfl byah ?_;(with_reducible refine (ih k2 byar ((qX l0_2 x25_2).f0) _ _ ((qX l0_2 x25_2).f1) _ _ ((qX l0_2 x25_2).f2) t130 _ ?side1 ?side2 ?side3 ?side4 A15.out).mono ?_);(case side1=>exact Kd.vK HR128_1.out (byaj GE125.out GE129.out));(case side2=>exact HC128_1.out);(case side3=>exact Kd.vK HR128_2.out (byaj GE125.out GE129.out));(case side4=>exact HC128_2.out);rintro e w19 ⟨rfl,hb⟩;refine ⟨_,rfl,?_⟩;have n0_:=qA.mk (qH (g:=gb125) (o:=.cells #[.int .i64 a0_0,.slice A0_1 l0_1.length c0_1,.slice (some ad128) l0_2.length c0_2] 56 (0,0)) (byak NB125_129.out BK125.out) hb);have n1_:=qA.mk (qH (g:=gb129) (o:=.cells #[.int .i64 ((qX l0_2 x25_2).f0),.slice A128_1 ((qX l0_2 x25_2).f1).length c128_1,.slice A128_2 ((qX l0_2 x25_2).f2).length c128_2] 56 (0,0)) (by (with_reducible repeat (first|refine qG ?_ _|refine qJ ?_|refine qF ?_ _));refine zJ (cs:=#[.int .i64 ((qX l0_2 x25_2).f0),.slice A128_1 ((qX l0_2 x25_2).f1).length c128_1,.slice none 0 0]) ?_ 2 _ rfl;(with_reducible repeat (first|refine qG ?_ _|refine qJ ?_|refine qF ?_ _));refine zJ (cs:=#[.int .i64 ((qX l0_2 x25_2).f0),.slice none 0 0,.slice none 0 0]) ?_ 1 _ rfl;(with_reducible repeat (first|refine qG ?_ _|refine qJ ?_|refine qF ?_ _));refine zJ (cs:=#[.int .i64 0,.slice none 0 0,.slice none 0 0]) ?_ 0 _ rfl;(with_reducible repeat (first|refine qG ?_ _|refine qJ ?_|refine qF ?_ _));exact BK129.out) hb);have n2_:=qA.mk (qE (byaj GE125.out GE129.out) hb);clear BK125;clear BK129;clear HB;have BK125:=n0_;have BK129:=n1_;have HB:=n2_;clear n0_ n1_ n2_;(try clear hb);(try clear hb2);(try clear hk);(try clear hi)))
         go_roundg k2
         case measure=>have:=HK1.out;have:=HK2.out;omega
         case rel=>exact ⟨(Go.bits .or .i64 x3_2 t130),(wrap64 (x25_2 + 1)),byae,byae,H',⟨byar⟩,⟨byaf BK125.out⟩,⟨byaj GE125.out GE129.out⟩⟩
        ·rw [if_neg c14] at H
         exact absurd H (by simp)
       ·rw [if_neg c13] at H
        exact absurd H (by simp)
      ·rw [if_neg c12] at H
       have c12b0 : decide (x25_2 < (l0_2.length : Int)) = false:=decide_eq_false c12
       clear c12
       obtain rfl:=Option.some.inj H
       go_wp2
       go_ret
       exact ⟨byac,byad GE125.out⟩
end Go.Proofs.Ytkkbdimegpdbgaa.P
