/- Functions of the program as Lean functions, and the walks that show that the calls answer so; written by a program of this session (a changed print) and by hand. -/
import Derived.Test.YtoofabolcbbjnaaQrPx0
import Derived.Test.YtoofabolcbbjnaaQrPx3
import Derived.Test.YtoofabolcbbjnaaQrPx4
import Derived.Test.YtoofabolcbbjnaaQrPx5
namespace Go.Proofs.Ytoofabolcbbjnaa.P
open Go.RowKit Go.Proofs.YtoofabolcbbjnaaW.PrintWords Go.Proofs.YtoofabolcbbjnaaW.PrintLast Go.Proofs.YtoofabolcbbjnaaW.PrintMore
attribute [local go_sem] kH kJ kQ kR uS uR kF kG
set_option linter.unusedVariables false
set_option linter.unusedSimpArgs false
mutual
def zH.j0 : Nat→Bool→Int→List Int→List (S49)→Option (Int)
 | 0,_,_,_,_=>none
 | k + 1,x24,x268000,x268001,x268002=>if x24 = true then (some 4) else (zH.l0 k x268001 (x268001.length : Int) 0 x268000 x268001 x268002)
def zH.l0 : Nat→List Int→Int→Int→Int→List Int→List (S49)→Option (Int)
 | 0,_,_,_,_,_,_=>none
 | k + 1,x26,x27,x28,x268000,x268001,x268002=>if x28 < x27 then (if 0 ≤ x28 then (if x28 < (x26.length : Int) then (if (rd x26 x28) < 0 then (some 5) else (if (rd x26 x28) ≥ 10 then (some 5) else (zH.l0 k x26 x27 (wrap64 (x28 + 1)) x268000 x268001 x268002))) else (none)) else (none)) else ((jM.f k x268001).bind fun bt269=>(if bt269.2 = 0 then (zH.l1 k x268002 (x268002.length : Int) 0) else (some bt269.2)))
def zH.l1 : Nat→List (S49)→Int→Int→Option (Int)
 | 0,_,_,_=>none
 | k + 1,x49,x50,x51=>if x51 < x50 then (if 0 ≤ x51 then (if x51 < (x49.length : Int) then ((zH.f k ((jI x49 x51).f0) ((jI x49 x51).f1) ((jI x49 x51).f2)).bind fun t273=>(if t273 = 0 then (zH.l1 k x49 x50 (wrap64 (x51 + 1))) else (some t273))) else (none)) else (none)) else (some 0)
def zH.f : Nat→Int→List Int→List (S49)→Option (Int)
 | 0,_,_,_=>none
 | k + 1,a0_0,l0_1,l0_2=>if a0_0 < 1 then (zH.j0 k true a0_0 l0_1 l0_2) else (zH.j0 k (decide (a0_0 > (wrap64 ((l0_1.length : Int) + (l0_2.length : Int))))) a0_0 l0_1 l0_2)
end
set_option maxHeartbeats 8000000 in
set_option maxRecDepth 100000 in
theorem zH.calls (k : Nat) : ∀ (a0_0 : Int) (A0_1 : Option Addr) (c0_1 : Nat) (l0_1 : List Int) (A0_2 : Option Addr) (c0_2 : Nat) (l0_2 : List (S49)) (r : Int) (w : World) (hr0_1 : Kd.C (Kd.int .i64) w A0_1 l0_1.length l0_1) (hc0_1 : l0_1.length ≤ c0_1) (hr0_2 : Kd.C k49 w A0_2 l0_2.length l0_2) (hc0_2 : l0_2.length ≤ c0_2) (h : zH.f k a0_0 l0_1 l0_2 = some r),
  Calls Try.prog 52 #[.agg #[.int .i64 a0_0,.slice A0_1 l0_1.length c0_1,.slice A0_2 l0_2.length c0_2]] w fun e w'=>e = .returned (.int .i64 r)∧Below w.heap.size w w':=by
 induction k using Nat.strongRecOn with
 | _ k ih =>
 intro a0_0 A0_1 c0_1 l0_1 A0_2 c0_2 l0_2 r w hr0_1 hc0_1 hr0_2 hc0_2 h
 cases k with
 | zero=>exact absurd h (by simp [zH.f])
 | succ k =>
 simp only [zH.f] at h
 have hu49:=Try.underlying49
 have HR0_1:=qA.mk hr0_1
 have HC0_1:=qA.mk hc0_1
 clear hr0_1 hc0_1
 have HR0_2:=qA.mk hr0_2
 have HC0_2:=qA.mk hc0_2
 clear hr0_2 hc0_2
 have HB:=qA.mk (Below.refl w.heap.size w)
 have H : (if a0_0 < 1 then (zH.j0 k true a0_0 l0_1 l0_2) else (zH.j0 k (decide (a0_0 > (wrap64 ((l0_1.length : Int) + (l0_2.length : Int))))) a0_0 l0_1 l0_2)) = some r:=h
 clear h
 have HC2:=qA.mk H
 clear H
 go_enter Try.func52,Try.ntmps52
 go_upto_region 1 with (first|((with_reducible refine jH (N:=1) rfl ?_);(try (refine uI (by rfl) ?_;dsimp only));refine jL ?hg (N:=1) ?hd (cs:=#[.int .i64 a0_0,.slice A0_1 l0_1.length c0_1,.slice A0_2 l0_2.length c0_2]) (t:=49) ?hr ?_;(case hd=>rfl);(case hg=>rfl);(case hr=>first|(go_simp;done)|(go_simp;rfl));intro gb267 hg w3 hbox hb;have n0_:=qA.mk (qN (by repeat (first|(with_reducible first|exact HB.out|apply qH|apply qB|apply qG)|exact HB.out)) hb);have n1_:=qA.mk (hbox);have n2_:=qA.mk ((by rw [hg];exact (qQ (by repeat (first|(with_reducible first|exact HB.out|apply qH|apply qB|apply qG)|exact HB.out))) : w.heap.size ≤ gb267));have n3_:=qA.mk ((by rw [hg];exact (qQ (by repeat (first|(with_reducible first|exact HB.out|apply qH|apply qB|apply qG)|exact HB.out))) : w.heap.size ≤ gb267));clear HB;have HB:=n0_;have BK267:=n1_;have GW267:=n2_;have GE267:=n3_;clear n0_ n1_ n2_ n3_;clear hb hbox hg))
 (try simp only [Act.put,List.setIfInBounds_toArray,List.set_cons_zero,List.set_cons_succ])
 go_cut [24] (fun v24 wc=>∃ (kq : Nat) (x24_1 : Bool),v24 = .bool x24_1∧qA (zH.j0 kq x24_1 a0_0 l0_1 l0_2 = some r)∧qA (kq ≤ k)∧qA (wc.heap[gb267]? = some (.cells #[.int .i64 a0_0,(.slice A0_1 l0_1.length c0_1),(.slice A0_2 l0_2.length c0_2)] 49 (0,0)))∧qA (Below w.heap.size w wc))
 case first =>
  have H:=HC2.out
  clear HC2
  by_cases c4 : a0_0 < 1
  ·rw [if_pos c4] at H
   have c4b0 : decide (a0_0 < 1) = true:=decide_eq_true c4
   clear c4
   (first|rw [c4b0]|(simp only [zT,zW];rw [c4b0])|skip)
   have H':=qA.mk H
   clear H
   have hcz5_0 : w3.cell? ⟨gb267,0,none⟩ = some (.int .i64 a0_0):=(qK BK267.out 0).trans rfl
   have hcz5_1 : w3.cell? ⟨gb267,1,none⟩ = some (.slice A0_1 l0_1.length c0_1):=(qK BK267.out 1).trans rfl
   have hcz5_2 : w3.cell? ⟨gb267,2,none⟩ = some (.slice A0_2 l0_2.length c0_2):=(qK BK267.out 2).trans rfl
   have hfz5_0:=qJ BK267.out 0
   have hfz5_1:=qJ BK267.out 1
   have hfz5_2:=qJ BK267.out 2
   go_wp2
   go_meet
   case rel=>exact ⟨_,(true),(by first|rfl|(simp;done)|(simp [*];done)),H',⟨by first|omega|exact Nat.le_refl _⟩,⟨by (with_reducible repeat (first|refine qF ?_ _|refine qI ?_|refine qE ?_ _));exact BK267.out⟩,⟨by repeat (first|(with_reducible first|exact HB.out|apply qH|apply qB|apply qG|refine qD ?_ GE267.out)|exact HB.out)⟩⟩
  ·rw [if_neg c4] at H
   have c4b0 : decide (a0_0 < 1) = false:=decide_eq_false c4
   clear c4
   (first|rw [c4b0]|(simp only [zT,zW];rw [c4b0])|skip)
   have H':=qA.mk H
   clear H
   have hcz6_0 : w3.cell? ⟨gb267,0,none⟩ = some (.int .i64 a0_0):=(qK BK267.out 0).trans rfl
   have hcz6_1 : w3.cell? ⟨gb267,1,none⟩ = some (.slice A0_1 l0_1.length c0_1):=(qK BK267.out 1).trans rfl
   have hcz6_2 : w3.cell? ⟨gb267,2,none⟩ = some (.slice A0_2 l0_2.length c0_2):=(qK BK267.out 2).trans rfl
   have hfz6_0:=qJ BK267.out 0
   have hfz6_1:=qJ BK267.out 1
   have hfz6_2:=qJ BK267.out 2
   go_wp2
   go_meet
   case rel=>exact ⟨_,(decide (a0_0 > (wrap64 ((l0_1.length : Int) + (l0_2.length : Int))))),(by first|rfl|(simp;done)|(simp [*];done)),H',⟨by first|omega|exact Nat.le_refl _⟩,⟨by (with_reducible repeat (first|refine qF ?_ _|refine qI ?_|refine qE ?_ _));exact BK267.out⟩,⟨by repeat (first|(with_reducible first|exact HB.out|apply qH|apply qB|apply qG|refine qD ?_ GE267.out)|exact HB.out)⟩⟩
 case rest =>
  clear HC2
  try clear p2
  try clear c4
  try clear c4b0
  try clear c5
  try clear p6
  try clear hcz5_0
  try clear hcz5_1
  try clear hcz5_2
  try clear hcz6_0
  try clear hcz6_1
  try clear hcz6_2
  try clear hfz5_0
  try clear hfz5_1
  try clear hfz5_2
  try clear hfz6_0
  try clear hfz6_1
  try clear hfz6_2
  obtain ⟨kq,x24_1,rfl,HA,HJ1,BK267,HB⟩:=hcut
  cases kq with
  | zero=>exact absurd HA.out (by simp [zH.j0])
  | succ kj1 =>
   have H:=HA.out
   clear HA
   simp only [zH.j0] at H
   by_cases c7 : x24_1 = true
   ·subst c7
    have H1 : (some 4) = some r:=by rw [if_pos rfl] at H;exact H
    clear H
    have H:=H1
    clear H1
    obtain rfl:=Option.some.inj H
    go_wp2
    go_ret
    exact ⟨by first|rfl|(simp [zK,zJ]<;>rfl)|(simp [*,zK,zJ]<;>rfl),by repeat (first|(with_reducible first|exact HB.out|apply qH|apply qB|apply qG|refine qD ?_ GE267.out)|exact HB.out)⟩
   ·replace c7:=Bool.eq_false_iff.mpr c7
    subst c7
    have H1 : (zH.l0 kj1 l0_1 (l0_1.length : Int) 0 a0_0 l0_1 l0_2) = some r:=by rw [if_neg (show ¬ (false = true) by decide)] at H;exact H
    clear H
    have H:=H1
    clear H1
    have H':=qA.mk H
    clear H
    have hcz8_0 : wc.cell? ⟨gb267,0,none⟩ = some (.int .i64 a0_0):=(qK BK267.out 0).trans rfl
    have hcz8_1 : wc.cell? ⟨gb267,1,none⟩ = some (.slice A0_1 l0_1.length c0_1):=(qK BK267.out 1).trans rfl
    have hcz8_2 : wc.cell? ⟨gb267,2,none⟩ = some (.slice A0_2 l0_2.length c0_2):=(qK BK267.out 2).trans rfl
    have hfz8_0:=qJ BK267.out 0
    have hfz8_1:=qJ BK267.out 1
    have hfz8_2:=qJ BK267.out 2
    go_wp2
    go_loopg [28] kj1 (fun kq v28 w'=>∃ (x28_2 : Int),v28 = .int .i64 x28_2∧qA (zH.l0 kq l0_1 (l0_1.length : Int) x28_2 a0_0 l0_1 l0_2 = some r)∧qA (kq ≤ kj1)∧qA (w'.heap[gb267]? = some (.cells #[.int .i64 a0_0,(.slice A0_1 l0_1.length c0_1),(.slice A0_2 l0_2.length c0_2)] 49 (0,0)))∧qA (Below w.heap.size w w'))
    case atStart=>exact ⟨(0),(by first|rfl|(simp;done)|(simp [*];done)),H',⟨Nat.le_refl _⟩,⟨by (with_reducible repeat (first|refine qF ?_ _|refine qI ?_|refine qE ?_ _));exact BK267.out⟩,⟨by repeat (first|(with_reducible first|exact HB.out|apply qH|apply qB|apply qG|refine qD ?_ GE267.out)|exact HB.out)⟩⟩
    case round =>
     clear H'
     try clear p2
     try clear c4
     try clear c4b0
     try clear c5
     try clear p6
     try clear c7
     try clear hcz5_0
     try clear hcz5_1
     try clear hcz5_2
     try clear hcz6_0
     try clear hcz6_1
     try clear hcz6_2
     try clear hcz8_0
     try clear hcz8_1
     try clear hcz8_2
     try clear hfz5_0
     try clear hfz5_1
     try clear hfz5_2
     try clear hfz6_0
     try clear hfz6_1
     try clear hfz6_2
     try clear hfz8_0
     try clear hfz8_1
     try clear hfz8_2
     try clear p2
     try clear p6
     obtain ⟨x28_2,rfl,HA,HK2,BK267,HB⟩:=hrel
     cases gk with
     | zero=>exact absurd HA.out (by simp [zH.l0])
     | succ k2 =>
      have H:=HA.out
      clear HA
      simp only [zH.l0] at H
      by_cases c9 : x28_2 < (l0_1.length : Int)
      ·rw [if_pos c9] at H
       have c9b0 : decide (x28_2 < (l0_1.length : Int)) = true:=decide_eq_true c9
       clear c9
       by_cases c10 : 0 ≤ x28_2
       ·rw [if_pos c10] at H
        have c10b0 : decide (0 ≤ x28_2) = true:=decide_eq_true c10
        clear c10
        by_cases c11 : x28_2 < (l0_1.length : Int)
        ·rw [if_pos c11] at H
         have c11b0 : decide (x28_2 < (l0_1.length : Int)) = true:=decide_eq_true c11
         clear c11
         by_cases c12 : (rd l0_1 x28_2) < 0
         ·rw [if_pos c12] at H
          have c12b0 : decide ((rd l0_1 x28_2) < 0) = true:=decide_eq_true c12
          clear c12
          obtain rfl:=Option.some.inj H
          have p268 : 0 ≤ (x28_2 : Int):=of_decide_eq_true (by first|(with_reducible assumption)|assumption)
          have q268 : x28_2 < (l0_1.length : Int):=of_decide_eq_true (by first|(with_reducible assumption)|assumption)
          obtain ⟨ad268,e268,hx268_0⟩:=Kd.uP HR0_1.out x28_2 p268 q268
          cases e268
          replace hx268_0:=(HB.out.cell (World.block_lt_of_cell? w _ hx268_0)).trans hx268_0
          replace p268:=eq_true p268
          replace q268:=eq_true q268
          go_wp2
          go_ret
          exact ⟨by first|rfl|(simp [zK,zJ]<;>rfl)|(simp [*,zK,zJ]<;>rfl),by repeat (first|(with_reducible first|exact HB.out|apply qH|apply qB|apply qG|refine qD ?_ GE267.out)|exact HB.out)⟩
         ·rw [if_neg c12] at H
          have c12b0 : decide ((rd l0_1 x28_2) < 0) = false:=decide_eq_false c12
          clear c12
          by_cases c13 : (rd l0_1 x28_2) ≥ 10
          ·rw [if_pos c13] at H
           have c13b0 : decide (10 ≤ (rd l0_1 x28_2)) = true:=decide_eq_true c13
           clear c13
           obtain rfl:=Option.some.inj H
           have p268 : 0 ≤ (x28_2 : Int):=of_decide_eq_true (by first|(with_reducible assumption)|assumption)
           have q268 : x28_2 < (l0_1.length : Int):=of_decide_eq_true (by first|(with_reducible assumption)|assumption)
           obtain ⟨ad268,e268,hx268_0⟩:=Kd.uP HR0_1.out x28_2 p268 q268
           cases e268
           replace hx268_0:=(HB.out.cell (World.block_lt_of_cell? w _ hx268_0)).trans hx268_0
           replace p268:=eq_true p268
           replace q268:=eq_true q268
           go_wp2
           go_ret
           exact ⟨by first|rfl|(simp [zK,zJ]<;>rfl)|(simp [*,zK,zJ]<;>rfl),by repeat (first|(with_reducible first|exact HB.out|apply qH|apply qB|apply qG|refine qD ?_ GE267.out)|exact HB.out)⟩
          ·rw [if_neg c13] at H
           have c13b0 : decide (10 ≤ (rd l0_1 x28_2)) = false:=decide_eq_false c13
           clear c13
           have H':=qA.mk H
           clear H
           have p268 : 0 ≤ (x28_2 : Int):=of_decide_eq_true (by first|(with_reducible assumption)|assumption)
           have q268 : x28_2 < (l0_1.length : Int):=of_decide_eq_true (by first|(with_reducible assumption)|assumption)
           obtain ⟨ad268,e268,hx268_0⟩:=Kd.uP HR0_1.out x28_2 p268 q268
           cases e268
           replace hx268_0:=(HB.out.cell (World.block_lt_of_cell? w _ hx268_0)).trans hx268_0
           replace p268:=eq_true p268
           replace q268:=eq_true q268
           go_wp2
           go_roundg k2
           case measure=>have:=HJ1.out;have:=HK2.out;omega
           case rel=>exact ⟨(wrap64 (x28_2 + 1)),(by first|rfl|(simp;done)|(simp [*];done)),H',⟨by have:=HJ1.out;have:=HK2.out;omega⟩,⟨by (with_reducible repeat (first|refine qF ?_ _|refine qI ?_|refine qE ?_ _));exact BK267.out⟩,⟨by repeat (first|(with_reducible first|exact HB.out|apply qH|apply qB|apply qG|refine qD ?_ GE267.out)|exact HB.out)⟩⟩
        ·rw [if_neg c11] at H
         exact absurd H (by simp)
       ·rw [if_neg c10] at H
        exact absurd H (by simp)
      ·rw [if_neg c9] at H
       have c9b0 : decide (x28_2 < (l0_1.length : Int)) = false:=decide_eq_false c9
       clear c9
       replace H:=Option.bind_eq_some_iff.mp H
       obtain ⟨⟨t269,t270⟩,A140,H⟩:=H
       replace H : (if t270 = 0 then (zH.l1 k2 l0_2 (l0_2.length : Int) 0) else (some t270)) = some r:=H
       have A14:=qA.mk A140
       clear A140
       by_cases c15 : t270 = 0
       ·rw [if_pos c15] at H
        have c15b0 : (t270 == 0) = true:=beq_iff_eq.mpr c15
        have c15b1 : (t270 != 0) = false:=bne_eq_false_iff_eq.mpr c15
        clear c15
        have H':=qA.mk H
        clear H
        have hcz16_0 : wr.cell? ⟨gb267,0,none⟩ = some (.int .i64 a0_0):=(qK BK267.out 0).trans rfl
        have hcz16_1 : wr.cell? ⟨gb267,1,none⟩ = some (.slice A0_1 l0_1.length c0_1):=(qK BK267.out 1).trans rfl
        have hcz16_2 : wr.cell? ⟨gb267,2,none⟩ = some (.slice A0_2 l0_2.length c0_2):=(qK BK267.out 2).trans rfl
        have hfz16_0:=qJ BK267.out 0
        have hfz16_1:=qJ BK267.out 1
        have hfz16_2:=qJ BK267.out 2
        go_wp2_with (first|((with_reducible refine q8 (f:=53) rfl ?_);refine jB (some 42) rfl rfl Try.func53 (by kernel_rfl) rfl #[.slice A0_1 l0_1.length c0_1] rfl (by (try simp only [List.map_toArray,List.map_cons,List.map_nil]);first|done|rfl|(simp only [List.length_drop,List.length_take];rfl)|(simp only [List.length_nil,Int.natCast_zero,Int.zero_add,Int.ofNat_zero];rfl)) ?_;(with_reducible refine (jM.calls k2 _ _ l0_1 t269 t270 _ ?side1 ?side2 A14.out).mono ?_);(case side1=>repeat (first|exact (Kd.vD HR0_1.out HB.out)|(with_reducible refine Kd.jK ?_ _)|(with_reducible refine Kd.jJ ?_ _)|(with_reducible refine Kd.jV ?_)));(case side2=>exact HC0_1.out);rintro e w' ⟨rfl,⟨nd,rfl⟩⟩;refine ⟨_,rfl,?_⟩))
        go_loopg [51] k2 (fun kq v51 w'=>∃ (x51_3 : Int),v51 = .int .i64 x51_3∧qA (zH.l1 kq l0_2 (l0_2.length : Int) x51_3 = some r)∧qA (kq ≤ k2)∧qA (w'.heap[gb267]? = some (.cells #[.int .i64 a0_0,(.slice A0_1 l0_1.length c0_1),(.slice A0_2 l0_2.length c0_2)] 49 (0,0)))∧qA (Below w.heap.size w w'))
        case atStart=>exact ⟨(0),(by first|rfl|(simp;done)|(simp [*];done)),H',⟨Nat.le_refl _⟩,⟨by (with_reducible repeat (first|refine qF ?_ _|refine qI ?_|refine qE ?_ _));exact BK267.out⟩,⟨by repeat (first|(with_reducible first|exact HB.out|apply qH|apply qB|apply qG|refine qD ?_ GE267.out)|exact HB.out)⟩⟩
        case round =>
         clear H'
         try clear c1
         try clear p2
         try clear q2
         try clear hx2
         try clear c4
         try clear c4b0
         try clear c5
         try clear p6
         try clear c7
         try clear c9
         try clear c9b0
         try clear c10
         try clear c10b0
         try clear c11
         try clear c11b0
         try clear c12
         try clear c12b0
         try clear c13
         try clear c13b0
         try clear c15
         try clear c15b0
         try clear c15b1
         try clear hcz16_0
         try clear hcz16_1
         try clear hcz16_2
         try clear hcz5_0
         try clear hcz5_1
         try clear hcz5_2
         try clear hcz6_0
         try clear hcz6_1
         try clear hcz6_2
         try clear hcz8_0
         try clear hcz8_1
         try clear hcz8_2
         try clear hfz16_0
         try clear hfz16_1
         try clear hfz16_2
         try clear hfz5_0
         try clear hfz5_1
         try clear hfz5_2
         try clear hfz6_0
         try clear hfz6_1
         try clear hfz6_2
         try clear hfz8_0
         try clear hfz8_1
         try clear hfz8_2
         try clear hx268_0
         try clear p2
         try clear p268
         try clear p6
         try clear q268
         obtain ⟨x51_3,rfl,HA,HK3,BK267,HB⟩:=hrel
         cases gk with
         | zero=>exact absurd HA.out (by simp [zH.l1])
         | succ k3 =>
          have H:=HA.out
          clear HA
          simp only [zH.l1] at H
          by_cases c17 : x51_3 < (l0_2.length : Int)
          ·rw [if_pos c17] at H
           have c17b0 : decide (x51_3 < (l0_2.length : Int)) = true:=decide_eq_true c17
           clear c17
           by_cases c18 : 0 ≤ x51_3
           ·rw [if_pos c18] at H
            have c18b0 : decide (0 ≤ x51_3) = true:=decide_eq_true c18
            clear c18
            by_cases c19 : x51_3 < (l0_2.length : Int)
            ·rw [if_pos c19] at H
             have c19b0 : decide (x51_3 < (l0_2.length : Int)) = true:=decide_eq_true c19
             clear c19
             replace H:=Option.bind_eq_some_iff.mp H
             obtain ⟨t273,A200,H⟩:=H
             replace H : (if t273 = 0 then (zH.l1 k3 l0_2 (l0_2.length : Int) (wrap64 (x51_3 + 1))) else (some t273)) = some r:=H
             have A20:=qA.mk A200
             clear A200
             by_cases c21 : t273 = 0
             ·rw [if_pos c21] at H
              have c21b0 : (t273 == 0) = true:=beq_iff_eq.mpr c21
              have c21b1 : (t273 != 0) = false:=bne_eq_false_iff_eq.mpr c21
              clear c21
              have H':=qA.mk H
              clear H
              have p271 : 0 ≤ (x51_3 : Int):=of_decide_eq_true (by first|(with_reducible assumption)|assumption)
              have q271 : x51_3 < (l0_2.length : Int):=of_decide_eq_true (by first|(with_reducible assumption)|assumption)
              obtain ⟨ad271,A271_1,c271_1,A271_2,c271_2,e271,hx271_0,hx271_1,hx271_2,hl271_1,hi271_1,hl271_2,hi271_2⟩:=at_T49 HR0_2.out x51_3 p271 q271
              cases e271
              replace hx271_0:=(HB.out.cell (World.block_lt_of_cell? w _ hx271_0)).trans hx271_0
              replace hx271_1:=(HB.out.cell (World.block_lt_of_cell? w _ hx271_1)).trans hx271_1
              replace hx271_2:=(HB.out.cell (World.block_lt_of_cell? w _ hx271_2)).trans hx271_2
              have HR271_1:=qA.mk hi271_1
              have HC271_1:=qA.mk hl271_1
              clear hi271_1 hl271_1
              have HR271_2:=qA.mk hi271_2
              have HC271_2:=qA.mk hl271_2
              clear hi271_2 hl271_2
              replace p271:=eq_true p271
              replace q271:=eq_true q271
              go_wp2_with (first|((with_reducible refine jH (N:=8) rfl ?_);(try (refine uI (by rfl) ?_;dsimp only));refine jL ?hg (N:=8) ?hd (cs:=#[.int .i64 0,.slice none 0 0,.slice none 0 0]) (t:=49) ?hr ?_;(case hd=>rfl);(case hg=>rfl);(case hr=>first|(go_simp;done)|(go_simp;rfl));intro gb272 hg w22 hbox hb;have n0_:=qA.mk (zD (g:=gb267) (o:=.cells #[.int .i64 a0_0,.slice A0_1 l0_1.length c0_1,.slice (some ad271) l0_2.length c0_2] 49 (0,0)) (by (with_reducible repeat (first|refine qF ?_ _|refine qI ?_|refine qE ?_ _));exact BK267.out) hb);have n1_:=qA.mk (qN (by repeat (first|(with_reducible first|exact HB.out|apply qH|apply qB|apply qG|refine qD ?_ GE267.out)|exact HB.out)) hb);have n2_:=qA.mk (hbox);have n3_:=qA.mk ((by rw [hg];exact (qQ (by repeat (first|(with_reducible first|exact HB.out|apply qH|apply qB|apply qG|refine qD ?_ GE267.out)|exact HB.out))) : w.heap.size ≤ gb272));have n4_:=qA.mk ((by rw [hg];exact (qQ (by repeat (first|(with_reducible first|exact HB.out|apply qH|apply qB|apply qG|refine qD ?_ GE267.out)|exact HB.out))) : w.heap.size ≤ gb272));have n5_:=qA.mk ((by rw [hg];exact Nat.ne_of_lt (jR (g:=gb267) (o:=.cells #[.int .i64 a0_0,.slice A0_1 l0_1.length c0_1,.slice (some ad271) l0_2.length c0_2] 49 (0,0)) (by (with_reducible repeat (first|refine qF ?_ _|refine qI ?_|refine qE ?_ _));exact BK267.out)) : gb267≠gb272));have n6_:=qA.mk ((by rw [hg];exact Nat.ne_of_gt (jR (g:=gb267) (o:=.cells #[.int .i64 a0_0,.slice A0_1 l0_1.length c0_1,.slice (some ad271) l0_2.length c0_2] 49 (0,0)) (by (with_reducible repeat (first|refine qF ?_ _|refine qI ?_|refine qE ?_ _));exact BK267.out)) : gb272≠gb267));clear BK267;clear HB;have BK267:=n0_;have HB:=n1_;have BK272:=n2_;have GW272:=n3_;have GE272:=n4_;have NB267_272:=n5_;have NB272_267:=n6_;clear n0_ n1_ n2_ n3_ n4_ n5_ n6_;clear hb hbox hg;have hnb23:=NB272_267.out;have hnc23:=NB267_272.out;have hcz24_0 : w22.cell? ⟨gb272,0,none⟩ = some (.int .i64 0):=(qK BK272.out 0).trans rfl;have hcz24_1 : w22.cell? ⟨gb272,1,none⟩ = some (.slice none 0 0):=(qK BK272.out 1).trans rfl;have hcz24_2 : w22.cell? ⟨gb272,2,none⟩ = some (.slice none 0 0):=(qK BK272.out 2).trans rfl;have hfz24_0:=qJ BK272.out 0;have hfz24_1:=qJ BK272.out 1;have hfz24_2:=qJ BK272.out 2)|((with_reducible refine q8 (f:=52) rfl ?_);refine jB (some 56) rfl rfl Try.func52 (by kernel_rfl) rfl #[.agg #[.int .i64 ((jI l0_2 x51_3).f0),.slice A271_1 ((jI l0_2 x51_3).f1).length c271_1,.slice A271_2 ((jI l0_2 x51_3).f2).length c271_2]] rfl (by (try simp only [List.map_toArray,List.map_cons,List.map_nil]);first|done|rfl|(simp only [List.length_drop,List.length_take];rfl)|(simp only [List.length_nil,Int.natCast_zero,Int.zero_add,Int.ofNat_zero];rfl)) ?_;(with_reducible refine (ih k3 (by have:=HJ1.out;have:=HK2.out;have:=HK3.out;omega) ((jI l0_2 x51_3).f0) _ _ ((jI l0_2 x51_3).f1) _ _ ((jI l0_2 x51_3).f2) t273 _ ?side1 ?side2 ?side3 ?side4 A20.out).mono ?_);(case side1=>exact Kd.vD HR271_1.out (by repeat (first|(with_reducible first|exact HB.out|apply qH|apply qB|apply qG|refine qD ?_ GE267.out|refine qD ?_ GE272.out)|exact HB.out)));(case side2=>exact HC271_1.out);(case side3=>exact Kd.vD HR271_2.out (by repeat (first|(with_reducible first|exact HB.out|apply qH|apply qB|apply qG|refine qD ?_ GE267.out|refine qD ?_ GE272.out)|exact HB.out)));(case side4=>exact HC271_2.out);rintro e w25 ⟨rfl,hb⟩;refine ⟨_,rfl,?_⟩;have n0_:=qA.mk (zD (g:=gb267) (o:=.cells #[.int .i64 a0_0,.slice A0_1 l0_1.length c0_1,.slice (some ad271) l0_2.length c0_2] 49 (0,0)) (by (with_reducible repeat (first|refine qF ?_ _|refine qI ?_|refine qE ?_ _));refine zU ?_ NB267_272.out _;(with_reducible repeat (first|refine qF ?_ _|refine qI ?_|refine qE ?_ _));refine zU ?_ NB267_272.out _;(with_reducible repeat (first|refine qF ?_ _|refine qI ?_|refine qE ?_ _));refine zU ?_ NB267_272.out _;(with_reducible repeat (first|refine qF ?_ _|refine qI ?_|refine qE ?_ _));exact BK267.out) hb);have n1_:=qA.mk (zD (g:=gb272) (o:=.cells #[.int .i64 ((jI l0_2 x51_3).f0),.slice A271_1 ((jI l0_2 x51_3).f1).length c271_1,.slice A271_2 ((jI l0_2 x51_3).f2).length c271_2] 49 (0,0)) (by (with_reducible repeat (first|refine qF ?_ _|refine qI ?_|refine qE ?_ _));refine zV (cs:=#[.int .i64 ((jI l0_2 x51_3).f0),.slice A271_1 ((jI l0_2 x51_3).f1).length c271_1,.slice none 0 0]) ?_ 2 _ rfl;(with_reducible repeat (first|refine qF ?_ _|refine qI ?_|refine qE ?_ _));refine zV (cs:=#[.int .i64 ((jI l0_2 x51_3).f0),.slice none 0 0,.slice none 0 0]) ?_ 1 _ rfl;(with_reducible repeat (first|refine qF ?_ _|refine qI ?_|refine qE ?_ _));refine zV (cs:=#[.int .i64 0,.slice none 0 0,.slice none 0 0]) ?_ 0 _ rfl;(with_reducible repeat (first|refine qF ?_ _|refine qI ?_|refine qE ?_ _));exact BK272.out) hb);have n2_:=qA.mk (qN (by repeat (first|(with_reducible first|exact HB.out|apply qH|apply qB|apply qG|refine qD ?_ GE267.out|refine qD ?_ GE272.out)|exact HB.out)) hb);clear BK267;clear BK272;clear HB;have BK267:=n0_;have BK272:=n1_;have HB:=n2_;clear n0_ n1_ n2_;(try clear hb);(try clear hb2);(try clear hk);(try clear hi)))
              go_roundg k3
              case measure=>have:=HJ1.out;have:=HK2.out;have:=HK3.out;omega
              case rel=>exact ⟨(wrap64 (x51_3 + 1)),(by first|rfl|(simp;done)|(simp [*];done)),H',⟨by have:=HJ1.out;have:=HK2.out;have:=HK3.out;omega⟩,⟨by (with_reducible repeat (first|refine qF ?_ _|refine qI ?_|refine qE ?_ _));exact BK267.out⟩,⟨by repeat (first|(with_reducible first|exact HB.out|apply qH|apply qB|apply qG|refine qD ?_ GE267.out|refine qD ?_ GE272.out)|exact HB.out)⟩⟩
             ·rw [if_neg c21] at H
              have c21b0 : (t273 == 0) = false:=beq_eq_false_iff_ne.mpr c21
              have c21b1 : (t273 != 0) = true:=bne_iff_ne.mpr c21
              obtain rfl:=Option.some.inj H
              have p271 : 0 ≤ (x51_3 : Int):=of_decide_eq_true (by first|(with_reducible assumption)|assumption)
              have q271 : x51_3 < (l0_2.length : Int):=of_decide_eq_true (by first|(with_reducible assumption)|assumption)
              obtain ⟨ad271,A271_1,c271_1,A271_2,c271_2,e271,hx271_0,hx271_1,hx271_2,hl271_1,hi271_1,hl271_2,hi271_2⟩:=at_T49 HR0_2.out x51_3 p271 q271
              cases e271
              replace hx271_0:=(HB.out.cell (World.block_lt_of_cell? w _ hx271_0)).trans hx271_0
              replace hx271_1:=(HB.out.cell (World.block_lt_of_cell? w _ hx271_1)).trans hx271_1
              replace hx271_2:=(HB.out.cell (World.block_lt_of_cell? w _ hx271_2)).trans hx271_2
              have HR271_1:=qA.mk hi271_1
              have HC271_1:=qA.mk hl271_1
              clear hi271_1 hl271_1
              have HR271_2:=qA.mk hi271_2
              have HC271_2:=qA.mk hl271_2
              clear hi271_2 hl271_2
              replace p271:=eq_true p271
              replace q271:=eq_true q271
              go_wp2_with (first|((with_reducible refine jH (N:=8) rfl ?_);(try (refine uI (by rfl) ?_;dsimp only));refine jL ?hg (N:=8) ?hd (cs:=#[.int .i64 0,.slice none 0 0,.slice none 0 0]) (t:=49) ?hr ?_;(case hd=>rfl);(case hg=>rfl);(case hr=>first|(go_simp;done)|(go_simp;rfl));intro gb272 hg w26 hbox hb;have n0_:=qA.mk (zD (g:=gb267) (o:=.cells #[.int .i64 a0_0,.slice A0_1 l0_1.length c0_1,.slice (some ad271) l0_2.length c0_2] 49 (0,0)) (by (with_reducible repeat (first|refine qF ?_ _|refine qI ?_|refine qE ?_ _));exact BK267.out) hb);have n1_:=qA.mk (qN (by repeat (first|(with_reducible first|exact HB.out|apply qH|apply qB|apply qG|refine qD ?_ GE267.out)|exact HB.out)) hb);have n2_:=qA.mk (hbox);have n3_:=qA.mk ((by rw [hg];exact (qQ (by repeat (first|(with_reducible first|exact HB.out|apply qH|apply qB|apply qG|refine qD ?_ GE267.out)|exact HB.out))) : w.heap.size ≤ gb272));have n4_:=qA.mk ((by rw [hg];exact (qQ (by repeat (first|(with_reducible first|exact HB.out|apply qH|apply qB|apply qG|refine qD ?_ GE267.out)|exact HB.out))) : w.heap.size ≤ gb272));have n5_:=qA.mk ((by rw [hg];exact Nat.ne_of_lt (jR (g:=gb267) (o:=.cells #[.int .i64 a0_0,.slice A0_1 l0_1.length c0_1,.slice (some ad271) l0_2.length c0_2] 49 (0,0)) (by (with_reducible repeat (first|refine qF ?_ _|refine qI ?_|refine qE ?_ _));exact BK267.out)) : gb267≠gb272));have n6_:=qA.mk ((by rw [hg];exact Nat.ne_of_gt (jR (g:=gb267) (o:=.cells #[.int .i64 a0_0,.slice A0_1 l0_1.length c0_1,.slice (some ad271) l0_2.length c0_2] 49 (0,0)) (by (with_reducible repeat (first|refine qF ?_ _|refine qI ?_|refine qE ?_ _));exact BK267.out)) : gb272≠gb267));clear BK267;clear HB;have BK267:=n0_;have HB:=n1_;have BK272:=n2_;have GW272:=n3_;have GE272:=n4_;have NB267_272:=n5_;have NB272_267:=n6_;clear n0_ n1_ n2_ n3_ n4_ n5_ n6_;clear hb hbox hg;have hnb27:=NB272_267.out;have hnc27:=NB267_272.out;have hcz28_0 : w26.cell? ⟨gb272,0,none⟩ = some (.int .i64 0):=(qK BK272.out 0).trans rfl;have hcz28_1 : w26.cell? ⟨gb272,1,none⟩ = some (.slice none 0 0):=(qK BK272.out 1).trans rfl;have hcz28_2 : w26.cell? ⟨gb272,2,none⟩ = some (.slice none 0 0):=(qK BK272.out 2).trans rfl;have hfz28_0:=qJ BK272.out 0;have hfz28_1:=qJ BK272.out 1;have hfz28_2:=qJ BK272.out 2)|((with_reducible refine q8 (f:=52) rfl ?_);refine jB (some 56) rfl rfl Try.func52 (by kernel_rfl) rfl #[.agg #[.int .i64 ((jI l0_2 x51_3).f0),.slice A271_1 ((jI l0_2 x51_3).f1).length c271_1,.slice A271_2 ((jI l0_2 x51_3).f2).length c271_2]] rfl (by (try simp only [List.map_toArray,List.map_cons,List.map_nil]);first|done|rfl|(simp only [List.length_drop,List.length_take];rfl)|(simp only [List.length_nil,Int.natCast_zero,Int.zero_add,Int.ofNat_zero];rfl)) ?_;(with_reducible refine (ih k3 (by have:=HJ1.out;have:=HK2.out;have:=HK3.out;omega) ((jI l0_2 x51_3).f0) _ _ ((jI l0_2 x51_3).f1) _ _ ((jI l0_2 x51_3).f2) t273 _ ?side1 ?side2 ?side3 ?side4 A20.out).mono ?_);(case side1=>exact Kd.vD HR271_1.out (by repeat (first|(with_reducible first|exact HB.out|apply qH|apply qB|apply qG|refine qD ?_ GE267.out|refine qD ?_ GE272.out)|exact HB.out)));(case side2=>exact HC271_1.out);(case side3=>exact Kd.vD HR271_2.out (by repeat (first|(with_reducible first|exact HB.out|apply qH|apply qB|apply qG|refine qD ?_ GE267.out|refine qD ?_ GE272.out)|exact HB.out)));(case side4=>exact HC271_2.out);rintro e w29 ⟨rfl,hb⟩;refine ⟨_,rfl,?_⟩;have n0_:=qA.mk (zD (g:=gb267) (o:=.cells #[.int .i64 a0_0,.slice A0_1 l0_1.length c0_1,.slice (some ad271) l0_2.length c0_2] 49 (0,0)) (by (with_reducible repeat (first|refine qF ?_ _|refine qI ?_|refine qE ?_ _));refine zU ?_ NB267_272.out _;(with_reducible repeat (first|refine qF ?_ _|refine qI ?_|refine qE ?_ _));refine zU ?_ NB267_272.out _;(with_reducible repeat (first|refine qF ?_ _|refine qI ?_|refine qE ?_ _));refine zU ?_ NB267_272.out _;(with_reducible repeat (first|refine qF ?_ _|refine qI ?_|refine qE ?_ _));exact BK267.out) hb);have n1_:=qA.mk (zD (g:=gb272) (o:=.cells #[.int .i64 ((jI l0_2 x51_3).f0),.slice A271_1 ((jI l0_2 x51_3).f1).length c271_1,.slice A271_2 ((jI l0_2 x51_3).f2).length c271_2] 49 (0,0)) (by (with_reducible repeat (first|refine qF ?_ _|refine qI ?_|refine qE ?_ _));refine zV (cs:=#[.int .i64 ((jI l0_2 x51_3).f0),.slice A271_1 ((jI l0_2 x51_3).f1).length c271_1,.slice none 0 0]) ?_ 2 _ rfl;(with_reducible repeat (first|refine qF ?_ _|refine qI ?_|refine qE ?_ _));refine zV (cs:=#[.int .i64 ((jI l0_2 x51_3).f0),.slice none 0 0,.slice none 0 0]) ?_ 1 _ rfl;(with_reducible repeat (first|refine qF ?_ _|refine qI ?_|refine qE ?_ _));refine zV (cs:=#[.int .i64 0,.slice none 0 0,.slice none 0 0]) ?_ 0 _ rfl;(with_reducible repeat (first|refine qF ?_ _|refine qI ?_|refine qE ?_ _));exact BK272.out) hb);have n2_:=qA.mk (qN (by repeat (first|(with_reducible first|exact HB.out|apply qH|apply qB|apply qG|refine qD ?_ GE267.out|refine qD ?_ GE272.out)|exact HB.out)) hb);clear BK267;clear BK272;clear HB;have BK267:=n0_;have BK272:=n1_;have HB:=n2_;clear n0_ n1_ n2_;(try clear hb);(try clear hb2);(try clear hk);(try clear hi)))
              go_ret
              exact ⟨by first|rfl|(simp [zK,zJ]<;>rfl)|(simp [*,zK,zJ]<;>rfl),by repeat (first|(with_reducible first|exact HB.out|apply qH|apply qB|apply qG|refine qD ?_ GE267.out|refine qD ?_ GE272.out)|exact HB.out)⟩
            ·rw [if_neg c19] at H
             exact absurd H (by simp)
           ·rw [if_neg c18] at H
            exact absurd H (by simp)
          ·rw [if_neg c17] at H
           have c17b0 : decide (x51_3 < (l0_2.length : Int)) = false:=decide_eq_false c17
           clear c17
           obtain rfl:=Option.some.inj H
           go_wp2
           go_ret
           exact ⟨by first|rfl|(simp [zK,zJ]<;>rfl)|(simp [*,zK,zJ]<;>rfl),by repeat (first|(with_reducible first|exact HB.out|apply qH|apply qB|apply qG|refine qD ?_ GE267.out)|exact HB.out)⟩
       ·rw [if_neg c15] at H
        have c15b0 : (t270 == 0) = false:=beq_eq_false_iff_ne.mpr c15
        have c15b1 : (t270 != 0) = true:=bne_iff_ne.mpr c15
        obtain rfl:=Option.some.inj H
        have hcz30_0 : wr.cell? ⟨gb267,0,none⟩ = some (.int .i64 a0_0):=(qK BK267.out 0).trans rfl
        have hcz30_1 : wr.cell? ⟨gb267,1,none⟩ = some (.slice A0_1 l0_1.length c0_1):=(qK BK267.out 1).trans rfl
        have hcz30_2 : wr.cell? ⟨gb267,2,none⟩ = some (.slice A0_2 l0_2.length c0_2):=(qK BK267.out 2).trans rfl
        have hfz30_0:=qJ BK267.out 0
        have hfz30_1:=qJ BK267.out 1
        have hfz30_2:=qJ BK267.out 2
        go_wp2_with (first|((with_reducible refine q8 (f:=53) rfl ?_);refine jB (some 42) rfl rfl Try.func53 (by kernel_rfl) rfl #[.slice A0_1 l0_1.length c0_1] rfl (by (try simp only [List.map_toArray,List.map_cons,List.map_nil]);first|done|rfl|(simp only [List.length_drop,List.length_take];rfl)|(simp only [List.length_nil,Int.natCast_zero,Int.zero_add,Int.ofNat_zero];rfl)) ?_;(with_reducible refine (jM.calls k2 _ _ l0_1 t269 t270 _ ?side1 ?side2 A14.out).mono ?_);(case side1=>repeat (first|exact (Kd.vD HR0_1.out HB.out)|(with_reducible refine Kd.jK ?_ _)|(with_reducible refine Kd.jJ ?_ _)|(with_reducible refine Kd.jV ?_)));(case side2=>exact HC0_1.out);rintro e w' ⟨rfl,⟨nd,rfl⟩⟩;refine ⟨_,rfl,?_⟩))
        go_ret
        exact ⟨by first|rfl|(simp [zK,zJ]<;>rfl)|(simp [*,zK,zJ]<;>rfl),by repeat (first|(with_reducible first|exact HB.out|apply qH|apply qB|apply qG|refine qD ?_ GE267.out)|exact HB.out)⟩
def vP.f (k : Nat) (a0_0 : Int) (l0_1 : List Int) (l0_2 : List (S49)) : Option (Int):=(jC.f k a0_0 l0_1 l0_2).bind fun t275=>(if t275 > 4 then (some 3) else ((jF.f k a0_0 l0_1 l0_2).bind fun t276=>(if t276 > 200 then (some 3) else ((zH.f k a0_0 l0_1 l0_2).bind fun t277=>(some t277)))))
set_option maxHeartbeats 8000000 in
set_option maxRecDepth 100000 in
theorem vP.calls (k : Nat) (a0_0 : Int) (A0_1 : Option Addr) (c0_1 : Nat) (l0_1 : List Int) (A0_2 : Option Addr) (c0_2 : Nat) (l0_2 : List (S49)) (r : Int) (w : World) (hr0_1 : Kd.C (Kd.int .i64) w A0_1 l0_1.length l0_1) (hc0_1 : l0_1.length ≤ c0_1) (hr0_2 : Kd.C k49 w A0_2 l0_2.length l0_2) (hc0_2 : l0_2.length ≤ c0_2) (h : vP.f k a0_0 l0_1 l0_2 = some r) :
  Calls Try.prog 46 #[.agg #[.int .i64 a0_0,.slice A0_1 l0_1.length c0_1,.slice A0_2 l0_2.length c0_2]] w fun e w'=>e = .returned (.int .i64 r)∧Below w.heap.size w w':=by
 have hu49:=Try.underlying49
 have HR0_1:=qA.mk hr0_1
 have HC0_1:=qA.mk hc0_1
 clear hr0_1 hc0_1
 have HR0_2:=qA.mk hr0_2
 have HC0_2:=qA.mk hc0_2
 clear hr0_2 hc0_2
 have HB:=qA.mk (Below.refl w.heap.size w)
 have H : ((jC.f k a0_0 l0_1 l0_2).bind fun t275=>(if t275 > 4 then (some 3) else ((jF.f k a0_0 l0_1 l0_2).bind fun t276=>(if t276 > 200 then (some 3) else ((zH.f k a0_0 l0_1 l0_2).bind fun t277=>(some t277)))))) = some r:=h
 clear h
 replace H:=Option.bind_eq_some_iff.mp H
 obtain ⟨t275,A20,H⟩:=H
 replace H : (if t275 > 4 then (some 3) else ((jF.f k a0_0 l0_1 l0_2).bind fun t276=>(if t276 > 200 then (some 3) else ((zH.f k a0_0 l0_1 l0_2).bind fun t277=>(some t277))))) = some r:=H
 have A2:=qA.mk A20
 clear A20
 by_cases c3 : t275 > 4
 ·rw [if_pos c3] at H
  have c3b0 : decide (4 < t275) = true:=decide_eq_true c3
  clear c3
  obtain rfl:=Option.some.inj H
  go_enter Try.func46,Try.ntmps46
  go_wp2_with (first|((with_reducible refine jH (N:=1) rfl ?_);refine jL ?hg (N:=1) ?hd (cs:=#[.int .i64 a0_0,.slice A0_1 l0_1.length c0_1,.slice A0_2 l0_2.length c0_2]) (t:=49) ?hr ?_;(case hd=>rfl);(case hg=>rfl);(case hr=>first|(go_simp;done)|(go_simp;rfl));intro gb274 hg w4 hbox hb;have n0_:=qA.mk (qN (by repeat (first|(with_reducible first|exact HB.out|apply qH|apply qB|apply qG)|exact HB.out)) hb);have n1_:=qA.mk (hbox);have n2_:=qA.mk ((by rw [hg];exact (qQ (by repeat (first|(with_reducible first|exact HB.out|apply qH|apply qB|apply qG)|exact HB.out))) : w.heap.size ≤ gb274));have n3_:=qA.mk ((by rw [hg];exact (qQ (by repeat (first|(with_reducible first|exact HB.out|apply qH|apply qB|apply qG)|exact HB.out))) : w.heap.size ≤ gb274));clear HB;have HB:=n0_;have BK274:=n1_;have GW274:=n2_;have GE274:=n3_;clear n0_ n1_ n2_ n3_;clear hb hbox hg;have hcz5_0 : w4.cell? ⟨gb274,0,none⟩ = some (.int .i64 a0_0):=(qK BK274.out 0).trans rfl;have hcz5_1 : w4.cell? ⟨gb274,1,none⟩ = some (.slice A0_1 l0_1.length c0_1):=(qK BK274.out 1).trans rfl;have hcz5_2 : w4.cell? ⟨gb274,2,none⟩ = some (.slice A0_2 l0_2.length c0_2):=(qK BK274.out 2).trans rfl;have hfz5_0:=qJ BK274.out 0;have hfz5_1:=qJ BK274.out 1;have hfz5_2:=qJ BK274.out 2)|((with_reducible refine q8 (f:=50) rfl ?_);refine jB (some 4) rfl rfl Try.func50 (by kernel_rfl) rfl #[.agg #[.int .i64 a0_0,.slice A0_1 l0_1.length c0_1,.slice A0_2 l0_2.length c0_2]] rfl (by (try simp only [List.map_toArray,List.map_cons,List.map_nil]);first|done|rfl|(simp only [List.length_drop,List.length_take];rfl)|(simp only [List.length_nil,Int.natCast_zero,Int.zero_add,Int.ofNat_zero];rfl)) ?_;(with_reducible refine (jC.calls k a0_0 _ _ l0_1 _ _ l0_2 t275 _ ?side1 ?side2 ?side3 ?side4 A2.out).mono ?_);(case side1=>repeat (first|exact (Kd.vD HR0_1.out HB.out)|(with_reducible refine Kd.jK ?_ _)|(with_reducible refine Kd.jJ ?_ _)|(with_reducible refine Kd.jV ?_)));(case side2=>exact HC0_1.out);(case side3=>repeat (first|exact (Kd.vD HR0_2.out HB.out)|(with_reducible refine Kd.jK ?_ _)|(with_reducible refine Kd.jJ ?_ _)|(with_reducible refine Kd.jV ?_)));(case side4=>exact HC0_2.out);rintro e w6 ⟨rfl,hb⟩;refine ⟨_,rfl,?_⟩;have n0_:=qA.mk (zD (g:=gb274) (o:=.cells #[.int .i64 a0_0,.slice A0_1 l0_1.length c0_1,.slice A0_2 l0_2.length c0_2] 49 (0,0)) (by (with_reducible repeat (first|refine qF ?_ _|refine qI ?_|refine qE ?_ _));exact BK274.out) hb);have n1_:=qA.mk (qN (by repeat (first|(with_reducible first|exact HB.out|apply qH|apply qB|apply qG|refine qD ?_ GE274.out)|exact HB.out)) hb);clear BK274;clear HB;have BK274:=n0_;have HB:=n1_;clear n0_ n1_;(try clear hb);(try clear hb2);(try clear hk);(try clear hi)))
  go_ret
  exact ⟨by first|rfl|(simp [zK,zJ]<;>rfl)|(simp [*,zK,zJ]<;>rfl),by repeat (first|(with_reducible first|exact HB.out|apply qH|apply qB|apply qG|refine qD ?_ GE274.out)|exact HB.out)⟩
 ·rw [if_neg c3] at H
  have c3b0 : decide (4 < t275) = false:=decide_eq_false c3
  clear c3
  replace H:=Option.bind_eq_some_iff.mp H
  obtain ⟨t276,A70,H⟩:=H
  replace H : (if t276 > 200 then (some 3) else ((zH.f k a0_0 l0_1 l0_2).bind fun t277=>(some t277))) = some r:=H
  have A7:=qA.mk A70
  clear A70
  by_cases c8 : t276 > 200
  ·rw [if_pos c8] at H
   have c8b0 : decide (200 < t276) = true:=decide_eq_true c8
   clear c8
   obtain rfl:=Option.some.inj H
   go_enter Try.func46,Try.ntmps46
   go_wp2_with (first|((with_reducible refine jH (N:=1) rfl ?_);refine jL ?hg (N:=1) ?hd (cs:=#[.int .i64 a0_0,.slice A0_1 l0_1.length c0_1,.slice A0_2 l0_2.length c0_2]) (t:=49) ?hr ?_;(case hd=>rfl);(case hg=>rfl);(case hr=>first|(go_simp;done)|(go_simp;rfl));intro gb274 hg w9 hbox hb;have n0_:=qA.mk (qN (by repeat (first|(with_reducible first|exact HB.out|apply qH|apply qB|apply qG)|exact HB.out)) hb);have n1_:=qA.mk (hbox);have n2_:=qA.mk ((by rw [hg];exact (qQ (by repeat (first|(with_reducible first|exact HB.out|apply qH|apply qB|apply qG)|exact HB.out))) : w.heap.size ≤ gb274));have n3_:=qA.mk ((by rw [hg];exact (qQ (by repeat (first|(with_reducible first|exact HB.out|apply qH|apply qB|apply qG)|exact HB.out))) : w.heap.size ≤ gb274));clear HB;have HB:=n0_;have BK274:=n1_;have GW274:=n2_;have GE274:=n3_;clear n0_ n1_ n2_ n3_;clear hb hbox hg;have hcz10_0 : w9.cell? ⟨gb274,0,none⟩ = some (.int .i64 a0_0):=(qK BK274.out 0).trans rfl;have hcz10_1 : w9.cell? ⟨gb274,1,none⟩ = some (.slice A0_1 l0_1.length c0_1):=(qK BK274.out 1).trans rfl;have hcz10_2 : w9.cell? ⟨gb274,2,none⟩ = some (.slice A0_2 l0_2.length c0_2):=(qK BK274.out 2).trans rfl;have hfz10_0:=qJ BK274.out 0;have hfz10_1:=qJ BK274.out 1;have hfz10_2:=qJ BK274.out 2)|((with_reducible refine q8 (f:=50) rfl ?_);refine jB (some 4) rfl rfl Try.func50 (by kernel_rfl) rfl #[.agg #[.int .i64 a0_0,.slice A0_1 l0_1.length c0_1,.slice A0_2 l0_2.length c0_2]] rfl (by (try simp only [List.map_toArray,List.map_cons,List.map_nil]);first|done|rfl|(simp only [List.length_drop,List.length_take];rfl)|(simp only [List.length_nil,Int.natCast_zero,Int.zero_add,Int.ofNat_zero];rfl)) ?_;(with_reducible refine (jC.calls k a0_0 _ _ l0_1 _ _ l0_2 t275 _ ?side1 ?side2 ?side3 ?side4 A2.out).mono ?_);(case side1=>repeat (first|exact (Kd.vD HR0_1.out HB.out)|(with_reducible refine Kd.jK ?_ _)|(with_reducible refine Kd.jJ ?_ _)|(with_reducible refine Kd.jV ?_)));(case side2=>exact HC0_1.out);(case side3=>repeat (first|exact (Kd.vD HR0_2.out HB.out)|(with_reducible refine Kd.jK ?_ _)|(with_reducible refine Kd.jJ ?_ _)|(with_reducible refine Kd.jV ?_)));(case side4=>exact HC0_2.out);rintro e w11 ⟨rfl,hb⟩;refine ⟨_,rfl,?_⟩;have n0_:=qA.mk (zD (g:=gb274) (o:=.cells #[.int .i64 a0_0,.slice A0_1 l0_1.length c0_1,.slice A0_2 l0_2.length c0_2] 49 (0,0)) (by (with_reducible repeat (first|refine qF ?_ _|refine qI ?_|refine qE ?_ _));exact BK274.out) hb);have n1_:=qA.mk (qN (by repeat (first|(with_reducible first|exact HB.out|apply qH|apply qB|apply qG|refine qD ?_ GE274.out)|exact HB.out)) hb);clear BK274;clear HB;have BK274:=n0_;have HB:=n1_;clear n0_ n1_;(try clear hb);(try clear hb2);(try clear hk);(try clear hi);have hcz12_0 : w11.cell? ⟨gb274,0,none⟩ = some (.int .i64 a0_0):=(qK BK274.out 0).trans rfl;have hcz12_1 : w11.cell? ⟨gb274,1,none⟩ = some (.slice A0_1 l0_1.length c0_1):=(qK BK274.out 1).trans rfl;have hcz12_2 : w11.cell? ⟨gb274,2,none⟩ = some (.slice A0_2 l0_2.length c0_2):=(qK BK274.out 2).trans rfl;have hfz12_0:=qJ BK274.out 0;have hfz12_1:=qJ BK274.out 1;have hfz12_2:=qJ BK274.out 2)|(go_at_call 51;(with_reducible refine (jF.calls k a0_0 _ _ l0_1 _ _ l0_2 t276 _ ?side1 ?side2 ?side3 ?side4 A7.out).mono ?_);(case side1=>repeat (first|exact (Kd.vD HR0_1.out HB.out)|(with_reducible refine Kd.jK ?_ _)|(with_reducible refine Kd.jJ ?_ _)|(with_reducible refine Kd.jV ?_)));(case side2=>exact HC0_1.out);(case side3=>repeat (first|exact (Kd.vD HR0_2.out HB.out)|(with_reducible refine Kd.jK ?_ _)|(with_reducible refine Kd.jJ ?_ _)|(with_reducible refine Kd.jV ?_)));(case side4=>exact HC0_2.out);rintro e w13 ⟨rfl,hb⟩;have n0_:=qA.mk (zD (g:=gb274) (o:=.cells #[.int .i64 a0_0,.slice A0_1 l0_1.length c0_1,.slice A0_2 l0_2.length c0_2] 49 (0,0)) (by (with_reducible repeat (first|refine qF ?_ _|refine qI ?_|refine qE ?_ _));exact BK274.out) hb);have n1_:=qA.mk (qN (by repeat (first|(with_reducible first|exact HB.out|apply qH|apply qB|apply qG|refine qD ?_ GE274.out)|exact HB.out)) hb);clear BK274;clear HB;have BK274:=n0_;have HB:=n1_;clear n0_ n1_;(try clear hb);(try clear hb2);(try clear hk);(try clear hi)))
   go_ret
   exact ⟨by first|rfl|(simp [zK,zJ]<;>rfl)|(simp [*,zK,zJ]<;>rfl),by repeat (first|(with_reducible first|exact HB.out|apply qH|apply qB|apply qG|refine qD ?_ GE274.out)|exact HB.out)⟩
  ·rw [if_neg c8] at H
   have c8b0 : decide (200 < t276) = false:=decide_eq_false c8
   clear c8
   replace H:=Option.bind_eq_some_iff.mp H
   obtain ⟨t277,A140,H⟩:=H
   replace H : (some t277) = some r:=H
   have A14:=qA.mk A140
   clear A140
   obtain rfl:=Option.some.inj H
   go_enter Try.func46,Try.ntmps46
   go_wp2_with (first|((with_reducible refine jH (N:=1) rfl ?_);refine jL ?hg (N:=1) ?hd (cs:=#[.int .i64 a0_0,.slice A0_1 l0_1.length c0_1,.slice A0_2 l0_2.length c0_2]) (t:=49) ?hr ?_;(case hd=>rfl);(case hg=>rfl);(case hr=>first|(go_simp;done)|(go_simp;rfl));intro gb274 hg w15 hbox hb;have n0_:=qA.mk (qN (by repeat (first|(with_reducible first|exact HB.out|apply qH|apply qB|apply qG)|exact HB.out)) hb);have n1_:=qA.mk (hbox);have n2_:=qA.mk ((by rw [hg];exact (qQ (by repeat (first|(with_reducible first|exact HB.out|apply qH|apply qB|apply qG)|exact HB.out))) : w.heap.size ≤ gb274));have n3_:=qA.mk ((by rw [hg];exact (qQ (by repeat (first|(with_reducible first|exact HB.out|apply qH|apply qB|apply qG)|exact HB.out))) : w.heap.size ≤ gb274));clear HB;have HB:=n0_;have BK274:=n1_;have GW274:=n2_;have GE274:=n3_;clear n0_ n1_ n2_ n3_;clear hb hbox hg;have hcz16_0 : w15.cell? ⟨gb274,0,none⟩ = some (.int .i64 a0_0):=(qK BK274.out 0).trans rfl;have hcz16_1 : w15.cell? ⟨gb274,1,none⟩ = some (.slice A0_1 l0_1.length c0_1):=(qK BK274.out 1).trans rfl;have hcz16_2 : w15.cell? ⟨gb274,2,none⟩ = some (.slice A0_2 l0_2.length c0_2):=(qK BK274.out 2).trans rfl;have hfz16_0:=qJ BK274.out 0;have hfz16_1:=qJ BK274.out 1;have hfz16_2:=qJ BK274.out 2)|((with_reducible refine q8 (f:=50) rfl ?_);refine jB (some 4) rfl rfl Try.func50 (by kernel_rfl) rfl #[.agg #[.int .i64 a0_0,.slice A0_1 l0_1.length c0_1,.slice A0_2 l0_2.length c0_2]] rfl (by (try simp only [List.map_toArray,List.map_cons,List.map_nil]);first|done|rfl|(simp only [List.length_drop,List.length_take];rfl)|(simp only [List.length_nil,Int.natCast_zero,Int.zero_add,Int.ofNat_zero];rfl)) ?_;(with_reducible refine (jC.calls k a0_0 _ _ l0_1 _ _ l0_2 t275 _ ?side1 ?side2 ?side3 ?side4 A2.out).mono ?_);(case side1=>repeat (first|exact (Kd.vD HR0_1.out HB.out)|(with_reducible refine Kd.jK ?_ _)|(with_reducible refine Kd.jJ ?_ _)|(with_reducible refine Kd.jV ?_)));(case side2=>exact HC0_1.out);(case side3=>repeat (first|exact (Kd.vD HR0_2.out HB.out)|(with_reducible refine Kd.jK ?_ _)|(with_reducible refine Kd.jJ ?_ _)|(with_reducible refine Kd.jV ?_)));(case side4=>exact HC0_2.out);rintro e w17 ⟨rfl,hb⟩;refine ⟨_,rfl,?_⟩;have n0_:=qA.mk (zD (g:=gb274) (o:=.cells #[.int .i64 a0_0,.slice A0_1 l0_1.length c0_1,.slice A0_2 l0_2.length c0_2] 49 (0,0)) (by (with_reducible repeat (first|refine qF ?_ _|refine qI ?_|refine qE ?_ _));exact BK274.out) hb);have n1_:=qA.mk (qN (by repeat (first|(with_reducible first|exact HB.out|apply qH|apply qB|apply qG|refine qD ?_ GE274.out)|exact HB.out)) hb);clear BK274;clear HB;have BK274:=n0_;have HB:=n1_;clear n0_ n1_;(try clear hb);(try clear hb2);(try clear hk);(try clear hi);have hcz18_0 : w17.cell? ⟨gb274,0,none⟩ = some (.int .i64 a0_0):=(qK BK274.out 0).trans rfl;have hcz18_1 : w17.cell? ⟨gb274,1,none⟩ = some (.slice A0_1 l0_1.length c0_1):=(qK BK274.out 1).trans rfl;have hcz18_2 : w17.cell? ⟨gb274,2,none⟩ = some (.slice A0_2 l0_2.length c0_2):=(qK BK274.out 2).trans rfl;have hfz18_0:=qJ BK274.out 0;have hfz18_1:=qJ BK274.out 1;have hfz18_2:=qJ BK274.out 2)|(go_at_call 51;(with_reducible refine (jF.calls k a0_0 _ _ l0_1 _ _ l0_2 t276 _ ?side1 ?side2 ?side3 ?side4 A7.out).mono ?_);(case side1=>repeat (first|exact (Kd.vD HR0_1.out HB.out)|(with_reducible refine Kd.jK ?_ _)|(with_reducible refine Kd.jJ ?_ _)|(with_reducible refine Kd.jV ?_)));(case side2=>exact HC0_1.out);(case side3=>repeat (first|exact (Kd.vD HR0_2.out HB.out)|(with_reducible refine Kd.jK ?_ _)|(with_reducible refine Kd.jJ ?_ _)|(with_reducible refine Kd.jV ?_)));(case side4=>exact HC0_2.out);rintro e w19 ⟨rfl,hb⟩;have n0_:=qA.mk (zD (g:=gb274) (o:=.cells #[.int .i64 a0_0,.slice A0_1 l0_1.length c0_1,.slice A0_2 l0_2.length c0_2] 49 (0,0)) (by (with_reducible repeat (first|refine qF ?_ _|refine qI ?_|refine qE ?_ _));exact BK274.out) hb);have n1_:=qA.mk (qN (by repeat (first|(with_reducible first|exact HB.out|apply qH|apply qB|apply qG|refine qD ?_ GE274.out)|exact HB.out)) hb);clear BK274;clear HB;have BK274:=n0_;have HB:=n1_;clear n0_ n1_;(try clear hb);(try clear hb2);(try clear hk);(try clear hi);have hcz20_0 : w19.cell? ⟨gb274,0,none⟩ = some (.int .i64 a0_0):=(qK BK274.out 0).trans rfl;have hcz20_1 : w19.cell? ⟨gb274,1,none⟩ = some (.slice A0_1 l0_1.length c0_1):=(qK BK274.out 1).trans rfl;have hcz20_2 : w19.cell? ⟨gb274,2,none⟩ = some (.slice A0_2 l0_2.length c0_2):=(qK BK274.out 2).trans rfl;have hfz20_0:=qJ BK274.out 0;have hfz20_1:=qJ BK274.out 1;have hfz20_2:=qJ BK274.out 2)|((with_reducible refine q8 (f:=52) rfl ?_);refine jB (some 12) rfl rfl Try.func52 (by kernel_rfl) rfl #[.agg #[.int .i64 a0_0,.slice A0_1 l0_1.length c0_1,.slice A0_2 l0_2.length c0_2]] rfl (by (try simp only [List.map_toArray,List.map_cons,List.map_nil]);first|done|rfl|(simp only [List.length_drop,List.length_take];rfl)|(simp only [List.length_nil,Int.natCast_zero,Int.zero_add,Int.ofNat_zero];rfl)) ?_;(with_reducible refine (zH.calls k a0_0 _ _ l0_1 _ _ l0_2 t277 _ ?side1 ?side2 ?side3 ?side4 A14.out).mono ?_);(case side1=>repeat (first|exact (Kd.vD HR0_1.out HB.out)|(with_reducible refine Kd.jK ?_ _)|(with_reducible refine Kd.jJ ?_ _)|(with_reducible refine Kd.jV ?_)));(case side2=>exact HC0_1.out);(case side3=>repeat (first|exact (Kd.vD HR0_2.out HB.out)|(with_reducible refine Kd.jK ?_ _)|(with_reducible refine Kd.jJ ?_ _)|(with_reducible refine Kd.jV ?_)));(case side4=>exact HC0_2.out);rintro e w21 ⟨rfl,hb⟩;refine ⟨_,rfl,?_⟩;have n0_:=qA.mk (zD (g:=gb274) (o:=.cells #[.int .i64 a0_0,.slice A0_1 l0_1.length c0_1,.slice A0_2 l0_2.length c0_2] 49 (0,0)) (by (with_reducible repeat (first|refine qF ?_ _|refine qI ?_|refine qE ?_ _));exact BK274.out) hb);have n1_:=qA.mk (qN (by repeat (first|(with_reducible first|exact HB.out|apply qH|apply qB|apply qG|refine qD ?_ GE274.out)|exact HB.out)) hb);clear BK274;clear HB;have BK274:=n0_;have HB:=n1_;clear n0_ n1_;(try clear hb);(try clear hb2);(try clear hk);(try clear hi)))
   go_ret
   exact ⟨by first|rfl|(simp [zK,zJ]<;>rfl)|(simp [*,zK,zJ]<;>rfl),by repeat (first|(with_reducible first|exact HB.out|apply qH|apply qB|apply qG|refine qD ?_ GE274.out)|exact HB.out)⟩
def vW.f (k : Nat) (s0_0 : List Int) (s0_1 : Int) (a1 : Int) (a2 : Int) : Option (Int × List Int × (List (S49)) × Int):=(zF.f k s0_0 s0_1 a1 a2).bind fun bt279=>((vP.f k bt279.1 bt279.2.1 bt279.2.2.1).bind fun t288=>(if t288 = 0 then (some (bt279.1,bt279.2.1,bt279.2.2.1,bt279.2.2.2)) else ((qZ.f s0_0 bt279.2.2.2 a1).bind fun bt289=>(some (1,(([bt289.1] : List Int)),([] : List (S49)),bt289.2)))))
set_option maxHeartbeats 8000000 in
set_option maxRecDepth 100000 in
theorem vW.calls (k : Nat) (g : Nat) (s0_0 : List Int) (s0_1 : Int) (a1 : Int) (a2 : Int) (r1 : Int) (r2 : List Int) (r3 : List (S49)) (r4 : Int) (w0 w : World) (hI : qC w0 w g s0_0 s0_1) (hB : Below w0.heap.size w0 w) (h : vW.f k s0_0 s0_1 a1 a2 = some (r1,r2,r3,r4)) :
  Calls Try.prog 31 #[.pointer (some ⟨g,0,none⟩),.int .i64 a1,.int .i64 a2] w fun e w'=>∃ v1_ v2_ : Value,e = .returned (.agg #[.int .i64 r1,v1_,v2_])∧Kd.R (Kd.int .i64) 3 w' w.heap.size (fun _=>True) v1_ r2∧Kd.R k49 49 w' w.heap.size (fun k_=>some k_≠(v1_ : Value).ownBlock) v2_ r3∧qC w0 w' g s0_0 r4∧Below w0.heap.size w0 w'∧qL w w' g none:=by
 have hu49:=Try.underlying49
 have HI0:=qA.mk hI
 have HK:=qA.mk (qL.refl w g none)
 have HL:=qA.mk hB.size
 clear hI
 have HW0:=qA.mk hB.size
 have HB:=qA.mk hB
 clear hB
 have H : ((zF.f k s0_0 s0_1 a1 a2).bind fun bt279=>((vP.f k bt279.1 bt279.2.1 bt279.2.2.1).bind fun t288=>(if t288 = 0 then (some (bt279.1,bt279.2.1,bt279.2.2.1,bt279.2.2.2)) else ((qZ.f s0_0 bt279.2.2.2 a1).bind fun bt289=>(some (1,(([bt289.1] : List Int)),([] : List (S49)),bt289.2)))))) = some (r1,r2,r3,r4):=h
 clear h
 replace H:=Option.bind_eq_some_iff.mp H
 obtain ⟨⟨t279,t280,t283,t286⟩,A40,H⟩:=H
 replace H : ((vP.f k t279 t280 t283).bind fun t288=>(if t288 = 0 then (some (t279,t280,t283,t286)) else ((qZ.f s0_0 t286 a1).bind fun bt289=>(some (1,(([bt289.1] : List Int)),([] : List (S49)),bt289.2))))) = some (r1,r2,r3,r4):=H
 have A4:=qA.mk A40
 clear A40
 replace H:=Option.bind_eq_some_iff.mp H
 obtain ⟨t288,A50,H⟩:=H
 replace H : (if t288 = 0 then (some (t279,t280,t283,t286)) else ((qZ.f s0_0 t286 a1).bind fun bt289=>(some (1,(([bt289.1] : List Int)),([] : List (S49)),bt289.2)))) = some (r1,r2,r3,r4):=H
 have A5:=qA.mk A50
 clear A50
 by_cases c6 : t288 = 0
 ·rw [if_pos c6] at H
  have c6b0 : (t288 == 0) = true:=beq_iff_eq.mpr c6
  have c6b1 : (t288 != 0) = false:=bne_eq_false_iff_eq.mpr c6
  clear c6
  simp only [Option.some.injEq,Prod.mk.injEq] at H
  obtain ⟨rfl,rfl,rfl,rfl⟩:=H
  go_enter Try.func31,Try.ntmps31
  go_wp2_with (first|((with_reducible refine jH (N:=6) rfl ?_);refine jL ?hg (N:=6) ?hd (cs:=#[.int .i64 0,.slice none 0 0,.slice none 0 0]) (t:=49) ?hr ?_;(case hd=>rfl);(case hg=>rfl);(case hr=>first|(go_simp;done)|(go_simp;rfl));intro gb278 hg w7 hbox hb;have n0_:=qA.mk (qC.below (by repeat (first|(with_reducible first|exact HI0.out|apply qC.alloc|apply qC.drewN|apply qC.drew|apply qC.zM)|exact HI0.out)) hb);have n1_:=qA.mk (qL.trans (by repeat (first|(with_reducible first|exact HK.out|apply qL.set_|apply qP|apply qR|apply qO)|exact HK.out)) (qL.of_below hb g none) (.inl rfl));have n2_:=qA.mk (qN (by repeat (first|(with_reducible first|exact HB.out|apply qH|apply qB|apply qG|refine qD ?_ (qC.ge HI0.out))|exact HB.out)) hb);have n3_:=qA.mk (hbox);have n4_:=qA.mk ((by rw [hg];exact (jG (w:=w) (g:=g) (row:=none) (by repeat (first|(with_reducible first|exact HK.out|apply qL.set_|apply qP|apply qR|apply qO)|exact HK.out))) : w.heap.size ≤ gb278));have n5_:=qA.mk ((Nat.le_trans HW0.out (by rw [hg];exact (jG (w:=w) (g:=g) (row:=none) (by repeat (first|(with_reducible first|exact HK.out|apply qL.set_|apply qP|apply qR|apply qO)|exact HK.out))) : w.heap.size ≤ gb278) : w0.heap.size ≤ gb278));have n6_:=qA.mk ((by rw [hg];exact Nat.ne_of_lt (qC.lt (show qC w0 _ g s0_0 s0_1 from by repeat (first|(with_reducible first|exact HI0.out|apply qC.alloc|apply qC.drewN|apply qC.drew|apply qC.zM)|exact HI0.out))) : g≠gb278));have n7_:=qA.mk ((by rw [hg];exact Nat.ne_of_gt (qC.lt (show qC w0 _ g s0_0 s0_1 from by repeat (first|(with_reducible first|exact HI0.out|apply qC.alloc|apply qC.drewN|apply qC.drew|apply qC.zM)|exact HI0.out))) : gb278≠g));clear HI0;clear HK;clear HB;have HI0:=n0_;have HK:=n1_;have HB:=n2_;have BK278:=n3_;have GW278:=n4_;have GE278:=n5_;have NB0_278:=n6_;have NB278_0:=n7_;clear n0_ n1_ n2_ n3_ n4_ n5_ n6_ n7_;clear hb hbox hg)|((with_reducible refine q8 (f:=45) rfl ?_);refine jB (some 11) rfl rfl Try.func45 (by kernel_rfl) rfl #[.pointer (some ⟨g,0,none⟩),.int .i64 a1,.int .i64 a2] rfl (by (try simp only [List.map_toArray,List.map_cons,List.map_nil]);first|done|rfl|(simp only [List.length_drop,List.length_take];rfl)|(simp only [List.length_nil,Int.natCast_zero,Int.zero_add,Int.ofNat_zero];rfl)) ?_;(with_reducible refine (zF.calls k g s0_0 s0_1 a1 a2 t279 t280 t283 t286 w0 _ ?side1 ?side2 A4.out).mono ?_);(case side1=>repeat (first|(with_reducible first|exact HI0.out|apply qC.alloc|apply qC.drewN|apply qC.drew|apply qC.zM|refine qC.far ?_ NB0_278.out _)|exact HI0.out));(case side2=>repeat (first|(with_reducible first|exact HB.out|apply qH|apply qB|apply qG|refine qD ?_ (qC.ge HI0.out)|refine qD ?_ GE278.out)|exact HB.out));rintro e w8 ⟨v281,v284,rfl,ho0,ho1,hi,hb,hk⟩;refine ⟨_,rfl,?_⟩;have n0_:=qA.mk (qL.blk hk (g':=gb278) (o:=.cells #[.int .i64 0,.slice none 0 0,.slice none 0 0] 49 (0,0)) (by (with_reducible repeat (first|refine qF ?_ _|refine qI ?_|refine qE ?_ _));exact BK278.out) NB278_0.out (by simp));have n1_:=qA.mk (Kd.vL ho0 (jG (w:=w) (g:=g) (row:=none) (by repeat (first|(with_reducible first|exact HK.out|apply qL.set_|apply qP|apply qR|apply qO|refine qM ?_ GW278.out _)|exact HK.out))));have n2_:=qA.mk (Kd.vL (Kd.R_newB ho1 (g:=gb278) (o:=.cells #[.int .i64 0,.slice none 0 0,.slice none 0 0] 49 (0,0)) (by (with_reducible repeat (first|refine qF ?_ _|refine qI ?_|refine qE ?_ _));exact BK278.out)) (jG (w:=w) (g:=g) (row:=none) (by repeat (first|(with_reducible first|exact HK.out|apply qL.set_|apply qP|apply qR|apply qO|refine qM ?_ GW278.out _)|exact HK.out))));have n3_:=qA.mk (qL.trans (by repeat (first|(with_reducible first|exact HK.out|apply qL.set_|apply qP|apply qR|apply qO|refine qM ?_ GW278.out _)|exact HK.out)) hk (.inl rfl));have n4_:=qA.mk (hb);have n5_:=qA.mk (hi);clear BK278;clear HK;clear HB;clear HI0;have BK278:=n0_;have HO282:=n1_;have HO285:=n2_;have HK:=n3_;have HB:=n4_;have HI0:=n5_;clear n0_ n1_ n2_ n3_ n4_ n5_;(try clear hb);(try clear hb2);(try clear hk);(try clear hi);(try clear ho0);(try clear ho1))|((with_reducible refine jH (N:=7) rfl ?_);refine jL ?hg (N:=7) ?hd (cs:=#[.int .i64 0,.slice none 0 0,.slice none 0 0]) (t:=49) ?hr ?_;(case hd=>rfl);(case hg=>rfl);(case hr=>first|(go_simp;done)|(go_simp;rfl));intro gb287 hg w9 hbox hb;have n0_:=qA.mk (Kd.j6 (by (with_reducible repeat (first|apply Kd.qX|apply Kd.qW|apply Kd.zC));exact HO282.out) hb);have n1_:=qA.mk (Kd.j6 (Kd.kS (by (with_reducible repeat (first|apply Kd.qX|apply Kd.qW|apply Kd.zC));exact HO285.out) gb287 (Nat.le_of_eq hg.symm)) hb);have n2_:=qA.mk (qC.below (by repeat (first|(with_reducible first|exact HI0.out|apply qC.alloc|apply qC.drewN|apply qC.drew|apply qC.zM|refine qC.far ?_ NB0_278.out _)|exact HI0.out)) hb);have n3_:=qA.mk (zD (g:=gb278) (o:=.cells #[.int .i64 0,.slice none 0 0,.slice none 0 0] 49 (0,0)) (by (with_reducible repeat (first|refine qF ?_ _|refine qI ?_|refine qE ?_ _));exact BK278.out) hb);have n4_:=qA.mk (qL.trans (by repeat (first|(with_reducible first|exact HK.out|apply qL.set_|apply qP|apply qR|apply qO|refine qM ?_ GW278.out _)|exact HK.out)) (qL.of_below hb g none) (.inl rfl));have n5_:=qA.mk (qN (by repeat (first|(with_reducible first|exact HB.out|apply qH|apply qB|apply qG|refine qD ?_ (qC.ge HI0.out)|refine qD ?_ GE278.out)|exact HB.out)) hb);have n6_:=qA.mk (hbox);have n7_:=qA.mk ((by rw [hg];exact (jG (w:=w) (g:=g) (row:=none) (by repeat (first|(with_reducible first|exact HK.out|apply qL.set_|apply qP|apply qR|apply qO|refine qM ?_ GW278.out _)|exact HK.out))) : w.heap.size ≤ gb287));have n8_:=qA.mk ((Nat.le_trans HW0.out (by rw [hg];exact (jG (w:=w) (g:=g) (row:=none) (by repeat (first|(with_reducible first|exact HK.out|apply qL.set_|apply qP|apply qR|apply qO|refine qM ?_ GW278.out _)|exact HK.out))) : w.heap.size ≤ gb287) : w0.heap.size ≤ gb287));have n9_:=qA.mk ((by rw [hg];exact Nat.ne_of_lt (jR (g:=gb278) (o:=.cells #[.int .i64 0,.slice none 0 0,.slice none 0 0] 49 (0,0)) (by (with_reducible repeat (first|refine qF ?_ _|refine qI ?_|refine qE ?_ _));exact BK278.out)) : gb278≠gb287));have n10_:=qA.mk ((by rw [hg];exact Nat.ne_of_gt (jR (g:=gb278) (o:=.cells #[.int .i64 0,.slice none 0 0,.slice none 0 0] 49 (0,0)) (by (with_reducible repeat (first|refine qF ?_ _|refine qI ?_|refine qE ?_ _));exact BK278.out)) : gb287≠gb278));have n11_:=qA.mk ((by rw [hg];exact Nat.ne_of_lt (qC.lt (show qC w0 _ g s0_0 t286 from by repeat (first|(with_reducible first|exact HI0.out|apply qC.alloc|apply qC.drewN|apply qC.drew|apply qC.zM|refine qC.far ?_ NB0_278.out _)|exact HI0.out))) : g≠gb287));have n12_:=qA.mk ((by rw [hg];exact Nat.ne_of_gt (qC.lt (show qC w0 _ g s0_0 t286 from by repeat (first|(with_reducible first|exact HI0.out|apply qC.alloc|apply qC.drewN|apply qC.drew|apply qC.zM|refine qC.far ?_ NB0_278.out _)|exact HI0.out))) : gb287≠g));clear HO282;clear HO285;clear HI0;clear BK278;clear HK;clear HB;have HO282:=n0_;have HO285:=n1_;have HI0:=n2_;have BK278:=n3_;have HK:=n4_;have HB:=n5_;have BK287:=n6_;have GW287:=n7_;have GE287:=n8_;have NB278_287:=n9_;have NB287_278:=n10_;have NB0_287:=n11_;have NB287_0:=n12_;clear n0_ n1_ n2_ n3_ n4_ n5_ n6_ n7_ n8_ n9_ n10_ n11_ n12_;clear hb hbox hg;have hnb10:=NB287_278.out;have hnc10:=NB278_287.out;have hnb11:=NB287_0.out;have hnc11:=NB0_287.out;have hcz12_0 : w9.cell? ⟨gb287,0,none⟩ = some (.int .i64 0):=(qK BK287.out 0).trans rfl;have hcz12_1 : w9.cell? ⟨gb287,1,none⟩ = some (.slice none 0 0):=(qK BK287.out 1).trans rfl;have hcz12_2 : w9.cell? ⟨gb287,2,none⟩ = some (.slice none 0 0):=(qK BK287.out 2).trans rfl;have hfz12_0:=qJ BK287.out 0;have hfz12_1:=qJ BK287.out 1;have hfz12_2:=qJ BK287.out 2;obtain ⟨Ao13,co13,eo13⟩:=Kd.j4 HO282.out;subst eo13;obtain ⟨Ao14,co14,eo14⟩:=Kd.j4 HO285.out;subst eo14)|((with_reducible refine q8 (f:=46) rfl ?_);refine jB (some 13) rfl rfl Try.func46 (by kernel_rfl) rfl #[.agg #[.int .i64 t279,.slice Ao13 t280.length co13,.slice Ao14 t283.length co14]] rfl (by (try simp only [List.map_toArray,List.map_cons,List.map_nil]);first|done|rfl|(simp only [List.length_drop,List.length_take];rfl)|(simp only [List.length_nil,Int.natCast_zero,Int.zero_add,Int.ofNat_zero];rfl)) ?_;(with_reducible refine (vP.calls k t279 _ _ t280 _ _ t283 t288 _ ?side1 ?side2 ?side3 ?side4 A5.out).mono ?_);(case side1=>refine (Kd.jZ (e:=3) (base:=w.heap.size) (ok:=fun k_=>True) (n:=t280.length) (c:=co13) ?_).2.2;exact (by (with_reducible repeat (first|apply Kd.qX|apply Kd.qW|apply Kd.zC));exact (Kd.zN (Kd.jE (p:=⟨gb287,2,none⟩) (Kd.jE (p:=⟨gb287,1,none⟩) (Kd.jE (p:=⟨gb287,0,none⟩) (Kd.jY HO282.out BK287.out (by decide)) (fun _ hk=>hk.2) (.int .i64 t279)) (fun _ hk=>hk.2) (.slice Ao13 t280.length co13)) (fun _ hk=>hk.2) (.slice Ao14 t283.length co14)) (fun _ h_=>h_.1))));(case side2=>exact (Kd.jZ HO282.out).2.1);(case side3=>refine (Kd.jZ (e:=49) (base:=w.heap.size) (ok:=fun k_=>((some k_≠(.slice Ao13 t280.length co13 : Value).ownBlock∧k_≠gb278)∧k_≠gb287)) (n:=t283.length) (c:=co14) ?_).2.2;exact (by (with_reducible repeat (first|apply Kd.qX|apply Kd.qW|apply Kd.zC));exact (Kd.zN (Kd.jE (p:=⟨gb287,2,none⟩) (Kd.jE (p:=⟨gb287,1,none⟩) (Kd.jE (p:=⟨gb287,0,none⟩) (Kd.zN HO285.out (fun k_ hk=>(⟨hk,hk.2⟩ : _∧k_≠gb287))) (fun _ hk=>hk.2) (.int .i64 t279)) (fun _ hk=>hk.2) (.slice Ao13 t280.length co13)) (fun _ hk=>hk.2) (.slice Ao14 t283.length co14)) (fun _ h_=>h_.1))));(case side4=>exact (Kd.jZ HO285.out).2.1);rintro e w15 ⟨rfl,hb⟩;refine ⟨_,rfl,?_⟩;have n0_:=qA.mk (Kd.j6 (by (with_reducible repeat (first|apply Kd.qX|apply Kd.qW|apply Kd.zC));exact (Kd.zN (Kd.jE (p:=⟨gb287,2,none⟩) (Kd.jE (p:=⟨gb287,1,none⟩) (Kd.jE (p:=⟨gb287,0,none⟩) (Kd.jY HO282.out BK287.out (by decide)) (fun _ hk=>hk.2) (.int .i64 t279)) (fun _ hk=>hk.2) (.slice Ao13 t280.length co13)) (fun _ hk=>hk.2) (.slice Ao14 t283.length co14)) (fun _ h_=>h_.1))) hb);have n1_:=qA.mk (Kd.j6 (by (with_reducible repeat (first|apply Kd.qX|apply Kd.qW|apply Kd.zC));exact (Kd.zN (Kd.jE (p:=⟨gb287,2,none⟩) (Kd.jE (p:=⟨gb287,1,none⟩) (Kd.jE (p:=⟨gb287,0,none⟩) (Kd.zN HO285.out (fun k_ hk=>(⟨hk,hk.2⟩ : _∧k_≠gb287))) (fun _ hk=>hk.2) (.int .i64 t279)) (fun _ hk=>hk.2) (.slice Ao13 t280.length co13)) (fun _ hk=>hk.2) (.slice Ao14 t283.length co14)) (fun _ h_=>h_.1))) hb);have n2_:=qA.mk (qC.below (show qC w0 (((w9.setCell ⟨gb287,0,none⟩ (.int .i64 t279)).setCell ⟨gb287,1,none⟩ (.slice Ao13 t280.length co13)).setCell ⟨gb287,2,none⟩ (.slice Ao14 t283.length co14)) g s0_0 t286 from by repeat (first|(with_reducible first|exact HI0.out|apply qC.alloc|apply qC.drewN|apply qC.drew|apply qC.zM|refine qC.far ?_ NB0_278.out _|refine qC.far ?_ NB0_287.out _)|exact HI0.out)) hb);have n3_:=qA.mk (zD (g:=gb278) (o:=.cells #[.int .i64 0,.slice none 0 0,.slice none 0 0] 49 (0,0)) (by (with_reducible repeat (first|refine qF ?_ _|refine qI ?_|refine qE ?_ _));refine zU ?_ NB278_287.out _;(with_reducible repeat (first|refine qF ?_ _|refine qI ?_|refine qE ?_ _));refine zU ?_ NB278_287.out _;(with_reducible repeat (first|refine qF ?_ _|refine qI ?_|refine qE ?_ _));refine zU ?_ NB278_287.out _;(with_reducible repeat (first|refine qF ?_ _|refine qI ?_|refine qE ?_ _));exact BK278.out) hb);have n4_:=qA.mk (zD (g:=gb287) (o:=.cells #[.int .i64 t279,.slice Ao13 t280.length co13,.slice Ao14 t283.length co14] 49 (0,0)) (by (with_reducible repeat (first|refine qF ?_ _|refine qI ?_|refine qE ?_ _));refine zV (cs:=#[.int .i64 t279,.slice Ao13 t280.length co13,.slice none 0 0]) ?_ 2 _ rfl;(with_reducible repeat (first|refine qF ?_ _|refine qI ?_|refine qE ?_ _));refine zV (cs:=#[.int .i64 t279,.slice none 0 0,.slice none 0 0]) ?_ 1 _ rfl;(with_reducible repeat (first|refine qF ?_ _|refine qI ?_|refine qE ?_ _));refine zV (cs:=#[.int .i64 0,.slice none 0 0,.slice none 0 0]) ?_ 0 _ rfl;(with_reducible repeat (first|refine qF ?_ _|refine qI ?_|refine qE ?_ _));exact BK287.out) hb);have n5_:=qA.mk (qL.trans (by repeat (first|(with_reducible first|exact HK.out|apply qL.set_|apply qP|apply qR|apply qO|refine qM ?_ GW278.out _|refine qM ?_ GW287.out _)|exact HK.out)) (qL.of_below hb g none) (.inl rfl));have n6_:=qA.mk (qN (by repeat (first|(with_reducible first|exact HB.out|apply qH|apply qB|apply qG|refine qD ?_ (qC.ge HI0.out)|refine qD ?_ GE278.out|refine qD ?_ GE287.out)|exact HB.out)) hb);clear HO282;clear HO285;clear HI0;clear BK278;clear BK287;clear HK;clear HB;have HO282:=n0_;have HO285:=n1_;have HI0:=n2_;have BK278:=n3_;have BK287:=n4_;have HK:=n5_;have HB:=n6_;clear n0_ n1_ n2_ n3_ n4_ n5_ n6_;(try clear hb);(try clear hb2);(try clear hk);(try clear hi);have hcz16_0 : w15.cell? ⟨gb287,0,none⟩ = some (.int .i64 t279):=(qK BK287.out 0).trans rfl;have hcz16_1 : w15.cell? ⟨gb287,1,none⟩ = some (.slice Ao13 t280.length co13):=(qK BK287.out 1).trans rfl;have hcz16_2 : w15.cell? ⟨gb287,2,none⟩ = some (.slice Ao14 t283.length co14):=(qK BK287.out 2).trans rfl;have hfz16_0:=qJ BK287.out 0;have hfz16_1:=qJ BK287.out 1;have hfz16_2:=qJ BK287.out 2;have hnb17:=NB278_0.out;have hnc17:=NB0_278.out;have hcz18_0 : w15.cell? ⟨gb278,0,none⟩ = some (.int .i64 0):=(qK BK278.out 0).trans rfl;have hcz18_1 : w15.cell? ⟨gb278,1,none⟩ = some (.slice none 0 0):=(qK BK278.out 1).trans rfl;have hcz18_2 : w15.cell? ⟨gb278,2,none⟩ = some (.slice none 0 0):=(qK BK278.out 2).trans rfl;have hfz18_0:=qJ BK278.out 0;have hfz18_1:=qJ BK278.out 1;have hfz18_2:=qJ BK278.out 2))
  refine bodyPost_ret (results_cell_row rfl _ _ gb278 49 #[.int .i64 t279,.slice Ao13 t280.length co13,.slice Ao14 t283.length co14] (0,0) _ rfl (by (with_reducible repeat (first|refine qF ?_ _|refine qI ?_|refine qE ?_ _));refine zV (cs:=#[.int .i64 t279,.slice Ao13 t280.length co13,.slice none 0 0]) ?_ 2 _ rfl;(with_reducible repeat (first|refine qF ?_ _|refine qI ?_|refine qE ?_ _));refine zV (cs:=#[.int .i64 t279,.slice none 0 0,.slice none 0 0]) ?_ 1 _ rfl;(with_reducible repeat (first|refine qF ?_ _|refine qI ?_|refine qE ?_ _));refine zV (cs:=#[.int .i64 0,.slice none 0 0,.slice none 0 0]) ?_ 0 _ rfl;(with_reducible repeat (first|refine qF ?_ _|refine qI ?_|refine qE ?_ _));exact BK278.out) Try.underlying49 rfl (by kernel_rfl)) rfl ?_
  exact ⟨_,_,by first|rfl|(simp [zK,zJ]<;>rfl)|(simp [*,zK,zJ]<;>rfl),by (with_reducible repeat (first|apply Kd.qX|apply Kd.qW|apply Kd.zC));exact Kd.zN (Kd.jE (p:=⟨gb278,2,none⟩) (Kd.jE (p:=⟨gb278,1,none⟩) (Kd.jE (p:=⟨gb278,0,none⟩) (Kd.jY HO282.out BK278.out (by decide)) (fun _ hk=>hk.2) (.int .i64 t279)) (fun _ hk=>hk.2) (.slice Ao13 t280.length co13)) (fun _ hk=>hk.2) (.slice Ao14 t283.length co14)) (fun _ hk=>trivial),by (with_reducible repeat (first|apply Kd.qX|apply Kd.qW|apply Kd.zC));exact Kd.zN (Kd.jE (p:=⟨gb278,2,none⟩) (Kd.jE (p:=⟨gb278,1,none⟩) (Kd.jE (p:=⟨gb278,0,none⟩) (Kd.zN HO285.out (fun k_ hk=>(⟨hk,hk.1.2⟩ : _∧k_≠gb278))) (fun _ hk=>hk.2) (.int .i64 t279)) (fun _ hk=>hk.2) (.slice Ao13 t280.length co13)) (fun _ hk=>hk.2) (.slice Ao14 t283.length co14)) (fun _ hk=>hk.1.1.1),by repeat (first|(with_reducible first|exact HI0.out|apply qC.alloc|apply qC.drewN|apply qC.drew|apply qC.zM|refine qC.far ?_ NB0_278.out _|refine qC.far ?_ NB0_287.out _)|exact HI0.out),by repeat (first|(with_reducible first|exact HB.out|apply qH|apply qB|apply qG|refine qD ?_ (qC.ge HI0.out)|refine qD ?_ GE278.out|refine qD ?_ GE287.out)|exact HB.out),by repeat (first|(with_reducible first|exact HK.out|apply qL.set_|apply qP|apply qR|apply qO|refine qM ?_ GW278.out _|refine qM ?_ GW287.out _)|exact HK.out)⟩
 ·rw [if_neg c6] at H
  have c6b0 : (t288 == 0) = false:=beq_eq_false_iff_ne.mpr c6
  have c6b1 : (t288 != 0) = true:=bne_iff_ne.mpr c6
  replace H:=Option.bind_eq_some_iff.mp H
  obtain ⟨⟨t289,t290⟩,A190,H⟩:=H
  replace H : (some (1,(([t289] : List Int)),([] : List (S49)),t290)) = some (r1,r2,r3,r4):=H
  have A19:=qA.mk A190
  clear A190
  obtain ⟨y291,hy291⟩ : ∃ y_ : List Int,y_ = (([t289] : List Int)):=⟨_,rfl⟩
  replace H : (some (1,y291,([] : List (S49)),t290)) = some (r1,r2,r3,r4):=by first|(rw [hy291];with_reducible exact H)|(have H2_:=(Option.bind_some _ _).symm.trans H;rw [hy291];with_reducible exact H2_)|(have H2_:=(Option.bind_some _ _).symm.trans H;with_reducible exact H2_)|with_reducible exact H|(rw [hy291];exact H)|exact H
  have Ny291:=qA.mk hy291
  clear hy291
  simp only [Option.some.injEq,Prod.mk.injEq] at H
  obtain ⟨rfl,rfl,rfl,rfl⟩:=H
  go_enter Try.func31,Try.ntmps31
  go_wp2_with (first|((with_reducible refine jH (N:=6) rfl ?_);refine jL ?hg (N:=6) ?hd (cs:=#[.int .i64 0,.slice none 0 0,.slice none 0 0]) (t:=49) ?hr ?_;(case hd=>rfl);(case hg=>rfl);(case hr=>first|(go_simp;done)|(go_simp;rfl));intro gb278 hg w20 hbox hb;have n0_:=qA.mk (qC.below (by repeat (first|(with_reducible first|exact HI0.out|apply qC.alloc|apply qC.drewN|apply qC.drew|apply qC.zM)|exact HI0.out)) hb);have n1_:=qA.mk (qL.trans (by repeat (first|(with_reducible first|exact HK.out|apply qL.set_|apply qP|apply qR|apply qO)|exact HK.out)) (qL.of_below hb g none) (.inl rfl));have n2_:=qA.mk (qN (by repeat (first|(with_reducible first|exact HB.out|apply qH|apply qB|apply qG|refine qD ?_ (qC.ge HI0.out))|exact HB.out)) hb);have n3_:=qA.mk (hbox);have n4_:=qA.mk ((by rw [hg];exact (jG (w:=w) (g:=g) (row:=none) (by repeat (first|(with_reducible first|exact HK.out|apply qL.set_|apply qP|apply qR|apply qO)|exact HK.out))) : w.heap.size ≤ gb278));have n5_:=qA.mk ((Nat.le_trans HW0.out (by rw [hg];exact (jG (w:=w) (g:=g) (row:=none) (by repeat (first|(with_reducible first|exact HK.out|apply qL.set_|apply qP|apply qR|apply qO)|exact HK.out))) : w.heap.size ≤ gb278) : w0.heap.size ≤ gb278));have n6_:=qA.mk ((by rw [hg];exact Nat.ne_of_lt (qC.lt (show qC w0 _ g s0_0 s0_1 from by repeat (first|(with_reducible first|exact HI0.out|apply qC.alloc|apply qC.drewN|apply qC.drew|apply qC.zM)|exact HI0.out))) : g≠gb278));have n7_:=qA.mk ((by rw [hg];exact Nat.ne_of_gt (qC.lt (show qC w0 _ g s0_0 s0_1 from by repeat (first|(with_reducible first|exact HI0.out|apply qC.alloc|apply qC.drewN|apply qC.drew|apply qC.zM)|exact HI0.out))) : gb278≠g));clear HI0;clear HK;clear HB;have HI0:=n0_;have HK:=n1_;have HB:=n2_;have BK278:=n3_;have GW278:=n4_;have GE278:=n5_;have NB0_278:=n6_;have NB278_0:=n7_;clear n0_ n1_ n2_ n3_ n4_ n5_ n6_ n7_;clear hb hbox hg)|((with_reducible refine q8 (f:=45) rfl ?_);refine jB (some 11) rfl rfl Try.func45 (by kernel_rfl) rfl #[.pointer (some ⟨g,0,none⟩),.int .i64 a1,.int .i64 a2] rfl (by (try simp only [List.map_toArray,List.map_cons,List.map_nil]);first|done|rfl|(simp only [List.length_drop,List.length_take];rfl)|(simp only [List.length_nil,Int.natCast_zero,Int.zero_add,Int.ofNat_zero];rfl)) ?_;(with_reducible refine (zF.calls k g s0_0 s0_1 a1 a2 t279 t280 t283 t286 w0 _ ?side1 ?side2 A4.out).mono ?_);(case side1=>repeat (first|(with_reducible first|exact HI0.out|apply qC.alloc|apply qC.drewN|apply qC.drew|apply qC.zM|refine qC.far ?_ NB0_278.out _)|exact HI0.out));(case side2=>repeat (first|(with_reducible first|exact HB.out|apply qH|apply qB|apply qG|refine qD ?_ (qC.ge HI0.out)|refine qD ?_ GE278.out)|exact HB.out));rintro e w21 ⟨v281,v284,rfl,ho0,ho1,hi,hb,hk⟩;refine ⟨_,rfl,?_⟩;have n0_:=qA.mk (qL.blk hk (g':=gb278) (o:=.cells #[.int .i64 0,.slice none 0 0,.slice none 0 0] 49 (0,0)) (by (with_reducible repeat (first|refine qF ?_ _|refine qI ?_|refine qE ?_ _));exact BK278.out) NB278_0.out (by simp));have n1_:=qA.mk (Kd.vL ho0 (jG (w:=w) (g:=g) (row:=none) (by repeat (first|(with_reducible first|exact HK.out|apply qL.set_|apply qP|apply qR|apply qO|refine qM ?_ GW278.out _)|exact HK.out))));have n2_:=qA.mk (Kd.vL (Kd.R_newB ho1 (g:=gb278) (o:=.cells #[.int .i64 0,.slice none 0 0,.slice none 0 0] 49 (0,0)) (by (with_reducible repeat (first|refine qF ?_ _|refine qI ?_|refine qE ?_ _));exact BK278.out)) (jG (w:=w) (g:=g) (row:=none) (by repeat (first|(with_reducible first|exact HK.out|apply qL.set_|apply qP|apply qR|apply qO|refine qM ?_ GW278.out _)|exact HK.out))));have n3_:=qA.mk (qL.trans (by repeat (first|(with_reducible first|exact HK.out|apply qL.set_|apply qP|apply qR|apply qO|refine qM ?_ GW278.out _)|exact HK.out)) hk (.inl rfl));have n4_:=qA.mk (hb);have n5_:=qA.mk (hi);clear BK278;clear HK;clear HB;clear HI0;have BK278:=n0_;have HO282:=n1_;have HO285:=n2_;have HK:=n3_;have HB:=n4_;have HI0:=n5_;clear n0_ n1_ n2_ n3_ n4_ n5_;(try clear hb);(try clear hb2);(try clear hk);(try clear hi);(try clear ho0);(try clear ho1))|((with_reducible refine jH (N:=7) rfl ?_);refine jL ?hg (N:=7) ?hd (cs:=#[.int .i64 0,.slice none 0 0,.slice none 0 0]) (t:=49) ?hr ?_;(case hd=>rfl);(case hg=>rfl);(case hr=>first|(go_simp;done)|(go_simp;rfl));intro gb287 hg w22 hbox hb;have n0_:=qA.mk (Kd.j6 (by (with_reducible repeat (first|apply Kd.qX|apply Kd.qW|apply Kd.zC));exact HO282.out) hb);have n1_:=qA.mk (Kd.j6 (Kd.kS (by (with_reducible repeat (first|apply Kd.qX|apply Kd.qW|apply Kd.zC));exact HO285.out) gb287 (Nat.le_of_eq hg.symm)) hb);have n2_:=qA.mk (qC.below (by repeat (first|(with_reducible first|exact HI0.out|apply qC.alloc|apply qC.drewN|apply qC.drew|apply qC.zM|refine qC.far ?_ NB0_278.out _)|exact HI0.out)) hb);have n3_:=qA.mk (zD (g:=gb278) (o:=.cells #[.int .i64 0,.slice none 0 0,.slice none 0 0] 49 (0,0)) (by (with_reducible repeat (first|refine qF ?_ _|refine qI ?_|refine qE ?_ _));exact BK278.out) hb);have n4_:=qA.mk (qL.trans (by repeat (first|(with_reducible first|exact HK.out|apply qL.set_|apply qP|apply qR|apply qO|refine qM ?_ GW278.out _)|exact HK.out)) (qL.of_below hb g none) (.inl rfl));have n5_:=qA.mk (qN (by repeat (first|(with_reducible first|exact HB.out|apply qH|apply qB|apply qG|refine qD ?_ (qC.ge HI0.out)|refine qD ?_ GE278.out)|exact HB.out)) hb);have n6_:=qA.mk (hbox);have n7_:=qA.mk ((by rw [hg];exact (jG (w:=w) (g:=g) (row:=none) (by repeat (first|(with_reducible first|exact HK.out|apply qL.set_|apply qP|apply qR|apply qO|refine qM ?_ GW278.out _)|exact HK.out))) : w.heap.size ≤ gb287));have n8_:=qA.mk ((Nat.le_trans HW0.out (by rw [hg];exact (jG (w:=w) (g:=g) (row:=none) (by repeat (first|(with_reducible first|exact HK.out|apply qL.set_|apply qP|apply qR|apply qO|refine qM ?_ GW278.out _)|exact HK.out))) : w.heap.size ≤ gb287) : w0.heap.size ≤ gb287));have n9_:=qA.mk ((by rw [hg];exact Nat.ne_of_lt (jR (g:=gb278) (o:=.cells #[.int .i64 0,.slice none 0 0,.slice none 0 0] 49 (0,0)) (by (with_reducible repeat (first|refine qF ?_ _|refine qI ?_|refine qE ?_ _));exact BK278.out)) : gb278≠gb287));have n10_:=qA.mk ((by rw [hg];exact Nat.ne_of_gt (jR (g:=gb278) (o:=.cells #[.int .i64 0,.slice none 0 0,.slice none 0 0] 49 (0,0)) (by (with_reducible repeat (first|refine qF ?_ _|refine qI ?_|refine qE ?_ _));exact BK278.out)) : gb287≠gb278));have n11_:=qA.mk ((by rw [hg];exact Nat.ne_of_lt (qC.lt (show qC w0 _ g s0_0 t286 from by repeat (first|(with_reducible first|exact HI0.out|apply qC.alloc|apply qC.drewN|apply qC.drew|apply qC.zM|refine qC.far ?_ NB0_278.out _)|exact HI0.out))) : g≠gb287));have n12_:=qA.mk ((by rw [hg];exact Nat.ne_of_gt (qC.lt (show qC w0 _ g s0_0 t286 from by repeat (first|(with_reducible first|exact HI0.out|apply qC.alloc|apply qC.drewN|apply qC.drew|apply qC.zM|refine qC.far ?_ NB0_278.out _)|exact HI0.out))) : gb287≠g));clear HO282;clear HO285;clear HI0;clear BK278;clear HK;clear HB;have HO282:=n0_;have HO285:=n1_;have HI0:=n2_;have BK278:=n3_;have HK:=n4_;have HB:=n5_;have BK287:=n6_;have GW287:=n7_;have GE287:=n8_;have NB278_287:=n9_;have NB287_278:=n10_;have NB0_287:=n11_;have NB287_0:=n12_;clear n0_ n1_ n2_ n3_ n4_ n5_ n6_ n7_ n8_ n9_ n10_ n11_ n12_;clear hb hbox hg;have hnb23:=NB287_278.out;have hnc23:=NB278_287.out;have hnb24:=NB287_0.out;have hnc24:=NB0_287.out;have hcz25_0 : w22.cell? ⟨gb287,0,none⟩ = some (.int .i64 0):=(qK BK287.out 0).trans rfl;have hcz25_1 : w22.cell? ⟨gb287,1,none⟩ = some (.slice none 0 0):=(qK BK287.out 1).trans rfl;have hcz25_2 : w22.cell? ⟨gb287,2,none⟩ = some (.slice none 0 0):=(qK BK287.out 2).trans rfl;have hfz25_0:=qJ BK287.out 0;have hfz25_1:=qJ BK287.out 1;have hfz25_2:=qJ BK287.out 2;obtain ⟨Ao26,co26,eo26⟩:=Kd.j4 HO282.out;subst eo26;obtain ⟨Ao27,co27,eo27⟩:=Kd.j4 HO285.out;subst eo27)|((with_reducible refine q8 (f:=46) rfl ?_);refine jB (some 13) rfl rfl Try.func46 (by kernel_rfl) rfl #[.agg #[.int .i64 t279,.slice Ao26 t280.length co26,.slice Ao27 t283.length co27]] rfl (by (try simp only [List.map_toArray,List.map_cons,List.map_nil]);first|done|rfl|(simp only [List.length_drop,List.length_take];rfl)|(simp only [List.length_nil,Int.natCast_zero,Int.zero_add,Int.ofNat_zero];rfl)) ?_;(with_reducible refine (vP.calls k t279 _ _ t280 _ _ t283 t288 _ ?side1 ?side2 ?side3 ?side4 A5.out).mono ?_);(case side1=>refine (Kd.jZ (e:=3) (base:=w.heap.size) (ok:=fun k_=>True) (n:=t280.length) (c:=co26) ?_).2.2;exact (by (with_reducible repeat (first|apply Kd.qX|apply Kd.qW|apply Kd.zC));exact (Kd.zN (Kd.jE (p:=⟨gb287,2,none⟩) (Kd.jE (p:=⟨gb287,1,none⟩) (Kd.jE (p:=⟨gb287,0,none⟩) (Kd.jY HO282.out BK287.out (by decide)) (fun _ hk=>hk.2) (.int .i64 t279)) (fun _ hk=>hk.2) (.slice Ao26 t280.length co26)) (fun _ hk=>hk.2) (.slice Ao27 t283.length co27)) (fun _ h_=>h_.1))));(case side2=>exact (Kd.jZ HO282.out).2.1);(case side3=>refine (Kd.jZ (e:=49) (base:=w.heap.size) (ok:=fun k_=>((some k_≠(.slice Ao26 t280.length co26 : Value).ownBlock∧k_≠gb278)∧k_≠gb287)) (n:=t283.length) (c:=co27) ?_).2.2;exact (by (with_reducible repeat (first|apply Kd.qX|apply Kd.qW|apply Kd.zC));exact (Kd.zN (Kd.jE (p:=⟨gb287,2,none⟩) (Kd.jE (p:=⟨gb287,1,none⟩) (Kd.jE (p:=⟨gb287,0,none⟩) (Kd.zN HO285.out (fun k_ hk=>(⟨hk,hk.2⟩ : _∧k_≠gb287))) (fun _ hk=>hk.2) (.int .i64 t279)) (fun _ hk=>hk.2) (.slice Ao26 t280.length co26)) (fun _ hk=>hk.2) (.slice Ao27 t283.length co27)) (fun _ h_=>h_.1))));(case side4=>exact (Kd.jZ HO285.out).2.1);rintro e w28 ⟨rfl,hb⟩;refine ⟨_,rfl,?_⟩;have n0_:=qA.mk (Kd.j6 (by (with_reducible repeat (first|apply Kd.qX|apply Kd.qW|apply Kd.zC));exact (Kd.zN (Kd.jE (p:=⟨gb287,2,none⟩) (Kd.jE (p:=⟨gb287,1,none⟩) (Kd.jE (p:=⟨gb287,0,none⟩) (Kd.jY HO282.out BK287.out (by decide)) (fun _ hk=>hk.2) (.int .i64 t279)) (fun _ hk=>hk.2) (.slice Ao26 t280.length co26)) (fun _ hk=>hk.2) (.slice Ao27 t283.length co27)) (fun _ h_=>h_.1))) hb);have n1_:=qA.mk (Kd.j6 (by (with_reducible repeat (first|apply Kd.qX|apply Kd.qW|apply Kd.zC));exact (Kd.zN (Kd.jE (p:=⟨gb287,2,none⟩) (Kd.jE (p:=⟨gb287,1,none⟩) (Kd.jE (p:=⟨gb287,0,none⟩) (Kd.zN HO285.out (fun k_ hk=>(⟨hk,hk.2⟩ : _∧k_≠gb287))) (fun _ hk=>hk.2) (.int .i64 t279)) (fun _ hk=>hk.2) (.slice Ao26 t280.length co26)) (fun _ hk=>hk.2) (.slice Ao27 t283.length co27)) (fun _ h_=>h_.1))) hb);have n2_:=qA.mk (qC.below (show qC w0 (((w22.setCell ⟨gb287,0,none⟩ (.int .i64 t279)).setCell ⟨gb287,1,none⟩ (.slice Ao26 t280.length co26)).setCell ⟨gb287,2,none⟩ (.slice Ao27 t283.length co27)) g s0_0 t286 from by repeat (first|(with_reducible first|exact HI0.out|apply qC.alloc|apply qC.drewN|apply qC.drew|apply qC.zM|refine qC.far ?_ NB0_278.out _|refine qC.far ?_ NB0_287.out _)|exact HI0.out)) hb);have n3_:=qA.mk (zD (g:=gb278) (o:=.cells #[.int .i64 0,.slice none 0 0,.slice none 0 0] 49 (0,0)) (by (with_reducible repeat (first|refine qF ?_ _|refine qI ?_|refine qE ?_ _));refine zU ?_ NB278_287.out _;(with_reducible repeat (first|refine qF ?_ _|refine qI ?_|refine qE ?_ _));refine zU ?_ NB278_287.out _;(with_reducible repeat (first|refine qF ?_ _|refine qI ?_|refine qE ?_ _));refine zU ?_ NB278_287.out _;(with_reducible repeat (first|refine qF ?_ _|refine qI ?_|refine qE ?_ _));exact BK278.out) hb);have n4_:=qA.mk (zD (g:=gb287) (o:=.cells #[.int .i64 t279,.slice Ao26 t280.length co26,.slice Ao27 t283.length co27] 49 (0,0)) (by (with_reducible repeat (first|refine qF ?_ _|refine qI ?_|refine qE ?_ _));refine zV (cs:=#[.int .i64 t279,.slice Ao26 t280.length co26,.slice none 0 0]) ?_ 2 _ rfl;(with_reducible repeat (first|refine qF ?_ _|refine qI ?_|refine qE ?_ _));refine zV (cs:=#[.int .i64 t279,.slice none 0 0,.slice none 0 0]) ?_ 1 _ rfl;(with_reducible repeat (first|refine qF ?_ _|refine qI ?_|refine qE ?_ _));refine zV (cs:=#[.int .i64 0,.slice none 0 0,.slice none 0 0]) ?_ 0 _ rfl;(with_reducible repeat (first|refine qF ?_ _|refine qI ?_|refine qE ?_ _));exact BK287.out) hb);have n5_:=qA.mk (qL.trans (by repeat (first|(with_reducible first|exact HK.out|apply qL.set_|apply qP|apply qR|apply qO|refine qM ?_ GW278.out _|refine qM ?_ GW287.out _)|exact HK.out)) (qL.of_below hb g none) (.inl rfl));have n6_:=qA.mk (qN (by repeat (first|(with_reducible first|exact HB.out|apply qH|apply qB|apply qG|refine qD ?_ (qC.ge HI0.out)|refine qD ?_ GE278.out|refine qD ?_ GE287.out)|exact HB.out)) hb);clear HO282;clear HO285;clear HI0;clear BK278;clear BK287;clear HK;clear HB;have HO282:=n0_;have HO285:=n1_;have HI0:=n2_;have BK278:=n3_;have BK287:=n4_;have HK:=n5_;have HB:=n6_;clear n0_ n1_ n2_ n3_ n4_ n5_ n6_;(try clear hb);(try clear hb2);(try clear hk);(try clear hi))|((with_reducible refine q8 (f:=13) rfl ?_);refine jB (some 17) rfl rfl Try.func13 (by kernel_rfl) rfl #[.pointer (some ⟨g,0,none⟩),.int .i64 a1] rfl (by (try simp only [List.map_toArray,List.map_cons,List.map_nil]);first|done|rfl|(simp only [List.length_drop,List.length_take];rfl)|(simp only [List.length_nil,Int.natCast_zero,Int.zero_add,Int.ofNat_zero];rfl)) ?_;(with_reducible refine (qZ.calls g s0_0 t286 a1 t289 t290 w0 _ ?side1 ?side2 A19.out).mono ?_);(case side1=>repeat (first|(with_reducible first|exact HI0.out|apply qC.alloc|apply qC.drewN|apply qC.drew|apply qC.zM|refine qC.far ?_ NB0_278.out _|refine qC.far ?_ NB0_287.out _)|exact HI0.out));(case side2=>repeat (first|(with_reducible first|exact HB.out|apply qH|apply qB|apply qG|refine qD ?_ (qC.ge HI0.out)|refine qD ?_ GE278.out|refine qD ?_ GE287.out)|exact HB.out));rintro e w29 ⟨rfl,hi,hb,hk⟩;refine ⟨_,rfl,?_⟩;have n0_:=qA.mk (qL.blk hk (g':=gb278) (o:=.cells #[.int .i64 0,.slice none 0 0,.slice none 0 0] 49 (0,0)) (by (with_reducible repeat (first|refine qF ?_ _|refine qI ?_|refine qE ?_ _));exact BK278.out) NB278_0.out (by simp));have n1_:=qA.mk (Kd.zN (Kd.vO (qC.apart (show qC w0 _ g s0_0 t286 from by repeat (first|(with_reducible first|exact HI0.out|apply qC.alloc|apply qC.drewN|apply qC.drew|apply qC.zM|refine qC.far ?_ NB0_278.out _|refine qC.far ?_ NB0_287.out _)|exact HI0.out)) (by (with_reducible repeat (first|apply Kd.qX|apply Kd.qW|apply Kd.zC));exact HO282.out) (by decide)) hk (fun _ h=>h.2)) (fun _ h=>h.1));have n2_:=qA.mk (Kd.zN (Kd.vO (qC.apart (show qC w0 _ g s0_0 t286 from by repeat (first|(with_reducible first|exact HI0.out|apply qC.alloc|apply qC.drewN|apply qC.drew|apply qC.zM|refine qC.far ?_ NB0_278.out _|refine qC.far ?_ NB0_287.out _)|exact HI0.out)) (by (with_reducible repeat (first|apply Kd.qX|apply Kd.qW|apply Kd.zC));exact HO285.out) (by decide)) hk (fun _ h=>h.2)) (fun _ h=>h.1));have n3_:=qA.mk (qL.blk hk (g':=gb287) (o:=.cells #[.int .i64 t279,.slice Ao26 t280.length co26,.slice Ao27 t283.length co27] 49 (0,0)) (by (with_reducible repeat (first|refine qF ?_ _|refine qI ?_|refine qE ?_ _));exact BK287.out) NB287_0.out (by simp));have n4_:=qA.mk (qL.trans (by repeat (first|(with_reducible first|exact HK.out|apply qL.set_|apply qP|apply qR|apply qO|refine qM ?_ GW278.out _|refine qM ?_ GW287.out _)|exact HK.out)) hk (.inl rfl));have n5_:=qA.mk (hb);have n6_:=qA.mk (hi);clear BK278;clear HO282;clear HO285;clear BK287;clear HK;clear HB;clear HI0;have BK278:=n0_;have HO282:=n1_;have HO285:=n2_;have BK287:=n3_;have HK:=n4_;have HB:=n5_;have HI0:=n6_;clear n0_ n1_ n2_ n3_ n4_ n5_ n6_;(try clear hb);(try clear hb2);(try clear hk);(try clear hi))|((with_reducible refine jH (N:=18) rfl ?_);refine Kd.R_lit (Kd.int .i64) _ 3 ?hg (N:=18) ?hd (xs:=([t289] : List Int)) (inner:=[.int .i64 t289]) (ok:=fun _=>True) (okp:=fun _=>True) ?hr ?hp (fun _ hk=>hk) trivial (Below.refl _ _) (Nat.le_refl _) (by simp) ?_;(case hd=>rfl);(case hg=>rfl);(case hr=>first|(go_simp;done)|(go_simp;rfl));(case hp=>exact (Reps.one (show Kd.M (Kd.int .i64) _ _ _ t289 [.int .i64 t289] from rfl) (Reps.none _ _)));intro v292 w30 ho31 hb hg_ hnew_;clear hg_ hnew_;(first|rw [← Ny291.out] at ho31|(simp only [Int.reduceToNat] at ho31;rw [← Ny291.out] at ho31));have n0_:=qA.mk (Kd.uH (by (with_reducible repeat (first|apply Kd.qX|apply Kd.qW|apply Kd.zC));exact HO282.out) (Kd.vG ho31) hb);have n1_:=qA.mk (Kd.uH (by (with_reducible repeat (first|apply Kd.qX|apply Kd.qW|apply Kd.zC));exact HO285.out) (Kd.vG ho31) hb);have n2_:=qA.mk (Kd.vL (Kd.uX ho31 (Kd.R_lt (by (with_reducible repeat (first|apply Kd.qX|apply Kd.qW|apply Kd.zC));exact HO282.out))) (jG (w:=w) (g:=g) (row:=none) (by repeat (first|(with_reducible first|exact HK.out|apply qL.set_|apply qP|apply qR|apply qO|refine qM ?_ GW278.out _|refine qM ?_ GW287.out _)|exact HK.out))));have n3_:=qA.mk (qC.below (by repeat (first|(with_reducible first|exact HI0.out|apply qC.alloc|apply qC.drewN|apply qC.drew|apply qC.zM|refine qC.far ?_ NB0_278.out _|refine qC.far ?_ NB0_287.out _)|exact HI0.out)) hb);have n4_:=qA.mk (zD (g:=gb278) (o:=.cells #[.int .i64 0,.slice none 0 0,.slice none 0 0] 49 (0,0)) (by (with_reducible repeat (first|refine qF ?_ _|refine qI ?_|refine qE ?_ _));exact BK278.out) hb);have n5_:=qA.mk (zD (g:=gb287) (o:=.cells #[.int .i64 t279,.slice Ao26 t280.length co26,.slice Ao27 t283.length co27] 49 (0,0)) (by (with_reducible repeat (first|refine qF ?_ _|refine qI ?_|refine qE ?_ _));exact BK287.out) hb);have n6_:=qA.mk (qL.trans (by repeat (first|(with_reducible first|exact HK.out|apply qL.set_|apply qP|apply qR|apply qO|refine qM ?_ GW278.out _|refine qM ?_ GW287.out _)|exact HK.out)) (qL.of_below hb g none) (.inl rfl));have n7_:=qA.mk (qN (by repeat (first|(with_reducible first|exact HB.out|apply qH|apply qB|apply qG|refine qD ?_ (qC.ge HI0.out)|refine qD ?_ GE278.out|refine qD ?_ GE287.out)|exact HB.out)) hb);clear HO282;clear HO285;clear HI0;clear BK278;clear BK287;clear HK;clear HB;have HO282:=n0_;have HO285:=n1_;have HO293:=n2_;have HI0:=n3_;have BK278:=n4_;have BK287:=n5_;have HK:=n6_;have HB:=n7_;clear n0_ n1_ n2_ n3_ n4_ n5_ n6_ n7_;clear hb ho31;obtain ⟨Ao32,co32,eo32⟩:=Kd.j4 HO293.out;subst eo32;have hnb33:=NB278_0.out;have hnc33:=NB0_278.out;have hcz34_0 : w30.cell? ⟨gb278,0,none⟩ = some (.int .i64 0):=(qK BK278.out 0).trans rfl;have hcz34_1 : w30.cell? ⟨gb278,1,none⟩ = some (.slice none 0 0):=(qK BK278.out 1).trans rfl;have hcz34_2 : w30.cell? ⟨gb278,2,none⟩ = some (.slice none 0 0):=(qK BK278.out 2).trans rfl;have hfz34_0:=qJ BK278.out 0;have hfz34_1:=qJ BK278.out 1;have hfz34_2:=qJ BK278.out 2))
  refine bodyPost_ret (results_cell_row rfl _ _ gb278 49 #[.int .i64 1,.slice Ao32 y291.length co32,.slice none 0 0] (0,0) _ rfl (by (with_reducible repeat (first|refine qF ?_ _|refine qI ?_|refine qE ?_ _));refine zV (cs:=#[.int .i64 1,.slice Ao32 y291.length co32,.slice none 0 0]) ?_ 2 _ rfl;(with_reducible repeat (first|refine qF ?_ _|refine qI ?_|refine qE ?_ _));refine zV (cs:=#[.int .i64 1,.slice none 0 0,.slice none 0 0]) ?_ 1 _ rfl;(with_reducible repeat (first|refine qF ?_ _|refine qI ?_|refine qE ?_ _));refine zV (cs:=#[.int .i64 0,.slice none 0 0,.slice none 0 0]) ?_ 0 _ rfl;(with_reducible repeat (first|refine qF ?_ _|refine qI ?_|refine qE ?_ _));exact BK278.out) Try.underlying49 rfl (by kernel_rfl)) rfl ?_
  exact ⟨_,_,by first|rfl|(simp [zK,zJ]<;>rfl)|(simp [*,zK,zJ]<;>rfl),by (with_reducible repeat (first|apply Kd.qX|apply Kd.qW|apply Kd.zC));exact Kd.zN (Kd.jE (p:=⟨gb278,2,none⟩) (Kd.jE (p:=⟨gb278,1,none⟩) (Kd.jE (p:=⟨gb278,0,none⟩) (Kd.jY HO293.out BK278.out (by decide)) (fun _ hk=>hk.2) (.int .i64 1)) (fun _ hk=>hk.2) (.slice Ao32 y291.length co32)) (fun _ hk=>hk.2) (.slice none 0 0)) (fun _ hk=>trivial),by first|exact Kd.uT _ _ _ _ _|exact Kd.N_nil _ _ _ _ _|exact Kd.V_nil _ _ _ _ _|exact Kd.Q_nil _ _ _ _ _|exact Kd.S_nil _ _ _ _ _,by repeat (first|(with_reducible first|exact HI0.out|apply qC.alloc|apply qC.drewN|apply qC.drew|apply qC.zM|refine qC.far ?_ NB0_278.out _|refine qC.far ?_ NB0_287.out _)|exact HI0.out),by repeat (first|(with_reducible first|exact HB.out|apply qH|apply qB|apply qG|refine qD ?_ (qC.ge HI0.out)|refine qD ?_ GE278.out|refine qD ?_ GE287.out)|exact HB.out),by repeat (first|(with_reducible first|exact HK.out|apply qL.set_|apply qP|apply qR|apply qO|refine qM ?_ GW278.out _|refine qM ?_ GW287.out _)|exact HK.out)⟩
end Go.Proofs.Ytoofabolcbbjnaa.P
