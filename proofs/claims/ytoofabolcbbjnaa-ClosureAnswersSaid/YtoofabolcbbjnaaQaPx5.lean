/- Functions of the program as Lean functions, and the walks that show that the calls answer so; written by a program of this session (a changed print) and by hand. -/
import Derived.Test.YtoofabolcbbjnaaQaPx0
namespace Go.Proofs.Ytoofabolcbbjnaa.P
open Go.RowKit Go.Proofs.YtoofabolcbbjnaaW.PrintWords Go.Proofs.YtoofabolcbbjnaaW.PrintLast Go.Proofs.YtoofabolcbbjnaaW.PrintMore
attribute [local go_sem] kR kP Qa Qc kE kD kQ kN
set_option linter.unusedVariables false
set_option linter.unusedSimpArgs false
mutual
def jB.l0 : Nat→Int→List (S49)→Int→Int→Option (Int)
 | 0,_,_,_,_=>none
 | k + 1,x3,x14,x15,x16=>if x16 < x15 then (if 0 ≤ x16 then (if x16 < (x14.length : Int) then ((jB.f k ((zB x14 x16).f0) ((zB x14 x16).f1) ((zB x14 x16).f2)).bind fun t263=>(jB.l0 k (wrap64 (x3 + t263)) x14 x15 (wrap64 (x16 + 1)))) else (none)) else (none)) else (some x3)
def jB.f : Nat→Int→List Int→List (S49)→Option (Int)
 | 0,_,_,_=>none
 | k + 1,a0_0,l0_1,l0_2=>jB.l0 k (wrap64 ((l0_1.length : Int) + (l0_2.length : Int))) l0_2 (l0_2.length : Int) 0
end
set_option maxHeartbeats 8000000 in
set_option maxRecDepth 100000 in
theorem jB.calls (k : Nat) : ∀ (a0_0 : Int) (A0_1 : Option Addr) (c0_1 : Nat) (l0_1 : List Int) (A0_2 : Option Addr) (c0_2 : Nat) (l0_2 : List (S49)) (r : Int) (w : World) (hr0_1 : Kd.C (Kd.int .i64) w A0_1 l0_1.length l0_1) (hc0_1 : l0_1.length ≤ c0_1) (hr0_2 : Kd.C k49 w A0_2 l0_2.length l0_2) (hc0_2 : l0_2.length ≤ c0_2) (h : jB.f k a0_0 l0_1 l0_2 = some r),
  Calls Try.prog 51 #[.agg #[.int .i64 a0_0,.slice A0_1 l0_1.length c0_1,.slice A0_2 l0_2.length c0_2]] w fun e w'=>e = .returned (.int .i64 r)∧Below w.heap.size w w':=by
 induction k using Nat.strongRecOn with
 | _ k ih =>
 intro a0_0 A0_1 c0_1 l0_1 A0_2 c0_2 l0_2 r w hr0_1 hc0_1 hr0_2 hc0_2 h
 cases k with
 | zero=>exact absurd h (by simp [jB.f])
 | succ k =>
 simp only [jB.f] at h
 have hu49:=Try.underlying49
 have HR0_1:=qA.mk hr0_1
 have HC0_1:=qA.mk hc0_1
 clear hr0_1 hc0_1
 have HR0_2:=qA.mk hr0_2
 have HC0_2:=qA.mk hc0_2
 clear hr0_2 hc0_2
 have HB:=qA.mk (Below.refl w.heap.size w)
 have H:=h
 clear h
 have H':=qA.mk H
 clear H
 go_enter Try.func51,Try.ntmps51
 go_wp2_with (first|((with_reducible refine qX (N:=1) rfl ?_);refine zD ?hg (N:=1) ?hd (cs:=#[.int .i64 a0_0,.slice A0_1 l0_1.length c0_1,.slice A0_2 l0_2.length c0_2]) (t:=49) ?hr ?_;(case hd=>rfl);(case hg=>rfl);(case hr=>exact byad);intro gb260 hg w2 hbox hb;have n_:=q_4 (qE byae hb) (hbox) ((byck : w.heap.size ≤ gb260)) ((byck : w.heap.size ≤ gb260));clear HB;obtain ⟨HB,BK260,GW260,GE260⟩:=n_;clear hb hbox hg;obtain ⟨hcz3_0,hcz3_1,hcz3_2,hfz3_0,hfz3_1,hfz3_2⟩:=cz3 BK260.out))
 go_loopg [3,16] k (fun kq v3 v16 w'=>∃ (x3_1 : Int) (x16_1 : Int),v3 = .int .i64 x3_1∧v16 = .int .i64 x16_1∧qA (jB.l0 kq x3_1 l0_2 (l0_2.length : Int) x16_1 = some r)∧qA (kq ≤ k)∧qA (w'.heap[gb260]? = some (.cells #[.int .i64 a0_0,(.slice A0_1 l0_1.length c0_1),(.slice A0_2 l0_2.length c0_2)] 49 (0,0)))∧qA (Below w.heap.size w w'))
 case atStart=>exact ⟨(wrap64 ((l0_1.length : Int) + (l0_2.length : Int))),(0),byab,byab,H',⟨Nat.le_refl _⟩,⟨byaf BK260.out⟩,⟨byag GE260.out⟩⟩
 case round =>
  clear H'
  obtain ⟨x3_1,x16_1,rfl,rfl,HA,HK1,BK260,HB⟩:=hrel
  cases gk with
  | zero=>exact absurd HA.out (by simp [jB.l0])
  | succ k1 =>
   have H:=HA.out
   clear HA
   simp only [jB.l0] at H
   by_cases c4 : x16_1 < (l0_2.length : Int)
   ·rw [if_pos c4] at H
    have c4b0:=decide_eq_true c4
    clear c4
    by_cases c5 : 0 ≤ x16_1
    ·rw [if_pos c5] at H
     have c5b0:=decide_eq_true c5
     clear c5
     by_cases c6 : x16_1 < (l0_2.length : Int)
     ·rw [if_pos c6] at H
      have c6b0:=decide_eq_true c6
      clear c6
      replace H:=Option.bind_eq_some_iff.mp H
      obtain ⟨t263,A70,H⟩:=H
      try dsimp only at H
      have A7:=qA.mk A70
      clear A70
      have H':=qA.mk H
      clear H
      have p261 : 0 ≤ (x16_1 : Int):=of_decide_eq_true byah
      have q261 : x16_1 < (l0_2.length : Int):=of_decide_eq_true byah
      obtain ⟨ad261,A261_1,c261_1,A261_2,c261_2,e261,hx261_0,hx261_1,hx261_2,hl261_1,hi261_1,hl261_2,hi261_2⟩:=at_T49 HR0_2.out x16_1 p261 q261
      cases e261
      replace hx261_0:=(HB.out.cell (World.block_lt_of_cell? w _ hx261_0)).trans hx261_0
      replace hx261_1:=(HB.out.cell (World.block_lt_of_cell? w _ hx261_1)).trans hx261_1
      replace hx261_2:=(HB.out.cell (World.block_lt_of_cell? w _ hx261_2)).trans hx261_2
      have HR261_1:=qA.mk hi261_1
      have HC261_1:=qA.mk hl261_1
      clear hi261_1 hl261_1
      have HR261_2:=qA.mk hi261_2
      have HC261_2:=qA.mk hl261_2
      clear hi261_2 hl261_2
      replace p261:=eq_true p261
      replace q261:=eq_true q261
      go_wp2_with (first|((with_reducible refine qX (N:=5) rfl ?_);refine zD ?hg (N:=5) ?hd (cs:=#[.int .i64 0,.slice none 0 0,.slice none 0 0]) (t:=49) ?hr ?_;(case hd=>rfl);(case hg=>rfl);(case hr=>exact byad);intro gb262 hg w8 hbox hb;have n_:=q_6 (qI BK260.out hb) (qE (byag GE260.out) hb) (hbox) ((bycl GE260.out : w.heap.size ≤ gb262)) ((bycl GE260.out : w.heap.size ≤ gb262)) ((by rw [hg];exact Nat.ne_of_lt (vH BK260.out) : gb260≠gb262));clear BK260 HB;obtain ⟨BK260,HB,BK262,GW262,GE262,NB260_262⟩:=n_;have NB262_260:=ns NB260_262;clear hb hbox hg;have hnb9:=NB262_260.out;have hnc9:=NB260_262.out;obtain ⟨hcz10_0,hcz10_1,hcz10_2,hfz10_0,hfz10_1,hfz10_2⟩:=cz3 BK262.out)|((with_reducible refine qF (f:=51) rfl ?_);refine zC (some 22) rfl rfl Try.func51 (by kernel_rfl) rfl #[.agg #[.int .i64 ((zB l0_2 x16_1).f0),.slice A261_1 ((zB l0_2 x16_1).f1).length c261_1,.slice A261_2 ((zB l0_2 x16_1).f2).length c261_2]] rfl byac ?_;(with_reducible refine (ih k1 byaj ((zB l0_2 x16_1).f0) _ _ ((zB l0_2 x16_1).f1) _ _ ((zB l0_2 x16_1).f2) t263 _ ?side1 ?side2 ?side3 ?side4 A7.out).mono ?_);(case side1=>exact Kd.uX HR261_1.out (byal GE260.out GE262.out));(case side2=>exact HC261_1.out);(case side3=>exact Kd.uX HR261_2.out (byal GE260.out GE262.out));(case side4=>exact HC261_2.out);rintro e w11 ⟨rfl,hb⟩;refine ⟨_,rfl,?_⟩;have n_:=q_3 (uA (g:=gb260) (o:=.cells #[.int .i64 a0_0,.slice A0_1 l0_1.length c0_1,.slice (some ad261) l0_2.length c0_2] 49 (0,0)) (byaq NB260_262.out BK260.out) hb) (uA (g:=gb262) (o:=.cells #[.int .i64 ((zB l0_2 x16_1).f0),.slice A261_1 ((zB l0_2 x16_1).f1).length c261_1,.slice A261_2 ((zB l0_2 x16_1).f2).length c261_2] 49 (0,0)) (by (with_reducible repeat (first|refine qH ?_ _|refine qJ ?_|refine qG ?_ _));refine zG (cs:=#[.int .i64 ((zB l0_2 x16_1).f0),.slice A261_1 ((zB l0_2 x16_1).f1).length c261_1,.slice none 0 0]) ?_ 2 _ rfl;(with_reducible repeat (first|refine qH ?_ _|refine qJ ?_|refine qG ?_ _));refine zG (cs:=#[.int .i64 ((zB l0_2 x16_1).f0),.slice none 0 0,.slice none 0 0]) ?_ 1 _ rfl;(with_reducible repeat (first|refine qH ?_ _|refine qJ ?_|refine qG ?_ _));refine zG (cs:=#[.int .i64 0,.slice none 0 0,.slice none 0 0]) ?_ 0 _ rfl;(with_reducible repeat (first|refine qH ?_ _|refine qJ ?_|refine qG ?_ _));exact BK262.out) hb) (qE (byal GE260.out GE262.out) hb);clear BK260 BK262 HB;obtain ⟨BK260,BK262,HB⟩:=n_;clear hb))
      go_roundg k1
      case measure=>have:=HK1.out;omega
      case rel=>exact ⟨(wrap64 (x3_1 + t263)),(wrap64 (x16_1 + 1)),byab,byab,H',⟨byaj⟩,⟨byaf BK260.out⟩,⟨byal GE260.out GE262.out⟩⟩
     ·rw [if_neg c6] at H
      exact absurd H (by simp)
    ·rw [if_neg c5] at H
     exact absurd H (by simp)
   ·rw [if_neg c4] at H
    have c4b0:=decide_eq_false c4
    clear c4
    obtain rfl:=Option.some.inj H
    go_wp2
    go_ret
    exact ⟨byam,byag GE260.out⟩
def zL.f (a0 : Int) : Option (Bool):=if a0 ≥ 0 then (some (decide (a0 ≤ 1023))) else (some false)
set_option maxHeartbeats 8000000 in
set_option maxRecDepth 100000 in
theorem zL.calls (a0 : Int) (r : Bool) (w : World) (h : zL.f a0 = some r) :
  Calls Try.prog 36 #[.int .i64 a0] w fun e w'=>e = .returned (.bool r)∧kY w w':=by
 unfold zL.f at h
 have H:=h
 clear h
 by_cases c2 : a0 ≥ 0
 ·rw [if_pos c2] at H
  have c2b0:=decide_eq_true c2
  clear c2
  obtain rfl:=Option.some.inj H
  go_enter Try.func36,Try.ntmps36
  go_wp2
  go_ret
  exact ⟨byab,byaa⟩
 ·rw [if_neg c2] at H
  have c2b0:=decide_eq_false c2
  clear c2
  obtain rfl:=Option.some.inj H
  go_enter Try.func36,Try.ntmps36
  go_wp2
  go_ret
  exact ⟨byab,byaa⟩
def jS.f (a0 : Int) (a1 : Int) : Option (Bool):=(zL.f a0).bind fun t264=>(if t264 = true then (if a1 ≥ 0 then (if a1 < 10 then (if 0 ≤ a1 then (some ((Go.bits .and .i64 (shr .i64 a0 a1) 1) == 1)) else (none)) else (some false)) else (some false)) else (some false))
set_option maxHeartbeats 8000000 in
set_option maxRecDepth 100000 in
theorem jS.calls (a0 : Int) (a1 : Int) (r : Bool) (w : World) (h : jS.f a0 a1 = some r) :
  Calls Try.prog 44 #[.int .i64 a0,.int .i64 a1] w fun e w'=>e = .returned (.bool r)∧kY w w':=by
 unfold jS.f at h
 have H:=h
 clear h
 replace H:=Option.bind_eq_some_iff.mp H
 obtain ⟨t264,A30,H⟩:=H
 try dsimp only at H
 have A3:=qA.mk A30
 clear A30
 by_cases c4 : t264 = true
 ·subst c4
  rw [if_pos rfl] at H
  by_cases c5 : a1 ≥ 0
  ·rw [if_pos c5] at H
   have c5b0:=decide_eq_true c5
   clear c5
   by_cases c6 : a1 < 10
   ·rw [if_pos c6] at H
    have c6b0:=decide_eq_true c6
    clear c6
    by_cases c7 : 0 ≤ a1
    ·rw [if_pos c7] at H
     have c7b0:=eq_true c7
     have c7b1:=decide_eq_true c7
     clear c7
     obtain ⟨ji8,hji8⟩ : ∃ j_ : Int,(shr .i64 a0 a1) = j_:=⟨_,rfl⟩
     (first|rw [hji8] at H|(simp only [hji8] at H))
     (try rw [hji8] at A3)
     have hji8_ : (a0 / 2 ^ min a1.toNat 64) = ji8:=hji8
     have hji8z : a1 ≤ 64→(a0 / 2 ^ a1.toNat) = ji8:=shr_small hji8
     obtain rfl:=Option.some.inj H
     go_enter Try.func44,Try.ntmps44
     go_wp2_with (first|((with_reducible refine qF (f:=36) rfl ?_);refine zC (some 6) rfl rfl Try.func36 (by kernel_rfl) rfl #[.int .i64 a0] rfl byac ?_;(with_reducible refine (zL.calls a0 true _ A3.out).mono ?_);rintro e w' ⟨rfl,⟨nd,rfl⟩⟩;refine ⟨_,rfl,?_⟩))
     go_ret
     exact ⟨byao,byaa⟩
    ·rw [if_neg c7] at H
     exact absurd H (by simp)
   ·rw [if_neg c6] at H
    have c6b0:=decide_eq_false c6
    clear c6
    obtain rfl:=Option.some.inj H
    go_enter Try.func44,Try.ntmps44
    go_wp2_with (first|((with_reducible refine qF (f:=36) rfl ?_);refine zC (some 6) rfl rfl Try.func36 (by kernel_rfl) rfl #[.int .i64 a0] rfl byac ?_;(with_reducible refine (zL.calls a0 true _ A3.out).mono ?_);rintro e w' ⟨rfl,⟨nd,rfl⟩⟩;refine ⟨_,rfl,?_⟩))
    go_ret
    exact ⟨byab,byaa⟩
  ·rw [if_neg c5] at H
   have c5b0:=decide_eq_false c5
   clear c5
   obtain rfl:=Option.some.inj H
   go_enter Try.func44,Try.ntmps44
   go_wp2_with (first|((with_reducible refine qF (f:=36) rfl ?_);refine zC (some 6) rfl rfl Try.func36 (by kernel_rfl) rfl #[.int .i64 a0] rfl byac ?_;(with_reducible refine (zL.calls a0 true _ A3.out).mono ?_);rintro e w' ⟨rfl,⟨nd,rfl⟩⟩;refine ⟨_,rfl,?_⟩))
   go_ret
   exact ⟨byab,byaa⟩
 ·replace c4:=Bool.eq_false_iff.mpr c4
  subst c4
  rw [if_neg (show ¬ (false = true) by decide)] at H
  obtain rfl:=Option.some.inj H
  go_enter Try.func44,Try.ntmps44
  go_wp2_with (first|((with_reducible refine qF (f:=36) rfl ?_);refine zC (some 6) rfl rfl Try.func36 (by kernel_rfl) rfl #[.int .i64 a0] rfl byac ?_;(with_reducible refine (zL.calls a0 false _ A3.out).mono ?_);rintro e w' ⟨rfl,⟨nd,rfl⟩⟩;refine ⟨_,rfl,?_⟩))
  go_ret
  exact ⟨byab,byaa⟩
mutual
def jC.l0 : Nat→Int→List Int→Int→Int→Option (Int × Int)
 | 0,_,_,_,_=>none
 | k + 1,x4,x7,x8,x9=>if x9 < x8 then (if 0 ≤ x9 then (if x9 < (x7.length : Int) then (if (rd x7 x9) < 0 then (jC.j1 k x4 (rd x7 x9) x7 x8 x9 true) else (jC.j1 k x4 (rd x7 x9) x7 x8 x9 (decide ((rd x7 x9) ≥ 10)))) else (none)) else (none)) else (some (x4,0))
def jC.j1 : Nat→Int→Int→List Int→Int→Int→Bool→Option (Int × Int)
 | 0,_,_,_,_,_,_=>none
 | k + 1,x4,x6,x7,x8,x9,x18=>if x18 = true then (some (0,5)) else ((jS.f x4 x6).bind fun t266=>(if t266 = true then (some (0,6)) else (if 0 ≤ x6 then (jC.l0 k (Go.bits .or .i64 x4 (shl .i64 1 x6)) x7 x8 (wrap64 (x9 + 1))) else (none))))
end
def jC.f (k : Nat) (l0 : List Int) : Option (Int × Int):=jC.l0 k 0 l0 (l0.length : Int) 0
set_option maxHeartbeats 8000000 in
set_option maxRecDepth 100000 in
theorem jC.calls (k : Nat) (A0 : Option Addr) (c0 : Nat) (l0 : List Int) (r1 : Int) (r2 : Int) (w : World) (hr0 : Kd.C (Kd.int .i64) w A0 l0.length l0) (hc0 : l0.length ≤ c0) (h : jC.f k l0 = some (r1,r2)) :
  Calls Try.prog 53 #[.slice A0 l0.length c0] w fun e w'=>e = .returned (.tuple #[.int .i64 r1,.int .i64 r2])∧kY w w':=by
 have HR0:=qA.mk hr0
 have HC0:=qA.mk hc0
 clear hr0 hc0
 unfold jC.f at h
 have H:=h
 clear h
 have H':=qA.mk H
 clear H
 go_enter Try.func53,Try.ntmps53
 go_wp2
 go_loopg [4,9] k (fun kq v4 v9 w'=>∃ (x4_1 : Int) (x9_1 : Int),v4 = .int .i64 x4_1∧v9 = .int .i64 x9_1∧qA (jC.l0 kq x4_1 l0 (l0.length : Int) x9_1 = some (r1,r2))∧qA (kq ≤ k)∧kY w w')
 case atStart=>exact ⟨(0),(0),byab,byab,H',⟨Nat.le_refl _⟩,byaa⟩
 case round =>
  clear H'
  obtain ⟨x4_1,x9_1,rfl,rfl,HA,HK1,⟨m1,rfl⟩⟩:=hrel
  cases gk with
  | zero=>exact absurd HA.out (by simp [jC.l0])
  | succ k1 =>
   have H:=HA.out
   clear HA
   simp only [jC.l0] at H
   by_cases c2 : x9_1 < (l0.length : Int)
   ·rw [if_pos c2] at H
    have c2b0:=decide_eq_true c2
    clear c2
    by_cases c3 : 0 ≤ x9_1
    ·rw [if_pos c3] at H
     have c3b0:=decide_eq_true c3
     clear c3
     by_cases c4 : x9_1 < (l0.length : Int)
     ·rw [if_pos c4] at H
      have c4b0:=decide_eq_true c4
      clear c4
      have HC5:=qA.mk H
      clear H
      have p265 : 0 ≤ (x9_1 : Int):=of_decide_eq_true byah
      have q265 : x9_1 < (l0.length : Int):=of_decide_eq_true byah
      obtain ⟨ad265,e265,hx265_0⟩:=Kd.uV HR0.out x9_1 p265 q265
      cases e265
      replace p265:=eq_true p265
      replace q265:=eq_true q265
      go_upto_region 5 with (fail)
      go_cut [18] (fun v18 wc=>∃ (kq : Nat) (x18_4 : Bool),v18 = .bool x18_4∧qA (jC.j1 kq x4_1 (rd l0 x9_1) l0 (l0.length : Int) x9_1 x18_4 = some (r1,r2))∧qA (kq ≤ k1)∧kY w wc)
      case first =>
       have H:=HC5.out
       clear HC5
       by_cases c6 : (rd l0 x9_1) < 0
       ·rw [if_pos c6] at H
        have c6b0:=decide_eq_true c6
        clear c6
        (first|rw [c6b0]|(simp only [i64_w,i32_w];rw [c6b0])|skip)
        have H':=qA.mk H
        clear H
        go_wp2
        go_meet
        case rel=>exact ⟨_,(true),byab,H',⟨by have:=HK1.out;first|omega|exact Nat.le_refl _⟩,byaa⟩
       ·rw [if_neg c6] at H
        have c6b0:=decide_eq_false c6
        clear c6
        (first|rw [c6b0]|(simp only [i64_w,i32_w];rw [c6b0])|skip)
        have H':=qA.mk H
        clear H
        go_wp2
        go_meet
        case rel=>exact ⟨_,(decide ((rd l0 x9_1) ≥ 10)),byab,H',⟨by have:=HK1.out;first|omega|exact Nat.le_refl _⟩,byaa⟩
      case rest =>
       clear HC5
       try clear hx2
       try clear hx265_0
       obtain ⟨kq,x18_4,rfl,HA,HJ4,⟨mc4,rfl⟩⟩:=hcut
       cases kq with
       | zero=>exact absurd HA.out (by simp [jC.j1])
       | succ kj4 =>
        have H:=HA.out
        clear HA
        simp only [jC.j1] at H
        by_cases c7 : x18_4 = true
        ·subst c7
         rw [if_pos rfl] at H
         simp only [Option.some.injEq,Prod.mk.injEq] at H
         obtain ⟨rfl,rfl⟩:=H
         go_wp2
         go_ret2
         exact ⟨byab,byaa⟩
        ·replace c7:=Bool.eq_false_iff.mpr c7
         subst c7
         rw [if_neg (show ¬ (false = true) by decide)] at H
         replace H:=Option.bind_eq_some_iff.mp H
         obtain ⟨t266,A80,H⟩:=H
         try dsimp only at H
         have A8:=qA.mk A80
         clear A80
         by_cases c9 : t266 = true
         ·subst c9
          rw [if_pos rfl] at H
          simp only [Option.some.injEq,Prod.mk.injEq] at H
          obtain ⟨rfl,rfl⟩:=H
          go_wp2_with (first|((with_reducible refine qF (f:=44) rfl ?_);refine zC (some 21) rfl rfl Try.func44 (by kernel_rfl) rfl #[.int .i64 x4_1,.int .i64 (rd l0 x9_1)] rfl byac ?_;(with_reducible refine (jS.calls x4_1 (rd l0 x9_1) true _ A8.out).mono ?_);rintro e w' ⟨rfl,⟨nd,rfl⟩⟩;refine ⟨_,rfl,?_⟩))
          go_ret2
          exact ⟨byab,byaa⟩
         ·replace c9:=Bool.eq_false_iff.mpr c9
          subst c9
          rw [if_neg (show ¬ (false = true) by decide)] at H
          by_cases c10 : 0 ≤ (rd l0 x9_1)
          ·rw [if_pos c10] at H
           have c10b0:=eq_true c10
           have c10b1:=decide_eq_true c10
           clear c10
           obtain ⟨ji11,hji11⟩ : ∃ j_ : Int,(shl .i64 1 (rd l0 x9_1)) = j_:=⟨_,rfl⟩
           (first|rw [hji11] at H|(simp only [hji11] at H))
           (try rw [hji11] at A8)
           obtain ⟨hji11_,hji11z,hji11u,hji11v,hji11y,hji11x⟩:=jiA hji11
           have H':=qA.mk H
           clear H
           go_wp2_with (first|((with_reducible refine qF (f:=44) rfl ?_);refine zC (some 21) rfl rfl Try.func44 (by kernel_rfl) rfl #[.int .i64 x4_1,.int .i64 (rd l0 x9_1)] rfl byac ?_;(with_reducible refine (jS.calls x4_1 (rd l0 x9_1) false _ A8.out).mono ?_);rintro e w' ⟨rfl,⟨nd,rfl⟩⟩;refine ⟨_,rfl,?_⟩))
           go_roundg kj4
           case measure=>have:=HK1.out;have:=HJ4.out;omega
           case rel=>exact ⟨(Go.bits .or .i64 x4_1 (ji11)),(wrap64 (x9_1 + 1)),byai,byab,H',⟨by have:=HK1.out;have:=HJ4.out;omega⟩,byaa⟩
          ·rw [if_neg c10] at H
           exact absurd H (by simp)
     ·rw [if_neg c4] at H
      exact absurd H (by simp)
    ·rw [if_neg c3] at H
     exact absurd H (by simp)
   ·rw [if_neg c2] at H
    have c2b0:=decide_eq_false c2
    clear c2
    simp only [Option.some.injEq,Prod.mk.injEq] at H
    obtain ⟨rfl,rfl⟩:=H
    go_wp2
    go_ret2
    exact ⟨byab,byaa⟩
end Go.Proofs.Ytoofabolcbbjnaa.P
