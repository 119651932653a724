/- Functions of the program as Lean functions, and the walks that show that the calls answer so; written by a program of this session (a changed print) and by hand. -/
import Derived.Test.YtoofabolcbbjnaaQrPx0
namespace Go.Proofs.Ytoofabolcbbjnaa.P
open Go.RowKit Go.Proofs.YtoofabolcbbjnaaW.PrintWords Go.Proofs.YtoofabolcbbjnaaW.PrintLast Go.Proofs.YtoofabolcbbjnaaW.PrintMore
attribute [local go_sem] kH kJ kQ kR uS uR kF kG
set_option linter.unusedVariables false
set_option linter.unusedSimpArgs false
def kE.f (a0 : Int) (a1 : Int) : Option (Bool):=if a0 ≥ 0 then (if 0 ≤ a1 then (some (decide (a0 < (shl .i64 1 a1)))) else (none)) else (some false)
set_option maxHeartbeats 8000000 in
set_option maxRecDepth 100000 in
theorem kE.calls (a0 : Int) (a1 : Int) (r : Bool) (w : World) (h : kE.f a0 a1 = some r) :
  Calls Try.prog 47 #[.int .i64 a0,.int .i64 a1] w fun e w'=>e = .returned (.bool r)∧vF w w':=by
 have H : (if a0 ≥ 0 then (if 0 ≤ a1 then (some (decide (a0 < (shl .i64 1 a1)))) else (none)) else (some false)) = some r:=h
 clear h
 by_cases c3 : a0 ≥ 0
 ·rw [if_pos c3] at H
  have c3b0 : decide (0 ≤ a0) = true:=decide_eq_true c3
  clear c3
  by_cases c4 : 0 ≤ a1
  ·rw [if_pos c4] at H
   have c4b0:=eq_true c4
   have c4b1 : decide (0 ≤ a1) = true:=decide_eq_true c4
   clear c4
   obtain ⟨ji5,hji5⟩ : ∃ j_ : Int,(shl .i64 1 a1) = j_:=⟨_,rfl⟩
   replace H : (some (decide (a0 < (ji5)))) = some r:=by first|(rw [hji5] at H;exact H)|(simp only [hji5] at H ⊢;exact H)
   have hji5_ : (IntKind.i64.wrap (1 * 2 ^ min a1.toNat 64)) = ji5:=hji5
   have hji5z : a1 ≤ 64→(IntKind.i64.wrap (1 * 2 ^ a1.toNat)) = ji5:=shl_small hji5
   have hji5u : (IntKind.i64.wrap (2 ^ min a1.toNat 64)) = ji5:=by have h_:=hji5_;rw [Int.one_mul] at h_;exact h_
   have hji5v : a1 ≤ 64→(IntKind.i64.wrap (2 ^ a1.toNat)) = ji5:=fun hle_=>by have h_:=hji5z hle_;rw [Int.one_mul] at h_;exact h_
   have hji5y : (wrap64 (1 * 2 ^ min a1.toNat 64)) = ji5:=(zT _).symm.trans hji5_
   have hji5x : a1 ≤ 64→(wrap64 (1 * 2 ^ a1.toNat)) = ji5:=fun h_=>(zT _).symm.trans (hji5z h_)
   obtain rfl:=Option.some.inj H
   go_enter Try.func47,Try.ntmps47
   go_wp2
   go_ret
   exact ⟨by first|rfl|(simp;done)|(simp only [← hji5]<;>(first|rfl|simp))|(simp [*];done),by repeat (first|exact vF.refl _|apply vF.step)⟩
  ·rw [if_neg c4] at H
   exact absurd H (by simp)
 ·rw [if_neg c3] at H
  have c3b0 : decide (0 ≤ a0) = false:=decide_eq_false c3
  clear c3
  obtain rfl:=Option.some.inj H
  go_enter Try.func47,Try.ntmps47
  go_wp2
  go_ret
  exact ⟨by first|rfl|(simp;done)|(simp [*];done),by repeat (first|exact vF.refl _|apply vF.step)⟩
def j5.f (a0 : Int) : Option (Bool):=(kE.f a0 10).bind fun t101=>(some t101)
set_option maxHeartbeats 8000000 in
set_option maxRecDepth 100000 in
theorem j5.calls (a0 : Int) (r : Bool) (w : World) (h : j5.f a0 = some r) :
  Calls Try.prog 37 #[.int .i64 a0] w fun e w'=>e = .returned (.bool r)∧vF w w':=by
 have H : ((kE.f a0 10).bind fun t101=>(some t101)) = some r:=h
 clear h
 replace H:=Option.bind_eq_some_iff.mp H
 obtain ⟨t101,A20,H⟩:=H
 replace H : (some t101) = some r:=H
 have A2:=qA.mk A20
 clear A20
 obtain rfl:=Option.some.inj H
 go_enter Try.func37,Try.ntmps37
 go_wp2_with (first|((with_reducible refine q8 (f:=47) rfl ?_);refine jB (some 4) rfl rfl Try.func47 (by kernel_rfl) rfl #[.int .i64 a0,.int .i64 10] rfl (by (try simp only [List.map_toArray,List.map_cons,List.map_nil]);first|done|rfl|(simp only [List.length_drop,List.length_take];rfl)|(simp only [List.length_nil,Int.natCast_zero,Int.zero_add,Int.ofNat_zero];rfl)) ?_;(with_reducible refine (kE.calls a0 10 t101 _ A2.out).mono ?_);rintro e w' ⟨rfl,⟨nd,rfl⟩⟩;refine ⟨_,rfl,?_⟩))
 go_ret
 exact ⟨by first|rfl|(simp;done)|(simp [*];done),by repeat (first|exact vF.refl _|apply vF.step)⟩
def q9.l0 : Nat→Int→List (S51)→Int→Int→Option (Int)
 | 0,_,_,_,_=>none
 | k + 1,x3,x7,x8,x9=>if x9 < x8 then (if 0 ≤ x9 then (if x9 < (x7.length : Int) then (if (jO x7 x9).f0 = true then (if x9 < 10 then (q9.l0 k (Go.bits .or .i64 x3 (shl .i64 1 x9)) x7 x8 (wrap64 (x9 + 1))) else (q9.l0 k x3 x7 x8 (wrap64 (x9 + 1)))) else (q9.l0 k x3 x7 x8 (wrap64 (x9 + 1)))) else (none)) else (none)) else (some x3)
def q9.f (k : Nat) (l0_0 : List (S51)) : Option (Int):=q9.l0 k 0 l0_0 (l0_0.length : Int) 0
theorem q9.mono_l : ∀ k,(∀ y0 y1 y2 y3,LeO (q9.l0 k y0 y1 y2 y3) (q9.l0 (k + 1) y0 y1 y2 y3))
 | 0=>fun _ _ _ _ r h=>by simp [q9.l0] at h
 | k + 1=>by
  have ih0:=q9.mono_l k
  ·intro y0 y1 y2 y3
   unfold q9.l0
   repeat' first
   | (with_reducible exact ih0 _ _ _ _)
   | (with_reducible exact LeO.refl _)
   | (with_reducible exact LeO.none _)
   | (with_reducible refine LeO.ite ?_ ?_)
   | (with_reducible refine LeO.bind ?_ (fun _=>?_))
   | exact ih0 _ _ _ _
   | exact LeO.none _
   | refine LeO.ite ?_ ?_
   | refine LeO.bind ?_ (fun _=>?_)
theorem q9.mono : ∀ a0 k,LeO (q9.f k a0) (q9.f (k + 1) a0):=by
 intro a0 k
 have ih0:=q9.mono_l k
 unfold q9.f
 repeat' first
   | (with_reducible exact ih0 _ _ _ _)
   | (with_reducible exact LeO.refl _)
   | (with_reducible exact LeO.none _)
   | (with_reducible refine LeO.ite ?_ ?_)
   | (with_reducible refine LeO.bind ?_ (fun _=>?_))
   | exact ih0 _ _ _ _
   | exact LeO.none _
   | refine LeO.ite ?_ ?_
   | refine LeO.bind ?_ (fun _=>?_)
set_option maxHeartbeats 8000000 in
set_option maxRecDepth 100000 in
theorem q9.calls (k : Nat) (A0_0 : Option Addr) (c0_0 : Nat) (l0_0 : List (S51)) (r : Int) (w : World) (hr0_0 : Kd.C k51 w A0_0 l0_0.length l0_0) (hc0_0 : l0_0.length ≤ c0_0) (h : q9.f k l0_0 = some r) :
  Calls Try.prog 41 #[.agg #[.slice A0_0 l0_0.length c0_0]] w fun e w'=>e = .returned (.int .i64 r)∧Below w.heap.size w w':=by
 have hu25:=Try.underlying25
 have hu51:=Try.underlying51
 have HR0_0:=qA.mk hr0_0
 have HC0_0:=qA.mk hc0_0
 clear hr0_0 hc0_0
 have HB:=qA.mk (Below.refl w.heap.size w)
 have H : (q9.l0 k 0 l0_0 (l0_0.length : Int) 0) = some r:=h
 clear h
 have H':=qA.mk H
 clear H
 go_enter Try.func41,Try.ntmps41
 go_wp2_with (first|((with_reducible refine jH (N:=1) rfl ?_);refine jL ?hg (N:=1) ?hd (cs:=#[.slice A0_0 l0_0.length c0_0]) (t:=25) ?hr ?_;(case hd=>rfl);(case hg=>rfl);(case hr=>first|(go_simp;done)|(go_simp;rfl));intro gb102 hg w2 hbox hb;have n0_:=qA.mk (qN (by repeat (first|(with_reducible first|exact HB.out|apply qH|apply qB|apply qG)|exact HB.out)) hb);have n1_:=qA.mk (hbox);have n2_:=qA.mk ((by rw [hg];exact (qQ (by repeat (first|(with_reducible first|exact HB.out|apply qH|apply qB|apply qG)|exact HB.out))) : w.heap.size ≤ gb102));have n3_:=qA.mk ((by rw [hg];exact (qQ (by repeat (first|(with_reducible first|exact HB.out|apply qH|apply qB|apply qG)|exact HB.out))) : w.heap.size ≤ gb102));clear HB;have HB:=n0_;have BK102:=n1_;have GW102:=n2_;have GE102:=n3_;clear n0_ n1_ n2_ n3_;clear hb hbox hg;have hcz3_0 : w2.cell? ⟨gb102,0,none⟩ = some (.slice A0_0 l0_0.length c0_0):=(qK BK102.out 0).trans rfl;have hfz3_0:=qJ BK102.out 0))
 go_loopg [3,9] k (fun kq v3 v9 w'=>∃ (x3_1 : Int) (x9_1 : Int),v3 = .int .i64 x3_1∧v9 = .int .i64 x9_1∧qA (q9.l0 kq x3_1 l0_0 (l0_0.length : Int) x9_1 = some r)∧qA (kq ≤ k)∧qA (w'.heap[gb102]? = some (.cells #[(.slice A0_0 l0_0.length c0_0)] 25 (0,0)))∧qA (Below w.heap.size w w'))
 case atStart=>exact ⟨(0),(0),(by first|rfl|(simp;done)|(simp [*];done)),(by first|rfl|(simp;done)|(simp [*];done)),H',⟨Nat.le_refl _⟩,⟨by (with_reducible repeat (first|refine qF ?_ _|refine qI ?_|refine qE ?_ _));exact BK102.out⟩,⟨by repeat (first|(with_reducible first|exact HB.out|apply qH|apply qB|apply qG|refine qD ?_ GE102.out)|exact HB.out)⟩⟩
 case round =>
  clear H'
  try clear p2
  try clear hcz3_0
  try clear hfz3_0
  obtain ⟨x3_1,x9_1,rfl,rfl,HA,HK1,BK102,HB⟩:=hrel
  cases gk with
  | zero=>exact absurd HA.out (by simp [q9.l0])
  | succ k1 =>
   have H:=HA.out
   clear HA
   simp only [q9.l0] at H
   by_cases c4 : x9_1 < (l0_0.length : Int)
   ·rw [if_pos c4] at H
    have c4b0 : decide (x9_1 < (l0_0.length : Int)) = true:=decide_eq_true c4
    clear c4
    by_cases c5 : 0 ≤ x9_1
    ·rw [if_pos c5] at H
     have c5b0 : decide (0 ≤ x9_1) = true:=decide_eq_true c5
     clear c5
     by_cases c6 : x9_1 < (l0_0.length : Int)
     ·rw [if_pos c6] at H
      have c6b0 : decide (x9_1 < (l0_0.length : Int)) = true:=decide_eq_true c6
      clear c6
      obtain ⟨bq7,hbq7⟩ : ∃ b_ : Bool,b_ = ((jO l0_0 x9_1).f0):=⟨_,rfl⟩
      replace H : (if bq7 = true then (if x9_1 < 10 then (q9.l0 k1 (Go.bits .or .i64 x3_1 (shl .i64 1 x9_1)) l0_0 (l0_0.length : Int) (wrap64 (x9_1 + 1))) else (q9.l0 k1 x3_1 l0_0 (l0_0.length : Int) (wrap64 (x9_1 + 1)))) else (q9.l0 k1 x3_1 l0_0 (l0_0.length : Int) (wrap64 (x9_1 + 1)))) = some r:=by rw [← hbq7] at H;exact H
      have Nbq7:=qA.mk hbq7
      clear hbq7
      by_cases c8 : bq7 = true
      ·subst c8
       have H1 : (if x9_1 < 10 then (q9.l0 k1 (Go.bits .or .i64 x3_1 (shl .i64 1 x9_1)) l0_0 (l0_0.length : Int) (wrap64 (x9_1 + 1))) else (q9.l0 k1 x3_1 l0_0 (l0_0.length : Int) (wrap64 (x9_1 + 1)))) = some r:=by rw [if_pos rfl] at H;exact H
       clear H
       have H:=H1
       clear H1
       by_cases c9 : x9_1 < 10
       ·rw [if_pos c9] at H
        have c9b0 : decide (x9_1 < 10) = true:=decide_eq_true c9
        clear c9
        have c10b0:=eq_true (of_decide_eq_true (by first|(with_reducible assumption)|assumption) : 0 ≤ x9_1)
        obtain ⟨ji11,hji11⟩ : ∃ j_ : Int,(shl .i64 1 x9_1) = j_:=⟨_,rfl⟩
        replace H : (q9.l0 k1 (Go.bits .or .i64 x3_1 (ji11)) l0_0 (l0_0.length : Int) (wrap64 (x9_1 + 1))) = some r:=by first|(rw [hji11] at H;exact H)|(simp only [hji11] at H ⊢;exact H)
        have hji11_ : (IntKind.i64.wrap (1 * 2 ^ min x9_1.toNat 64)) = ji11:=hji11
        have hji11z : x9_1 ≤ 64→(IntKind.i64.wrap (1 * 2 ^ x9_1.toNat)) = ji11:=shl_small hji11
        have hji11u : (IntKind.i64.wrap (2 ^ min x9_1.toNat 64)) = ji11:=by have h_:=hji11_;rw [Int.one_mul] at h_;exact h_
        have hji11v : x9_1 ≤ 64→(IntKind.i64.wrap (2 ^ x9_1.toNat)) = ji11:=fun hle_=>by have h_:=hji11z hle_;rw [Int.one_mul] at h_;exact h_
        have hji11y : (wrap64 (1 * 2 ^ min x9_1.toNat 64)) = ji11:=(zT _).symm.trans hji11_
        have hji11x : x9_1 ≤ 64→(wrap64 (1 * 2 ^ x9_1.toNat)) = ji11:=fun h_=>(zT _).symm.trans (hji11z h_)
        have H':=qA.mk H
        clear H
        have p103 : 0 ≤ (x9_1 : Int):=of_decide_eq_true (by first|(with_reducible assumption)|assumption)
        have q103 : x9_1 < (l0_0.length : Int):=of_decide_eq_true (by first|(with_reducible assumption)|assumption)
        obtain ⟨ad103,A103_2,c103_2,A103_3,c103_3,e103,hx103_0,hx103_1,hx103_2,hx103_3,hl103_2,hi103_2,hl103_3,hi103_3⟩:=at_T51 HR0_0.out x9_1 p103 q103
        (try rw [← Nbq7.out] at hx103_0)
        cases e103
        replace hx103_0:=(HB.out.cell (World.block_lt_of_cell? w _ hx103_0)).trans hx103_0
        replace hx103_1:=(HB.out.cell (World.block_lt_of_cell? w _ hx103_1)).trans hx103_1
        replace hx103_2:=(HB.out.cell (World.block_lt_of_cell? w _ hx103_2)).trans hx103_2
        replace hx103_3:=(HB.out.cell (World.block_lt_of_cell? w _ hx103_3)).trans hx103_3
        have HR103_2:=qA.mk hi103_2
        have HC103_2:=qA.mk hl103_2
        clear hi103_2 hl103_2
        have HR103_3:=qA.mk hi103_3
        have HC103_3:=qA.mk hl103_3
        clear hi103_3 hl103_3
        replace p103:=eq_true p103
        replace q103:=eq_true q103
        go_wp2_with (first|((with_reducible refine jH (N:=5) rfl ?_);refine jL ?hg (N:=5) ?hd (cs:=#[.bool false,.int .i64 0,.slice none 0 0,.slice none 0 0]) (t:=51) ?hr ?_;(case hd=>rfl);(case hg=>rfl);(case hr=>first|(go_simp;done)|(go_simp;rfl));intro gb104 hg w12 hbox hb;have n0_:=qA.mk (zD (g:=gb102) (o:=.cells #[.slice (some ad103) l0_0.length c0_0] 25 (0,0)) (by (with_reducible repeat (first|refine qF ?_ _|refine qI ?_|refine qE ?_ _));exact BK102.out) hb);have n1_:=qA.mk (qN (by repeat (first|(with_reducible first|exact HB.out|apply qH|apply qB|apply qG|refine qD ?_ GE102.out)|exact HB.out)) hb);have n2_:=qA.mk (hbox);have n3_:=qA.mk ((by rw [hg];exact (qQ (by repeat (first|(with_reducible first|exact HB.out|apply qH|apply qB|apply qG|refine qD ?_ GE102.out)|exact HB.out))) : w.heap.size ≤ gb104));have n4_:=qA.mk ((by rw [hg];exact (qQ (by repeat (first|(with_reducible first|exact HB.out|apply qH|apply qB|apply qG|refine qD ?_ GE102.out)|exact HB.out))) : w.heap.size ≤ gb104));have n5_:=qA.mk ((by rw [hg];exact Nat.ne_of_lt (jR (g:=gb102) (o:=.cells #[.slice (some ad103) l0_0.length c0_0] 25 (0,0)) (by (with_reducible repeat (first|refine qF ?_ _|refine qI ?_|refine qE ?_ _));exact BK102.out)) : gb102≠gb104));have n6_:=qA.mk ((by rw [hg];exact Nat.ne_of_gt (jR (g:=gb102) (o:=.cells #[.slice (some ad103) l0_0.length c0_0] 25 (0,0)) (by (with_reducible repeat (first|refine qF ?_ _|refine qI ?_|refine qE ?_ _));exact BK102.out)) : gb104≠gb102));clear BK102;clear HB;have BK102:=n0_;have HB:=n1_;have BK104:=n2_;have GW104:=n3_;have GE104:=n4_;have NB102_104:=n5_;have NB104_102:=n6_;clear n0_ n1_ n2_ n3_ n4_ n5_ n6_;clear hb hbox hg;have hnb13:=NB104_102.out;have hnc13:=NB102_104.out;have hcz14_0 : w12.cell? ⟨gb104,0,none⟩ = some (.bool false):=(qK BK104.out 0).trans rfl;have hcz14_1 : w12.cell? ⟨gb104,1,none⟩ = some (.int .i64 0):=(qK BK104.out 1).trans rfl;have hcz14_2 : w12.cell? ⟨gb104,2,none⟩ = some (.slice none 0 0):=(qK BK104.out 2).trans rfl;have hcz14_3 : w12.cell? ⟨gb104,3,none⟩ = some (.slice none 0 0):=(qK BK104.out 3).trans rfl;have hfz14_0:=qJ BK104.out 0;have hfz14_1:=qJ BK104.out 1;have hfz14_2:=qJ BK104.out 2;have hfz14_3:=qJ BK104.out 3))
        go_roundg k1
        case measure=>have:=HK1.out;omega
        case rel=>exact ⟨(Go.bits .or .i64 x3_1 (ji11)),(wrap64 (x9_1 + 1)),(by first|rfl|(simp;done)|(simp only [← hji11]<;>(first|rfl|simp))|(simp [*];done)),(by first|rfl|(simp;done)|(simp [*];done)),H',⟨by have:=HK1.out;omega⟩,⟨by (with_reducible repeat (first|refine qF ?_ _|refine qI ?_|refine qE ?_ _));refine zU ?_ NB102_104.out _;(with_reducible repeat (first|refine qF ?_ _|refine qI ?_|refine qE ?_ _));refine zU ?_ NB102_104.out _;(with_reducible repeat (first|refine qF ?_ _|refine qI ?_|refine qE ?_ _));refine zU ?_ NB102_104.out _;(with_reducible repeat (first|refine qF ?_ _|refine qI ?_|refine qE ?_ _));refine zU ?_ NB102_104.out _;(with_reducible repeat (first|refine qF ?_ _|refine qI ?_|refine qE ?_ _));exact BK102.out⟩,⟨by repeat (first|(with_reducible first|exact HB.out|apply qH|apply qB|apply qG|refine qD ?_ GE102.out|refine qD ?_ GE104.out)|exact HB.out)⟩⟩
       ·rw [if_neg c9] at H
        have c9b0 : decide (x9_1 < 10) = false:=decide_eq_false c9
        clear c9
        have H':=qA.mk H
        clear H
        have p103 : 0 ≤ (x9_1 : Int):=of_decide_eq_true (by first|(with_reducible assumption)|assumption)
        have q103 : x9_1 < (l0_0.length : Int):=of_decide_eq_true (by first|(with_reducible assumption)|assumption)
        obtain ⟨ad103,A103_2,c103_2,A103_3,c103_3,e103,hx103_0,hx103_1,hx103_2,hx103_3,hl103_2,hi103_2,hl103_3,hi103_3⟩:=at_T51 HR0_0.out x9_1 p103 q103
        (try rw [← Nbq7.out] at hx103_0)
        cases e103
        replace hx103_0:=(HB.out.cell (World.block_lt_of_cell? w _ hx103_0)).trans hx103_0
        replace hx103_1:=(HB.out.cell (World.block_lt_of_cell? w _ hx103_1)).trans hx103_1
        replace hx103_2:=(HB.out.cell (World.block_lt_of_cell? w _ hx103_2)).trans hx103_2
        replace hx103_3:=(HB.out.cell (World.block_lt_of_cell? w _ hx103_3)).trans hx103_3
        have HR103_2:=qA.mk hi103_2
        have HC103_2:=qA.mk hl103_2
        clear hi103_2 hl103_2
        have HR103_3:=qA.mk hi103_3
        have HC103_3:=qA.mk hl103_3
        clear hi103_3 hl103_3
        replace p103:=eq_true p103
        replace q103:=eq_true q103
        go_wp2_with (first|((with_reducible refine jH (N:=5) rfl ?_);refine jL ?hg (N:=5) ?hd (cs:=#[.bool false,.int .i64 0,.slice none 0 0,.slice none 0 0]) (t:=51) ?hr ?_;(case hd=>rfl);(case hg=>rfl);(case hr=>first|(go_simp;done)|(go_simp;rfl));intro gb104 hg w15 hbox hb;have n0_:=qA.mk (zD (g:=gb102) (o:=.cells #[.slice (some ad103) l0_0.length c0_0] 25 (0,0)) (by (with_reducible repeat (first|refine qF ?_ _|refine qI ?_|refine qE ?_ _));exact BK102.out) hb);have n1_:=qA.mk (qN (by repeat (first|(with_reducible first|exact HB.out|apply qH|apply qB|apply qG|refine qD ?_ GE102.out)|exact HB.out)) hb);have n2_:=qA.mk (hbox);have n3_:=qA.mk ((by rw [hg];exact (qQ (by repeat (first|(with_reducible first|exact HB.out|apply qH|apply qB|apply qG|refine qD ?_ GE102.out)|exact HB.out))) : w.heap.size ≤ gb104));have n4_:=qA.mk ((by rw [hg];exact (qQ (by repeat (first|(with_reducible first|exact HB.out|apply qH|apply qB|apply qG|refine qD ?_ GE102.out)|exact HB.out))) : w.heap.size ≤ gb104));have n5_:=qA.mk ((by rw [hg];exact Nat.ne_of_lt (jR (g:=gb102) (o:=.cells #[.slice (some ad103) l0_0.length c0_0] 25 (0,0)) (by (with_reducible repeat (first|refine qF ?_ _|refine qI ?_|refine qE ?_ _));exact BK102.out)) : gb102≠gb104));have n6_:=qA.mk ((by rw [hg];exact Nat.ne_of_gt (jR (g:=gb102) (o:=.cells #[.slice (some ad103) l0_0.length c0_0] 25 (0,0)) (by (with_reducible repeat (first|refine qF ?_ _|refine qI ?_|refine qE ?_ _));exact BK102.out)) : gb104≠gb102));clear BK102;clear HB;have BK102:=n0_;have HB:=n1_;have BK104:=n2_;have GW104:=n3_;have GE104:=n4_;have NB102_104:=n5_;have NB104_102:=n6_;clear n0_ n1_ n2_ n3_ n4_ n5_ n6_;clear hb hbox hg;have hnb16:=NB104_102.out;have hnc16:=NB102_104.out;have hcz17_0 : w15.cell? ⟨gb104,0,none⟩ = some (.bool false):=(qK BK104.out 0).trans rfl;have hcz17_1 : w15.cell? ⟨gb104,1,none⟩ = some (.int .i64 0):=(qK BK104.out 1).trans rfl;have hcz17_2 : w15.cell? ⟨gb104,2,none⟩ = some (.slice none 0 0):=(qK BK104.out 2).trans rfl;have hcz17_3 : w15.cell? ⟨gb104,3,none⟩ = some (.slice none 0 0):=(qK BK104.out 3).trans rfl;have hfz17_0:=qJ BK104.out 0;have hfz17_1:=qJ BK104.out 1;have hfz17_2:=qJ BK104.out 2;have hfz17_3:=qJ BK104.out 3))
        go_roundg k1
        case measure=>have:=HK1.out;omega
        case rel=>exact ⟨(x3_1),(wrap64 (x9_1 + 1)),(by first|rfl|(simp;done)|(simp [*];done)),(by first|rfl|(simp;done)|(simp [*];done)),H',⟨by have:=HK1.out;omega⟩,⟨by (with_reducible repeat (first|refine qF ?_ _|refine qI ?_|refine qE ?_ _));refine zU ?_ NB102_104.out _;(with_reducible repeat (first|refine qF ?_ _|refine qI ?_|refine qE ?_ _));refine zU ?_ NB102_104.out _;(with_reducible repeat (first|refine qF ?_ _|refine qI ?_|refine qE ?_ _));refine zU ?_ NB102_104.out _;(with_reducible repeat (first|refine qF ?_ _|refine qI ?_|refine qE ?_ _));refine zU ?_ NB102_104.out _;(with_reducible repeat (first|refine qF ?_ _|refine qI ?_|refine qE ?_ _));exact BK102.out⟩,⟨by repeat (first|(with_reducible first|exact HB.out|apply qH|apply qB|apply qG|refine qD ?_ GE102.out|refine qD ?_ GE104.out)|exact HB.out)⟩⟩
      ·replace c8:=Bool.eq_false_iff.mpr c8
       subst c8
       have H1 : (q9.l0 k1 x3_1 l0_0 (l0_0.length : Int) (wrap64 (x9_1 + 1))) = some r:=by rw [if_neg (show ¬ (false = true) by decide)] at H;exact H
       clear H
       have H:=H1
       clear H1
       have H':=qA.mk H
       clear H
       have p103 : 0 ≤ (x9_1 : Int):=of_decide_eq_true (by first|(with_reducible assumption)|assumption)
       have q103 : x9_1 < (l0_0.length : Int):=of_decide_eq_true (by first|(with_reducible assumption)|assumption)
       obtain ⟨ad103,A103_2,c103_2,A103_3,c103_3,e103,hx103_0,hx103_1,hx103_2,hx103_3,hl103_2,hi103_2,hl103_3,hi103_3⟩:=at_T51 HR0_0.out x9_1 p103 q103
       (try rw [← Nbq7.out] at hx103_0)
       cases e103
       replace hx103_0:=(HB.out.cell (World.block_lt_of_cell? w _ hx103_0)).trans hx103_0
       replace hx103_1:=(HB.out.cell (World.block_lt_of_cell? w _ hx103_1)).trans hx103_1
       replace hx103_2:=(HB.out.cell (World.block_lt_of_cell? w _ hx103_2)).trans hx103_2
       replace hx103_3:=(HB.out.cell (World.block_lt_of_cell? w _ hx103_3)).trans hx103_3
       have HR103_2:=qA.mk hi103_2
       have HC103_2:=qA.mk hl103_2
       clear hi103_2 hl103_2
       have HR103_3:=qA.mk hi103_3
       have HC103_3:=qA.mk hl103_3
       clear hi103_3 hl103_3
       replace p103:=eq_true p103
       replace q103:=eq_true q103
       go_wp2_with (first|((with_reducible refine jH (N:=5) rfl ?_);refine jL ?hg (N:=5) ?hd (cs:=#[.bool false,.int .i64 0,.slice none 0 0,.slice none 0 0]) (t:=51) ?hr ?_;(case hd=>rfl);(case hg=>rfl);(case hr=>first|(go_simp;done)|(go_simp;rfl));intro gb104 hg w18 hbox hb;have n0_:=qA.mk (zD (g:=gb102) (o:=.cells #[.slice (some ad103) l0_0.length c0_0] 25 (0,0)) (by (with_reducible repeat (first|refine qF ?_ _|refine qI ?_|refine qE ?_ _));exact BK102.out) hb);have n1_:=qA.mk (qN (by repeat (first|(with_reducible first|exact HB.out|apply qH|apply qB|apply qG|refine qD ?_ GE102.out)|exact HB.out)) hb);have n2_:=qA.mk (hbox);have n3_:=qA.mk ((by rw [hg];exact (qQ (by repeat (first|(with_reducible first|exact HB.out|apply qH|apply qB|apply qG|refine qD ?_ GE102.out)|exact HB.out))) : w.heap.size ≤ gb104));have n4_:=qA.mk ((by rw [hg];exact (qQ (by repeat (first|(with_reducible first|exact HB.out|apply qH|apply qB|apply qG|refine qD ?_ GE102.out)|exact HB.out))) : w.heap.size ≤ gb104));have n5_:=qA.mk ((by rw [hg];exact Nat.ne_of_lt (jR (g:=gb102) (o:=.cells #[.slice (some ad103) l0_0.length c0_0] 25 (0,0)) (by (with_reducible repeat (first|refine qF ?_ _|refine qI ?_|refine qE ?_ _));exact BK102.out)) : gb102≠gb104));have n6_:=qA.mk ((by rw [hg];exact Nat.ne_of_gt (jR (g:=gb102) (o:=.cells #[.slice (some ad103) l0_0.length c0_0] 25 (0,0)) (by (with_reducible repeat (first|refine qF ?_ _|refine qI ?_|refine qE ?_ _));exact BK102.out)) : gb104≠gb102));clear BK102;clear HB;have BK102:=n0_;have HB:=n1_;have BK104:=n2_;have GW104:=n3_;have GE104:=n4_;have NB102_104:=n5_;have NB104_102:=n6_;clear n0_ n1_ n2_ n3_ n4_ n5_ n6_;clear hb hbox hg;have hnb19:=NB104_102.out;have hnc19:=NB102_104.out;have hcz20_0 : w18.cell? ⟨gb104,0,none⟩ = some (.bool false):=(qK BK104.out 0).trans rfl;have hcz20_1 : w18.cell? ⟨gb104,1,none⟩ = some (.int .i64 0):=(qK BK104.out 1).trans rfl;have hcz20_2 : w18.cell? ⟨gb104,2,none⟩ = some (.slice none 0 0):=(qK BK104.out 2).trans rfl;have hcz20_3 : w18.cell? ⟨gb104,3,none⟩ = some (.slice none 0 0):=(qK BK104.out 3).trans rfl;have hfz20_0:=qJ BK104.out 0;have hfz20_1:=qJ BK104.out 1;have hfz20_2:=qJ BK104.out 2;have hfz20_3:=qJ BK104.out 3))
       go_roundg k1
       case measure=>have:=HK1.out;omega
       case rel=>exact ⟨(x3_1),(wrap64 (x9_1 + 1)),(by first|rfl|(simp;done)|(simp [*];done)),(by first|rfl|(simp;done)|(simp [*];done)),H',⟨by have:=HK1.out;omega⟩,⟨by (with_reducible repeat (first|refine qF ?_ _|refine qI ?_|refine qE ?_ _));refine zU ?_ NB102_104.out _;(with_reducible repeat (first|refine qF ?_ _|refine qI ?_|refine qE ?_ _));refine zU ?_ NB102_104.out _;(with_reducible repeat (first|refine qF ?_ _|refine qI ?_|refine qE ?_ _));refine zU ?_ NB102_104.out _;(with_reducible repeat (first|refine qF ?_ _|refine qI ?_|refine qE ?_ _));refine zU ?_ NB102_104.out _;(with_reducible repeat (first|refine qF ?_ _|refine qI ?_|refine qE ?_ _));exact BK102.out⟩,⟨by repeat (first|(with_reducible first|exact HB.out|apply qH|apply qB|apply qG|refine qD ?_ GE102.out|refine qD ?_ GE104.out)|exact HB.out)⟩⟩
     ·rw [if_neg c6] at H
      exact absurd H (by simp)
    ·rw [if_neg c5] at H
     exact absurd H (by simp)
   ·rw [if_neg c4] at H
    have c4b0 : decide (x9_1 < (l0_0.length : Int)) = false:=decide_eq_false c4
    clear c4
    obtain rfl:=Option.some.inj H
    go_wp2
    go_ret
    exact ⟨by first|rfl|(simp [zK,zJ]<;>rfl)|(simp [*,zK,zJ]<;>rfl),by repeat (first|(with_reducible first|exact HB.out|apply qH|apply qB|apply qG|refine qD ?_ GE102.out)|exact HB.out)⟩
def vN.f (k : Nat) (l0_0 : List (S51)) (a1 : Int) : Option (Bool):=(q9.f k l0_0).bind fun t106=>(some ((Go.bits .andNot .i64 a1 t106) == 0))
theorem vN.mono : ∀ a0 a1 k,LeO (vN.f k a0 a1) (vN.f (k + 1) a0 a1):=by
 intro a0 a1 k
 unfold vN.f
 repeat' first
   | (with_reducible exact q9.mono _ _)
   | (with_reducible exact LeO.refl _)
   | (with_reducible exact LeO.none _)
   | (with_reducible refine LeO.ite ?_ ?_)
   | (with_reducible refine LeO.bind ?_ (fun _=>?_))
   | exact q9.mono _ _
   | exact LeO.none _
   | refine LeO.ite ?_ ?_
   | refine LeO.bind ?_ (fun _=>?_)
set_option maxHeartbeats 8000000 in
set_option maxRecDepth 100000 in
theorem vN.calls (k : Nat) (A0_0 : Option Addr) (c0_0 : Nat) (l0_0 : List (S51)) (a1 : Int) (r : Bool) (w : World) (hr0_0 : Kd.C k51 w A0_0 l0_0.length l0_0) (hc0_0 : l0_0.length ≤ c0_0) (h : vN.f k l0_0 a1 = some r) :
  Calls Try.prog 38 #[.agg #[.slice A0_0 l0_0.length c0_0],.int .i64 a1] w fun e w'=>e = .returned (.bool r)∧Below w.heap.size w w':=by
 have hu25:=Try.underlying25
 have HR0_0:=qA.mk hr0_0
 have HC0_0:=qA.mk hc0_0
 clear hr0_0 hc0_0
 have HB:=qA.mk (Below.refl w.heap.size w)
 have H : ((q9.f k l0_0).bind fun t106=>(some ((Go.bits .andNot .i64 a1 t106) == 0))) = some r:=h
 clear h
 replace H:=Option.bind_eq_some_iff.mp H
 obtain ⟨t106,A30,H⟩:=H
 replace H : (some ((Go.bits .andNot .i64 a1 t106) == 0)) = some r:=H
 have A3:=qA.mk A30
 clear A30
 obtain rfl:=Option.some.inj H
 go_enter Try.func38,Try.ntmps38
 go_wp2_with (first|((with_reducible refine jH (N:=2) rfl ?_);refine jL ?hg (N:=2) ?hd (cs:=#[.slice A0_0 l0_0.length c0_0]) (t:=25) ?hr ?_;(case hd=>rfl);(case hg=>rfl);(case hr=>first|(go_simp;done)|(go_simp;rfl));intro gb105 hg w4 hbox hb;have n0_:=qA.mk (qN (by repeat (first|(with_reducible first|exact HB.out|apply qH|apply qB|apply qG)|exact HB.out)) hb);have n1_:=qA.mk (hbox);have n2_:=qA.mk ((by rw [hg];exact (qQ (by repeat (first|(with_reducible first|exact HB.out|apply qH|apply qB|apply qG)|exact HB.out))) : w.heap.size ≤ gb105));have n3_:=qA.mk ((by rw [hg];exact (qQ (by repeat (first|(with_reducible first|exact HB.out|apply qH|apply qB|apply qG)|exact HB.out))) : w.heap.size ≤ gb105));clear HB;have HB:=n0_;have BK105:=n1_;have GW105:=n2_;have GE105:=n3_;clear n0_ n1_ n2_ n3_;clear hb hbox hg;have hcz5_0 : w4.cell? ⟨gb105,0,none⟩ = some (.slice A0_0 l0_0.length c0_0):=(qK BK105.out 0).trans rfl;have hfz5_0:=qJ BK105.out 0)|((with_reducible refine q8 (f:=41) rfl ?_);refine jB (some 7) rfl rfl Try.func41 (by kernel_rfl) rfl #[.agg #[.slice A0_0 l0_0.length c0_0]] rfl (by (try simp only [List.map_toArray,List.map_cons,List.map_nil]);first|done|rfl|(simp only [List.length_drop,List.length_take];rfl)|(simp only [List.length_nil,Int.natCast_zero,Int.zero_add,Int.ofNat_zero];rfl)) ?_;(with_reducible refine (q9.calls k _ _ l0_0 t106 _ ?side1 ?side2 A3.out).mono ?_);(case side1=>repeat (first|exact (Kd.vD HR0_0.out HB.out)|(with_reducible refine Kd.jK ?_ _)|(with_reducible refine Kd.jJ ?_ _)|(with_reducible refine Kd.jV ?_)));(case side2=>exact HC0_0.out);rintro e w6 ⟨rfl,hb⟩;refine ⟨_,rfl,?_⟩;have n0_:=qA.mk (zD (g:=gb105) (o:=.cells #[.slice A0_0 l0_0.length c0_0] 25 (0,0)) (by (with_reducible repeat (first|refine qF ?_ _|refine qI ?_|refine qE ?_ _));exact BK105.out) hb);have n1_:=qA.mk (qN (by repeat (first|(with_reducible first|exact HB.out|apply qH|apply qB|apply qG|refine qD ?_ GE105.out)|exact HB.out)) hb);clear BK105;clear HB;have BK105:=n0_;have HB:=n1_;clear n0_ n1_;(try clear hb);(try clear hb2);(try clear hk);(try clear hi)))
 go_ret
 exact ⟨by first|rfl|(simp [zK,zJ]<;>rfl)|(simp [*,zK,zJ]<;>rfl),by repeat (first|(with_reducible first|exact HB.out|apply qH|apply qB|apply qG|refine qD ?_ GE105.out)|exact HB.out)⟩
def vZ.f (a0 : Int) (a1 : Int) : Option (Bool):=(j5.f a0).bind fun t107=>(if t107 = true then (if a1 ≥ 0 then (if a1 < 10 then (if 0 ≤ a1 then (some ((Go.bits .and .i64 a0 (shl .i64 1 a1)) != 0)) else (none)) else (some false)) else (some false)) else (some false))
set_option maxHeartbeats 8000000 in
set_option maxRecDepth 100000 in
theorem vZ.calls (a0 : Int) (a1 : Int) (r : Bool) (w : World) (h : vZ.f a0 a1 = some r) :
  Calls Try.prog 42 #[.int .i64 a0,.int .i64 a1] w fun e w'=>e = .returned (.bool r)∧vF w w':=by
 have H : ((j5.f a0).bind fun t107=>(if t107 = true then (if a1 ≥ 0 then (if a1 < 10 then (if 0 ≤ a1 then (some ((Go.bits .and .i64 a0 (shl .i64 1 a1)) != 0)) else (none)) else (some false)) else (some false)) else (some false))) = some r:=h
 clear h
 replace H:=Option.bind_eq_some_iff.mp H
 obtain ⟨t107,A30,H⟩:=H
 replace H : (if t107 = true then (if a1 ≥ 0 then (if a1 < 10 then (if 0 ≤ a1 then (some ((Go.bits .and .i64 a0 (shl .i64 1 a1)) != 0)) else (none)) else (some false)) else (some false)) else (some false)) = some r:=H
 have A3:=qA.mk A30
 clear A30
 by_cases c4 : t107 = true
 ·subst c4
  have H1 : (if a1 ≥ 0 then (if a1 < 10 then (if 0 ≤ a1 then (some ((Go.bits .and .i64 a0 (shl .i64 1 a1)) != 0)) else (none)) else (some false)) else (some false)) = some r:=by rw [if_pos rfl] at H;exact H
  clear H
  have H:=H1
  clear H1
  by_cases c5 : a1 ≥ 0
  ·rw [if_pos c5] at H
   have c5b0 : decide (0 ≤ a1) = true:=decide_eq_true c5
   clear c5
   by_cases c6 : a1 < 10
   ·rw [if_pos c6] at H
    have c6b0 : decide (a1 < 10) = true:=decide_eq_true c6
    clear c6
    by_cases c7 : 0 ≤ a1
    ·rw [if_pos c7] at H
     have c7b0:=eq_true c7
     have c7b1 : decide (0 ≤ a1) = true:=decide_eq_true c7
     clear c7
     obtain ⟨ji8,hji8⟩ : ∃ j_ : Int,(shl .i64 1 a1) = j_:=⟨_,rfl⟩
     replace H : (some ((Go.bits .and .i64 a0 (ji8)) != 0)) = some r:=by first|(rw [hji8] at H;exact H)|(simp only [hji8] at H ⊢;exact H)
     (try rw [hji8] at A3)
     have hji8_ : (IntKind.i64.wrap (1 * 2 ^ min a1.toNat 64)) = ji8:=hji8
     have hji8z : a1 ≤ 64→(IntKind.i64.wrap (1 * 2 ^ a1.toNat)) = ji8:=shl_small hji8
     have hji8u : (IntKind.i64.wrap (2 ^ min a1.toNat 64)) = ji8:=by have h_:=hji8_;rw [Int.one_mul] at h_;exact h_
     have hji8v : a1 ≤ 64→(IntKind.i64.wrap (2 ^ a1.toNat)) = ji8:=fun hle_=>by have h_:=hji8z hle_;rw [Int.one_mul] at h_;exact h_
     have hji8y : (wrap64 (1 * 2 ^ min a1.toNat 64)) = ji8:=(zT _).symm.trans hji8_
     have hji8x : a1 ≤ 64→(wrap64 (1 * 2 ^ a1.toNat)) = ji8:=fun h_=>(zT _).symm.trans (hji8z h_)
     obtain rfl:=Option.some.inj H
     go_enter Try.func42,Try.ntmps42
     go_wp2_with (first|((with_reducible refine q8 (f:=37) rfl ?_);refine jB (some 6) rfl rfl Try.func37 (by kernel_rfl) rfl #[.int .i64 a0] rfl (by (try simp only [List.map_toArray,List.map_cons,List.map_nil]);first|done|rfl|(simp only [List.length_drop,List.length_take];rfl)|(simp only [List.length_nil,Int.natCast_zero,Int.zero_add,Int.ofNat_zero];rfl)) ?_;(with_reducible refine (j5.calls a0 true _ A3.out).mono ?_);rintro e w' ⟨rfl,⟨nd,rfl⟩⟩;refine ⟨_,rfl,?_⟩))
     go_ret
     exact ⟨by first|rfl|(simp;done)|(simp only [← hji8]<;>(first|rfl|simp))|(simp [*];done),by repeat (first|exact vF.refl _|apply vF.step)⟩
    ·rw [if_neg c7] at H
     exact absurd H (by simp)
   ·rw [if_neg c6] at H
    have c6b0 : decide (a1 < 10) = false:=decide_eq_false c6
    clear c6
    obtain rfl:=Option.some.inj H
    go_enter Try.func42,Try.ntmps42
    go_wp2_with (first|((with_reducible refine q8 (f:=37) rfl ?_);refine jB (some 6) rfl rfl Try.func37 (by kernel_rfl) rfl #[.int .i64 a0] rfl (by (try simp only [List.map_toArray,List.map_cons,List.map_nil]);first|done|rfl|(simp only [List.length_drop,List.length_take];rfl)|(simp only [List.length_nil,Int.natCast_zero,Int.zero_add,Int.ofNat_zero];rfl)) ?_;(with_reducible refine (j5.calls a0 true _ A3.out).mono ?_);rintro e w' ⟨rfl,⟨nd,rfl⟩⟩;refine ⟨_,rfl,?_⟩))
    go_ret
    exact ⟨by first|rfl|(simp;done)|(simp [*];done),by repeat (first|exact vF.refl _|apply vF.step)⟩
  ·rw [if_neg c5] at H
   have c5b0 : decide (0 ≤ a1) = false:=decide_eq_false c5
   clear c5
   obtain rfl:=Option.some.inj H
   go_enter Try.func42,Try.ntmps42
   go_wp2_with (first|((with_reducible refine q8 (f:=37) rfl ?_);refine jB (some 6) rfl rfl Try.func37 (by kernel_rfl) rfl #[.int .i64 a0] rfl (by (try simp only [List.map_toArray,List.map_cons,List.map_nil]);first|done|rfl|(simp only [List.length_drop,List.length_take];rfl)|(simp only [List.length_nil,Int.natCast_zero,Int.zero_add,Int.ofNat_zero];rfl)) ?_;(with_reducible refine (j5.calls a0 true _ A3.out).mono ?_);rintro e w' ⟨rfl,⟨nd,rfl⟩⟩;refine ⟨_,rfl,?_⟩))
   go_ret
   exact ⟨by first|rfl|(simp;done)|(simp [*];done),by repeat (first|exact vF.refl _|apply vF.step)⟩
 ·replace c4:=Bool.eq_false_iff.mpr c4
  subst c4
  have H1 : (some false) = some r:=by rw [if_neg (show ¬ (false = true) by decide)] at H;exact H
  clear H
  have H:=H1
  clear H1
  obtain rfl:=Option.some.inj H
  go_enter Try.func42,Try.ntmps42
  go_wp2_with (first|((with_reducible refine q8 (f:=37) rfl ?_);refine jB (some 6) rfl rfl Try.func37 (by kernel_rfl) rfl #[.int .i64 a0] rfl (by (try simp only [List.map_toArray,List.map_cons,List.map_nil]);first|done|rfl|(simp only [List.length_drop,List.length_take];rfl)|(simp only [List.length_nil,Int.natCast_zero,Int.zero_add,Int.ofNat_zero];rfl)) ?_;(with_reducible refine (j5.calls a0 false _ A3.out).mono ?_);rintro e w' ⟨rfl,⟨nd,rfl⟩⟩;refine ⟨_,rfl,?_⟩))
  go_ret
  exact ⟨by first|rfl|(simp;done)|(simp [*];done),by repeat (first|exact vF.refl _|apply vF.step)⟩
mutual
def zB.l0 : Nat→Int→Int→List Int→Int→Int→Int→List Int→List (S49)→Option (Bool)
 | 0,_,_,_,_,_,_,_,_=>none
 | k + 1,x1,x5,x14,x15,x16,x109000,x109001,x109002=>if x16 < x15 then (if 0 ≤ x16 then (if x16 < (x14.length : Int) then ((vZ.f x1 (rd x14 x16)).bind fun t111=>(if t111 = true then (zB.l0 k x1 (wrap64 (x5 + 1)) x14 x15 (wrap64 (x16 + 1)) x109000 x109001 x109002) else (zB.l0 k x1 x5 x14 x15 (wrap64 (x16 + 1)) x109000 x109001 x109002))) else (none)) else (none)) else (zB.l1 k x1 x5 x109002 (x109002.length : Int) 0 x109000 x109001 x109002)
def zB.l1 : Nat→Int→Int→List (S49)→Int→Int→Int→List Int→List (S49)→Option (Bool)
 | 0,_,_,_,_,_,_,_,_=>none
 | k + 1,x1,x5,x27,x28,x29,x109000,x109001,x109002=>if x29 < x28 then (if 0 ≤ x29 then (if x29 < (x27.length : Int) then ((zB.f k ((jI x27 x29).f0) ((jI x27 x29).f1) ((jI x27 x29).f2) x1).bind fun t114=>(if t114 = true then (zB.l1 k x1 (wrap64 (x5 + 1)) x27 x28 (wrap64 (x29 + 1)) x109000 x109001 x109002) else (zB.l1 k x1 x5 x27 x28 (wrap64 (x29 + 1)) x109000 x109001 x109002))) else (none)) else (none)) else (some (decide (x5 ≥ x109000)))
def zB.f : Nat→Int→List Int→List (S49)→Int→Option (Bool)
 | 0,_,_,_,_=>none
 | k + 1,a0_0,l0_1,l0_2,a1=>(j5.f a1).bind fun t109=>(if t109 = true then (zB.l0 k a1 0 l0_1 (l0_1.length : Int) 0 a0_0 l0_1 l0_2) else (some false))
end
theorem zB.mono_l : ∀ k,(∀ y0 y1 y2 y3,LeO (zB.f k y0 y1 y2 y3) (zB.f (k + 1) y0 y1 y2 y3))∧(∀ y0 y1 y2 y3 y4 y5 y6 y7,LeO (zB.l0 k y0 y1 y2 y3 y4 y5 y6 y7) (zB.l0 (k + 1) y0 y1 y2 y3 y4 y5 y6 y7))∧(∀ y0 y1 y2 y3 y4 y5 y6 y7,LeO (zB.l1 k y0 y1 y2 y3 y4 y5 y6 y7) (zB.l1 (k + 1) y0 y1 y2 y3 y4 y5 y6 y7))
 | 0=>⟨fun _ _ _ _ r h=>by simp [zB.f] at h,fun _ _ _ _ _ _ _ _ r h=>by simp [zB.l0] at h,fun _ _ _ _ _ _ _ _ r h=>by simp [zB.l1] at h⟩
 | k + 1=>by
  obtain ⟨ih0,ih1,ih2⟩:=zB.mono_l k
  refine ⟨?_,?_,?_⟩
  ·intro y0 y1 y2 y3
   unfold zB.f
   repeat' first
   | (with_reducible exact ih0 _ _ _ _)
   | (with_reducible exact ih1 _ _ _ _ _ _ _ _)
   | (with_reducible exact ih2 _ _ _ _ _ _ _ _)
   | (with_reducible exact LeO.refl _)
   | (with_reducible exact LeO.none _)
   | (with_reducible refine LeO.ite ?_ ?_)
   | (with_reducible refine LeO.bind ?_ (fun _=>?_))
   | exact ih0 _ _ _ _
   | exact ih1 _ _ _ _ _ _ _ _
   | exact ih2 _ _ _ _ _ _ _ _
   | exact LeO.none _
   | refine LeO.ite ?_ ?_
   | refine LeO.bind ?_ (fun _=>?_)
  ·intro y0 y1 y2 y3 y4 y5 y6 y7
   unfold zB.l0
   repeat' first
   | (with_reducible exact ih0 _ _ _ _)
   | (with_reducible exact ih1 _ _ _ _ _ _ _ _)
   | (with_reducible exact ih2 _ _ _ _ _ _ _ _)
   | (with_reducible exact LeO.refl _)
   | (with_reducible exact LeO.none _)
   | (with_reducible refine LeO.ite ?_ ?_)
   | (with_reducible refine LeO.bind ?_ (fun _=>?_))
   | exact ih0 _ _ _ _
   | exact ih1 _ _ _ _ _ _ _ _
   | exact ih2 _ _ _ _ _ _ _ _
   | exact LeO.none _
   | refine LeO.ite ?_ ?_
   | refine LeO.bind ?_ (fun _=>?_)
  ·intro y0 y1 y2 y3 y4 y5 y6 y7
   unfold zB.l1
   repeat' first
   | (with_reducible exact ih0 _ _ _ _)
   | (with_reducible exact ih1 _ _ _ _ _ _ _ _)
   | (with_reducible exact ih2 _ _ _ _ _ _ _ _)
   | (with_reducible exact LeO.refl _)
   | (with_reducible exact LeO.none _)
   | (with_reducible refine LeO.ite ?_ ?_)
   | (with_reducible refine LeO.bind ?_ (fun _=>?_))
   | exact ih0 _ _ _ _
   | exact ih1 _ _ _ _ _ _ _ _
   | exact ih2 _ _ _ _ _ _ _ _
   | exact LeO.none _
   | refine LeO.ite ?_ ?_
   | refine LeO.bind ?_ (fun _=>?_)
theorem zB.mono : ∀ a0 a1 a2 a3 k,LeO (zB.f k a0 a1 a2 a3) (zB.f (k + 1) a0 a1 a2 a3):=by
 intro a0 a1 a2 a3 k
 obtain ⟨ih0,ih1,ih2⟩:=zB.mono_l k
 exact ih0 a0 a1 a2 a3
set_option maxHeartbeats 8000000 in
set_option maxRecDepth 100000 in
theorem zB.calls (k : Nat) : ∀ (a0_0 : Int) (A0_1 : Option Addr) (c0_1 : Nat) (l0_1 : List Int) (A0_2 : Option Addr) (c0_2 : Nat) (l0_2 : List (S49)) (a1 : Int) (r : Bool) (w : World) (hr0_1 : Kd.C (Kd.int .i64) w A0_1 l0_1.length l0_1) (hc0_1 : l0_1.length ≤ c0_1) (hr0_2 : Kd.C k49 w A0_2 l0_2.length l0_2) (hc0_2 : l0_2.length ≤ c0_2) (h : zB.f k a0_0 l0_1 l0_2 a1 = some r),
  Calls Try.prog 49 #[.agg #[.int .i64 a0_0,.slice A0_1 l0_1.length c0_1,.slice A0_2 l0_2.length c0_2],.int .i64 a1] w fun e w'=>e = .returned (.bool r)∧Below w.heap.size w w':=by
 induction k using Nat.strongRecOn with
 | _ k ih =>
 intro a0_0 A0_1 c0_1 l0_1 A0_2 c0_2 l0_2 a1 r w hr0_1 hc0_1 hr0_2 hc0_2 h
 cases k with
 | zero=>exact absurd h (by simp [zB.f])
 | succ k =>
 simp only [zB.f] at h
 have hu49:=Try.underlying49
 have HR0_1:=qA.mk hr0_1
 have HC0_1:=qA.mk hc0_1
 clear hr0_1 hc0_1
 have HR0_2:=qA.mk hr0_2
 have HC0_2:=qA.mk hc0_2
 clear hr0_2 hc0_2
 have HB:=qA.mk (Below.refl w.heap.size w)
 have H : ((j5.f a1).bind fun t109=>(if t109 = true then (zB.l0 k a1 0 l0_1 (l0_1.length : Int) 0 a0_0 l0_1 l0_2) else (some false))) = some r:=h
 clear h
 replace H:=Option.bind_eq_some_iff.mp H
 obtain ⟨t109,A30,H⟩:=H
 replace H : (if t109 = true then (zB.l0 k a1 0 l0_1 (l0_1.length : Int) 0 a0_0 l0_1 l0_2) else (some false)) = some r:=H
 have A3:=qA.mk A30
 clear A30
 by_cases c4 : t109 = true
 ·subst c4
  have H1 : (zB.l0 k a1 0 l0_1 (l0_1.length : Int) 0 a0_0 l0_1 l0_2) = some r:=by rw [if_pos rfl] at H;exact H
  clear H
  have H:=H1
  clear H1
  have H':=qA.mk H
  clear H
  go_enter Try.func49,Try.ntmps49
  go_wp2_with (first|((with_reducible refine jH (N:=2) rfl ?_);refine jL ?hg (N:=2) ?hd (cs:=#[.int .i64 a0_0,.slice A0_1 l0_1.length c0_1,.slice A0_2 l0_2.length c0_2]) (t:=49) ?hr ?_;(case hd=>rfl);(case hg=>rfl);(case hr=>first|(go_simp;done)|(go_simp;rfl));intro gb108 hg w5 hbox hb;have n0_:=qA.mk (qN (by repeat (first|(with_reducible first|exact HB.out|apply qH|apply qB|apply qG)|exact HB.out)) hb);have n1_:=qA.mk (hbox);have n2_:=qA.mk ((by rw [hg];exact (qQ (by repeat (first|(with_reducible first|exact HB.out|apply qH|apply qB|apply qG)|exact HB.out))) : w.heap.size ≤ gb108));have n3_:=qA.mk ((by rw [hg];exact (qQ (by repeat (first|(with_reducible first|exact HB.out|apply qH|apply qB|apply qG)|exact HB.out))) : w.heap.size ≤ gb108));clear HB;have HB:=n0_;have BK108:=n1_;have GW108:=n2_;have GE108:=n3_;clear n0_ n1_ n2_ n3_;clear hb hbox hg)|((with_reducible refine q8 (f:=37) rfl ?_);refine jB (some 11) rfl rfl Try.func37 (by kernel_rfl) rfl #[.int .i64 a1] rfl (by (try simp only [List.map_toArray,List.map_cons,List.map_nil]);first|done|rfl|(simp only [List.length_drop,List.length_take];rfl)|(simp only [List.length_nil,Int.natCast_zero,Int.zero_add,Int.ofNat_zero];rfl)) ?_;(with_reducible refine (j5.calls a1 true _ A3.out).mono ?_);rintro e w' ⟨rfl,⟨nd,rfl⟩⟩;refine ⟨_,rfl,?_⟩;have hcz6_0 : w5.cell? ⟨gb108,0,none⟩ = some (.int .i64 a0_0):=(qK BK108.out 0).trans rfl;have hcz6_1 : w5.cell? ⟨gb108,1,none⟩ = some (.slice A0_1 l0_1.length c0_1):=(qK BK108.out 1).trans rfl;have hcz6_2 : w5.cell? ⟨gb108,2,none⟩ = some (.slice A0_2 l0_2.length c0_2):=(qK BK108.out 2).trans rfl;have hfz6_0:=qJ BK108.out 0;have hfz6_1:=qJ BK108.out 1;have hfz6_2:=qJ BK108.out 2))
  go_loopg [5,16] k (fun kq v5 v16 w'=>∃ (x5_1 : Int) (x16_1 : Int),v5 = .int .i64 x5_1∧v16 = .int .i64 x16_1∧qA (zB.l0 kq a1 x5_1 l0_1 (l0_1.length : Int) x16_1 a0_0 l0_1 l0_2 = some r)∧qA (kq ≤ k)∧qA (w'.heap[gb108]? = some (.cells #[.int .i64 a0_0,(.slice A0_1 l0_1.length c0_1),(.slice A0_2 l0_2.length c0_2)] 49 (0,0)))∧qA (Below w.heap.size w w'))
  case atStart=>exact ⟨(0),(0),(by first|rfl|(simp;done)|(simp [*];done)),(by first|rfl|(simp;done)|(simp [*];done)),H',⟨Nat.le_refl _⟩,⟨by (with_reducible repeat (first|refine qF ?_ _|refine qI ?_|refine qE ?_ _));exact BK108.out⟩,⟨by repeat (first|(with_reducible first|exact HB.out|apply qH|apply qB|apply qG|refine qD ?_ GE108.out)|exact HB.out)⟩⟩
  case round =>
   clear H'
   try clear p2
   try clear c3
   try clear c4
   try clear hcz6_0
   try clear hcz6_1
   try clear hcz6_2
   try clear hfz6_0
   try clear hfz6_1
   try clear hfz6_2
   obtain ⟨x5_1,x16_1,rfl,rfl,HA,HK1,BK108,HB⟩:=hrel
   cases gk with
   | zero=>exact absurd HA.out (by simp [zB.l0])
   | succ k1 =>
    have H:=HA.out
    clear HA
    simp only [zB.l0] at H
    by_cases c7 : x16_1 < (l0_1.length : Int)
    ·rw [if_pos c7] at H
     have c7b0 : decide (x16_1 < (l0_1.length : Int)) = true:=decide_eq_true c7
     clear c7
     by_cases c8 : 0 ≤ x16_1
     ·rw [if_pos c8] at H
      have c8b0 : decide (0 ≤ x16_1) = true:=decide_eq_true c8
      clear c8
      by_cases c9 : x16_1 < (l0_1.length : Int)
      ·rw [if_pos c9] at H
       have c9b0 : decide (x16_1 < (l0_1.length : Int)) = true:=decide_eq_true c9
       clear c9
       replace H:=Option.bind_eq_some_iff.mp H
       obtain ⟨t111,A100,H⟩:=H
       replace H : (if t111 = true then (zB.l0 k1 a1 (wrap64 (x5_1 + 1)) l0_1 (l0_1.length : Int) (wrap64 (x16_1 + 1)) a0_0 l0_1 l0_2) else (zB.l0 k1 a1 x5_1 l0_1 (l0_1.length : Int) (wrap64 (x16_1 + 1)) a0_0 l0_1 l0_2)) = some r:=H
       have A10:=qA.mk A100
       clear A100
       by_cases c11 : t111 = true
       ·subst c11
        have H1 : (zB.l0 k1 a1 (wrap64 (x5_1 + 1)) l0_1 (l0_1.length : Int) (wrap64 (x16_1 + 1)) a0_0 l0_1 l0_2) = some r:=by rw [if_pos rfl] at H;exact H
        clear H
        have H:=H1
        clear H1
        have H':=qA.mk H
        clear H
        have p110 : 0 ≤ (x16_1 : Int):=of_decide_eq_true (by first|(with_reducible assumption)|assumption)
        have q110 : x16_1 < (l0_1.length : Int):=of_decide_eq_true (by first|(with_reducible assumption)|assumption)
        obtain ⟨ad110,e110,hx110_0⟩:=Kd.uP HR0_1.out x16_1 p110 q110
        cases e110
        replace hx110_0:=(HB.out.cell (World.block_lt_of_cell? w _ hx110_0)).trans hx110_0
        replace p110:=eq_true p110
        replace q110:=eq_true q110
        go_wp2_with (first|((with_reducible refine q8 (f:=42) rfl ?_);refine jB (some 22) rfl rfl Try.func42 (by kernel_rfl) rfl #[.int .i64 a1,.int .i64 (rd l0_1 x16_1)] rfl (by (try simp only [List.map_toArray,List.map_cons,List.map_nil]);first|done|rfl|(simp only [List.length_drop,List.length_take];rfl)|(simp only [List.length_nil,Int.natCast_zero,Int.zero_add,Int.ofNat_zero];rfl)) ?_;(with_reducible refine (vZ.calls a1 (rd l0_1 x16_1) true _ A10.out).mono ?_);rintro e w' ⟨rfl,⟨nd,rfl⟩⟩;refine ⟨_,rfl,?_⟩))
        go_roundg k1
        case measure=>have:=HK1.out;omega
        case rel=>exact ⟨(wrap64 (x5_1 + 1)),(wrap64 (x16_1 + 1)),(by first|rfl|(simp;done)|(simp [*];done)),(by first|rfl|(simp;done)|(simp [*];done)),H',⟨by have:=HK1.out;omega⟩,⟨by (with_reducible repeat (first|refine qF ?_ _|refine qI ?_|refine qE ?_ _));exact BK108.out⟩,⟨by repeat (first|(with_reducible first|exact HB.out|apply qH|apply qB|apply qG|refine qD ?_ GE108.out)|exact HB.out)⟩⟩
       ·replace c11:=Bool.eq_false_iff.mpr c11
        subst c11
        have H1 : (zB.l0 k1 a1 x5_1 l0_1 (l0_1.length : Int) (wrap64 (x16_1 + 1)) a0_0 l0_1 l0_2) = some r:=by rw [if_neg (show ¬ (false = true) by decide)] at H;exact H
        clear H
        have H:=H1
        clear H1
        have H':=qA.mk H
        clear H
        have p110 : 0 ≤ (x16_1 : Int):=of_decide_eq_true (by first|(with_reducible assumption)|assumption)
        have q110 : x16_1 < (l0_1.length : Int):=of_decide_eq_true (by first|(with_reducible assumption)|assumption)
        obtain ⟨ad110,e110,hx110_0⟩:=Kd.uP HR0_1.out x16_1 p110 q110
        cases e110
        replace hx110_0:=(HB.out.cell (World.block_lt_of_cell? w _ hx110_0)).trans hx110_0
        replace p110:=eq_true p110
        replace q110:=eq_true q110
        go_wp2_with (first|((with_reducible refine q8 (f:=42) rfl ?_);refine jB (some 22) rfl rfl Try.func42 (by kernel_rfl) rfl #[.int .i64 a1,.int .i64 (rd l0_1 x16_1)] rfl (by (try simp only [List.map_toArray,List.map_cons,List.map_nil]);first|done|rfl|(simp only [List.length_drop,List.length_take];rfl)|(simp only [List.length_nil,Int.natCast_zero,Int.zero_add,Int.ofNat_zero];rfl)) ?_;(with_reducible refine (vZ.calls a1 (rd l0_1 x16_1) false _ A10.out).mono ?_);rintro e w' ⟨rfl,⟨nd,rfl⟩⟩;refine ⟨_,rfl,?_⟩))
        go_roundg k1
        case measure=>have:=HK1.out;omega
        case rel=>exact ⟨(x5_1),(wrap64 (x16_1 + 1)),(by first|rfl|(simp;done)|(simp [*];done)),(by first|rfl|(simp;done)|(simp [*];done)),H',⟨by have:=HK1.out;omega⟩,⟨by (with_reducible repeat (first|refine qF ?_ _|refine qI ?_|refine qE ?_ _));exact BK108.out⟩,⟨by repeat (first|(with_reducible first|exact HB.out|apply qH|apply qB|apply qG|refine qD ?_ GE108.out)|exact HB.out)⟩⟩
      ·rw [if_neg c9] at H
       exact absurd H (by simp)
     ·rw [if_neg c8] at H
      exact absurd H (by simp)
    ·rw [if_neg c7] at H
     have c7b0 : decide (x16_1 < (l0_1.length : Int)) = false:=decide_eq_false c7
     clear c7
     have H':=qA.mk H
     clear H
     have hcz12_0 : wr.cell? ⟨gb108,0,none⟩ = some (.int .i64 a0_0):=(qK BK108.out 0).trans rfl
     have hcz12_1 : wr.cell? ⟨gb108,1,none⟩ = some (.slice A0_1 l0_1.length c0_1):=(qK BK108.out 1).trans rfl
     have hcz12_2 : wr.cell? ⟨gb108,2,none⟩ = some (.slice A0_2 l0_2.length c0_2):=(qK BK108.out 2).trans rfl
     have hfz12_0:=qJ BK108.out 0
     have hfz12_1:=qJ BK108.out 1
     have hfz12_2:=qJ BK108.out 2
     go_wp2
     go_loopg [5,29] k1 (fun kq v5 v29 w'=>∃ (x5_2 : Int) (x29_2 : Int),v5 = .int .i64 x5_2∧v29 = .int .i64 x29_2∧qA (zB.l1 kq a1 x5_2 l0_2 (l0_2.length : Int) x29_2 a0_0 l0_1 l0_2 = some r)∧qA (kq ≤ k1)∧qA (w'.heap[gb108]? = some (.cells #[.int .i64 a0_0,(.slice A0_1 l0_1.length c0_1),(.slice A0_2 l0_2.length c0_2)] 49 (0,0)))∧qA (Below w.heap.size w w'))
     case atStart=>exact ⟨(x5_1),(0),(by first|rfl|(simp;done)|(simp [*];done)),(by first|rfl|(simp;done)|(simp [*];done)),H',⟨Nat.le_refl _⟩,⟨by (with_reducible repeat (first|refine qF ?_ _|refine qI ?_|refine qE ?_ _));exact BK108.out⟩,⟨by repeat (first|(with_reducible first|exact HB.out|apply qH|apply qB|apply qG|refine qD ?_ GE108.out)|exact HB.out)⟩⟩
     case round =>
      clear H'
      try clear c1
      try clear p1
      try clear q1
      try clear hx1
      try clear p2
      try clear c3
      try clear c4
      try clear p6
      try clear c7
      try clear c7b0
      try clear c8
      try clear c8b0
      try clear c9
      try clear c9b0
      try clear c11
      try clear p11
      try clear q11
      try clear hx11
      try clear hcz12_0
      try clear hcz12_1
      try clear hcz12_2
      try clear hcz6_0
      try clear hcz6_1
      try clear hcz6_2
      try clear hfz12_0
      try clear hfz12_1
      try clear hfz12_2
      try clear hfz6_0
      try clear hfz6_1
      try clear hfz6_2
      try clear hx110_0
      try clear p110
      try clear p2
      try clear q110
      obtain ⟨x5_2,x29_2,rfl,rfl,HA,HK2,BK108,HB⟩:=hrel
      cases gk with
      | zero=>exact absurd HA.out (by simp [zB.l1])
      | succ k2 =>
       have H:=HA.out
       clear HA
       simp only [zB.l1] at H
       by_cases c13 : x29_2 < (l0_2.length : Int)
       ·rw [if_pos c13] at H
        have c13b0 : decide (x29_2 < (l0_2.length : Int)) = true:=decide_eq_true c13
        clear c13
        by_cases c14 : 0 ≤ x29_2
        ·rw [if_pos c14] at H
         have c14b0 : decide (0 ≤ x29_2) = true:=decide_eq_true c14
         clear c14
         by_cases c15 : x29_2 < (l0_2.length : Int)
         ·rw [if_pos c15] at H
          have c15b0 : decide (x29_2 < (l0_2.length : Int)) = true:=decide_eq_true c15
          clear c15
          replace H:=Option.bind_eq_some_iff.mp H
          obtain ⟨t114,A160,H⟩:=H
          replace H : (if t114 = true then (zB.l1 k2 a1 (wrap64 (x5_2 + 1)) l0_2 (l0_2.length : Int) (wrap64 (x29_2 + 1)) a0_0 l0_1 l0_2) else (zB.l1 k2 a1 x5_2 l0_2 (l0_2.length : Int) (wrap64 (x29_2 + 1)) a0_0 l0_1 l0_2)) = some r:=H
          have A16:=qA.mk A160
          clear A160
          by_cases c17 : t114 = true
          ·subst c17
           have H1 : (zB.l1 k2 a1 (wrap64 (x5_2 + 1)) l0_2 (l0_2.length : Int) (wrap64 (x29_2 + 1)) a0_0 l0_1 l0_2) = some r:=by rw [if_pos rfl] at H;exact H
           clear H
           have H:=H1
           clear H1
           have H':=qA.mk H
           clear H
           have p112 : 0 ≤ (x29_2 : Int):=of_decide_eq_true (by first|(with_reducible assumption)|assumption)
           have q112 : x29_2 < (l0_2.length : Int):=of_decide_eq_true (by first|(with_reducible assumption)|assumption)
           obtain ⟨ad112,A112_1,c112_1,A112_2,c112_2,e112,hx112_0,hx112_1,hx112_2,hl112_1,hi112_1,hl112_2,hi112_2⟩:=at_T49 HR0_2.out x29_2 p112 q112
           cases e112
           replace hx112_0:=(HB.out.cell (World.block_lt_of_cell? w _ hx112_0)).trans hx112_0
           replace hx112_1:=(HB.out.cell (World.block_lt_of_cell? w _ hx112_1)).trans hx112_1
           replace hx112_2:=(HB.out.cell (World.block_lt_of_cell? w _ hx112_2)).trans hx112_2
           have HR112_1:=qA.mk hi112_1
           have HC112_1:=qA.mk hl112_1
           clear hi112_1 hl112_1
           have HR112_2:=qA.mk hi112_2
           have HC112_2:=qA.mk hl112_2
           clear hi112_2 hl112_2
           replace p112:=eq_true p112
           replace q112:=eq_true q112
           go_wp2_with (first|((with_reducible refine jH (N:=9) rfl ?_);refine jL ?hg (N:=9) ?hd (cs:=#[.int .i64 0,.slice none 0 0,.slice none 0 0]) (t:=49) ?hr ?_;(case hd=>rfl);(case hg=>rfl);(case hr=>first|(go_simp;done)|(go_simp;rfl));intro gb113 hg w18 hbox hb;have n0_:=qA.mk (zD (g:=gb108) (o:=.cells #[.int .i64 a0_0,.slice A0_1 l0_1.length c0_1,.slice (some ad112) l0_2.length c0_2] 49 (0,0)) (by (with_reducible repeat (first|refine qF ?_ _|refine qI ?_|refine qE ?_ _));exact BK108.out) hb);have n1_:=qA.mk (qN (by repeat (first|(with_reducible first|exact HB.out|apply qH|apply qB|apply qG|refine qD ?_ GE108.out)|exact HB.out)) hb);have n2_:=qA.mk (hbox);have n3_:=qA.mk ((by rw [hg];exact (qQ (by repeat (first|(with_reducible first|exact HB.out|apply qH|apply qB|apply qG|refine qD ?_ GE108.out)|exact HB.out))) : w.heap.size ≤ gb113));have n4_:=qA.mk ((by rw [hg];exact (qQ (by repeat (first|(with_reducible first|exact HB.out|apply qH|apply qB|apply qG|refine qD ?_ GE108.out)|exact HB.out))) : w.heap.size ≤ gb113));have n5_:=qA.mk ((by rw [hg];exact Nat.ne_of_lt (jR (g:=gb108) (o:=.cells #[.int .i64 a0_0,.slice A0_1 l0_1.length c0_1,.slice (some ad112) l0_2.length c0_2] 49 (0,0)) (by (with_reducible repeat (first|refine qF ?_ _|refine qI ?_|refine qE ?_ _));exact BK108.out)) : gb108≠gb113));have n6_:=qA.mk ((by rw [hg];exact Nat.ne_of_gt (jR (g:=gb108) (o:=.cells #[.int .i64 a0_0,.slice A0_1 l0_1.length c0_1,.slice (some ad112) l0_2.length c0_2] 49 (0,0)) (by (with_reducible repeat (first|refine qF ?_ _|refine qI ?_|refine qE ?_ _));exact BK108.out)) : gb113≠gb108));clear BK108;clear HB;have BK108:=n0_;have HB:=n1_;have BK113:=n2_;have GW113:=n3_;have GE113:=n4_;have NB108_113:=n5_;have NB113_108:=n6_;clear n0_ n1_ n2_ n3_ n4_ n5_ n6_;clear hb hbox hg;have hnb19:=NB113_108.out;have hnc19:=NB108_113.out;have hcz20_0 : w18.cell? ⟨gb113,0,none⟩ = some (.int .i64 0):=(qK BK113.out 0).trans rfl;have hcz20_1 : w18.cell? ⟨gb113,1,none⟩ = some (.slice none 0 0):=(qK BK113.out 1).trans rfl;have hcz20_2 : w18.cell? ⟨gb113,2,none⟩ = some (.slice none 0 0):=(qK BK113.out 2).trans rfl;have hfz20_0:=qJ BK113.out 0;have hfz20_1:=qJ BK113.out 1;have hfz20_2:=qJ BK113.out 2)|((with_reducible refine q8 (f:=49) rfl ?_);refine jB (some 35) rfl rfl Try.func49 (by kernel_rfl) rfl #[.agg #[.int .i64 ((jI l0_2 x29_2).f0),.slice A112_1 ((jI l0_2 x29_2).f1).length c112_1,.slice A112_2 ((jI l0_2 x29_2).f2).length c112_2],.int .i64 a1] rfl (by (try simp only [List.map_toArray,List.map_cons,List.map_nil]);first|done|rfl|(simp only [List.length_drop,List.length_take];rfl)|(simp only [List.length_nil,Int.natCast_zero,Int.zero_add,Int.ofNat_zero];rfl)) ?_;(with_reducible refine (ih k2 (by have:=HK1.out;have:=HK2.out;omega) ((jI l0_2 x29_2).f0) _ _ ((jI l0_2 x29_2).f1) _ _ ((jI l0_2 x29_2).f2) a1 true _ ?side1 ?side2 ?side3 ?side4 A16.out).mono ?_);(case side1=>exact Kd.vD HR112_1.out (by repeat (first|(with_reducible first|exact HB.out|apply qH|apply qB|apply qG|refine qD ?_ GE108.out|refine qD ?_ GE113.out)|exact HB.out)));(case side2=>exact HC112_1.out);(case side3=>exact Kd.vD HR112_2.out (by repeat (first|(with_reducible first|exact HB.out|apply qH|apply qB|apply qG|refine qD ?_ GE108.out|refine qD ?_ GE113.out)|exact HB.out)));(case side4=>exact HC112_2.out);rintro e w21 ⟨rfl,hb⟩;refine ⟨_,rfl,?_⟩;have n0_:=qA.mk (zD (g:=gb108) (o:=.cells #[.int .i64 a0_0,.slice A0_1 l0_1.length c0_1,.slice (some ad112) l0_2.length c0_2] 49 (0,0)) (by (with_reducible repeat (first|refine qF ?_ _|refine qI ?_|refine qE ?_ _));refine zU ?_ NB108_113.out _;(with_reducible repeat (first|refine qF ?_ _|refine qI ?_|refine qE ?_ _));refine zU ?_ NB108_113.out _;(with_reducible repeat (first|refine qF ?_ _|refine qI ?_|refine qE ?_ _));refine zU ?_ NB108_113.out _;(with_reducible repeat (first|refine qF ?_ _|refine qI ?_|refine qE ?_ _));exact BK108.out) hb);have n1_:=qA.mk (zD (g:=gb113) (o:=.cells #[.int .i64 ((jI l0_2 x29_2).f0),.slice A112_1 ((jI l0_2 x29_2).f1).length c112_1,.slice A112_2 ((jI l0_2 x29_2).f2).length c112_2] 49 (0,0)) (by (with_reducible repeat (first|refine qF ?_ _|refine qI ?_|refine qE ?_ _));refine zV (cs:=#[.int .i64 ((jI l0_2 x29_2).f0),.slice A112_1 ((jI l0_2 x29_2).f1).length c112_1,.slice none 0 0]) ?_ 2 _ rfl;(with_reducible repeat (first|refine qF ?_ _|refine qI ?_|refine qE ?_ _));refine zV (cs:=#[.int .i64 ((jI l0_2 x29_2).f0),.slice none 0 0,.slice none 0 0]) ?_ 1 _ rfl;(with_reducible repeat (first|refine qF ?_ _|refine qI ?_|refine qE ?_ _));refine zV (cs:=#[.int .i64 0,.slice none 0 0,.slice none 0 0]) ?_ 0 _ rfl;(with_reducible repeat (first|refine qF ?_ _|refine qI ?_|refine qE ?_ _));exact BK113.out) hb);have n2_:=qA.mk (qN (by repeat (first|(with_reducible first|exact HB.out|apply qH|apply qB|apply qG|refine qD ?_ GE108.out|refine qD ?_ GE113.out)|exact HB.out)) hb);clear BK108;clear BK113;clear HB;have BK108:=n0_;have BK113:=n1_;have HB:=n2_;clear n0_ n1_ n2_;(try clear hb);(try clear hb2);(try clear hk);(try clear hi)))
           go_roundg k2
           case measure=>have:=HK1.out;have:=HK2.out;omega
           case rel=>exact ⟨(wrap64 (x5_2 + 1)),(wrap64 (x29_2 + 1)),(by first|rfl|(simp;done)|(simp [*];done)),(by first|rfl|(simp;done)|(simp [*];done)),H',⟨by have:=HK1.out;have:=HK2.out;omega⟩,⟨by (with_reducible repeat (first|refine qF ?_ _|refine qI ?_|refine qE ?_ _));exact BK108.out⟩,⟨by repeat (first|(with_reducible first|exact HB.out|apply qH|apply qB|apply qG|refine qD ?_ GE108.out|refine qD ?_ GE113.out)|exact HB.out)⟩⟩
          ·replace c17:=Bool.eq_false_iff.mpr c17
           subst c17
           have H1 : (zB.l1 k2 a1 x5_2 l0_2 (l0_2.length : Int) (wrap64 (x29_2 + 1)) a0_0 l0_1 l0_2) = some r:=by rw [if_neg (show ¬ (false = true) by decide)] at H;exact H
           clear H
           have H:=H1
           clear H1
           have H':=qA.mk H
           clear H
           have p112 : 0 ≤ (x29_2 : Int):=of_decide_eq_true (by first|(with_reducible assumption)|assumption)
           have q112 : x29_2 < (l0_2.length : Int):=of_decide_eq_true (by first|(with_reducible assumption)|assumption)
           obtain ⟨ad112,A112_1,c112_1,A112_2,c112_2,e112,hx112_0,hx112_1,hx112_2,hl112_1,hi112_1,hl112_2,hi112_2⟩:=at_T49 HR0_2.out x29_2 p112 q112
           cases e112
           replace hx112_0:=(HB.out.cell (World.block_lt_of_cell? w _ hx112_0)).trans hx112_0
           replace hx112_1:=(HB.out.cell (World.block_lt_of_cell? w _ hx112_1)).trans hx112_1
           replace hx112_2:=(HB.out.cell (World.block_lt_of_cell? w _ hx112_2)).trans hx112_2
           have HR112_1:=qA.mk hi112_1
           have HC112_1:=qA.mk hl112_1
           clear hi112_1 hl112_1
           have HR112_2:=qA.mk hi112_2
           have HC112_2:=qA.mk hl112_2
           clear hi112_2 hl112_2
           replace p112:=eq_true p112
           replace q112:=eq_true q112
           go_wp2_with (first|((with_reducible refine jH (N:=9) rfl ?_);refine jL ?hg (N:=9) ?hd (cs:=#[.int .i64 0,.slice none 0 0,.slice none 0 0]) (t:=49) ?hr ?_;(case hd=>rfl);(case hg=>rfl);(case hr=>first|(go_simp;done)|(go_simp;rfl));intro gb113 hg w22 hbox hb;have n0_:=qA.mk (zD (g:=gb108) (o:=.cells #[.int .i64 a0_0,.slice A0_1 l0_1.length c0_1,.slice (some ad112) l0_2.length c0_2] 49 (0,0)) (by (with_reducible repeat (first|refine qF ?_ _|refine qI ?_|refine qE ?_ _));exact BK108.out) hb);have n1_:=qA.mk (qN (by repeat (first|(with_reducible first|exact HB.out|apply qH|apply qB|apply qG|refine qD ?_ GE108.out)|exact HB.out)) hb);have n2_:=qA.mk (hbox);have n3_:=qA.mk ((by rw [hg];exact (qQ (by repeat (first|(with_reducible first|exact HB.out|apply qH|apply qB|apply qG|refine qD ?_ GE108.out)|exact HB.out))) : w.heap.size ≤ gb113));have n4_:=qA.mk ((by rw [hg];exact (qQ (by repeat (first|(with_reducible first|exact HB.out|apply qH|apply qB|apply qG|refine qD ?_ GE108.out)|exact HB.out))) : w.heap.size ≤ gb113));have n5_:=qA.mk ((by rw [hg];exact Nat.ne_of_lt (jR (g:=gb108) (o:=.cells #[.int .i64 a0_0,.slice A0_1 l0_1.length c0_1,.slice (some ad112) l0_2.length c0_2] 49 (0,0)) (by (with_reducible repeat (first|refine qF ?_ _|refine qI ?_|refine qE ?_ _));exact BK108.out)) : gb108≠gb113));have n6_:=qA.mk ((by rw [hg];exact Nat.ne_of_gt (jR (g:=gb108) (o:=.cells #[.int .i64 a0_0,.slice A0_1 l0_1.length c0_1,.slice (some ad112) l0_2.length c0_2] 49 (0,0)) (by (with_reducible repeat (first|refine qF ?_ _|refine qI ?_|refine qE ?_ _));exact BK108.out)) : gb113≠gb108));clear BK108;clear HB;have BK108:=n0_;have HB:=n1_;have BK113:=n2_;have GW113:=n3_;have GE113:=n4_;have NB108_113:=n5_;have NB113_108:=n6_;clear n0_ n1_ n2_ n3_ n4_ n5_ n6_;clear hb hbox hg;have hnb23:=NB113_108.out;have hnc23:=NB108_113.out;have hcz24_0 : w22.cell? ⟨gb113,0,none⟩ = some (.int .i64 0):=(qK BK113.out 0).trans rfl;have hcz24_1 : w22.cell? ⟨gb113,1,none⟩ = some (.slice none 0 0):=(qK BK113.out 1).trans rfl;have hcz24_2 : w22.cell? ⟨gb113,2,none⟩ = some (.slice none 0 0):=(qK BK113.out 2).trans rfl;have hfz24_0:=qJ BK113.out 0;have hfz24_1:=qJ BK113.out 1;have hfz24_2:=qJ BK113.out 2)|((with_reducible refine q8 (f:=49) rfl ?_);refine jB (some 35) rfl rfl Try.func49 (by kernel_rfl) rfl #[.agg #[.int .i64 ((jI l0_2 x29_2).f0),.slice A112_1 ((jI l0_2 x29_2).f1).length c112_1,.slice A112_2 ((jI l0_2 x29_2).f2).length c112_2],.int .i64 a1] rfl (by (try simp only [List.map_toArray,List.map_cons,List.map_nil]);first|done|rfl|(simp only [List.length_drop,List.length_take];rfl)|(simp only [List.length_nil,Int.natCast_zero,Int.zero_add,Int.ofNat_zero];rfl)) ?_;(with_reducible refine (ih k2 (by have:=HK1.out;have:=HK2.out;omega) ((jI l0_2 x29_2).f0) _ _ ((jI l0_2 x29_2).f1) _ _ ((jI l0_2 x29_2).f2) a1 false _ ?side1 ?side2 ?side3 ?side4 A16.out).mono ?_);(case side1=>exact Kd.vD HR112_1.out (by repeat (first|(with_reducible first|exact HB.out|apply qH|apply qB|apply qG|refine qD ?_ GE108.out|refine qD ?_ GE113.out)|exact HB.out)));(case side2=>exact HC112_1.out);(case side3=>exact Kd.vD HR112_2.out (by repeat (first|(with_reducible first|exact HB.out|apply qH|apply qB|apply qG|refine qD ?_ GE108.out|refine qD ?_ GE113.out)|exact HB.out)));(case side4=>exact HC112_2.out);rintro e w25 ⟨rfl,hb⟩;refine ⟨_,rfl,?_⟩;have n0_:=qA.mk (zD (g:=gb108) (o:=.cells #[.int .i64 a0_0,.slice A0_1 l0_1.length c0_1,.slice (some ad112) l0_2.length c0_2] 49 (0,0)) (by (with_reducible repeat (first|refine qF ?_ _|refine qI ?_|refine qE ?_ _));refine zU ?_ NB108_113.out _;(with_reducible repeat (first|refine qF ?_ _|refine qI ?_|refine qE ?_ _));refine zU ?_ NB108_113.out _;(with_reducible repeat (first|refine qF ?_ _|refine qI ?_|refine qE ?_ _));refine zU ?_ NB108_113.out _;(with_reducible repeat (first|refine qF ?_ _|refine qI ?_|refine qE ?_ _));exact BK108.out) hb);have n1_:=qA.mk (zD (g:=gb113) (o:=.cells #[.int .i64 ((jI l0_2 x29_2).f0),.slice A112_1 ((jI l0_2 x29_2).f1).length c112_1,.slice A112_2 ((jI l0_2 x29_2).f2).length c112_2] 49 (0,0)) (by (with_reducible repeat (first|refine qF ?_ _|refine qI ?_|refine qE ?_ _));refine zV (cs:=#[.int .i64 ((jI l0_2 x29_2).f0),.slice A112_1 ((jI l0_2 x29_2).f1).length c112_1,.slice none 0 0]) ?_ 2 _ rfl;(with_reducible repeat (first|refine qF ?_ _|refine qI ?_|refine qE ?_ _));refine zV (cs:=#[.int .i64 ((jI l0_2 x29_2).f0),.slice none 0 0,.slice none 0 0]) ?_ 1 _ rfl;(with_reducible repeat (first|refine qF ?_ _|refine qI ?_|refine qE ?_ _));refine zV (cs:=#[.int .i64 0,.slice none 0 0,.slice none 0 0]) ?_ 0 _ rfl;(with_reducible repeat (first|refine qF ?_ _|refine qI ?_|refine qE ?_ _));exact BK113.out) hb);have n2_:=qA.mk (qN (by repeat (first|(with_reducible first|exact HB.out|apply qH|apply qB|apply qG|refine qD ?_ GE108.out|refine qD ?_ GE113.out)|exact HB.out)) hb);clear BK108;clear BK113;clear HB;have BK108:=n0_;have BK113:=n1_;have HB:=n2_;clear n0_ n1_ n2_;(try clear hb);(try clear hb2);(try clear hk);(try clear hi)))
           go_roundg k2
           case measure=>have:=HK1.out;have:=HK2.out;omega
           case rel=>exact ⟨(x5_2),(wrap64 (x29_2 + 1)),(by first|rfl|(simp;done)|(simp [*];done)),(by first|rfl|(simp;done)|(simp [*];done)),H',⟨by have:=HK1.out;have:=HK2.out;omega⟩,⟨by (with_reducible repeat (first|refine qF ?_ _|refine qI ?_|refine qE ?_ _));exact BK108.out⟩,⟨by repeat (first|(with_reducible first|exact HB.out|apply qH|apply qB|apply qG|refine qD ?_ GE108.out|refine qD ?_ GE113.out)|exact HB.out)⟩⟩
         ·rw [if_neg c15] at H
          exact absurd H (by simp)
        ·rw [if_neg c14] at H
         exact absurd H (by simp)
       ·rw [if_neg c13] at H
        have c13b0 : decide (x29_2 < (l0_2.length : Int)) = false:=decide_eq_false c13
        clear c13
        obtain rfl:=Option.some.inj H
        have hcz26_0 : wr.cell? ⟨gb108,0,none⟩ = some (.int .i64 a0_0):=(qK BK108.out 0).trans rfl
        have hcz26_1 : wr.cell? ⟨gb108,1,none⟩ = some (.slice A0_1 l0_1.length c0_1):=(qK BK108.out 1).trans rfl
        have hcz26_2 : wr.cell? ⟨gb108,2,none⟩ = some (.slice A0_2 l0_2.length c0_2):=(qK BK108.out 2).trans rfl
        have hfz26_0:=qJ BK108.out 0
        have hfz26_1:=qJ BK108.out 1
        have hfz26_2:=qJ BK108.out 2
        go_wp2
        go_ret
        exact ⟨by first|rfl|(simp [zK,zJ]<;>rfl)|(simp [*,zK,zJ]<;>rfl),by repeat (first|(with_reducible first|exact HB.out|apply qH|apply qB|apply qG|refine qD ?_ GE108.out)|exact HB.out)⟩
 ·replace c4:=Bool.eq_false_iff.mpr c4
  subst c4
  have H1 : (some false) = some r:=by rw [if_neg (show ¬ (false = true) by decide)] at H;exact H
  clear H
  have H:=H1
  clear H1
  obtain rfl:=Option.some.inj H
  go_enter Try.func49,Try.ntmps49
  go_wp2_with (first|((with_reducible refine jH (N:=2) rfl ?_);refine jL ?hg (N:=2) ?hd (cs:=#[.int .i64 a0_0,.slice A0_1 l0_1.length c0_1,.slice A0_2 l0_2.length c0_2]) (t:=49) ?hr ?_;(case hd=>rfl);(case hg=>rfl);(case hr=>first|(go_simp;done)|(go_simp;rfl));intro gb108 hg w27 hbox hb;have n0_:=qA.mk (qN (by repeat (first|(with_reducible first|exact HB.out|apply qH|apply qB|apply qG)|exact HB.out)) hb);have n1_:=qA.mk (hbox);have n2_:=qA.mk ((by rw [hg];exact (qQ (by repeat (first|(with_reducible first|exact HB.out|apply qH|apply qB|apply qG)|exact HB.out))) : w.heap.size ≤ gb108));have n3_:=qA.mk ((by rw [hg];exact (qQ (by repeat (first|(with_reducible first|exact HB.out|apply qH|apply qB|apply qG)|exact HB.out))) : w.heap.size ≤ gb108));clear HB;have HB:=n0_;have BK108:=n1_;have GW108:=n2_;have GE108:=n3_;clear n0_ n1_ n2_ n3_;clear hb hbox hg)|((with_reducible refine q8 (f:=37) rfl ?_);refine jB (some 11) rfl rfl Try.func37 (by kernel_rfl) rfl #[.int .i64 a1] rfl (by (try simp only [List.map_toArray,List.map_cons,List.map_nil]);first|done|rfl|(simp only [List.length_drop,List.length_take];rfl)|(simp only [List.length_nil,Int.natCast_zero,Int.zero_add,Int.ofNat_zero];rfl)) ?_;(with_reducible refine (j5.calls a1 false _ A3.out).mono ?_);rintro e w' ⟨rfl,⟨nd,rfl⟩⟩;refine ⟨_,rfl,?_⟩))
  go_ret
  exact ⟨by first|rfl|(simp [zK,zJ]<;>rfl)|(simp [*,zK,zJ]<;>rfl),by repeat (first|(with_reducible first|exact HB.out|apply qH|apply qB|apply qG|refine qD ?_ GE108.out)|exact HB.out)⟩
def j3.f (k : Nat) (l0_0 : List (S51)) (a1 : Int) (a2 : Int) : Option (Bool):=if 0 ≤ a1 then (if a1 < (l0_0.length : Int) then ((zB.f k ((jO l0_0 a1).f1.f0) ((jO l0_0 a1).f1.f1) ((jO l0_0 a1).f1.f2) a2).bind fun t117=>(some t117)) else (none)) else (none)
theorem j3.mono : ∀ a0 a1 a2 k,LeO (j3.f k a0 a1 a2) (j3.f (k + 1) a0 a1 a2):=by
 intro a0 a1 a2 k
 unfold j3.f
 repeat' first
   | (with_reducible exact zB.mono _ _ _ _ _)
   | (with_reducible exact LeO.refl _)
   | (with_reducible exact LeO.none _)
   | (with_reducible refine LeO.ite ?_ ?_)
   | (with_reducible refine LeO.bind ?_ (fun _=>?_))
   | exact zB.mono _ _ _ _ _
   | exact LeO.none _
   | refine LeO.ite ?_ ?_
   | refine LeO.bind ?_ (fun _=>?_)
set_option maxHeartbeats 8000000 in
set_option maxRecDepth 100000 in
theorem j3.calls (k : Nat) (A0_0 : Option Addr) (c0_0 : Nat) (l0_0 : List (S51)) (a1 : Int) (a2 : Int) (r : Bool) (w : World) (hr0_0 : Kd.C k51 w A0_0 l0_0.length l0_0) (hc0_0 : l0_0.length ≤ c0_0) (h : j3.f k l0_0 a1 a2 = some r) :
  Calls Try.prog 43 #[.agg #[.slice A0_0 l0_0.length c0_0],.int .i64 a1,.int .i64 a2] w fun e w'=>e = .returned (.bool r)∧Below w.heap.size w w':=by
 have hu25:=Try.underlying25
 have hu49:=Try.underlying49
 have HR0_0:=qA.mk hr0_0
 have HC0_0:=qA.mk hc0_0
 clear hr0_0 hc0_0
 have HB:=qA.mk (Below.refl w.heap.size w)
 have H : (if 0 ≤ a1 then (if a1 < (l0_0.length : Int) then ((zB.f k ((jO l0_0 a1).f1.f0) ((jO l0_0 a1).f1.f1) ((jO l0_0 a1).f1.f2) a2).bind fun t117=>(some t117)) else (none)) else (none)) = some r:=h
 clear h
 by_cases c4 : 0 ≤ a1
 ·rw [if_pos c4] at H
  have c4b0 : decide (0 ≤ a1) = true:=decide_eq_true c4
  clear c4
  by_cases c5 : a1 < (l0_0.length : Int)
  ·rw [if_pos c5] at H
   have c5b0 : decide (a1 < (l0_0.length : Int)) = true:=decide_eq_true c5
   clear c5
   replace H:=Option.bind_eq_some_iff.mp H
   obtain ⟨t117,A60,H⟩:=H
   replace H : (some t117) = some r:=H
   have A6:=qA.mk A60
   clear A60
   obtain rfl:=Option.some.inj H
   go_enter Try.func43,Try.ntmps43
   go_wp2_with (first|((with_reducible refine jH (N:=3) rfl ?_);refine jL ?hg (N:=3) ?hd (cs:=#[.slice A0_0 l0_0.length c0_0]) (t:=25) ?hr ?_;(case hd=>rfl);(case hg=>rfl);(case hr=>first|(go_simp;done)|(go_simp;rfl));intro gb115 hg w7 hbox hb;have n0_:=qA.mk (qN (by repeat (first|(with_reducible first|exact HB.out|apply qH|apply qB|apply qG)|exact HB.out)) hb);have n1_:=qA.mk (hbox);have n2_:=qA.mk ((by rw [hg];exact (qQ (by repeat (first|(with_reducible first|exact HB.out|apply qH|apply qB|apply qG)|exact HB.out))) : w.heap.size ≤ gb115));have n3_:=qA.mk ((by rw [hg];exact (qQ (by repeat (first|(with_reducible first|exact HB.out|apply qH|apply qB|apply qG)|exact HB.out))) : w.heap.size ≤ gb115));clear HB;have HB:=n0_;have BK115:=n1_;have GW115:=n2_;have GE115:=n3_;clear n0_ n1_ n2_ n3_;clear hb hbox hg;have hcz8_0 : w7.cell? ⟨gb115,0,none⟩ = some (.slice A0_0 l0_0.length c0_0):=(qK BK115.out 0).trans rfl;have hfz8_0:=qJ BK115.out 0;have p116 : 0 ≤ (a1 : Int):=of_decide_eq_true (by first|(with_reducible assumption)|assumption);have q116 : a1 < (l0_0.length : Int):=of_decide_eq_true (by first|(with_reducible assumption)|assumption);obtain ⟨ad116,A116_2,c116_2,A116_3,c116_3,e116,hx116_0,hx116_1,hx116_2,hx116_3,hl116_2,hi116_2,hl116_3,hi116_3⟩:=at_T51 HR0_0.out a1 p116 q116;cases e116;replace hx116_0:=(HB.out.cell (World.block_lt_of_cell? w _ hx116_0)).trans hx116_0;replace hx116_1:=(HB.out.cell (World.block_lt_of_cell? w _ hx116_1)).trans hx116_1;replace hx116_2:=(HB.out.cell (World.block_lt_of_cell? w _ hx116_2)).trans hx116_2;replace hx116_3:=(HB.out.cell (World.block_lt_of_cell? w _ hx116_3)).trans hx116_3;have HR116_2:=qA.mk hi116_2;have HC116_2:=qA.mk hl116_2;clear hi116_2 hl116_2;have HR116_3:=qA.mk hi116_3;have HC116_3:=qA.mk hl116_3;clear hi116_3 hl116_3;replace p116:=eq_true p116;replace q116:=eq_true q116)|((with_reducible refine q8 (f:=49) rfl ?_);refine jB (some 14) rfl rfl Try.func49 (by kernel_rfl) rfl #[.agg #[.int .i64 ((jO l0_0 a1).f1.f0),.slice A116_2 ((jO l0_0 a1).f1.f1).length c116_2,.slice A116_3 ((jO l0_0 a1).f1.f2).length c116_3],.int .i64 a2] rfl (by (try simp only [List.map_toArray,List.map_cons,List.map_nil]);first|done|rfl|(simp only [List.length_drop,List.length_take];rfl)|(simp only [List.length_nil,Int.natCast_zero,Int.zero_add,Int.ofNat_zero];rfl)) ?_;(with_reducible refine (zB.calls k ((jO l0_0 a1).f1.f0) _ _ ((jO l0_0 a1).f1.f1) _ _ ((jO l0_0 a1).f1.f2) a2 t117 _ ?side1 ?side2 ?side3 ?side4 A6.out).mono ?_);(case side1=>repeat (first|exact (Kd.vD HR116_2.out HB.out)|(with_reducible refine Kd.jK ?_ _)|(with_reducible refine Kd.jJ ?_ _)|(with_reducible refine Kd.jV ?_)));(case side2=>exact HC116_2.out);(case side3=>repeat (first|exact (Kd.vD HR116_3.out HB.out)|(with_reducible refine Kd.jK ?_ _)|(with_reducible refine Kd.jJ ?_ _)|(with_reducible refine Kd.jV ?_)));(case side4=>exact HC116_3.out);rintro e w9 ⟨rfl,hb⟩;refine ⟨_,rfl,?_⟩;have n0_:=qA.mk (zD (g:=gb115) (o:=.cells #[.slice (some ad116) l0_0.length c0_0] 25 (0,0)) (by (with_reducible repeat (first|refine qF ?_ _|refine qI ?_|refine qE ?_ _));exact BK115.out) hb);have n1_:=qA.mk (qN (by repeat (first|(with_reducible first|exact HB.out|apply qH|apply qB|apply qG|refine qD ?_ GE115.out)|exact HB.out)) hb);clear BK115;clear HB;have BK115:=n0_;have HB:=n1_;clear n0_ n1_;(try clear hb);(try clear hb2);(try clear hk);(try clear hi)))
   go_ret
   exact ⟨by first|rfl|(simp [zK,zJ]<;>rfl)|(simp [*,zK,zJ]<;>rfl),by repeat (first|(with_reducible first|exact HB.out|apply qH|apply qB|apply qG|refine qD ?_ GE115.out)|exact HB.out)⟩
  ·rw [if_neg c5] at H
   exact absurd H (by simp)
 ·rw [if_neg c4] at H
  exact absurd H (by simp)
def jT.l0 : Nat→Int→List Int→Int→Option (List Int)
 | 0,_,_,_=>none
 | k + 1,x0,x3,x5=>if x5 < 10 then ((vZ.f x0 x5).bind fun t118=>(if t118 = true then (if x3.length < 17592186044416 then (jT.l0 k x0 (x3 ++ [x5]) (wrap64 (x5 + 1))) else (none)) else (jT.l0 k x0 x3 (wrap64 (x5 + 1))))) else (some x3)
def jT.f (k : Nat) (a0 : Int) : Option (List Int):=jT.l0 k a0 ([] : List Int) 0
theorem jT.mono_l : ∀ k,(∀ y0 y1 y2,LeO (jT.l0 k y0 y1 y2) (jT.l0 (k + 1) y0 y1 y2))
 | 0=>fun _ _ _ r h=>by simp [jT.l0] at h
 | k + 1=>by
  have ih0:=jT.mono_l k
  ·intro y0 y1 y2
   unfold jT.l0
   repeat' first
   | (with_reducible exact ih0 _ _ _)
   | (with_reducible exact LeO.refl _)
   | (with_reducible exact LeO.none _)
   | (with_reducible refine LeO.ite ?_ ?_)
   | (with_reducible refine LeO.bind ?_ (fun _=>?_))
   | exact ih0 _ _ _
   | exact LeO.none _
   | refine LeO.ite ?_ ?_
   | refine LeO.bind ?_ (fun _=>?_)
theorem jT.mono : ∀ a0 k,LeO (jT.f k a0) (jT.f (k + 1) a0):=by
 intro a0 k
 have ih0:=jT.mono_l k
 unfold jT.f
 repeat' first
   | (with_reducible exact ih0 _ _ _)
   | (with_reducible exact LeO.refl _)
   | (with_reducible exact LeO.none _)
   | (with_reducible refine LeO.ite ?_ ?_)
   | (with_reducible refine LeO.bind ?_ (fun _=>?_))
   | exact ih0 _ _ _
   | exact LeO.none _
   | refine LeO.ite ?_ ?_
   | refine LeO.bind ?_ (fun _=>?_)
set_option maxHeartbeats 8000000 in
set_option maxRecDepth 100000 in
theorem jT.calls (k : Nat) (a0 : Int) (r : List Int) (w : World) (h : jT.f k a0 = some r) :
  Calls Try.prog 48 #[.int .i64 a0] w fun e w'=>∃ v0_ : Value,e = .returned (v0_)∧Kd.R (Kd.int .i64) 3 w' w.heap.size (fun _=>True) v0_ r∧Below w.heap.size w w':=by
 have HB:=qA.mk (Below.refl w.heap.size w)
 have H : (jT.l0 k a0 ([] : List Int) 0) = some r:=h
 clear h
 have H':=qA.mk H
 clear H
 go_enter Try.func48,Try.ntmps48
 go_wp2
 go_loopg [3,5] k (fun kq v3 v5 w'=>∃ (x3_1 : List Int) (x5_1 : Int),v5 = .int .i64 x5_1∧qA (jT.l0 kq a0 x3_1 x5_1 = some r)∧qA (kq ≤ k)∧qA (Kd.R (Kd.int .i64) 3 w' w.heap.size (fun _=>True) v3 x3_1)∧qA (Below w.heap.size w w'))
 case atStart=>exact ⟨(([] : List Int)),(0),(by first|rfl|(simp;done)|(simp [*];done)),H',⟨Nat.le_refl _⟩,⟨by first|exact Kd.uT _ _ _ _ _|exact Kd.N_nil _ _ _ _ _|exact Kd.V_nil _ _ _ _ _|exact Kd.Q_nil _ _ _ _ _|exact Kd.S_nil _ _ _ _ _⟩,⟨by repeat (first|(with_reducible first|exact HB.out|apply qH|apply qB|apply qG)|exact HB.out)⟩⟩
 case round =>
  clear H'
  obtain ⟨x3_1,x5_1,rfl,HA,HK1,HO_3,HB⟩:=hrel
  cases gk with
  | zero=>exact absurd HA.out (by simp [jT.l0])
  | succ k1 =>
   have H:=HA.out
   clear HA
   simp only [jT.l0] at H
   by_cases c2 : x5_1 < 10
   ·rw [if_pos c2] at H
    have c2b0 : decide (x5_1 < 10) = true:=decide_eq_true c2
    clear c2
    replace H:=Option.bind_eq_some_iff.mp H
    obtain ⟨t118,A30,H⟩:=H
    replace H : (if t118 = true then (if x3_1.length < 17592186044416 then (jT.l0 k1 a0 (x3_1 ++ [x5_1]) (wrap64 (x5_1 + 1))) else (none)) else (jT.l0 k1 a0 x3_1 (wrap64 (x5_1 + 1)))) = some r:=H
    have A3:=qA.mk A30
    clear A30
    by_cases c4 : t118 = true
    ·subst c4
     have H1 : (if x3_1.length < 17592186044416 then (jT.l0 k1 a0 (x3_1 ++ [x5_1]) (wrap64 (x5_1 + 1))) else (none)) = some r:=by rw [if_pos rfl] at H;exact H
     clear H
     have H:=H1
     clear H1
     by_cases c5 : x3_1.length < 17592186044416
     ·rw [if_pos c5] at H
      have LMc5:=qA.mk c5
      clear c5
      obtain ⟨y119,hy119⟩ : ∃ y_ : List Int,y_ = (x3_1 ++ [x5_1]):=⟨_,rfl⟩
      replace H : (jT.l0 k1 a0 y119 (wrap64 (x5_1 + 1))) = some r:=by first|(rw [hy119];with_reducible exact H)|(have H2_:=(Option.bind_some _ _).symm.trans H;rw [hy119];with_reducible exact H2_)|(have H2_:=(Option.bind_some _ _).symm.trans H;with_reducible exact H2_)|with_reducible exact H|(rw [hy119];exact H)|exact H
      have Ny119:=qA.mk hy119
      clear hy119
      have H':=qA.mk H
      clear H
      go_wp2_with (first|((with_reducible refine q8 (f:=42) rfl ?_);refine jB (some 10) rfl rfl Try.func42 (by kernel_rfl) rfl #[.int .i64 a0,.int .i64 x5_1] rfl (by (try simp only [List.map_toArray,List.map_cons,List.map_nil]);first|done|rfl|(simp only [List.length_drop,List.length_take];rfl)|(simp only [List.length_nil,Int.natCast_zero,Int.zero_add,Int.ofNat_zero];rfl)) ?_;(with_reducible refine (vZ.calls a0 x5_1 true _ A3.out).mono ?_);rintro e w' ⟨rfl,⟨nd,rfl⟩⟩;refine ⟨_,rfl,?_⟩)|((with_reducible refine vQ (b:=.append) (xs:=#[.tmp 11,.tmp 13]) rfl ?_);at_builtin;refine Kd.uO (Kd.int .i64) (w0:=w) w.heap.size rfl (.tmp 11) (.tmp 13) 22 3 (.int .i64 0) 8 rfl Try.underlying22 info3 rfl (by decide) (by omega) u3 x3_1 x5_1 [.int .i64 x5_1] (fun _=>True) (fun _=>False) rfl rfl ?aP (fun _ hk=>hk.elim) ?aF ?aO ?aB ?aS ?aL ?_;(case aP=>exact rfl);(case aB=>exact (by repeat (first|(with_reducible first|exact HB.out|apply qH|apply qB|apply qG)|exact HB.out)));(case aF=>exact (fun _ _=>trivial));(case aO=>exact (by (with_reducible repeat (first|apply Kd.qX|apply Kd.qW|apply Kd.zC));exact HO_3.out));(case aS=>exact (qQ (by repeat (first|(with_reducible first|exact HB.out|apply qH|apply qB|apply qG)|exact HB.out))));(case aL=>have:=LMc5.out;omega);intro v120 w6 ho hb hg hat;rw [← Ny119.out] at ho;have n0_:=qA.mk (hb);have n1_:=qA.mk (ho);clear HB;clear HO_3;have HB:=n0_;have HO121:=n1_;clear n0_ n1_;clear ho hb hg hat))
      go_roundg k1
      case measure=>have:=HK1.out;omega
      case rel=>exact ⟨(y119),(wrap64 (x5_1 + 1)),(by first|rfl|(simp;done)|(simp [*];done)),H',⟨by have:=HK1.out;omega⟩,⟨by (with_reducible repeat (first|apply Kd.qX|apply Kd.qW|apply Kd.zC));exact HO121.out⟩,⟨by repeat (first|(with_reducible first|exact HB.out|apply qH|apply qB|apply qG)|exact HB.out)⟩⟩
     ·rw [if_neg c5] at H
      exact absurd H (by simp)
    ·replace c4:=Bool.eq_false_iff.mpr c4
     subst c4
     have H1 : (jT.l0 k1 a0 x3_1 (wrap64 (x5_1 + 1))) = some r:=by rw [if_neg (show ¬ (false = true) by decide)] at H;exact H
     clear H
     have H:=H1
     clear H1
     have H':=qA.mk H
     clear H
     go_wp2_with (first|((with_reducible refine q8 (f:=42) rfl ?_);refine jB (some 10) rfl rfl Try.func42 (by kernel_rfl) rfl #[.int .i64 a0,.int .i64 x5_1] rfl (by (try simp only [List.map_toArray,List.map_cons,List.map_nil]);first|done|rfl|(simp only [List.length_drop,List.length_take];rfl)|(simp only [List.length_nil,Int.natCast_zero,Int.zero_add,Int.ofNat_zero];rfl)) ?_;(with_reducible refine (vZ.calls a0 x5_1 false _ A3.out).mono ?_);rintro e w' ⟨rfl,⟨nd,rfl⟩⟩;refine ⟨_,rfl,?_⟩))
     go_roundg k1
     case measure=>have:=HK1.out;omega
     case rel=>exact ⟨(x3_1),(wrap64 (x5_1 + 1)),(by first|rfl|(simp;done)|(simp [*];done)),H',⟨by have:=HK1.out;omega⟩,⟨by (with_reducible repeat (first|apply Kd.qX|apply Kd.qW|apply Kd.zC));exact HO_3.out⟩,⟨by repeat (first|(with_reducible first|exact HB.out|apply qH|apply qB|apply qG)|exact HB.out)⟩⟩
   ·rw [if_neg c2] at H
    have c2b0 : decide (x5_1 < 10) = false:=decide_eq_false c2
    clear c2
    obtain rfl:=Option.some.inj H
    go_wp2
    go_ret
    exact ⟨_,by first|rfl|(simp [zK,zJ]<;>rfl)|(simp [*,zK,zJ]<;>rfl),by (with_reducible repeat (first|apply Kd.qX|apply Kd.qW|apply Kd.zC));exact HO_3.out,by repeat (first|(with_reducible first|exact HB.out|apply qH|apply qB|apply qG)|exact HB.out)⟩
end Go.Proofs.Ytoofabolcbbjnaa.P
