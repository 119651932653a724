/- Functions of the program as Lean functions, and the walks that show that the calls answer so; written by a program of this session (a changed print) and by hand. -/
import Derived.Test.YtkkbdimegpdbgaaQsPx0
import Derived.Test.YtkkbdimegpdbgaaQsPx1
namespace Go.Proofs.Ytkkbdimegpdbgaa.P
open Go.RowKit Go.Proofs.YtkkbdimegpdbgaaW.PrintWords Go.Proofs.YtkkbdimegpdbgaaW.PrintLast Go.Proofs.YtkkbdimegpdbgaaW.PrintMore
attribute [local go_sem] kF kD kV kU uJ uK kG kE
set_option linter.unusedVariables false
set_option linter.unusedSimpArgs false
def qW.l0 : Nat→Int→List (S58)→Int→Int→Option (Int)
 | 0,_,_,_,_=>none
 | k + 1,x3,x7,x8,x9=>if x9 < x8 then (if 0 ≤ x9 then (if x9 < (x7.length : Int) then (if (zD x7 x9).f0 = true then (if x9 < 10 then (qW.l0 k (Go.bits .or .i64 x3 (shl .i64 1 x9)) x7 x8 (wrap64 (x9 + 1))) else (qW.l0 k x3 x7 x8 (wrap64 (x9 + 1)))) else (qW.l0 k x3 x7 x8 (wrap64 (x9 + 1)))) else (none)) else (none)) else (some x3)
def qW.f (k : Nat) (l0_0 : List (S58)) : Option (Int):=qW.l0 k 0 l0_0 (l0_0.length : Int) 0
theorem qW.mono_l : ∀ k,(∀ y0 y1 y2 y3,LeO (qW.l0 k y0 y1 y2 y3) (qW.l0 (k + 1) y0 y1 y2 y3))
 | 0=>fun _ _ _ _ r h=>by simp [qW.l0] at h
 | k + 1=>by
  have ih0:=qW.mono_l k
  ·intro y0 y1 y2 y3
   unfold qW.l0
   repeat' first
   | (with_reducible exact ih0 _ _ _ _)
   | (with_reducible exact LeO.refl _)
   | (with_reducible exact LeO.none _)
   | (with_reducible refine LeO.ite ?_ ?_)
   | (with_reducible refine LeO.bind ?_ (fun _=>?_))
   | exact ih0 _ _ _ _
   | exact LeO.none _
   | refine LeO.ite ?_ ?_
   | refine LeO.bind ?_ (fun _=>?_)
theorem qW.mono : ∀ a0 k,LeO (qW.f k a0) (qW.f (k + 1) a0):=by
 intro a0 k
 have ih0:=qW.mono_l k
 unfold qW.f
 repeat' first
   | (with_reducible exact ih0 _ _ _ _)
   | (with_reducible exact LeO.refl _)
   | (with_reducible exact LeO.none _)
   | (with_reducible refine LeO.ite ?_ ?_)
   | (with_reducible refine LeO.bind ?_ (fun _=>?_))
   | exact ih0 _ _ _ _
   | exact LeO.none _
   | refine LeO.ite ?_ ?_
   | refine LeO.bind ?_ (fun _=>?_)
set_option maxHeartbeats 8000000 in
set_option maxRecDepth 100000 in
theorem qW.calls (k : Nat) (A0_0 : Option Addr) (c0_0 : Nat) (l0_0 : List (S58)) (r : Int) (w : World) (hr0_0 : Kd.C k58 w A0_0 l0_0.length l0_0) (hc0_0 : l0_0.length ≤ c0_0) (h : qW.f k l0_0 = some r) :
  Calls Try.prog 86 #[.agg #[.slice A0_0 l0_0.length c0_0]] w fun e w'=>e = .returned (.int .i64 r)∧Below w.heap.size w w':=by
 have hu25:=Try.underlying25
 have hu58:=Try.underlying58
 have HR0_0:=qA.mk hr0_0
 have HC0_0:=qA.mk hc0_0
 clear hr0_0 hc0_0
 have HB:=qA.mk (Below.refl w.heap.size w)
 unfold qW.f at h
 have H:=h
 clear h
 have H':=qA.mk H
 clear H
 go_enter Try.func86,Try.ntmps86
 go_wp2_with (first|((with_reducible refine qP (N:=1) rfl ?_);refine zV (N:=1) (cs:=#[.slice A0_0 l0_0.length c0_0]) (t:=25) ?_;intro gb146 hg w2 hbox hb;have n_:=q_4 (qC byab hb) (hbox) ((byck : w.heap.size ≤ gb146)) ((byck : w.heap.size ≤ gb146));clear HB;obtain ⟨HB,BK146,GW146,GE146⟩:=n_;clear hb hbox hg;obtain ⟨hcz3_0,hfz3_0⟩:=cz1 BK146.out))
 go_loopg [3,9] k (fun kq v3 v9 w'=>∃ (x3_1 : Int) (x9_1 : Int),v3 = .int .i64 x3_1∧v9 = .int .i64 x9_1∧qA (qW.l0 kq x3_1 l0_0 (l0_0.length : Int) x9_1 = some r)∧qA (kq ≤ k)∧qA (w'.heap[gb146]? = some (.cells #[(.slice A0_0 l0_0.length c0_0)] 25 (0,0)))∧qA (Below w.heap.size w w'))
 case atStart=>exact ⟨(0),(0),byae,byae,H',⟨Nat.le_refl _⟩,⟨byaf BK146.out⟩,⟨byad GE146.out⟩⟩
 case round =>
  clear H'
  obtain ⟨x3_1,x9_1,rfl,rfl,HA,HK1,BK146,HB⟩:=hrel
  cases gk with
  | zero=>exact absurd HA.out (by simp [qW.l0])
  | succ k1 =>
   have H:=HA.out
   clear HA
   simp only [qW.l0] at H
   by_cases c4 : x9_1 < (l0_0.length : Int)
   ·rw [if_pos c4] at H
    have c4b0:=decide_eq_true c4
    clear c4
    by_cases c5 : 0 ≤ x9_1
    ·rw [if_pos c5] at H
     have c5b0:=decide_eq_true c5
     clear c5
     by_cases c6 : x9_1 < (l0_0.length : Int)
     ·rw [if_pos c6] at H
      have c6b0:=decide_eq_true c6
      clear c6
      obtain ⟨bq7,hbq7⟩ : ∃ b_ : Bool,b_ = ((zD l0_0 x9_1).f0):=⟨_,rfl⟩
      replace H : (if bq7 = true then (if x9_1 < 10 then (qW.l0 k1 (Go.bits .or .i64 x3_1 (shl .i64 1 x9_1)) l0_0 (l0_0.length : Int) (wrap64 (x9_1 + 1))) else (qW.l0 k1 x3_1 l0_0 (l0_0.length : Int) (wrap64 (x9_1 + 1)))) else (qW.l0 k1 x3_1 l0_0 (l0_0.length : Int) (wrap64 (x9_1 + 1)))) = some r:=by rw [← hbq7] at H;exact H
      have Nbq7:=qA.mk hbq7
      clear hbq7
      by_cases c8 : bq7 = true
      ·subst c8
       rw [if_pos rfl] at H
       by_cases c9 : x9_1 < 10
       ·rw [if_pos c9] at H
        have c9b0:=decide_eq_true c9
        clear c9
        have c10b0:=eq_true (of_decide_eq_true byag : 0 ≤ x9_1)
        obtain ⟨ji11,hji11⟩ : ∃ j_ : Int,(shl .i64 1 x9_1) = j_:=⟨_,rfl⟩
        (first|rw [hji11] at H|(simp only [hji11] at H))
        obtain ⟨hji11_,hji11z,hji11u,hji11v,hji11y,hji11x⟩:=jiA hji11
        have H':=qA.mk H
        clear H
        have p147 : 0 ≤ (x9_1 : Int):=of_decide_eq_true byag
        have q147 : x9_1 < (l0_0.length : Int):=of_decide_eq_true byag
        obtain ⟨ad147,A147_2,c147_2,A147_3,c147_3,e147,hx147_0,hx147_1,hx147_2,hx147_3,hl147_2,hi147_2,hl147_3,hi147_3⟩:=Zm HR0_0.out x9_1 p147 q147
        (try rw [← Nbq7.out] at hx147_0)
        cases e147
        replace hx147_0:=(HB.out.cell (World.block_lt_of_cell? w _ hx147_0)).trans hx147_0
        replace hx147_1:=(HB.out.cell (World.block_lt_of_cell? w _ hx147_1)).trans hx147_1
        replace hx147_2:=(HB.out.cell (World.block_lt_of_cell? w _ hx147_2)).trans hx147_2
        replace hx147_3:=(HB.out.cell (World.block_lt_of_cell? w _ hx147_3)).trans hx147_3
        have HR147_2:=qA.mk hi147_2
        have HC147_2:=qA.mk hl147_2
        clear hi147_2 hl147_2
        have HR147_3:=qA.mk hi147_3
        have HC147_3:=qA.mk hl147_3
        clear hi147_3 hl147_3
        replace p147:=eq_true p147
        replace q147:=eq_true q147
        go_wp2_with (first|((with_reducible refine qP (N:=5) rfl ?_);refine zV (N:=5) (cs:=#[.bool false,.int .i64 0,.slice none 0 0,.slice none 0 0]) (t:=58) ?_;intro gb148 hg w12 hbox hb;have n_:=q_6 (qH BK146.out hb) (qC (byad GE146.out) hb) (hbox) ((bycl GE146.out : w.heap.size ≤ gb148)) ((bycl GE146.out : w.heap.size ≤ gb148)) ((by rw [hg];exact Nat.ne_of_lt (vF BK146.out) : gb146≠gb148));clear BK146 HB;obtain ⟨BK146,HB,BK148,GW148,GE148,NB146_148⟩:=n_;have NB148_146:=ns NB146_148;clear hb hbox hg;have hnb13:=NB148_146.out;have hnc13:=NB146_148.out;obtain ⟨hcz14_0,hcz14_1,hcz14_2,hcz14_3,hfz14_0,hfz14_1,hfz14_2,hfz14_3⟩:=cz4 BK148.out))
        go_roundg k1
        case measure=>have:=HK1.out;omega
        case rel=>exact ⟨(Go.bits .or .i64 x3_1 (ji11)),(wrap64 (x9_1 + 1)),byao,byae,H',⟨byai⟩,⟨byat NB146_148.out BK146.out⟩,⟨byaj GE146.out GE148.out⟩⟩
       ·rw [if_neg c9] at H
        have c9b0:=decide_eq_false c9
        clear c9
        have H':=qA.mk H
        clear H
        have p147 : 0 ≤ (x9_1 : Int):=of_decide_eq_true byag
        have q147 : x9_1 < (l0_0.length : Int):=of_decide_eq_true byag
        obtain ⟨ad147,A147_2,c147_2,A147_3,c147_3,e147,hx147_0,hx147_1,hx147_2,hx147_3,hl147_2,hi147_2,hl147_3,hi147_3⟩:=Zm HR0_0.out x9_1 p147 q147
        (try rw [← Nbq7.out] at hx147_0)
        cases e147
        replace hx147_0:=(HB.out.cell (World.block_lt_of_cell? w _ hx147_0)).trans hx147_0
        replace hx147_1:=(HB.out.cell (World.block_lt_of_cell? w _ hx147_1)).trans hx147_1
        replace hx147_2:=(HB.out.cell (World.block_lt_of_cell? w _ hx147_2)).trans hx147_2
        replace hx147_3:=(HB.out.cell (World.block_lt_of_cell? w _ hx147_3)).trans hx147_3
        have HR147_2:=qA.mk hi147_2
        have HC147_2:=qA.mk hl147_2
        clear hi147_2 hl147_2
        have HR147_3:=qA.mk hi147_3
        have HC147_3:=qA.mk hl147_3
        clear hi147_3 hl147_3
        replace p147:=eq_true p147
        replace q147:=eq_true q147
        go_wp2_with (first|((with_reducible refine qP (N:=5) rfl ?_);refine zV (N:=5) (cs:=#[.bool false,.int .i64 0,.slice none 0 0,.slice none 0 0]) (t:=58) ?_;intro gb148 hg w15 hbox hb;have n_:=q_6 (qH BK146.out hb) (qC (byad GE146.out) hb) (hbox) ((bycl GE146.out : w.heap.size ≤ gb148)) ((bycl GE146.out : w.heap.size ≤ gb148)) ((by rw [hg];exact Nat.ne_of_lt (vF BK146.out) : gb146≠gb148));clear BK146 HB;obtain ⟨BK146,HB,BK148,GW148,GE148,NB146_148⟩:=n_;have NB148_146:=ns NB146_148;clear hb hbox hg;have hnb16:=NB148_146.out;have hnc16:=NB146_148.out;obtain ⟨hcz17_0,hcz17_1,hcz17_2,hcz17_3,hfz17_0,hfz17_1,hfz17_2,hfz17_3⟩:=cz4 BK148.out))
        go_roundg k1
        case measure=>have:=HK1.out;omega
        case rel=>exact ⟨(x3_1),(wrap64 (x9_1 + 1)),byae,byae,H',⟨byai⟩,⟨byat NB146_148.out BK146.out⟩,⟨byaj GE146.out GE148.out⟩⟩
      ·replace c8:=Bool.eq_false_iff.mpr c8
       subst c8
       rw [if_neg (show ¬ (false = true) by decide)] at H
       have H':=qA.mk H
       clear H
       have p147 : 0 ≤ (x9_1 : Int):=of_decide_eq_true byag
       have q147 : x9_1 < (l0_0.length : Int):=of_decide_eq_true byag
       obtain ⟨ad147,A147_2,c147_2,A147_3,c147_3,e147,hx147_0,hx147_1,hx147_2,hx147_3,hl147_2,hi147_2,hl147_3,hi147_3⟩:=Zm HR0_0.out x9_1 p147 q147
       (try rw [← Nbq7.out] at hx147_0)
       cases e147
       replace hx147_0:=(HB.out.cell (World.block_lt_of_cell? w _ hx147_0)).trans hx147_0
       replace hx147_1:=(HB.out.cell (World.block_lt_of_cell? w _ hx147_1)).trans hx147_1
       replace hx147_2:=(HB.out.cell (World.block_lt_of_cell? w _ hx147_2)).trans hx147_2
       replace hx147_3:=(HB.out.cell (World.block_lt_of_cell? w _ hx147_3)).trans hx147_3
       have HR147_2:=qA.mk hi147_2
       have HC147_2:=qA.mk hl147_2
       clear hi147_2 hl147_2
       have HR147_3:=qA.mk hi147_3
       have HC147_3:=qA.mk hl147_3
       clear hi147_3 hl147_3
       replace p147:=eq_true p147
       replace q147:=eq_true q147
       go_wp2_with (first|((with_reducible refine qP (N:=5) rfl ?_);refine zV (N:=5) (cs:=#[.bool false,.int .i64 0,.slice none 0 0,.slice none 0 0]) (t:=58) ?_;intro gb148 hg w18 hbox hb;have n_:=q_6 (qH BK146.out hb) (qC (byad GE146.out) hb) (hbox) ((bycl GE146.out : w.heap.size ≤ gb148)) ((bycl GE146.out : w.heap.size ≤ gb148)) ((by rw [hg];exact Nat.ne_of_lt (vF BK146.out) : gb146≠gb148));clear BK146 HB;obtain ⟨BK146,HB,BK148,GW148,GE148,NB146_148⟩:=n_;have NB148_146:=ns NB146_148;clear hb hbox hg;have hnb19:=NB148_146.out;have hnc19:=NB146_148.out;obtain ⟨hcz20_0,hcz20_1,hcz20_2,hcz20_3,hfz20_0,hfz20_1,hfz20_2,hfz20_3⟩:=cz4 BK148.out))
       go_roundg k1
       case measure=>have:=HK1.out;omega
       case rel=>exact ⟨(x3_1),(wrap64 (x9_1 + 1)),byae,byae,H',⟨byai⟩,⟨byat NB146_148.out BK146.out⟩,⟨byaj GE146.out GE148.out⟩⟩
     ·rw [if_neg c6] at H
      exact absurd H (by simp)
    ·rw [if_neg c5] at H
     exact absurd H (by simp)
   ·rw [if_neg c4] at H
    have c4b0:=decide_eq_false c4
    clear c4
    obtain rfl:=Option.some.inj H
    go_wp2
    go_ret
    exact ⟨byac,byad GE146.out⟩
def kP.f (k : Nat) (l0_0 : List (S58)) (a1 : Int) : Option (Bool):=(qW.f k l0_0).bind fun t150=>(some ((Go.bits .andNot .i64 a1 t150) == 0))
theorem kP.mono : ∀ a0 a1 k,LeO (kP.f k a0 a1) (kP.f (k + 1) a0 a1):=by
 intro a0 a1 k
 unfold kP.f
 repeat' first
   | (with_reducible exact qW.mono _ _)
   | (with_reducible exact LeO.refl _)
   | (with_reducible exact LeO.none _)
   | (with_reducible refine LeO.ite ?_ ?_)
   | (with_reducible refine LeO.bind ?_ (fun _=>?_))
   | exact qW.mono _ _
   | exact LeO.none _
   | refine LeO.ite ?_ ?_
   | refine LeO.bind ?_ (fun _=>?_)
set_option maxHeartbeats 8000000 in
set_option maxRecDepth 100000 in
theorem kP.calls (k : Nat) (A0_0 : Option Addr) (c0_0 : Nat) (l0_0 : List (S58)) (a1 : Int) (r : Bool) (w : World) (hr0_0 : Kd.C k58 w A0_0 l0_0.length l0_0) (hc0_0 : l0_0.length ≤ c0_0) (h : kP.f k l0_0 a1 = some r) :
  Calls Try.prog 74 #[.agg #[.slice A0_0 l0_0.length c0_0],.int .i64 a1] w fun e w'=>e = .returned (.bool r)∧Below w.heap.size w w':=by
 have hu25:=Try.underlying25
 have HR0_0:=qA.mk hr0_0
 have HC0_0:=qA.mk hc0_0
 clear hr0_0 hc0_0
 have HB:=qA.mk (Below.refl w.heap.size w)
 unfold kP.f at h
 have H:=h
 clear h
 replace H:=Option.bind_eq_some_iff.mp H
 obtain ⟨t150,A30,H⟩:=H
 try dsimp only at H
 have A3:=qA.mk A30
 clear A30
 obtain rfl:=Option.some.inj H
 go_enter Try.func74,Try.ntmps74
 go_wp2_with (first|((with_reducible refine qP (N:=2) rfl ?_);refine zV (N:=2) (cs:=#[.slice A0_0 l0_0.length c0_0]) (t:=25) ?_;intro gb149 hg w4 hbox hb;have n_:=q_4 (qC byab hb) (hbox) ((byck : w.heap.size ≤ gb149)) ((byck : w.heap.size ≤ gb149));clear HB;obtain ⟨HB,BK149,GW149,GE149⟩:=n_;clear hb hbox hg;obtain ⟨hcz5_0,hfz5_0⟩:=cz1 BK149.out)|((with_reducible refine qI (f:=86) rfl ?_);refine qY (some 7) rfl rfl Try.func86 (by kernel_rfl) rfl #[.agg #[.slice A0_0 l0_0.length c0_0]] rfl byah ?_;(with_reducible refine (qW.calls k _ _ l0_0 t150 _ ?side1 ?side2 A3.out).mono ?_);(case side1=>exact byaq HR0_0.out);(case side2=>exact HC0_0.out);rintro e w6 ⟨rfl,hb⟩;refine ⟨_,rfl,?_⟩;have n_:=q_2 (qH BK149.out hb) (qC (byad GE149.out) hb);clear BK149 HB;obtain ⟨BK149,HB⟩:=n_;clear hb))
 go_ret
 exact ⟨byac,byad GE149.out⟩
def jU.l0 : Nat→Int→List Int→Int→Option (List Int)
 | 0,_,_,_=>none
 | k + 1,x0,x3,x5=>if x5 < 10 then ((kR.f x0 x5).bind fun t151=>(if t151 = true then (if x3.length < 17592186044416 then (jU.l0 k x0 (x3 ++ [x5]) (wrap64 (x5 + 1))) else (none)) else (jU.l0 k x0 x3 (wrap64 (x5 + 1))))) else (some x3)
def jU.f (k : Nat) (a0 : Int) : Option (List Int):=jU.l0 k a0 ([] : List Int) 0
theorem jU.mono_l : ∀ k,(∀ y0 y1 y2,LeO (jU.l0 k y0 y1 y2) (jU.l0 (k + 1) y0 y1 y2))
 | 0=>fun _ _ _ r h=>by simp [jU.l0] at h
 | k + 1=>by
  have ih0:=jU.mono_l k
  ·intro y0 y1 y2
   unfold jU.l0
   repeat' first
   | (with_reducible exact ih0 _ _ _)
   | (with_reducible exact LeO.refl _)
   | (with_reducible exact LeO.none _)
   | (with_reducible refine LeO.ite ?_ ?_)
   | (with_reducible refine LeO.bind ?_ (fun _=>?_))
   | exact ih0 _ _ _
   | exact LeO.none _
   | refine LeO.ite ?_ ?_
   | refine LeO.bind ?_ (fun _=>?_)
theorem jU.mono : ∀ a0 k,LeO (jU.f k a0) (jU.f (k + 1) a0):=by
 intro a0 k
 have ih0:=jU.mono_l k
 unfold jU.f
 repeat' first
   | (with_reducible exact ih0 _ _ _)
   | (with_reducible exact LeO.refl _)
   | (with_reducible exact LeO.none _)
   | (with_reducible refine LeO.ite ?_ ?_)
   | (with_reducible refine LeO.bind ?_ (fun _=>?_))
   | exact ih0 _ _ _
   | exact LeO.none _
   | refine LeO.ite ?_ ?_
   | refine LeO.bind ?_ (fun _=>?_)
set_option maxHeartbeats 8000000 in
set_option maxRecDepth 100000 in
theorem jU.calls (k : Nat) (a0 : Int) (r : List Int) (w : World) (h : jU.f k a0 = some r) :
  Calls Try.prog 61 #[.int .i64 a0] w fun e w'=>∃ v0_ : Value,e = .returned (v0_)∧Kd.R (Kd.int .i64) 3 w' w.heap.size (fun _=>True) v0_ r∧Below w.heap.size w w':=by
 have HB:=qA.mk (Below.refl w.heap.size w)
 unfold jU.f at h
 have H:=h
 clear h
 have H':=qA.mk H
 clear H
 go_enter Try.func61,Try.ntmps61
 go_wp2
 go_loopg [3,5] k (fun kq v3 v5 w'=>∃ (x3_1 : List Int) (x5_1 : Int),v5 = .int .i64 x5_1∧qA (jU.l0 kq a0 x3_1 x5_1 = some r)∧qA (kq ≤ k)∧qA (Kd.R (Kd.int .i64) 3 w' w.heap.size (fun _=>True) v3 x3_1)∧qA (Below w.heap.size w w'))
 case atStart=>exact ⟨(([] : List Int)),(0),byae,H',⟨Nat.le_refl _⟩,⟨byau⟩,⟨byab⟩⟩
 case round =>
  clear H'
  obtain ⟨x3_1,x5_1,rfl,HA,HK1,HO_3,HB⟩:=hrel
  cases gk with
  | zero=>exact absurd HA.out (by simp [jU.l0])
  | succ k1 =>
   have H:=HA.out
   clear HA
   simp only [jU.l0] at H
   by_cases c2 : x5_1 < 10
   ·rw [if_pos c2] at H
    have c2b0:=decide_eq_true c2
    clear c2
    replace H:=Option.bind_eq_some_iff.mp H
    obtain ⟨t151,A30,H⟩:=H
    try dsimp only at H
    have A3:=qA.mk A30
    clear A30
    by_cases c4 : t151 = true
    ·subst c4
     rw [if_pos rfl] at H
     by_cases c5 : x3_1.length < 17592186044416
     ·rw [if_pos c5] at H
      have LMc5:=qA.mk c5
      clear c5
      obtain ⟨y152,hy152⟩ : ∃ y_ : List Int,y_ = (x3_1 ++ [x5_1]):=⟨_,rfl⟩
      replace H : (jU.l0 k1 a0 y152 (wrap64 (x5_1 + 1))) = some r:=by first|(rw [hy152];with_reducible exact H)|(have H2_:=(Option.bind_some _ _).symm.trans H;rw [hy152];with_reducible exact H2_)|(have H2_:=(Option.bind_some _ _).symm.trans H;with_reducible exact H2_)|with_reducible exact H|(rw [hy152];exact H)|exact H
      have Ny152:=qA.mk hy152
      clear hy152
      have H':=qA.mk H
      clear H
      go_wp2_with (first|((with_reducible refine qI (f:=62) rfl ?_);refine qY (some 10) rfl rfl Try.func62 (by kernel_rfl) rfl #[.int .i64 a0,.int .i64 x5_1] rfl byah ?_;(with_reducible refine (kR.calls a0 x5_1 true _ A3.out).mono ?_);rintro e w' ⟨rfl,⟨nd,rfl⟩⟩;refine ⟨_,rfl,?_⟩)|((with_reducible refine uU (b:=.append) (xs:=#[.tmp 11,.tmp 13]) rfl ?_);at_builtin;refine Kd.Qk (Kd.int .i64) (w0:=w) w.heap.size rfl (.tmp 11) (.tmp 13) 22 3 (.int .i64 0) 8 rfl Try.underlying22 info3 rfl (by decide) (by omega) u3 x3_1 x5_1 [.int .i64 x5_1] (fun _=>True) (fun _=>False) rfl rfl ?aP (fun _ hk=>hk.elim) ?aF ?aO ?aB ?aS ?aL ?_;(case aP=>exact rfl);(case aB=>exact byab);(case aF=>exact (fun _ _=>trivial));(case aO=>exact (byav HO_3.out));(case aS=>exact (jX byab));(case aL=>have:=LMc5.out;omega);intro v153 w6 ho hb hg hat;rw [← Ny152.out] at ho;have n_:=q_2 (hb) (ho);clear HB HO_3;obtain ⟨HB,HO154⟩:=n_;clear ho hb hg hat))
      go_roundg k1
      case measure=>have:=HK1.out;omega
      case rel=>exact ⟨(y152),(wrap64 (x5_1 + 1)),byae,H',⟨byai⟩,⟨byav HO154.out⟩,⟨byab⟩⟩
     ·rw [if_neg c5] at H
      exact absurd H (by simp)
    ·replace c4:=Bool.eq_false_iff.mpr c4
     subst c4
     rw [if_neg (show ¬ (false = true) by decide)] at H
     have H':=qA.mk H
     clear H
     go_wp2_with (first|((with_reducible refine qI (f:=62) rfl ?_);refine qY (some 10) rfl rfl Try.func62 (by kernel_rfl) rfl #[.int .i64 a0,.int .i64 x5_1] rfl byah ?_;(with_reducible refine (kR.calls a0 x5_1 false _ A3.out).mono ?_);rintro e w' ⟨rfl,⟨nd,rfl⟩⟩;refine ⟨_,rfl,?_⟩))
     go_roundg k1
     case measure=>have:=HK1.out;omega
     case rel=>exact ⟨(x3_1),(wrap64 (x5_1 + 1)),byae,H',⟨byai⟩,⟨byav HO_3.out⟩,⟨byab⟩⟩
   ·rw [if_neg c2] at H
    have c2b0:=decide_eq_false c2
    clear c2
    obtain rfl:=Option.some.inj H
    go_wp2
    go_ret
    exact ⟨_,byac,byav HO_3.out,byab⟩
mutual
def qU.l0 : Nat→Int→Int→List Int→Int→Int→Int→List Int→List (S56)→Option (Bool)
 | 0,_,_,_,_,_,_,_,_=>none
 | k + 1,x1,x5,x14,x15,x16,x156000,x156001,x156002=>if x16 < x15 then (if 0 ≤ x16 then (if x16 < (x14.length : Int) then ((kR.f x1 (rd x14 x16)).bind fun t158=>(if t158 = true then (qU.l0 k x1 (wrap64 (x5 + 1)) x14 x15 (wrap64 (x16 + 1)) x156000 x156001 x156002) else (qU.l0 k x1 x5 x14 x15 (wrap64 (x16 + 1)) x156000 x156001 x156002))) else (none)) else (none)) else (qU.l1 k x1 x5 x156002 (x156002.length : Int) 0 x156000 x156001 x156002)
def qU.l1 : Nat→Int→Int→List (S56)→Int→Int→Int→List Int→List (S56)→Option (Bool)
 | 0,_,_,_,_,_,_,_,_=>none
 | k + 1,x1,x5,x27,x28,x29,x156000,x156001,x156002=>if x29 < x28 then (if 0 ≤ x29 then (if x29 < (x27.length : Int) then ((qU.f k ((qM x27 x29).f0) ((qM x27 x29).f1) ((qM x27 x29).f2) x1).bind fun t161=>(if t161 = true then (qU.l1 k x1 (wrap64 (x5 + 1)) x27 x28 (wrap64 (x29 + 1)) x156000 x156001 x156002) else (qU.l1 k x1 x5 x27 x28 (wrap64 (x29 + 1)) x156000 x156001 x156002))) else (none)) else (none)) else (some (decide (x5 ≥ x156000)))
def qU.f : Nat→Int→List Int→List (S56)→Int→Option (Bool)
 | 0,_,_,_,_=>none
 | k + 1,a0_0,l0_1,l0_2,a1=>(vY.f a1).bind fun t156=>(if t156 = true then (qU.l0 k a1 0 l0_1 (l0_1.length : Int) 0 a0_0 l0_1 l0_2) else (some false))
end
theorem qU.mono_l : ∀ k,(∀ y0 y1 y2 y3,LeO (qU.f k y0 y1 y2 y3) (qU.f (k + 1) y0 y1 y2 y3))∧(∀ y0 y1 y2 y3 y4 y5 y6 y7,LeO (qU.l0 k y0 y1 y2 y3 y4 y5 y6 y7) (qU.l0 (k + 1) y0 y1 y2 y3 y4 y5 y6 y7))∧(∀ y0 y1 y2 y3 y4 y5 y6 y7,LeO (qU.l1 k y0 y1 y2 y3 y4 y5 y6 y7) (qU.l1 (k + 1) y0 y1 y2 y3 y4 y5 y6 y7))
 | 0=>⟨fun _ _ _ _ r h=>by simp [qU.f] at h,fun _ _ _ _ _ _ _ _ r h=>by simp [qU.l0] at h,fun _ _ _ _ _ _ _ _ r h=>by simp [qU.l1] at h⟩
 | k + 1=>by
  obtain ⟨ih0,ih1,ih2⟩:=qU.mono_l k
  refine ⟨?_,?_,?_⟩
  ·intro y0 y1 y2 y3
   unfold qU.f
   repeat' first
   | (with_reducible exact ih0 _ _ _ _)
   | (with_reducible exact ih1 _ _ _ _ _ _ _ _)
   | (with_reducible exact ih2 _ _ _ _ _ _ _ _)
   | (with_reducible exact LeO.refl _)
   | (with_reducible exact LeO.none _)
   | (with_reducible refine LeO.ite ?_ ?_)
   | (with_reducible refine LeO.bind ?_ (fun _=>?_))
   | exact ih0 _ _ _ _
   | exact ih1 _ _ _ _ _ _ _ _
   | exact ih2 _ _ _ _ _ _ _ _
   | exact LeO.none _
   | refine LeO.ite ?_ ?_
   | refine LeO.bind ?_ (fun _=>?_)
  ·intro y0 y1 y2 y3 y4 y5 y6 y7
   unfold qU.l0
   repeat' first
   | (with_reducible exact ih0 _ _ _ _)
   | (with_reducible exact ih1 _ _ _ _ _ _ _ _)
   | (with_reducible exact ih2 _ _ _ _ _ _ _ _)
   | (with_reducible exact LeO.refl _)
   | (with_reducible exact LeO.none _)
   | (with_reducible refine LeO.ite ?_ ?_)
   | (with_reducible refine LeO.bind ?_ (fun _=>?_))
   | exact ih0 _ _ _ _
   | exact ih1 _ _ _ _ _ _ _ _
   | exact ih2 _ _ _ _ _ _ _ _
   | exact LeO.none _
   | refine LeO.ite ?_ ?_
   | refine LeO.bind ?_ (fun _=>?_)
  ·intro y0 y1 y2 y3 y4 y5 y6 y7
   unfold qU.l1
   repeat' first
   | (with_reducible exact ih0 _ _ _ _)
   | (with_reducible exact ih1 _ _ _ _ _ _ _ _)
   | (with_reducible exact ih2 _ _ _ _ _ _ _ _)
   | (with_reducible exact LeO.refl _)
   | (with_reducible exact LeO.none _)
   | (with_reducible refine LeO.ite ?_ ?_)
   | (with_reducible refine LeO.bind ?_ (fun _=>?_))
   | exact ih0 _ _ _ _
   | exact ih1 _ _ _ _ _ _ _ _
   | exact ih2 _ _ _ _ _ _ _ _
   | exact LeO.none _
   | refine LeO.ite ?_ ?_
   | refine LeO.bind ?_ (fun _=>?_)
theorem qU.mono : ∀ a0 a1 a2 a3 k,LeO (qU.f k a0 a1 a2 a3) (qU.f (k + 1) a0 a1 a2 a3):=by
 intro a0 a1 a2 a3 k
 obtain ⟨ih0,ih1,ih2⟩:=qU.mono_l k
 exact ih0 a0 a1 a2 a3
set_option maxHeartbeats 8000000 in
set_option maxRecDepth 100000 in
theorem qU.calls (k : Nat) : ∀ (a0_0 : Int) (A0_1 : Option Addr) (c0_1 : Nat) (l0_1 : List Int) (A0_2 : Option Addr) (c0_2 : Nat) (l0_2 : List (S56)) (a1 : Int) (r : Bool) (w : World) (hr0_1 : Kd.C (Kd.int .i64) w A0_1 l0_1.length l0_1) (hc0_1 : l0_1.length ≤ c0_1) (hr0_2 : Kd.C k56 w A0_2 l0_2.length l0_2) (hc0_2 : l0_2.length ≤ c0_2) (h : qU.f k a0_0 l0_1 l0_2 a1 = some r),
  Calls Try.prog 93 #[.agg #[.int .i64 a0_0,.slice A0_1 l0_1.length c0_1,.slice A0_2 l0_2.length c0_2],.int .i64 a1] w fun e w'=>e = .returned (.bool r)∧Below w.heap.size w w':=by
 induction k using Nat.strongRecOn with
 | _ k ih =>
 intro a0_0 A0_1 c0_1 l0_1 A0_2 c0_2 l0_2 a1 r w hr0_1 hc0_1 hr0_2 hc0_2 h
 cases k with
 | zero=>exact absurd h (by simp [qU.f])
 | succ k =>
 simp only [qU.f] at h
 have hu56:=Try.underlying56
 have HR0_1:=qA.mk hr0_1
 have HC0_1:=qA.mk hc0_1
 clear hr0_1 hc0_1
 have HR0_2:=qA.mk hr0_2
 have HC0_2:=qA.mk hc0_2
 clear hr0_2 hc0_2
 have HB:=qA.mk (Below.refl w.heap.size w)
 have H:=h
 clear h
 replace H:=Option.bind_eq_some_iff.mp H
 obtain ⟨t156,A30,H⟩:=H
 try dsimp only at H
 have A3:=qA.mk A30
 clear A30
 by_cases c4 : t156 = true
 ·subst c4
  rw [if_pos rfl] at H
  have H':=qA.mk H
  clear H
  go_enter Try.func93,Try.ntmps93
  go_wp2_with (first|((with_reducible refine qP (N:=2) rfl ?_);refine zV (N:=2) (cs:=#[.int .i64 a0_0,.slice A0_1 l0_1.length c0_1,.slice A0_2 l0_2.length c0_2]) (t:=56) ?_;intro gb155 hg w5 hbox hb;have n_:=q_4 (qC byab hb) (hbox) ((byck : w.heap.size ≤ gb155)) ((byck : w.heap.size ≤ gb155));clear HB;obtain ⟨HB,BK155,GW155,GE155⟩:=n_;clear hb hbox hg)|((with_reducible refine qI (f:=73) rfl ?_);refine qY (some 11) rfl rfl Try.func73 (by kernel_rfl) rfl #[.int .i64 a1] rfl byah ?_;(with_reducible refine (vY.calls a1 true _ A3.out).mono ?_);rintro e w' ⟨rfl,⟨nd,rfl⟩⟩;refine ⟨_,rfl,?_⟩;obtain ⟨hcz6_0,hcz6_1,hcz6_2,hfz6_0,hfz6_1,hfz6_2⟩:=cz3 BK155.out))
  go_loopg [5,16] k (fun kq v5 v16 w'=>∃ (x5_1 : Int) (x16_1 : Int),v5 = .int .i64 x5_1∧v16 = .int .i64 x16_1∧qA (qU.l0 kq a1 x5_1 l0_1 (l0_1.length : Int) x16_1 a0_0 l0_1 l0_2 = some r)∧qA (kq ≤ k)∧qA (w'.heap[gb155]? = some (.cells #[.int .i64 a0_0,(.slice A0_1 l0_1.length c0_1),(.slice A0_2 l0_2.length c0_2)] 56 (0,0)))∧qA (Below w.heap.size w w'))
  case atStart=>exact ⟨(0),(0),byae,byae,H',⟨Nat.le_refl _⟩,⟨byaf BK155.out⟩,⟨byad GE155.out⟩⟩
  case round =>
   clear H'
   obtain ⟨x5_1,x16_1,rfl,rfl,HA,HK1,BK155,HB⟩:=hrel
   cases gk with
   | zero=>exact absurd HA.out (by simp [qU.l0])
   | succ k1 =>
    have H:=HA.out
    clear HA
    simp only [qU.l0] at H
    by_cases c7 : x16_1 < (l0_1.length : Int)
    ·rw [if_pos c7] at H
     have c7b0:=decide_eq_true c7
     clear c7
     by_cases c8 : 0 ≤ x16_1
     ·rw [if_pos c8] at H
      have c8b0:=decide_eq_true c8
      clear c8
      by_cases c9 : x16_1 < (l0_1.length : Int)
      ·rw [if_pos c9] at H
       have c9b0:=decide_eq_true c9
       clear c9
       replace H:=Option.bind_eq_some_iff.mp H
       obtain ⟨t158,A100,H⟩:=H
       try dsimp only at H
       have A10:=qA.mk A100
       clear A100
       by_cases c11 : t158 = true
       ·subst c11
        rw [if_pos rfl] at H
        have H':=qA.mk H
        clear H
        have p157 : 0 ≤ (x16_1 : Int):=of_decide_eq_true byag
        have q157 : x16_1 < (l0_1.length : Int):=of_decide_eq_true byag
        obtain ⟨ad157,e157,hx157_0⟩:=Kd.kW HR0_1.out x16_1 p157 q157
        cases e157
        replace hx157_0:=(HB.out.cell (World.block_lt_of_cell? w _ hx157_0)).trans hx157_0
        replace p157:=eq_true p157
        replace q157:=eq_true q157
        go_wp2_with (first|((with_reducible refine qI (f:=62) rfl ?_);refine qY (some 22) rfl rfl Try.func62 (by kernel_rfl) rfl #[.int .i64 a1,.int .i64 (rd l0_1 x16_1)] rfl byah ?_;(with_reducible refine (kR.calls a1 (rd l0_1 x16_1) true _ A10.out).mono ?_);rintro e w' ⟨rfl,⟨nd,rfl⟩⟩;refine ⟨_,rfl,?_⟩))
        go_roundg k1
        case measure=>have:=HK1.out;omega
        case rel=>exact ⟨(wrap64 (x5_1 + 1)),(wrap64 (x16_1 + 1)),byae,byae,H',⟨byai⟩,⟨byaf BK155.out⟩,⟨byad GE155.out⟩⟩
       ·replace c11:=Bool.eq_false_iff.mpr c11
        subst c11
        rw [if_neg (show ¬ (false = true) by decide)] at H
        have H':=qA.mk H
        clear H
        have p157 : 0 ≤ (x16_1 : Int):=of_decide_eq_true byag
        have q157 : x16_1 < (l0_1.length : Int):=of_decide_eq_true byag
        obtain ⟨ad157,e157,hx157_0⟩:=Kd.kW HR0_1.out x16_1 p157 q157
        cases e157
        replace hx157_0:=(HB.out.cell (World.block_lt_of_cell? w _ hx157_0)).trans hx157_0
        replace p157:=eq_true p157
        replace q157:=eq_true q157
        go_wp2_with (first|((with_reducible refine qI (f:=62) rfl ?_);refine qY (some 22) rfl rfl Try.func62 (by kernel_rfl) rfl #[.int .i64 a1,.int .i64 (rd l0_1 x16_1)] rfl byah ?_;(with_reducible refine (kR.calls a1 (rd l0_1 x16_1) false _ A10.out).mono ?_);rintro e w' ⟨rfl,⟨nd,rfl⟩⟩;refine ⟨_,rfl,?_⟩))
        go_roundg k1
        case measure=>have:=HK1.out;omega
        case rel=>exact ⟨(x5_1),(wrap64 (x16_1 + 1)),byae,byae,H',⟨byai⟩,⟨byaf BK155.out⟩,⟨byad GE155.out⟩⟩
      ·rw [if_neg c9] at H
       exact absurd H (by simp)
     ·rw [if_neg c8] at H
      exact absurd H (by simp)
    ·rw [if_neg c7] at H
     have c7b0:=decide_eq_false c7
     clear c7
     have H':=qA.mk H
     clear H
     obtain ⟨hcz12_0,hcz12_1,hcz12_2,hfz12_0,hfz12_1,hfz12_2⟩:=cz3 BK155.out
     go_wp2
     go_loopg [5,29] k1 (fun kq v5 v29 w'=>∃ (x5_2 : Int) (x29_2 : Int),v5 = .int .i64 x5_2∧v29 = .int .i64 x29_2∧qA (qU.l1 kq a1 x5_2 l0_2 (l0_2.length : Int) x29_2 a0_0 l0_1 l0_2 = some r)∧qA (kq ≤ k1)∧qA (w'.heap[gb155]? = some (.cells #[.int .i64 a0_0,(.slice A0_1 l0_1.length c0_1),(.slice A0_2 l0_2.length c0_2)] 56 (0,0)))∧qA (Below w.heap.size w w'))
     case atStart=>exact ⟨(x5_1),(0),byae,byae,H',⟨Nat.le_refl _⟩,⟨byaf BK155.out⟩,⟨byad GE155.out⟩⟩
     case round =>
      clear H'
      try clear hx1
      try clear hx157_0
      obtain ⟨x5_2,x29_2,rfl,rfl,HA,HK2,BK155,HB⟩:=hrel
      cases gk with
      | zero=>exact absurd HA.out (by simp [qU.l1])
      | succ k2 =>
       have H:=HA.out
       clear HA
       simp only [qU.l1] at H
       by_cases c13 : x29_2 < (l0_2.length : Int)
       ·rw [if_pos c13] at H
        have c13b0:=decide_eq_true c13
        clear c13
        by_cases c14 : 0 ≤ x29_2
        ·rw [if_pos c14] at H
         have c14b0:=decide_eq_true c14
         clear c14
         by_cases c15 : x29_2 < (l0_2.length : Int)
         ·rw [if_pos c15] at H
          have c15b0:=decide_eq_true c15
          clear c15
          replace H:=Option.bind_eq_some_iff.mp H
          obtain ⟨t161,A160,H⟩:=H
          try dsimp only at H
          have A16:=qA.mk A160
          clear A160
          by_cases c17 : t161 = true
          ·subst c17
           rw [if_pos rfl] at H
           have H':=qA.mk H
           clear H
           have p159 : 0 ≤ (x29_2 : Int):=of_decide_eq_true byag
           have q159 : x29_2 < (l0_2.length : Int):=of_decide_eq_true byag
           obtain ⟨ad159,A159_1,c159_1,A159_2,c159_2,e159,hx159_0,hx159_1,hx159_2,hl159_1,hi159_1,hl159_2,hi159_2⟩:=Zj HR0_2.out x29_2 p159 q159
           cases e159
           replace hx159_0:=(HB.out.cell (World.block_lt_of_cell? w _ hx159_0)).trans hx159_0
           replace hx159_1:=(HB.out.cell (World.block_lt_of_cell? w _ hx159_1)).trans hx159_1
           replace hx159_2:=(HB.out.cell (World.block_lt_of_cell? w _ hx159_2)).trans hx159_2
           have HR159_1:=qA.mk hi159_1
           have HC159_1:=qA.mk hl159_1
           clear hi159_1 hl159_1
           have HR159_2:=qA.mk hi159_2
           have HC159_2:=qA.mk hl159_2
           clear hi159_2 hl159_2
           replace p159:=eq_true p159
           replace q159:=eq_true q159
           go_wp2_with (first|((with_reducible refine qP (N:=9) rfl ?_);refine zV (N:=9) (cs:=#[.int .i64 0,.slice none 0 0,.slice none 0 0]) (t:=56) ?_;intro gb160 hg w18 hbox hb;have n_:=q_6 (qH BK155.out hb) (qC (byad GE155.out) hb) (hbox) ((bycl GE155.out : w.heap.size ≤ gb160)) ((bycl GE155.out : w.heap.size ≤ gb160)) ((by rw [hg];exact Nat.ne_of_lt (vF BK155.out) : gb155≠gb160));clear BK155 HB;obtain ⟨BK155,HB,BK160,GW160,GE160,NB155_160⟩:=n_;have NB160_155:=ns NB155_160;clear hb hbox hg;have hnb19:=NB160_155.out;have hnc19:=NB155_160.out;obtain ⟨hcz20_0,hcz20_1,hcz20_2,hfz20_0,hfz20_1,hfz20_2⟩:=cz3 BK160.out)|((with_reducible refine qI (f:=93) rfl ?_);refine qY (some 35) rfl rfl Try.func93 (by kernel_rfl) rfl #[.agg #[.int .i64 ((qM l0_2 x29_2).f0),.slice A159_1 ((qM l0_2 x29_2).f1).length c159_1,.slice A159_2 ((qM l0_2 x29_2).f2).length c159_2],.int .i64 a1] rfl byah ?_;(with_reducible refine (ih k2 byar ((qM l0_2 x29_2).f0) _ _ ((qM l0_2 x29_2).f1) _ _ ((qM l0_2 x29_2).f2) a1 true _ ?side1 ?side2 ?side3 ?side4 A16.out).mono ?_);(case side1=>exact Kd.vU HR159_1.out (byaj GE155.out GE160.out));(case side2=>exact HC159_1.out);(case side3=>exact Kd.vU HR159_2.out (byaj GE155.out GE160.out));(case side4=>exact HC159_2.out);rintro e w21 ⟨rfl,hb⟩;refine ⟨_,rfl,?_⟩;have n_:=q_3 (jQ (g:=gb155) (o:=.cells #[.int .i64 a0_0,.slice A0_1 l0_1.length c0_1,.slice (some ad159) l0_2.length c0_2] 56 (0,0)) (byak NB155_160.out BK155.out) hb) (jQ (g:=gb160) (o:=.cells #[.int .i64 ((qM l0_2 x29_2).f0),.slice A159_1 ((qM l0_2 x29_2).f1).length c159_1,.slice A159_2 ((qM l0_2 x29_2).f2).length c159_2] 56 (0,0)) (by (with_reducible repeat (first|refine qF ?_ _|refine qG ?_|refine qE ?_ _));refine qO (cs:=#[.int .i64 ((qM l0_2 x29_2).f0),.slice A159_1 ((qM l0_2 x29_2).f1).length c159_1,.slice none 0 0]) ?_ 2 _ rfl;(with_reducible repeat (first|refine qF ?_ _|refine qG ?_|refine qE ?_ _));refine qO (cs:=#[.int .i64 ((qM l0_2 x29_2).f0),.slice none 0 0,.slice none 0 0]) ?_ 1 _ rfl;(with_reducible repeat (first|refine qF ?_ _|refine qG ?_|refine qE ?_ _));refine qO (cs:=#[.int .i64 0,.slice none 0 0,.slice none 0 0]) ?_ 0 _ rfl;(with_reducible repeat (first|refine qF ?_ _|refine qG ?_|refine qE ?_ _));exact BK160.out) hb) (qC (byaj GE155.out GE160.out) hb);clear BK155 BK160 HB;obtain ⟨BK155,BK160,HB⟩:=n_;clear hb))
           go_roundg k2
           case measure=>have:=HK1.out;have:=HK2.out;omega
           case rel=>exact ⟨(wrap64 (x5_2 + 1)),(wrap64 (x29_2 + 1)),byae,byae,H',⟨byar⟩,⟨byaf BK155.out⟩,⟨byaj GE155.out GE160.out⟩⟩
          ·replace c17:=Bool.eq_false_iff.mpr c17
           subst c17
           rw [if_neg (show ¬ (false = true) by decide)] at H
           have H':=qA.mk H
           clear H
           have p159 : 0 ≤ (x29_2 : Int):=of_decide_eq_true byag
           have q159 : x29_2 < (l0_2.length : Int):=of_decide_eq_true byag
           obtain ⟨ad159,A159_1,c159_1,A159_2,c159_2,e159,hx159_0,hx159_1,hx159_2,hl159_1,hi159_1,hl159_2,hi159_2⟩:=Zj HR0_2.out x29_2 p159 q159
           cases e159
           replace hx159_0:=(HB.out.cell (World.block_lt_of_cell? w _ hx159_0)).trans hx159_0
           replace hx159_1:=(HB.out.cell (World.block_lt_of_cell? w _ hx159_1)).trans hx159_1
           replace hx159_2:=(HB.out.cell (World.block_lt_of_cell? w _ hx159_2)).trans hx159_2
           have HR159_1:=qA.mk hi159_1
           have HC159_1:=qA.mk hl159_1
           clear hi159_1 hl159_1
           have HR159_2:=qA.mk hi159_2
           have HC159_2:=qA.mk hl159_2
           clear hi159_2 hl159_2
           replace p159:=eq_true p159
           replace q159:=eq_true q159
           go_wp2_with (first|((with_reducible refine qP (N:=9) rfl ?_);refine zV (N:=9) (cs:=#[.int .i64 0,.slice none 0 0,.slice none 0 0]) (t:=56) ?_;intro gb160 hg w22 hbox hb;have n_:=q_6 (qH BK155.out hb) (qC (byad GE155.out) hb) (hbox) ((bycl GE155.out : w.heap.size ≤ gb160)) ((bycl GE155.out : w.heap.size ≤ gb160)) ((by rw [hg];exact Nat.ne_of_lt (vF BK155.out) : gb155≠gb160));clear BK155 HB;obtain ⟨BK155,HB,BK160,GW160,GE160,NB155_160⟩:=n_;have NB160_155:=ns NB155_160;clear hb hbox hg;have hnb23:=NB160_155.out;have hnc23:=NB155_160.out;obtain ⟨hcz24_0,hcz24_1,hcz24_2,hfz24_0,hfz24_1,hfz24_2⟩:=cz3 BK160.out)|((with_reducible refine qI (f:=93) rfl ?_);refine qY (some 35) rfl rfl Try.func93 (by kernel_rfl) rfl #[.agg #[.int .i64 ((qM l0_2 x29_2).f0),.slice A159_1 ((qM l0_2 x29_2).f1).length c159_1,.slice A159_2 ((qM l0_2 x29_2).f2).length c159_2],.int .i64 a1] rfl byah ?_;(with_reducible refine (ih k2 byar ((qM l0_2 x29_2).f0) _ _ ((qM l0_2 x29_2).f1) _ _ ((qM l0_2 x29_2).f2) a1 false _ ?side1 ?side2 ?side3 ?side4 A16.out).mono ?_);(case side1=>exact Kd.vU HR159_1.out (byaj GE155.out GE160.out));(case side2=>exact HC159_1.out);(case side3=>exact Kd.vU HR159_2.out (byaj GE155.out GE160.out));(case side4=>exact HC159_2.out);rintro e w25 ⟨rfl,hb⟩;refine ⟨_,rfl,?_⟩;have n_:=q_3 (jQ (g:=gb155) (o:=.cells #[.int .i64 a0_0,.slice A0_1 l0_1.length c0_1,.slice (some ad159) l0_2.length c0_2] 56 (0,0)) (byak NB155_160.out BK155.out) hb) (jQ (g:=gb160) (o:=.cells #[.int .i64 ((qM l0_2 x29_2).f0),.slice A159_1 ((qM l0_2 x29_2).f1).length c159_1,.slice A159_2 ((qM l0_2 x29_2).f2).length c159_2] 56 (0,0)) (by (with_reducible repeat (first|refine qF ?_ _|refine qG ?_|refine qE ?_ _));refine qO (cs:=#[.int .i64 ((qM l0_2 x29_2).f0),.slice A159_1 ((qM l0_2 x29_2).f1).length c159_1,.slice none 0 0]) ?_ 2 _ rfl;(with_reducible repeat (first|refine qF ?_ _|refine qG ?_|refine qE ?_ _));refine qO (cs:=#[.int .i64 ((qM l0_2 x29_2).f0),.slice none 0 0,.slice none 0 0]) ?_ 1 _ rfl;(with_reducible repeat (first|refine qF ?_ _|refine qG ?_|refine qE ?_ _));refine qO (cs:=#[.int .i64 0,.slice none 0 0,.slice none 0 0]) ?_ 0 _ rfl;(with_reducible repeat (first|refine qF ?_ _|refine qG ?_|refine qE ?_ _));exact BK160.out) hb) (qC (byaj GE155.out GE160.out) hb);clear BK155 BK160 HB;obtain ⟨BK155,BK160,HB⟩:=n_;clear hb))
           go_roundg k2
           case measure=>have:=HK1.out;have:=HK2.out;omega
           case rel=>exact ⟨(x5_2),(wrap64 (x29_2 + 1)),byae,byae,H',⟨byar⟩,⟨byaf BK155.out⟩,⟨byaj GE155.out GE160.out⟩⟩
         ·rw [if_neg c15] at H
          exact absurd H (by simp)
        ·rw [if_neg c14] at H
         exact absurd H (by simp)
       ·rw [if_neg c13] at H
        have c13b0:=decide_eq_false c13
        clear c13
        obtain rfl:=Option.some.inj H
        obtain ⟨hcz26_0,hcz26_1,hcz26_2,hfz26_0,hfz26_1,hfz26_2⟩:=cz3 BK155.out
        go_wp2
        go_ret
        exact ⟨byac,byad GE155.out⟩
 ·replace c4:=Bool.eq_false_iff.mpr c4
  subst c4
  rw [if_neg (show ¬ (false = true) by decide)] at H
  obtain rfl:=Option.some.inj H
  go_enter Try.func93,Try.ntmps93
  go_wp2_with (first|((with_reducible refine qP (N:=2) rfl ?_);refine zV (N:=2) (cs:=#[.int .i64 a0_0,.slice A0_1 l0_1.length c0_1,.slice A0_2 l0_2.length c0_2]) (t:=56) ?_;intro gb155 hg w27 hbox hb;have n_:=q_4 (qC byab hb) (hbox) ((byck : w.heap.size ≤ gb155)) ((byck : w.heap.size ≤ gb155));clear HB;obtain ⟨HB,BK155,GW155,GE155⟩:=n_;clear hb hbox hg)|((with_reducible refine qI (f:=73) rfl ?_);refine qY (some 11) rfl rfl Try.func73 (by kernel_rfl) rfl #[.int .i64 a1] rfl byah ?_;(with_reducible refine (vY.calls a1 false _ A3.out).mono ?_);rintro e w' ⟨rfl,⟨nd,rfl⟩⟩;refine ⟨_,rfl,?_⟩))
  go_ret
  exact ⟨byac,byad GE155.out⟩
def uH.f (k : Nat) (l0_0 : List (S58)) (a1 : Int) (a2 : Int) : Option (Bool):=if 0 ≤ a1 then (if a1 < (l0_0.length : Int) then ((qU.f k ((zD l0_0 a1).f1.f0) ((zD l0_0 a1).f1.f1) ((zD l0_0 a1).f1.f2) a2).bind fun t164=>(some t164)) else (none)) else (none)
theorem uH.mono : ∀ a0 a1 a2 k,LeO (uH.f k a0 a1 a2) (uH.f (k + 1) a0 a1 a2):=by
 intro a0 a1 a2 k
 unfold uH.f
 repeat' first
   | (with_reducible exact qU.mono _ _ _ _ _)
   | (with_reducible exact LeO.refl _)
   | (with_reducible exact LeO.none _)
   | (with_reducible refine LeO.ite ?_ ?_)
   | (with_reducible refine LeO.bind ?_ (fun _=>?_))
   | exact qU.mono _ _ _ _ _
   | exact LeO.none _
   | refine LeO.ite ?_ ?_
   | refine LeO.bind ?_ (fun _=>?_)
set_option maxHeartbeats 8000000 in
set_option maxRecDepth 100000 in
theorem uH.calls (k : Nat) (A0_0 : Option Addr) (c0_0 : Nat) (l0_0 : List (S58)) (a1 : Int) (a2 : Int) (r : Bool) (w : World) (hr0_0 : Kd.C k58 w A0_0 l0_0.length l0_0) (hc0_0 : l0_0.length ≤ c0_0) (h : uH.f k l0_0 a1 a2 = some r) :
  Calls Try.prog 87 #[.agg #[.slice A0_0 l0_0.length c0_0],.int .i64 a1,.int .i64 a2] w fun e w'=>e = .returned (.bool r)∧Below w.heap.size w w':=by
 have hu25:=Try.underlying25
 have hu56:=Try.underlying56
 have HR0_0:=qA.mk hr0_0
 have HC0_0:=qA.mk hc0_0
 clear hr0_0 hc0_0
 have HB:=qA.mk (Below.refl w.heap.size w)
 unfold uH.f at h
 have H:=h
 clear h
 by_cases c4 : 0 ≤ a1
 ·rw [if_pos c4] at H
  have c4b0:=decide_eq_true c4
  clear c4
  by_cases c5 : a1 < (l0_0.length : Int)
  ·rw [if_pos c5] at H
   have c5b0:=decide_eq_true c5
   clear c5
   replace H:=Option.bind_eq_some_iff.mp H
   obtain ⟨t164,A60,H⟩:=H
   try dsimp only at H
   have A6:=qA.mk A60
   clear A60
   obtain rfl:=Option.some.inj H
   go_enter Try.func87,Try.ntmps87
   go_wp2_with (first|((with_reducible refine qP (N:=3) rfl ?_);refine zV (N:=3) (cs:=#[.slice A0_0 l0_0.length c0_0]) (t:=25) ?_;intro gb162 hg w7 hbox hb;have n_:=q_4 (qC byab hb) (hbox) ((byck : w.heap.size ≤ gb162)) ((byck : w.heap.size ≤ gb162));clear HB;obtain ⟨HB,BK162,GW162,GE162⟩:=n_;clear hb hbox hg;obtain ⟨hcz8_0,hfz8_0⟩:=cz1 BK162.out;have p163 : 0 ≤ (a1 : Int):=of_decide_eq_true byag;have q163 : a1 < (l0_0.length : Int):=of_decide_eq_true byag;obtain ⟨ad163,A163_2,c163_2,A163_3,c163_3,e163,hx163_0,hx163_1,hx163_2,hx163_3,hl163_2,hi163_2,hl163_3,hi163_3⟩:=Zm HR0_0.out a1 p163 q163;cases e163;replace hx163_0:=(HB.out.cell (World.block_lt_of_cell? w _ hx163_0)).trans hx163_0;replace hx163_1:=(HB.out.cell (World.block_lt_of_cell? w _ hx163_1)).trans hx163_1;replace hx163_2:=(HB.out.cell (World.block_lt_of_cell? w _ hx163_2)).trans hx163_2;replace hx163_3:=(HB.out.cell (World.block_lt_of_cell? w _ hx163_3)).trans hx163_3;have HR163_2:=qA.mk hi163_2;have HC163_2:=qA.mk hl163_2;clear hi163_2 hl163_2;have HR163_3:=qA.mk hi163_3;have HC163_3:=qA.mk hl163_3;clear hi163_3 hl163_3;replace p163:=eq_true p163;replace q163:=eq_true q163)|((with_reducible refine qI (f:=93) rfl ?_);refine qY (some 14) rfl rfl Try.func93 (by kernel_rfl) rfl #[.agg #[.int .i64 ((zD l0_0 a1).f1.f0),.slice A163_2 ((zD l0_0 a1).f1.f1).length c163_2,.slice A163_3 ((zD l0_0 a1).f1.f2).length c163_3],.int .i64 a2] rfl byah ?_;(with_reducible refine (qU.calls k ((zD l0_0 a1).f1.f0) _ _ ((zD l0_0 a1).f1.f1) _ _ ((zD l0_0 a1).f1.f2) a2 t164 _ ?side1 ?side2 ?side3 ?side4 A6.out).mono ?_);(case side1=>exact byaq HR163_2.out);(case side2=>exact HC163_2.out);(case side3=>exact byaq HR163_3.out);(case side4=>exact HC163_3.out);rintro e w9 ⟨rfl,hb⟩;refine ⟨_,rfl,?_⟩;have n_:=q_2 (qH BK162.out hb) (qC (byad GE162.out) hb);clear BK162 HB;obtain ⟨BK162,HB⟩:=n_;clear hb))
   go_ret
   exact ⟨byac,byad GE162.out⟩
  ·rw [if_neg c5] at H
   exact absurd H (by simp)
 ·rw [if_neg c4] at H
  exact absurd H (by simp)
def jG.l0 : Nat→Int→List Int→Int→Int→List (S58)→Option (Int × Bool)
 | 0,_,_,_,_,_=>none
 | k + 1,x1,x9,x10,x11,x166000=>if x11 < x10 then (if 0 ≤ x11 then (if x11 < (x9.length : Int) then ((uH.f k x166000 (rd x9 x11) x1).bind fun t170=>(if t170 = true then (jG.l0 k x1 x9 x10 (wrap64 (x11 + 1)) x166000) else (some (rd x9 x11,true)))) else (none)) else (none)) else (some (0,false))
def jG.f (k : Nat) (l0_0 : List (S58)) (a1 : Int) : Option (Int × Bool):=(jU.f k a1).bind fun t166=>(jG.l0 k a1 t166 (t166.length : Int) 0 l0_0)
theorem jG.mono_l : ∀ k,(∀ y0 y1 y2 y3 y4,LeO (jG.l0 k y0 y1 y2 y3 y4) (jG.l0 (k + 1) y0 y1 y2 y3 y4))
 | 0=>fun _ _ _ _ _ r h=>by simp [jG.l0] at h
 | k + 1=>by
  have ih0:=jG.mono_l k
  ·intro y0 y1 y2 y3 y4
   unfold jG.l0
   repeat' first
   | (with_reducible exact ih0 _ _ _ _ _)
   | (with_reducible exact uH.mono _ _ _ _)
   | (with_reducible exact jU.mono _ _)
   | (with_reducible exact LeO.refl _)
   | (with_reducible exact LeO.none _)
   | (with_reducible refine LeO.ite ?_ ?_)
   | (with_reducible refine LeO.bind ?_ (fun _=>?_))
   | exact ih0 _ _ _ _ _
   | exact uH.mono _ _ _ _
   | exact jU.mono _ _
   | exact LeO.none _
   | refine LeO.ite ?_ ?_
   | refine LeO.bind ?_ (fun _=>?_)
theorem jG.mono : ∀ a0 a1 k,LeO (jG.f k a0 a1) (jG.f (k + 1) a0 a1):=by
 intro a0 a1 k
 have ih0:=jG.mono_l k
 unfold jG.f
 repeat' first
   | (with_reducible exact ih0 _ _ _ _ _)
   | (with_reducible exact uH.mono _ _ _ _)
   | (with_reducible exact jU.mono _ _)
   | (with_reducible exact LeO.refl _)
   | (with_reducible exact LeO.none _)
   | (with_reducible refine LeO.ite ?_ ?_)
   | (with_reducible refine LeO.bind ?_ (fun _=>?_))
   | exact ih0 _ _ _ _ _
   | exact uH.mono _ _ _ _
   | exact jU.mono _ _
   | exact LeO.none _
   | refine LeO.ite ?_ ?_
   | refine LeO.bind ?_ (fun _=>?_)
set_option maxHeartbeats 8000000 in
set_option maxRecDepth 100000 in
theorem jG.calls (k : Nat) (A0_0 : Option Addr) (c0_0 : Nat) (l0_0 : List (S58)) (a1 : Int) (r1 : Int) (r2 : Bool) (w : World) (hr0_0 : Kd.C k58 w A0_0 l0_0.length l0_0) (hc0_0 : l0_0.length ≤ c0_0) (h : jG.f k l0_0 a1 = some (r1,r2)) :
  Calls Try.prog 75 #[.agg #[.slice A0_0 l0_0.length c0_0],.int .i64 a1] w fun e w'=>e = .returned (.tuple #[.int .i64 r1,.bool r2])∧Below w.heap.size w w':=by
 have hu25:=Try.underlying25
 have HR0_0:=qA.mk hr0_0
 have HC0_0:=qA.mk hc0_0
 clear hr0_0 hc0_0
 have HB:=qA.mk (Below.refl w.heap.size w)
 unfold jG.f at h
 have H:=h
 clear h
 replace H:=Option.bind_eq_some_iff.mp H
 obtain ⟨t166,A30,H⟩:=H
 try dsimp only at H
 have A3:=qA.mk A30
 clear A30
 have H':=qA.mk H
 clear H
 go_enter Try.func75,Try.ntmps75
 go_wp2_with (first|((with_reducible refine qP (N:=2) rfl ?_);refine zV (N:=2) (cs:=#[.slice A0_0 l0_0.length c0_0]) (t:=25) ?_;intro gb165 hg w4 hbox hb;have n_:=q_4 (qC byab hb) (hbox) ((byck : w.heap.size ≤ gb165)) ((byck : w.heap.size ≤ gb165));clear HB;obtain ⟨HB,BK165,GW165,GE165⟩:=n_;clear hb hbox hg)|((with_reducible refine qI (f:=61) rfl ?_);refine qY (some 9) rfl rfl Try.func61 (by kernel_rfl) rfl #[.int .i64 a1] rfl byah ?_;(with_reducible refine (jU.calls k a1 t166 _ A3.out).mono ?_);rintro e w5 ⟨v167,rfl,ho0,hb⟩;refine ⟨_,rfl,?_⟩;have n_:=q_3 (Kd.uZ ho0 (jX (byad GE165.out))) (qH BK165.out hb) (qC (byad GE165.out) hb);clear BK165 HB;obtain ⟨HO168,BK165,HB⟩:=n_;clear hb;(try clear ho0);obtain ⟨Ao6,co6,eo6⟩:=Kd.vJ HO168.out;subst eo6))
 go_loopg [11] k (fun kq v11 w'=>∃ (x11_1 : Int),v11 = .int .i64 x11_1∧qA (jG.l0 kq a1 t166 (t166.length : Int) x11_1 l0_0 = some (r1,r2))∧qA (kq ≤ k)∧qA (Kd.R (Kd.int .i64) 3 w' w.heap.size (fun _=>True) (.slice Ao6 t166.length co6) t166)∧qA (w'.heap[gb165]? = some (.cells #[(.slice A0_0 l0_0.length c0_0)] 25 (0,0)))∧qA (Below w.heap.size w w'))
 case atStart=>exact ⟨(0),byae,H',⟨Nat.le_refl _⟩,⟨byav HO168.out⟩,⟨byaf BK165.out⟩,⟨byad GE165.out⟩⟩
 case round =>
  clear H'
  obtain ⟨x11_1,rfl,HA,HK1,HO_9,BK165,HB⟩:=hrel
  cases gk with
  | zero=>exact absurd HA.out (by simp [jG.l0])
  | succ k1 =>
   have H:=HA.out
   clear HA
   simp only [jG.l0] at H
   by_cases c7 : x11_1 < (t166.length : Int)
   ·rw [if_pos c7] at H
    have c7b0:=decide_eq_true c7
    clear c7
    by_cases c8 : 0 ≤ x11_1
    ·rw [if_pos c8] at H
     have c8b0:=decide_eq_true c8
     clear c8
     by_cases c9 : x11_1 < (t166.length : Int)
     ·rw [if_pos c9] at H
      have c9b0:=decide_eq_true c9
      clear c9
      replace H:=Option.bind_eq_some_iff.mp H
      obtain ⟨t170,A100,H⟩:=H
      try dsimp only at H
      have A10:=qA.mk A100
      clear A100
      by_cases c11 : t170 = true
      ·subst c11
       rw [if_pos rfl] at H
       have H':=qA.mk H
       clear H
       have p169 : 0 ≤ (x11_1 : Int):=of_decide_eq_true byag
       have q169 : x11_1 < (t166.length : Int):=of_decide_eq_true byag
       obtain ⟨ad169,e169,hx169_0⟩:=Kd.kW (Kd.uM HO_9.out).2.2 x11_1 p169 q169
       cases e169
       replace p169:=eq_true p169
       replace q169:=eq_true q169
       obtain ⟨hcz12_0,hfz12_0⟩:=cz1 BK165.out
       go_wp2_with (first|((with_reducible refine qI (f:=87) rfl ?_);refine qY (some 18) rfl rfl Try.func87 (by kernel_rfl) rfl #[.agg #[.slice A0_0 l0_0.length c0_0],.int .i64 (rd t166 x11_1),.int .i64 a1] rfl byah ?_;(with_reducible refine (uH.calls k1 _ _ l0_0 (rd t166 x11_1) a1 true _ ?side1 ?side2 A10.out).mono ?_);(case side1=>exact byaq HR0_0.out);(case side2=>exact HC0_0.out);rintro e w13 ⟨rfl,hb⟩;refine ⟨_,rfl,?_⟩;have n_:=q_3 (Kd.uP (byav HO_9.out) hb) (qH BK165.out hb) (qC (byad GE165.out) hb);clear HO_9 BK165 HB;obtain ⟨HO_9,BK165,HB⟩:=n_;clear hb))
       go_roundg k1
       case measure=>have:=HK1.out;omega
       case rel=>exact ⟨(wrap64 (x11_1 + 1)),byae,H',⟨byai⟩,⟨byav HO_9.out⟩,⟨byaf BK165.out⟩,⟨byad GE165.out⟩⟩
      ·replace c11:=Bool.eq_false_iff.mpr c11
       subst c11
       rw [if_neg (show ¬ (false = true) by decide)] at H
       simp only [Option.some.injEq,Prod.mk.injEq] at H
       obtain ⟨rfl,rfl⟩:=H
       have p169 : 0 ≤ (x11_1 : Int):=of_decide_eq_true byag
       have q169 : x11_1 < (t166.length : Int):=of_decide_eq_true byag
       obtain ⟨ad169,e169,hx169_0⟩:=Kd.kW (Kd.uM HO_9.out).2.2 x11_1 p169 q169
       cases e169
       replace p169:=eq_true p169
       replace q169:=eq_true q169
       obtain ⟨hcz14_0,hfz14_0⟩:=cz1 BK165.out
       go_wp2_with (first|((with_reducible refine qI (f:=87) rfl ?_);refine qY (some 18) rfl rfl Try.func87 (by kernel_rfl) rfl #[.agg #[.slice A0_0 l0_0.length c0_0],.int .i64 (rd t166 x11_1),.int .i64 a1] rfl byah ?_;(with_reducible refine (uH.calls k1 _ _ l0_0 (rd t166 x11_1) a1 false _ ?side1 ?side2 A10.out).mono ?_);(case side1=>exact byaq HR0_0.out);(case side2=>exact HC0_0.out);rintro e w15 ⟨rfl,hb⟩;refine ⟨_,rfl,?_⟩;have n_:=q_3 (Kd.uP (byav HO_9.out) hb) (qH BK165.out hb) (qC (byad GE165.out) hb);clear HO_9 BK165 HB;obtain ⟨HO_9,BK165,HB⟩:=n_;clear hb))
       go_ret2
       exact ⟨byac,byad GE165.out⟩
     ·rw [if_neg c9] at H
      exact absurd H (by simp)
    ·rw [if_neg c8] at H
     exact absurd H (by simp)
   ·rw [if_neg c7] at H
    have c7b0:=decide_eq_false c7
    clear c7
    simp only [Option.some.injEq,Prod.mk.injEq] at H
    obtain ⟨rfl,rfl⟩:=H
    go_wp2
    go_ret2
    exact ⟨byac,byad GE165.out⟩
end Go.Proofs.Ytkkbdimegpdbgaa.P
