/- Functions of the program as Lean functions, and the walks that show that the calls answer so; written by a program of this session (a changed print) and by hand. -/
import Derived.Test.YtkkbdimegpdbgaaQsPx0
import Derived.Test.YtkkbdimegpdbgaaQsPx1
import Derived.Test.YtkkbdimegpdbgaaQsPx2
namespace Go.Proofs.Ytkkbdimegpdbgaa.P
open Go.RowKit Go.Proofs.YtkkbdimegpdbgaaW.PrintWords Go.Proofs.YtkkbdimegpdbgaaW.PrintLast Go.Proofs.YtkkbdimegpdbgaaW.PrintMore
attribute [local go_sem] kF kD kV kU uJ uK kG kE
set_option linter.unusedVariables false
set_option linter.unusedSimpArgs false
def vN.f (k : Nat) (a0_0 : Bool) (a0_1 : Int) (l0_2 : List Int) (l0_3 : List (S56)) (a1 : Int) : Option (Int):=if a0_0 = true then ((uN.f k a0_1 l0_2 l0_3).bind fun t133=>(if t133 = 0 then ((zO.f k a0_1 l0_2 l0_3).bind fun t134=>(if 0 ≤ a1 then (if t134 ≥ (shl .i64 1 a1) then (some 5) else (some 0)) else (none))) else (some t133))) else ((kS.f a0_1 l0_2 l0_3).bind fun t132=>(if t132 = true then (some 0) else (some 1)))
theorem vN.mono : ∀ a0 a1 a2 a3 a4 k,LeO (vN.f k a0 a1 a2 a3 a4) (vN.f (k + 1) a0 a1 a2 a3 a4):=by
 intro a0 a1 a2 a3 a4 k
 unfold vN.f
 repeat' first
   | (with_reducible exact zO.mono _ _ _ _)
   | (with_reducible exact uN.mono _ _ _ _)
   | (with_reducible exact LeO.refl _)
   | (with_reducible exact LeO.none _)
   | (with_reducible refine LeO.ite ?_ ?_)
   | (with_reducible refine LeO.bind ?_ (fun _=>?_))
   | exact zO.mono _ _ _ _
   | exact uN.mono _ _ _ _
   | exact LeO.none _
   | refine LeO.ite ?_ ?_
   | refine LeO.bind ?_ (fun _=>?_)
set_option maxHeartbeats 8000000 in
set_option maxRecDepth 100000 in
theorem vN.calls (k : Nat) (a0_0 : Bool) (a0_1 : Int) (A0_2 : Option Addr) (c0_2 : Nat) (l0_2 : List Int) (A0_3 : Option Addr) (c0_3 : Nat) (l0_3 : List (S56)) (a1 : Int) (r : Int) (w : World) (hr0_2 : Kd.C (Kd.int .i64) w A0_2 l0_2.length l0_2) (hc0_2 : l0_2.length ≤ c0_2) (hr0_3 : Kd.C k56 w A0_3 l0_3.length l0_3) (hc0_3 : l0_3.length ≤ c0_3) (h : vN.f k a0_0 a0_1 l0_2 l0_3 a1 = some r) :
  Calls Try.prog 49 #[.agg #[.bool a0_0,.int .i64 a0_1,.slice A0_2 l0_2.length c0_2,.slice A0_3 l0_3.length c0_3],.int .i64 a1] w fun e w'=>e = .returned (.int .i64 r)∧Below w.heap.size w w':=by
 have hu58:=Try.underlying58
 have hu56:=Try.underlying56
 have HR0_2:=qA.mk hr0_2
 have HC0_2:=qA.mk hc0_2
 clear hr0_2 hc0_2
 have HR0_3:=qA.mk hr0_3
 have HC0_3:=qA.mk hc0_3
 clear hr0_3 hc0_3
 have HB:=qA.mk (Below.refl w.heap.size w)
 unfold vN.f at h
 have H:=h
 clear h
 by_cases c3 : a0_0 = true
 ·subst c3
  rw [if_pos rfl] at H
  replace H:=Option.bind_eq_some_iff.mp H
  obtain ⟨t133,A40,H⟩:=H
  try dsimp only at H
  have A4:=qA.mk A40
  clear A40
  by_cases c5 : t133 = 0
  ·rw [if_pos c5] at H
   obtain ⟨c5b0,c5b1⟩:=eqT c5
   clear c5
   replace H:=Option.bind_eq_some_iff.mp H
   obtain ⟨t134,A60,H⟩:=H
   try dsimp only at H
   have A6:=qA.mk A60
   clear A60
   by_cases c7 : 0 ≤ a1
   ·rw [if_pos c7] at H
    have c7b0:=eq_true c7
    have c7b1:=decide_eq_true c7
    clear c7
    obtain ⟨ji8,hji8⟩ : ∃ j_ : Int,(shl .i64 1 a1) = j_:=⟨_,rfl⟩
    (first|rw [hji8] at H|(simp only [hji8] at H))
    (try rw [hji8] at A4)
    (try rw [hji8] at A6)
    obtain ⟨hji8_,hji8z,hji8u,hji8v,hji8y,hji8x⟩:=jiA hji8
    by_cases c9 : t134 ≥ (ji8)
    ·rw [if_pos c9] at H
     have c9b0:=decide_eq_true c9
     clear c9
     obtain rfl:=Option.some.inj H
     go_enter Try.func49,Try.ntmps49
     try go_wp2_with (first|((with_reducible refine qP (N:=2) rfl ?_);refine zV (N:=2) (cs:=#[.bool true,.int .i64 a0_1,.slice A0_2 l0_2.length c0_2,.slice A0_3 l0_3.length c0_3]) (t:=58) ?_;intro gb131 hg w10 hbox hb;have n_:=q_4 (qC byab hb) (hbox) ((byck : w.heap.size ≤ gb131)) ((byck : w.heap.size ≤ gb131));clear HB;obtain ⟨HB,BK131,GW131,GE131⟩:=n_;clear hb hbox hg;obtain ⟨hcz11_0,hcz11_1,hcz11_2,hcz11_3,hfz11_0,hfz11_1,hfz11_2,hfz11_3⟩:=cz4 BK131.out)|((with_reducible refine qI (f:=69) rfl ?_);refine qY (some 15) rfl rfl Try.func69 (by kernel_rfl) rfl #[.agg #[.int .i64 a0_1,.slice A0_2 l0_2.length c0_2,.slice A0_3 l0_3.length c0_3]] rfl byah ?_;(with_reducible refine (uN.calls k a0_1 _ _ l0_2 _ _ l0_3 t133 _ ?side1 ?side2 ?side3 ?side4 A4.out).mono ?_);(case side1=>exact byaq HR0_2.out);(case side2=>exact HC0_2.out);(case side3=>exact byaq HR0_3.out);(case side4=>exact HC0_3.out);rintro e w12 ⟨rfl,hb⟩;refine ⟨_,rfl,?_⟩;have n_:=q_2 (qH BK131.out hb) (qC (byad GE131.out) hb);clear BK131 HB;obtain ⟨BK131,HB⟩:=n_;clear hb))
     have n_:=q_2 (qG BK131.out) (vI HB.out)
     clear BK131 HB
     obtain ⟨BK131,HB⟩:=n_
     refine Qm (n:=6) (S:=fun w'=>w'.cell? ⟨gb131,0,none⟩ = some (.bool true)∧w'.cell? ⟨gb131,1,none⟩ = some (.int .i64 a0_1)∧w'.cell? ⟨gb131,2,none⟩ = some (.slice A0_2 l0_2.length c0_2)∧w'.cell? ⟨gb131,3,none⟩ = some (.slice A0_3 l0_3.length c0_3)) (ds:=[]) (bb 6 0) (by kernel_rfl) rfl rfl (cv4 BK131.out) (fun hHeld=>?_)
     generalize w12.drew = w13 at BK131 HB hHeld ⊢
     refine Qr (i:=0) (N:=some 19) (bb 6 1) ?_
     refine Qr (i:=3) (N:=some 22) (bb 6 9) ?_
     refine Qr (i:=4) (N:=some 23) (bb 6 25) ?_
     refine takeZA (i:=1) (N:=some 20) (bb 6 27) hHeld ?_
     refine one_ (i:=2) (N:=some 21) (bb 6 31) rfl rfl (by kernel_rfl) (by decide) (fun K hK=>?_)
     refine Qg Try.func70 (by kernel_rfl) rfl #[.agg #[.int .i64 a0_1,.slice A0_2 l0_2.length c0_2,.slice A0_3 l0_3.length c0_3]] (by rfl) rfl rfl byah ?_
     with_reducible refine (zO.calls k a0_1 _ _ l0_2 _ _ l0_3 t134 _ ?side1 ?side2 ?side3 ?side4 A6.out).mono ?_
     (case side1=>exact byaq HR0_2.out)
     (case side2=>exact HC0_2.out)
     (case side3=>exact byaq HR0_3.out)
     (case side4=>exact HC0_3.out)
     rintro e w14 ⟨rfl,hb⟩
     refine ⟨_,rfl,?_⟩
     have n_:=q_2 (qH BK131.out hb) (qC (byad GE131.out) hb)
     clear BK131 HB
     obtain ⟨BK131,HB⟩:=n_
     (try clear hb)
     (try clear hb2)
     (try clear hk)
     (try clear hi)
     refine hK.out _ _ (cv4 BK131.out) (fun hHeld=>?_)
     clear hK K
     refine kN (N:=some 21) ?_
     refine Qr (i:=5) (N:=some 24) (bb 6 63) ?_
     refine Ze (by kernel_rfl) ?_
     try go_wp2
     go_ret
     exact ⟨byas,byad GE131.out⟩
    ·rw [if_neg c9] at H
     have c9b0:=decide_eq_false c9
     clear c9
     obtain rfl:=Option.some.inj H
     go_enter Try.func49,Try.ntmps49
     try go_wp2_with (first|((with_reducible refine qP (N:=2) rfl ?_);refine zV (N:=2) (cs:=#[.bool true,.int .i64 a0_1,.slice A0_2 l0_2.length c0_2,.slice A0_3 l0_3.length c0_3]) (t:=58) ?_;intro gb131 hg w15 hbox hb;have n_:=q_4 (qC byab hb) (hbox) ((byck : w.heap.size ≤ gb131)) ((byck : w.heap.size ≤ gb131));clear HB;obtain ⟨HB,BK131,GW131,GE131⟩:=n_;clear hb hbox hg;obtain ⟨hcz16_0,hcz16_1,hcz16_2,hcz16_3,hfz16_0,hfz16_1,hfz16_2,hfz16_3⟩:=cz4 BK131.out)|((with_reducible refine qI (f:=69) rfl ?_);refine qY (some 15) rfl rfl Try.func69 (by kernel_rfl) rfl #[.agg #[.int .i64 a0_1,.slice A0_2 l0_2.length c0_2,.slice A0_3 l0_3.length c0_3]] rfl byah ?_;(with_reducible refine (uN.calls k a0_1 _ _ l0_2 _ _ l0_3 t133 _ ?side1 ?side2 ?side3 ?side4 A4.out).mono ?_);(case side1=>exact byaq HR0_2.out);(case side2=>exact HC0_2.out);(case side3=>exact byaq HR0_3.out);(case side4=>exact HC0_3.out);rintro e w17 ⟨rfl,hb⟩;refine ⟨_,rfl,?_⟩;have n_:=q_2 (qH BK131.out hb) (qC (byad GE131.out) hb);clear BK131 HB;obtain ⟨BK131,HB⟩:=n_;clear hb))
     have n_:=q_2 (qG BK131.out) (vI HB.out)
     clear BK131 HB
     obtain ⟨BK131,HB⟩:=n_
     refine Qm (n:=6) (S:=fun w'=>w'.cell? ⟨gb131,0,none⟩ = some (.bool true)∧w'.cell? ⟨gb131,1,none⟩ = some (.int .i64 a0_1)∧w'.cell? ⟨gb131,2,none⟩ = some (.slice A0_2 l0_2.length c0_2)∧w'.cell? ⟨gb131,3,none⟩ = some (.slice A0_3 l0_3.length c0_3)) (ds:=[]) (bb 6 0) (by kernel_rfl) rfl rfl (cv4 BK131.out) (fun hHeld=>?_)
     generalize w17.drew = w18 at BK131 HB hHeld ⊢
     refine Qr (i:=0) (N:=some 19) (bb 6 1) ?_
     refine Qr (i:=3) (N:=some 22) (bb 6 9) ?_
     refine Qr (i:=4) (N:=some 23) (bb 6 25) ?_
     refine takeZA (i:=1) (N:=some 20) (bb 6 27) hHeld ?_
     refine one_ (i:=2) (N:=some 21) (bb 6 31) rfl rfl (by kernel_rfl) (by decide) (fun K hK=>?_)
     refine Qg Try.func70 (by kernel_rfl) rfl #[.agg #[.int .i64 a0_1,.slice A0_2 l0_2.length c0_2,.slice A0_3 l0_3.length c0_3]] (by rfl) rfl rfl byah ?_
     with_reducible refine (zO.calls k a0_1 _ _ l0_2 _ _ l0_3 t134 _ ?side1 ?side2 ?side3 ?side4 A6.out).mono ?_
     (case side1=>exact byaq HR0_2.out)
     (case side2=>exact HC0_2.out)
     (case side3=>exact byaq HR0_3.out)
     (case side4=>exact HC0_3.out)
     rintro e w19 ⟨rfl,hb⟩
     refine ⟨_,rfl,?_⟩
     have n_:=q_2 (qH BK131.out hb) (qC (byad GE131.out) hb)
     clear BK131 HB
     obtain ⟨BK131,HB⟩:=n_
     (try clear hb)
     (try clear hb2)
     (try clear hk)
     (try clear hi)
     refine hK.out _ _ (cv4 BK131.out) (fun hHeld=>?_)
     clear hK K
     refine kN (N:=some 21) ?_
     refine Qr (i:=5) (N:=some 24) (bb 6 63) ?_
     refine Ze (by kernel_rfl) ?_
     try go_wp2
     go_ret
     exact ⟨byas,byad GE131.out⟩
   ·rw [if_neg c7] at H
    exact absurd H (by simp)
  ·rw [if_neg c5] at H
   obtain ⟨c5b0,c5b1⟩:=eqF c5
   obtain rfl:=Option.some.inj H
   go_enter Try.func49,Try.ntmps49
   go_wp2_with (first|((with_reducible refine qP (N:=2) rfl ?_);refine zV (N:=2) (cs:=#[.bool true,.int .i64 a0_1,.slice A0_2 l0_2.length c0_2,.slice A0_3 l0_3.length c0_3]) (t:=58) ?_;intro gb131 hg w20 hbox hb;have n_:=q_4 (qC byab hb) (hbox) ((byck : w.heap.size ≤ gb131)) ((byck : w.heap.size ≤ gb131));clear HB;obtain ⟨HB,BK131,GW131,GE131⟩:=n_;clear hb hbox hg;obtain ⟨hcz21_0,hcz21_1,hcz21_2,hcz21_3,hfz21_0,hfz21_1,hfz21_2,hfz21_3⟩:=cz4 BK131.out)|((with_reducible refine qI (f:=69) rfl ?_);refine qY (some 15) rfl rfl Try.func69 (by kernel_rfl) rfl #[.agg #[.int .i64 a0_1,.slice A0_2 l0_2.length c0_2,.slice A0_3 l0_3.length c0_3]] rfl byah ?_;(with_reducible refine (uN.calls k a0_1 _ _ l0_2 _ _ l0_3 t133 _ ?side1 ?side2 ?side3 ?side4 A4.out).mono ?_);(case side1=>exact byaq HR0_2.out);(case side2=>exact HC0_2.out);(case side3=>exact byaq HR0_3.out);(case side4=>exact HC0_3.out);rintro e w22 ⟨rfl,hb⟩;refine ⟨_,rfl,?_⟩;have n_:=q_2 (qH BK131.out hb) (qC (byad GE131.out) hb);clear BK131 HB;obtain ⟨BK131,HB⟩:=n_;clear hb))
   go_ret
   exact ⟨byac,byad GE131.out⟩
 ·replace c3:=Bool.eq_false_iff.mpr c3
  subst c3
  rw [if_neg (show ¬ (false = true) by decide)] at H
  replace H:=Option.bind_eq_some_iff.mp H
  obtain ⟨t132,A230,H⟩:=H
  try dsimp only at H
  have A23:=qA.mk A230
  clear A230
  by_cases c24 : t132 = true
  ·subst c24
   rw [if_pos rfl] at H
   obtain rfl:=Option.some.inj H
   go_enter Try.func49,Try.ntmps49
   go_wp2_with (first|((with_reducible refine qP (N:=2) rfl ?_);refine zV (N:=2) (cs:=#[.bool false,.int .i64 a0_1,.slice A0_2 l0_2.length c0_2,.slice A0_3 l0_3.length c0_3]) (t:=58) ?_;intro gb131 hg w25 hbox hb;have n_:=q_4 (qC byab hb) (hbox) ((byck : w.heap.size ≤ gb131)) ((byck : w.heap.size ≤ gb131));clear HB;obtain ⟨HB,BK131,GW131,GE131⟩:=n_;clear hb hbox hg;obtain ⟨hcz26_0,hcz26_1,hcz26_2,hcz26_3,hfz26_0,hfz26_1,hfz26_2,hfz26_3⟩:=cz4 BK131.out)|((with_reducible refine qI (f:=68) rfl ?_);refine qY (some 11) rfl rfl Try.func68 (by kernel_rfl) rfl #[.agg #[.int .i64 a0_1,.slice A0_2 l0_2.length c0_2,.slice A0_3 l0_3.length c0_3]] rfl byah ?_;(with_reducible refine (kS.calls a0_1 _ _ l0_2 _ _ l0_3 true _ ?side1 ?side2 ?side3 ?side4 A23.out).mono ?_);(case side1=>exact byaq HR0_2.out);(case side2=>exact HC0_2.out);(case side3=>exact byaq HR0_3.out);(case side4=>exact HC0_3.out);rintro e w27 ⟨rfl,hb⟩;refine ⟨_,rfl,?_⟩;have n_:=q_2 (qH BK131.out hb) (qC (byad GE131.out) hb);clear BK131 HB;obtain ⟨BK131,HB⟩:=n_;clear hb))
   go_ret
   exact ⟨byac,byad GE131.out⟩
  ·replace c24:=Bool.eq_false_iff.mpr c24
   subst c24
   rw [if_neg (show ¬ (false = true) by decide)] at H
   obtain rfl:=Option.some.inj H
   go_enter Try.func49,Try.ntmps49
   go_wp2_with (first|((with_reducible refine qP (N:=2) rfl ?_);refine zV (N:=2) (cs:=#[.bool false,.int .i64 a0_1,.slice A0_2 l0_2.length c0_2,.slice A0_3 l0_3.length c0_3]) (t:=58) ?_;intro gb131 hg w28 hbox hb;have n_:=q_4 (qC byab hb) (hbox) ((byck : w.heap.size ≤ gb131)) ((byck : w.heap.size ≤ gb131));clear HB;obtain ⟨HB,BK131,GW131,GE131⟩:=n_;clear hb hbox hg;obtain ⟨hcz29_0,hcz29_1,hcz29_2,hcz29_3,hfz29_0,hfz29_1,hfz29_2,hfz29_3⟩:=cz4 BK131.out)|((with_reducible refine qI (f:=68) rfl ?_);refine qY (some 11) rfl rfl Try.func68 (by kernel_rfl) rfl #[.agg #[.int .i64 a0_1,.slice A0_2 l0_2.length c0_2,.slice A0_3 l0_3.length c0_3]] rfl byah ?_;(with_reducible refine (kS.calls a0_1 _ _ l0_2 _ _ l0_3 false _ ?side1 ?side2 ?side3 ?side4 A23.out).mono ?_);(case side1=>exact byaq HR0_2.out);(case side2=>exact HC0_2.out);(case side3=>exact byaq HR0_3.out);(case side4=>exact HC0_3.out);rintro e w30 ⟨rfl,hb⟩;refine ⟨_,rfl,?_⟩;have n_:=q_2 (qH BK131.out hb) (qC (byad GE131.out) hb);clear BK131 HB;obtain ⟨BK131,HB⟩:=n_;clear hb))
   go_ret
   exact ⟨byac,byad GE131.out⟩
def zI.l0 : Nat→List (S58)→Int→Int→List (S58)→Option (Int)
 | 0,_,_,_,_=>none
 | k + 1,x11,x12,x13,x136000=>if x13 < x12 then (if 0 ≤ x13 then (if x13 < (x11.length : Int) then ((vN.f k ((zD x11 x13).f0) ((zD x11 x13).f1.f0) ((zD x11 x13).f1.f1) ((zD x11 x13).f1.f2) (x136000.length : Int)).bind fun t138=>(if t138 = 0 then (zI.l0 k x11 x12 (wrap64 (x13 + 1)) x136000) else (some t138))) else (none)) else (none)) else (some 0)
def zI.f (k : Nat) (l0_0 : List (S58)) : Option (Int):=if (l0_0.length : Int) > 10 then (some 3) else (zI.l0 k l0_0 (l0_0.length : Int) 0 l0_0)
theorem zI.mono_l : ∀ k,(∀ y0 y1 y2 y3,LeO (zI.l0 k y0 y1 y2 y3) (zI.l0 (k + 1) y0 y1 y2 y3))
 | 0=>fun _ _ _ _ r h=>by simp [zI.l0] at h
 | k + 1=>by
  have ih0:=zI.mono_l k
  ·intro y0 y1 y2 y3
   unfold zI.l0
   repeat' first
   | (with_reducible exact ih0 _ _ _ _)
   | (with_reducible exact vN.mono _ _ _ _ _ _)
   | (with_reducible exact LeO.refl _)
   | (with_reducible exact LeO.none _)
   | (with_reducible refine LeO.ite ?_ ?_)
   | (with_reducible refine LeO.bind ?_ (fun _=>?_))
   | exact ih0 _ _ _ _
   | exact vN.mono _ _ _ _ _ _
   | exact LeO.none _
   | refine LeO.ite ?_ ?_
   | refine LeO.bind ?_ (fun _=>?_)
theorem zI.mono : ∀ a0 k,LeO (zI.f k a0) (zI.f (k + 1) a0):=by
 intro a0 k
 have ih0:=zI.mono_l k
 unfold zI.f
 repeat' first
   | (with_reducible exact ih0 _ _ _ _)
   | (with_reducible exact vN.mono _ _ _ _ _ _)
   | (with_reducible exact LeO.refl _)
   | (with_reducible exact LeO.none _)
   | (with_reducible refine LeO.ite ?_ ?_)
   | (with_reducible refine LeO.bind ?_ (fun _=>?_))
   | exact ih0 _ _ _ _
   | exact vN.mono _ _ _ _ _ _
   | exact LeO.none _
   | refine LeO.ite ?_ ?_
   | refine LeO.bind ?_ (fun _=>?_)
set_option maxHeartbeats 8000000 in
set_option maxRecDepth 100000 in
theorem zI.calls (k : Nat) (A0_0 : Option Addr) (c0_0 : Nat) (l0_0 : List (S58)) (r : Int) (w : World) (hr0_0 : Kd.C k58 w A0_0 l0_0.length l0_0) (hc0_0 : l0_0.length ≤ c0_0) (h : zI.f k l0_0 = some r) :
  Calls Try.prog 35 #[.agg #[.slice A0_0 l0_0.length c0_0]] w fun e w'=>e = .returned (.int .i64 r)∧Below w.heap.size w w':=by
 have hu25:=Try.underlying25
 have hu58:=Try.underlying58
 have HR0_0:=qA.mk hr0_0
 have HC0_0:=qA.mk hc0_0
 clear hr0_0 hc0_0
 have HB:=qA.mk (Below.refl w.heap.size w)
 unfold zI.f at h
 have H:=h
 clear h
 by_cases c2 : (l0_0.length : Int) > 10
 ·rw [if_pos c2] at H
  have c2b0:=decide_eq_true c2
  have c2b1 : decide (10 < l0_0.length) = true:=decide_eq_true (by omega)
  clear c2
  obtain rfl:=Option.some.inj H
  go_enter Try.func35,Try.ntmps35
  go_wp2_with (first|((with_reducible refine qP (N:=1) rfl ?_);refine zV (N:=1) (cs:=#[.slice A0_0 l0_0.length c0_0]) (t:=25) ?_;intro gb135 hg w3 hbox hb;have n_:=q_4 (qC byab hb) (hbox) ((byck : w.heap.size ≤ gb135)) ((byck : w.heap.size ≤ gb135));clear HB;obtain ⟨HB,BK135,GW135,GE135⟩:=n_;clear hb hbox hg;obtain ⟨hcz4_0,hfz4_0⟩:=cz1 BK135.out))
  go_ret
  exact ⟨byac,byad GE135.out⟩
 ·rw [if_neg c2] at H
  have c2b0:=decide_eq_false c2
  have c2b1 : decide (10 < l0_0.length) = false:=decide_eq_false (by omega)
  clear c2
  have H':=qA.mk H
  clear H
  go_enter Try.func35,Try.ntmps35
  go_wp2_with (first|((with_reducible refine qP (N:=1) rfl ?_);refine zV (N:=1) (cs:=#[.slice A0_0 l0_0.length c0_0]) (t:=25) ?_;intro gb135 hg w5 hbox hb;have n_:=q_4 (qC byab hb) (hbox) ((byck : w.heap.size ≤ gb135)) ((byck : w.heap.size ≤ gb135));clear HB;obtain ⟨HB,BK135,GW135,GE135⟩:=n_;clear hb hbox hg;obtain ⟨hcz6_0,hfz6_0⟩:=cz1 BK135.out))
  go_loopg [13] k (fun kq v13 w'=>∃ (x13_1 : Int),v13 = .int .i64 x13_1∧qA (zI.l0 kq l0_0 (l0_0.length : Int) x13_1 l0_0 = some r)∧qA (kq ≤ k)∧qA (w'.heap[gb135]? = some (.cells #[(.slice A0_0 l0_0.length c0_0)] 25 (0,0)))∧qA (Below w.heap.size w w'))
  case atStart=>exact ⟨(0),byae,H',⟨Nat.le_refl _⟩,⟨byaf BK135.out⟩,⟨byad GE135.out⟩⟩
  case round =>
   clear H'
   obtain ⟨x13_1,rfl,HA,HK1,BK135,HB⟩:=hrel
   cases gk with
   | zero=>exact absurd HA.out (by simp [zI.l0])
   | succ k1 =>
    have H:=HA.out
    clear HA
    simp only [zI.l0] at H
    by_cases c7 : x13_1 < (l0_0.length : Int)
    ·rw [if_pos c7] at H
     have c7b0:=decide_eq_true c7
     clear c7
     by_cases c8 : 0 ≤ x13_1
     ·rw [if_pos c8] at H
      have c8b0:=decide_eq_true c8
      clear c8
      by_cases c9 : x13_1 < (l0_0.length : Int)
      ·rw [if_pos c9] at H
       have c9b0:=decide_eq_true c9
       clear c9
       replace H:=Option.bind_eq_some_iff.mp H
       obtain ⟨t138,A100,H⟩:=H
       try dsimp only at H
       have A10:=qA.mk A100
       clear A100
       by_cases c11 : t138 = 0
       ·rw [if_pos c11] at H
        obtain ⟨c11b0,c11b1⟩:=eqT c11
        clear c11
        have H':=qA.mk H
        clear H
        have p136 : 0 ≤ (x13_1 : Int):=of_decide_eq_true byag
        have q136 : x13_1 < (l0_0.length : Int):=of_decide_eq_true byag
        obtain ⟨ad136,A136_2,c136_2,A136_3,c136_3,e136,hx136_0,hx136_1,hx136_2,hx136_3,hl136_2,hi136_2,hl136_3,hi136_3⟩:=Zm HR0_0.out x13_1 p136 q136
        cases e136
        replace hx136_0:=(HB.out.cell (World.block_lt_of_cell? w _ hx136_0)).trans hx136_0
        replace hx136_1:=(HB.out.cell (World.block_lt_of_cell? w _ hx136_1)).trans hx136_1
        replace hx136_2:=(HB.out.cell (World.block_lt_of_cell? w _ hx136_2)).trans hx136_2
        replace hx136_3:=(HB.out.cell (World.block_lt_of_cell? w _ hx136_3)).trans hx136_3
        have HR136_2:=qA.mk hi136_2
        have HC136_2:=qA.mk hl136_2
        clear hi136_2 hl136_2
        have HR136_3:=qA.mk hi136_3
        have HC136_3:=qA.mk hl136_3
        clear hi136_3 hl136_3
        replace p136:=eq_true p136
        replace q136:=eq_true q136
        go_wp2_with (first|((with_reducible refine qP (N:=4) rfl ?_);refine zV (N:=4) (cs:=#[.bool false,.int .i64 0,.slice none 0 0,.slice none 0 0]) (t:=58) ?_;intro gb137 hg w12 hbox hb;have n_:=q_6 (qH BK135.out hb) (qC (byad GE135.out) hb) (hbox) ((bycl GE135.out : w.heap.size ≤ gb137)) ((bycl GE135.out : w.heap.size ≤ gb137)) ((by rw [hg];exact Nat.ne_of_lt (vF BK135.out) : gb135≠gb137));clear BK135 HB;obtain ⟨BK135,HB,BK137,GW137,GE137,NB135_137⟩:=n_;have NB137_135:=ns NB135_137;clear hb hbox hg;have hnb13:=NB137_135.out;have hnc13:=NB135_137.out;obtain ⟨hcz14_0,hcz14_1,hcz14_2,hcz14_3,hfz14_0,hfz14_1,hfz14_2,hfz14_3⟩:=cz4 BK137.out;obtain ⟨hcz15_0,hfz15_0⟩:=cz1 BK135.out)|((with_reducible refine qI (f:=49) rfl ?_);refine qY (some 21) rfl rfl Try.func49 (by kernel_rfl) rfl #[.agg #[.bool ((zD l0_0 x13_1).f0),.int .i64 ((zD l0_0 x13_1).f1.f0),.slice A136_2 ((zD l0_0 x13_1).f1.f1).length c136_2,.slice A136_3 ((zD l0_0 x13_1).f1.f2).length c136_3],.int .i64 (l0_0.length : Int)] rfl byah ?_;(with_reducible refine (vN.calls k1 ((zD l0_0 x13_1).f0) ((zD l0_0 x13_1).f1.f0) _ _ ((zD l0_0 x13_1).f1.f1) _ _ ((zD l0_0 x13_1).f1.f2) (l0_0.length : Int) t138 _ ?side1 ?side2 ?side3 ?side4 A10.out).mono ?_);(case side1=>exact Kd.vU HR136_2.out (byaj GE135.out GE137.out));(case side2=>exact HC136_2.out);(case side3=>exact Kd.vU HR136_3.out (byaj GE135.out GE137.out));(case side4=>exact HC136_3.out);rintro e w16 ⟨rfl,hb⟩;refine ⟨_,rfl,?_⟩;have n_:=q_3 (jQ (g:=gb135) (o:=.cells #[.slice (some ad136) l0_0.length c0_0] 25 (0,0)) (byat NB135_137.out BK135.out) hb) (jQ (g:=gb137) (o:=.cells #[.bool ((zD l0_0 x13_1).f0),.int .i64 ((zD l0_0 x13_1).f1.f0),.slice A136_2 ((zD l0_0 x13_1).f1.f1).length c136_2,.slice A136_3 ((zD l0_0 x13_1).f1.f2).length c136_3] 58 (0,0)) (by (with_reducible repeat (first|refine qF ?_ _|refine qG ?_|refine qE ?_ _));refine qO (cs:=#[.bool ((zD l0_0 x13_1).f0),.int .i64 ((zD l0_0 x13_1).f1.f0),.slice A136_2 ((zD l0_0 x13_1).f1.f1).length c136_2,.slice none 0 0]) ?_ 3 _ rfl;(with_reducible repeat (first|refine qF ?_ _|refine qG ?_|refine qE ?_ _));refine qO (cs:=#[.bool ((zD l0_0 x13_1).f0),.int .i64 ((zD l0_0 x13_1).f1.f0),.slice none 0 0,.slice none 0 0]) ?_ 2 _ rfl;(with_reducible repeat (first|refine qF ?_ _|refine qG ?_|refine qE ?_ _));refine qO (cs:=#[.bool ((zD l0_0 x13_1).f0),.int .i64 0,.slice none 0 0,.slice none 0 0]) ?_ 1 _ rfl;(with_reducible repeat (first|refine qF ?_ _|refine qG ?_|refine qE ?_ _));refine qO (cs:=#[.bool false,.int .i64 0,.slice none 0 0,.slice none 0 0]) ?_ 0 _ rfl;(with_reducible repeat (first|refine qF ?_ _|refine qG ?_|refine qE ?_ _));exact BK137.out) hb) (qC (byaj GE135.out GE137.out) hb);clear BK135 BK137 HB;obtain ⟨BK135,BK137,HB⟩:=n_;clear hb))
        go_roundg k1
        case measure=>have:=HK1.out;omega
        case rel=>exact ⟨(wrap64 (x13_1 + 1)),byae,H',⟨byai⟩,⟨byaf BK135.out⟩,⟨byaj GE135.out GE137.out⟩⟩
       ·rw [if_neg c11] at H
        obtain ⟨c11b0,c11b1⟩:=eqF c11
        obtain rfl:=Option.some.inj H
        have p136 : 0 ≤ (x13_1 : Int):=of_decide_eq_true byag
        have q136 : x13_1 < (l0_0.length : Int):=of_decide_eq_true byag
        obtain ⟨ad136,A136_2,c136_2,A136_3,c136_3,e136,hx136_0,hx136_1,hx136_2,hx136_3,hl136_2,hi136_2,hl136_3,hi136_3⟩:=Zm HR0_0.out x13_1 p136 q136
        cases e136
        replace hx136_0:=(HB.out.cell (World.block_lt_of_cell? w _ hx136_0)).trans hx136_0
        replace hx136_1:=(HB.out.cell (World.block_lt_of_cell? w _ hx136_1)).trans hx136_1
        replace hx136_2:=(HB.out.cell (World.block_lt_of_cell? w _ hx136_2)).trans hx136_2
        replace hx136_3:=(HB.out.cell (World.block_lt_of_cell? w _ hx136_3)).trans hx136_3
        have HR136_2:=qA.mk hi136_2
        have HC136_2:=qA.mk hl136_2
        clear hi136_2 hl136_2
        have HR136_3:=qA.mk hi136_3
        have HC136_3:=qA.mk hl136_3
        clear hi136_3 hl136_3
        replace p136:=eq_true p136
        replace q136:=eq_true q136
        go_wp2_with (first|((with_reducible refine qP (N:=4) rfl ?_);refine zV (N:=4) (cs:=#[.bool false,.int .i64 0,.slice none 0 0,.slice none 0 0]) (t:=58) ?_;intro gb137 hg w17 hbox hb;have n_:=q_6 (qH BK135.out hb) (qC (byad GE135.out) hb) (hbox) ((bycl GE135.out : w.heap.size ≤ gb137)) ((bycl GE135.out : w.heap.size ≤ gb137)) ((by rw [hg];exact Nat.ne_of_lt (vF BK135.out) : gb135≠gb137));clear BK135 HB;obtain ⟨BK135,HB,BK137,GW137,GE137,NB135_137⟩:=n_;have NB137_135:=ns NB135_137;clear hb hbox hg;have hnb18:=NB137_135.out;have hnc18:=NB135_137.out;obtain ⟨hcz19_0,hcz19_1,hcz19_2,hcz19_3,hfz19_0,hfz19_1,hfz19_2,hfz19_3⟩:=cz4 BK137.out;obtain ⟨hcz20_0,hfz20_0⟩:=cz1 BK135.out)|((with_reducible refine qI (f:=49) rfl ?_);refine qY (some 21) rfl rfl Try.func49 (by kernel_rfl) rfl #[.agg #[.bool ((zD l0_0 x13_1).f0),.int .i64 ((zD l0_0 x13_1).f1.f0),.slice A136_2 ((zD l0_0 x13_1).f1.f1).length c136_2,.slice A136_3 ((zD l0_0 x13_1).f1.f2).length c136_3],.int .i64 (l0_0.length : Int)] rfl byah ?_;(with_reducible refine (vN.calls k1 ((zD l0_0 x13_1).f0) ((zD l0_0 x13_1).f1.f0) _ _ ((zD l0_0 x13_1).f1.f1) _ _ ((zD l0_0 x13_1).f1.f2) (l0_0.length : Int) t138 _ ?side1 ?side2 ?side3 ?side4 A10.out).mono ?_);(case side1=>exact Kd.vU HR136_2.out (byaj GE135.out GE137.out));(case side2=>exact HC136_2.out);(case side3=>exact Kd.vU HR136_3.out (byaj GE135.out GE137.out));(case side4=>exact HC136_3.out);rintro e w21 ⟨rfl,hb⟩;refine ⟨_,rfl,?_⟩;have n_:=q_3 (jQ (g:=gb135) (o:=.cells #[.slice (some ad136) l0_0.length c0_0] 25 (0,0)) (byat NB135_137.out BK135.out) hb) (jQ (g:=gb137) (o:=.cells #[.bool ((zD l0_0 x13_1).f0),.int .i64 ((zD l0_0 x13_1).f1.f0),.slice A136_2 ((zD l0_0 x13_1).f1.f1).length c136_2,.slice A136_3 ((zD l0_0 x13_1).f1.f2).length c136_3] 58 (0,0)) (by (with_reducible repeat (first|refine qF ?_ _|refine qG ?_|refine qE ?_ _));refine qO (cs:=#[.bool ((zD l0_0 x13_1).f0),.int .i64 ((zD l0_0 x13_1).f1.f0),.slice A136_2 ((zD l0_0 x13_1).f1.f1).length c136_2,.slice none 0 0]) ?_ 3 _ rfl;(with_reducible repeat (first|refine qF ?_ _|refine qG ?_|refine qE ?_ _));refine qO (cs:=#[.bool ((zD l0_0 x13_1).f0),.int .i64 ((zD l0_0 x13_1).f1.f0),.slice none 0 0,.slice none 0 0]) ?_ 2 _ rfl;(with_reducible repeat (first|refine qF ?_ _|refine qG ?_|refine qE ?_ _));refine qO (cs:=#[.bool ((zD l0_0 x13_1).f0),.int .i64 0,.slice none 0 0,.slice none 0 0]) ?_ 1 _ rfl;(with_reducible repeat (first|refine qF ?_ _|refine qG ?_|refine qE ?_ _));refine qO (cs:=#[.bool false,.int .i64 0,.slice none 0 0,.slice none 0 0]) ?_ 0 _ rfl;(with_reducible repeat (first|refine qF ?_ _|refine qG ?_|refine qE ?_ _));exact BK137.out) hb) (qC (byaj GE135.out GE137.out) hb);clear BK135 BK137 HB;obtain ⟨BK135,BK137,HB⟩:=n_;clear hb))
        go_ret
        exact ⟨byac,byaj GE135.out GE137.out⟩
      ·rw [if_neg c9] at H
       exact absurd H (by simp)
     ·rw [if_neg c8] at H
      exact absurd H (by simp)
    ·rw [if_neg c7] at H
     have c7b0:=decide_eq_false c7
     clear c7
     obtain rfl:=Option.some.inj H
     go_wp2
     go_ret
     exact ⟨byac,byad GE135.out⟩
def Zf.f (a0 : Int) : Option (Int):=some (Go.bits .and .i64 (wrap64 (IntKind.u64.wrap ((IntKind.u64.wrap ((IntKind.u64.wrap ((Go.bits .and .u64 (IntKind.u64.wrap (((IntKind.u64.wrap ((Go.bits .and .u64 ((IntKind.u64.wrap ((Go.bits .and .u64 (a0 / 2) 6148914691236517205) + (Go.bits .and .u64 a0 6148914691236517205))) / 4) 3689348814741910323) + (Go.bits .and .u64 (IntKind.u64.wrap ((Go.bits .and .u64 (a0 / 2) 6148914691236517205) + (Go.bits .and .u64 a0 6148914691236517205))) 3689348814741910323))) / 16) + (IntKind.u64.wrap ((Go.bits .and .u64 ((IntKind.u64.wrap ((Go.bits .and .u64 (a0 / 2) 6148914691236517205) + (Go.bits .and .u64 a0 6148914691236517205))) / 4) 3689348814741910323) + (Go.bits .and .u64 (IntKind.u64.wrap ((Go.bits .and .u64 (a0 / 2) 6148914691236517205) + (Go.bits .and .u64 a0 6148914691236517205))) 3689348814741910323))))) 1085102592571150095) + ((Go.bits .and .u64 (IntKind.u64.wrap (((IntKind.u64.wrap ((Go.bits .and .u64 ((IntKind.u64.wrap ((Go.bits .and .u64 (a0 / 2) 6148914691236517205) + (Go.bits .and .u64 a0 6148914691236517205))) / 4) 3689348814741910323) + (Go.bits .and .u64 (IntKind.u64.wrap ((Go.bits .and .u64 (a0 / 2) 6148914691236517205) + (Go.bits .and .u64 a0 6148914691236517205))) 3689348814741910323))) / 16) + (IntKind.u64.wrap ((Go.bits .and .u64 ((IntKind.u64.wrap ((Go.bits .and .u64 (a0 / 2) 6148914691236517205) + (Go.bits .and .u64 a0 6148914691236517205))) / 4) 3689348814741910323) + (Go.bits .and .u64 (IntKind.u64.wrap ((Go.bits .and .u64 (a0 / 2) 6148914691236517205) + (Go.bits .and .u64 a0 6148914691236517205))) 3689348814741910323))))) 1085102592571150095) / 256))) + ((IntKind.u64.wrap ((Go.bits .and .u64 (IntKind.u64.wrap (((IntKind.u64.wrap ((Go.bits .and .u64 ((IntKind.u64.wrap ((Go.bits .and .u64 (a0 / 2) 6148914691236517205) + (Go.bits .and .u64 a0 6148914691236517205))) / 4) 3689348814741910323) + (Go.bits .and .u64 (IntKind.u64.wrap ((Go.bits .and .u64 (a0 / 2) 6148914691236517205) + (Go.bits .and .u64 a0 6148914691236517205))) 3689348814741910323))) / 16) + (IntKind.u64.wrap ((Go.bits .and .u64 ((IntKind.u64.wrap ((Go.bits .and .u64 (a0 / 2) 6148914691236517205) + (Go.bits .and .u64 a0 6148914691236517205))) / 4) 3689348814741910323) + (Go.bits .and .u64 (IntKind.u64.wrap ((Go.bits .and .u64 (a0 / 2) 6148914691236517205) + (Go.bits .and .u64 a0 6148914691236517205))) 3689348814741910323))))) 1085102592571150095) + ((Go.bits .and .u64 (IntKind.u64.wrap (((IntKind.u64.wrap ((Go.bits .and .u64 ((IntKind.u64.wrap ((Go.bits .and .u64 (a0 / 2) 6148914691236517205) + (Go.bits .and .u64 a0 6148914691236517205))) / 4) 3689348814741910323) + (Go.bits .and .u64 (IntKind.u64.wrap ((Go.bits .and .u64 (a0 / 2) 6148914691236517205) + (Go.bits .and .u64 a0 6148914691236517205))) 3689348814741910323))) / 16) + (IntKind.u64.wrap ((Go.bits .and .u64 ((IntKind.u64.wrap ((Go.bits .and .u64 (a0 / 2) 6148914691236517205) + (Go.bits .and .u64 a0 6148914691236517205))) / 4) 3689348814741910323) + (Go.bits .and .u64 (IntKind.u64.wrap ((Go.bits .and .u64 (a0 / 2) 6148914691236517205) + (Go.bits .and .u64 a0 6148914691236517205))) 3689348814741910323))))) 1085102592571150095) / 256))) / 65536))) + ((IntKind.u64.wrap ((IntKind.u64.wrap ((Go.bits .and .u64 (IntKind.u64.wrap (((IntKind.u64.wrap ((Go.bits .and .u64 ((IntKind.u64.wrap ((Go.bits .and .u64 (a0 / 2) 6148914691236517205) + (Go.bits .and .u64 a0 6148914691236517205))) / 4) 3689348814741910323) + (Go.bits .and .u64 (IntKind.u64.wrap ((Go.bits .and .u64 (a0 / 2) 6148914691236517205) + (Go.bits .and .u64 a0 6148914691236517205))) 3689348814741910323))) / 16) + (IntKind.u64.wrap ((Go.bits .and .u64 ((IntKind.u64.wrap ((Go.bits .and .u64 (a0 / 2) 6148914691236517205) + (Go.bits .and .u64 a0 6148914691236517205))) / 4) 3689348814741910323) + (Go.bits .and .u64 (IntKind.u64.wrap ((Go.bits .and .u64 (a0 / 2) 6148914691236517205) + (Go.bits .and .u64 a0 6148914691236517205))) 3689348814741910323))))) 1085102592571150095) + ((Go.bits .and .u64 (IntKind.u64.wrap (((IntKind.u64.wrap ((Go.bits .and .u64 ((IntKind.u64.wrap ((Go.bits .and .u64 (a0 / 2) 6148914691236517205) + (Go.bits .and .u64 a0 6148914691236517205))) / 4) 3689348814741910323) + (Go.bits .and .u64 (IntKind.u64.wrap ((Go.bits .and .u64 (a0 / 2) 6148914691236517205) + (Go.bits .and .u64 a0 6148914691236517205))) 3689348814741910323))) / 16) + (IntKind.u64.wrap ((Go.bits .and .u64 ((IntKind.u64.wrap ((Go.bits .and .u64 (a0 / 2) 6148914691236517205) + (Go.bits .and .u64 a0 6148914691236517205))) / 4) 3689348814741910323) + (Go.bits .and .u64 (IntKind.u64.wrap ((Go.bits .and .u64 (a0 / 2) 6148914691236517205) + (Go.bits .and .u64 a0 6148914691236517205))) 3689348814741910323))))) 1085102592571150095) / 256))) + ((IntKind.u64.wrap ((Go.bits .and .u64 (IntKind.u64.wrap (((IntKind.u64.wrap ((Go.bits .and .u64 ((IntKind.u64.wrap ((Go.bits .and .u64 (a0 / 2) 6148914691236517205) + (Go.bits .and .u64 a0 6148914691236517205))) / 4) 3689348814741910323) + (Go.bits .and .u64 (IntKind.u64.wrap ((Go.bits .and .u64 (a0 / 2) 6148914691236517205) + (Go.bits .and .u64 a0 6148914691236517205))) 3689348814741910323))) / 16) + (IntKind.u64.wrap ((Go.bits .and .u64 ((IntKind.u64.wrap ((Go.bits .and .u64 (a0 / 2) 6148914691236517205) + (Go.bits .and .u64 a0 6148914691236517205))) / 4) 3689348814741910323) + (Go.bits .and .u64 (IntKind.u64.wrap ((Go.bits .and .u64 (a0 / 2) 6148914691236517205) + (Go.bits .and .u64 a0 6148914691236517205))) 3689348814741910323))))) 1085102592571150095) + ((Go.bits .and .u64 (IntKind.u64.wrap (((IntKind.u64.wrap ((Go.bits .and .u64 ((IntKind.u64.wrap ((Go.bits .and .u64 (a0 / 2) 6148914691236517205) + (Go.bits .and .u64 a0 6148914691236517205))) / 4) 3689348814741910323) + (Go.bits .and .u64 (IntKind.u64.wrap ((Go.bits .and .u64 (a0 / 2) 6148914691236517205) + (Go.bits .and .u64 a0 6148914691236517205))) 3689348814741910323))) / 16) + (IntKind.u64.wrap ((Go.bits .and .u64 ((IntKind.u64.wrap ((Go.bits .and .u64 (a0 / 2) 6148914691236517205) + (Go.bits .and .u64 a0 6148914691236517205))) / 4) 3689348814741910323) + (Go.bits .and .u64 (IntKind.u64.wrap ((Go.bits .and .u64 (a0 / 2) 6148914691236517205) + (Go.bits .and .u64 a0 6148914691236517205))) 3689348814741910323))))) 1085102592571150095) / 256))) / 65536))) / 4294967296)))) 127)
set_option maxHeartbeats 8000000 in
set_option maxRecDepth 100000 in
theorem Zf.calls (a0 : Int) (r : Int) (w : World) (h : Zf.f a0 = some r) :
  Calls Try.prog 92 #[.int .u64 a0] w fun e w'=>e = .returned (.int .i64 r)∧kZ w w':=by
 unfold Zf.f at h
 have H:=h
 clear h
 obtain rfl:=Option.some.inj H
 go_enter Try.func92,Try.ntmps92
 go_wp2
 go_ret
 exact ⟨byae,byam⟩
def Zp.f (a0 : Int) : Option (Int):=(Zf.f a0).bind fun t139=>(some t139)
set_option maxHeartbeats 8000000 in
set_option maxRecDepth 100000 in
theorem Zp.calls (a0 : Int) (r : Int) (w : World) (h : Zp.f a0 = some r) :
  Calls Try.prog 85 #[.int .u64 a0] w fun e w'=>e = .returned (.int .i64 r)∧kZ w w':=by
 unfold Zp.f at h
 have H:=h
 clear h
 replace H:=Option.bind_eq_some_iff.mp H
 obtain ⟨t139,A20,H⟩:=H
 try dsimp only at H
 have A2:=qA.mk A20
 clear A20
 obtain rfl:=Option.some.inj H
 go_enter Try.func85,Try.ntmps85
 go_wp2_with (first|((with_reducible refine qI (f:=92) rfl ?_);refine qY (some 7) rfl rfl Try.func92 (by kernel_rfl) rfl #[.int .u64 a0] rfl byah ?_;(with_reducible refine (Zf.calls a0 t139 _ A2.out).mono ?_);rintro e w' ⟨rfl,⟨nd,rfl⟩⟩;refine ⟨_,rfl,?_⟩))
 go_ret
 exact ⟨byae,byam⟩
def Zc.f (a0 : Int) : Option (Int):=(vY.f a0).bind fun t140=>(if t140 = true then ((Zp.f (IntKind.u64.wrap (a0))).bind fun t141=>(some t141)) else (some 0))
set_option maxHeartbeats 8000000 in
set_option maxRecDepth 100000 in
theorem Zc.calls (a0 : Int) (r : Int) (w : World) (h : Zc.f a0 = some r) :
  Calls Try.prog 72 #[.int .i64 a0] w fun e w'=>e = .returned (.int .i64 r)∧kZ w w':=by
 unfold Zc.f at h
 have H:=h
 clear h
 replace H:=Option.bind_eq_some_iff.mp H
 obtain ⟨t140,A20,H⟩:=H
 try dsimp only at H
 have A2:=qA.mk A20
 clear A20
 by_cases c3 : t140 = true
 ·subst c3
  rw [if_pos rfl] at H
  replace H:=Option.bind_eq_some_iff.mp H
  obtain ⟨t141,A40,H⟩:=H
  try dsimp only at H
  have A4:=qA.mk A40
  clear A40
  obtain rfl:=Option.some.inj H
  go_enter Try.func72,Try.ntmps72
  go_wp2_with (first|((with_reducible refine qI (f:=73) rfl ?_);refine qY (some 4) rfl rfl Try.func73 (by kernel_rfl) rfl #[.int .i64 a0] rfl byah ?_;(with_reducible refine (vY.calls a0 true _ A2.out).mono ?_);rintro e w' ⟨rfl,⟨nd,rfl⟩⟩;refine ⟨_,rfl,?_⟩)|((with_reducible refine qI (f:=85) rfl ?_);refine qY (some 8) rfl rfl Try.func85 (by kernel_rfl) rfl #[.int .u64 (IntKind.u64.wrap (a0))] rfl byah ?_;(with_reducible refine (Zp.calls (IntKind.u64.wrap (a0)) t141 _ A4.out).mono ?_);rintro e w' ⟨rfl,⟨nd,rfl⟩⟩;refine ⟨_,rfl,?_⟩))
  go_ret
  exact ⟨byae,byam⟩
 ·replace c3:=Bool.eq_false_iff.mpr c3
  subst c3
  rw [if_neg (show ¬ (false = true) by decide)] at H
  obtain rfl:=Option.some.inj H
  go_enter Try.func72,Try.ntmps72
  go_wp2_with (first|((with_reducible refine qI (f:=73) rfl ?_);refine qY (some 4) rfl rfl Try.func73 (by kernel_rfl) rfl #[.int .i64 a0] rfl byah ?_;(with_reducible refine (vY.calls a0 false _ A2.out).mono ?_);rintro e w' ⟨rfl,⟨nd,rfl⟩⟩;refine ⟨_,rfl,?_⟩))
  go_ret
  exact ⟨byae,byam⟩
mutual
def jW.j0 : Nat→Int→Int→Bool→Option (Int × Bool)
 | 0,_,_,_=>none
 | k + 1,x0,x1,x19=>if x19 = true then (some (0,false)) else ((Zc.f x0).bind fun t143=>(jW.l0 k x1 t143 (wrap64 (x0 + 1))))
def jW.l0 : Nat→Int→Int→Int→Option (Int × Bool)
 | 0,_,_,_=>none
 | k + 1,x1,x6,x7=>(kQ.f x7 x1).bind fun t144=>(if t144 = true then ((Zc.f x7).bind fun t145=>(if t145 = x6 then (some (x7,true)) else (jW.l0 k x1 x6 (wrap64 (x7 + 1))))) else (if x6 = x1 then (some (0,false)) else (if 0 ≤ (wrap64 (x6 + 1)) then (some (wrap64 ((shl .i64 1 (wrap64 (x6 + 1))) - 1),true)) else (none))))
end
def jW.f (k : Nat) (a0 : Int) (a1 : Int) : Option (Int × Bool):=if a1 < 0 then (jW.j0 k a0 a1 true) else (if a1 > 10 then (jW.j0 k a0 a1 true) else ((kQ.f a0 a1).bind fun t142=>(jW.j0 k a0 a1 (!t142))))
theorem jW.mono_l : ∀ k,(∀ y0 y1 y2,LeO (jW.j0 k y0 y1 y2) (jW.j0 (k + 1) y0 y1 y2))∧(∀ y0 y1 y2,LeO (jW.l0 k y0 y1 y2) (jW.l0 (k + 1) y0 y1 y2))
 | 0=>⟨fun _ _ _ r h=>by simp [jW.j0] at h,fun _ _ _ r h=>by simp [jW.l0] at h⟩
 | k + 1=>by
  obtain ⟨ih0,ih1⟩:=jW.mono_l k
  refine ⟨?_,?_⟩
  ·intro y0 y1 y2
   unfold jW.j0
   repeat' first
   | (with_reducible exact ih0 _ _ _)
   | (with_reducible exact ih1 _ _ _)
   | (with_reducible exact LeO.refl _)
   | (with_reducible exact LeO.none _)
   | (with_reducible refine LeO.ite ?_ ?_)
   | (with_reducible refine LeO.bind ?_ (fun _=>?_))
   | exact ih0 _ _ _
   | exact ih1 _ _ _
   | exact LeO.none _
   | refine LeO.ite ?_ ?_
   | refine LeO.bind ?_ (fun _=>?_)
  ·intro y0 y1 y2
   unfold jW.l0
   repeat' first
   | (with_reducible exact ih0 _ _ _)
   | (with_reducible exact ih1 _ _ _)
   | (with_reducible exact LeO.refl _)
   | (with_reducible exact LeO.none _)
   | (with_reducible refine LeO.ite ?_ ?_)
   | (with_reducible refine LeO.bind ?_ (fun _=>?_))
   | exact ih0 _ _ _
   | exact ih1 _ _ _
   | exact LeO.none _
   | refine LeO.ite ?_ ?_
   | refine LeO.bind ?_ (fun _=>?_)
theorem jW.mono : ∀ a0 a1 k,LeO (jW.f k a0 a1) (jW.f (k + 1) a0 a1):=by
 intro a0 a1 k
 obtain ⟨ih0,ih1⟩:=jW.mono_l k
 unfold jW.f
 repeat' first
   | (with_reducible exact ih0 _ _ _)
   | (with_reducible exact ih1 _ _ _)
   | (with_reducible exact LeO.refl _)
   | (with_reducible exact LeO.none _)
   | (with_reducible refine LeO.ite ?_ ?_)
   | (with_reducible refine LeO.bind ?_ (fun _=>?_))
   | exact ih0 _ _ _
   | exact ih1 _ _ _
   | exact LeO.none _
   | refine LeO.ite ?_ ?_
   | refine LeO.bind ?_ (fun _=>?_)
set_option maxHeartbeats 8000000 in
set_option maxRecDepth 100000 in
theorem jW.calls (k : Nat) (a0 : Int) (a1 : Int) (r1 : Int) (r2 : Bool) (w : World) (h : jW.f k a0 a1 = some (r1,r2)) :
  Calls Try.prog 50 #[.int .i64 a0,.int .i64 a1] w fun e w'=>e = .returned (.tuple #[.int .i64 r1,.bool r2])∧kZ w w':=by
 unfold jW.f at h
 have H:=h
 clear h
 have HC3:=qA.mk H
 clear H
 go_enter Try.func50,Try.ntmps50
 go_upto_region 1 with (fail)
 go_cut [19] (fun v19 wc=>∃ (kq : Nat) (x19_2 : Bool),v19 = .bool x19_2∧qA (jW.j0 kq a0 a1 x19_2 = some (r1,r2))∧qA (kq ≤ k)∧kZ w wc)
 case first =>
  have H:=HC3.out
  clear HC3
  by_cases c4 : a1 < 0
  ·rw [if_pos c4] at H
   have c4b0:=decide_eq_true c4
   clear c4
   (first|rw [c4b0]|(simp only [Qe,Qh];rw [c4b0])|skip)
   have H':=qA.mk H
   clear H
   go_wp2
   go_meet
   case rel=>exact ⟨_,(true),byae,H',⟨byap⟩,byam⟩
  ·rw [if_neg c4] at H
   have c4b0:=decide_eq_false c4
   clear c4
   (first|rw [c4b0]|(simp only [Qe,Qh];rw [c4b0])|skip)
   by_cases c5 : a1 > 10
   ·rw [if_pos c5] at H
    have c5b0:=decide_eq_true c5
    clear c5
    have H':=qA.mk H
    clear H
    go_wp2
    go_meet
    case rel=>exact ⟨_,(true),byae,H',⟨byap⟩,byam⟩
   ·rw [if_neg c5] at H
    have c5b0:=decide_eq_false c5
    clear c5
    replace H:=Option.bind_eq_some_iff.mp H
    obtain ⟨t142,A60,H⟩:=H
    try dsimp only at H
    have A6:=qA.mk A60
    clear A60
    have H':=qA.mk H
    clear H
    go_wp2_with (first|(go_at_call 71;(with_reducible refine (kQ.calls a0 a1 t142 _ A6.out).mono ?_);rintro e w' ⟨rfl,⟨nd,rfl⟩⟩))
    go_meet
    case rel=>exact ⟨_,(!t142),byae,H',⟨byap⟩,byam⟩
 case rest =>
  clear HC3
  obtain ⟨kq,x19_2,rfl,HA,HJ2,⟨mc2,rfl⟩⟩:=hcut
  cases kq with
  | zero=>exact absurd HA.out (by simp [jW.j0])
  | succ kj2 =>
   have H:=HA.out
   clear HA
   simp only [jW.j0] at H
   by_cases c7 : x19_2 = true
   ·subst c7
    rw [if_pos rfl] at H
    simp only [Option.some.injEq,Prod.mk.injEq] at H
    obtain ⟨rfl,rfl⟩:=H
    go_wp2
    go_ret2
    exact ⟨byae,byam⟩
   ·replace c7:=Bool.eq_false_iff.mpr c7
    subst c7
    rw [if_neg (show ¬ (false = true) by decide)] at H
    replace H:=Option.bind_eq_some_iff.mp H
    obtain ⟨t143,A80,H⟩:=H
    try dsimp only at H
    have A8:=qA.mk A80
    clear A80
    have H':=qA.mk H
    clear H
    go_wp2_with (first|((with_reducible refine qI (f:=72) rfl ?_);refine qY (some 21) rfl rfl Try.func72 (by kernel_rfl) rfl #[.int .i64 a0] rfl byah ?_;(with_reducible refine (Zc.calls a0 t143 _ A8.out).mono ?_);rintro e w' ⟨rfl,⟨nd,rfl⟩⟩;refine ⟨_,rfl,?_⟩))
    go_loopg [7] kj2 (fun kq v7 w'=>∃ (x7_2 : Int),v7 = .int .i64 x7_2∧qA (jW.l0 kq a1 t143 x7_2 = some (r1,r2))∧qA (kq ≤ kj2)∧kZ w w')
    case atStart=>exact ⟨(wrap64 (a0 + 1)),byae,H',⟨Nat.le_refl _⟩,byam⟩
    case round =>
     clear H'
     obtain ⟨x7_2,rfl,HA,HK2,⟨m2,rfl⟩⟩:=hrel
     cases gk with
     | zero=>exact absurd HA.out (by simp [jW.l0])
     | succ k2 =>
      have H:=HA.out
      clear HA
      simp only [jW.l0] at H
      replace H:=Option.bind_eq_some_iff.mp H
      obtain ⟨t144,A90,H⟩:=H
      try dsimp only at H
      have A9:=qA.mk A90
      clear A90
      by_cases c10 : t144 = true
      ·subst c10
       rw [if_pos rfl] at H
       replace H:=Option.bind_eq_some_iff.mp H
       obtain ⟨t145,A110,H⟩:=H
       try dsimp only at H
       have A11:=qA.mk A110
       clear A110
       by_cases c12 : t145 = t143
       ·rw [if_pos c12] at H
        obtain ⟨c12b0,c12b1⟩:=eqT c12
        clear c12
        simp only [Option.some.injEq,Prod.mk.injEq] at H
        obtain ⟨rfl,rfl⟩:=H
        go_wp2_with (first|((with_reducible refine qI (f:=71) rfl ?_);refine qY (some 26) rfl rfl Try.func71 (by kernel_rfl) rfl #[.int .i64 x7_2,.int .i64 a1] rfl byah ?_;(with_reducible refine (kQ.calls x7_2 a1 true _ A9.out).mono ?_);rintro e w' ⟨rfl,⟨nd,rfl⟩⟩;refine ⟨_,rfl,?_⟩)|((with_reducible refine qI (f:=72) rfl ?_);refine qY (some 30) rfl rfl Try.func72 (by kernel_rfl) rfl #[.int .i64 x7_2] rfl byah ?_;(with_reducible refine (Zc.calls x7_2 t145 _ A11.out).mono ?_);rintro e w' ⟨rfl,⟨nd,rfl⟩⟩;refine ⟨_,rfl,?_⟩))
        go_ret2
        exact ⟨byae,byam⟩
       ·rw [if_neg c12] at H
        obtain ⟨c12b0,c12b1⟩:=eqF c12
        have H':=qA.mk H
        clear H
        go_wp2_with (first|((with_reducible refine qI (f:=71) rfl ?_);refine qY (some 26) rfl rfl Try.func71 (by kernel_rfl) rfl #[.int .i64 x7_2,.int .i64 a1] rfl byah ?_;(with_reducible refine (kQ.calls x7_2 a1 true _ A9.out).mono ?_);rintro e w' ⟨rfl,⟨nd,rfl⟩⟩;refine ⟨_,rfl,?_⟩)|((with_reducible refine qI (f:=72) rfl ?_);refine qY (some 30) rfl rfl Try.func72 (by kernel_rfl) rfl #[.int .i64 x7_2] rfl byah ?_;(with_reducible refine (Zc.calls x7_2 t145 _ A11.out).mono ?_);rintro e w' ⟨rfl,⟨nd,rfl⟩⟩;refine ⟨_,rfl,?_⟩))
        go_roundg k2
        case measure=>have:=HJ2.out;have:=HK2.out;omega
        case rel=>exact ⟨(wrap64 (x7_2 + 1)),byae,H',⟨by have:=HJ2.out;have:=HK2.out;omega⟩,byam⟩
      ·replace c10:=Bool.eq_false_iff.mpr c10
       subst c10
       rw [if_neg (show ¬ (false = true) by decide)] at H
       by_cases c13 : t143 = a1
       ·rw [if_pos c13] at H
        obtain ⟨c13b0,c13b1⟩:=eqT c13
        clear c13
        simp only [Option.some.injEq,Prod.mk.injEq] at H
        obtain ⟨rfl,rfl⟩:=H
        go_wp2_with (first|((with_reducible refine qI (f:=71) rfl ?_);refine qY (some 26) rfl rfl Try.func71 (by kernel_rfl) rfl #[.int .i64 x7_2,.int .i64 a1] rfl byah ?_;(with_reducible refine (kQ.calls x7_2 a1 false _ A9.out).mono ?_);rintro e w' ⟨rfl,⟨nd,rfl⟩⟩;refine ⟨_,rfl,?_⟩))
        go_ret2
        exact ⟨byae,byam⟩
       ·rw [if_neg c13] at H
        obtain ⟨c13b0,c13b1⟩:=eqF c13
        obtain ⟨ji14,hji14⟩ : ∃ j_ : Int,(wrap64 (t143 + 1)) = j_:=⟨_,rfl⟩
        (first|rw [hji14] at H|(simp only [hji14] at H))
        (try rw [hji14] at A9)
        have hji14w : (IntKind.i64.wrap (t143 + 1)) = ji14:=(Qe _).trans hji14
        by_cases c15 : 0 ≤ (ji14)
        ·rw [if_pos c15] at H
         have c15b0:=eq_true c15
         have c15b1:=decide_eq_true c15
         clear c15
         obtain ⟨ji16,hji16⟩ : ∃ j_ : Int,(shl .i64 1 (ji14)) = j_:=⟨_,rfl⟩
         (first|rw [hji16] at H|(simp only [hji16] at H))
         (try rw [hji16] at A9)
         obtain ⟨hji16_,hji16z,hji16u,hji16v,hji16y,hji16x⟩:=jiA hji16
         simp only [Option.some.injEq,Prod.mk.injEq] at H
         obtain ⟨rfl,rfl⟩:=H
         go_wp2_with (first|((with_reducible refine qI (f:=71) rfl ?_);refine qY (some 26) rfl rfl Try.func71 (by kernel_rfl) rfl #[.int .i64 x7_2,.int .i64 a1] rfl byah ?_;(with_reducible refine (kQ.calls x7_2 a1 false _ A9.out).mono ?_);rintro e w' ⟨rfl,⟨nd,rfl⟩⟩;refine ⟨_,rfl,?_⟩))
         go_ret2
         exact ⟨by first|rfl|(simp;done)|(simp only [← hji14,← hji16]<;>(first|rfl|simp))|(simp [*];done),byam⟩
        ·rw [if_neg c15] at H
         exact absurd H (by simp)
end Go.Proofs.Ytkkbdimegpdbgaa.P
