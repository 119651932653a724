/- Functions of the program as Lean functions, and the walks that show that the calls answer so; written by a program of this session (a changed print) and by hand. -/
import Derived.Test.YtkkbdimegpdbgaaQsPx0
import Derived.Test.YtkkbdimegpdbgaaQsPx1
import Derived.Test.YtkkbdimegpdbgaaQsPx3
import Derived.Test.YtkkbdimegpdbgaaQsPx4
namespace Go.Proofs.Ytkkbdimegpdbgaa.P
open Go.RowKit Go.Proofs.YtkkbdimegpdbgaaW.PrintWords Go.Proofs.YtkkbdimegpdbgaaW.PrintLast Go.Proofs.YtkkbdimegpdbgaaW.PrintMore
attribute [local go_sem] kF kD kV kU uJ uK kG kE
set_option linter.unusedVariables false
set_option linter.unusedSimpArgs false
def uS.f (k : Nat) (l0_0 : List (S58)) (a1 : Int) : Option (Bool):=(vY.f a1).bind fun t172=>(if t172 = true then (if a1 = 0 then (some false) else ((kP.f k l0_0 a1).bind fun t173=>(if t173 = true then ((jG.f k l0_0 a1).bind fun bt174=>(some (!bt174.2))) else (some false)))) else (some false))
theorem uS.mono : ∀ a0 a1 k,LeO (uS.f k a0 a1) (uS.f (k + 1) a0 a1):=by
 intro a0 a1 k
 unfold uS.f
 repeat' first
   | (with_reducible exact kP.mono _ _ _)
   | (with_reducible exact jG.mono _ _ _)
   | (with_reducible exact LeO.refl _)
   | (with_reducible exact LeO.none _)
   | (with_reducible refine LeO.ite ?_ ?_)
   | (with_reducible refine LeO.bind ?_ (fun _=>?_))
   | exact kP.mono _ _ _
   | exact jG.mono _ _ _
   | exact LeO.none _
   | refine LeO.ite ?_ ?_
   | refine LeO.bind ?_ (fun _=>?_)
set_option maxHeartbeats 8000000 in
set_option maxRecDepth 100000 in
theorem uS.calls (k : Nat) (A0_0 : Option Addr) (c0_0 : Nat) (l0_0 : List (S58)) (a1 : Int) (r : Bool) (w : World) (hr0_0 : Kd.C k58 w A0_0 l0_0.length l0_0) (hc0_0 : l0_0.length ≤ c0_0) (h : uS.f k l0_0 a1 = some r) :
  Calls Try.prog 51 #[.agg #[.slice A0_0 l0_0.length c0_0],.int .i64 a1] w fun e w'=>e = .returned (.bool r)∧Below w.heap.size w w':=by
 have hu25:=Try.underlying25
 have HR0_0:=qA.mk hr0_0
 have HC0_0:=qA.mk hc0_0
 clear hr0_0 hc0_0
 have HB:=qA.mk (Below.refl w.heap.size w)
 unfold uS.f at h
 have H:=h
 clear h
 replace H:=Option.bind_eq_some_iff.mp H
 obtain ⟨t172,A30,H⟩:=H
 try dsimp only at H
 have A3:=qA.mk A30
 clear A30
 by_cases c4 : t172 = true
 ·subst c4
  rw [if_pos rfl] at H
  by_cases c5 : a1 = 0
  ·rw [if_pos c5] at H
   obtain ⟨c5b0,c5b1⟩:=eqT c5
   clear c5
   obtain rfl:=Option.some.inj H
   go_enter Try.func51,Try.ntmps51
   go_wp2_with (first|((with_reducible refine qP (N:=2) rfl ?_);refine zV (N:=2) (cs:=#[.slice A0_0 l0_0.length c0_0]) (t:=25) ?_;intro gb171 hg w6 hbox hb;have n_:=q_4 (qC byab hb) (hbox) ((byck : w.heap.size ≤ gb171)) ((byck : w.heap.size ≤ gb171));clear HB;obtain ⟨HB,BK171,GW171,GE171⟩:=n_;clear hb hbox hg)|((with_reducible refine qI (f:=73) rfl ?_);refine qY (some 8) rfl rfl Try.func73 (by kernel_rfl) rfl #[.int .i64 a1] rfl byah ?_;(with_reducible refine (vY.calls a1 true _ A3.out).mono ?_);rintro e w' ⟨rfl,⟨nd,rfl⟩⟩;refine ⟨_,rfl,?_⟩))
   go_ret
   exact ⟨byac,byad GE171.out⟩
  ·rw [if_neg c5] at H
   obtain ⟨c5b0,c5b1⟩:=eqF c5
   replace H:=Option.bind_eq_some_iff.mp H
   obtain ⟨t173,A70,H⟩:=H
   try dsimp only at H
   have A7:=qA.mk A70
   clear A70
   by_cases c8 : t173 = true
   ·subst c8
    rw [if_pos rfl] at H
    replace H:=Option.bind_eq_some_iff.mp H
    obtain ⟨⟨t174,t175⟩,A90,H⟩:=H
    try dsimp only at H
    have A9:=qA.mk A90
    clear A90
    obtain rfl:=Option.some.inj H
    go_enter Try.func51,Try.ntmps51
    go_wp2_with (first|((with_reducible refine qP (N:=2) rfl ?_);refine zV (N:=2) (cs:=#[.slice A0_0 l0_0.length c0_0]) (t:=25) ?_;intro gb171 hg w10 hbox hb;have n_:=q_4 (qC byab hb) (hbox) ((byck : w.heap.size ≤ gb171)) ((byck : w.heap.size ≤ gb171));clear HB;obtain ⟨HB,BK171,GW171,GE171⟩:=n_;clear hb hbox hg)|((with_reducible refine qI (f:=73) rfl ?_);refine qY (some 8) rfl rfl Try.func73 (by kernel_rfl) rfl #[.int .i64 a1] rfl byah ?_;(with_reducible refine (vY.calls a1 true _ A3.out).mono ?_);rintro e w' ⟨rfl,⟨nd,rfl⟩⟩;refine ⟨_,rfl,?_⟩;obtain ⟨hcz11_0,hfz11_0⟩:=cz1 BK171.out)|(go_at_call 74;(with_reducible refine (kP.calls k _ _ l0_0 a1 true _ ?side1 ?side2 A7.out).mono ?_);(case side1=>exact bycm HR0_0.out GE171.out);(case side2=>exact HC0_0.out);rintro e w12 ⟨rfl,hb⟩;have n_:=q_2 (qH BK171.out hb) (qC (byad GE171.out) hb);clear BK171 HB;obtain ⟨BK171,HB⟩:=n_;clear hb;obtain ⟨hcz13_0,hfz13_0⟩:=cz1 BK171.out)|((with_reducible refine qI (f:=75) rfl ?_);refine qY (some 23) rfl rfl Try.func75 (by kernel_rfl) rfl #[.agg #[.slice A0_0 l0_0.length c0_0],.int .i64 a1] rfl byah ?_;(with_reducible refine (jG.calls k _ _ l0_0 a1 t174 t175 _ ?side1 ?side2 A9.out).mono ?_);(case side1=>exact byaq HR0_0.out);(case side2=>exact HC0_0.out);rintro e w14 ⟨rfl,hb⟩;refine ⟨_,rfl,?_⟩;have n_:=q_2 (qH BK171.out hb) (qC (byad GE171.out) hb);clear BK171 HB;obtain ⟨BK171,HB⟩:=n_;clear hb))
    go_ret
    exact ⟨byac,byad GE171.out⟩
   ·replace c8:=Bool.eq_false_iff.mpr c8
    subst c8
    rw [if_neg (show ¬ (false = true) by decide)] at H
    obtain rfl:=Option.some.inj H
    go_enter Try.func51,Try.ntmps51
    go_wp2_with (first|((with_reducible refine qP (N:=2) rfl ?_);refine zV (N:=2) (cs:=#[.slice A0_0 l0_0.length c0_0]) (t:=25) ?_;intro gb171 hg w15 hbox hb;have n_:=q_4 (qC byab hb) (hbox) ((byck : w.heap.size ≤ gb171)) ((byck : w.heap.size ≤ gb171));clear HB;obtain ⟨HB,BK171,GW171,GE171⟩:=n_;clear hb hbox hg)|((with_reducible refine qI (f:=73) rfl ?_);refine qY (some 8) rfl rfl Try.func73 (by kernel_rfl) rfl #[.int .i64 a1] rfl byah ?_;(with_reducible refine (vY.calls a1 true _ A3.out).mono ?_);rintro e w' ⟨rfl,⟨nd,rfl⟩⟩;refine ⟨_,rfl,?_⟩;obtain ⟨hcz16_0,hfz16_0⟩:=cz1 BK171.out)|(go_at_call 74;(with_reducible refine (kP.calls k _ _ l0_0 a1 false _ ?side1 ?side2 A7.out).mono ?_);(case side1=>exact bycm HR0_0.out GE171.out);(case side2=>exact HC0_0.out);rintro e w17 ⟨rfl,hb⟩;have n_:=q_2 (qH BK171.out hb) (qC (byad GE171.out) hb);clear BK171 HB;obtain ⟨BK171,HB⟩:=n_;clear hb))
    go_ret
    exact ⟨byac,byad GE171.out⟩
 ·replace c4:=Bool.eq_false_iff.mpr c4
  subst c4
  rw [if_neg (show ¬ (false = true) by decide)] at H
  obtain rfl:=Option.some.inj H
  go_enter Try.func51,Try.ntmps51
  go_wp2_with (first|((with_reducible refine qP (N:=2) rfl ?_);refine zV (N:=2) (cs:=#[.slice A0_0 l0_0.length c0_0]) (t:=25) ?_;intro gb171 hg w18 hbox hb;have n_:=q_4 (qC byab hb) (hbox) ((byck : w.heap.size ≤ gb171)) ((byck : w.heap.size ≤ gb171));clear HB;obtain ⟨HB,BK171,GW171,GE171⟩:=n_;clear hb hbox hg)|((with_reducible refine qI (f:=73) rfl ?_);refine qY (some 8) rfl rfl Try.func73 (by kernel_rfl) rfl #[.int .i64 a1] rfl byah ?_;(with_reducible refine (vY.calls a1 false _ A3.out).mono ?_);rintro e w' ⟨rfl,⟨nd,rfl⟩⟩;refine ⟨_,rfl,?_⟩))
  go_ret
  exact ⟨byac,byad GE171.out⟩
def jH.l0 : Nat→Int→List Int→List (S58)→Option (Int × List Int)
 | 0,_,_,_=>none
 | k + 1,x1,x6,x177000=>(jG.f k x177000 x1).bind fun bt179=>(if bt179.2 = true then (if x6.length < 17592186044416 then (if 0 ≤ bt179.1 then (jH.l0 k (Go.bits .andNot .i64 x1 (shl .i64 1 bt179.1)) (x6 ++ [bt179.1]) x177000) else (none)) else (none)) else (some (x1,x6)))
def jH.f (k : Nat) (l0_0 : List (S58)) (a1 : Int) : Option (Int × List Int):=(vY.f a1).bind fun t177=>(if t177 = true then ((qW.f k l0_0).bind fun t178=>(jH.l0 k (Go.bits .and .i64 a1 t178) ([] : List Int) l0_0)) else (some (0,([] : List Int))))
theorem jH.mono_l : ∀ k,(∀ y0 y1 y2,LeO (jH.l0 k y0 y1 y2) (jH.l0 (k + 1) y0 y1 y2))
 | 0=>fun _ _ _ r h=>by simp [jH.l0] at h
 | k + 1=>by
  have ih0:=jH.mono_l k
  ·intro y0 y1 y2
   unfold jH.l0
   repeat' first
   | (with_reducible exact ih0 _ _ _)
   | (with_reducible exact jG.mono _ _ _)
   | (with_reducible exact qW.mono _ _)
   | (with_reducible exact LeO.refl _)
   | (with_reducible exact LeO.none _)
   | (with_reducible refine LeO.ite ?_ ?_)
   | (with_reducible refine LeO.bind ?_ (fun _=>?_))
   | exact ih0 _ _ _
   | exact jG.mono _ _ _
   | exact qW.mono _ _
   | exact LeO.none _
   | refine LeO.ite ?_ ?_
   | refine LeO.bind ?_ (fun _=>?_)
theorem jH.mono : ∀ a0 a1 k,LeO (jH.f k a0 a1) (jH.f (k + 1) a0 a1):=by
 intro a0 a1 k
 have ih0:=jH.mono_l k
 unfold jH.f
 repeat' first
   | (with_reducible exact ih0 _ _ _)
   | (with_reducible exact jG.mono _ _ _)
   | (with_reducible exact qW.mono _ _)
   | (with_reducible exact LeO.refl _)
   | (with_reducible exact LeO.none _)
   | (with_reducible refine LeO.ite ?_ ?_)
   | (with_reducible refine LeO.bind ?_ (fun _=>?_))
   | exact ih0 _ _ _
   | exact jG.mono _ _ _
   | exact qW.mono _ _
   | exact LeO.none _
   | refine LeO.ite ?_ ?_
   | refine LeO.bind ?_ (fun _=>?_)
set_option maxHeartbeats 8000000 in
set_option maxRecDepth 100000 in
theorem jH.calls (k : Nat) (A0_0 : Option Addr) (c0_0 : Nat) (l0_0 : List (S58)) (a1 : Int) (r1 : Int) (r2 : List Int) (w : World) (hr0_0 : Kd.C k58 w A0_0 l0_0.length l0_0) (hc0_0 : l0_0.length ≤ c0_0) (h : jH.f k l0_0 a1 = some (r1,r2)) :
  Calls Try.prog 76 #[.agg #[.slice A0_0 l0_0.length c0_0],.int .i64 a1] w fun e w'=>∃ v1_ : Value,e = .returned (.tuple #[.int .i64 r1,v1_])∧Kd.R (Kd.int .i64) 3 w' w.heap.size (fun _=>True) v1_ r2∧Below w.heap.size w w':=by
 have hu25:=Try.underlying25
 have HR0_0:=qA.mk hr0_0
 have HC0_0:=qA.mk hc0_0
 clear hr0_0 hc0_0
 have HB:=qA.mk (Below.refl w.heap.size w)
 unfold jH.f at h
 have H:=h
 clear h
 replace H:=Option.bind_eq_some_iff.mp H
 obtain ⟨t177,A30,H⟩:=H
 try dsimp only at H
 have A3:=qA.mk A30
 clear A30
 by_cases c4 : t177 = true
 ·subst c4
  rw [if_pos rfl] at H
  replace H:=Option.bind_eq_some_iff.mp H
  obtain ⟨t178,A50,H⟩:=H
  try dsimp only at H
  have A5:=qA.mk A50
  clear A50
  have H':=qA.mk H
  clear H
  go_enter Try.func76,Try.ntmps76
  go_wp2_with (first|((with_reducible refine qP (N:=2) rfl ?_);refine zV (N:=2) (cs:=#[.slice A0_0 l0_0.length c0_0]) (t:=25) ?_;intro gb176 hg w6 hbox hb;have n_:=q_4 (qC byab hb) (hbox) ((byck : w.heap.size ≤ gb176)) ((byck : w.heap.size ≤ gb176));clear HB;obtain ⟨HB,BK176,GW176,GE176⟩:=n_;clear hb hbox hg)|((with_reducible refine qI (f:=73) rfl ?_);refine qY (some 10) rfl rfl Try.func73 (by kernel_rfl) rfl #[.int .i64 a1] rfl byah ?_;(with_reducible refine (vY.calls a1 true _ A3.out).mono ?_);rintro e w' ⟨rfl,⟨nd,rfl⟩⟩;refine ⟨_,rfl,?_⟩;obtain ⟨hcz7_0,hfz7_0⟩:=cz1 BK176.out)|((with_reducible refine qI (f:=86) rfl ?_);refine qY (some 14) rfl rfl Try.func86 (by kernel_rfl) rfl #[.agg #[.slice A0_0 l0_0.length c0_0]] rfl byah ?_;(with_reducible refine (qW.calls k _ _ l0_0 t178 _ ?side1 ?side2 A5.out).mono ?_);(case side1=>exact bycm HR0_0.out GE176.out);(case side2=>exact HC0_0.out);rintro e w8 ⟨rfl,hb⟩;refine ⟨_,rfl,?_⟩;have n_:=q_2 (qH BK176.out hb) (qC (byad GE176.out) hb);clear BK176 HB;obtain ⟨BK176,HB⟩:=n_;clear hb))
  go_loopg [1,6] k (fun kq v1 v6 w'=>∃ (x1_1 : Int) (x6_1 : List Int),v1 = .int .i64 x1_1∧qA (jH.l0 kq x1_1 x6_1 l0_0 = some (r1,r2))∧qA (kq ≤ k)∧qA (Kd.R (Kd.int .i64) 3 w' w.heap.size (fun _=>True) v6 x6_1)∧qA (w'.heap[gb176]? = some (.cells #[(.slice A0_0 l0_0.length c0_0)] 25 (0,0)))∧qA (Below w.heap.size w w'))
  case atStart=>exact ⟨(Go.bits .and .i64 a1 t178),(([] : List Int)),byae,H',⟨Nat.le_refl _⟩,⟨byau⟩,⟨byaf BK176.out⟩,⟨byad GE176.out⟩⟩
  case round =>
   clear H'
   obtain ⟨x1_1,x6_1,rfl,HA,HK1,HO_6,BK176,HB⟩:=hrel
   cases gk with
   | zero=>exact absurd HA.out (by simp [jH.l0])
   | succ k1 =>
    have H:=HA.out
    clear HA
    simp only [jH.l0] at H
    replace H:=Option.bind_eq_some_iff.mp H
    obtain ⟨⟨t179,t180⟩,A90,H⟩:=H
    try dsimp only at H
    have A9:=qA.mk A90
    clear A90
    by_cases c10 : t180 = true
    ·subst c10
     rw [if_pos rfl] at H
     by_cases c11 : x6_1.length < 17592186044416
     ·rw [if_pos c11] at H
      have LMc11:=qA.mk c11
      clear c11
      obtain ⟨y181,hy181⟩ : ∃ y_ : List Int,y_ = (x6_1 ++ [t179]):=⟨_,rfl⟩
      replace H : (if 0 ≤ t179 then (jH.l0 k1 (Go.bits .andNot .i64 x1_1 (shl .i64 1 t179)) y181 l0_0) else (none)) = some (r1,r2):=by first|(rw [hy181];with_reducible exact H)|(have H2_:=(Option.bind_some _ _).symm.trans H;rw [hy181];with_reducible exact H2_)|(have H2_:=(Option.bind_some _ _).symm.trans H;with_reducible exact H2_)|with_reducible exact H|(rw [hy181];exact H)|exact H
      have Ny181:=qA.mk hy181
      clear hy181
      by_cases c12 : 0 ≤ t179
      ·rw [if_pos c12] at H
       have c12b0:=eq_true c12
       have c12b1:=decide_eq_true c12
       clear c12
       obtain ⟨ji13,hji13⟩ : ∃ j_ : Int,(shl .i64 1 t179) = j_:=⟨_,rfl⟩
       (first|rw [hji13] at H|(simp only [hji13] at H))
       (try rw [hji13] at A9)
       obtain ⟨hji13_,hji13z,hji13u,hji13v,hji13y,hji13x⟩:=jiA hji13
       have H':=qA.mk H
       clear H
       obtain ⟨hcz14_0,hfz14_0⟩:=cz1 BK176.out
       go_wp2_with (first|((with_reducible refine qI (f:=75) rfl ?_);refine qY (some 19) rfl rfl Try.func75 (by kernel_rfl) rfl #[.agg #[.slice A0_0 l0_0.length c0_0],.int .i64 x1_1] rfl byah ?_;(with_reducible refine (jG.calls k1 _ _ l0_0 x1_1 t179 true _ ?side1 ?side2 A9.out).mono ?_);(case side1=>exact byaq HR0_0.out);(case side2=>exact HC0_0.out);rintro e w15 ⟨rfl,hb⟩;refine ⟨_,rfl,?_⟩;have n_:=q_3 (Kd.uP (byav HO_6.out) hb) (qH BK176.out hb) (qC (byad GE176.out) hb);clear HO_6 BK176 HB;obtain ⟨HO_6,BK176,HB⟩:=n_;clear hb)|((with_reducible refine uU (b:=.append) (xs:=#[.tmp 26,.tmp 28]) rfl ?_);at_builtin;refine Kd.Qk (Kd.int .i64) (w0:=w) w.heap.size rfl (.tmp 26) (.tmp 28) 22 3 (.int .i64 0) 8 rfl Try.underlying22 info3 rfl (by decide) (by omega) u6 x6_1 t179 [.int .i64 t179] (fun _=>True) (fun _=>False) rfl rfl ?aP (fun _ hk=>hk.elim) ?aF ?aO ?aB ?aS ?aL ?_;(case aP=>exact rfl);(case aB=>exact (byad GE176.out));(case aF=>exact (fun _ _=>trivial));(case aO=>exact (byav HO_6.out));(case aS=>exact (jX (byad GE176.out)));(case aL=>have:=LMc11.out;omega);intro v182 w16 ho hb hg hat;rw [← Ny181.out] at ho;have n_:=q_3 (vP (g:=gb176) (o:=.cells #[.slice A0_0 l0_0.length c0_0] 25 (0,0)) (byaf BK176.out) hg (Kd.R_ne HO_6.out BK176.out (by decide))) (hb) (ho);clear BK176 HB HO_6;obtain ⟨BK176,HB,HO183⟩:=n_;clear ho hb hg hat))
       go_roundg k1
       case measure=>have:=HK1.out;omega
       case rel=>exact ⟨(Go.bits .andNot .i64 x1_1 (ji13)),(y181),(by first|rfl|(simp;done)|(simp only [← hji13]<;>(first|rfl|simp))|(simp [*];done)),H',⟨byai⟩,⟨byav HO183.out⟩,⟨byaf BK176.out⟩,⟨byad GE176.out⟩⟩
      ·rw [if_neg c12] at H
       exact absurd H (by simp)
     ·rw [if_neg c11] at H
      exact absurd H (by simp)
    ·replace c10:=Bool.eq_false_iff.mpr c10
     subst c10
     rw [if_neg (show ¬ (false = true) by decide)] at H
     simp only [Option.some.injEq,Prod.mk.injEq] at H
     obtain ⟨rfl,rfl⟩:=H
     obtain ⟨hcz17_0,hfz17_0⟩:=cz1 BK176.out
     go_wp2_with (first|((with_reducible refine qI (f:=75) rfl ?_);refine qY (some 19) rfl rfl Try.func75 (by kernel_rfl) rfl #[.agg #[.slice A0_0 l0_0.length c0_0],.int .i64 x1_1] rfl byah ?_;(with_reducible refine (jG.calls k1 _ _ l0_0 x1_1 t179 false _ ?side1 ?side2 A9.out).mono ?_);(case side1=>exact byaq HR0_0.out);(case side2=>exact HC0_0.out);rintro e w18 ⟨rfl,hb⟩;refine ⟨_,rfl,?_⟩;have n_:=q_3 (Kd.uP (byav HO_6.out) hb) (qH BK176.out hb) (qC (byad GE176.out) hb);clear HO_6 BK176 HB;obtain ⟨HO_6,BK176,HB⟩:=n_;clear hb))
     go_ret2
     exact ⟨_,byac,byav HO_6.out,byad GE176.out⟩
 ·replace c4:=Bool.eq_false_iff.mpr c4
  subst c4
  rw [if_neg (show ¬ (false = true) by decide)] at H
  simp only [Option.some.injEq,Prod.mk.injEq] at H
  obtain ⟨rfl,rfl⟩:=H
  go_enter Try.func76,Try.ntmps76
  go_wp2_with (first|((with_reducible refine qP (N:=2) rfl ?_);refine zV (N:=2) (cs:=#[.slice A0_0 l0_0.length c0_0]) (t:=25) ?_;intro gb176 hg w19 hbox hb;have n_:=q_4 (qC byab hb) (hbox) ((byck : w.heap.size ≤ gb176)) ((byck : w.heap.size ≤ gb176));clear HB;obtain ⟨HB,BK176,GW176,GE176⟩:=n_;clear hb hbox hg)|((with_reducible refine qI (f:=73) rfl ?_);refine qY (some 10) rfl rfl Try.func73 (by kernel_rfl) rfl #[.int .i64 a1] rfl byah ?_;(with_reducible refine (vY.calls a1 false _ A3.out).mono ?_);rintro e w' ⟨rfl,⟨nd,rfl⟩⟩;refine ⟨_,rfl,?_⟩))
  go_ret2
  exact ⟨_,byac,byau,byad GE176.out⟩
def jS.f (k : Nat) (l0_0 : List (S58)) (a1 : Int) : Option (Int):=(jH.f k l0_0 a1).bind fun bt185=>(some bt185.1)
theorem jS.mono : ∀ a0 a1 k,LeO (jS.f k a0 a1) (jS.f (k + 1) a0 a1):=by
 intro a0 a1 k
 unfold jS.f
 repeat' first
   | (with_reducible exact jH.mono _ _ _)
   | (with_reducible exact LeO.refl _)
   | (with_reducible exact LeO.none _)
   | (with_reducible refine LeO.ite ?_ ?_)
   | (with_reducible refine LeO.bind ?_ (fun _=>?_))
   | exact jH.mono _ _ _
   | exact LeO.none _
   | refine LeO.ite ?_ ?_
   | refine LeO.bind ?_ (fun _=>?_)
set_option maxHeartbeats 8000000 in
set_option maxRecDepth 100000 in
theorem jS.calls (k : Nat) (A0_0 : Option Addr) (c0_0 : Nat) (l0_0 : List (S58)) (a1 : Int) (r : Int) (w : World) (hr0_0 : Kd.C k58 w A0_0 l0_0.length l0_0) (hc0_0 : l0_0.length ≤ c0_0) (h : jS.f k l0_0 a1 = some r) :
  Calls Try.prog 52 #[.agg #[.slice A0_0 l0_0.length c0_0],.int .i64 a1] w fun e w'=>e = .returned (.int .i64 r)∧Below w.heap.size w w':=by
 have hu25:=Try.underlying25
 have HR0_0:=qA.mk hr0_0
 have HC0_0:=qA.mk hc0_0
 clear hr0_0 hc0_0
 have HB:=qA.mk (Below.refl w.heap.size w)
 unfold jS.f at h
 have H:=h
 clear h
 replace H:=Option.bind_eq_some_iff.mp H
 obtain ⟨⟨t185,t186⟩,A30,H⟩:=H
 try dsimp only at H
 have A3:=qA.mk A30
 clear A30
 obtain rfl:=Option.some.inj H
 go_enter Try.func52,Try.ntmps52
 go_wp2_with (first|((with_reducible refine qP (N:=2) rfl ?_);refine zV (N:=2) (cs:=#[.slice A0_0 l0_0.length c0_0]) (t:=25) ?_;intro gb184 hg w4 hbox hb;have n_:=q_4 (qC byab hb) (hbox) ((byck : w.heap.size ≤ gb184)) ((byck : w.heap.size ≤ gb184));clear HB;obtain ⟨HB,BK184,GW184,GE184⟩:=n_;clear hb hbox hg;obtain ⟨hcz5_0,hfz5_0⟩:=cz1 BK184.out)|((with_reducible refine qI (f:=76) rfl ?_);refine qY (some 10) rfl rfl Try.func76 (by kernel_rfl) rfl #[.agg #[.slice A0_0 l0_0.length c0_0],.int .i64 a1] rfl byah ?_;(with_reducible refine (jH.calls k _ _ l0_0 a1 t185 t186 _ ?side1 ?side2 A3.out).mono ?_);(case side1=>exact byaq HR0_0.out);(case side2=>exact HC0_0.out);rintro e w6 ⟨v187,rfl,ho0,hb⟩;refine ⟨_,rfl,?_⟩;have n_:=q_3 (Kd.uZ ho0 (jX (byad GE184.out))) (qH BK184.out hb) (qC (byad GE184.out) hb);clear BK184 HB;obtain ⟨HO188,BK184,HB⟩:=n_;clear hb;(try clear ho0)))
 go_ret
 exact ⟨byac,byad GE184.out⟩
def vK.f (l0_0 : List (S58)) : Option (Int):=some (wrap64 ((shl .i64 1 (l0_0.length : Int)) - 1))
set_option maxHeartbeats 8000000 in
set_option maxRecDepth 100000 in
theorem vK.calls (A0_0 : Option Addr) (c0_0 : Nat) (l0_0 : List (S58)) (r : Int) (w : World) (hr0_0 : Kd.C k58 w A0_0 l0_0.length l0_0) (hc0_0 : l0_0.length ≤ c0_0) (h : vK.f l0_0 = some r) :
  Calls Try.prog 53 #[.agg #[.slice A0_0 l0_0.length c0_0]] w fun e w'=>e = .returned (.int .i64 r)∧Below w.heap.size w w':=by
 have hu25:=Try.underlying25
 have HR0_0:=qA.mk hr0_0
 have HC0_0:=qA.mk hc0_0
 clear hr0_0 hc0_0
 have HB:=qA.mk (Below.refl w.heap.size w)
 unfold vK.f at h
 have H:=h
 clear h
 obtain ⟨ji2,hji2⟩ : ∃ j_ : Int,(shl .i64 1 (l0_0.length : Int)) = j_:=⟨_,rfl⟩
 (first|rw [hji2] at H|(simp only [hji2] at H))
 obtain ⟨hji2_,hji2z,hji2p,hji2q,hji2r,hji2s,hji2u,hji2v,hji2y,hji2x⟩:=jiB hji2
 obtain rfl:=Option.some.inj H
 go_enter Try.func53,Try.ntmps53
 go_wp2_with (first|((with_reducible refine qP (N:=1) rfl ?_);refine zV (N:=1) (cs:=#[.slice A0_0 l0_0.length c0_0]) (t:=25) ?_;intro gb189 hg w3 hbox hb;have n_:=q_4 (qC byab hb) (hbox) ((byck : w.heap.size ≤ gb189)) ((byck : w.heap.size ≤ gb189));clear HB;obtain ⟨HB,BK189,GW189,GE189⟩:=n_;clear hb hbox hg;obtain ⟨hcz4_0,hfz4_0⟩:=cz1 BK189.out))
 go_ret
 exact ⟨byaw,byad GE189.out⟩
def jJ.l0 : Nat→Int→Int→Bool→List (S58)→Option (Int × Int)
 | 0,_,_,_,_=>none
 | k + 1,x4,x5,x6,x191000=>if x6 = true then ((uS.f k x191000 x5).bind fun t191=>(if t191 = true then ((vK.f x191000).bind fun t194=>((jS.f k x191000 (Go.bits .andNot .i64 t194 x5)).bind fun t195=>(if t195 = 0 then ((jW.f k x5 x4).bind fun bt196=>(jJ.l0 k x4 bt196.1 bt196.2 x191000)) else (some (x5,t195))))) else ((jW.f k x5 x4).bind fun bt192=>(jJ.l0 k x4 bt192.1 bt192.2 x191000)))) else (some (0,0))
def jJ.f (k : Nat) (l0_0 : List (S58)) : Option (Int × Int):=jJ.l0 k (l0_0.length : Int) 0 true l0_0
theorem jJ.mono_l : ∀ k,(∀ y0 y1 y2 y3,LeO (jJ.l0 k y0 y1 y2 y3) (jJ.l0 (k + 1) y0 y1 y2 y3))
 | 0=>fun _ _ _ _ r h=>by simp [jJ.l0] at h
 | k + 1=>by
  have ih0:=jJ.mono_l k
  ·intro y0 y1 y2 y3
   unfold jJ.l0
   repeat' first
   | (with_reducible exact ih0 _ _ _ _)
   | (with_reducible exact jS.mono _ _ _)
   | (with_reducible exact uS.mono _ _ _)
   | (with_reducible exact jW.mono _ _ _)
   | (with_reducible exact LeO.refl _)
   | (with_reducible exact LeO.none _)
   | (with_reducible refine LeO.ite ?_ ?_)
   | (with_reducible refine LeO.bind ?_ (fun _=>?_))
   | exact ih0 _ _ _ _
   | exact jS.mono _ _ _
   | exact uS.mono _ _ _
   | exact jW.mono _ _ _
   | exact LeO.none _
   | refine LeO.ite ?_ ?_
   | refine LeO.bind ?_ (fun _=>?_)
theorem jJ.mono : ∀ a0 k,LeO (jJ.f k a0) (jJ.f (k + 1) a0):=by
 intro a0 k
 have ih0:=jJ.mono_l k
 unfold jJ.f
 repeat' first
   | (with_reducible exact ih0 _ _ _ _)
   | (with_reducible exact jS.mono _ _ _)
   | (with_reducible exact uS.mono _ _ _)
   | (with_reducible exact jW.mono _ _ _)
   | (with_reducible exact LeO.refl _)
   | (with_reducible exact LeO.none _)
   | (with_reducible refine LeO.ite ?_ ?_)
   | (with_reducible refine LeO.bind ?_ (fun _=>?_))
   | exact ih0 _ _ _ _
   | exact jS.mono _ _ _
   | exact uS.mono _ _ _
   | exact jW.mono _ _ _
   | exact LeO.none _
   | refine LeO.ite ?_ ?_
   | refine LeO.bind ?_ (fun _=>?_)
set_option maxHeartbeats 8000000 in
set_option maxRecDepth 100000 in
theorem jJ.calls (k : Nat) (A0_0 : Option Addr) (c0_0 : Nat) (l0_0 : List (S58)) (r1 : Int) (r2 : Int) (w : World) (hr0_0 : Kd.C k58 w A0_0 l0_0.length l0_0) (hc0_0 : l0_0.length ≤ c0_0) (h : jJ.f k l0_0 = some (r1,r2)) :
  Calls Try.prog 36 #[.agg #[.slice A0_0 l0_0.length c0_0]] w fun e w'=>e = .returned (.tuple #[.int .i64 r1,.int .i64 r2])∧Below w.heap.size w w':=by
 have hu25:=Try.underlying25
 have HR0_0:=qA.mk hr0_0
 have HC0_0:=qA.mk hc0_0
 clear hr0_0 hc0_0
 have HB:=qA.mk (Below.refl w.heap.size w)
 unfold jJ.f at h
 have H:=h
 clear h
 have H':=qA.mk H
 clear H
 go_enter Try.func36,Try.ntmps36
 go_wp2_with (first|((with_reducible refine qP (N:=1) rfl ?_);refine zV (N:=1) (cs:=#[.slice A0_0 l0_0.length c0_0]) (t:=25) ?_;intro gb190 hg w2 hbox hb;have n_:=q_4 (qC byab hb) (hbox) ((byck : w.heap.size ≤ gb190)) ((byck : w.heap.size ≤ gb190));clear HB;obtain ⟨HB,BK190,GW190,GE190⟩:=n_;clear hb hbox hg;obtain ⟨hcz3_0,hfz3_0⟩:=cz1 BK190.out))
 go_loopg [5,6] k (fun kq v5 v6 w'=>∃ (x5_1 : Int) (x6_1 : Bool),v5 = .int .i64 x5_1∧v6 = .bool x6_1∧qA (jJ.l0 kq (l0_0.length : Int) x5_1 x6_1 l0_0 = some (r1,r2))∧qA (kq ≤ k)∧qA (w'.heap[gb190]? = some (.cells #[(.slice A0_0 l0_0.length c0_0)] 25 (0,0)))∧qA (Below w.heap.size w w'))
 case atStart=>exact ⟨(0),(true),byae,byae,H',⟨Nat.le_refl _⟩,⟨byaf BK190.out⟩,⟨byad GE190.out⟩⟩
 case round =>
  clear H'
  obtain ⟨x5_1,x6_1,rfl,rfl,HA,HK1,BK190,HB⟩:=hrel
  cases gk with
  | zero=>exact absurd HA.out (by simp [jJ.l0])
  | succ k1 =>
   have H:=HA.out
   clear HA
   simp only [jJ.l0] at H
   by_cases c4 : x6_1 = true
   ·subst c4
    rw [if_pos rfl] at H
    replace H:=Option.bind_eq_some_iff.mp H
    obtain ⟨t191,A50,H⟩:=H
    try dsimp only at H
    have A5:=qA.mk A50
    clear A50
    by_cases c6 : t191 = true
    ·subst c6
     rw [if_pos rfl] at H
     replace H:=Option.bind_eq_some_iff.mp H
     obtain ⟨t194,A70,H⟩:=H
     try dsimp only at H
     have A7:=qA.mk A70
     clear A70
     replace H:=Option.bind_eq_some_iff.mp H
     obtain ⟨t195,A80,H⟩:=H
     try dsimp only at H
     have A8:=qA.mk A80
     clear A80
     by_cases c9 : t195 = 0
     ·rw [if_pos c9] at H
      obtain ⟨c9b0,c9b1⟩:=eqT c9
      clear c9
      replace H:=Option.bind_eq_some_iff.mp H
      obtain ⟨⟨t196,t197⟩,A100,H⟩:=H
      try dsimp only at H
      have A10:=qA.mk A100
      clear A100
      have H':=qA.mk H
      clear H
      obtain ⟨hcz11_0,hfz11_0⟩:=cz1 BK190.out
      try go_wp2_with (first|((with_reducible refine qI (f:=51) rfl ?_);refine qY (some 20) rfl rfl Try.func51 (by kernel_rfl) rfl #[.agg #[.slice A0_0 l0_0.length c0_0],.int .i64 x5_1] rfl byah ?_;(with_reducible refine (uS.calls k1 _ _ l0_0 x5_1 true _ ?side1 ?side2 A5.out).mono ?_);(case side1=>exact byaq HR0_0.out);(case side2=>exact HC0_0.out);rintro e w12 ⟨rfl,hb⟩;refine ⟨_,rfl,?_⟩;have n_:=q_2 (qH BK190.out hb) (qC (byad GE190.out) hb);clear BK190 HB;obtain ⟨BK190,HB⟩:=n_;clear hb))
      have n_:=q_2 (qG BK190.out) (vI HB.out)
      clear BK190 HB
      obtain ⟨BK190,HB⟩:=n_
      refine Qm (n:=7) (S:=fun w'=>w'.cell? ⟨gb190,0,none⟩ = some (.slice A0_0 l0_0.length c0_0)) (ds:=[]) (bb 7 0) (by kernel_rfl) rfl rfl ((qN BK190.out 0).trans rfl) (fun hHeld=>?_)
      generalize w12.drew = w13 at BK190 HB hHeld ⊢
      refine Qr (i:=3) (N:=some 25) (bb 7 8) ?_
      refine takeZB (i:=0) (N:=some 22) (bb 7 9) hHeld ?_
      refine takeZB (i:=1) (N:=some 23) (bb 7 11) hHeld ?_
      refine one_ (i:=2) (N:=some 24) (bb 7 15) rfl rfl (by kernel_rfl) (by decide) (fun K hK=>?_)
      refine Qg Try.func53 (by kernel_rfl) rfl #[.agg #[.slice A0_0 l0_0.length c0_0]] (by rfl) rfl rfl byah ?_
      with_reducible refine (vK.calls _ _ l0_0 t194 _ ?side1 ?side2 A7.out).mono ?_
      (case side1=>exact byaq HR0_0.out)
      (case side2=>exact HC0_0.out)
      rintro e w14 ⟨rfl,hb⟩
      refine ⟨_,rfl,?_⟩
      have n_:=q_2 (qH BK190.out hb) (qC (byad GE190.out) hb)
      clear BK190 HB
      obtain ⟨BK190,HB⟩:=n_
      (try clear hb)
      (try clear hb2)
      (try clear hk)
      (try clear hi)
      refine hK.out _ _ ((qN BK190.out 0).trans rfl) (fun hHeld=>?_)
      clear hK K
      refine kN (N:=some 24) ?_
      refine Qr (i:=4) (N:=some 26) (bb 7 31) ?_
      refine one_ (i:=5) (N:=some 27) (bb 7 63) rfl rfl (by kernel_rfl) (by decide) (fun K hK=>?_)
      refine Qg Try.func52 (by kernel_rfl) rfl #[.agg #[.slice A0_0 l0_0.length c0_0],.int .i64 (Go.bits .andNot .i64 t194 x5_1)] (by rfl) rfl rfl byah ?_
      with_reducible refine (jS.calls k1 _ _ l0_0 (Go.bits .andNot .i64 t194 x5_1) t195 _ ?side1 ?side2 A8.out).mono ?_
      (case side1=>exact byaq HR0_0.out)
      (case side2=>exact HC0_0.out)
      rintro e w15 ⟨rfl,hb⟩
      refine ⟨_,rfl,?_⟩
      have n_:=q_2 (qH BK190.out hb) (qC (byad GE190.out) hb)
      clear BK190 HB
      obtain ⟨BK190,HB⟩:=n_
      (try clear hb)
      (try clear hb2)
      (try clear hk)
      (try clear hi)
      refine hK.out _ _ ((qN BK190.out 0).trans rfl) (fun hHeld=>?_)
      clear hK K
      refine kN (N:=some 27) ?_
      refine Qr (i:=6) (N:=some 7) (bb 7 127) ?_
      refine Ze (by kernel_rfl) ?_
      try go_wp2_with (first|((with_reducible refine qI (f:=50) rfl ?_);refine qY (some 15) rfl rfl Try.func50 (by kernel_rfl) rfl #[.int .i64 x5_1,.int .i64 (l0_0.length : Int)] rfl byah ?_;(with_reducible refine (jW.calls k1 x5_1 (l0_0.length : Int) t196 t197 _ A10.out).mono ?_);rintro e w' ⟨rfl,⟨nd,rfl⟩⟩;refine ⟨_,rfl,?_⟩))
      go_roundg k1
      case measure=>have:=HK1.out;omega
      case rel=>exact ⟨(t196),(t197),byae,byae,H',⟨byai⟩,⟨byaf BK190.out⟩,⟨byad GE190.out⟩⟩
     ·rw [if_neg c9] at H
      obtain ⟨c9b0,c9b1⟩:=eqF c9
      simp only [Option.some.injEq,Prod.mk.injEq] at H
      obtain ⟨rfl,rfl⟩:=H
      obtain ⟨hcz16_0,hfz16_0⟩:=cz1 BK190.out
      try go_wp2_with (first|((with_reducible refine qI (f:=51) rfl ?_);refine qY (some 20) rfl rfl Try.func51 (by kernel_rfl) rfl #[.agg #[.slice A0_0 l0_0.length c0_0],.int .i64 x5_1] rfl byah ?_;(with_reducible refine (uS.calls k1 _ _ l0_0 x5_1 true _ ?side1 ?side2 A5.out).mono ?_);(case side1=>exact byaq HR0_0.out);(case side2=>exact HC0_0.out);rintro e w17 ⟨rfl,hb⟩;refine ⟨_,rfl,?_⟩;have n_:=q_2 (qH BK190.out hb) (qC (byad GE190.out) hb);clear BK190 HB;obtain ⟨BK190,HB⟩:=n_;clear hb))
      have n_:=q_2 (qG BK190.out) (vI HB.out)
      clear BK190 HB
      obtain ⟨BK190,HB⟩:=n_
      refine Qm (n:=7) (S:=fun w'=>w'.cell? ⟨gb190,0,none⟩ = some (.slice A0_0 l0_0.length c0_0)) (ds:=[]) (bb 7 0) (by kernel_rfl) rfl rfl ((qN BK190.out 0).trans rfl) (fun hHeld=>?_)
      generalize w17.drew = w18 at BK190 HB hHeld ⊢
      refine Qr (i:=3) (N:=some 25) (bb 7 8) ?_
      refine takeZB (i:=0) (N:=some 22) (bb 7 9) hHeld ?_
      refine takeZB (i:=1) (N:=some 23) (bb 7 11) hHeld ?_
      refine one_ (i:=2) (N:=some 24) (bb 7 15) rfl rfl (by kernel_rfl) (by decide) (fun K hK=>?_)
      refine Qg Try.func53 (by kernel_rfl) rfl #[.agg #[.slice A0_0 l0_0.length c0_0]] (by rfl) rfl rfl byah ?_
      with_reducible refine (vK.calls _ _ l0_0 t194 _ ?side1 ?side2 A7.out).mono ?_
      (case side1=>exact byaq HR0_0.out)
      (case side2=>exact HC0_0.out)
      rintro e w19 ⟨rfl,hb⟩
      refine ⟨_,rfl,?_⟩
      have n_:=q_2 (qH BK190.out hb) (qC (byad GE190.out) hb)
      clear BK190 HB
      obtain ⟨BK190,HB⟩:=n_
      (try clear hb)
      (try clear hb2)
      (try clear hk)
      (try clear hi)
      refine hK.out _ _ ((qN BK190.out 0).trans rfl) (fun hHeld=>?_)
      clear hK K
      refine kN (N:=some 24) ?_
      refine Qr (i:=4) (N:=some 26) (bb 7 31) ?_
      refine one_ (i:=5) (N:=some 27) (bb 7 63) rfl rfl (by kernel_rfl) (by decide) (fun K hK=>?_)
      refine Qg Try.func52 (by kernel_rfl) rfl #[.agg #[.slice A0_0 l0_0.length c0_0],.int .i64 (Go.bits .andNot .i64 t194 x5_1)] (by rfl) rfl rfl byah ?_
      with_reducible refine (jS.calls k1 _ _ l0_0 (Go.bits .andNot .i64 t194 x5_1) t195 _ ?side1 ?side2 A8.out).mono ?_
      (case side1=>exact byaq HR0_0.out)
      (case side2=>exact HC0_0.out)
      rintro e w20 ⟨rfl,hb⟩
      refine ⟨_,rfl,?_⟩
      have n_:=q_2 (qH BK190.out hb) (qC (byad GE190.out) hb)
      clear BK190 HB
      obtain ⟨BK190,HB⟩:=n_
      (try clear hb)
      (try clear hb2)
      (try clear hk)
      (try clear hi)
      refine hK.out _ _ ((qN BK190.out 0).trans rfl) (fun hHeld=>?_)
      clear hK K
      refine kN (N:=some 27) ?_
      refine Qr (i:=6) (N:=some 7) (bb 7 127) ?_
      refine Ze (by kernel_rfl) ?_
      try go_wp2
      go_ret2
      exact ⟨byac,byad GE190.out⟩
    ·replace c6:=Bool.eq_false_iff.mpr c6
     subst c6
     rw [if_neg (show ¬ (false = true) by decide)] at H
     replace H:=Option.bind_eq_some_iff.mp H
     obtain ⟨⟨t192,t193⟩,A210,H⟩:=H
     try dsimp only at H
     have A21:=qA.mk A210
     clear A210
     have H':=qA.mk H
     clear H
     obtain ⟨hcz22_0,hfz22_0⟩:=cz1 BK190.out
     go_wp2_with (first|((with_reducible refine qI (f:=51) rfl ?_);refine qY (some 20) rfl rfl Try.func51 (by kernel_rfl) rfl #[.agg #[.slice A0_0 l0_0.length c0_0],.int .i64 x5_1] rfl byah ?_;(with_reducible refine (uS.calls k1 _ _ l0_0 x5_1 false _ ?side1 ?side2 A5.out).mono ?_);(case side1=>exact byaq HR0_0.out);(case side2=>exact HC0_0.out);rintro e w23 ⟨rfl,hb⟩;refine ⟨_,rfl,?_⟩;have n_:=q_2 (qH BK190.out hb) (qC (byad GE190.out) hb);clear BK190 HB;obtain ⟨BK190,HB⟩:=n_;clear hb)|((with_reducible refine qI (f:=50) rfl ?_);refine qY (some 15) rfl rfl Try.func50 (by kernel_rfl) rfl #[.int .i64 x5_1,.int .i64 (l0_0.length : Int)] rfl byah ?_;(with_reducible refine (jW.calls k1 x5_1 (l0_0.length : Int) t192 t193 _ A21.out).mono ?_);rintro e w' ⟨rfl,⟨nd,rfl⟩⟩;refine ⟨_,rfl,?_⟩))
     go_roundg k1
     case measure=>have:=HK1.out;omega
     case rel=>exact ⟨(t192),(t193),byae,byae,H',⟨byai⟩,⟨byaf BK190.out⟩,⟨byad GE190.out⟩⟩
   ·replace c4:=Bool.eq_false_iff.mpr c4
    subst c4
    rw [if_neg (show ¬ (false = true) by decide)] at H
    simp only [Option.some.injEq,Prod.mk.injEq] at H
    obtain ⟨rfl,rfl⟩:=H
    go_wp2
    go_ret2
    exact ⟨byac,byad GE190.out⟩
def vS.f (k : Nat) (l0_0 : List (S58)) : Option (Bool × Int):=(zI.f k l0_0).bind fun t199=>(if t199 = 0 then ((jJ.f k l0_0).bind fun bt200=>(some ((bt200.1 == 0),0))) else (some (false,t199)))
theorem vS.mono : ∀ a0 k,LeO (vS.f k a0) (vS.f (k + 1) a0):=by
 intro a0 k
 unfold vS.f
 repeat' first
   | (with_reducible exact zI.mono _ _)
   | (with_reducible exact jJ.mono _ _)
   | (with_reducible exact LeO.refl _)
   | (with_reducible exact LeO.none _)
   | (with_reducible refine LeO.ite ?_ ?_)
   | (with_reducible refine LeO.bind ?_ (fun _=>?_))
   | exact zI.mono _ _
   | exact jJ.mono _ _
   | exact LeO.none _
   | refine LeO.ite ?_ ?_
   | refine LeO.bind ?_ (fun _=>?_)
set_option maxHeartbeats 8000000 in
set_option maxRecDepth 100000 in
theorem vS.calls (k : Nat) (A0_0 : Option Addr) (c0_0 : Nat) (l0_0 : List (S58)) (r1 : Bool) (r2 : Int) (w : World) (hr0_0 : Kd.C k58 w A0_0 l0_0.length l0_0) (hc0_0 : l0_0.length ≤ c0_0) (h : vS.f k l0_0 = some (r1,r2)) :
  Calls Try.prog 14 #[.agg #[.slice A0_0 l0_0.length c0_0]] w fun e w'=>e = .returned (.tuple #[.bool r1,.int .i64 r2])∧Below w.heap.size w w':=by
 have hu25:=Try.underlying25
 have HR0_0:=qA.mk hr0_0
 have HC0_0:=qA.mk hc0_0
 clear hr0_0 hc0_0
 have HB:=qA.mk (Below.refl w.heap.size w)
 unfold vS.f at h
 have H:=h
 clear h
 replace H:=Option.bind_eq_some_iff.mp H
 obtain ⟨t199,A20,H⟩:=H
 try dsimp only at H
 have A2:=qA.mk A20
 clear A20
 by_cases c3 : t199 = 0
 ·rw [if_pos c3] at H
  obtain ⟨c3b0,c3b1⟩:=eqT c3
  clear c3
  replace H:=Option.bind_eq_some_iff.mp H
  obtain ⟨⟨t200,t201⟩,A40,H⟩:=H
  try dsimp only at H
  have A4:=qA.mk A40
  clear A40
  simp only [Option.some.injEq,Prod.mk.injEq] at H
  obtain ⟨rfl,rfl⟩:=H
  go_enter Try.func14,Try.ntmps14
  go_wp2_with (first|((with_reducible refine qP (N:=1) rfl ?_);refine zV (N:=1) (cs:=#[.slice A0_0 l0_0.length c0_0]) (t:=25) ?_;intro gb198 hg w5 hbox hb;have n_:=q_4 (qC byab hb) (hbox) ((byck : w.heap.size ≤ gb198)) ((byck : w.heap.size ≤ gb198));clear HB;obtain ⟨HB,BK198,GW198,GE198⟩:=n_;clear hb hbox hg;obtain ⟨hcz6_0,hfz6_0⟩:=cz1 BK198.out)|((with_reducible refine qI (f:=35) rfl ?_);refine qY (some 8) rfl rfl Try.func35 (by kernel_rfl) rfl #[.agg #[.slice A0_0 l0_0.length c0_0]] rfl byah ?_;(with_reducible refine (zI.calls k _ _ l0_0 t199 _ ?side1 ?side2 A2.out).mono ?_);(case side1=>exact byaq HR0_0.out);(case side2=>exact HC0_0.out);rintro e w7 ⟨rfl,hb⟩;refine ⟨_,rfl,?_⟩;have n_:=q_2 (qH BK198.out hb) (qC (byad GE198.out) hb);clear BK198 HB;obtain ⟨BK198,HB⟩:=n_;clear hb;obtain ⟨hcz8_0,hfz8_0⟩:=cz1 BK198.out)|((with_reducible refine qI (f:=36) rfl ?_);refine qY (some 14) rfl rfl Try.func36 (by kernel_rfl) rfl #[.agg #[.slice A0_0 l0_0.length c0_0]] rfl byah ?_;(with_reducible refine (jJ.calls k _ _ l0_0 t200 t201 _ ?side1 ?side2 A4.out).mono ?_);(case side1=>exact byaq HR0_0.out);(case side2=>exact HC0_0.out);rintro e w9 ⟨rfl,hb⟩;refine ⟨_,rfl,?_⟩;have n_:=q_2 (qH BK198.out hb) (qC (byad GE198.out) hb);clear BK198 HB;obtain ⟨BK198,HB⟩:=n_;clear hb))
  go_ret2
  exact ⟨byac,byad GE198.out⟩
 ·rw [if_neg c3] at H
  obtain ⟨c3b0,c3b1⟩:=eqF c3
  simp only [Option.some.injEq,Prod.mk.injEq] at H
  obtain ⟨rfl,rfl⟩:=H
  go_enter Try.func14,Try.ntmps14
  go_wp2_with (first|((with_reducible refine qP (N:=1) rfl ?_);refine zV (N:=1) (cs:=#[.slice A0_0 l0_0.length c0_0]) (t:=25) ?_;intro gb198 hg w10 hbox hb;have n_:=q_4 (qC byab hb) (hbox) ((byck : w.heap.size ≤ gb198)) ((byck : w.heap.size ≤ gb198));clear HB;obtain ⟨HB,BK198,GW198,GE198⟩:=n_;clear hb hbox hg;obtain ⟨hcz11_0,hfz11_0⟩:=cz1 BK198.out)|((with_reducible refine qI (f:=35) rfl ?_);refine qY (some 8) rfl rfl Try.func35 (by kernel_rfl) rfl #[.agg #[.slice A0_0 l0_0.length c0_0]] rfl byah ?_;(with_reducible refine (zI.calls k _ _ l0_0 t199 _ ?side1 ?side2 A2.out).mono ?_);(case side1=>exact byaq HR0_0.out);(case side2=>exact HC0_0.out);rintro e w12 ⟨rfl,hb⟩;refine ⟨_,rfl,?_⟩;have n_:=q_2 (qH BK198.out hb) (qC (byad GE198.out) hb);clear BK198 HB;obtain ⟨BK198,HB⟩:=n_;clear hb))
  go_ret2
  exact ⟨byac,byad GE198.out⟩
def uG.f (k : Nat) (l0_0 : List (S58)) : Option (Int × Int × Int):=(zI.f k l0_0).bind fun t203=>(if t203 = 0 then ((jJ.f k l0_0).bind fun bt204=>(if bt204.1 = 0 then (some (0,0,11)) else (some (bt204.1,bt204.2,0)))) else (some (0,0,t203)))
theorem uG.mono : ∀ a0 k,LeO (uG.f k a0) (uG.f (k + 1) a0):=by
 intro a0 k
 unfold uG.f
 repeat' first
   | (with_reducible exact zI.mono _ _)
   | (with_reducible exact jJ.mono _ _)
   | (with_reducible exact LeO.refl _)
   | (with_reducible exact LeO.none _)
   | (with_reducible refine LeO.ite ?_ ?_)
   | (with_reducible refine LeO.bind ?_ (fun _=>?_))
   | exact zI.mono _ _
   | exact jJ.mono _ _
   | exact LeO.none _
   | refine LeO.ite ?_ ?_
   | refine LeO.bind ?_ (fun _=>?_)
set_option maxHeartbeats 8000000 in
set_option maxRecDepth 100000 in
theorem uG.calls (k : Nat) (A0_0 : Option Addr) (c0_0 : Nat) (l0_0 : List (S58)) (r1 : Int) (r2 : Int) (r3 : Int) (w : World) (hr0_0 : Kd.C k58 w A0_0 l0_0.length l0_0) (hc0_0 : l0_0.length ≤ c0_0) (h : uG.f k l0_0 = some (r1,r2,r3)) :
  Calls Try.prog 16 #[.agg #[.slice A0_0 l0_0.length c0_0]] w fun e w'=>e = .returned (.tuple #[.int .i64 r1,.int .i64 r2,.int .i64 r3])∧Below w.heap.size w w':=by
 have hu25:=Try.underlying25
 have HR0_0:=qA.mk hr0_0
 have HC0_0:=qA.mk hc0_0
 clear hr0_0 hc0_0
 have HB:=qA.mk (Below.refl w.heap.size w)
 unfold uG.f at h
 have H:=h
 clear h
 replace H:=Option.bind_eq_some_iff.mp H
 obtain ⟨t203,A20,H⟩:=H
 try dsimp only at H
 have A2:=qA.mk A20
 clear A20
 by_cases c3 : t203 = 0
 ·rw [if_pos c3] at H
  obtain ⟨c3b0,c3b1⟩:=eqT c3
  clear c3
  replace H:=Option.bind_eq_some_iff.mp H
  obtain ⟨⟨t204,t205⟩,A40,H⟩:=H
  try dsimp only at H
  have A4:=qA.mk A40
  clear A40
  by_cases c5 : t204 = 0
  ·rw [if_pos c5] at H
   obtain ⟨c5b0,c5b1⟩:=eqT c5
   clear c5
   simp only [Option.some.injEq,Prod.mk.injEq] at H
   obtain ⟨rfl,rfl,rfl⟩:=H
   go_enter Try.func16,Try.ntmps16
   go_wp2_with (first|((with_reducible refine qP (N:=1) rfl ?_);refine zV (N:=1) (cs:=#[.slice A0_0 l0_0.length c0_0]) (t:=25) ?_;intro gb202 hg w6 hbox hb;have n_:=q_4 (qC byab hb) (hbox) ((byck : w.heap.size ≤ gb202)) ((byck : w.heap.size ≤ gb202));clear HB;obtain ⟨HB,BK202,GW202,GE202⟩:=n_;clear hb hbox hg;obtain ⟨hcz7_0,hfz7_0⟩:=cz1 BK202.out)|((with_reducible refine qI (f:=35) rfl ?_);refine qY (some 9) rfl rfl Try.func35 (by kernel_rfl) rfl #[.agg #[.slice A0_0 l0_0.length c0_0]] rfl byah ?_;(with_reducible refine (zI.calls k _ _ l0_0 t203 _ ?side1 ?side2 A2.out).mono ?_);(case side1=>exact byaq HR0_0.out);(case side2=>exact HC0_0.out);rintro e w8 ⟨rfl,hb⟩;refine ⟨_,rfl,?_⟩;have n_:=q_2 (qH BK202.out hb) (qC (byad GE202.out) hb);clear BK202 HB;obtain ⟨BK202,HB⟩:=n_;clear hb;obtain ⟨hcz9_0,hfz9_0⟩:=cz1 BK202.out)|((with_reducible refine qI (f:=36) rfl ?_);refine qY (some 15) rfl rfl Try.func36 (by kernel_rfl) rfl #[.agg #[.slice A0_0 l0_0.length c0_0]] rfl byah ?_;(with_reducible refine (jJ.calls k _ _ l0_0 t204 t205 _ ?side1 ?side2 A4.out).mono ?_);(case side1=>exact byaq HR0_0.out);(case side2=>exact HC0_0.out);rintro e w10 ⟨rfl,hb⟩;refine ⟨_,rfl,?_⟩;have n_:=q_2 (qH BK202.out hb) (qC (byad GE202.out) hb);clear BK202 HB;obtain ⟨BK202,HB⟩:=n_;clear hb))
   go_ret3
   exact ⟨byac,byad GE202.out⟩
  ·rw [if_neg c5] at H
   obtain ⟨c5b0,c5b1⟩:=eqF c5
   simp only [Option.some.injEq,Prod.mk.injEq] at H
   obtain ⟨rfl,rfl,rfl⟩:=H
   go_enter Try.func16,Try.ntmps16
   go_wp2_with (first|((with_reducible refine qP (N:=1) rfl ?_);refine zV (N:=1) (cs:=#[.slice A0_0 l0_0.length c0_0]) (t:=25) ?_;intro gb202 hg w11 hbox hb;have n_:=q_4 (qC byab hb) (hbox) ((byck : w.heap.size ≤ gb202)) ((byck : w.heap.size ≤ gb202));clear HB;obtain ⟨HB,BK202,GW202,GE202⟩:=n_;clear hb hbox hg;obtain ⟨hcz12_0,hfz12_0⟩:=cz1 BK202.out)|((with_reducible refine qI (f:=35) rfl ?_);refine qY (some 9) rfl rfl Try.func35 (by kernel_rfl) rfl #[.agg #[.slice A0_0 l0_0.length c0_0]] rfl byah ?_;(with_reducible refine (zI.calls k _ _ l0_0 t203 _ ?side1 ?side2 A2.out).mono ?_);(case side1=>exact byaq HR0_0.out);(case side2=>exact HC0_0.out);rintro e w13 ⟨rfl,hb⟩;refine ⟨_,rfl,?_⟩;have n_:=q_2 (qH BK202.out hb) (qC (byad GE202.out) hb);clear BK202 HB;obtain ⟨BK202,HB⟩:=n_;clear hb;obtain ⟨hcz14_0,hfz14_0⟩:=cz1 BK202.out)|((with_reducible refine qI (f:=36) rfl ?_);refine qY (some 15) rfl rfl Try.func36 (by kernel_rfl) rfl #[.agg #[.slice A0_0 l0_0.length c0_0]] rfl byah ?_;(with_reducible refine (jJ.calls k _ _ l0_0 t204 t205 _ ?side1 ?side2 A4.out).mono ?_);(case side1=>exact byaq HR0_0.out);(case side2=>exact HC0_0.out);rintro e w15 ⟨rfl,hb⟩;refine ⟨_,rfl,?_⟩;have n_:=q_2 (qH BK202.out hb) (qC (byad GE202.out) hb);clear BK202 HB;obtain ⟨BK202,HB⟩:=n_;clear hb))
   go_ret3
   exact ⟨byac,byad GE202.out⟩
 ·rw [if_neg c3] at H
  obtain ⟨c3b0,c3b1⟩:=eqF c3
  simp only [Option.some.injEq,Prod.mk.injEq] at H
  obtain ⟨rfl,rfl,rfl⟩:=H
  go_enter Try.func16,Try.ntmps16
  go_wp2_with (first|((with_reducible refine qP (N:=1) rfl ?_);refine zV (N:=1) (cs:=#[.slice A0_0 l0_0.length c0_0]) (t:=25) ?_;intro gb202 hg w16 hbox hb;have n_:=q_4 (qC byab hb) (hbox) ((byck : w.heap.size ≤ gb202)) ((byck : w.heap.size ≤ gb202));clear HB;obtain ⟨HB,BK202,GW202,GE202⟩:=n_;clear hb hbox hg;obtain ⟨hcz17_0,hfz17_0⟩:=cz1 BK202.out)|((with_reducible refine qI (f:=35) rfl ?_);refine qY (some 9) rfl rfl Try.func35 (by kernel_rfl) rfl #[.agg #[.slice A0_0 l0_0.length c0_0]] rfl byah ?_;(with_reducible refine (zI.calls k _ _ l0_0 t203 _ ?side1 ?side2 A2.out).mono ?_);(case side1=>exact byaq HR0_0.out);(case side2=>exact HC0_0.out);rintro e w18 ⟨rfl,hb⟩;refine ⟨_,rfl,?_⟩;have n_:=q_2 (qH BK202.out hb) (qC (byad GE202.out) hb);clear BK202 HB;obtain ⟨BK202,HB⟩:=n_;clear hb))
  go_ret3
  exact ⟨byac,byad GE202.out⟩
end Go.Proofs.Ytkkbdimegpdbgaa.P
