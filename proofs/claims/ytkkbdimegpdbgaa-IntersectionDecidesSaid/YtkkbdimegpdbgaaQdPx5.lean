/- Functions of the program as Lean functions, and the walks that show that the calls answer so; written by a program of this session (a changed print) and by hand. -/
import Derived.Test.YtkkbdimegpdbgaaQdPx0
import Derived.Test.YtkkbdimegpdbgaaQdPx1
import Derived.Test.YtkkbdimegpdbgaaQdPx3
import Derived.Test.YtkkbdimegpdbgaaQdPx4
namespace Go.Proofs.Ytkkbdimegpdbgaa.P
open Go.RowKit Go.Proofs.YtkkbdimegpdbgaaW.PrintWords Go.Proofs.YtkkbdimegpdbgaaW.PrintLast Go.Proofs.YtkkbdimegpdbgaaW.PrintMore
attribute [local go_sem] uH uI uQ uR vW vV uF uG
set_option linter.unusedVariables false
set_option linter.unusedSimpArgs false
def vB.f (k : Nat) (l0_0 : List (S58)) (a1 : Int) : Option (Bool):=(jQ.f a1).bind fun t172=>(if t172 = true then (if a1 = 0 then (some false) else ((vG.f k l0_0 a1).bind fun t173=>(if t173 = true then ((zT.f k l0_0 a1).bind fun bt174=>(some (!bt174.2))) else (some false)))) else (some false))
theorem vB.mono : ∀ a0 a1 k,LeO (vB.f k a0 a1) (vB.f (k + 1) a0 a1):=by
 intro a0 a1 k
 unfold vB.f
 repeat' first
   | (with_reducible exact vG.mono _ _ _)
   | (with_reducible exact zT.mono _ _ _)
   | (with_reducible exact LeO.refl _)
   | (with_reducible exact LeO.none _)
   | (with_reducible refine LeO.ite ?_ ?_)
   | (with_reducible refine LeO.bind ?_ (fun _=>?_))
   | exact vG.mono _ _ _
   | exact zT.mono _ _ _
   | exact LeO.none _
   | refine LeO.ite ?_ ?_
   | refine LeO.bind ?_ (fun _=>?_)
set_option maxHeartbeats 8000000 in
set_option maxRecDepth 100000 in
theorem vB.calls (k : Nat) (A0_0 : Option Addr) (c0_0 : Nat) (l0_0 : List (S58)) (a1 : Int) (r : Bool) (w : World) (hr0_0 : Kd.C k58 w A0_0 l0_0.length l0_0) (hc0_0 : l0_0.length ≤ c0_0) (h : vB.f k l0_0 a1 = some r) :
  Calls Try.prog 51 #[.agg #[.slice A0_0 l0_0.length c0_0],.int .i64 a1] w fun e w'=>e = .returned (.bool r)∧Below w.heap.size w w':=by
 have hu25:=Try.underlying25
 have HR0_0:=qA.mk hr0_0
 have HC0_0:=qA.mk hc0_0
 clear hr0_0 hc0_0
 have HB:=qA.mk (Below.refl w.heap.size w)
 have H : ((jQ.f a1).bind fun t172=>(if t172 = true then (if a1 = 0 then (some false) else ((vG.f k l0_0 a1).bind fun t173=>(if t173 = true then ((zT.f k l0_0 a1).bind fun bt174=>(some (!bt174.2))) else (some false)))) else (some false))) = some r:=h
 clear h
 replace H:=Option.bind_eq_some_iff.mp H
 obtain ⟨t172,A30,H⟩:=H
 replace H : (if t172 = true then (if a1 = 0 then (some false) else ((vG.f k l0_0 a1).bind fun t173=>(if t173 = true then ((zT.f k l0_0 a1).bind fun bt174=>(some (!bt174.2))) else (some false)))) else (some false)) = some r:=H
 have A3:=qA.mk A30
 clear A30
 by_cases c4 : t172 = true
 ·subst c4
  have H1 : (if a1 = 0 then (some false) else ((vG.f k l0_0 a1).bind fun t173=>(if t173 = true then ((zT.f k l0_0 a1).bind fun bt174=>(some (!bt174.2))) else (some false)))) = some r:=by rw [if_pos rfl] at H;exact H
  clear H
  have H:=H1
  clear H1
  by_cases c5 : a1 = 0
  ·rw [if_pos c5] at H
   have c5b0 : (a1 == 0) = true:=beq_iff_eq.mpr c5
   have c5b1 : (a1 != 0) = false:=bne_eq_false_iff_eq.mpr c5
   clear c5
   obtain rfl:=Option.some.inj H
   go_enter Try.func51,Try.ntmps51
   go_wp2_with (first|((with_reducible refine zK (N:=2) rfl ?_);refine q9 ?hg (N:=2) ?hd (cs:=#[.slice A0_0 l0_0.length c0_0]) (t:=25) ?hr ?_;(case hd=>rfl);(case hg=>rfl);(case hr=>exact byaa);intro gb171 hg w6 hbox hb;have n0_:=qA.mk (qE byab hb);have n1_:=qA.mk (hbox);have n2_:=qA.mk ((byby : w.heap.size ≤ gb171));have n3_:=qA.mk ((byby : w.heap.size ≤ gb171));clear HB;have HB:=n0_;have BK171:=n1_;have GW171:=n2_;have GE171:=n3_;clear n0_ n1_ n2_ n3_;clear hb hbox hg)|((with_reducible refine qI (f:=73) rfl ?_);refine zL (some 8) rfl rfl Try.func73 (by kernel_rfl) rfl #[.int .i64 a1] rfl byah ?_;(with_reducible refine (jQ.calls a1 true _ A3.out).mono ?_);rintro e w' ⟨rfl,⟨nd,rfl⟩⟩;refine ⟨_,rfl,?_⟩))
   go_ret
   exact ⟨byac,byad GE171.out⟩
  ·rw [if_neg c5] at H
   have c5b0 : (a1 == 0) = false:=beq_eq_false_iff_ne.mpr c5
   have c5b1 : (a1 != 0) = true:=bne_iff_ne.mpr c5
   replace H:=Option.bind_eq_some_iff.mp H
   obtain ⟨t173,A70,H⟩:=H
   replace H : (if t173 = true then ((zT.f k l0_0 a1).bind fun bt174=>(some (!bt174.2))) else (some false)) = some r:=H
   have A7:=qA.mk A70
   clear A70
   by_cases c8 : t173 = true
   ·subst c8
    have H1 : ((zT.f k l0_0 a1).bind fun bt174=>(some (!bt174.2))) = some r:=by rw [if_pos rfl] at H;exact H
    clear H
    have H:=H1
    clear H1
    replace H:=Option.bind_eq_some_iff.mp H
    obtain ⟨⟨t174,t175⟩,A90,H⟩:=H
    replace H : (some (!t175)) = some r:=H
    have A9:=qA.mk A90
    clear A90
    obtain rfl:=Option.some.inj H
    go_enter Try.func51,Try.ntmps51
    go_wp2_with (first|((with_reducible refine zK (N:=2) rfl ?_);refine q9 ?hg (N:=2) ?hd (cs:=#[.slice A0_0 l0_0.length c0_0]) (t:=25) ?hr ?_;(case hd=>rfl);(case hg=>rfl);(case hr=>exact byaa);intro gb171 hg w10 hbox hb;have n0_:=qA.mk (qE byab hb);have n1_:=qA.mk (hbox);have n2_:=qA.mk ((byby : w.heap.size ≤ gb171));have n3_:=qA.mk ((byby : w.heap.size ≤ gb171));clear HB;have HB:=n0_;have BK171:=n1_;have GW171:=n2_;have GE171:=n3_;clear n0_ n1_ n2_ n3_;clear hb hbox hg)|((with_reducible refine qI (f:=73) rfl ?_);refine zL (some 8) rfl rfl Try.func73 (by kernel_rfl) rfl #[.int .i64 a1] rfl byah ?_;(with_reducible refine (jQ.calls a1 true _ A3.out).mono ?_);rintro e w' ⟨rfl,⟨nd,rfl⟩⟩;refine ⟨_,rfl,?_⟩;have hcz11_0 : w10.cell? ⟨gb171,0,none⟩ = some (.slice A0_0 l0_0.length c0_0):=(qC BK171.out 0).trans rfl;have hfz11_0:=qB BK171.out 0)|(go_at_call 74;(with_reducible refine (vG.calls k _ _ l0_0 a1 true _ ?side1 ?side2 A7.out).mono ?_);(case side1=>exact byca HR0_0.out GE171.out);(case side2=>exact HC0_0.out);rintro e w12 ⟨rfl,hb⟩;have n0_:=qA.mk (qH (g:=gb171) (o:=.cells #[.slice A0_0 l0_0.length c0_0] 25 (0,0)) (byaf BK171.out) hb);have n1_:=qA.mk (qE (byad GE171.out) hb);clear BK171;clear HB;have BK171:=n0_;have HB:=n1_;clear n0_ n1_;(try clear hb);(try clear hb2);(try clear hk);(try clear hi);have hcz13_0 : w12.cell? ⟨gb171,0,none⟩ = some (.slice A0_0 l0_0.length c0_0):=(qC BK171.out 0).trans rfl;have hfz13_0:=qB BK171.out 0)|((with_reducible refine qI (f:=75) rfl ?_);refine zL (some 23) rfl rfl Try.func75 (by kernel_rfl) rfl #[.agg #[.slice A0_0 l0_0.length c0_0],.int .i64 a1] rfl byah ?_;(with_reducible refine (zT.calls k _ _ l0_0 a1 t174 t175 _ ?side1 ?side2 A9.out).mono ?_);(case side1=>exact byaq HR0_0.out);(case side2=>exact HC0_0.out);rintro e w14 ⟨rfl,hb⟩;refine ⟨_,rfl,?_⟩;have n0_:=qA.mk (qH (g:=gb171) (o:=.cells #[.slice A0_0 l0_0.length c0_0] 25 (0,0)) (byaf BK171.out) hb);have n1_:=qA.mk (qE (byad GE171.out) hb);clear BK171;clear HB;have BK171:=n0_;have HB:=n1_;clear n0_ n1_;(try clear hb);(try clear hb2);(try clear hk);(try clear hi)))
    go_ret
    exact ⟨byac,byad GE171.out⟩
   ·replace c8:=Bool.eq_false_iff.mpr c8
    subst c8
    have H1 : (some false) = some r:=by rw [if_neg (show ¬ (false = true) by decide)] at H;exact H
    clear H
    have H:=H1
    clear H1
    obtain rfl:=Option.some.inj H
    go_enter Try.func51,Try.ntmps51
    go_wp2_with (first|((with_reducible refine zK (N:=2) rfl ?_);refine q9 ?hg (N:=2) ?hd (cs:=#[.slice A0_0 l0_0.length c0_0]) (t:=25) ?hr ?_;(case hd=>rfl);(case hg=>rfl);(case hr=>exact byaa);intro gb171 hg w15 hbox hb;have n0_:=qA.mk (qE byab hb);have n1_:=qA.mk (hbox);have n2_:=qA.mk ((byby : w.heap.size ≤ gb171));have n3_:=qA.mk ((byby : w.heap.size ≤ gb171));clear HB;have HB:=n0_;have BK171:=n1_;have GW171:=n2_;have GE171:=n3_;clear n0_ n1_ n2_ n3_;clear hb hbox hg)|((with_reducible refine qI (f:=73) rfl ?_);refine zL (some 8) rfl rfl Try.func73 (by kernel_rfl) rfl #[.int .i64 a1] rfl byah ?_;(with_reducible refine (jQ.calls a1 true _ A3.out).mono ?_);rintro e w' ⟨rfl,⟨nd,rfl⟩⟩;refine ⟨_,rfl,?_⟩;have hcz16_0 : w15.cell? ⟨gb171,0,none⟩ = some (.slice A0_0 l0_0.length c0_0):=(qC BK171.out 0).trans rfl;have hfz16_0:=qB BK171.out 0)|(go_at_call 74;(with_reducible refine (vG.calls k _ _ l0_0 a1 false _ ?side1 ?side2 A7.out).mono ?_);(case side1=>exact byca HR0_0.out GE171.out);(case side2=>exact HC0_0.out);rintro e w17 ⟨rfl,hb⟩;have n0_:=qA.mk (qH (g:=gb171) (o:=.cells #[.slice A0_0 l0_0.length c0_0] 25 (0,0)) (byaf BK171.out) hb);have n1_:=qA.mk (qE (byad GE171.out) hb);clear BK171;clear HB;have BK171:=n0_;have HB:=n1_;clear n0_ n1_;(try clear hb);(try clear hb2);(try clear hk);(try clear hi)))
    go_ret
    exact ⟨byac,byad GE171.out⟩
 ·replace c4:=Bool.eq_false_iff.mpr c4
  subst c4
  have H1 : (some false) = some r:=by rw [if_neg (show ¬ (false = true) by decide)] at H;exact H
  clear H
  have H:=H1
  clear H1
  obtain rfl:=Option.some.inj H
  go_enter Try.func51,Try.ntmps51
  go_wp2_with (first|((with_reducible refine zK (N:=2) rfl ?_);refine q9 ?hg (N:=2) ?hd (cs:=#[.slice A0_0 l0_0.length c0_0]) (t:=25) ?hr ?_;(case hd=>rfl);(case hg=>rfl);(case hr=>exact byaa);intro gb171 hg w18 hbox hb;have n0_:=qA.mk (qE byab hb);have n1_:=qA.mk (hbox);have n2_:=qA.mk ((byby : w.heap.size ≤ gb171));have n3_:=qA.mk ((byby : w.heap.size ≤ gb171));clear HB;have HB:=n0_;have BK171:=n1_;have GW171:=n2_;have GE171:=n3_;clear n0_ n1_ n2_ n3_;clear hb hbox hg)|((with_reducible refine qI (f:=73) rfl ?_);refine zL (some 8) rfl rfl Try.func73 (by kernel_rfl) rfl #[.int .i64 a1] rfl byah ?_;(with_reducible refine (jQ.calls a1 false _ A3.out).mono ?_);rintro e w' ⟨rfl,⟨nd,rfl⟩⟩;refine ⟨_,rfl,?_⟩))
  go_ret
  exact ⟨byac,byad GE171.out⟩
def zU.l0 : Nat→Int→List Int→List (S58)→Option (Int × List Int)
 | 0,_,_,_=>none
 | k + 1,x1,x6,x177000=>(zT.f k x177000 x1).bind fun bt179=>(if bt179.2 = true then (if x6.length < 17592186044416 then (if 0 ≤ bt179.1 then (zU.l0 k (Go.bits .andNot .i64 x1 (shl .i64 1 bt179.1)) (x6 ++ [bt179.1]) x177000) else (none)) else (none)) else (some (x1,x6)))
def zU.f (k : Nat) (l0_0 : List (S58)) (a1 : Int) : Option (Int × List Int):=(jQ.f a1).bind fun t177=>(if t177 = true then ((qR.f k l0_0).bind fun t178=>(zU.l0 k (Go.bits .and .i64 a1 t178) ([] : List Int) l0_0)) else (some (0,([] : List Int))))
theorem zU.mono_l : ∀ k,(∀ y0 y1 y2,LeO (zU.l0 k y0 y1 y2) (zU.l0 (k + 1) y0 y1 y2))
 | 0=>fun _ _ _ r h=>by simp [zU.l0] at h
 | k + 1=>by
  have ih0:=zU.mono_l k
  ·intro y0 y1 y2
   unfold zU.l0
   repeat' first
   | (with_reducible exact ih0 _ _ _)
   | (with_reducible exact zT.mono _ _ _)
   | (with_reducible exact qR.mono _ _)
   | (with_reducible exact LeO.refl _)
   | (with_reducible exact LeO.none _)
   | (with_reducible refine LeO.ite ?_ ?_)
   | (with_reducible refine LeO.bind ?_ (fun _=>?_))
   | exact ih0 _ _ _
   | exact zT.mono _ _ _
   | exact qR.mono _ _
   | exact LeO.none _
   | refine LeO.ite ?_ ?_
   | refine LeO.bind ?_ (fun _=>?_)
theorem zU.mono : ∀ a0 a1 k,LeO (zU.f k a0 a1) (zU.f (k + 1) a0 a1):=by
 intro a0 a1 k
 have ih0:=zU.mono_l k
 unfold zU.f
 repeat' first
   | (with_reducible exact ih0 _ _ _)
   | (with_reducible exact zT.mono _ _ _)
   | (with_reducible exact qR.mono _ _)
   | (with_reducible exact LeO.refl _)
   | (with_reducible exact LeO.none _)
   | (with_reducible refine LeO.ite ?_ ?_)
   | (with_reducible refine LeO.bind ?_ (fun _=>?_))
   | exact ih0 _ _ _
   | exact zT.mono _ _ _
   | exact qR.mono _ _
   | exact LeO.none _
   | refine LeO.ite ?_ ?_
   | refine LeO.bind ?_ (fun _=>?_)
set_option maxHeartbeats 8000000 in
set_option maxRecDepth 100000 in
theorem zU.calls (k : Nat) (A0_0 : Option Addr) (c0_0 : Nat) (l0_0 : List (S58)) (a1 : Int) (r1 : Int) (r2 : List Int) (w : World) (hr0_0 : Kd.C k58 w A0_0 l0_0.length l0_0) (hc0_0 : l0_0.length ≤ c0_0) (h : zU.f k l0_0 a1 = some (r1,r2)) :
  Calls Try.prog 76 #[.agg #[.slice A0_0 l0_0.length c0_0],.int .i64 a1] w fun e w'=>∃ v1_ : Value,e = .returned (.tuple #[.int .i64 r1,v1_])∧Kd.R (Kd.int .i64) 3 w' w.heap.size (fun _=>True) v1_ r2∧Below w.heap.size w w':=by
 have hu25:=Try.underlying25
 have HR0_0:=qA.mk hr0_0
 have HC0_0:=qA.mk hc0_0
 clear hr0_0 hc0_0
 have HB:=qA.mk (Below.refl w.heap.size w)
 have H : ((jQ.f a1).bind fun t177=>(if t177 = true then ((qR.f k l0_0).bind fun t178=>(zU.l0 k (Go.bits .and .i64 a1 t178) ([] : List Int) l0_0)) else (some (0,([] : List Int))))) = some (r1,r2):=h
 clear h
 replace H:=Option.bind_eq_some_iff.mp H
 obtain ⟨t177,A30,H⟩:=H
 replace H : (if t177 = true then ((qR.f k l0_0).bind fun t178=>(zU.l0 k (Go.bits .and .i64 a1 t178) ([] : List Int) l0_0)) else (some (0,([] : List Int)))) = some (r1,r2):=H
 have A3:=qA.mk A30
 clear A30
 by_cases c4 : t177 = true
 ·subst c4
  have H1 : ((qR.f k l0_0).bind fun t178=>(zU.l0 k (Go.bits .and .i64 a1 t178) ([] : List Int) l0_0)) = some (r1,r2):=by rw [if_pos rfl] at H;exact H
  clear H
  have H:=H1
  clear H1
  replace H:=Option.bind_eq_some_iff.mp H
  obtain ⟨t178,A50,H⟩:=H
  replace H : (zU.l0 k (Go.bits .and .i64 a1 t178) ([] : List Int) l0_0) = some (r1,r2):=H
  have A5:=qA.mk A50
  clear A50
  have H':=qA.mk H
  clear H
  go_enter Try.func76,Try.ntmps76
  go_wp2_with (first|((with_reducible refine zK (N:=2) rfl ?_);refine q9 ?hg (N:=2) ?hd (cs:=#[.slice A0_0 l0_0.length c0_0]) (t:=25) ?hr ?_;(case hd=>rfl);(case hg=>rfl);(case hr=>exact byaa);intro gb176 hg w6 hbox hb;have n0_:=qA.mk (qE byab hb);have n1_:=qA.mk (hbox);have n2_:=qA.mk ((byby : w.heap.size ≤ gb176));have n3_:=qA.mk ((byby : w.heap.size ≤ gb176));clear HB;have HB:=n0_;have BK176:=n1_;have GW176:=n2_;have GE176:=n3_;clear n0_ n1_ n2_ n3_;clear hb hbox hg)|((with_reducible refine qI (f:=73) rfl ?_);refine zL (some 10) rfl rfl Try.func73 (by kernel_rfl) rfl #[.int .i64 a1] rfl byah ?_;(with_reducible refine (jQ.calls a1 true _ A3.out).mono ?_);rintro e w' ⟨rfl,⟨nd,rfl⟩⟩;refine ⟨_,rfl,?_⟩;have hcz7_0 : w6.cell? ⟨gb176,0,none⟩ = some (.slice A0_0 l0_0.length c0_0):=(qC BK176.out 0).trans rfl;have hfz7_0:=qB BK176.out 0)|((with_reducible refine qI (f:=86) rfl ?_);refine zL (some 14) rfl rfl Try.func86 (by kernel_rfl) rfl #[.agg #[.slice A0_0 l0_0.length c0_0]] rfl byah ?_;(with_reducible refine (qR.calls k _ _ l0_0 t178 _ ?side1 ?side2 A5.out).mono ?_);(case side1=>exact byca HR0_0.out GE176.out);(case side2=>exact HC0_0.out);rintro e w8 ⟨rfl,hb⟩;refine ⟨_,rfl,?_⟩;have n0_:=qA.mk (qH (g:=gb176) (o:=.cells #[.slice A0_0 l0_0.length c0_0] 25 (0,0)) (byaf BK176.out) hb);have n1_:=qA.mk (qE (byad GE176.out) hb);clear BK176;clear HB;have BK176:=n0_;have HB:=n1_;clear n0_ n1_;(try clear hb);(try clear hb2);(try clear hk);(try clear hi)))
  go_loopg [1,6] k (fun kq v1 v6 w'=>∃ (x1_1 : Int) (x6_1 : List Int),v1 = .int .i64 x1_1∧qA (zU.l0 kq x1_1 x6_1 l0_0 = some (r1,r2))∧qA (kq ≤ k)∧qA (Kd.R (Kd.int .i64) 3 w' w.heap.size (fun _=>True) v6 x6_1)∧qA (w'.heap[gb176]? = some (.cells #[(.slice A0_0 l0_0.length c0_0)] 25 (0,0)))∧qA (Below w.heap.size w w'))
  case atStart=>exact ⟨(Go.bits .and .i64 a1 t178),(([] : List Int)),byae,H',⟨Nat.le_refl _⟩,⟨byau⟩,⟨byaf BK176.out⟩,⟨byad GE176.out⟩⟩
  case round =>
   clear H'
   try clear p2
   try clear c4
   try clear c7
   try clear c8
   try clear hcz7_0
   try clear hfz7_0
   obtain ⟨x1_1,x6_1,rfl,HA,HK1,HO_6,BK176,HB⟩:=hrel
   cases gk with
   | zero=>exact absurd HA.out (by simp [zU.l0])
   | succ k1 =>
    have H:=HA.out
    clear HA
    simp only [zU.l0] at H
    replace H:=Option.bind_eq_some_iff.mp H
    obtain ⟨⟨t179,t180⟩,A90,H⟩:=H
    replace H : (if t180 = true then (if x6_1.length < 17592186044416 then (if 0 ≤ t179 then (zU.l0 k1 (Go.bits .andNot .i64 x1_1 (shl .i64 1 t179)) (x6_1 ++ [t179]) l0_0) else (none)) else (none)) else (some (x1_1,x6_1))) = some (r1,r2):=H
    have A9:=qA.mk A90
    clear A90
    by_cases c10 : t180 = true
    ·subst c10
     have H1 : (if x6_1.length < 17592186044416 then (if 0 ≤ t179 then (zU.l0 k1 (Go.bits .andNot .i64 x1_1 (shl .i64 1 t179)) (x6_1 ++ [t179]) l0_0) else (none)) else (none)) = some (r1,r2):=by rw [if_pos rfl] at H;exact H
     clear H
     have H:=H1
     clear H1
     by_cases c11 : x6_1.length < 17592186044416
     ·rw [if_pos c11] at H
      have LMc11:=qA.mk c11
      clear c11
      obtain ⟨y181,hy181⟩ : ∃ y_ : List Int,y_ = (x6_1 ++ [t179]):=⟨_,rfl⟩
      replace H : (if 0 ≤ t179 then (zU.l0 k1 (Go.bits .andNot .i64 x1_1 (shl .i64 1 t179)) y181 l0_0) else (none)) = some (r1,r2):=by first|(rw [hy181];with_reducible exact H)|(have H2_:=(Option.bind_some _ _).symm.trans H;rw [hy181];with_reducible exact H2_)|(have H2_:=(Option.bind_some _ _).symm.trans H;with_reducible exact H2_)|with_reducible exact H|(rw [hy181];exact H)|exact H
      have Ny181:=qA.mk hy181
      clear hy181
      by_cases c12 : 0 ≤ t179
      ·rw [if_pos c12] at H
       have c12b0:=eq_true c12
       have c12b1 : decide (0 ≤ t179) = true:=decide_eq_true c12
       clear c12
       obtain ⟨ji13,hji13⟩ : ∃ j_ : Int,(shl .i64 1 t179) = j_:=⟨_,rfl⟩
       replace H : (zU.l0 k1 (Go.bits .andNot .i64 x1_1 (ji13)) y181 l0_0) = some (r1,r2):=by first|(rw [hji13] at H;exact H)|(simp only [hji13] at H ⊢;exact H)
       (try rw [hji13] at A9)
       have hji13_ : (IntKind.i64.wrap (1 * 2 ^ min t179.toNat 64)) = ji13:=hji13
       have hji13z : t179 ≤ 64→(IntKind.i64.wrap (1 * 2 ^ t179.toNat)) = ji13:=uN hji13
       have hji13u : (IntKind.i64.wrap (2 ^ min t179.toNat 64)) = ji13:=by have h_:=hji13_;rw [Int.one_mul] at h_;exact h_
       have hji13v : t179 ≤ 64→(IntKind.i64.wrap (2 ^ t179.toNat)) = ji13:=fun hle_=>by have h_:=hji13z hle_;rw [Int.one_mul] at h_;exact h_
       have hji13y : (wrap64 (1 * 2 ^ min t179.toNat 64)) = ji13:=(qY _).symm.trans hji13_
       have hji13x : t179 ≤ 64→(wrap64 (1 * 2 ^ t179.toNat)) = ji13:=fun h_=>(qY _).symm.trans (hji13z h_)
       have H':=qA.mk H
       clear H
       have hcz14_0 : wr.cell? ⟨gb176,0,none⟩ = some (.slice A0_0 l0_0.length c0_0):=(qC BK176.out 0).trans rfl
       have hfz14_0:=qB BK176.out 0
       go_wp2_with (first|((with_reducible refine qI (f:=75) rfl ?_);refine zL (some 19) rfl rfl Try.func75 (by kernel_rfl) rfl #[.agg #[.slice A0_0 l0_0.length c0_0],.int .i64 x1_1] rfl byah ?_;(with_reducible refine (zT.calls k1 _ _ l0_0 x1_1 t179 true _ ?side1 ?side2 A9.out).mono ?_);(case side1=>exact byaq HR0_0.out);(case side2=>exact HC0_0.out);rintro e w15 ⟨rfl,hb⟩;refine ⟨_,rfl,?_⟩;have n0_:=qA.mk (Kd.vI (byav HO_6.out) hb);have n1_:=qA.mk (qH (g:=gb176) (o:=.cells #[.slice A0_0 l0_0.length c0_0] 25 (0,0)) (byaf BK176.out) hb);have n2_:=qA.mk (qE (byad GE176.out) hb);clear HO_6;clear BK176;clear HB;have HO_6:=n0_;have BK176:=n1_;have HB:=n2_;clear n0_ n1_ n2_;(try clear hb);(try clear hb2);(try clear hk);(try clear hi))|((with_reducible refine vP (b:=.append) (xs:=#[.tmp 26,.tmp 28]) rfl ?_);at_builtin;refine Kd.uP (Kd.int .i64) (w0:=w) w.heap.size rfl (.tmp 26) (.tmp 28) 22 3 (.int .i64 0) 8 rfl Try.underlying22 info3 rfl (by decide) (by omega) u6 x6_1 t179 [.int .i64 t179] (fun _=>True) (fun _=>False) rfl rfl ?aP (fun _ hk=>hk.elim) ?aF ?aO ?aB ?aS ?aL ?_;(case aP=>exact rfl);(case aB=>exact (byad GE176.out));(case aF=>exact (fun _ _=>trivial));(case aO=>exact (byav HO_6.out));(case aS=>exact (j3 (byad GE176.out)));(case aL=>have:=LMc11.out;omega);intro v182 w16 ho hb hg hat;rw [← Ny181.out] at ho;have n0_:=qA.mk (j4 (g:=gb176) (o:=.cells #[.slice A0_0 l0_0.length c0_0] 25 (0,0)) (byaf BK176.out) hg (Kd.R_ne HO_6.out BK176.out (by decide)));have n1_:=qA.mk (hb);have n2_:=qA.mk (ho);clear BK176;clear HB;clear HO_6;have BK176:=n0_;have HB:=n1_;have HO183:=n2_;clear n0_ n1_ n2_;clear ho hb hg hat))
       go_roundg k1
       case measure=>have:=HK1.out;omega
       case rel=>exact ⟨(Go.bits .andNot .i64 x1_1 (ji13)),(y181),(by first|rfl|(simp;done)|(simp only [← hji13]<;>(first|rfl|simp))|(simp [*];done)),H',⟨byai⟩,⟨byav HO183.out⟩,⟨byaf BK176.out⟩,⟨byad GE176.out⟩⟩
      ·rw [if_neg c12] at H
       exact absurd H (by simp)
     ·rw [if_neg c11] at H
      exact absurd H (by simp)
    ·replace c10:=Bool.eq_false_iff.mpr c10
     subst c10
     have H1 : (some (x1_1,x6_1)) = some (r1,r2):=by rw [if_neg (show ¬ (false = true) by decide)] at H;exact H
     clear H
     have H:=H1
     clear H1
     simp only [Option.some.injEq,Prod.mk.injEq] at H
     obtain ⟨rfl,rfl⟩:=H
     have hcz17_0 : wr.cell? ⟨gb176,0,none⟩ = some (.slice A0_0 l0_0.length c0_0):=(qC BK176.out 0).trans rfl
     have hfz17_0:=qB BK176.out 0
     go_wp2_with (first|((with_reducible refine qI (f:=75) rfl ?_);refine zL (some 19) rfl rfl Try.func75 (by kernel_rfl) rfl #[.agg #[.slice A0_0 l0_0.length c0_0],.int .i64 x1_1] rfl byah ?_;(with_reducible refine (zT.calls k1 _ _ l0_0 x1_1 t179 false _ ?side1 ?side2 A9.out).mono ?_);(case side1=>exact byaq HR0_0.out);(case side2=>exact HC0_0.out);rintro e w18 ⟨rfl,hb⟩;refine ⟨_,rfl,?_⟩;have n0_:=qA.mk (Kd.vI (byav HO_6.out) hb);have n1_:=qA.mk (qH (g:=gb176) (o:=.cells #[.slice A0_0 l0_0.length c0_0] 25 (0,0)) (byaf BK176.out) hb);have n2_:=qA.mk (qE (byad GE176.out) hb);clear HO_6;clear BK176;clear HB;have HO_6:=n0_;have BK176:=n1_;have HB:=n2_;clear n0_ n1_ n2_;(try clear hb);(try clear hb2);(try clear hk);(try clear hi)))
     go_ret2
     exact ⟨_,byac,byav HO_6.out,byad GE176.out⟩
 ·replace c4:=Bool.eq_false_iff.mpr c4
  subst c4
  have H1 : (some (0,([] : List Int))) = some (r1,r2):=by rw [if_neg (show ¬ (false = true) by decide)] at H;exact H
  clear H
  have H:=H1
  clear H1
  simp only [Option.some.injEq,Prod.mk.injEq] at H
  obtain ⟨rfl,rfl⟩:=H
  go_enter Try.func76,Try.ntmps76
  go_wp2_with (first|((with_reducible refine zK (N:=2) rfl ?_);refine q9 ?hg (N:=2) ?hd (cs:=#[.slice A0_0 l0_0.length c0_0]) (t:=25) ?hr ?_;(case hd=>rfl);(case hg=>rfl);(case hr=>exact byaa);intro gb176 hg w19 hbox hb;have n0_:=qA.mk (qE byab hb);have n1_:=qA.mk (hbox);have n2_:=qA.mk ((byby : w.heap.size ≤ gb176));have n3_:=qA.mk ((byby : w.heap.size ≤ gb176));clear HB;have HB:=n0_;have BK176:=n1_;have GW176:=n2_;have GE176:=n3_;clear n0_ n1_ n2_ n3_;clear hb hbox hg)|((with_reducible refine qI (f:=73) rfl ?_);refine zL (some 10) rfl rfl Try.func73 (by kernel_rfl) rfl #[.int .i64 a1] rfl byah ?_;(with_reducible refine (jQ.calls a1 false _ A3.out).mono ?_);rintro e w' ⟨rfl,⟨nd,rfl⟩⟩;refine ⟨_,rfl,?_⟩))
  go_ret2
  exact ⟨_,byac,byau,byad GE176.out⟩
def zP.f (k : Nat) (l0_0 : List (S58)) (a1 : Int) : Option (Int):=(zU.f k l0_0 a1).bind fun bt185=>(some bt185.1)
theorem zP.mono : ∀ a0 a1 k,LeO (zP.f k a0 a1) (zP.f (k + 1) a0 a1):=by
 intro a0 a1 k
 unfold zP.f
 repeat' first
   | (with_reducible exact zU.mono _ _ _)
   | (with_reducible exact LeO.refl _)
   | (with_reducible exact LeO.none _)
   | (with_reducible refine LeO.ite ?_ ?_)
   | (with_reducible refine LeO.bind ?_ (fun _=>?_))
   | exact zU.mono _ _ _
   | exact LeO.none _
   | refine LeO.ite ?_ ?_
   | refine LeO.bind ?_ (fun _=>?_)
set_option maxHeartbeats 8000000 in
set_option maxRecDepth 100000 in
theorem zP.calls (k : Nat) (A0_0 : Option Addr) (c0_0 : Nat) (l0_0 : List (S58)) (a1 : Int) (r : Int) (w : World) (hr0_0 : Kd.C k58 w A0_0 l0_0.length l0_0) (hc0_0 : l0_0.length ≤ c0_0) (h : zP.f k l0_0 a1 = some r) :
  Calls Try.prog 52 #[.agg #[.slice A0_0 l0_0.length c0_0],.int .i64 a1] w fun e w'=>e = .returned (.int .i64 r)∧Below w.heap.size w w':=by
 have hu25:=Try.underlying25
 have HR0_0:=qA.mk hr0_0
 have HC0_0:=qA.mk hc0_0
 clear hr0_0 hc0_0
 have HB:=qA.mk (Below.refl w.heap.size w)
 have H : ((zU.f k l0_0 a1).bind fun bt185=>(some bt185.1)) = some r:=h
 clear h
 replace H:=Option.bind_eq_some_iff.mp H
 obtain ⟨⟨t185,t186⟩,A30,H⟩:=H
 replace H : (some t185) = some r:=H
 have A3:=qA.mk A30
 clear A30
 obtain rfl:=Option.some.inj H
 go_enter Try.func52,Try.ntmps52
 go_wp2_with (first|((with_reducible refine zK (N:=2) rfl ?_);refine q9 ?hg (N:=2) ?hd (cs:=#[.slice A0_0 l0_0.length c0_0]) (t:=25) ?hr ?_;(case hd=>rfl);(case hg=>rfl);(case hr=>exact byaa);intro gb184 hg w4 hbox hb;have n0_:=qA.mk (qE byab hb);have n1_:=qA.mk (hbox);have n2_:=qA.mk ((byby : w.heap.size ≤ gb184));have n3_:=qA.mk ((byby : w.heap.size ≤ gb184));clear HB;have HB:=n0_;have BK184:=n1_;have GW184:=n2_;have GE184:=n3_;clear n0_ n1_ n2_ n3_;clear hb hbox hg;have hcz5_0 : w4.cell? ⟨gb184,0,none⟩ = some (.slice A0_0 l0_0.length c0_0):=(qC BK184.out 0).trans rfl;have hfz5_0:=qB BK184.out 0)|((with_reducible refine qI (f:=76) rfl ?_);refine zL (some 10) rfl rfl Try.func76 (by kernel_rfl) rfl #[.agg #[.slice A0_0 l0_0.length c0_0],.int .i64 a1] rfl byah ?_;(with_reducible refine (zU.calls k _ _ l0_0 a1 t185 t186 _ ?side1 ?side2 A3.out).mono ?_);(case side1=>exact byaq HR0_0.out);(case side2=>exact HC0_0.out);rintro e w6 ⟨v187,rfl,ho0,hb⟩;refine ⟨_,rfl,?_⟩;have n0_:=qA.mk (Kd.vR ho0 (j3 (byad GE184.out)));have n1_:=qA.mk (qH (g:=gb184) (o:=.cells #[.slice A0_0 l0_0.length c0_0] 25 (0,0)) (byaf BK184.out) hb);have n2_:=qA.mk (qE (byad GE184.out) hb);clear BK184;clear HB;have HO188:=n0_;have BK184:=n1_;have HB:=n2_;clear n0_ n1_ n2_;(try clear hb);(try clear hb2);(try clear hk);(try clear hi);(try clear ho0)))
 go_ret
 exact ⟨byac,byad GE184.out⟩
def jC.f (l0_0 : List (S58)) : Option (Int):=some (wrap64 ((shl .i64 1 (l0_0.length : Int)) - 1))
set_option maxHeartbeats 8000000 in
set_option maxRecDepth 100000 in
theorem jC.calls (A0_0 : Option Addr) (c0_0 : Nat) (l0_0 : List (S58)) (r : Int) (w : World) (hr0_0 : Kd.C k58 w A0_0 l0_0.length l0_0) (hc0_0 : l0_0.length ≤ c0_0) (h : jC.f l0_0 = some r) :
  Calls Try.prog 53 #[.agg #[.slice A0_0 l0_0.length c0_0]] w fun e w'=>e = .returned (.int .i64 r)∧Below w.heap.size w w':=by
 have hu25:=Try.underlying25
 have HR0_0:=qA.mk hr0_0
 have HC0_0:=qA.mk hc0_0
 clear hr0_0 hc0_0
 have HB:=qA.mk (Below.refl w.heap.size w)
 have H : (some (wrap64 ((shl .i64 1 (l0_0.length : Int)) - 1))) = some r:=h
 clear h
 obtain ⟨ji2,hji2⟩ : ∃ j_ : Int,(shl .i64 1 (l0_0.length : Int)) = j_:=⟨_,rfl⟩
 replace H : (some (wrap64 ((ji2) - 1))) = some r:=by first|(rw [hji2] at H;exact H)|(simp only [hji2] at H ⊢;exact H)
 have hji2_ : (IntKind.i64.wrap (1 * 2 ^ min (l0_0.length : Int).toNat 64)) = ji2:=hji2
 have hji2z : (l0_0.length : Int) ≤ 64→(IntKind.i64.wrap (1 * 2 ^ (l0_0.length : Int).toNat)) = ji2:=uN hji2
 have hji2p : (IntKind.i64.wrap (1 * 2 ^ min l0_0.length 64)) = ji2:=hji2_
 have hji2q : (l0_0.length : Int) ≤ 64→(IntKind.i64.wrap (1 * 2 ^ l0_0.length)) = ji2:=hji2z
 have hji2r : (IntKind.i64.wrap (2 ^ min l0_0.length 64)) = ji2:=by have h_:=hji2p;rw [Int.one_mul] at h_;exact h_
 have hji2s : (l0_0.length : Int) ≤ 64→(IntKind.i64.wrap (2 ^ l0_0.length)) = ji2:=fun hle_=>by have h_:=hji2q hle_;rw [Int.one_mul] at h_;exact h_
 have hji2u : (IntKind.i64.wrap (2 ^ min (l0_0.length : Int).toNat 64)) = ji2:=by have h_:=hji2_;rw [Int.one_mul] at h_;exact h_
 have hji2v : (l0_0.length : Int) ≤ 64→(IntKind.i64.wrap (2 ^ (l0_0.length : Int).toNat)) = ji2:=fun hle_=>by have h_:=hji2z hle_;rw [Int.one_mul] at h_;exact h_
 have hji2y : (wrap64 (1 * 2 ^ min (l0_0.length : Int).toNat 64)) = ji2:=(qY _).symm.trans hji2_
 have hji2x : (l0_0.length : Int) ≤ 64→(wrap64 (1 * 2 ^ (l0_0.length : Int).toNat)) = ji2:=fun h_=>(qY _).symm.trans (hji2z h_)
 obtain rfl:=Option.some.inj H
 go_enter Try.func53,Try.ntmps53
 go_wp2_with (first|((with_reducible refine zK (N:=1) rfl ?_);refine q9 ?hg (N:=1) ?hd (cs:=#[.slice A0_0 l0_0.length c0_0]) (t:=25) ?hr ?_;(case hd=>rfl);(case hg=>rfl);(case hr=>exact byaa);intro gb189 hg w3 hbox hb;have n0_:=qA.mk (qE byab hb);have n1_:=qA.mk (hbox);have n2_:=qA.mk ((byby : w.heap.size ≤ gb189));have n3_:=qA.mk ((byby : w.heap.size ≤ gb189));clear HB;have HB:=n0_;have BK189:=n1_;have GW189:=n2_;have GE189:=n3_;clear n0_ n1_ n2_ n3_;clear hb hbox hg;have hcz4_0 : w3.cell? ⟨gb189,0,none⟩ = some (.slice A0_0 l0_0.length c0_0):=(qC BK189.out 0).trans rfl;have hfz4_0:=qB BK189.out 0))
 go_ret
 exact ⟨by first|rfl|(simp [vD,vC]<;>rfl)|(simp only [← hji2];first|rfl|(simp [vD,vC]<;>rfl))|(simp [*,vD,vC]<;>rfl),byad GE189.out⟩
def zC.l0 : Nat→Int→Int→Bool→List (S58)→Option (Int × Int)
 | 0,_,_,_,_=>none
 | k + 1,x4,x5,x6,x191000=>if x6 = true then ((vB.f k x191000 x5).bind fun t191=>(if t191 = true then ((jC.f x191000).bind fun t194=>((zP.f k x191000 (Go.bits .andNot .i64 t194 x5)).bind fun t195=>(if t195 = 0 then ((zN.f k x5 x4).bind fun bt196=>(zC.l0 k x4 bt196.1 bt196.2 x191000)) else (some (x5,t195))))) else ((zN.f k x5 x4).bind fun bt192=>(zC.l0 k x4 bt192.1 bt192.2 x191000)))) else (some (0,0))
def zC.f (k : Nat) (l0_0 : List (S58)) : Option (Int × Int):=zC.l0 k (l0_0.length : Int) 0 true l0_0
theorem zC.mono_l : ∀ k,(∀ y0 y1 y2 y3,LeO (zC.l0 k y0 y1 y2 y3) (zC.l0 (k + 1) y0 y1 y2 y3))
 | 0=>fun _ _ _ _ r h=>by simp [zC.l0] at h
 | k + 1=>by
  have ih0:=zC.mono_l k
  ·intro y0 y1 y2 y3
   unfold zC.l0
   repeat' first
   | (with_reducible exact ih0 _ _ _ _)
   | (with_reducible exact zP.mono _ _ _)
   | (with_reducible exact vB.mono _ _ _)
   | (with_reducible exact zN.mono _ _ _)
   | (with_reducible exact LeO.refl _)
   | (with_reducible exact LeO.none _)
   | (with_reducible refine LeO.ite ?_ ?_)
   | (with_reducible refine LeO.bind ?_ (fun _=>?_))
   | exact ih0 _ _ _ _
   | exact zP.mono _ _ _
   | exact vB.mono _ _ _
   | exact zN.mono _ _ _
   | exact LeO.none _
   | refine LeO.ite ?_ ?_
   | refine LeO.bind ?_ (fun _=>?_)
theorem zC.mono : ∀ a0 k,LeO (zC.f k a0) (zC.f (k + 1) a0):=by
 intro a0 k
 have ih0:=zC.mono_l k
 unfold zC.f
 repeat' first
   | (with_reducible exact ih0 _ _ _ _)
   | (with_reducible exact zP.mono _ _ _)
   | (with_reducible exact vB.mono _ _ _)
   | (with_reducible exact zN.mono _ _ _)
   | (with_reducible exact LeO.refl _)
   | (with_reducible exact LeO.none _)
   | (with_reducible refine LeO.ite ?_ ?_)
   | (with_reducible refine LeO.bind ?_ (fun _=>?_))
   | exact ih0 _ _ _ _
   | exact zP.mono _ _ _
   | exact vB.mono _ _ _
   | exact zN.mono _ _ _
   | exact LeO.none _
   | refine LeO.ite ?_ ?_
   | refine LeO.bind ?_ (fun _=>?_)
set_option maxHeartbeats 8000000 in
set_option maxRecDepth 100000 in
theorem zC.calls (k : Nat) (A0_0 : Option Addr) (c0_0 : Nat) (l0_0 : List (S58)) (r1 : Int) (r2 : Int) (w : World) (hr0_0 : Kd.C k58 w A0_0 l0_0.length l0_0) (hc0_0 : l0_0.length ≤ c0_0) (h : zC.f k l0_0 = some (r1,r2)) :
  Calls Try.prog 36 #[.agg #[.slice A0_0 l0_0.length c0_0]] w fun e w'=>e = .returned (.tuple #[.int .i64 r1,.int .i64 r2])∧Below w.heap.size w w':=by
 have hu25:=Try.underlying25
 have HR0_0:=qA.mk hr0_0
 have HC0_0:=qA.mk hc0_0
 clear hr0_0 hc0_0
 have HB:=qA.mk (Below.refl w.heap.size w)
 have H : (zC.l0 k (l0_0.length : Int) 0 true l0_0) = some (r1,r2):=h
 clear h
 have H':=qA.mk H
 clear H
 go_enter Try.func36,Try.ntmps36
 go_wp2_with (first|((with_reducible refine zK (N:=1) rfl ?_);refine q9 ?hg (N:=1) ?hd (cs:=#[.slice A0_0 l0_0.length c0_0]) (t:=25) ?hr ?_;(case hd=>rfl);(case hg=>rfl);(case hr=>exact byaa);intro gb190 hg w2 hbox hb;have n0_:=qA.mk (qE byab hb);have n1_:=qA.mk (hbox);have n2_:=qA.mk ((byby : w.heap.size ≤ gb190));have n3_:=qA.mk ((byby : w.heap.size ≤ gb190));clear HB;have HB:=n0_;have BK190:=n1_;have GW190:=n2_;have GE190:=n3_;clear n0_ n1_ n2_ n3_;clear hb hbox hg;have hcz3_0 : w2.cell? ⟨gb190,0,none⟩ = some (.slice A0_0 l0_0.length c0_0):=(qC BK190.out 0).trans rfl;have hfz3_0:=qB BK190.out 0))
 go_loopg [5,6] k (fun kq v5 v6 w'=>∃ (x5_1 : Int) (x6_1 : Bool),v5 = .int .i64 x5_1∧v6 = .bool x6_1∧qA (zC.l0 kq (l0_0.length : Int) x5_1 x6_1 l0_0 = some (r1,r2))∧qA (kq ≤ k)∧qA (w'.heap[gb190]? = some (.cells #[(.slice A0_0 l0_0.length c0_0)] 25 (0,0)))∧qA (Below w.heap.size w w'))
 case atStart=>exact ⟨(0),(true),byae,byae,H',⟨Nat.le_refl _⟩,⟨byaf BK190.out⟩,⟨byad GE190.out⟩⟩
 case round =>
  clear H'
  try clear p2
  try clear c3
  try clear hcz3_0
  try clear hfz3_0
  obtain ⟨x5_1,x6_1,rfl,rfl,HA,HK1,BK190,HB⟩:=hrel
  cases gk with
  | zero=>exact absurd HA.out (by simp [zC.l0])
  | succ k1 =>
   have H:=HA.out
   clear HA
   simp only [zC.l0] at H
   by_cases c4 : x6_1 = true
   ·subst c4
    have H1 : ((vB.f k1 l0_0 x5_1).bind fun t191=>(if t191 = true then ((jC.f l0_0).bind fun t194=>((zP.f k1 l0_0 (Go.bits .andNot .i64 t194 x5_1)).bind fun t195=>(if t195 = 0 then ((zN.f k1 x5_1 (l0_0.length : Int)).bind fun bt196=>(zC.l0 k1 (l0_0.length : Int) bt196.1 bt196.2 l0_0)) else (some (x5_1,t195))))) else ((zN.f k1 x5_1 (l0_0.length : Int)).bind fun bt192=>(zC.l0 k1 (l0_0.length : Int) bt192.1 bt192.2 l0_0)))) = some (r1,r2):=by rw [if_pos rfl] at H;exact H
    clear H
    have H:=H1
    clear H1
    replace H:=Option.bind_eq_some_iff.mp H
    obtain ⟨t191,A50,H⟩:=H
    replace H : (if t191 = true then ((jC.f l0_0).bind fun t194=>((zP.f k1 l0_0 (Go.bits .andNot .i64 t194 x5_1)).bind fun t195=>(if t195 = 0 then ((zN.f k1 x5_1 (l0_0.length : Int)).bind fun bt196=>(zC.l0 k1 (l0_0.length : Int) bt196.1 bt196.2 l0_0)) else (some (x5_1,t195))))) else ((zN.f k1 x5_1 (l0_0.length : Int)).bind fun bt192=>(zC.l0 k1 (l0_0.length : Int) bt192.1 bt192.2 l0_0))) = some (r1,r2):=H
    have A5:=qA.mk A50
    clear A50
    by_cases c6 : t191 = true
    ·subst c6
     have H1 : ((jC.f l0_0).bind fun t194=>((zP.f k1 l0_0 (Go.bits .andNot .i64 t194 x5_1)).bind fun t195=>(if t195 = 0 then ((zN.f k1 x5_1 (l0_0.length : Int)).bind fun bt196=>(zC.l0 k1 (l0_0.length : Int) bt196.1 bt196.2 l0_0)) else (some (x5_1,t195))))) = some (r1,r2):=by rw [if_pos rfl] at H;exact H
     clear H
     have H:=H1
     clear H1
     replace H:=Option.bind_eq_some_iff.mp H
     obtain ⟨t194,A70,H⟩:=H
     replace H : ((zP.f k1 l0_0 (Go.bits .andNot .i64 t194 x5_1)).bind fun t195=>(if t195 = 0 then ((zN.f k1 x5_1 (l0_0.length : Int)).bind fun bt196=>(zC.l0 k1 (l0_0.length : Int) bt196.1 bt196.2 l0_0)) else (some (x5_1,t195)))) = some (r1,r2):=H
     have A7:=qA.mk A70
     clear A70
     replace H:=Option.bind_eq_some_iff.mp H
     obtain ⟨t195,A80,H⟩:=H
     replace H : (if t195 = 0 then ((zN.f k1 x5_1 (l0_0.length : Int)).bind fun bt196=>(zC.l0 k1 (l0_0.length : Int) bt196.1 bt196.2 l0_0)) else (some (x5_1,t195))) = some (r1,r2):=H
     have A8:=qA.mk A80
     clear A80
     by_cases c9 : t195 = 0
     ·rw [if_pos c9] at H
      have c9b0 : (t195 == 0) = true:=beq_iff_eq.mpr c9
      have c9b1 : (t195 != 0) = false:=bne_eq_false_iff_eq.mpr c9
      clear c9
      replace H:=Option.bind_eq_some_iff.mp H
      obtain ⟨⟨t196,t197⟩,A100,H⟩:=H
      replace H : (zC.l0 k1 (l0_0.length : Int) t196 t197 l0_0) = some (r1,r2):=H
      have A10:=qA.mk A100
      clear A100
      have H':=qA.mk H
      clear H
      have hcz11_0 : wr.cell? ⟨gb190,0,none⟩ = some (.slice A0_0 l0_0.length c0_0):=(qC BK190.out 0).trans rfl
      have hfz11_0:=qB BK190.out 0
      try go_wp2_with (first|((with_reducible refine qI (f:=51) rfl ?_);refine zL (some 20) rfl rfl Try.func51 (by kernel_rfl) rfl #[.agg #[.slice A0_0 l0_0.length c0_0],.int .i64 x5_1] rfl byah ?_;(with_reducible refine (vB.calls k1 _ _ l0_0 x5_1 true _ ?side1 ?side2 A5.out).mono ?_);(case side1=>exact byaq HR0_0.out);(case side2=>exact HC0_0.out);rintro e w12 ⟨rfl,hb⟩;refine ⟨_,rfl,?_⟩;have n0_:=qA.mk (qH (g:=gb190) (o:=.cells #[.slice A0_0 l0_0.length c0_0] 25 (0,0)) (byaf BK190.out) hb);have n1_:=qA.mk (qE (byad GE190.out) hb);clear BK190;clear HB;have BK190:=n0_;have HB:=n1_;clear n0_ n1_;(try clear hb);(try clear hb2);(try clear hk);(try clear hi)))
      have n0_:=qA.mk (qJ BK190.out)
      have n1_:=qA.mk (jY HB.out)
      clear BK190
      clear HB
      have BK190:=n0_
      have HB:=n1_
      clear n0_ n1_
      refine kJ (n:=7) (S:=fun w'=>w'.cell? ⟨gb190,0,none⟩ = some (.slice A0_0 l0_0.length c0_0)) (ds:=[]) #[false,false,false,false,false,false,false] (by kernel_rfl) rfl rfl ((qC BK190.out 0).trans rfl) (fun hHeld=>?_)
      generalize w12.drew = w13 at BK190 HB hHeld ⊢
      refine zY (i:=3) (N:=some 25) (v:=?_) (a':=?_) #[false,false,false,true,false,false,false] rfl rfl (by kernel_rfl) (fun _ _ _ h=>h) (Or.inl ⟨by rfl,?_⟩) ?_ ?_
      rotate_left
      ·intro w'
       go_simp
       with_reducible rfl
      rotate_left
      ·simp only [Act.put,List.setIfInBounds_toArray,List.set_cons_zero,List.set_cons_succ,qY,zA]
       rfl
      refine vZ (i:=0) (N:=some 22) (v:=?_) (a':=?_) #[true,false,false,true,false,false,false] rfl rfl (by kernel_rfl) (fun _ _ _ h=>h) (Or.inl ⟨by rfl,?_⟩) hHeld ?_ ?_
      rotate_left
      ·intro w' s0
       go_simp
       with_reducible rfl
      rotate_left
      ·simp only [Act.put,List.setIfInBounds_toArray,List.set_cons_zero,List.set_cons_succ,qY,zA]
       rfl
      refine vZ (i:=1) (N:=some 23) (v:=?_) (a':=?_) #[true,true,false,true,false,false,false] rfl rfl (by kernel_rfl) (fun _ _ _ h=>h) (Or.inl ⟨by rfl,?_⟩) hHeld ?_ ?_
      rotate_left
      ·intro w' s0
       go_simp
       with_reducible rfl
      rotate_left
      ·simp only [Act.put,List.setIfInBounds_toArray,List.set_cons_zero,List.set_cons_succ,qY,zA]
       rfl
      refine one_ (i:=2) (N:=some 24) #[true,true,true,true,false,false,false] rfl rfl (by kernel_rfl) (by decide) (fun K hK=>?_)
      refine kD Try.func53 (by kernel_rfl) rfl #[.agg #[.slice A0_0 l0_0.length c0_0]] (by rfl) rfl rfl byah ?_
      with_reducible refine (jC.calls _ _ l0_0 t194 _ ?side1 ?side2 A7.out).mono ?_
      (case side1=>exact byaq HR0_0.out)
      (case side2=>exact HC0_0.out)
      rintro e w14 ⟨rfl,hb⟩
      refine ⟨_,rfl,?_⟩
      have n0_:=qA.mk (qH (g:=gb190) (o:=.cells #[.slice A0_0 l0_0.length c0_0] 25 (0,0)) (byaf BK190.out) hb)
      have n1_:=qA.mk (qE (byad GE190.out) hb)
      clear BK190
      clear HB
      have BK190:=n0_
      have HB:=n1_
      clear n0_ n1_
      (try clear hb)
      (try clear hb2)
      (try clear hk)
      (try clear hi)
      refine hK.out _ _ ((qC BK190.out 0).trans rfl) (fun hHeld=>?_)
      clear hK K
      refine uM (a':=?_) ?_ ?_
      rotate_left
      ·show Act.put _ (some 24) _ = _
       simp only [Act.put,List.setIfInBounds_toArray,List.set_cons_zero,List.set_cons_succ,qY,zA]
       rfl
      refine zY (i:=4) (N:=some 26) (v:=?_) (a':=?_) #[true,true,true,true,true,false,false] rfl rfl (by kernel_rfl) (fun _ _ _ h=>h) (Or.inl ⟨by rfl,?_⟩) ?_ ?_
      rotate_left
      ·intro w'
       go_simp
       with_reducible rfl
      rotate_left
      ·simp only [Act.put,List.setIfInBounds_toArray,List.set_cons_zero,List.set_cons_succ,qY,zA]
       rfl
      refine one_ (i:=5) (N:=some 27) #[true,true,true,true,true,true,false] rfl rfl (by kernel_rfl) (by decide) (fun K hK=>?_)
      refine kD Try.func52 (by kernel_rfl) rfl #[.agg #[.slice A0_0 l0_0.length c0_0],.int .i64 (Go.bits .andNot .i64 t194 x5_1)] (by rfl) rfl rfl byah ?_
      with_reducible refine (zP.calls k1 _ _ l0_0 (Go.bits .andNot .i64 t194 x5_1) t195 _ ?side1 ?side2 A8.out).mono ?_
      (case side1=>exact byaq HR0_0.out)
      (case side2=>exact HC0_0.out)
      rintro e w15 ⟨rfl,hb⟩
      refine ⟨_,rfl,?_⟩
      have n0_:=qA.mk (qH (g:=gb190) (o:=.cells #[.slice A0_0 l0_0.length c0_0] 25 (0,0)) (byaf BK190.out) hb)
      have n1_:=qA.mk (qE (byad GE190.out) hb)
      clear BK190
      clear HB
      have BK190:=n0_
      have HB:=n1_
      clear n0_ n1_
      (try clear hb)
      (try clear hb2)
      (try clear hk)
      (try clear hi)
      refine hK.out _ _ ((qC BK190.out 0).trans rfl) (fun hHeld=>?_)
      clear hK K
      refine uM (a':=?_) ?_ ?_
      rotate_left
      ·show Act.put _ (some 27) _ = _
       simp only [Act.put,List.setIfInBounds_toArray,List.set_cons_zero,List.set_cons_succ,qY,zA]
       rfl
      refine zY (i:=6) (N:=some 7) (v:=?_) (a':=?_) #[true,true,true,true,true,true,true] rfl rfl (by kernel_rfl) (fun _ _ _ h=>h) (Or.inl ⟨by rfl,?_⟩) ?_ ?_
      rotate_left
      ·intro w'
       go_simp
       with_reducible rfl
      rotate_left
      ·simp only [Act.put,List.setIfInBounds_toArray,List.set_cons_zero,List.set_cons_succ,qY,zA]
       rfl
      refine done_ (by kernel_rfl) ?_
      try go_wp2_with (first|((with_reducible refine qI (f:=50) rfl ?_);refine zL (some 15) rfl rfl Try.func50 (by kernel_rfl) rfl #[.int .i64 x5_1,.int .i64 (l0_0.length : Int)] rfl byah ?_;(with_reducible refine (zN.calls k1 x5_1 (l0_0.length : Int) t196 t197 _ A10.out).mono ?_);rintro e w' ⟨rfl,⟨nd,rfl⟩⟩;refine ⟨_,rfl,?_⟩))
      go_roundg k1
      case measure=>have:=HK1.out;omega
      case rel=>exact ⟨(t196),(t197),byae,byae,H',⟨byai⟩,⟨byaf BK190.out⟩,⟨byad GE190.out⟩⟩
     ·rw [if_neg c9] at H
      have c9b0 : (t195 == 0) = false:=beq_eq_false_iff_ne.mpr c9
      have c9b1 : (t195 != 0) = true:=bne_iff_ne.mpr c9
      simp only [Option.some.injEq,Prod.mk.injEq] at H
      obtain ⟨rfl,rfl⟩:=H
      have hcz16_0 : wr.cell? ⟨gb190,0,none⟩ = some (.slice A0_0 l0_0.length c0_0):=(qC BK190.out 0).trans rfl
      have hfz16_0:=qB BK190.out 0
      try go_wp2_with (first|((with_reducible refine qI (f:=51) rfl ?_);refine zL (some 20) rfl rfl Try.func51 (by kernel_rfl) rfl #[.agg #[.slice A0_0 l0_0.length c0_0],.int .i64 x5_1] rfl byah ?_;(with_reducible refine (vB.calls k1 _ _ l0_0 x5_1 true _ ?side1 ?side2 A5.out).mono ?_);(case side1=>exact byaq HR0_0.out);(case side2=>exact HC0_0.out);rintro e w17 ⟨rfl,hb⟩;refine ⟨_,rfl,?_⟩;have n0_:=qA.mk (qH (g:=gb190) (o:=.cells #[.slice A0_0 l0_0.length c0_0] 25 (0,0)) (byaf BK190.out) hb);have n1_:=qA.mk (qE (byad GE190.out) hb);clear BK190;clear HB;have BK190:=n0_;have HB:=n1_;clear n0_ n1_;(try clear hb);(try clear hb2);(try clear hk);(try clear hi)))
      have n0_:=qA.mk (qJ BK190.out)
      have n1_:=qA.mk (jY HB.out)
      clear BK190
      clear HB
      have BK190:=n0_
      have HB:=n1_
      clear n0_ n1_
      refine kJ (n:=7) (S:=fun w'=>w'.cell? ⟨gb190,0,none⟩ = some (.slice A0_0 l0_0.length c0_0)) (ds:=[]) #[false,false,false,false,false,false,false] (by kernel_rfl) rfl rfl ((qC BK190.out 0).trans rfl) (fun hHeld=>?_)
      generalize w17.drew = w18 at BK190 HB hHeld ⊢
      refine zY (i:=3) (N:=some 25) (v:=?_) (a':=?_) #[false,false,false,true,false,false,false] rfl rfl (by kernel_rfl) (fun _ _ _ h=>h) (Or.inl ⟨by rfl,?_⟩) ?_ ?_
      rotate_left
      ·intro w'
       go_simp
       with_reducible rfl
      rotate_left
      ·simp only [Act.put,List.setIfInBounds_toArray,List.set_cons_zero,List.set_cons_succ,qY,zA]
       rfl
      refine vZ (i:=0) (N:=some 22) (v:=?_) (a':=?_) #[true,false,false,true,false,false,false] rfl rfl (by kernel_rfl) (fun _ _ _ h=>h) (Or.inl ⟨by rfl,?_⟩) hHeld ?_ ?_
      rotate_left
      ·intro w' s0
       go_simp
       with_reducible rfl
      rotate_left
      ·simp only [Act.put,List.setIfInBounds_toArray,List.set_cons_zero,List.set_cons_succ,qY,zA]
       rfl
      refine vZ (i:=1) (N:=some 23) (v:=?_) (a':=?_) #[true,true,false,true,false,false,false] rfl rfl (by kernel_rfl) (fun _ _ _ h=>h) (Or.inl ⟨by rfl,?_⟩) hHeld ?_ ?_
      rotate_left
      ·intro w' s0
       go_simp
       with_reducible rfl
      rotate_left
      ·simp only [Act.put,List.setIfInBounds_toArray,List.set_cons_zero,List.set_cons_succ,qY,zA]
       rfl
      refine one_ (i:=2) (N:=some 24) #[true,true,true,true,false,false,false] rfl rfl (by kernel_rfl) (by decide) (fun K hK=>?_)
      refine kD Try.func53 (by kernel_rfl) rfl #[.agg #[.slice A0_0 l0_0.length c0_0]] (by rfl) rfl rfl byah ?_
      with_reducible refine (jC.calls _ _ l0_0 t194 _ ?side1 ?side2 A7.out).mono ?_
      (case side1=>exact byaq HR0_0.out)
      (case side2=>exact HC0_0.out)
      rintro e w19 ⟨rfl,hb⟩
      refine ⟨_,rfl,?_⟩
      have n0_:=qA.mk (qH (g:=gb190) (o:=.cells #[.slice A0_0 l0_0.length c0_0] 25 (0,0)) (byaf BK190.out) hb)
      have n1_:=qA.mk (qE (byad GE190.out) hb)
      clear BK190
      clear HB
      have BK190:=n0_
      have HB:=n1_
      clear n0_ n1_
      (try clear hb)
      (try clear hb2)
      (try clear hk)
      (try clear hi)
      refine hK.out _ _ ((qC BK190.out 0).trans rfl) (fun hHeld=>?_)
      clear hK K
      refine uM (a':=?_) ?_ ?_
      rotate_left
      ·show Act.put _ (some 24) _ = _
       simp only [Act.put,List.setIfInBounds_toArray,List.set_cons_zero,List.set_cons_succ,qY,zA]
       rfl
      refine zY (i:=4) (N:=some 26) (v:=?_) (a':=?_) #[true,true,true,true,true,false,false] rfl rfl (by kernel_rfl) (fun _ _ _ h=>h) (Or.inl ⟨by rfl,?_⟩) ?_ ?_
      rotate_left
      ·intro w'
       go_simp
       with_reducible rfl
      rotate_left
      ·simp only [Act.put,List.setIfInBounds_toArray,List.set_cons_zero,List.set_cons_succ,qY,zA]
       rfl
      refine one_ (i:=5) (N:=some 27) #[true,true,true,true,true,true,false] rfl rfl (by kernel_rfl) (by decide) (fun K hK=>?_)
      refine kD Try.func52 (by kernel_rfl) rfl #[.agg #[.slice A0_0 l0_0.length c0_0],.int .i64 (Go.bits .andNot .i64 t194 x5_1)] (by rfl) rfl rfl byah ?_
      with_reducible refine (zP.calls k1 _ _ l0_0 (Go.bits .andNot .i64 t194 x5_1) t195 _ ?side1 ?side2 A8.out).mono ?_
      (case side1=>exact byaq HR0_0.out)
      (case side2=>exact HC0_0.out)
      rintro e w20 ⟨rfl,hb⟩
      refine ⟨_,rfl,?_⟩
      have n0_:=qA.mk (qH (g:=gb190) (o:=.cells #[.slice A0_0 l0_0.length c0_0] 25 (0,0)) (byaf BK190.out) hb)
      have n1_:=qA.mk (qE (byad GE190.out) hb)
      clear BK190
      clear HB
      have BK190:=n0_
      have HB:=n1_
      clear n0_ n1_
      (try clear hb)
      (try clear hb2)
      (try clear hk)
      (try clear hi)
      refine hK.out _ _ ((qC BK190.out 0).trans rfl) (fun hHeld=>?_)
      clear hK K
      refine uM (a':=?_) ?_ ?_
      rotate_left
      ·show Act.put _ (some 27) _ = _
       simp only [Act.put,List.setIfInBounds_toArray,List.set_cons_zero,List.set_cons_succ,qY,zA]
       rfl
      refine zY (i:=6) (N:=some 7) (v:=?_) (a':=?_) #[true,true,true,true,true,true,true] rfl rfl (by kernel_rfl) (fun _ _ _ h=>h) (Or.inl ⟨by rfl,?_⟩) ?_ ?_
      rotate_left
      ·intro w'
       go_simp
       with_reducible rfl
      rotate_left
      ·simp only [Act.put,List.setIfInBounds_toArray,List.set_cons_zero,List.set_cons_succ,qY,zA]
       rfl
      refine done_ (by kernel_rfl) ?_
      try go_wp2
      go_ret2
      exact ⟨byac,byad GE190.out⟩
    ·replace c6:=Bool.eq_false_iff.mpr c6
     subst c6
     have H1 : ((zN.f k1 x5_1 (l0_0.length : Int)).bind fun bt192=>(zC.l0 k1 (l0_0.length : Int) bt192.1 bt192.2 l0_0)) = some (r1,r2):=by rw [if_neg (show ¬ (false = true) by decide)] at H;exact H
     clear H
     have H:=H1
     clear H1
     replace H:=Option.bind_eq_some_iff.mp H
     obtain ⟨⟨t192,t193⟩,A210,H⟩:=H
     replace H : (zC.l0 k1 (l0_0.length : Int) t192 t193 l0_0) = some (r1,r2):=H
     have A21:=qA.mk A210
     clear A210
     have H':=qA.mk H
     clear H
     have hcz22_0 : wr.cell? ⟨gb190,0,none⟩ = some (.slice A0_0 l0_0.length c0_0):=(qC BK190.out 0).trans rfl
     have hfz22_0:=qB BK190.out 0
     go_wp2_with (first|((with_reducible refine qI (f:=51) rfl ?_);refine zL (some 20) rfl rfl Try.func51 (by kernel_rfl) rfl #[.agg #[.slice A0_0 l0_0.length c0_0],.int .i64 x5_1] rfl byah ?_;(with_reducible refine (vB.calls k1 _ _ l0_0 x5_1 false _ ?side1 ?side2 A5.out).mono ?_);(case side1=>exact byaq HR0_0.out);(case side2=>exact HC0_0.out);rintro e w23 ⟨rfl,hb⟩;refine ⟨_,rfl,?_⟩;have n0_:=qA.mk (qH (g:=gb190) (o:=.cells #[.slice A0_0 l0_0.length c0_0] 25 (0,0)) (byaf BK190.out) hb);have n1_:=qA.mk (qE (byad GE190.out) hb);clear BK190;clear HB;have BK190:=n0_;have HB:=n1_;clear n0_ n1_;(try clear hb);(try clear hb2);(try clear hk);(try clear hi))|((with_reducible refine qI (f:=50) rfl ?_);refine zL (some 15) rfl rfl Try.func50 (by kernel_rfl) rfl #[.int .i64 x5_1,.int .i64 (l0_0.length : Int)] rfl byah ?_;(with_reducible refine (zN.calls k1 x5_1 (l0_0.length : Int) t192 t193 _ A21.out).mono ?_);rintro e w' ⟨rfl,⟨nd,rfl⟩⟩;refine ⟨_,rfl,?_⟩))
     go_roundg k1
     case measure=>have:=HK1.out;omega
     case rel=>exact ⟨(t192),(t193),byae,byae,H',⟨byai⟩,⟨byaf BK190.out⟩,⟨byad GE190.out⟩⟩
   ·replace c4:=Bool.eq_false_iff.mpr c4
    subst c4
    have H1 : (some (0,0)) = some (r1,r2):=by rw [if_neg (show ¬ (false = true) by decide)] at H;exact H
    clear H
    have H:=H1
    clear H1
    simp only [Option.some.injEq,Prod.mk.injEq] at H
    obtain ⟨rfl,rfl⟩:=H
    go_wp2
    go_ret2
    exact ⟨byac,byad GE190.out⟩
def jG.f (k : Nat) (l0_0 : List (S58)) : Option (Bool × Int):=(zB.f k l0_0).bind fun t199=>(if t199 = 0 then ((zC.f k l0_0).bind fun bt200=>(some ((bt200.1 == 0),0))) else (some (false,t199)))
theorem jG.mono : ∀ a0 k,LeO (jG.f k a0) (jG.f (k + 1) a0):=by
 intro a0 k
 unfold jG.f
 repeat' first
   | (with_reducible exact zB.mono _ _)
   | (with_reducible exact zC.mono _ _)
   | (with_reducible exact LeO.refl _)
   | (with_reducible exact LeO.none _)
   | (with_reducible refine LeO.ite ?_ ?_)
   | (with_reducible refine LeO.bind ?_ (fun _=>?_))
   | exact zB.mono _ _
   | exact zC.mono _ _
   | exact LeO.none _
   | refine LeO.ite ?_ ?_
   | refine LeO.bind ?_ (fun _=>?_)
set_option maxHeartbeats 8000000 in
set_option maxRecDepth 100000 in
theorem jG.calls (k : Nat) (A0_0 : Option Addr) (c0_0 : Nat) (l0_0 : List (S58)) (r1 : Bool) (r2 : Int) (w : World) (hr0_0 : Kd.C k58 w A0_0 l0_0.length l0_0) (hc0_0 : l0_0.length ≤ c0_0) (h : jG.f k l0_0 = some (r1,r2)) :
  Calls Try.prog 14 #[.agg #[.slice A0_0 l0_0.length c0_0]] w fun e w'=>e = .returned (.tuple #[.bool r1,.int .i64 r2])∧Below w.heap.size w w':=by
 have hu25:=Try.underlying25
 have HR0_0:=qA.mk hr0_0
 have HC0_0:=qA.mk hc0_0
 clear hr0_0 hc0_0
 have HB:=qA.mk (Below.refl w.heap.size w)
 have H : ((zB.f k l0_0).bind fun t199=>(if t199 = 0 then ((zC.f k l0_0).bind fun bt200=>(some ((bt200.1 == 0),0))) else (some (false,t199)))) = some (r1,r2):=h
 clear h
 replace H:=Option.bind_eq_some_iff.mp H
 obtain ⟨t199,A20,H⟩:=H
 replace H : (if t199 = 0 then ((zC.f k l0_0).bind fun bt200=>(some ((bt200.1 == 0),0))) else (some (false,t199))) = some (r1,r2):=H
 have A2:=qA.mk A20
 clear A20
 by_cases c3 : t199 = 0
 ·rw [if_pos c3] at H
  have c3b0 : (t199 == 0) = true:=beq_iff_eq.mpr c3
  have c3b1 : (t199 != 0) = false:=bne_eq_false_iff_eq.mpr c3
  clear c3
  replace H:=Option.bind_eq_some_iff.mp H
  obtain ⟨⟨t200,t201⟩,A40,H⟩:=H
  replace H : (some ((t200 == 0),0)) = some (r1,r2):=H
  have A4:=qA.mk A40
  clear A40
  simp only [Option.some.injEq,Prod.mk.injEq] at H
  obtain ⟨rfl,rfl⟩:=H
  go_enter Try.func14,Try.ntmps14
  go_wp2_with (first|((with_reducible refine zK (N:=1) rfl ?_);refine q9 ?hg (N:=1) ?hd (cs:=#[.slice A0_0 l0_0.length c0_0]) (t:=25) ?hr ?_;(case hd=>rfl);(case hg=>rfl);(case hr=>exact byaa);intro gb198 hg w5 hbox hb;have n0_:=qA.mk (qE byab hb);have n1_:=qA.mk (hbox);have n2_:=qA.mk ((byby : w.heap.size ≤ gb198));have n3_:=qA.mk ((byby : w.heap.size ≤ gb198));clear HB;have HB:=n0_;have BK198:=n1_;have GW198:=n2_;have GE198:=n3_;clear n0_ n1_ n2_ n3_;clear hb hbox hg;have hcz6_0 : w5.cell? ⟨gb198,0,none⟩ = some (.slice A0_0 l0_0.length c0_0):=(qC BK198.out 0).trans rfl;have hfz6_0:=qB BK198.out 0)|((with_reducible refine qI (f:=35) rfl ?_);refine zL (some 8) rfl rfl Try.func35 (by kernel_rfl) rfl #[.agg #[.slice A0_0 l0_0.length c0_0]] rfl byah ?_;(with_reducible refine (zB.calls k _ _ l0_0 t199 _ ?side1 ?side2 A2.out).mono ?_);(case side1=>exact byaq HR0_0.out);(case side2=>exact HC0_0.out);rintro e w7 ⟨rfl,hb⟩;refine ⟨_,rfl,?_⟩;have n0_:=qA.mk (qH (g:=gb198) (o:=.cells #[.slice A0_0 l0_0.length c0_0] 25 (0,0)) (byaf BK198.out) hb);have n1_:=qA.mk (qE (byad GE198.out) hb);clear BK198;clear HB;have BK198:=n0_;have HB:=n1_;clear n0_ n1_;(try clear hb);(try clear hb2);(try clear hk);(try clear hi);have hcz8_0 : w7.cell? ⟨gb198,0,none⟩ = some (.slice A0_0 l0_0.length c0_0):=(qC BK198.out 0).trans rfl;have hfz8_0:=qB BK198.out 0)|((with_reducible refine qI (f:=36) rfl ?_);refine zL (some 14) rfl rfl Try.func36 (by kernel_rfl) rfl #[.agg #[.slice A0_0 l0_0.length c0_0]] rfl byah ?_;(with_reducible refine (zC.calls k _ _ l0_0 t200 t201 _ ?side1 ?side2 A4.out).mono ?_);(case side1=>exact byaq HR0_0.out);(case side2=>exact HC0_0.out);rintro e w9 ⟨rfl,hb⟩;refine ⟨_,rfl,?_⟩;have n0_:=qA.mk (qH (g:=gb198) (o:=.cells #[.slice A0_0 l0_0.length c0_0] 25 (0,0)) (byaf BK198.out) hb);have n1_:=qA.mk (qE (byad GE198.out) hb);clear BK198;clear HB;have BK198:=n0_;have HB:=n1_;clear n0_ n1_;(try clear hb);(try clear hb2);(try clear hk);(try clear hi)))
  go_ret2
  exact ⟨byac,byad GE198.out⟩
 ·rw [if_neg c3] at H
  have c3b0 : (t199 == 0) = false:=beq_eq_false_iff_ne.mpr c3
  have c3b1 : (t199 != 0) = true:=bne_iff_ne.mpr c3
  simp only [Option.some.injEq,Prod.mk.injEq] at H
  obtain ⟨rfl,rfl⟩:=H
  go_enter Try.func14,Try.ntmps14
  go_wp2_with (first|((with_reducible refine zK (N:=1) rfl ?_);refine q9 ?hg (N:=1) ?hd (cs:=#[.slice A0_0 l0_0.length c0_0]) (t:=25) ?hr ?_;(case hd=>rfl);(case hg=>rfl);(case hr=>exact byaa);intro gb198 hg w10 hbox hb;have n0_:=qA.mk (qE byab hb);have n1_:=qA.mk (hbox);have n2_:=qA.mk ((byby : w.heap.size ≤ gb198));have n3_:=qA.mk ((byby : w.heap.size ≤ gb198));clear HB;have HB:=n0_;have BK198:=n1_;have GW198:=n2_;have GE198:=n3_;clear n0_ n1_ n2_ n3_;clear hb hbox hg;have hcz11_0 : w10.cell? ⟨gb198,0,none⟩ = some (.slice A0_0 l0_0.length c0_0):=(qC BK198.out 0).trans rfl;have hfz11_0:=qB BK198.out 0)|((with_reducible refine qI (f:=35) rfl ?_);refine zL (some 8) rfl rfl Try.func35 (by kernel_rfl) rfl #[.agg #[.slice A0_0 l0_0.length c0_0]] rfl byah ?_;(with_reducible refine (zB.calls k _ _ l0_0 t199 _ ?side1 ?side2 A2.out).mono ?_);(case side1=>exact byaq HR0_0.out);(case side2=>exact HC0_0.out);rintro e w12 ⟨rfl,hb⟩;refine ⟨_,rfl,?_⟩;have n0_:=qA.mk (qH (g:=gb198) (o:=.cells #[.slice A0_0 l0_0.length c0_0] 25 (0,0)) (byaf BK198.out) hb);have n1_:=qA.mk (qE (byad GE198.out) hb);clear BK198;clear HB;have BK198:=n0_;have HB:=n1_;clear n0_ n1_;(try clear hb);(try clear hb2);(try clear hk);(try clear hi)))
  go_ret2
  exact ⟨byac,byad GE198.out⟩
def intersection_Disjoint.f (k : Nat) (l0_0 : List (S58)) : Option (Int × Int × Int):=(zB.f k l0_0).bind fun t203=>(if t203 = 0 then ((zC.f k l0_0).bind fun bt204=>(if bt204.1 = 0 then (some (0,0,11)) else (some (bt204.1,bt204.2,0)))) else (some (0,0,t203)))
theorem intersection_Disjoint.mono : ∀ a0 k,LeO (intersection_Disjoint.f k a0) (intersection_Disjoint.f (k + 1) a0):=by
 intro a0 k
 unfold intersection_Disjoint.f
 repeat' first
   | (with_reducible exact zB.mono _ _)
   | (with_reducible exact zC.mono _ _)
   | (with_reducible exact LeO.refl _)
   | (with_reducible exact LeO.none _)
   | (with_reducible refine LeO.ite ?_ ?_)
   | (with_reducible refine LeO.bind ?_ (fun _=>?_))
   | exact zB.mono _ _
   | exact zC.mono _ _
   | exact LeO.none _
   | refine LeO.ite ?_ ?_
   | refine LeO.bind ?_ (fun _=>?_)
set_option maxHeartbeats 8000000 in
set_option maxRecDepth 100000 in
theorem intersection_Disjoint.calls (k : Nat) (A0_0 : Option Addr) (c0_0 : Nat) (l0_0 : List (S58)) (r1 : Int) (r2 : Int) (r3 : Int) (w : World) (hr0_0 : Kd.C k58 w A0_0 l0_0.length l0_0) (hc0_0 : l0_0.length ≤ c0_0) (h : intersection_Disjoint.f k l0_0 = some (r1,r2,r3)) :
  Calls Try.prog 16 #[.agg #[.slice A0_0 l0_0.length c0_0]] w fun e w'=>e = .returned (.tuple #[.int .i64 r1,.int .i64 r2,.int .i64 r3])∧Below w.heap.size w w':=by
 have hu25:=Try.underlying25
 have HR0_0:=qA.mk hr0_0
 have HC0_0:=qA.mk hc0_0
 clear hr0_0 hc0_0
 have HB:=qA.mk (Below.refl w.heap.size w)
 have H : ((zB.f k l0_0).bind fun t203=>(if t203 = 0 then ((zC.f k l0_0).bind fun bt204=>(if bt204.1 = 0 then (some (0,0,11)) else (some (bt204.1,bt204.2,0)))) else (some (0,0,t203)))) = some (r1,r2,r3):=h
 clear h
 replace H:=Option.bind_eq_some_iff.mp H
 obtain ⟨t203,A20,H⟩:=H
 replace H : (if t203 = 0 then ((zC.f k l0_0).bind fun bt204=>(if bt204.1 = 0 then (some (0,0,11)) else (some (bt204.1,bt204.2,0)))) else (some (0,0,t203))) = some (r1,r2,r3):=H
 have A2:=qA.mk A20
 clear A20
 by_cases c3 : t203 = 0
 ·rw [if_pos c3] at H
  have c3b0 : (t203 == 0) = true:=beq_iff_eq.mpr c3
  have c3b1 : (t203 != 0) = false:=bne_eq_false_iff_eq.mpr c3
  clear c3
  replace H:=Option.bind_eq_some_iff.mp H
  obtain ⟨⟨t204,t205⟩,A40,H⟩:=H
  replace H : (if t204 = 0 then (some (0,0,11)) else (some (t204,t205,0))) = some (r1,r2,r3):=H
  have A4:=qA.mk A40
  clear A40
  by_cases c5 : t204 = 0
  ·rw [if_pos c5] at H
   have c5b0 : (t204 == 0) = true:=beq_iff_eq.mpr c5
   have c5b1 : (t204 != 0) = false:=bne_eq_false_iff_eq.mpr c5
   clear c5
   simp only [Option.some.injEq,Prod.mk.injEq] at H
   obtain ⟨rfl,rfl,rfl⟩:=H
   go_enter Try.func16,Try.ntmps16
   go_wp2_with (first|((with_reducible refine zK (N:=1) rfl ?_);refine q9 ?hg (N:=1) ?hd (cs:=#[.slice A0_0 l0_0.length c0_0]) (t:=25) ?hr ?_;(case hd=>rfl);(case hg=>rfl);(case hr=>exact byaa);intro gb202 hg w6 hbox hb;have n0_:=qA.mk (qE byab hb);have n1_:=qA.mk (hbox);have n2_:=qA.mk ((byby : w.heap.size ≤ gb202));have n3_:=qA.mk ((byby : w.heap.size ≤ gb202));clear HB;have HB:=n0_;have BK202:=n1_;have GW202:=n2_;have GE202:=n3_;clear n0_ n1_ n2_ n3_;clear hb hbox hg;have hcz7_0 : w6.cell? ⟨gb202,0,none⟩ = some (.slice A0_0 l0_0.length c0_0):=(qC BK202.out 0).trans rfl;have hfz7_0:=qB BK202.out 0)|((with_reducible refine qI (f:=35) rfl ?_);refine zL (some 9) rfl rfl Try.func35 (by kernel_rfl) rfl #[.agg #[.slice A0_0 l0_0.length c0_0]] rfl byah ?_;(with_reducible refine (zB.calls k _ _ l0_0 t203 _ ?side1 ?side2 A2.out).mono ?_);(case side1=>exact byaq HR0_0.out);(case side2=>exact HC0_0.out);rintro e w8 ⟨rfl,hb⟩;refine ⟨_,rfl,?_⟩;have n0_:=qA.mk (qH (g:=gb202) (o:=.cells #[.slice A0_0 l0_0.length c0_0] 25 (0,0)) (byaf BK202.out) hb);have n1_:=qA.mk (qE (byad GE202.out) hb);clear BK202;clear HB;have BK202:=n0_;have HB:=n1_;clear n0_ n1_;(try clear hb);(try clear hb2);(try clear hk);(try clear hi);have hcz9_0 : w8.cell? ⟨gb202,0,none⟩ = some (.slice A0_0 l0_0.length c0_0):=(qC BK202.out 0).trans rfl;have hfz9_0:=qB BK202.out 0)|((with_reducible refine qI (f:=36) rfl ?_);refine zL (some 15) rfl rfl Try.func36 (by kernel_rfl) rfl #[.agg #[.slice A0_0 l0_0.length c0_0]] rfl byah ?_;(with_reducible refine (zC.calls k _ _ l0_0 t204 t205 _ ?side1 ?side2 A4.out).mono ?_);(case side1=>exact byaq HR0_0.out);(case side2=>exact HC0_0.out);rintro e w10 ⟨rfl,hb⟩;refine ⟨_,rfl,?_⟩;have n0_:=qA.mk (qH (g:=gb202) (o:=.cells #[.slice A0_0 l0_0.length c0_0] 25 (0,0)) (byaf BK202.out) hb);have n1_:=qA.mk (qE (byad GE202.out) hb);clear BK202;clear HB;have BK202:=n0_;have HB:=n1_;clear n0_ n1_;(try clear hb);(try clear hb2);(try clear hk);(try clear hi)))
   go_ret3
   exact ⟨byac,byad GE202.out⟩
  ·rw [if_neg c5] at H
   have c5b0 : (t204 == 0) = false:=beq_eq_false_iff_ne.mpr c5
   have c5b1 : (t204 != 0) = true:=bne_iff_ne.mpr c5
   simp only [Option.some.injEq,Prod.mk.injEq] at H
   obtain ⟨rfl,rfl,rfl⟩:=H
   go_enter Try.func16,Try.ntmps16
   go_wp2_with (first|((with_reducible refine zK (N:=1) rfl ?_);refine q9 ?hg (N:=1) ?hd (cs:=#[.slice A0_0 l0_0.length c0_0]) (t:=25) ?hr ?_;(case hd=>rfl);(case hg=>rfl);(case hr=>exact byaa);intro gb202 hg w11 hbox hb;have n0_:=qA.mk (qE byab hb);have n1_:=qA.mk (hbox);have n2_:=qA.mk ((byby : w.heap.size ≤ gb202));have n3_:=qA.mk ((byby : w.heap.size ≤ gb202));clear HB;have HB:=n0_;have BK202:=n1_;have GW202:=n2_;have GE202:=n3_;clear n0_ n1_ n2_ n3_;clear hb hbox hg;have hcz12_0 : w11.cell? ⟨gb202,0,none⟩ = some (.slice A0_0 l0_0.length c0_0):=(qC BK202.out 0).trans rfl;have hfz12_0:=qB BK202.out 0)|((with_reducible refine qI (f:=35) rfl ?_);refine zL (some 9) rfl rfl Try.func35 (by kernel_rfl) rfl #[.agg #[.slice A0_0 l0_0.length c0_0]] rfl byah ?_;(with_reducible refine (zB.calls k _ _ l0_0 t203 _ ?side1 ?side2 A2.out).mono ?_);(case side1=>exact byaq HR0_0.out);(case side2=>exact HC0_0.out);rintro e w13 ⟨rfl,hb⟩;refine ⟨_,rfl,?_⟩;have n0_:=qA.mk (qH (g:=gb202) (o:=.cells #[.slice A0_0 l0_0.length c0_0] 25 (0,0)) (byaf BK202.out) hb);have n1_:=qA.mk (qE (byad GE202.out) hb);clear BK202;clear HB;have BK202:=n0_;have HB:=n1_;clear n0_ n1_;(try clear hb);(try clear hb2);(try clear hk);(try clear hi);have hcz14_0 : w13.cell? ⟨gb202,0,none⟩ = some (.slice A0_0 l0_0.length c0_0):=(qC BK202.out 0).trans rfl;have hfz14_0:=qB BK202.out 0)|((with_reducible refine qI (f:=36) rfl ?_);refine zL (some 15) rfl rfl Try.func36 (by kernel_rfl) rfl #[.agg #[.slice A0_0 l0_0.length c0_0]] rfl byah ?_;(with_reducible refine (zC.calls k _ _ l0_0 t204 t205 _ ?side1 ?side2 A4.out).mono ?_);(case side1=>exact byaq HR0_0.out);(case side2=>exact HC0_0.out);rintro e w15 ⟨rfl,hb⟩;refine ⟨_,rfl,?_⟩;have n0_:=qA.mk (qH (g:=gb202) (o:=.cells #[.slice A0_0 l0_0.length c0_0] 25 (0,0)) (byaf BK202.out) hb);have n1_:=qA.mk (qE (byad GE202.out) hb);clear BK202;clear HB;have BK202:=n0_;have HB:=n1_;clear n0_ n1_;(try clear hb);(try clear hb2);(try clear hk);(try clear hi)))
   go_ret3
   exact ⟨byac,byad GE202.out⟩
 ·rw [if_neg c3] at H
  have c3b0 : (t203 == 0) = false:=beq_eq_false_iff_ne.mpr c3
  have c3b1 : (t203 != 0) = true:=bne_iff_ne.mpr c3
  simp only [Option.some.injEq,Prod.mk.injEq] at H
  obtain ⟨rfl,rfl,rfl⟩:=H
  go_enter Try.func16,Try.ntmps16
  go_wp2_with (first|((with_reducible refine zK (N:=1) rfl ?_);refine q9 ?hg (N:=1) ?hd (cs:=#[.slice A0_0 l0_0.length c0_0]) (t:=25) ?hr ?_;(case hd=>rfl);(case hg=>rfl);(case hr=>exact byaa);intro gb202 hg w16 hbox hb;have n0_:=qA.mk (qE byab hb);have n1_:=qA.mk (hbox);have n2_:=qA.mk ((byby : w.heap.size ≤ gb202));have n3_:=qA.mk ((byby : w.heap.size ≤ gb202));clear HB;have HB:=n0_;have BK202:=n1_;have GW202:=n2_;have GE202:=n3_;clear n0_ n1_ n2_ n3_;clear hb hbox hg;have hcz17_0 : w16.cell? ⟨gb202,0,none⟩ = some (.slice A0_0 l0_0.length c0_0):=(qC BK202.out 0).trans rfl;have hfz17_0:=qB BK202.out 0)|((with_reducible refine qI (f:=35) rfl ?_);refine zL (some 9) rfl rfl Try.func35 (by kernel_rfl) rfl #[.agg #[.slice A0_0 l0_0.length c0_0]] rfl byah ?_;(with_reducible refine (zB.calls k _ _ l0_0 t203 _ ?side1 ?side2 A2.out).mono ?_);(case side1=>exact byaq HR0_0.out);(case side2=>exact HC0_0.out);rintro e w18 ⟨rfl,hb⟩;refine ⟨_,rfl,?_⟩;have n0_:=qA.mk (qH (g:=gb202) (o:=.cells #[.slice A0_0 l0_0.length c0_0] 25 (0,0)) (byaf BK202.out) hb);have n1_:=qA.mk (qE (byad GE202.out) hb);clear BK202;clear HB;have BK202:=n0_;have HB:=n1_;clear n0_ n1_;(try clear hb);(try clear hb2);(try clear hk);(try clear hi)))
  go_ret3
  exact ⟨byac,byad GE202.out⟩
end Go.Proofs.Ytkkbdimegpdbgaa.P
