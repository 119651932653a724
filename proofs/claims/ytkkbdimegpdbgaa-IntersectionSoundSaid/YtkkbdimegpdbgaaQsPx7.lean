/- Functions of the program as Lean functions, and the walks that show that the calls answer so; written by a program of this session (a changed print) and by hand. -/
import Derived.Test.YtkkbdimegpdbgaaQsPx0
import Derived.Test.YtkkbdimegpdbgaaQsPx4
import Derived.Test.YtkkbdimegpdbgaaQsPx5
import Derived.Test.YtkkbdimegpdbgaaQsPx6
namespace Go.Proofs.Ytkkbdimegpdbgaa.P
open Go.RowKit Go.Proofs.YtkkbdimegpdbgaaW.PrintWords Go.Proofs.YtkkbdimegpdbgaaW.PrintLast Go.Proofs.YtkkbdimegpdbgaaW.PrintMore
attribute [local go_sem] kF kD kV kU uJ uK kG kE
set_option linter.unusedVariables false
set_option linter.unusedSimpArgs false
def zT.f : Nat→List (S58)→Int→Int→Option (Int × Int × (List (S28)))
 | 0,_,_,_=>none
 | k + 1,l0_0,a1,a2=>(vH.f k l0_0 a1 a2).bind fun t214=>(if t214 = true then (some (1,0,([] : List (S28)))) else ((jD.f k l0_0 a1).bind fun t215=>(if t215 = true then (some (2,0,([] : List (S28)))) else ((vK.f l0_0).bind fun t216=>((jS.f k l0_0 (Go.bits .andNot .i64 t216 a2)).bind fun t217=>((jU.f k (Go.bits .andNot .i64 t217 a1)).bind fun t218=>(if 0 < (t218.length : Int) then (if 0 ≤ (rd t218 0) then ((zT.f k l0_0 a1 (Go.bits .or .i64 a2 (shl .i64 1 (rd t218 0)))).bind fun bt222=>((zT.f k l0_0 (Go.bits .or .i64 a1 (shl .i64 1 (rd t218 0))) a2).bind fun bt227=>(some (3,rd t218 0,(([(⟨bt222.1,bt222.2.1,bt222.2.2⟩ : S28),(⟨bt227.1,bt227.2.1,bt227.2.2⟩ : S28)] : List (S28))))))) else (none)) else (none))))))))
theorem zT.mono_l : ∀ k,(∀ y0 y1 y2,LeO (zT.f k y0 y1 y2) (zT.f (k + 1) y0 y1 y2))
 | 0=>fun _ _ _ r h=>by simp [zT.f] at h
 | k + 1=>by
  have ih0:=zT.mono_l k
  ·intro y0 y1 y2
   unfold zT.f
   repeat' first
   | (with_reducible exact ih0 _ _ _)
   | (with_reducible exact jS.mono _ _ _)
   | (with_reducible exact jD.mono _ _ _)
   | (with_reducible exact vH.mono _ _ _ _)
   | (with_reducible exact jU.mono _ _)
   | (with_reducible exact LeO.refl _)
   | (with_reducible exact LeO.none _)
   | (with_reducible refine LeO.ite ?_ ?_)
   | (with_reducible refine LeO.bind ?_ (fun _=>?_))
   | exact ih0 _ _ _
   | exact jS.mono _ _ _
   | exact jD.mono _ _ _
   | exact vH.mono _ _ _ _
   | exact jU.mono _ _
   | exact LeO.none _
   | refine LeO.ite ?_ ?_
   | refine LeO.bind ?_ (fun _=>?_)
theorem zT.mono : ∀ a0 a1 a2 k,LeO (zT.f k a0 a1 a2) (zT.f (k + 1) a0 a1 a2):=by
 intro a0 a1 a2 k
 have ih0:=zT.mono_l k
 exact ih0 a0 a1 a2
def zT.T5 : Bool × List (List Nat × List Nat):=(true,[([],[]),([],[]),([1],[1]),([],[]),([2,3],[2,3]),([0,4,2],[0,4]),([],[]),([5,6],[5,6]),([7,5],[7]),([8],[8]),([9],[9]),([10,8,0,1,2,3,4,5,6,7,8,9,10],[10])])
def zT.B5 : List Nat:=[0,0,2,0,14,31,0,127,255,511,1023,2047]
theorem zT.tab5 : rtab .any (opsOf Try.f39 5) = zT.T5:=by kernel_rfl
theorem zT.bits5 : Qv zT.T5.2 zT.B5 = true:=by kernel_rfl
def zT.T6 : Bool × List (List Nat × List Nat):=(true,[([],[]),([],[]),([],[]),([],[]),([],[]),([4],[4]),([3,5],[3,5]),([1,2,6],[1,2,6]),([],[]),([],[]),([],[]),([10],[10]),([9,11],[9,11]),([],[]),([8,12,13,7],[8,12,13]),([7,14],[7,14]),([0,15],[0,15]),([16,14,0,1,2,3,4,5,6,7,8,9,10,11,12,13,14,15,16],[16])])
def zT.B6 : List Nat:=[0,0,0,0,0,16,56,126,0,0,0,1024,3584,0,16382,32766,65535,131071]
theorem zT.tab6 : rtab .any (opsOf Try.f39 6) = zT.T6:=by kernel_rfl
theorem zT.bits6 : Qv zT.T6.2 zT.B6 = true:=by kernel_rfl
set_option maxHeartbeats 8000000 in
set_option maxRecDepth 100000 in
theorem zT.calls (k : Nat) : ∀ (A0_0 : Option Addr) (c0_0 : Nat) (l0_0 : List (S58)) (a1 : Int) (a2 : Int) (r1 : Int) (r2 : Int) (r3 : List (S28)) (w : World) (hr0_0 : Kd.C k58 w A0_0 l0_0.length l0_0) (hc0_0 : l0_0.length ≤ c0_0) (h : zT.f k l0_0 a1 a2 = some (r1,r2,r3)),
  Calls Try.prog 39 #[.agg #[.slice A0_0 l0_0.length c0_0],.int .i64 a1,.int .i64 a2] w fun e w'=>∃ v2_ : Value,e = .returned (.agg #[.int .i64 r1,.int .i64 r2,v2_])∧Kd.N k28 28 w' w.heap.size (fun k_=>(w.heap.size ≤ k_)) v2_ r3∧Below w.heap.size w w':=by
 induction k using Nat.strongRecOn with
 | _ k ih =>
 intro A0_0 c0_0 l0_0 a1 a2 r1 r2 r3 w hr0_0 hc0_0 h
 cases k with
 | zero=>exact absurd h (by simp [zT.f])
 | succ k =>
 simp only [zT.f] at h
 have hu25:=Try.underlying25
 have hu28:=Try.underlying28
 have HR0_0:=qA.mk hr0_0
 have HC0_0:=qA.mk hc0_0
 clear hr0_0 hc0_0
 have HB:=qA.mk (Below.refl w.heap.size w)
 have H:=h
 clear h
 replace H:=Option.bind_eq_some_iff.mp H
 obtain ⟨t214,A40,H⟩:=H
 try dsimp only at H
 have A4:=qA.mk A40
 clear A40
 by_cases c5 : t214 = true
 ·subst c5
  rw [if_pos rfl] at H
  simp only [Option.some.injEq,Prod.mk.injEq] at H
  obtain ⟨rfl,rfl,rfl⟩:=H
  go_enter Try.func39,Try.ntmps39
  go_wp2_with (first|((with_reducible refine qP (N:=3) rfl ?_);refine zV (N:=3) (cs:=#[.slice A0_0 l0_0.length c0_0]) (t:=25) ?_;intro gb212 hg w6 hbox hb;have n_:=q_4 (qC byab hb) (hbox) ((byck : w.heap.size ≤ gb212)) ((byck : w.heap.size ≤ gb212));clear HB;obtain ⟨HB,BK212,GW212,GE212⟩:=n_;clear hb hbox hg)|((with_reducible refine qP (N:=6) rfl ?_);refine zV (N:=6) (cs:=#[.int .i64 0,.int .i64 0,.slice none 0 0]) (t:=28) ?_;intro gb213 hg w7 hbox hb;have n_:=q_6 (qH BK212.out hb) (qC (byad GE212.out) hb) (hbox) ((bycl GE212.out : w.heap.size ≤ gb213)) ((bycl GE212.out : w.heap.size ≤ gb213)) ((by rw [hg];exact Nat.ne_of_lt (vF BK212.out) : gb212≠gb213));clear BK212 HB;obtain ⟨BK212,HB,BK213,GW213,GE213,NB212_213⟩:=n_;have NB213_212:=ns NB212_213;clear hb hbox hg;have hnb8:=NB212_213.out;have hnc8:=NB213_212.out;obtain ⟨hcz9_0,hfz9_0⟩:=cz1 BK212.out)|((with_reducible refine qI (f:=59) rfl ?_);refine qY (some 11) rfl rfl Try.func59 (by kernel_rfl) rfl #[.agg #[.slice A0_0 l0_0.length c0_0],.int .i64 a1,.int .i64 a2] rfl byah ?_;(with_reducible refine (vH.calls k _ _ l0_0 a1 a2 true _ ?side1 ?side2 A4.out).mono ?_);(case side1=>exact byaq HR0_0.out);(case side2=>exact HC0_0.out);rintro e w10 ⟨rfl,hb⟩;refine ⟨_,rfl,?_⟩;have n_:=q_3 (qH BK212.out hb) (qH BK213.out hb) (qC (byaj GE212.out GE213.out) hb);clear BK212 BK213 HB;obtain ⟨BK212,BK213,HB⟩:=n_;clear hb;obtain ⟨hcz11_0,hcz11_1,hcz11_2,hfz11_0,hfz11_1,hfz11_2⟩:=cz3 BK213.out))
  refine bodyPost_ret (results_cell_row rfl _ _ gb213 28 #[.int .i64 1,.int .i64 0,.slice none 0 0] (0,0) _ rfl (byax BK213.out) Try.underlying28 rfl (by kernel_rfl)) rfl ?_
  exact ⟨_,byac,byau,byaj GE212.out GE213.out⟩
 ·replace c5:=Bool.eq_false_iff.mpr c5
  subst c5
  rw [if_neg (show ¬ (false = true) by decide)] at H
  replace H:=Option.bind_eq_some_iff.mp H
  obtain ⟨t215,A120,H⟩:=H
  try dsimp only at H
  have A12:=qA.mk A120
  clear A120
  by_cases c13 : t215 = true
  ·subst c13
   rw [if_pos rfl] at H
   simp only [Option.some.injEq,Prod.mk.injEq] at H
   obtain ⟨rfl,rfl,rfl⟩:=H
   go_enter Try.func39,Try.ntmps39
   go_wp2_with (first|((with_reducible refine qP (N:=3) rfl ?_);refine zV (N:=3) (cs:=#[.slice A0_0 l0_0.length c0_0]) (t:=25) ?_;intro gb212 hg w14 hbox hb;have n_:=q_4 (qC byab hb) (hbox) ((byck : w.heap.size ≤ gb212)) ((byck : w.heap.size ≤ gb212));clear HB;obtain ⟨HB,BK212,GW212,GE212⟩:=n_;clear hb hbox hg)|((with_reducible refine qP (N:=6) rfl ?_);refine zV (N:=6) (cs:=#[.int .i64 0,.int .i64 0,.slice none 0 0]) (t:=28) ?_;intro gb213 hg w15 hbox hb;have n_:=q_6 (qH BK212.out hb) (qC (byad GE212.out) hb) (hbox) ((bycl GE212.out : w.heap.size ≤ gb213)) ((bycl GE212.out : w.heap.size ≤ gb213)) ((by rw [hg];exact Nat.ne_of_lt (vF BK212.out) : gb212≠gb213));clear BK212 HB;obtain ⟨BK212,HB,BK213,GW213,GE213,NB212_213⟩:=n_;have NB213_212:=ns NB212_213;clear hb hbox hg;have hnb16:=NB212_213.out;have hnc16:=NB213_212.out;obtain ⟨hcz17_0,hfz17_0⟩:=cz1 BK212.out)|((with_reducible refine qI (f:=59) rfl ?_);refine qY (some 11) rfl rfl Try.func59 (by kernel_rfl) rfl #[.agg #[.slice A0_0 l0_0.length c0_0],.int .i64 a1,.int .i64 a2] rfl byah ?_;(with_reducible refine (vH.calls k _ _ l0_0 a1 a2 false _ ?side1 ?side2 A4.out).mono ?_);(case side1=>exact byaq HR0_0.out);(case side2=>exact HC0_0.out);rintro e w18 ⟨rfl,hb⟩;refine ⟨_,rfl,?_⟩;have n_:=q_3 (qH BK212.out hb) (qH BK213.out hb) (qC (byaj GE212.out GE213.out) hb);clear BK212 BK213 HB;obtain ⟨BK212,BK213,HB⟩:=n_;clear hb;obtain ⟨hcz19_0,hfz19_0⟩:=cz1 BK212.out)|((with_reducible refine qI (f:=60) rfl ?_);refine qY (some 15) rfl rfl Try.func60 (by kernel_rfl) rfl #[.agg #[.slice A0_0 l0_0.length c0_0],.int .i64 a1] rfl byah ?_;(with_reducible refine (jD.calls k _ _ l0_0 a1 true _ ?side1 ?side2 A12.out).mono ?_);(case side1=>exact byaq HR0_0.out);(case side2=>exact HC0_0.out);rintro e w20 ⟨rfl,hb⟩;refine ⟨_,rfl,?_⟩;have n_:=q_3 (qH BK212.out hb) (qH BK213.out hb) (qC (byaj GE212.out GE213.out) hb);clear BK212 BK213 HB;obtain ⟨BK212,BK213,HB⟩:=n_;clear hb;obtain ⟨hcz21_0,hcz21_1,hcz21_2,hfz21_0,hfz21_1,hfz21_2⟩:=cz3 BK213.out))
   refine bodyPost_ret (results_cell_row rfl _ _ gb213 28 #[.int .i64 2,.int .i64 0,.slice none 0 0] (0,0) _ rfl (byay BK213.out) Try.underlying28 rfl (by kernel_rfl)) rfl ?_
   exact ⟨_,byac,byau,byaj GE212.out GE213.out⟩
  ·replace c13:=Bool.eq_false_iff.mpr c13
   subst c13
   rw [if_neg (show ¬ (false = true) by decide)] at H
   replace H:=Option.bind_eq_some_iff.mp H
   obtain ⟨t216,A220,H⟩:=H
   try dsimp only at H
   have A22:=qA.mk A220
   clear A220
   replace H:=Option.bind_eq_some_iff.mp H
   obtain ⟨t217,A230,H⟩:=H
   try dsimp only at H
   have A23:=qA.mk A230
   clear A230
   replace H:=Option.bind_eq_some_iff.mp H
   obtain ⟨t218,A240,H⟩:=H
   try dsimp only at H
   have A24:=qA.mk A240
   clear A240
   by_cases c25 : 0 < (t218.length : Int)
   ·rw [if_pos c25] at H
    have c25b0:=decide_eq_true c25
    have c25b1 : decide (0 < t218.length) = true:=decide_eq_true (by omega)
    clear c25
    by_cases c26 : 0 ≤ (rd t218 0)
    ·rw [if_pos c26] at H
     have c26b0:=eq_true c26
     have c26b1:=decide_eq_true c26
     clear c26
     obtain ⟨ji27,hji27⟩ : ∃ j_ : Int,(shl .i64 1 (rd t218 0)) = j_:=⟨_,rfl⟩
     (first|rw [hji27] at H|(simp only [hji27] at H))
     (try rw [hji27] at A4)
     (try rw [hji27] at A12)
     (try rw [hji27] at A22)
     (try rw [hji27] at A23)
     (try rw [hji27] at A24)
     obtain ⟨hji27_,hji27z,hji27u,hji27v,hji27y,hji27x⟩:=jiA hji27
     replace H:=Option.bind_eq_some_iff.mp H
     obtain ⟨⟨t222,t223,t224⟩,A280,H⟩:=H
     try dsimp only at H
     have A28:=qA.mk A280
     clear A280
     have c29b0:=eq_true (of_decide_eq_true byag : 0 ≤ (rd t218 0))
     replace H:=Option.bind_eq_some_iff.mp H
     obtain ⟨⟨t227,t228,t229⟩,A310,H⟩:=H
     try dsimp only at H
     have A31:=qA.mk A310
     clear A310
     obtain ⟨y232,hy232⟩ : ∃ y_ : List (S28),y_ = (([(⟨t222,t223,t224⟩ : S28),(⟨t227,t228,t229⟩ : S28)] : List (S28))):=⟨_,rfl⟩
     replace H : (some (3,rd t218 0,y232)) = some (r1,r2,r3):=by first|(rw [hy232];with_reducible exact H)|(have H2_:=(Option.bind_some _ _).symm.trans H;rw [hy232];with_reducible exact H2_)|(have H2_:=(Option.bind_some _ _).symm.trans H;with_reducible exact H2_)|with_reducible exact H|(rw [hy232];exact H)|exact H
     have Ny232:=qA.mk hy232
     clear hy232
     simp only [Option.some.injEq,Prod.mk.injEq] at H
     obtain ⟨rfl,rfl,rfl⟩:=H
     go_enter Try.func39,Try.ntmps39
     try go_wp2_with (first|((with_reducible refine qP (N:=3) rfl ?_);refine zV (N:=3) (cs:=#[.slice A0_0 l0_0.length c0_0]) (t:=25) ?_;intro gb212 hg w32 hbox hb;have n_:=q_4 (qC byab hb) (hbox) ((byck : w.heap.size ≤ gb212)) ((byck : w.heap.size ≤ gb212));clear HB;obtain ⟨HB,BK212,GW212,GE212⟩:=n_;clear hb hbox hg)|((with_reducible refine qP (N:=6) rfl ?_);refine zV (N:=6) (cs:=#[.int .i64 0,.int .i64 0,.slice none 0 0]) (t:=28) ?_;intro gb213 hg w33 hbox hb;have n_:=q_6 (qH BK212.out hb) (qC (byad GE212.out) hb) (hbox) ((bycl GE212.out : w.heap.size ≤ gb213)) ((bycl GE212.out : w.heap.size ≤ gb213)) ((by rw [hg];exact Nat.ne_of_lt (vF BK212.out) : gb212≠gb213));clear BK212 HB;obtain ⟨BK212,HB,BK213,GW213,GE213,NB212_213⟩:=n_;have NB213_212:=ns NB212_213;clear hb hbox hg;have hnb34:=NB212_213.out;have hnc34:=NB213_212.out;obtain ⟨hcz35_0,hfz35_0⟩:=cz1 BK212.out)|((with_reducible refine qI (f:=59) rfl ?_);refine qY (some 11) rfl rfl Try.func59 (by kernel_rfl) rfl #[.agg #[.slice A0_0 l0_0.length c0_0],.int .i64 a1,.int .i64 a2] rfl byah ?_;(with_reducible refine (vH.calls k _ _ l0_0 a1 a2 false _ ?side1 ?side2 A4.out).mono ?_);(case side1=>exact byaq HR0_0.out);(case side2=>exact HC0_0.out);rintro e w36 ⟨rfl,hb⟩;refine ⟨_,rfl,?_⟩;have n_:=q_3 (qH BK212.out hb) (qH BK213.out hb) (qC (byaj GE212.out GE213.out) hb);clear BK212 BK213 HB;obtain ⟨BK212,BK213,HB⟩:=n_;clear hb;obtain ⟨hcz37_0,hfz37_0⟩:=cz1 BK212.out)|((with_reducible refine qI (f:=60) rfl ?_);refine qY (some 15) rfl rfl Try.func60 (by kernel_rfl) rfl #[.agg #[.slice A0_0 l0_0.length c0_0],.int .i64 a1] rfl byah ?_;(with_reducible refine (jD.calls k _ _ l0_0 a1 false _ ?side1 ?side2 A12.out).mono ?_);(case side1=>exact byaq HR0_0.out);(case side2=>exact HC0_0.out);rintro e w38 ⟨rfl,hb⟩;refine ⟨_,rfl,?_⟩;have n_:=q_3 (qH BK212.out hb) (qH BK213.out hb) (qC (byaj GE212.out GE213.out) hb);clear BK212 BK213 HB;obtain ⟨BK212,BK213,HB⟩:=n_;clear hb))
     have n_:=q_3 (qG BK212.out) (qG BK213.out) (vI HB.out)
     clear BK212 BK213 HB
     obtain ⟨BK212,BK213,HB⟩:=n_
     refine Qm (n:=12) (S:=fun w'=>w'.cell? ⟨gb212,0,none⟩ = some (.slice A0_0 l0_0.length c0_0)) (ds:=[]) (bb 12 0) (by kernel_rfl) rfl rfl ((qN BK212.out 0).trans rfl) (fun hHeld=>?_);refine Qb zT.tab5 zT.bits5 (fun HT_ HW_=>?_)
     generalize w38.drew = w39 at BK212 BK213 HB hHeld ⊢
     refine zH (i:=3) (N:=some 20) (bb 12 8) ?_
     refine zH (i:=6) (N:=some 23) (bb 12 72) ?_
     refine takeZC (i:=0) (N:=some 17) (bb 12 73) hHeld ?_
     refine takeZC (i:=1) (N:=some 18) (bb 12 75) hHeld ?_
     refine one_ (i:=2) (N:=some 19) (bb 12 79) rfl rfl (kC HT_.out (by kernel_rfl)) (by decide) (fun K hK=>?_)
     refine Qg Try.func53 (by kernel_rfl) rfl #[.agg #[.slice A0_0 l0_0.length c0_0]] (by rfl) rfl rfl byah ?_
     with_reducible refine (vK.calls _ _ l0_0 t216 _ ?side1 ?side2 A22.out).mono ?_
     (case side1=>exact byaq HR0_0.out)
     (case side2=>exact HC0_0.out)
     rintro e w40 ⟨rfl,hb⟩
     refine ⟨_,rfl,?_⟩
     have n_:=q_3 (qH BK212.out hb) (qH BK213.out hb) (qC (byaj GE212.out GE213.out) hb)
     clear BK212 BK213 HB
     obtain ⟨BK212,BK213,HB⟩:=n_
     (try clear hb)
     (try clear hb2)
     (try clear hk)
     (try clear hi)
     refine hK.out _ _ ((qN BK212.out 0).trans rfl) (fun hHeld=>?_)
     clear hK K
     refine kN (N:=some 19) ?_
     refine zH (i:=4) (N:=some 21) (bb 12 95) ?_
     refine one_ (i:=5) (N:=some 22) (bb 12 127) rfl rfl (kC HT_.out (by kernel_rfl)) (by decide) (fun K hK=>?_)
     refine Qg Try.func52 (by kernel_rfl) rfl #[.agg #[.slice A0_0 l0_0.length c0_0],.int .i64 (Go.bits .andNot .i64 t216 a2)] (by rfl) rfl rfl byah ?_
     with_reducible refine (jS.calls k _ _ l0_0 (Go.bits .andNot .i64 t216 a2) t217 _ ?side1 ?side2 A23.out).mono ?_
     (case side1=>exact byaq HR0_0.out)
     (case side2=>exact HC0_0.out)
     rintro e w41 ⟨rfl,hb⟩
     refine ⟨_,rfl,?_⟩
     have n_:=q_3 (qH BK212.out hb) (qH BK213.out hb) (qC (byaj GE212.out GE213.out) hb)
     clear BK212 BK213 HB
     obtain ⟨BK212,BK213,HB⟩:=n_
     (try clear hb)
     (try clear hb2)
     (try clear hk)
     (try clear hi)
     refine hK.out _ _ ((qN BK212.out 0).trans rfl) (fun hHeld=>?_)
     clear hK K
     refine kN (N:=some 22) ?_
     refine zH (i:=7) (N:=some 24) (bb 12 255) ?_
     refine one_ (i:=8) (N:=some 25) (bb 12 511) rfl rfl (kC HT_.out (by kernel_rfl)) (by decide) (fun K hK=>?_)
     refine Qg Try.func61 (by kernel_rfl) rfl #[.int .i64 (Go.bits .andNot .i64 t217 a1)] (by rfl) rfl rfl byah ?_
     with_reducible refine (jU.calls k (Go.bits .andNot .i64 t217 a1) t218 _ A24.out).mono ?_
     rintro e w42 ⟨v219,rfl,ho0,hb⟩
     refine ⟨_,rfl,?_⟩
     have n_:=q_4 (Kd.uZ (Kd.R_newM (M:=fun k_=>(w.heap.size ≤ k_)) ho0 (jX (byaj GE212.out GE213.out)) (fun k_ h_=>h_)) (jX (byaj GE212.out GE213.out))) (qH BK212.out hb) (qH BK213.out hb) (qC (byaj GE212.out GE213.out) hb)
     clear BK212 BK213 HB
     obtain ⟨HO220,BK212,BK213,HB⟩:=n_
     (try clear hb)
     (try clear hb2)
     (try clear hk)
     (try clear hi)
     (try clear ho0)
     obtain ⟨Ao43,co43,eo43⟩:=Kd.vJ HO220.out
     (first|subst eo43|(injection eo43 with f1_ f2_ f3_;have f4_:=f1_.symm;have f5_:=f3_.symm;clear f1_ f2_ f3_;subst f4_;subst f5_))
     have p221 : 0 ≤ (0 : Int):=(by omega)
     have q221 : 0 < (t218.length : Int):=of_decide_eq_true byag
     obtain ⟨ad221,e221,hx221_0⟩:=Kd.kW (Kd.uM HO220.out).2.2 0 p221 q221
     cases e221
     have qi221 : (0 < t218.length) = True:=eq_true (by omega)
     (try rw [show ((0 : Int)).toNat = 0 from rfl] at hx221_0)
     (try rw [Addr.add_zero'] at hx221_0)
     replace p221:=eq_true p221
     replace q221:=eq_true q221
     refine hK.out _ _ ((qN BK212.out 0).trans rfl) (fun hHeld=>?_)
     clear hK K
     refine kN (N:=some 25) ?_
     refine zH (i:=9) (N:=some 26) (bb 12 1023) ?_
     refine one_ (i:=10) (N:=some 27) (bb 12 2047) rfl rfl (kC HT_.out (by kernel_rfl)) (by decide) (fun K hK=>?_)
     refine event_step (v:=.int .i64 (rd t218 0)) rfl (by go_simp;first|done|with_reducible rfl|rfl) ?_
     refine hK.out _ _ ((qN BK212.out 0).trans rfl) (fun hHeld=>?_)
     clear hK K
     refine kN (N:=some 27) ?_
     refine zH (i:=11) (N:=some 7) (bb 12 4095) ?_
     refine Ze (Qz HT_.out (by kernel_rfl)) ?_
     try go_wp2
     have n_:=q_4 (Kd.jZ HO220.out) (qG BK212.out) (qG BK213.out) (vI HB.out)
     clear HO220 BK212 BK213 HB
     obtain ⟨HO220,BK212,BK213,HB⟩:=n_
     refine Qm (n:=18) (S:=fun w'=>w'.cell? ⟨gb212,0,none⟩ = some (.slice A0_0 l0_0.length c0_0)) (ds:=[]) (bb 18 0) (by kernel_rfl) rfl rfl ((qN BK212.out 0).trans rfl) (fun hHeld=>?_);refine Qb zT.tab6 zT.bits6 (fun HT_ HW_=>?_)
     generalize w42.drew = w44 at HO220 BK212 BK213 HB hHeld ⊢
     refine zH (i:=0) (N:=some 28) (bb 18 1) ?_
     refine zH (i:=2) (N:=some 30) (bb 18 5) ?_
     refine zH (i:=3) (N:=some 31) (bb 18 13) ?_
     refine zH (i:=4) (N:=some 32) (bb 18 29) ?_
     refine zH (i:=5) (N:=some 33) (bb 18 61) ?_
     refine zH (i:=6) (N:=some 34) (bb 18 125) ?_
     refine zH (i:=9) (N:=some 37) (bb 18 637) ?_
     refine zH (i:=10) (N:=some 38) (bb 18 1661) ?_
     refine zH (i:=11) (N:=some 39) (bb 18 3709) ?_
     refine zH (i:=12) (N:=some 40) (bb 18 7805) ?_
     refine zH (i:=13) (N:=some 41) (bb 18 15997) ?_
     refine takeZC (i:=1) (N:=some 29) (bb 18 15999) hHeld ?_
     refine takeZC (i:=8) (N:=some 36) (bb 18 16255) hHeld ?_
     refine one_ (i:=7) (N:=some 35) (bb 18 16383) rfl rfl (kC HT_.out (by kernel_rfl)) (by decide) (fun K hK=>?_)
     refine Qg Try.func39 (by kernel_rfl) rfl #[.agg #[.slice A0_0 l0_0.length c0_0],.int .i64 a1,.int .i64 (Go.bits .or .i64 a2 (ji27))] (by rfl) rfl rfl byaz ?_
     with_reducible refine (ih k (by omega) _ _ l0_0 a1 (Go.bits .or .i64 a2 (ji27)) t222 t223 t224 _ ?side1 ?side2 A28.out).mono ?_
     (case side1=>exact byaq HR0_0.out)
     (case side2=>exact HC0_0.out)
     rintro e w45 ⟨v225,rfl,ho0,hb⟩
     refine ⟨_,rfl,?_⟩
     have n_:=q_5 (Kd.uP (byav HO220.out) hb) (Kd.Zr (Kd.vX (ok':=fun k_=>(w.heap.size ≤ k_)∧some k_≠(.slice (some ad221) t218.length co43 : Value).ownBlock∧k_≠gb212∧k_≠gb213) ho0 (fun k_ hk_=>⟨(Nat.le_trans (jX (byaj GE212.out GE213.out)) hk_),(Kd.fresh' (Kd.R_lt (byav HO220.out)) k_ hk_),(Kd.Qd (g:=gb212) (o:=.cells #[.slice A0_0 l0_0.length c0_0] 25 (0,0)) (byaf BK212.out) k_ hk_),(Kd.Qd (g:=gb213) (o:=.cells #[.int .i64 0,.int .i64 0,.slice none 0 0] 28 (0,0)) (byaf BK213.out) k_ hk_)⟩)) (jX (byaj GE212.out GE213.out))) (qH BK212.out hb) (qH BK213.out hb) (qC (byaj GE212.out GE213.out) hb)
     clear HO220 BK212 BK213 HB
     obtain ⟨HO220,HO226,BK212,BK213,HB⟩:=n_
     (try clear hb)
     (try clear hb2)
     (try clear hk)
     (try clear hi)
     (try clear ho0)
     refine hK.out _ _ ((qN BK212.out 0).trans rfl) (fun hHeld=>?_)
     clear hK K
     refine kN (N:=some 35) ?_
     refine one_ (i:=14) (N:=some 42) (bb 18 32767) rfl rfl (kC HT_.out (by kernel_rfl)) (by decide) (fun K hK=>?_)
     refine Qg Try.func39 (by kernel_rfl) rfl #[.agg #[.slice A0_0 l0_0.length c0_0],.int .i64 (Go.bits .or .i64 a1 (ji27)),.int .i64 a2] (by rfl) rfl rfl byaz ?_
     with_reducible refine (ih k (by omega) _ _ l0_0 (Go.bits .or .i64 a1 (ji27)) a2 t227 t228 t229 _ ?side1 ?side2 A31.out).mono ?_
     (case side1=>exact byaq HR0_0.out)
     (case side2=>exact HC0_0.out)
     rintro e w46 ⟨v230,rfl,ho0,hb⟩
     refine ⟨_,rfl,?_⟩
     have n_:=q_6 (Kd.uP (byav HO220.out) hb) (Kd.Zk (byba HO226.out) (Kd.N_base ho0) hb) (Kd.Zr (Kd.vX (ok':=fun k_=>(w.heap.size ≤ k_)∧some k_≠(.slice (some ad221) t218.length co43 : Value).ownBlock∧some k_≠(v225 : Value).ownBlock∧k_≠gb212∧k_≠gb213) ho0 (fun k_ hk_=>⟨(Nat.le_trans (jX (byaj GE212.out GE213.out)) hk_),(Kd.fresh' (Kd.R_lt (byav HO220.out)) k_ hk_),(Kd.fresh' (Kd.N_lt (byba HO226.out)) k_ hk_),(Kd.Qd (g:=gb212) (o:=.cells #[.slice A0_0 l0_0.length c0_0] 25 (0,0)) (byaf BK212.out) k_ hk_),(Kd.Qd (g:=gb213) (o:=.cells #[.int .i64 0,.int .i64 0,.slice none 0 0] 28 (0,0)) (byaf BK213.out) k_ hk_)⟩)) (jX (byaj GE212.out GE213.out))) (qH BK212.out hb) (qH BK213.out hb) (qC (byaj GE212.out GE213.out) hb)
     clear HO220 HO226 BK212 BK213 HB
     obtain ⟨HO220,HO226,HO231,BK212,BK213,HB⟩:=n_
     (try clear hb)
     (try clear hb2)
     (try clear hk)
     (try clear hi)
     (try clear ho0)
     obtain ⟨Ao47,co47,eo47⟩:=Kd.Zn HO226.out
     (first|subst eo47|(injection eo47 with f1_ f2_ f3_;have f4_:=f1_.symm;have f5_:=f3_.symm;clear f1_ f2_ f3_;subst f4_;subst f5_))
     obtain ⟨Ao48,co48,eo48⟩:=Kd.Zn HO231.out
     (first|subst eo48|(injection eo48 with f1_ f2_ f3_;have f4_:=f1_.symm;have f5_:=f3_.symm;clear f1_ f2_ f3_;subst f4_;subst f5_))
     refine hK.out _ _ ((qN BK212.out 0).trans rfl) (fun hHeld=>?_)
     clear hK K
     refine kN (N:=some 42) ?_
     refine one_ (i:=15) (N:=some 43) (bb 18 65535) rfl rfl (kC HT_.out (by kernel_rfl)) (by decide) (fun K hK=>?_)
     refine Kd.N_lit_step k28 _ 28 ?hg (N':=43) ?hd (xs:=([(⟨t222,t223,t224⟩ : S28),(⟨t227,t228,t229⟩ : S28)] : List (S28))) (inner:=[.int .i64 t222,.int .i64 t223,.slice Ao47 t224.length co47,.int .i64 t227,.int .i64 t228,.slice Ao48 t229.length co48]) (ok:=(fun k_=>(w.heap.size ≤ k_)∧some k_≠(.slice (some ad221) t218.length co43 : Value).ownBlock∧k_≠gb212∧k_≠gb213)) (okp:=(fun k_=>(w.heap.size ≤ k_)∧some k_≠(.slice (some ad221) t218.length co43 : Value).ownBlock∧k_≠gb212∧k_≠gb213)) ?hr ?hp (fun _ hk=>hk) ((show ∀ k_,w46.heap.size ≤ k_→(fun k_=>(w.heap.size ≤ k_)∧some k_≠(.slice (some ad221) t218.length co43 : Value).ownBlock∧k_≠gb212∧k_≠gb213) k_ from fun k_ hk=>⟨(Nat.le_trans (jX (byaj GE212.out GE213.out)) hk),Kd.fresh' (Kd.R_lt (byav HO220.out)) k_ hk,Kd.Qd (g:=gb212) (o:=.cells #[.slice A0_0 l0_0.length c0_0] 25 (0,0)) (byaf BK212.out) k_ hk,Kd.Qd (g:=gb213) (o:=.cells #[.int .i64 0,.int .i64 0,.slice none 0 0] 28 (0,0)) (byaf BK213.out) k_ hk⟩) _ (Nat.le_refl _)) (Below.refl _ _) (Nat.le_refl _) (by simp) ?_;(case hd=>rfl);(case hg=>rfl);(case hr=>exact byaa);(case hp=>exact (Reps.c3 (show Kd.FK k28 _ _ (⟨t222,t223,t224⟩ : S28) [.int .i64 t222,.int .i64 t223,.slice Ao47 t224.length co47] from (k28_mkF _ _ (⟨t222,t223,t224⟩ : S28) (Kd.Qj (Kd.vX (ok':=(fun k_=>(w.heap.size ≤ k_)∧some k_≠(.slice (some ad221) t218.length co43 : Value).ownBlock∧k_≠gb212∧k_≠gb213)) (HO226.out) (fun k_ hk=>⟨hk.1.1,⟨hk.1.2.1,⟨hk.1.2.2.1,hk.1.2.2.2⟩⟩⟩))).2.1 (Kd.N_F (Kd.vX (ok':=(fun k_=>(w.heap.size ≤ k_)∧some k_≠(.slice (some ad221) t218.length co43 : Value).ownBlock∧k_≠gb212∧k_≠gb213)) (HO226.out) (fun k_ hk=>⟨hk.1.1,⟨hk.1.2.1,⟨hk.1.2.2.1,hk.1.2.2.2⟩⟩⟩))))) (Reps.c3 (show Kd.FK k28 _ _ (⟨t227,t228,t229⟩ : S28) [.int .i64 t227,.int .i64 t228,.slice Ao48 t229.length co48] from (k28_mkF _ _ (⟨t227,t228,t229⟩ : S28) (Kd.Qj (Kd.vX (ok':=(fun k_=>(w.heap.size ≤ k_)∧some k_≠(.slice (some ad221) t218.length co43 : Value).ownBlock∧k_≠gb212∧k_≠gb213)) (HO231.out) (fun k_ hk=>⟨hk.1,⟨hk.2.1,⟨hk.2.2.2.1,hk.2.2.2.2⟩⟩⟩))).2.1 (Kd.N_F (Kd.vX (ok':=(fun k_=>(w.heap.size ≤ k_)∧some k_≠(.slice (some ad221) t218.length co43 : Value).ownBlock∧k_≠gb212∧k_≠gb213)) (HO231.out) (fun k_ hk=>⟨hk.1,⟨hk.2.1,⟨hk.2.2.2.1,hk.2.2.2.2⟩⟩⟩))))) (Reps.none _ _))))
     intro v233 w49 ho50 hb hg_ hnew_
     clear hg_ hnew_
     (first|rw [← Ny232.out] at ho50|(simp only [Int.reduceToNat] at ho50;rw [← Ny232.out] at ho50))
     have n_:=q_5 (Kd.uP (byav HO220.out) hb) (Kd.Zr ho50 (jX (byaj GE212.out GE213.out))) (qH BK212.out hb) (qH BK213.out hb) (qC (byaj GE212.out GE213.out) hb)
     clear HO220 BK212 BK213 HB HO226 HO231
     obtain ⟨HO220,HO234,BK212,BK213,HB⟩:=n_
     clear hb ho50
     obtain ⟨Ao51,co51,eo51⟩:=Kd.Zn HO234.out
     (first|subst eo51|(injection eo51 with f1_ f2_ f3_;have f4_:=f1_.symm;have f5_:=f3_.symm;clear f1_ f2_ f3_;subst f4_;subst f5_))
     refine hK.out _ _ ((qN BK212.out 0).trans rfl) (fun hHeld=>?_)
     clear hK K
     refine kN (N:=some 43) ?_
     refine zH (i:=16) (N:=some 44) (bb 18 131071) ?_
     refine one_ (i:=17) (N:=none) (bb 18 262143) rfl rfl (kC HT_.out (by kernel_rfl)) (by decide) (fun K hK=>?_)
     have hs52 : w49.cell? ⟨gb213,0,none⟩ = some (.int .i64 0):=(qN BK213.out 0).trans rfl
     have hfs52:=kJ BK213.out 0
     have hns52_0:=NB212_213.out
     have hms52_0:=NB213_212.out
     have hs53 : w49.cell? ⟨gb213,1,none⟩ = some (.int .i64 0):=(qN BK213.out 1).trans rfl
     have hfs53:=kJ BK213.out 1
     have hns53_0:=NB212_213.out
     have hms53_0:=NB213_212.out
     have hs54 : w49.cell? ⟨gb213,2,none⟩ = some (.slice none 0 0):=(qN BK213.out 2).trans rfl
     have hfs54:=kJ BK213.out 2
     have hns54_0:=NB212_213.out
     have hms54_0:=NB213_212.out
     refine skip_ (w1:=?_) (by rfl) rfl ?_ ?_
     rotate_left
     ·go_simp
      rfl
     refine hK.out _ _ (((cell_far (p:=⟨gb213,_,none⟩) NB212_213.out _).trans (((cell_far (p:=⟨gb213,_,none⟩) NB212_213.out _).trans (((cell_far (p:=⟨gb213,_,none⟩) NB212_213.out _).trans (hHeld))))))) (fun hHeld=>?_)
     clear hK K
     refine Ze (Qz HT_.out (by kernel_rfl)) ?_
     try go_wp2
     refine bodyPost_ret (results_cell_row rfl _ _ gb213 28 #[.int .i64 3,.int .i64 (rd t218 0),.slice Ao51 y232.length co51] (0,0) _ rfl (by (with_reducible repeat (first|refine qF ?_ _|refine qG ?_|refine qE ?_ _));refine qO (cs:=#[.int .i64 3,.int .i64 (rd t218 0),.slice none 0 0]) ?_ 2 _ rfl;(with_reducible repeat (first|refine qF ?_ _|refine qG ?_|refine qE ?_ _));refine qO (cs:=#[.int .i64 3,.int .i64 0,.slice none 0 0]) ?_ 1 _ rfl;(with_reducible repeat (first|refine qF ?_ _|refine qG ?_|refine qE ?_ _));refine qO (cs:=#[.int .i64 0,.int .i64 0,.slice none 0 0]) ?_ 0 _ rfl;(with_reducible repeat (first|refine qF ?_ _|refine qG ?_|refine qE ?_ _));exact BK213.out) Try.underlying28 rfl (by kernel_rfl)) rfl ?_
     exact ⟨_,by first|rfl|(simp [uC,uD]<;>rfl)|(simp only [← hji27];first|rfl|(simp [uC,uD]<;>rfl))|(simp [*,uC,uD]<;>rfl),by (with_reducible repeat (first|apply Kd.Qq|apply Kd.Qo|apply Kd.Qs));exact Kd.vX (Kd.kY (p:=⟨gb213,2,none⟩) (Kd.kY (p:=⟨gb213,1,none⟩) (Kd.kY (p:=⟨gb213,0,none⟩) (Kd.vX HO234.out (fun k_ hk=>(⟨hk,hk.2.2.2⟩ : _∧k_≠gb213))) (fun _ hk=>hk.2) (.int .i64 3)) (fun _ hk=>hk.2) (.int .i64 (rd t218 0))) (fun _ hk=>hk.2) (.slice Ao51 y232.length co51)) (fun _ hk=>hk.1.1),byaj GE212.out GE213.out⟩
    ·rw [if_neg c26] at H
     exact absurd H (by simp)
   ·rw [if_neg c25] at H
    exact absurd H (by simp)
def uT.f (k : Nat) (l0_0 : List (S58)) : Option (Int × Int × (List (S28)) × Int):=(vS.f k l0_0).bind fun bt237=>(if bt237.2 = 0 then (if bt237.1 = true then ((zT.f k l0_0 0 0).bind fun bt239=>(some (bt239.1,bt239.2.1,bt239.2.2,0))) else (some (0,0,([] : List (S28)),11))) else (some (0,0,([] : List (S28)),bt237.2)))
theorem uT.mono : ∀ a0 k,LeO (uT.f k a0) (uT.f (k + 1) a0):=by
 intro a0 k
 unfold uT.f
 repeat' first
   | (with_reducible exact vS.mono _ _)
   | (with_reducible exact zT.mono _ _ _ _)
   | (with_reducible exact LeO.refl _)
   | (with_reducible exact LeO.none _)
   | (with_reducible refine LeO.ite ?_ ?_)
   | (with_reducible refine LeO.bind ?_ (fun _=>?_))
   | exact vS.mono _ _
   | exact zT.mono _ _ _ _
   | exact LeO.none _
   | refine LeO.ite ?_ ?_
   | refine LeO.bind ?_ (fun _=>?_)
set_option maxHeartbeats 8000000 in
set_option maxRecDepth 100000 in
theorem uT.calls (k : Nat) (A0_0 : Option Addr) (c0_0 : Nat) (l0_0 : List (S58)) (r1 : Int) (r2 : Int) (r3 : List (S28)) (r4 : Int) (w : World) (hr0_0 : Kd.C k58 w A0_0 l0_0.length l0_0) (hc0_0 : l0_0.length ≤ c0_0) (h : uT.f k l0_0 = some (r1,r2,r3,r4)) :
  Calls Try.prog 18 #[.agg #[.slice A0_0 l0_0.length c0_0]] w fun e w'=>∃ v2_ : Value,e = .returned (.tuple #[.agg #[.int .i64 r1,.int .i64 r2,v2_],.int .i64 r4])∧Kd.N k28 28 w' w.heap.size (fun k_=>(w.heap.size ≤ k_)) v2_ r3∧Below w.heap.size w w':=by
 have hu25:=Try.underlying25
 have hu28:=Try.underlying28
 have HR0_0:=qA.mk hr0_0
 have HC0_0:=qA.mk hc0_0
 clear hr0_0 hc0_0
 have HB:=qA.mk (Below.refl w.heap.size w)
 unfold uT.f at h
 have H:=h
 clear h
 replace H:=Option.bind_eq_some_iff.mp H
 obtain ⟨⟨t237,t238⟩,A20,H⟩:=H
 try dsimp only at H
 have A2:=qA.mk A20
 clear A20
 by_cases c3 : t238 = 0
 ·rw [if_pos c3] at H
  obtain ⟨c3b0,c3b1⟩:=eqT c3
  clear c3
  by_cases c4 : t237 = true
  ·subst c4
   rw [if_pos rfl] at H
   replace H:=Option.bind_eq_some_iff.mp H
   obtain ⟨⟨t239,t240,t241⟩,A50,H⟩:=H
   try dsimp only at H
   have A5:=qA.mk A50
   clear A50
   simp only [Option.some.injEq,Prod.mk.injEq] at H
   obtain ⟨rfl,rfl,rfl,rfl⟩:=H
   go_enter Try.func18,Try.ntmps18
   go_wp2_with (first|((with_reducible refine qP (N:=1) rfl ?_);refine zV (N:=1) (cs:=#[.slice A0_0 l0_0.length c0_0]) (t:=25) ?_;intro gb235 hg w6 hbox hb;have n_:=q_4 (qC byab hb) (hbox) ((byck : w.heap.size ≤ gb235)) ((byck : w.heap.size ≤ gb235));clear HB;obtain ⟨HB,BK235,GW235,GE235⟩:=n_;clear hb hbox hg)|((with_reducible refine qP (N:=2) rfl ?_);refine zV (N:=2) (cs:=#[.int .i64 0,.int .i64 0,.slice none 0 0]) (t:=28) ?_;intro gb236 hg w7 hbox hb;have n_:=q_6 (qH BK235.out hb) (qC (byad GE235.out) hb) (hbox) ((bycl GE235.out : w.heap.size ≤ gb236)) ((bycl GE235.out : w.heap.size ≤ gb236)) ((by rw [hg];exact Nat.ne_of_lt (vF BK235.out) : gb235≠gb236));clear BK235 HB;obtain ⟨BK235,HB,BK236,GW236,GE236,NB235_236⟩:=n_;have NB236_235:=ns NB235_236;clear hb hbox hg;have hnb8:=NB235_236.out;have hnc8:=NB236_235.out;obtain ⟨hcz9_0,hfz9_0⟩:=cz1 BK235.out)|((with_reducible refine qI (f:=14) rfl ?_);refine qY (some 8) rfl rfl Try.func14 (by kernel_rfl) rfl #[.agg #[.slice A0_0 l0_0.length c0_0]] rfl byah ?_;(with_reducible refine (vS.calls k _ _ l0_0 true t238 _ ?side1 ?side2 A2.out).mono ?_);(case side1=>exact byaq HR0_0.out);(case side2=>exact HC0_0.out);rintro e w10 ⟨rfl,hb⟩;refine ⟨_,rfl,?_⟩;have n_:=q_3 (qH BK235.out hb) (qH BK236.out hb) (qC (byaj GE235.out GE236.out) hb);clear BK235 BK236 HB;obtain ⟨BK235,BK236,HB⟩:=n_;clear hb;obtain ⟨hcz11_0,hfz11_0⟩:=cz1 BK235.out)|((with_reducible refine qI (f:=39) rfl ?_);refine qY (some 19) rfl rfl Try.func39 (by kernel_rfl) rfl #[.agg #[.slice A0_0 l0_0.length c0_0],.int .i64 0,.int .i64 0] rfl byah ?_;(with_reducible refine (zT.calls k _ _ l0_0 0 0 t239 t240 t241 _ ?side1 ?side2 A5.out).mono ?_);(case side1=>exact byaq HR0_0.out);(case side2=>exact HC0_0.out);rintro e w12 ⟨v242,rfl,ho0,hb⟩;refine ⟨_,rfl,?_⟩;have n_:=q_4 (Kd.Zr (Kd.vX (ok':=fun k_=>(w.heap.size ≤ k_)∧k_≠gb235∧k_≠gb236) ho0 (fun k_ hk_=>⟨(Nat.le_trans (jX (byaj GE235.out GE236.out)) hk_),(Kd.Qd (g:=gb235) (o:=.cells #[.slice A0_0 l0_0.length c0_0] 25 (0,0)) (byaf BK235.out) k_ hk_),(Kd.Qd (g:=gb236) (o:=.cells #[.int .i64 0,.int .i64 0,.slice none 0 0] 28 (0,0)) (byaf BK236.out) k_ hk_)⟩)) (jX (byaj GE235.out GE236.out))) (qH BK235.out hb) (qH BK236.out hb) (qC (byaj GE235.out GE236.out) hb);clear BK235 BK236 HB;obtain ⟨HO243,BK235,BK236,HB⟩:=n_;clear hb;(try clear ho0);obtain ⟨hcz13_0,hcz13_1,hcz13_2,hfz13_0,hfz13_1,hfz13_2⟩:=cz3 BK236.out;obtain ⟨Ao14,co14,eo14⟩:=Kd.Zn HO243.out;subst eo14))
   refine bodyPost_ret (results_ct rfl _ _ gb236 28 #[.int .i64 t239,.int .i64 t240,.slice Ao14 t241.length co14] (0,0) _ rfl (by (with_reducible repeat (first|refine qF ?_ _|refine qG ?_|refine qE ?_ _));refine qO (cs:=#[.int .i64 t239,.int .i64 t240,.slice none 0 0]) ?_ 2 _ rfl;(with_reducible repeat (first|refine qF ?_ _|refine qG ?_|refine qE ?_ _));refine qO (cs:=#[.int .i64 t239,.int .i64 0,.slice none 0 0]) ?_ 1 _ rfl;(with_reducible repeat (first|refine qF ?_ _|refine qG ?_|refine qE ?_ _));refine qO (cs:=#[.int .i64 0,.int .i64 0,.slice none 0 0]) ?_ 0 _ rfl;(with_reducible repeat (first|refine qF ?_ _|refine qG ?_|refine qE ?_ _));exact BK236.out) Try.underlying28 rfl (by kernel_rfl)) rfl ?_
   exact ⟨_,byac,by (with_reducible repeat (first|apply Kd.Qq|apply Kd.Qo|apply Kd.Qs));exact Kd.vX (Kd.kY (p:=⟨gb236,2,none⟩) (Kd.kY (p:=⟨gb236,1,none⟩) (Kd.kY (p:=⟨gb236,0,none⟩) (Kd.vX HO243.out (fun k_ hk=>(⟨hk,hk.2.2⟩ : _∧k_≠gb236))) (fun _ hk=>hk.2) (.int .i64 t239)) (fun _ hk=>hk.2) (.int .i64 t240)) (fun _ hk=>hk.2) (.slice Ao14 t241.length co14)) (fun _ hk=>hk.1.1),byaj GE235.out GE236.out⟩
  ·replace c4:=Bool.eq_false_iff.mpr c4
   subst c4
   rw [if_neg (show ¬ (false = true) by decide)] at H
   simp only [Option.some.injEq,Prod.mk.injEq] at H
   obtain ⟨rfl,rfl,rfl,rfl⟩:=H
   go_enter Try.func18,Try.ntmps18
   go_wp2_with (first|((with_reducible refine qP (N:=1) rfl ?_);refine zV (N:=1) (cs:=#[.slice A0_0 l0_0.length c0_0]) (t:=25) ?_;intro gb235 hg w15 hbox hb;have n_:=q_4 (qC byab hb) (hbox) ((byck : w.heap.size ≤ gb235)) ((byck : w.heap.size ≤ gb235));clear HB;obtain ⟨HB,BK235,GW235,GE235⟩:=n_;clear hb hbox hg)|((with_reducible refine qP (N:=2) rfl ?_);refine zV (N:=2) (cs:=#[.int .i64 0,.int .i64 0,.slice none 0 0]) (t:=28) ?_;intro gb236 hg w16 hbox hb;have n_:=q_6 (qH BK235.out hb) (qC (byad GE235.out) hb) (hbox) ((bycl GE235.out : w.heap.size ≤ gb236)) ((bycl GE235.out : w.heap.size ≤ gb236)) ((by rw [hg];exact Nat.ne_of_lt (vF BK235.out) : gb235≠gb236));clear BK235 HB;obtain ⟨BK235,HB,BK236,GW236,GE236,NB235_236⟩:=n_;have NB236_235:=ns NB235_236;clear hb hbox hg;have hnb17:=NB235_236.out;have hnc17:=NB236_235.out;obtain ⟨hcz18_0,hfz18_0⟩:=cz1 BK235.out)|((with_reducible refine qI (f:=14) rfl ?_);refine qY (some 8) rfl rfl Try.func14 (by kernel_rfl) rfl #[.agg #[.slice A0_0 l0_0.length c0_0]] rfl byah ?_;(with_reducible refine (vS.calls k _ _ l0_0 false t238 _ ?side1 ?side2 A2.out).mono ?_);(case side1=>exact byaq HR0_0.out);(case side2=>exact HC0_0.out);rintro e w19 ⟨rfl,hb⟩;refine ⟨_,rfl,?_⟩;have n_:=q_3 (qH BK235.out hb) (qH BK236.out hb) (qC (byaj GE235.out GE236.out) hb);clear BK235 BK236 HB;obtain ⟨BK235,BK236,HB⟩:=n_;clear hb;obtain ⟨hcz20_0,hcz20_1,hcz20_2,hfz20_0,hfz20_1,hfz20_2⟩:=cz3 BK236.out))
   refine bodyPost_ret (results_ct rfl _ _ gb236 28 #[.int .i64 0,.int .i64 0,.slice none 0 0] (0,0) _ rfl (bybb BK236.out) Try.underlying28 rfl (by kernel_rfl)) rfl ?_
   exact ⟨_,byac,byau,byaj GE235.out GE236.out⟩
 ·rw [if_neg c3] at H
  obtain ⟨c3b0,c3b1⟩:=eqF c3
  simp only [Option.some.injEq,Prod.mk.injEq] at H
  obtain ⟨rfl,rfl,rfl,rfl⟩:=H
  go_enter Try.func18,Try.ntmps18
  go_wp2_with (first|((with_reducible refine qP (N:=1) rfl ?_);refine zV (N:=1) (cs:=#[.slice A0_0 l0_0.length c0_0]) (t:=25) ?_;intro gb235 hg w21 hbox hb;have n_:=q_4 (qC byab hb) (hbox) ((byck : w.heap.size ≤ gb235)) ((byck : w.heap.size ≤ gb235));clear HB;obtain ⟨HB,BK235,GW235,GE235⟩:=n_;clear hb hbox hg)|((with_reducible refine qP (N:=2) rfl ?_);refine zV (N:=2) (cs:=#[.int .i64 0,.int .i64 0,.slice none 0 0]) (t:=28) ?_;intro gb236 hg w22 hbox hb;have n_:=q_6 (qH BK235.out hb) (qC (byad GE235.out) hb) (hbox) ((bycl GE235.out : w.heap.size ≤ gb236)) ((bycl GE235.out : w.heap.size ≤ gb236)) ((by rw [hg];exact Nat.ne_of_lt (vF BK235.out) : gb235≠gb236));clear BK235 HB;obtain ⟨BK235,HB,BK236,GW236,GE236,NB235_236⟩:=n_;have NB236_235:=ns NB235_236;clear hb hbox hg;have hnb23:=NB235_236.out;have hnc23:=NB236_235.out;obtain ⟨hcz24_0,hfz24_0⟩:=cz1 BK235.out)|((with_reducible refine qI (f:=14) rfl ?_);refine qY (some 8) rfl rfl Try.func14 (by kernel_rfl) rfl #[.agg #[.slice A0_0 l0_0.length c0_0]] rfl byah ?_;(with_reducible refine (vS.calls k _ _ l0_0 t237 t238 _ ?side1 ?side2 A2.out).mono ?_);(case side1=>exact byaq HR0_0.out);(case side2=>exact HC0_0.out);rintro e w25 ⟨rfl,hb⟩;refine ⟨_,rfl,?_⟩;have n_:=q_3 (qH BK235.out hb) (qH BK236.out hb) (qC (byaj GE235.out GE236.out) hb);clear BK235 BK236 HB;obtain ⟨BK235,BK236,HB⟩:=n_;clear hb;obtain ⟨hcz26_0,hcz26_1,hcz26_2,hfz26_0,hfz26_1,hfz26_2⟩:=cz3 BK236.out))
  refine bodyPost_ret (results_ct rfl _ _ gb236 28 #[.int .i64 0,.int .i64 0,.slice none 0 0] (0,0) _ rfl (bybb BK236.out) Try.underlying28 rfl (by kernel_rfl)) rfl ?_
  exact ⟨_,byac,byau,byaj GE235.out GE236.out⟩
mutual
def zQ.l0 : Nat→Int→List (S28)→Int→Int→Option (Int)
 | 0,_,_,_,_=>none
 | k + 1,x3,x7,x8,x9=>if x9 < x8 then (if 0 ≤ x9 then (if x9 < (x7.length : Int) then ((zQ.f k ((zJ x7 x9).f0) ((zJ x7 x9).f1) ((zJ x7 x9).f2)).bind fun t247=>(zQ.l0 k (wrap64 (x3 + t247)) x7 x8 (wrap64 (x9 + 1)))) else (none)) else (none)) else (some x3)
def zQ.f : Nat→Int→Int→List (S28)→Option (Int)
 | 0,_,_,_=>none
 | k + 1,a0_0,a0_1,l0_2=>zQ.l0 k 1 l0_2 (l0_2.length : Int) 0
end
theorem zQ.mono_l : ∀ k,(∀ y0 y1 y2,LeO (zQ.f k y0 y1 y2) (zQ.f (k + 1) y0 y1 y2))∧(∀ y0 y1 y2 y3,LeO (zQ.l0 k y0 y1 y2 y3) (zQ.l0 (k + 1) y0 y1 y2 y3))
 | 0=>⟨fun _ _ _ r h=>by simp [zQ.f] at h,fun _ _ _ _ r h=>by simp [zQ.l0] at h⟩
 | k + 1=>by
  obtain ⟨ih0,ih1⟩:=zQ.mono_l k
  refine ⟨?_,?_⟩
  ·intro y0 y1 y2
   unfold zQ.f
   repeat' first
   | (with_reducible exact ih0 _ _ _)
   | (with_reducible exact ih1 _ _ _ _)
   | (with_reducible exact LeO.refl _)
   | (with_reducible exact LeO.none _)
   | (with_reducible refine LeO.ite ?_ ?_)
   | (with_reducible refine LeO.bind ?_ (fun _=>?_))
   | exact ih0 _ _ _
   | exact ih1 _ _ _ _
   | exact LeO.none _
   | refine LeO.ite ?_ ?_
   | refine LeO.bind ?_ (fun _=>?_)
  ·intro y0 y1 y2 y3
   unfold zQ.l0
   repeat' first
   | (with_reducible exact ih0 _ _ _)
   | (with_reducible exact ih1 _ _ _ _)
   | (with_reducible exact LeO.refl _)
   | (with_reducible exact LeO.none _)
   | (with_reducible refine LeO.ite ?_ ?_)
   | (with_reducible refine LeO.bind ?_ (fun _=>?_))
   | exact ih0 _ _ _
   | exact ih1 _ _ _ _
   | exact LeO.none _
   | refine LeO.ite ?_ ?_
   | refine LeO.bind ?_ (fun _=>?_)
theorem zQ.mono : ∀ a0 a1 a2 k,LeO (zQ.f k a0 a1 a2) (zQ.f (k + 1) a0 a1 a2):=by
 intro a0 a1 a2 k
 obtain ⟨ih0,ih1⟩:=zQ.mono_l k
 exact ih0 a0 a1 a2
set_option maxHeartbeats 8000000 in
set_option maxRecDepth 100000 in
theorem zQ.calls (k : Nat) : ∀ (a0_0 : Int) (a0_1 : Int) (A0_2 : Option Addr) (c0_2 : Nat) (l0_2 : List (S28)) (r : Int) (w : World) (hr0_2 : Kd.C k28 w A0_2 l0_2.length l0_2) (hc0_2 : l0_2.length ≤ c0_2) (h : zQ.f k a0_0 a0_1 l0_2 = some r),
  Calls Try.prog 22 #[.agg #[.int .i64 a0_0,.int .i64 a0_1,.slice A0_2 l0_2.length c0_2]] w fun e w'=>e = .returned (.int .i64 r)∧Below w.heap.size w w':=by
 induction k using Nat.strongRecOn with
 | _ k ih =>
 intro a0_0 a0_1 A0_2 c0_2 l0_2 r w hr0_2 hc0_2 h
 cases k with
 | zero=>exact absurd h (by simp [zQ.f])
 | succ k =>
 simp only [zQ.f] at h
 have hu28:=Try.underlying28
 have HR0_2:=qA.mk hr0_2
 have HC0_2:=qA.mk hc0_2
 clear hr0_2 hc0_2
 have HB:=qA.mk (Below.refl w.heap.size w)
 have H:=h
 clear h
 have H':=qA.mk H
 clear H
 go_enter Try.func22,Try.ntmps22
 go_wp2_with (first|((with_reducible refine qP (N:=1) rfl ?_);refine zV (N:=1) (cs:=#[.int .i64 a0_0,.int .i64 a0_1,.slice A0_2 l0_2.length c0_2]) (t:=28) ?_;intro gb244 hg w2 hbox hb;have n_:=q_4 (qC byab hb) (hbox) ((byck : w.heap.size ≤ gb244)) ((byck : w.heap.size ≤ gb244));clear HB;obtain ⟨HB,BK244,GW244,GE244⟩:=n_;clear hb hbox hg;obtain ⟨hcz3_0,hcz3_1,hcz3_2,hfz3_0,hfz3_1,hfz3_2⟩:=cz3 BK244.out))
 go_loopg [3,9] k (fun kq v3 v9 w'=>∃ (x3_1 : Int) (x9_1 : Int),v3 = .int .i64 x3_1∧v9 = .int .i64 x9_1∧qA (zQ.l0 kq x3_1 l0_2 (l0_2.length : Int) x9_1 = some r)∧qA (kq ≤ k)∧qA (w'.heap[gb244]? = some (.cells #[.int .i64 a0_0,.int .i64 a0_1,(.slice A0_2 l0_2.length c0_2)] 28 (0,0)))∧qA (Below w.heap.size w w'))
 case atStart=>exact ⟨(1),(0),byae,byae,H',⟨Nat.le_refl _⟩,⟨byaf BK244.out⟩,⟨byad GE244.out⟩⟩
 case round =>
  clear H'
  obtain ⟨x3_1,x9_1,rfl,rfl,HA,HK1,BK244,HB⟩:=hrel
  cases gk with
  | zero=>exact absurd HA.out (by simp [zQ.l0])
  | succ k1 =>
   have H:=HA.out
   clear HA
   simp only [zQ.l0] at H
   by_cases c4 : x9_1 < (l0_2.length : Int)
   ·rw [if_pos c4] at H
    have c4b0:=decide_eq_true c4
    clear c4
    by_cases c5 : 0 ≤ x9_1
    ·rw [if_pos c5] at H
     have c5b0:=decide_eq_true c5
     clear c5
     by_cases c6 : x9_1 < (l0_2.length : Int)
     ·rw [if_pos c6] at H
      have c6b0:=decide_eq_true c6
      clear c6
      replace H:=Option.bind_eq_some_iff.mp H
      obtain ⟨t247,A70,H⟩:=H
      try dsimp only at H
      have A7:=qA.mk A70
      clear A70
      have H':=qA.mk H
      clear H
      have p245 : 0 ≤ (x9_1 : Int):=of_decide_eq_true byag
      have q245 : x9_1 < (l0_2.length : Int):=of_decide_eq_true byag
      obtain ⟨ad245,A245_2,c245_2,e245,hx245_0,hx245_1,hx245_2,hl245_2,hi245_2⟩:=at_T28 HR0_2.out x9_1 p245 q245
      cases e245
      replace hx245_0:=(HB.out.cell (World.block_lt_of_cell? w _ hx245_0)).trans hx245_0
      replace hx245_1:=(HB.out.cell (World.block_lt_of_cell? w _ hx245_1)).trans hx245_1
      replace hx245_2:=(HB.out.cell (World.block_lt_of_cell? w _ hx245_2)).trans hx245_2
      have HR245_2:=qA.mk hi245_2
      have HC245_2:=qA.mk hl245_2
      clear hi245_2 hl245_2
      replace p245:=eq_true p245
      replace q245:=eq_true q245
      go_wp2_with (first|((with_reducible refine qP (N:=5) rfl ?_);refine zV (N:=5) (cs:=#[.int .i64 0,.int .i64 0,.slice none 0 0]) (t:=28) ?_;intro gb246 hg w8 hbox hb;have n_:=q_6 (qH BK244.out hb) (qC (byad GE244.out) hb) (hbox) ((bycl GE244.out : w.heap.size ≤ gb246)) ((bycl GE244.out : w.heap.size ≤ gb246)) ((by rw [hg];exact Nat.ne_of_lt (vF BK244.out) : gb244≠gb246));clear BK244 HB;obtain ⟨BK244,HB,BK246,GW246,GE246,NB244_246⟩:=n_;have NB246_244:=ns NB244_246;clear hb hbox hg;have hnb9:=NB246_244.out;have hnc9:=NB244_246.out;obtain ⟨hcz10_0,hcz10_1,hcz10_2,hfz10_0,hfz10_1,hfz10_2⟩:=cz3 BK246.out)|((with_reducible refine qI (f:=22) rfl ?_);refine qY (some 15) rfl rfl Try.func22 (by kernel_rfl) rfl #[.agg #[.int .i64 ((zJ l0_2 x9_1).f0),.int .i64 ((zJ l0_2 x9_1).f1),.slice A245_2 ((zJ l0_2 x9_1).f2).length c245_2]] rfl byah ?_;(with_reducible refine (ih k1 byai ((zJ l0_2 x9_1).f0) ((zJ l0_2 x9_1).f1) _ _ ((zJ l0_2 x9_1).f2) t247 _ ?side1 ?side2 A7.out).mono ?_);(case side1=>exact Kd.vU HR245_2.out (byaj GE244.out GE246.out));(case side2=>exact HC245_2.out);rintro e w11 ⟨rfl,hb⟩;refine ⟨_,rfl,?_⟩;have n_:=q_3 (jQ (g:=gb244) (o:=.cells #[.int .i64 a0_0,.int .i64 a0_1,.slice (some ad245) l0_2.length c0_2] 28 (0,0)) (byak NB244_246.out BK244.out) hb) (jQ (g:=gb246) (o:=.cells #[.int .i64 ((zJ l0_2 x9_1).f0),.int .i64 ((zJ l0_2 x9_1).f1),.slice A245_2 ((zJ l0_2 x9_1).f2).length c245_2] 28 (0,0)) (by (with_reducible repeat (first|refine qF ?_ _|refine qG ?_|refine qE ?_ _));refine qO (cs:=#[.int .i64 ((zJ l0_2 x9_1).f0),.int .i64 ((zJ l0_2 x9_1).f1),.slice none 0 0]) ?_ 2 _ rfl;(with_reducible repeat (first|refine qF ?_ _|refine qG ?_|refine qE ?_ _));refine qO (cs:=#[.int .i64 ((zJ l0_2 x9_1).f0),.int .i64 0,.slice none 0 0]) ?_ 1 _ rfl;(with_reducible repeat (first|refine qF ?_ _|refine qG ?_|refine qE ?_ _));refine qO (cs:=#[.int .i64 0,.int .i64 0,.slice none 0 0]) ?_ 0 _ rfl;(with_reducible repeat (first|refine qF ?_ _|refine qG ?_|refine qE ?_ _));exact BK246.out) hb) (qC (byaj GE244.out GE246.out) hb);clear BK244 BK246 HB;obtain ⟨BK244,BK246,HB⟩:=n_;clear hb))
      go_roundg k1
      case measure=>have:=HK1.out;omega
      case rel=>exact ⟨(wrap64 (x3_1 + t247)),(wrap64 (x9_1 + 1)),byae,byae,H',⟨byai⟩,⟨byaf BK244.out⟩,⟨byaj GE244.out GE246.out⟩⟩
     ·rw [if_neg c6] at H
      exact absurd H (by simp)
    ·rw [if_neg c5] at H
     exact absurd H (by simp)
   ·rw [if_neg c4] at H
    have c4b0:=decide_eq_false c4
    clear c4
    obtain rfl:=Option.some.inj H
    go_wp2
    go_ret
    exact ⟨byac,byad GE244.out⟩
end Go.Proofs.Ytkkbdimegpdbgaa.P
