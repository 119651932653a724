/- Functions of the program as Lean functions, and the walks that show that the calls answer so; written by a program of this session (a changed print) and by hand. -/
import Derived.Test.YtkkbdimegpdbgaaQsPx0
import Derived.Test.YtkkbdimegpdbgaaQsPx5
namespace Go.Proofs.Ytkkbdimegpdbgaa.P
open Go.RowKit Go.Proofs.YtkkbdimegpdbgaaW.PrintWords Go.Proofs.YtkkbdimegpdbgaaW.PrintLast Go.Proofs.YtkkbdimegpdbgaaW.PrintMore
attribute [local go_sem] kF kD kV kU uJ uK kG kE
set_option linter.unusedVariables false
set_option linter.unusedSimpArgs false
def vH.f (k : Nat) (l0_0 : List (S58)) (a1 : Int) (a2 : Int) : Option (Bool):=(vK.f l0_0).bind fun t207=>((jS.f k l0_0 (Go.bits .andNot .i64 t207 a2)).bind fun t208=>(if t208 = 0 then (some true) else (some ((Go.bits .andNot .i64 a1 t208) != 0))))
theorem vH.mono : ∀ a0 a1 a2 k,LeO (vH.f k a0 a1 a2) (vH.f (k + 1) a0 a1 a2):=by
 intro a0 a1 a2 k
 unfold vH.f
 repeat' first
   | (with_reducible exact jS.mono _ _ _)
   | (with_reducible exact LeO.refl _)
   | (with_reducible exact LeO.none _)
   | (with_reducible refine LeO.ite ?_ ?_)
   | (with_reducible refine LeO.bind ?_ (fun _=>?_))
   | exact jS.mono _ _ _
   | exact LeO.none _
   | refine LeO.ite ?_ ?_
   | refine LeO.bind ?_ (fun _=>?_)
set_option maxHeartbeats 8000000 in
set_option maxRecDepth 100000 in
theorem vH.calls (k : Nat) (A0_0 : Option Addr) (c0_0 : Nat) (l0_0 : List (S58)) (a1 : Int) (a2 : Int) (r : Bool) (w : World) (hr0_0 : Kd.C k58 w A0_0 l0_0.length l0_0) (hc0_0 : l0_0.length ≤ c0_0) (h : vH.f k l0_0 a1 a2 = some r) :
  Calls Try.prog 59 #[.agg #[.slice A0_0 l0_0.length c0_0],.int .i64 a1,.int .i64 a2] w fun e w'=>e = .returned (.bool r)∧Below w.heap.size w w':=by
 have hu25:=Try.underlying25
 have HR0_0:=qA.mk hr0_0
 have HC0_0:=qA.mk hc0_0
 clear hr0_0 hc0_0
 have HB:=qA.mk (Below.refl w.heap.size w)
 unfold vH.f at h
 have H:=h
 clear h
 replace H:=Option.bind_eq_some_iff.mp H
 obtain ⟨t207,A40,H⟩:=H
 try dsimp only at H
 have A4:=qA.mk A40
 clear A40
 replace H:=Option.bind_eq_some_iff.mp H
 obtain ⟨t208,A50,H⟩:=H
 try dsimp only at H
 have A5:=qA.mk A50
 clear A50
 by_cases c6 : t208 = 0
 ·rw [if_pos c6] at H
  obtain ⟨c6b0,c6b1⟩:=eqT c6
  clear c6
  obtain rfl:=Option.some.inj H
  go_enter Try.func59,Try.ntmps59
  try go_wp2_with (first|((with_reducible refine qP (N:=3) rfl ?_);refine zV (N:=3) (cs:=#[.slice A0_0 l0_0.length c0_0]) (t:=25) ?_;intro gb206 hg w7 hbox hb;have n_:=q_4 (qC byab hb) (hbox) ((byck : w.heap.size ≤ gb206)) ((byck : w.heap.size ≤ gb206));clear HB;obtain ⟨HB,BK206,GW206,GE206⟩:=n_;clear hb hbox hg))
  have n_:=q_2 (qG BK206.out) (vI HB.out)
  clear BK206 HB
  obtain ⟨BK206,HB⟩:=n_
  refine Qm (n:=7) (S:=fun w'=>w'.cell? ⟨gb206,0,none⟩ = some (.slice A0_0 l0_0.length c0_0)) (ds:=[]) (bb 7 0) (by kernel_rfl) rfl rfl ((qN BK206.out 0).trans rfl) (fun hHeld=>?_)
  generalize w7.drew = w8 at BK206 HB hHeld ⊢
  refine Qr (i:=3) (N:=some 11) (bb 7 8) ?_
  refine takeZB (i:=0) (N:=some 8) (bb 7 9) hHeld ?_
  refine takeZB (i:=1) (N:=some 9) (bb 7 11) hHeld ?_
  refine one_ (i:=2) (N:=some 10) (bb 7 15) rfl rfl (by kernel_rfl) (by decide) (fun K hK=>?_)
  refine Qg Try.func53 (by kernel_rfl) rfl #[.agg #[.slice A0_0 l0_0.length c0_0]] (by rfl) rfl rfl byah ?_
  with_reducible refine (vK.calls _ _ l0_0 t207 _ ?side1 ?side2 A4.out).mono ?_
  (case side1=>exact byaq HR0_0.out)
  (case side2=>exact HC0_0.out)
  rintro e w9 ⟨rfl,hb⟩
  refine ⟨_,rfl,?_⟩
  have n_:=q_2 (qH BK206.out hb) (qC (byad GE206.out) hb)
  clear BK206 HB
  obtain ⟨BK206,HB⟩:=n_
  (try clear hb)
  (try clear hb2)
  (try clear hk)
  (try clear hi)
  refine hK.out _ _ ((qN BK206.out 0).trans rfl) (fun hHeld=>?_)
  clear hK K
  refine kN (N:=some 10) ?_
  refine Qr (i:=4) (N:=some 12) (bb 7 31) ?_
  refine one_ (i:=5) (N:=some 13) (bb 7 63) rfl rfl (by kernel_rfl) (by decide) (fun K hK=>?_)
  refine Qg Try.func52 (by kernel_rfl) rfl #[.agg #[.slice A0_0 l0_0.length c0_0],.int .i64 (Go.bits .andNot .i64 t207 a2)] (by rfl) rfl rfl byah ?_
  with_reducible refine (jS.calls k _ _ l0_0 (Go.bits .andNot .i64 t207 a2) t208 _ ?side1 ?side2 A5.out).mono ?_
  (case side1=>exact byaq HR0_0.out)
  (case side2=>exact HC0_0.out)
  rintro e w10 ⟨rfl,hb⟩
  refine ⟨_,rfl,?_⟩
  have n_:=q_2 (qH BK206.out hb) (qC (byad GE206.out) hb)
  clear BK206 HB
  obtain ⟨BK206,HB⟩:=n_
  (try clear hb)
  (try clear hb2)
  (try clear hk)
  (try clear hi)
  refine hK.out _ _ ((qN BK206.out 0).trans rfl) (fun hHeld=>?_)
  clear hK K
  refine kN (N:=some 13) ?_
  refine Qr (i:=6) (N:=some 7) (bb 7 127) ?_
  refine Ze (by kernel_rfl) ?_
  try go_wp2
  go_ret
  exact ⟨byac,byad GE206.out⟩
 ·rw [if_neg c6] at H
  obtain ⟨c6b0,c6b1⟩:=eqF c6
  obtain rfl:=Option.some.inj H
  go_enter Try.func59,Try.ntmps59
  try go_wp2_with (first|((with_reducible refine qP (N:=3) rfl ?_);refine zV (N:=3) (cs:=#[.slice A0_0 l0_0.length c0_0]) (t:=25) ?_;intro gb206 hg w11 hbox hb;have n_:=q_4 (qC byab hb) (hbox) ((byck : w.heap.size ≤ gb206)) ((byck : w.heap.size ≤ gb206));clear HB;obtain ⟨HB,BK206,GW206,GE206⟩:=n_;clear hb hbox hg))
  have n_:=q_2 (qG BK206.out) (vI HB.out)
  clear BK206 HB
  obtain ⟨BK206,HB⟩:=n_
  refine Qm (n:=7) (S:=fun w'=>w'.cell? ⟨gb206,0,none⟩ = some (.slice A0_0 l0_0.length c0_0)) (ds:=[]) (bb 7 0) (by kernel_rfl) rfl rfl ((qN BK206.out 0).trans rfl) (fun hHeld=>?_)
  generalize w11.drew = w12 at BK206 HB hHeld ⊢
  refine Qr (i:=3) (N:=some 11) (bb 7 8) ?_
  refine takeZB (i:=0) (N:=some 8) (bb 7 9) hHeld ?_
  refine takeZB (i:=1) (N:=some 9) (bb 7 11) hHeld ?_
  refine one_ (i:=2) (N:=some 10) (bb 7 15) rfl rfl (by kernel_rfl) (by decide) (fun K hK=>?_)
  refine Qg Try.func53 (by kernel_rfl) rfl #[.agg #[.slice A0_0 l0_0.length c0_0]] (by rfl) rfl rfl byah ?_
  with_reducible refine (vK.calls _ _ l0_0 t207 _ ?side1 ?side2 A4.out).mono ?_
  (case side1=>exact byaq HR0_0.out)
  (case side2=>exact HC0_0.out)
  rintro e w13 ⟨rfl,hb⟩
  refine ⟨_,rfl,?_⟩
  have n_:=q_2 (qH BK206.out hb) (qC (byad GE206.out) hb)
  clear BK206 HB
  obtain ⟨BK206,HB⟩:=n_
  (try clear hb)
  (try clear hb2)
  (try clear hk)
  (try clear hi)
  refine hK.out _ _ ((qN BK206.out 0).trans rfl) (fun hHeld=>?_)
  clear hK K
  refine kN (N:=some 10) ?_
  refine Qr (i:=4) (N:=some 12) (bb 7 31) ?_
  refine one_ (i:=5) (N:=some 13) (bb 7 63) rfl rfl (by kernel_rfl) (by decide) (fun K hK=>?_)
  refine Qg Try.func52 (by kernel_rfl) rfl #[.agg #[.slice A0_0 l0_0.length c0_0],.int .i64 (Go.bits .andNot .i64 t207 a2)] (by rfl) rfl rfl byah ?_
  with_reducible refine (jS.calls k _ _ l0_0 (Go.bits .andNot .i64 t207 a2) t208 _ ?side1 ?side2 A5.out).mono ?_
  (case side1=>exact byaq HR0_0.out)
  (case side2=>exact HC0_0.out)
  rintro e w14 ⟨rfl,hb⟩
  refine ⟨_,rfl,?_⟩
  have n_:=q_2 (qH BK206.out hb) (qC (byad GE206.out) hb)
  clear BK206 HB
  obtain ⟨BK206,HB⟩:=n_
  (try clear hb)
  (try clear hb2)
  (try clear hk)
  (try clear hi)
  refine hK.out _ _ ((qN BK206.out 0).trans rfl) (fun hHeld=>?_)
  clear hK K
  refine kN (N:=some 13) ?_
  refine Qr (i:=6) (N:=some 7) (bb 7 127) ?_
  refine Ze (by kernel_rfl) ?_
  try go_wp2
  go_ret
  exact ⟨byac,byad GE206.out⟩
def jD.f (k : Nat) (l0_0 : List (S58)) (a1 : Int) : Option (Bool):=(vK.f l0_0).bind fun t210=>((jS.f k l0_0 (Go.bits .andNot .i64 t210 a1)).bind fun t211=>(some (t211 == 0)))
theorem jD.mono : ∀ a0 a1 k,LeO (jD.f k a0 a1) (jD.f (k + 1) a0 a1):=by
 intro a0 a1 k
 unfold jD.f
 repeat' first
   | (with_reducible exact jS.mono _ _ _)
   | (with_reducible exact LeO.refl _)
   | (with_reducible exact LeO.none _)
   | (with_reducible refine LeO.ite ?_ ?_)
   | (with_reducible refine LeO.bind ?_ (fun _=>?_))
   | exact jS.mono _ _ _
   | exact LeO.none _
   | refine LeO.ite ?_ ?_
   | refine LeO.bind ?_ (fun _=>?_)
def jD.T1 : Bool × List (List Nat × List Nat):=(true,[([],[]),([],[]),([1],[1]),([],[]),([2,3],[2,3]),([0,4,2],[0,4]),([5],[5]),([6,5,0,1,2,3,4,5,6],[6])])
def jD.B1 : List Nat:=[0,0,2,0,14,31,63,127]
theorem jD.tab1 : rtab .any (opsOf Try.f60 1) = jD.T1:=by kernel_rfl
theorem jD.bits1 : Qv jD.T1.2 jD.B1 = true:=by kernel_rfl
set_option maxHeartbeats 8000000 in
set_option maxRecDepth 100000 in
theorem jD.calls (k : Nat) (A0_0 : Option Addr) (c0_0 : Nat) (l0_0 : List (S58)) (a1 : Int) (r : Bool) (w : World) (hr0_0 : Kd.C k58 w A0_0 l0_0.length l0_0) (hc0_0 : l0_0.length ≤ c0_0) (h : jD.f k l0_0 a1 = some r) :
  Calls Try.prog 60 #[.agg #[.slice A0_0 l0_0.length c0_0],.int .i64 a1] w fun e w'=>e = .returned (.bool r)∧Below w.heap.size w w':=by
 have hu25:=Try.underlying25
 have HR0_0:=qA.mk hr0_0
 have HC0_0:=qA.mk hc0_0
 clear hr0_0 hc0_0
 have HB:=qA.mk (Below.refl w.heap.size w)
 unfold jD.f at h
 have H:=h
 clear h
 replace H:=Option.bind_eq_some_iff.mp H
 obtain ⟨t210,A30,H⟩:=H
 try dsimp only at H
 have A3:=qA.mk A30
 clear A30
 replace H:=Option.bind_eq_some_iff.mp H
 obtain ⟨t211,A40,H⟩:=H
 try dsimp only at H
 have A4:=qA.mk A40
 clear A40
 obtain rfl:=Option.some.inj H
 go_enter Try.func60,Try.ntmps60
 try go_wp2_with (first|((with_reducible refine qP (N:=2) rfl ?_);refine zV (N:=2) (cs:=#[.slice A0_0 l0_0.length c0_0]) (t:=25) ?_;intro gb209 hg w5 hbox hb;have n_:=q_4 (qC byab hb) (hbox) ((byck : w.heap.size ≤ gb209)) ((byck : w.heap.size ≤ gb209));clear HB;obtain ⟨HB,BK209,GW209,GE209⟩:=n_;clear hb hbox hg))
 have n_:=q_2 (qG BK209.out) (vI HB.out)
 clear BK209 HB
 obtain ⟨BK209,HB⟩:=n_
 refine Qm (n:=8) (S:=fun w'=>w'.cell? ⟨gb209,0,none⟩ = some (.slice A0_0 l0_0.length c0_0)) (ds:=[]) (bb 8 0) (by kernel_rfl) rfl rfl ((qN BK209.out 0).trans rfl) (fun hHeld=>?_);refine Qb jD.tab1 jD.bits1 (fun HT_ HW_=>?_)
 generalize w5.drew = w6 at BK209 HB hHeld ⊢
 refine zH (i:=3) (N:=some 8) (bb 8 8) ?_
 refine takeZC (i:=0) (N:=some 5) (bb 8 9) hHeld ?_
 refine takeZC (i:=1) (N:=some 6) (bb 8 11) hHeld ?_
 refine one_ (i:=2) (N:=some 7) (bb 8 15) rfl rfl (kC HT_.out (by kernel_rfl)) (by decide) (fun K hK=>?_)
 refine Qg Try.func53 (by kernel_rfl) rfl #[.agg #[.slice A0_0 l0_0.length c0_0]] (by rfl) rfl rfl byah ?_
 with_reducible refine (vK.calls _ _ l0_0 t210 _ ?side1 ?side2 A3.out).mono ?_
 (case side1=>exact byaq HR0_0.out)
 (case side2=>exact HC0_0.out)
 rintro e w7 ⟨rfl,hb⟩
 refine ⟨_,rfl,?_⟩
 have n_:=q_2 (qH BK209.out hb) (qC (byad GE209.out) hb)
 clear BK209 HB
 obtain ⟨BK209,HB⟩:=n_
 (try clear hb)
 (try clear hb2)
 (try clear hk)
 (try clear hi)
 refine hK.out _ _ ((qN BK209.out 0).trans rfl) (fun hHeld=>?_)
 clear hK K
 refine kN (N:=some 7) ?_
 refine zH (i:=4) (N:=some 9) (bb 8 31) ?_
 refine one_ (i:=5) (N:=some 10) (bb 8 63) rfl rfl (kC HT_.out (by kernel_rfl)) (by decide) (fun K hK=>?_)
 refine Qg Try.func52 (by kernel_rfl) rfl #[.agg #[.slice A0_0 l0_0.length c0_0],.int .i64 (Go.bits .andNot .i64 t210 a1)] (by rfl) rfl rfl byah ?_
 with_reducible refine (jS.calls k _ _ l0_0 (Go.bits .andNot .i64 t210 a1) t211 _ ?side1 ?side2 A4.out).mono ?_
 (case side1=>exact byaq HR0_0.out)
 (case side2=>exact HC0_0.out)
 rintro e w8 ⟨rfl,hb⟩
 refine ⟨_,rfl,?_⟩
 have n_:=q_2 (qH BK209.out hb) (qC (byad GE209.out) hb)
 clear BK209 HB
 obtain ⟨BK209,HB⟩:=n_
 (try clear hb)
 (try clear hb2)
 (try clear hk)
 (try clear hi)
 refine hK.out _ _ ((qN BK209.out 0).trans rfl) (fun hHeld=>?_)
 clear hK K
 refine kN (N:=some 10) ?_
 refine zH (i:=6) (N:=some 11) (bb 8 127) ?_
 refine zH (i:=7) (N:=some 4) (bb 8 255) ?_
 refine Ze (Qz HT_.out (by kernel_rfl)) ?_
 try go_wp2
 go_ret
 exact ⟨byac,byad GE209.out⟩
end Go.Proofs.Ytkkbdimegpdbgaa.P
