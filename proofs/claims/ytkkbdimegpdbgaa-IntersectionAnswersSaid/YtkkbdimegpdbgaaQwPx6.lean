/- Walks: the calls answer as Lean functions say; conditions: each theorem's own. -/
import Derived.Test.YtkkbdimegpdbgaaQwPx5
namespace Go.Proofs.Ytkkbdimegpdbgaa.P
open Go.RowKit Go.Proofs.YtkkbdimegpdbgaaW.PrintWords Go.Proofs.YtkkbdimegpdbgaaW.PrintLast Go.Proofs.YtkkbdimegpdbgaaW.PrintMore
attribute [local go_sem] kK kM Qa Qb uV uU kN kL
set_option linter.unusedVariables false
set_option linter.unusedSimpArgs false
def vM.f (k:Nat) (p:List (S58)) (a1:Int) (a2:Int):Option (Bool):=(vT.f p).bind fun s=>((jX.f k p (Go.bits .andNot .i64 s a2)).bind fun r=>(if r=0 then(some true) else(some ((Go.bits .andNot .i64 a1 r) != 0))))
theorem vM.mono:∀a0 a1 a2 k,LeO (vM.f k a0 a1 a2) (vM.f (k+1) a0 a1 a2):=by
 intro a0 a1 a2 k;unfold vM.f;repeat' first
   |(with_reducible exact jX.mono _ _ _)
   |(with_reducible exact LeO.refl _)
   |(with_reducible exact LeO.none _)
   |(with_reducible refine LeO.ite ?_ ?_)
   |(with_reducible refine LeO.bind ?_ (fun _=>?_))
   |exact jX.mono _ _ _
   |exact LeO.none _
   |refine LeO.ite ?_ ?_
   |refine LeO.bind ?_ (fun _=>?_)
set_option maxHeartbeats 8000000 in
set_option maxRecDepth 100000 in
theorem vM.calls (k:Nat) (z:Option Addr) (A:Nat) (s:List (S58)) (a1:Int) (a2:Int) (r:Bool) (w:World) (L:Kd.C k58 w z s.length s) (M:s.length≤A) (h:vM.f k s a1 a2=some r):
  Calls Try.prog 59 #[.agg #[.slice z s.length A],.int .i64 a1,.int .i64 a2] w fun e w'=>e=.returned (.bool r)∧Below w.heap.size w w':=by
 have hu25:=Try.underlying25;have I:=qA.mk L;have J:=qA.mk M;clear L M;have HB:=qA.mk (Below.refl w.heap.size w);unfold vM.f at h;have H:=h;clear h;replace H:=Option.bind_eq_some_iff.mp H;obtain⟨G,U,H⟩:=H;(try dsimp only at H);have A4:=qA.mk U;clear U;replace H:=Option.bind_eq_some_iff.mp H;obtain⟨O,X,H⟩:=H;(try dsimp only at H);have A5:=qA.mk X;clear X;by_cases c6:O=0
 ·rw[if_pos c6] at H;obtain⟨Y,Z⟩:=eqT c6;clear c6;obtain rfl:=Option.some.inj H;go_enter Try.func59,Try.ntmps59;(try go_wp2_with (first|((with_reducible refine qH (N:=3) rfl ?_);refine qG ?hg (N:=3) ?hd (cs:=#[.slice z s.length A]) (t:=25) ?hr ?_;(case hd=>rfl);(case hg=>rfl);(case hr=>exact byab);intro B hg w7 hbox hb;have n_:=q_4 (qB byac hb) (hbox) ((bycn:w.heap.size≤B)) ((bycn:w.heap.size≤B));clear HB;obtain⟨HB,p,T,D⟩:=n_;clear hb hbox hg)));have n_:=q_2 (zK p.out) (jC HB.out);clear p HB;obtain⟨p,HB⟩:=n_;refine kX (n:=7) (S:=fun w'=>w'.cell? ⟨B,0,none⟩=some (.slice z s.length A)) (ds:=[]) (bb 7 0) (by kernel_rfl) rfl rfl ((qF p.out 0).trans rfl) (fun hHeld=>?_);generalize w7.drew=w8 at p HB hHeld ⊢
  refine Qj (i:=3) (N:=some 11) (bb 7 8) ?_;refine Zw (i:=0) (N:=some 8) (bb 7 9) hHeld ?_;refine Zw (i:=1) (N:=some 9) (bb 7 11) hHeld ?_;refine one_ (i:=2) (N:=some 10) (bb 7 15) rfl rfl (by kernel_rfl) (by decide) (fun K hK=>?_);refine kS Try.func53 (by kernel_rfl) rfl #[.agg #[.slice z s.length A]] (by rfl) rfl rfl byah ?_;with_reducible refine(vT.calls _ _ s G _ ?side1 ?side2 A4.out).mono ?_
  (case side1=>exact byaq I);(case side2=>exact J.out);rintro e w9 ⟨rfl,hb⟩;refine⟨_,rfl,?_⟩;have n_:=q_2 (bbl p hb) (qB (byae D) hb);clear p HB;obtain⟨p,HB⟩:=n_;(try clear hb);(try clear hb2);(try clear hk);(try clear hi);refine hK.out _ _ ((qF p.out 0).trans rfl) (fun hHeld=>?_);clear hK K;refine uZ (N:=some 10) ?_;refine Qj (i:=4) (N:=some 12) (bb 7 31) ?_;refine one_ (i:=5) (N:=some 13) (bb 7 63) rfl rfl (by kernel_rfl) (by decide) (fun K hK=>?_);refine kS Try.func52 (by kernel_rfl) rfl #[.agg #[.slice z s.length A],.int .i64 (Go.bits .andNot .i64 G a2)] (by rfl) rfl rfl byah ?_;with_reducible refine(jX.calls k _ _ s (Go.bits .andNot .i64 G a2) O _ ?side1 ?side2 A5.out).mono ?_
  (case side1=>exact byaq I);(case side2=>exact J.out);rintro e a8 ⟨rfl,hb⟩;refine⟨_,rfl,?_⟩;have n_:=q_2 (bbl p hb) (qB (byae D) hb);clear p HB;obtain⟨p,HB⟩:=n_;(try clear hb);(try clear hb2);(try clear hk);(try clear hi);refine hK.out _ _ ((qF p.out 0).trans rfl) (fun hHeld=>?_);clear hK K;refine uZ (N:=some 13) ?_;refine Qj (i:=6) (N:=some 7) (bb 7 127) ?_;refine Qv (by kernel_rfl) ?_;(try go_wp2);go_ret;exact⟨byad,byae D⟩
 ·rw[if_neg c6] at H;obtain⟨Y,Z⟩:=eqF c6;obtain rfl:=Option.some.inj H;go_enter Try.func59,Try.ntmps59;(try go_wp2_with (first|((with_reducible refine qH (N:=3) rfl ?_);refine qG ?hg (N:=3) ?hd (cs:=#[.slice z s.length A]) (t:=25) ?hr ?_;(case hd=>rfl);(case hg=>rfl);(case hr=>exact byab);intro B hg a7 hbox hb;have n_:=q_4 (qB byac hb) (hbox) ((bycn:w.heap.size≤B)) ((bycn:w.heap.size≤B));clear HB;obtain⟨HB,p,T,D⟩:=n_;clear hb hbox hg)));have n_:=q_2 (zK p.out) (jC HB.out);clear p HB;obtain⟨p,HB⟩:=n_;refine kX (n:=7) (S:=fun w'=>w'.cell? ⟨B,0,none⟩=some (.slice z s.length A)) (ds:=[]) (bb 7 0) (by kernel_rfl) rfl rfl ((qF p.out 0).trans rfl) (fun hHeld=>?_);generalize a7.drew=a9 at p HB hHeld ⊢
  refine Qj (i:=3) (N:=some 11) (bb 7 8) ?_;refine Zw (i:=0) (N:=some 8) (bb 7 9) hHeld ?_;refine Zw (i:=1) (N:=some 9) (bb 7 11) hHeld ?_;refine one_ (i:=2) (N:=some 10) (bb 7 15) rfl rfl (by kernel_rfl) (by decide) (fun K hK=>?_);refine kS Try.func53 (by kernel_rfl) rfl #[.agg #[.slice z s.length A]] (by rfl) rfl rfl byah ?_;with_reducible refine(vT.calls _ _ s G _ ?side1 ?side2 A4.out).mono ?_
  (case side1=>exact byaq I);(case side2=>exact J.out);rintro e aA ⟨rfl,hb⟩;refine⟨_,rfl,?_⟩;have n_:=q_2 (bbl p hb) (qB (byae D) hb);clear p HB;obtain⟨p,HB⟩:=n_;(try clear hb);(try clear hb2);(try clear hk);(try clear hi);refine hK.out _ _ ((qF p.out 0).trans rfl) (fun hHeld=>?_);clear hK K;refine uZ (N:=some 10) ?_;refine Qj (i:=4) (N:=some 12) (bb 7 31) ?_;refine one_ (i:=5) (N:=some 13) (bb 7 63) rfl rfl (by kernel_rfl) (by decide) (fun K hK=>?_);refine kS Try.func52 (by kernel_rfl) rfl #[.agg #[.slice z s.length A],.int .i64 (Go.bits .andNot .i64 G a2)] (by rfl) rfl rfl byah ?_;with_reducible refine(jX.calls k _ _ s (Go.bits .andNot .i64 G a2) O _ ?side1 ?side2 A5.out).mono ?_
  (case side1=>exact byaq I);(case side2=>exact J.out);rintro e aB ⟨rfl,hb⟩;refine⟨_,rfl,?_⟩;have n_:=q_2 (bbl p hb) (qB (byae D) hb);clear p HB;obtain⟨p,HB⟩:=n_;(try clear hb);(try clear hb2);(try clear hk);(try clear hi);refine hK.out _ _ ((qF p.out 0).trans rfl) (fun hHeld=>?_);clear hK K;refine uZ (N:=some 13) ?_;refine Qj (i:=6) (N:=some 7) (bb 7 127) ?_;refine Qv (by kernel_rfl) ?_;(try go_wp2);go_ret;exact⟨byad,byae D⟩
def jG.f (k:Nat) (p:List (S58)) (a1:Int):Option (Bool):=(vT.f p).bind fun r=>((jX.f k p (Go.bits .andNot .i64 r a1)).bind fun s=>(some (s==0)))
theorem jG.mono:∀a0 a1 k,LeO (jG.f k a0 a1) (jG.f (k+1) a0 a1):=by
 intro a0 a1 k;unfold jG.f;repeat' first
   |(with_reducible exact jX.mono _ _ _)
   |(with_reducible exact LeO.refl _)
   |(with_reducible exact LeO.none _)
   |(with_reducible refine LeO.ite ?_ ?_)
   |(with_reducible refine LeO.bind ?_ (fun _=>?_))
   |exact jX.mono _ _ _
   |exact LeO.none _
   |refine LeO.ite ?_ ?_
   |refine LeO.bind ?_ (fun _=>?_)
def jG.T1:Bool × List (List Nat × List Nat):=(true,[([],[]),([],[]),([1],[1]),([],[]),([2,3],[2,3]),([0,4,2],[0,4]),([5],[5]),([6,5,0,1,2,3,4,5,6],[6])])
def jG.B1:List Nat:=[0,0,2,0,14,31,63,127]
theorem jG.tab1:rtab .any (opsOf Try.f60 1)=jG.T1:=by kernel_rfl
theorem jG.bits1:Q9 jG.T1.2 jG.B1=true:=by kernel_rfl
set_option maxHeartbeats 8000000 in
set_option maxRecDepth 100000 in
theorem jG.calls (k:Nat) (z:Option Addr) (A:Nat) (s:List (S58)) (a1:Int) (r:Bool) (w:World) (G:Kd.C k58 w z s.length s) (I:s.length≤A) (h:jG.f k s a1=some r):
  Calls Try.prog 60 #[.agg #[.slice z s.length A],.int .i64 a1] w fun e w'=>e=.returned (.bool r)∧Below w.heap.size w w':=by
 have hu25:=Try.underlying25;have J:=qA.mk G;have L:=qA.mk I;clear G I;have HB:=qA.mk (Below.refl w.heap.size w);unfold jG.f at h;have H:=h;clear h;replace H:=Option.bind_eq_some_iff.mp H;obtain⟨M,O,H⟩:=H;(try dsimp only at H);have A3:=qA.mk O;clear O;replace H:=Option.bind_eq_some_iff.mp H;obtain⟨T,U,H⟩:=H;(try dsimp only at H);have A4:=qA.mk U;clear U;obtain rfl:=Option.some.inj H;go_enter Try.func60,Try.ntmps60;(try go_wp2_with (first|((with_reducible refine qH (N:=2) rfl ?_);refine qG ?hg (N:=2) ?hd (cs:=#[.slice z s.length A]) (t:=25) ?hr ?_;(case hd=>rfl);(case hg=>rfl);(case hr=>exact byab);intro B hg w5 hbox hb;have n_:=q_4 (qB byac hb) (hbox) ((bycn:w.heap.size≤B)) ((bycn:w.heap.size≤B));clear HB;obtain⟨HB,p,X,D⟩:=n_;clear hb hbox hg)));have n_:=q_2 (zK p.out) (jC HB.out);clear p HB;obtain⟨p,HB⟩:=n_;refine kX (n:=8) (S:=fun w'=>w'.cell? ⟨B,0,none⟩=some (.slice z s.length A)) (ds:=[]) (bb 8 0) (by kernel_rfl) rfl rfl ((qF p.out 0).trans rfl) (fun hHeld=>?_);refine uY jG.tab1 jG.bits1 (fun HT_ HW_=>?_);generalize w5.drew=w6 at p HB hHeld ⊢
 refine qM (i:=3) (N:=some 8) (bb 8 8) ?_;refine Je (i:=0) (N:=some 5) (bb 8 9) hHeld ?_;refine Je (i:=1) (N:=some 6) (bb 8 11) hHeld ?_;refine one_ (i:=2) (N:=some 7) (bb 8 15) rfl rfl (uM HT_.out (by kernel_rfl)) (by decide) (fun K hK=>?_);refine kS Try.func53 (by kernel_rfl) rfl #[.agg #[.slice z s.length A]] (by rfl) rfl rfl byah ?_;with_reducible refine(vT.calls _ _ s M _ ?side1 ?side2 A3.out).mono ?_
 (case side1=>exact byaq J);(case side2=>exact L.out);rintro e w7 ⟨rfl,hb⟩;refine⟨_,rfl,?_⟩;have n_:=q_2 (bbl p hb) (qB (byae D) hb);clear p HB;obtain⟨p,HB⟩:=n_;(try clear hb);(try clear hb2);(try clear hk);(try clear hi);refine hK.out _ _ ((qF p.out 0).trans rfl) (fun hHeld=>?_);clear hK K;refine uZ (N:=some 7) ?_;refine qM (i:=4) (N:=some 9) (bb 8 31) ?_;refine one_ (i:=5) (N:=some 10) (bb 8 63) rfl rfl (uM HT_.out (by kernel_rfl)) (by decide) (fun K hK=>?_);refine kS Try.func52 (by kernel_rfl) rfl #[.agg #[.slice z s.length A],.int .i64 (Go.bits .andNot .i64 M a1)] (by rfl) rfl rfl byah ?_;with_reducible refine(jX.calls k _ _ s (Go.bits .andNot .i64 M a1) T _ ?side1 ?side2 A4.out).mono ?_
 (case side1=>exact byaq J);(case side2=>exact L.out);rintro e w8 ⟨rfl,hb⟩;refine⟨_,rfl,?_⟩;have n_:=q_2 (bbl p hb) (qB (byae D) hb);clear p HB;obtain⟨p,HB⟩:=n_;(try clear hb);(try clear hb2);(try clear hk);(try clear hi);refine hK.out _ _ ((qF p.out 0).trans rfl) (fun hHeld=>?_);clear hK K;refine uZ (N:=some 10) ?_;refine qM (i:=6) (N:=some 11) (bb 8 127) ?_;refine qM (i:=7) (N:=some 4) (bb 8 255) ?_;refine Qv (Qd HT_.out (by kernel_rfl)) ?_;(try go_wp2);go_ret;exact⟨byad,byae D⟩
end Go.Proofs.Ytkkbdimegpdbgaa.P
