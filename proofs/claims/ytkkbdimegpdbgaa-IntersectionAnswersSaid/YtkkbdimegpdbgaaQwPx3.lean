/- Walks: the calls answer as Lean functions say; conditions: each theorem's own. -/
import Derived.Test.YtkkbdimegpdbgaaQwPx2
namespace Go.Proofs.Ytkkbdimegpdbgaa.P
open Go.RowKit Go.Proofs.YtkkbdimegpdbgaaW.PrintWords Go.Proofs.YtkkbdimegpdbgaaW.PrintLast Go.Proofs.YtkkbdimegpdbgaaW.PrintMore
attribute [local go_sem] kK kM Qa Qb uV uU kN kL
set_option linter.unusedVariables false
set_option linter.unusedSimpArgs false
def vV.f (k:Nat) (A:Bool) (p:Int) (r:List Int) (s:List (S56)) (a1:Int):Option (Int):=if A=true then((kP.f k p r s).bind fun z=>(if z=0 then((zV.f k p r s).bind fun B=>(if 0≤a1 then(if B≥(shl .i64 1 a1) then(some 5) else(some 0)) else(none))) else(some z))) else((Qm.f p r s).bind fun D=>(if D=true then(some 0) else(some 1)))
theorem vV.mono:∀a0 a1 a2 a3 a4 k,LeO (vV.f k a0 a1 a2 a3 a4) (vV.f (k+1) a0 a1 a2 a3 a4):=by
 intro a0 a1 a2 a3 a4 k;unfold vV.f;repeat' first
   |(with_reducible exact zV.mono _ _ _ _)
   |(with_reducible exact kP.mono _ _ _ _)
   |(with_reducible exact LeO.refl _)
   |(with_reducible exact LeO.none _)
   |(with_reducible refine LeO.ite ?_ ?_)
   |(with_reducible refine LeO.bind ?_ (fun _=>?_))
   |exact zV.mono _ _ _ _
   |exact kP.mono _ _ _ _
   |exact LeO.none _
   |refine LeO.ite ?_ ?_
   |refine LeO.bind ?_ (fun _=>?_)
set_option maxHeartbeats 8000000 in
set_option maxRecDepth 100000 in
theorem vV.calls (k:Nat) (Z:Bool) (B:Int) (G:Option Addr) (I:Nat) (z:List Int) (J:Option Addr) (L:Nat) (A:List (S56)) (a1:Int) (r:Int) (w:World) (a7:Kd.C (Kd.int .i64) w G z.length z) (a8:z.length≤I) (a9:Kd.C k56 w J A.length A) (aA:A.length≤L) (h:vV.f k Z B z A a1=some r):
  Calls Try.prog 49 #[.agg #[.bool Z,.int .i64 B,.slice G z.length I,.slice J A.length L],.int .i64 a1] w fun e w'=>e=.returned (.int .i64 r)∧Below w.heap.size w w':=by
 have hu58:=Try.underlying58;have hu56:=Try.underlying56;have M:=qA.mk a7;have O:=qA.mk a8;clear a7 a8;have T:=qA.mk a9;have U:=qA.mk aA;clear a9 aA;have HB:=qA.mk (Below.refl w.heap.size w);unfold vV.f at h;have H:=h;clear h;by_cases c3:Z=true
 ·subst c3;rw[if_pos rfl] at H;replace H:=Option.bind_eq_some_iff.mp H;obtain⟨Y,aE,H⟩:=H;(try dsimp only at H);have A4:=qA.mk aE;clear aE;by_cases c5:Y=0
  ·rw[if_pos c5] at H;obtain⟨aF,aG⟩:=eqT c5;clear c5;replace H:=Option.bind_eq_some_iff.mp H;obtain⟨aB,aH,H⟩:=H;(try dsimp only at H);have A6:=qA.mk aH;clear aH;by_cases c7:0≤a1
   ·rw[if_pos c7] at H;have bZ:=eq_true c7;have c0:=decide_eq_true c7;clear c7;obtain⟨bP,hji8⟩:∃j_:Int,(shl .i64 1 a1)=j_:=⟨_,rfl⟩;(first|rw[hji8] at H|(simp only[hji8] at H));(try rw[hji8] at A4);(try rw[hji8] at A6);obtain⟨bQ,bR,bT,bU,bV,bW⟩:=jiA hji8;by_cases c9:aB≥(bP)
    ·rw[if_pos c9] at H;have aI:=decide_eq_true c9;clear c9;obtain rfl:=Option.some.inj H;go_enter Try.func49,Try.ntmps49;(try go_wp2_with (first|((with_reducible refine qH (N:=2) rfl ?_);refine qG ?hg (N:=2) ?hd (cs:=#[.bool true,.int .i64 B,.slice G z.length I,.slice J A.length L]) (t:=58) ?hr ?_;(case hd=>rfl);(case hg=>rfl);(case hr=>exact byab);intro s hg c1 hbox hb;have n_:=q_4 (qB byac hb) (hbox) ((bycn:w.heap.size≤s)) ((bycn:w.heap.size≤s));clear HB;obtain⟨HB,p,X,D⟩:=n_;clear hb hbox hg;obtain⟨aJ,aK,aL,aM,aN,aO,aP,aQ⟩:=cz4 p.out)|((with_reducible refine qC (f:=69) rfl ?_);refine qV (some 15) rfl rfl Try.func69 (by kernel_rfl) rfl #[.agg #[.int .i64 B,.slice G z.length I,.slice J A.length L]] rfl byah ?_;(with_reducible refine(kP.calls k B _ _ z _ _ A Y _ ?side1 ?side2 ?side3 ?side4 A4.out).mono ?_);(case side1=>exact byaq M);(case side2=>exact O.out);(case side3=>exact byaq T);(case side4=>exact U.out);rintro e bX ⟨rfl,hb⟩;refine⟨_,rfl,?_⟩;have n_:=q_2 (bbl p hb) (qB (byae D) hb);clear p HB;obtain⟨p,HB⟩:=n_;clear hb)));have n_:=q_2 (zK p.out) (jC HB.out);clear p HB;obtain⟨p,HB⟩:=n_;refine kX (n:=6) (S:=fun w'=>w'.cell? ⟨s,0,none⟩=some (.bool true)∧w'.cell? ⟨s,1,none⟩=some (.int .i64 B)∧w'.cell? ⟨s,2,none⟩=some (.slice G z.length I)∧w'.cell? ⟨s,3,none⟩=some (.slice J A.length L)) (ds:=[]) (bb 6 0) (by kernel_rfl) rfl rfl (cv4 p.out) (fun hHeld=>?_);generalize bX.drew=cA at p HB hHeld ⊢
     refine Qj (i:=0) (N:=some 19) (bb 6 1) ?_;refine Qj (i:=3) (N:=some 22) (bb 6 9) ?_;refine Qj (i:=4) (N:=some 23) (bb 6 25) ?_;refine takeZA (i:=1) (N:=some 20) (bb 6 27) hHeld ?_;refine one_ (i:=2) (N:=some 21) (bb 6 31) rfl rfl (by kernel_rfl) (by decide) (fun K hK=>?_);refine kS Try.func70 (by kernel_rfl) rfl #[.agg #[.int .i64 B,.slice G z.length I,.slice J A.length L]] (by rfl) rfl rfl byah ?_;with_reducible refine(zV.calls k B _ _ z _ _ A aB _ ?side1 ?side2 ?side3 ?side4 A6.out).mono ?_
     (case side1=>exact byaq M);(case side2=>exact O.out);(case side3=>exact byaq T);(case side4=>exact U.out);rintro e cB ⟨rfl,hb⟩;refine⟨_,rfl,?_⟩;have n_:=q_2 (bbl p hb) (qB (byae D) hb);clear p HB;obtain⟨p,HB⟩:=n_;(try clear hb);(try clear hb2);(try clear hk);(try clear hi);refine hK.out _ _ (cv4 p.out) (fun hHeld=>?_);clear hK K;refine uZ (N:=some 21) ?_;refine Qj (i:=5) (N:=some 24) (bb 6 63) ?_;refine Qv (by kernel_rfl) ?_;(try go_wp2);go_ret;exact⟨byas,byae D⟩
    ·rw[if_neg c9] at H;have aI:=decide_eq_false c9;clear c9;obtain rfl:=Option.some.inj H;go_enter Try.func49,Try.ntmps49;(try go_wp2_with (first|((with_reducible refine qH (N:=2) rfl ?_);refine qG ?hg (N:=2) ?hd (cs:=#[.bool true,.int .i64 B,.slice G z.length I,.slice J A.length L]) (t:=58) ?hr ?_;(case hd=>rfl);(case hg=>rfl);(case hr=>exact byab);intro s hg cC hbox hb;have n_:=q_4 (qB byac hb) (hbox) ((bycn:w.heap.size≤s)) ((bycn:w.heap.size≤s));clear HB;obtain⟨HB,p,X,D⟩:=n_;clear hb hbox hg;obtain⟨aR,aS,aT,aU,aV,aW,aX,aY⟩:=cz4 p.out)|((with_reducible refine qC (f:=69) rfl ?_);refine qV (some 15) rfl rfl Try.func69 (by kernel_rfl) rfl #[.agg #[.int .i64 B,.slice G z.length I,.slice J A.length L]] rfl byah ?_;(with_reducible refine(kP.calls k B _ _ z _ _ A Y _ ?side1 ?side2 ?side3 ?side4 A4.out).mono ?_);(case side1=>exact byaq M);(case side2=>exact O.out);(case side3=>exact byaq T);(case side4=>exact U.out);rintro e bY ⟨rfl,hb⟩;refine⟨_,rfl,?_⟩;have n_:=q_2 (bbl p hb) (qB (byae D) hb);clear p HB;obtain⟨p,HB⟩:=n_;clear hb)));have n_:=q_2 (zK p.out) (jC HB.out);clear p HB;obtain⟨p,HB⟩:=n_;refine kX (n:=6) (S:=fun w'=>w'.cell? ⟨s,0,none⟩=some (.bool true)∧w'.cell? ⟨s,1,none⟩=some (.int .i64 B)∧w'.cell? ⟨s,2,none⟩=some (.slice G z.length I)∧w'.cell? ⟨s,3,none⟩=some (.slice J A.length L)) (ds:=[]) (bb 6 0) (by kernel_rfl) rfl rfl (cv4 p.out) (fun hHeld=>?_);generalize bY.drew=cD at p HB hHeld ⊢
     refine Qj (i:=0) (N:=some 19) (bb 6 1) ?_;refine Qj (i:=3) (N:=some 22) (bb 6 9) ?_;refine Qj (i:=4) (N:=some 23) (bb 6 25) ?_;refine takeZA (i:=1) (N:=some 20) (bb 6 27) hHeld ?_;refine one_ (i:=2) (N:=some 21) (bb 6 31) rfl rfl (by kernel_rfl) (by decide) (fun K hK=>?_);refine kS Try.func70 (by kernel_rfl) rfl #[.agg #[.int .i64 B,.slice G z.length I,.slice J A.length L]] (by rfl) rfl rfl byah ?_;with_reducible refine(zV.calls k B _ _ z _ _ A aB _ ?side1 ?side2 ?side3 ?side4 A6.out).mono ?_
     (case side1=>exact byaq M);(case side2=>exact O.out);(case side3=>exact byaq T);(case side4=>exact U.out);rintro e cE ⟨rfl,hb⟩;refine⟨_,rfl,?_⟩;have n_:=q_2 (bbl p hb) (qB (byae D) hb);clear p HB;obtain⟨p,HB⟩:=n_;(try clear hb);(try clear hb2);(try clear hk);(try clear hi);refine hK.out _ _ (cv4 p.out) (fun hHeld=>?_);clear hK K;refine uZ (N:=some 21) ?_;refine Qj (i:=5) (N:=some 24) (bb 6 63) ?_;refine Qv (by kernel_rfl) ?_;(try go_wp2);go_ret;exact⟨byas,byae D⟩
   ·rw[if_neg c7] at H;exact absurd H (by simp)
  ·rw[if_neg c5] at H;obtain⟨aF,aG⟩:=eqF c5;obtain rfl:=Option.some.inj H;go_enter Try.func49,Try.ntmps49;go_wp2_with (first|((with_reducible refine qH (N:=2) rfl ?_);refine qG ?hg (N:=2) ?hd (cs:=#[.bool true,.int .i64 B,.slice G z.length I,.slice J A.length L]) (t:=58) ?hr ?_;(case hd=>rfl);(case hg=>rfl);(case hr=>exact byab);intro s hg cF hbox hb;have n_:=q_4 (qB byac hb) (hbox) ((bycn:w.heap.size≤s)) ((bycn:w.heap.size≤s));clear HB;obtain⟨HB,p,X,D⟩:=n_;clear hb hbox hg;obtain⟨aZ,b0,b1,b2,b3,b4,b5,b6⟩:=cz4 p.out)|((with_reducible refine qC (f:=69) rfl ?_);refine qV (some 15) rfl rfl Try.func69 (by kernel_rfl) rfl #[.agg #[.int .i64 B,.slice G z.length I,.slice J A.length L]] rfl byah ?_;(with_reducible refine(kP.calls k B _ _ z _ _ A Y _ ?side1 ?side2 ?side3 ?side4 A4.out).mono ?_);(case side1=>exact byaq M);(case side2=>exact O.out);(case side3=>exact byaq T);(case side4=>exact U.out);rintro e cG ⟨rfl,hb⟩;refine⟨_,rfl,?_⟩;have n_:=q_2 (bbl p hb) (qB (byae D) hb);clear p HB;obtain⟨p,HB⟩:=n_;clear hb));go_ret;exact⟨byad,byae D⟩
 ·replace c3:=Bool.eq_false_iff.mpr c3;subst c3;rw[if_neg (show¬(false=true) by decide)] at H;replace H:=Option.bind_eq_some_iff.mp H;obtain⟨b7,aD,H⟩:=H;(try dsimp only at H);have b8:=qA.mk aD;clear aD;by_cases aC:b7=true
  ·subst aC;rw[if_pos rfl] at H;obtain rfl:=Option.some.inj H;go_enter Try.func49,Try.ntmps49;go_wp2_with (first|((with_reducible refine qH (N:=2) rfl ?_);refine qG ?hg (N:=2) ?hd (cs:=#[.bool false,.int .i64 B,.slice G z.length I,.slice J A.length L]) (t:=58) ?hr ?_;(case hd=>rfl);(case hg=>rfl);(case hr=>exact byab);intro s hg cH hbox hb;have n_:=q_4 (qB byac hb) (hbox) ((bycn:w.heap.size≤s)) ((bycn:w.heap.size≤s));clear HB;obtain⟨HB,p,X,D⟩:=n_;clear hb hbox hg;obtain⟨b9,bA,bB,bC,bD,bE,bF,bG⟩:=cz4 p.out)|((with_reducible refine qC (f:=68) rfl ?_);refine qV (some 11) rfl rfl Try.func68 (by kernel_rfl) rfl #[.agg #[.int .i64 B,.slice G z.length I,.slice J A.length L]] rfl byah ?_;(with_reducible refine(Qm.calls B _ _ z _ _ A true _ ?side1 ?side2 ?side3 ?side4 b8.out).mono ?_);(case side1=>exact byaq M);(case side2=>exact O.out);(case side3=>exact byaq T);(case side4=>exact U.out);rintro e cI ⟨rfl,hb⟩;refine⟨_,rfl,?_⟩;have n_:=q_2 (bbl p hb) (qB (byae D) hb);clear p HB;obtain⟨p,HB⟩:=n_;clear hb));go_ret;exact⟨byad,byae D⟩
  ·replace aC:=Bool.eq_false_iff.mpr aC;subst aC;rw[if_neg (show¬(false=true) by decide)] at H;obtain rfl:=Option.some.inj H;go_enter Try.func49,Try.ntmps49;go_wp2_with (first|((with_reducible refine qH (N:=2) rfl ?_);refine qG ?hg (N:=2) ?hd (cs:=#[.bool false,.int .i64 B,.slice G z.length I,.slice J A.length L]) (t:=58) ?hr ?_;(case hd=>rfl);(case hg=>rfl);(case hr=>exact byab);intro s hg cJ hbox hb;have n_:=q_4 (qB byac hb) (hbox) ((bycn:w.heap.size≤s)) ((bycn:w.heap.size≤s));clear HB;obtain⟨HB,p,X,D⟩:=n_;clear hb hbox hg;obtain⟨bH,bI,bJ,bK,bL,bM,bN,bO⟩:=cz4 p.out)|((with_reducible refine qC (f:=68) rfl ?_);refine qV (some 11) rfl rfl Try.func68 (by kernel_rfl) rfl #[.agg #[.int .i64 B,.slice G z.length I,.slice J A.length L]] rfl byah ?_;(with_reducible refine(Qm.calls B _ _ z _ _ A false _ ?side1 ?side2 ?side3 ?side4 b8.out).mono ?_);(case side1=>exact byaq M);(case side2=>exact O.out);(case side3=>exact byaq T);(case side4=>exact U.out);rintro e cK ⟨rfl,hb⟩;refine⟨_,rfl,?_⟩;have n_:=q_2 (bbl p hb) (qB (byae D) hb);clear p HB;obtain⟨p,HB⟩:=n_;clear hb));go_ret;exact⟨byad,byae D⟩
def zL.l0:Nat→List (S58)→Int→Int→List (S58)→Option (Int)
 |0,_,_,_,_=>none
 |k+1,s,A,p,r=>if p<A then(if 0≤p then(if p<(s.length:Int) then((vV.f k ((qU s p).f0) ((qU s p).f1.f0) ((qU s p).f1.f1) ((qU s p).f1.f2) (r.length:Int)).bind fun z=>(if z=0 then(zL.l0 k s A (wrap64 (p+1)) r) else(some z))) else(none)) else(none)) else(some 0)
def zL.f (k:Nat) (p:List (S58)):Option (Int):=if(p.length:Int)>10 then(some 3) else(zL.l0 k p (p.length:Int) 0 p)
theorem zL.mono_l:∀k,(∀y0 y1 y2 y3,LeO (zL.l0 k y0 y1 y2 y3) (zL.l0 (k+1) y0 y1 y2 y3))
 |0=>fun _ _ _ _ r h=>by simp[zL.l0] at h
 |k+1=>by
  have p:=zL.mono_l k
  ·intro y0 y1 y2 y3;unfold zL.l0;repeat' first
   |(with_reducible exact p _ _ _ _)
   |(with_reducible exact vV.mono _ _ _ _ _ _)
   |(with_reducible exact LeO.refl _)
   |(with_reducible exact LeO.none _)
   |(with_reducible refine LeO.ite ?_ ?_)
   |(with_reducible refine LeO.bind ?_ (fun _=>?_))
   |exact p _ _ _ _
   |exact vV.mono _ _ _ _ _ _
   |exact LeO.none _
   |refine LeO.ite ?_ ?_
   |refine LeO.bind ?_ (fun _=>?_)
theorem zL.mono:∀a0 k,LeO (zL.f k a0) (zL.f (k+1) a0):=by
 intro a0 k;have p:=zL.mono_l k;unfold zL.f;repeat' first
   |(with_reducible exact p _ _ _ _)
   |(with_reducible exact vV.mono _ _ _ _ _ _)
   |(with_reducible exact LeO.refl _)
   |(with_reducible exact LeO.none _)
   |(with_reducible refine LeO.ite ?_ ?_)
   |(with_reducible refine LeO.bind ?_ (fun _=>?_))
   |exact p _ _ _ _
   |exact vV.mono _ _ _ _ _ _
   |exact LeO.none _
   |refine LeO.ite ?_ ?_
   |refine LeO.bind ?_ (fun _=>?_)
set_option maxHeartbeats 8000000 in
set_option maxRecDepth 100000 in
theorem zL.calls (k:Nat) (aG:Option Addr) (a9:Nat) (s:List (S58)) (r:Int) (w:World) (aI:Kd.C k58 w aG s.length s) (aJ:s.length≤a9) (h:zL.f k s=some r):
  Calls Try.prog 35 #[.agg #[.slice aG s.length a9]] w fun e w'=>e=.returned (.int .i64 r)∧Below w.heap.size w w':=by
 have hu25:=Try.underlying25;have hu58:=Try.underlying58;have aK:=qA.mk aI;have bL:=qA.mk aJ;clear aI aJ;have HB:=qA.mk (Below.refl w.heap.size w);unfold zL.f at h;have H:=h;clear h;by_cases c2:(s.length:Int)>10
 ·rw[if_pos c2] at H;have aT:=decide_eq_true c2;have aU:decide (10<s.length)=true:=decide_eq_true (by omega);clear c2;obtain rfl:=Option.some.inj H;go_enter Try.func35,Try.ntmps35;go_wp2_with (first|((with_reducible refine qH (N:=1) rfl ?_);refine qG ?hg (N:=1) ?hd (cs:=#[.slice aG s.length a9]) (t:=25) ?hr ?_;(case hd=>rfl);(case hg=>rfl);(case hr=>exact byab);intro D hg w3 hbox hb;have n_:=q_4 (qB byac hb) (hbox) ((bycn:w.heap.size≤D)) ((bycn:w.heap.size≤D));clear HB;obtain⟨HB,z,aP,A⟩:=n_;clear hb hbox hg;obtain⟨bH,bI⟩:=cz1 z.out));go_ret;exact⟨byad,byae A⟩
 ·rw[if_neg c2] at H;have aT:=decide_eq_false c2;have aU:decide (10<s.length)=false:=decide_eq_false (by omega);clear c2;have H':=qA.mk H;clear H;go_enter Try.func35,Try.ntmps35;go_wp2_with (first|((with_reducible refine qH (N:=1) rfl ?_);refine qG ?hg (N:=1) ?hd (cs:=#[.slice aG s.length a9]) (t:=25) ?hr ?_;(case hd=>rfl);(case hg=>rfl);(case hr=>exact byab);intro D hg w5 hbox hb;have n_:=q_4 (qB byac hb) (hbox) ((bycn:w.heap.size≤D)) ((bycn:w.heap.size≤D));clear HB;obtain⟨HB,z,aP,A⟩:=n_;clear hb hbox hg;obtain⟨bJ,bK⟩:=cz1 z.out));go_loopg [13] k (fun kq bM w'=>∃(p:Int),bM=.int .i64 p∧qA (zL.l0 kq s (s.length:Int) p s=some r)∧qA (kq≤k)∧qA (w'.heap[D]? =some (.cells #[(.slice aG s.length a9)] 25 (0,0)))∧qA (Below w.heap.size w w'));case atStart=>exact⟨(0),byaf,H',⟨Nat.le_refl _⟩,⟨bq z⟩,⟨byae A⟩⟩
  case round=>
   clear H';obtain⟨p,rfl,HA,HK1,z,HB⟩:=hrel
   cases gk with
   |zero=>exact absurd HA.out (by simp[zL.l0])
   |succ k1=>
    have H:=HA.out;clear HA;simp only[zL.l0] at H;by_cases c7:p<(s.length:Int)
    ·rw[if_pos c7] at H;have aV:=decide_eq_true c7;clear c7;by_cases c8:0≤p
     ·rw[if_pos c8] at H;have bR:=decide_eq_true c8;clear c8;by_cases c9:p<(s.length:Int)
      ·rw[if_pos c9] at H;have bT:=decide_eq_true c9;clear c9;replace H:=Option.bind_eq_some_iff.mp H;obtain⟨aL,aO,H⟩:=H;(try dsimp only at H);have aW:=qA.mk aO;clear aO;by_cases aM:aL=0
       ·rw[if_pos aM] at H;obtain⟨aQ,aR⟩:=eqT aM;clear aM;have H':=qA.mk H;clear H;have aA:0≤(p:Int):=of_decide_eq_true byag;have aB:p<(s.length:Int):=of_decide_eq_true byag;obtain⟨aH,Y,Z,a7,a8,aN,K,L,M,O,T,hi136_2,U,hi136_3⟩:=Zp aK.out p aA aB
        cases aN
        replace K:=bc HB K;replace L:=bc HB L;replace M:=bc HB M;replace O:=bc HB O;have aC:=qA.mk hi136_2;have aD:=qA.mk T;clear hi136_2 T;have aE:=qA.mk hi136_3;have aF:=qA.mk U;clear hi136_3 U;replace aA:=eq_true aA;replace aB:=eq_true aB;go_wp2_with (first|((with_reducible refine qH (N:=4) rfl ?_);refine qG ?hg (N:=4) ?hd (cs:=#[.bool false,.int .i64 0,.slice none 0 0,.slice none 0 0]) (t:=58) ?hr ?_;(case hd=>rfl);(case hg=>rfl);(case hr=>exact byab);intro G hg bU hbox hb;have n_:=q_6 (bbl z hb) (qB (byae A) hb) (hbox) ((by rw[hg];exact(qI (byae A)):w.heap.size≤G)) ((by rw[hg];exact(qI (byae A)):w.heap.size≤G)) ((by rw[hg];exact Nat.ne_of_lt (bl z):D≠G));clear z HB;obtain⟨z,HB,I,aS,J,B⟩:=n_;have X:=ns B;clear hb hbox hg;have bN:=X.out;have bO:=B.out;obtain⟨aX,aY,aZ,b0,b1,b2,b3,b4⟩:=cz4 I.out;obtain⟨b5,b6⟩:=cz1 z.out)|((with_reducible refine qC (f:=49) rfl ?_);refine qV (some 21) rfl rfl Try.func49 (by kernel_rfl) rfl #[.agg #[.bool ((qU s p).f0),.int .i64 ((qU s p).f1.f0),.slice Y ((qU s p).f1.f1).length Z,.slice a7 ((qU s p).f1.f2).length a8],.int .i64 (s.length:Int)] rfl byah ?_;(with_reducible refine(vV.calls k1 ((qU s p).f0) ((qU s p).f1.f0) _ _ ((qU s p).f1.f1) _ _ ((qU s p).f1.f2) (s.length:Int) aL _ ?side1 ?side2 ?side3 ?side4 aW.out).mono ?_);(case side1=>exact Kd.vO aC.out (byaj A J));(case side2=>exact aD.out);(case side3=>exact Kd.vO aE.out (byaj A J));(case side4=>exact aF.out);rintro e bV ⟨rfl,hb⟩;refine⟨_,rfl,?_⟩;have n_:=q_3 (vC (g:=D) (o:=.cells #[.slice (some aH) s.length a9] 25 (0,0)) (byat B z) hb) (vC (g:=G) (o:=.cells #[.bool ((qU s p).f0),.int .i64 ((qU s p).f1.f0),.slice Y ((qU s p).f1.f1).length Z,.slice a7 ((qU s p).f1.f2).length a8] 58 (0,0)) (bp I) hb) (qB (byaj A J) hb);clear z I HB;obtain⟨z,I,HB⟩:=n_;clear hb));go_roundg k1;case measure=>have:=HK1.out;omega
        case rel=>exact⟨(wrap64 (p+1)),byaf,H',⟨byai⟩,⟨bq z⟩,⟨byaj A J⟩⟩
       ·rw[if_neg aM] at H;obtain⟨aQ,aR⟩:=eqF aM;obtain rfl:=Option.some.inj H;have aA:0≤(p:Int):=of_decide_eq_true byag;have aB:p<(s.length:Int):=of_decide_eq_true byag;obtain⟨aH,Y,Z,a7,a8,aN,K,L,M,O,T,hi136_2,U,hi136_3⟩:=Zp aK.out p aA aB
        cases aN
        replace K:=bc HB K;replace L:=bc HB L;replace M:=bc HB M;replace O:=bc HB O;have aC:=qA.mk hi136_2;have aD:=qA.mk T;clear hi136_2 T;have aE:=qA.mk hi136_3;have aF:=qA.mk U;clear hi136_3 U;replace aA:=eq_true aA;replace aB:=eq_true aB;go_wp2_with (first|((with_reducible refine qH (N:=4) rfl ?_);refine qG ?hg (N:=4) ?hd (cs:=#[.bool false,.int .i64 0,.slice none 0 0,.slice none 0 0]) (t:=58) ?hr ?_;(case hd=>rfl);(case hg=>rfl);(case hr=>exact byab);intro G hg bW hbox hb;have n_:=q_6 (bbl z hb) (qB (byae A) hb) (hbox) ((by rw[hg];exact(qI (byae A)):w.heap.size≤G)) ((by rw[hg];exact(qI (byae A)):w.heap.size≤G)) ((by rw[hg];exact Nat.ne_of_lt (bl z):D≠G));clear z HB;obtain⟨z,HB,I,aS,J,B⟩:=n_;have X:=ns B;clear hb hbox hg;have bP:=X.out;have bQ:=B.out;obtain⟨b7,b8,b9,bA,bB,bC,bD,bE⟩:=cz4 I.out;obtain⟨bF,bG⟩:=cz1 z.out)|((with_reducible refine qC (f:=49) rfl ?_);refine qV (some 21) rfl rfl Try.func49 (by kernel_rfl) rfl #[.agg #[.bool ((qU s p).f0),.int .i64 ((qU s p).f1.f0),.slice Y ((qU s p).f1.f1).length Z,.slice a7 ((qU s p).f1.f2).length a8],.int .i64 (s.length:Int)] rfl byah ?_;(with_reducible refine(vV.calls k1 ((qU s p).f0) ((qU s p).f1.f0) _ _ ((qU s p).f1.f1) _ _ ((qU s p).f1.f2) (s.length:Int) aL _ ?side1 ?side2 ?side3 ?side4 aW.out).mono ?_);(case side1=>exact Kd.vO aC.out (byaj A J));(case side2=>exact aD.out);(case side3=>exact Kd.vO aE.out (byaj A J));(case side4=>exact aF.out);rintro e bX ⟨rfl,hb⟩;refine⟨_,rfl,?_⟩;have n_:=q_3 (vC (g:=D) (o:=.cells #[.slice (some aH) s.length a9] 25 (0,0)) (byat B z) hb) (vC (g:=G) (o:=.cells #[.bool ((qU s p).f0),.int .i64 ((qU s p).f1.f0),.slice Y ((qU s p).f1.f1).length Z,.slice a7 ((qU s p).f1.f2).length a8] 58 (0,0)) (bp I) hb) (qB (byaj A J) hb);clear z I HB;obtain⟨z,I,HB⟩:=n_;clear hb));go_ret;exact⟨byad,byaj A J⟩
      ·rw[if_neg c9] at H;exact absurd H (by simp)
     ·rw[if_neg c8] at H;exact absurd H (by simp)
    ·rw[if_neg c7] at H;have aV:=decide_eq_false c7;clear c7;obtain rfl:=Option.some.inj H;go_wp2;go_ret;exact⟨byad,byae A⟩
def Zy.f (a0:Int):Option (Int):=some (Go.bits .and .i64 (wrap64 (IntKind.u64.wrap ((IntKind.u64.wrap ((IntKind.u64.wrap ((Go.bits .and .u64 (IntKind.u64.wrap (((IntKind.u64.wrap ((Go.bits .and .u64 ((IntKind.u64.wrap ((Go.bits .and .u64 (a0 / 2) 6148914691236517205)+(Go.bits .and .u64 a0 6148914691236517205))) / 4) 3689348814741910323)+(Go.bits .and .u64 (IntKind.u64.wrap ((Go.bits .and .u64 (a0 / 2) 6148914691236517205)+(Go.bits .and .u64 a0 6148914691236517205))) 3689348814741910323))) / 16)+(IntKind.u64.wrap ((Go.bits .and .u64 ((IntKind.u64.wrap ((Go.bits .and .u64 (a0 / 2) 6148914691236517205)+(Go.bits .and .u64 a0 6148914691236517205))) / 4) 3689348814741910323)+(Go.bits .and .u64 (IntKind.u64.wrap ((Go.bits .and .u64 (a0 / 2) 6148914691236517205)+(Go.bits .and .u64 a0 6148914691236517205))) 3689348814741910323))))) 1085102592571150095)+((Go.bits .and .u64 (IntKind.u64.wrap (((IntKind.u64.wrap ((Go.bits .and .u64 ((IntKind.u64.wrap ((Go.bits .and .u64 (a0 / 2) 6148914691236517205)+(Go.bits .and .u64 a0 6148914691236517205))) / 4) 3689348814741910323)+(Go.bits .and .u64 (IntKind.u64.wrap ((Go.bits .and .u64 (a0 / 2) 6148914691236517205)+(Go.bits .and .u64 a0 6148914691236517205))) 3689348814741910323))) / 16)+(IntKind.u64.wrap ((Go.bits .and .u64 ((IntKind.u64.wrap ((Go.bits .and .u64 (a0 / 2) 6148914691236517205)+(Go.bits .and .u64 a0 6148914691236517205))) / 4) 3689348814741910323)+(Go.bits .and .u64 (IntKind.u64.wrap ((Go.bits .and .u64 (a0 / 2) 6148914691236517205)+(Go.bits .and .u64 a0 6148914691236517205))) 3689348814741910323))))) 1085102592571150095) / 256)))+((IntKind.u64.wrap ((Go.bits .and .u64 (IntKind.u64.wrap (((IntKind.u64.wrap ((Go.bits .and .u64 ((IntKind.u64.wrap ((Go.bits .and .u64 (a0 / 2) 6148914691236517205)+(Go.bits .and .u64 a0 6148914691236517205))) / 4) 3689348814741910323)+(Go.bits .and .u64 (IntKind.u64.wrap ((Go.bits .and .u64 (a0 / 2) 6148914691236517205)+(Go.bits .and .u64 a0 6148914691236517205))) 3689348814741910323))) / 16)+(IntKind.u64.wrap ((Go.bits .and .u64 ((IntKind.u64.wrap ((Go.bits .and .u64 (a0 / 2) 6148914691236517205)+(Go.bits .and .u64 a0 6148914691236517205))) / 4) 3689348814741910323)+(Go.bits .and .u64 (IntKind.u64.wrap ((Go.bits .and .u64 (a0 / 2) 6148914691236517205)+(Go.bits .and .u64 a0 6148914691236517205))) 3689348814741910323))))) 1085102592571150095)+((Go.bits .and .u64 (IntKind.u64.wrap (((IntKind.u64.wrap ((Go.bits .and .u64 ((IntKind.u64.wrap ((Go.bits .and .u64 (a0 / 2) 6148914691236517205)+(Go.bits .and .u64 a0 6148914691236517205))) / 4) 3689348814741910323)+(Go.bits .and .u64 (IntKind.u64.wrap ((Go.bits .and .u64 (a0 / 2) 6148914691236517205)+(Go.bits .and .u64 a0 6148914691236517205))) 3689348814741910323))) / 16)+(IntKind.u64.wrap ((Go.bits .and .u64 ((IntKind.u64.wrap ((Go.bits .and .u64 (a0 / 2) 6148914691236517205)+(Go.bits .and .u64 a0 6148914691236517205))) / 4) 3689348814741910323)+(Go.bits .and .u64 (IntKind.u64.wrap ((Go.bits .and .u64 (a0 / 2) 6148914691236517205)+(Go.bits .and .u64 a0 6148914691236517205))) 3689348814741910323))))) 1085102592571150095) / 256))) / 65536)))+((IntKind.u64.wrap ((IntKind.u64.wrap ((Go.bits .and .u64 (IntKind.u64.wrap (((IntKind.u64.wrap ((Go.bits .and .u64 ((IntKind.u64.wrap ((Go.bits .and .u64 (a0 / 2) 6148914691236517205)+(Go.bits .and .u64 a0 6148914691236517205))) / 4) 3689348814741910323)+(Go.bits .and .u64 (IntKind.u64.wrap ((Go.bits .and .u64 (a0 / 2) 6148914691236517205)+(Go.bits .and .u64 a0 6148914691236517205))) 3689348814741910323))) / 16)+(IntKind.u64.wrap ((Go.bits .and .u64 ((IntKind.u64.wrap ((Go.bits .and .u64 (a0 / 2) 6148914691236517205)+(Go.bits .and .u64 a0 6148914691236517205))) / 4) 3689348814741910323)+(Go.bits .and .u64 (IntKind.u64.wrap ((Go.bits .and .u64 (a0 / 2) 6148914691236517205)+(Go.bits .and .u64 a0 6148914691236517205))) 3689348814741910323))))) 1085102592571150095)+((Go.bits .and .u64 (IntKind.u64.wrap (((IntKind.u64.wrap ((Go.bits .and .u64 ((IntKind.u64.wrap ((Go.bits .and .u64 (a0 / 2) 6148914691236517205)+(Go.bits .and .u64 a0 6148914691236517205))) / 4) 3689348814741910323)+(Go.bits .and .u64 (IntKind.u64.wrap ((Go.bits .and .u64 (a0 / 2) 6148914691236517205)+(Go.bits .and .u64 a0 6148914691236517205))) 3689348814741910323))) / 16)+(IntKind.u64.wrap ((Go.bits .and .u64 ((IntKind.u64.wrap ((Go.bits .and .u64 (a0 / 2) 6148914691236517205)+(Go.bits .and .u64 a0 6148914691236517205))) / 4) 3689348814741910323)+(Go.bits .and .u64 (IntKind.u64.wrap ((Go.bits .and .u64 (a0 / 2) 6148914691236517205)+(Go.bits .and .u64 a0 6148914691236517205))) 3689348814741910323))))) 1085102592571150095) / 256)))+((IntKind.u64.wrap ((Go.bits .and .u64 (IntKind.u64.wrap (((IntKind.u64.wrap ((Go.bits .and .u64 ((IntKind.u64.wrap ((Go.bits .and .u64 (a0 / 2) 6148914691236517205)+(Go.bits .and .u64 a0 6148914691236517205))) / 4) 3689348814741910323)+(Go.bits .and .u64 (IntKind.u64.wrap ((Go.bits .and .u64 (a0 / 2) 6148914691236517205)+(Go.bits .and .u64 a0 6148914691236517205))) 3689348814741910323))) / 16)+(IntKind.u64.wrap ((Go.bits .and .u64 ((IntKind.u64.wrap ((Go.bits .and .u64 (a0 / 2) 6148914691236517205)+(Go.bits .and .u64 a0 6148914691236517205))) / 4) 3689348814741910323)+(Go.bits .and .u64 (IntKind.u64.wrap ((Go.bits .and .u64 (a0 / 2) 6148914691236517205)+(Go.bits .and .u64 a0 6148914691236517205))) 3689348814741910323))))) 1085102592571150095)+((Go.bits .and .u64 (IntKind.u64.wrap (((IntKind.u64.wrap ((Go.bits .and .u64 ((IntKind.u64.wrap ((Go.bits .and .u64 (a0 / 2) 6148914691236517205)+(Go.bits .and .u64 a0 6148914691236517205))) / 4) 3689348814741910323)+(Go.bits .and .u64 (IntKind.u64.wrap ((Go.bits .and .u64 (a0 / 2) 6148914691236517205)+(Go.bits .and .u64 a0 6148914691236517205))) 3689348814741910323))) / 16)+(IntKind.u64.wrap ((Go.bits .and .u64 ((IntKind.u64.wrap ((Go.bits .and .u64 (a0 / 2) 6148914691236517205)+(Go.bits .and .u64 a0 6148914691236517205))) / 4) 3689348814741910323)+(Go.bits .and .u64 (IntKind.u64.wrap ((Go.bits .and .u64 (a0 / 2) 6148914691236517205)+(Go.bits .and .u64 a0 6148914691236517205))) 3689348814741910323))))) 1085102592571150095) / 256))) / 65536))) / 4294967296)))) 127)
set_option maxHeartbeats 8000000 in
set_option maxRecDepth 100000 in
theorem Zy.calls (a0:Int) (r:Int) (w:World) (h:Zy.f a0=some r):
  Calls Try.prog 92 #[.int .u64 a0] w fun e w'=>e=.returned (.int .i64 r)∧Qs w w':=by
 unfold Zy.f at h;have H:=h;clear h;obtain rfl:=Option.some.inj H;go_enter Try.func92,Try.ntmps92;go_wp2;go_ret;exact⟨byaf,byam⟩
def Z8.f (a0:Int):Option (Int):=(Zy.f a0).bind fun p=>(some p)
set_option maxHeartbeats 8000000 in
set_option maxRecDepth 100000 in
theorem Z8.calls (a0:Int) (r:Int) (w:World) (h:Z8.f a0=some r):
  Calls Try.prog 85 #[.int .u64 a0] w fun e w'=>e=.returned (.int .i64 r)∧Qs w w':=by
 unfold Z8.f at h;have H:=h;clear h;replace H:=Option.bind_eq_some_iff.mp H;obtain⟨p,s,H⟩:=H;(try dsimp only at H);have A2:=qA.mk s;clear s;obtain rfl:=Option.some.inj H;go_enter Try.func85,Try.ntmps85;go_wp2_with (first|((with_reducible refine qC (f:=92) rfl ?_);refine qV (some 7) rfl rfl Try.func92 (by kernel_rfl) rfl #[.int .u64 a0] rfl byah ?_;(with_reducible refine(Zy.calls a0 p _ A2.out).mono ?_);rintro e w' ⟨rfl,⟨nd,rfl⟩⟩;refine⟨_,rfl,?_⟩));go_ret;exact⟨byaf,byam⟩
def Ze.f (a0:Int):Option (Int):=(uD.f a0).bind fun p=>(if p=true then((Z8.f (IntKind.u64.wrap (a0))).bind fun r=>(some r)) else(some 0))
set_option maxHeartbeats 8000000 in
set_option maxRecDepth 100000 in
theorem Ze.calls (a0:Int) (r:Int) (w:World) (h:Ze.f a0=some r):
  Calls Try.prog 72 #[.int .i64 a0] w fun e w'=>e=.returned (.int .i64 r)∧Qs w w':=by
 unfold Ze.f at h;have H:=h;clear h;replace H:=Option.bind_eq_some_iff.mp H;obtain⟨p,s,H⟩:=H;(try dsimp only at H);have A2:=qA.mk s;clear s;by_cases c3:p=true
 ·subst c3;rw[if_pos rfl] at H;replace H:=Option.bind_eq_some_iff.mp H;obtain⟨z,A,H⟩:=H;(try dsimp only at H);have A4:=qA.mk A;clear A;obtain rfl:=Option.some.inj H;go_enter Try.func72,Try.ntmps72;go_wp2_with (first|((with_reducible refine qC (f:=73) rfl ?_);refine qV (some 4) rfl rfl Try.func73 (by kernel_rfl) rfl #[.int .i64 a0] rfl byah ?_;(with_reducible refine(uD.calls a0 true _ A2.out).mono ?_);rintro e w' ⟨rfl,⟨nd,rfl⟩⟩;refine⟨_,rfl,?_⟩)|((with_reducible refine qC (f:=85) rfl ?_);refine qV (some 8) rfl rfl Try.func85 (by kernel_rfl) rfl #[.int .u64 (IntKind.u64.wrap (a0))] rfl byah ?_;(with_reducible refine(Z8.calls (IntKind.u64.wrap (a0)) z _ A4.out).mono ?_);rintro e w' ⟨rfl,⟨nd,rfl⟩⟩;refine⟨_,rfl,?_⟩));go_ret;exact⟨byaf,byam⟩
 ·replace c3:=Bool.eq_false_iff.mpr c3;subst c3;rw[if_neg (show¬(false=true) by decide)] at H;obtain rfl:=Option.some.inj H;go_enter Try.func72,Try.ntmps72;go_wp2_with (first|((with_reducible refine qC (f:=73) rfl ?_);refine qV (some 4) rfl rfl Try.func73 (by kernel_rfl) rfl #[.int .i64 a0] rfl byah ?_;(with_reducible refine(uD.calls a0 false _ A2.out).mono ?_);rintro e w' ⟨rfl,⟨nd,rfl⟩⟩;refine⟨_,rfl,?_⟩));go_ret;exact⟨byaf,byam⟩
mutual
def jK.j0:Nat→Int→Int→Bool→Option (Int × Bool)
 |0,_,_,_=>none
 |k+1,x0,x1,z=>if z=true then(some (0,false)) else((Ze.f x0).bind fun p=>(jK.l0 k x1 p (wrap64 (x0+1))))
def jK.l0:Nat→Int→Int→Int→Option (Int × Bool)
 |0,_,_,_=>none
 |k+1,x1,x6,x7=>(kZ.f x7 x1).bind fun r=>(if r=true then((Ze.f x7).bind fun s=>(if s=x6 then(some (x7,true)) else(jK.l0 k x1 x6 (wrap64 (x7+1))))) else(if x6=x1 then(some (0,false)) else(if 0≤(wrap64 (x6+1)) then(some (wrap64 ((shl .i64 1 (wrap64 (x6+1))) - 1),true)) else(none))))
end
def jK.f (k:Nat) (a0:Int) (a1:Int):Option (Int × Bool):=if a1<0 then(jK.j0 k a0 a1 true) else(if a1>10 then(jK.j0 k a0 a1 true) else((kZ.f a0 a1).bind fun p=>(jK.j0 k a0 a1 (!p))))
theorem jK.mono_l:∀k,(∀y0 y1 y2,LeO (jK.j0 k y0 y1 y2) (jK.j0 (k+1) y0 y1 y2))∧(∀y0 y1 y2,LeO (jK.l0 k y0 y1 y2) (jK.l0 (k+1) y0 y1 y2))
 |0=>⟨fun _ _ _ r h=>by simp[jK.j0] at h,fun _ _ _ r h=>by simp[jK.l0] at h⟩
 |k+1=>by
  obtain⟨p,s⟩:=jK.mono_l k;refine⟨?_,?_⟩
  ·intro y0 y1 y2;unfold jK.j0;repeat' first
   |(with_reducible exact p _ _ _)
   |(with_reducible exact s _ _ _)
   |(with_reducible exact LeO.refl _)
   |(with_reducible exact LeO.none _)
   |(with_reducible refine LeO.ite ?_ ?_)
   |(with_reducible refine LeO.bind ?_ (fun _=>?_))
   |exact p _ _ _
   |exact s _ _ _
   |exact LeO.none _
   |refine LeO.ite ?_ ?_
   |refine LeO.bind ?_ (fun _=>?_)
  ·intro y0 y1 y2;unfold jK.l0;repeat' first
   |(with_reducible exact p _ _ _)
   |(with_reducible exact s _ _ _)
   |(with_reducible exact LeO.refl _)
   |(with_reducible exact LeO.none _)
   |(with_reducible refine LeO.ite ?_ ?_)
   |(with_reducible refine LeO.bind ?_ (fun _=>?_))
   |exact p _ _ _
   |exact s _ _ _
   |exact LeO.none _
   |refine LeO.ite ?_ ?_
   |refine LeO.bind ?_ (fun _=>?_)
theorem jK.mono:∀a0 a1 k,LeO (jK.f k a0 a1) (jK.f (k+1) a0 a1):=by
 intro a0 a1 k;obtain⟨p,r⟩:=jK.mono_l k;unfold jK.f;repeat' first
   |(with_reducible exact p _ _ _)
   |(with_reducible exact r _ _ _)
   |(with_reducible exact LeO.refl _)
   |(with_reducible exact LeO.none _)
   |(with_reducible refine LeO.ite ?_ ?_)
   |(with_reducible refine LeO.bind ?_ (fun _=>?_))
   |exact p _ _ _
   |exact r _ _ _
   |exact LeO.none _
   |refine LeO.ite ?_ ?_
   |refine LeO.bind ?_ (fun _=>?_)
set_option maxHeartbeats 8000000 in
set_option maxRecDepth 100000 in
theorem jK.calls (k:Nat) (a0:Int) (a1:Int) (r1:Int) (r2:Bool) (w:World) (h:jK.f k a0 a1=some (r1,r2)):
  Calls Try.prog 50 #[.int .i64 a0,.int .i64 a1] w fun e w'=>e=.returned (.tuple #[.int .i64 r1,.bool r2])∧Qs w w':=by
 unfold jK.f at h;have H:=h;clear h;have O:=qA.mk H;clear H;go_enter Try.func50,Try.ntmps50;go_upto_region 1 with(fail)
 go_cut[19] (fun aK wc=>∃(kq:Nat) (A:Bool),aK=.bool A∧qA (jK.j0 kq a0 a1 A=some (r1,r2))∧qA (kq≤k)∧Qs w wc);case first=>
  have H:=O.out;clear O;by_cases c4:a1<0
  ·rw[if_pos c4] at H;have B:=decide_eq_true c4;clear c4;(first|rw[B]|(simp only[Qo,Qw];rw[B])|skip);have H':=qA.mk H;clear H;go_wp2;go_meet;case rel=>exact⟨_,(true),byaf,H',⟨byap⟩,byam⟩
  ·rw[if_neg c4] at H;have B:=decide_eq_false c4;clear c4;(first|rw[B]|(simp only[Qo,Qw];rw[B])|skip);by_cases c5:a1>10
   ·rw[if_pos c5] at H;have Z:=decide_eq_true c5;clear c5;have H':=qA.mk H;clear H;go_wp2;go_meet;case rel=>exact⟨_,(true),byaf,H',⟨byap⟩,byam⟩
   ·rw[if_neg c5] at H;have Z:=decide_eq_false c5;clear c5;replace H:=Option.bind_eq_some_iff.mp H;obtain⟨L,a7,H⟩:=H;(try dsimp only at H);have A6:=qA.mk a7;clear a7;have H':=qA.mk H;clear H;go_wp2_with (first|(go_at_call 71;(with_reducible refine(kZ.calls a0 a1 L _ A6.out).mono ?_);rintro e w' ⟨rfl,⟨nd,rfl⟩⟩));go_meet;case rel=>exact⟨_,(!L),byaf,H',⟨byap⟩,byam⟩
 case rest=>
  clear O;obtain⟨kq,A,rfl,HA,HJ2,⟨mc2,rfl⟩⟩:=hcut
  cases kq with
  |zero=>exact absurd HA.out (by simp[jK.j0])
  |succ a8=>
   have H:=HA.out;clear HA;simp only[jK.j0] at H;by_cases c7:A=true
   ·subst c7;rw[if_pos rfl] at H;simp only[Option.some.injEq,Prod.mk.injEq] at H;obtain⟨rfl,rfl⟩:=H;go_wp2;go_ret2;exact⟨byaf,byam⟩
   ·replace c7:=Bool.eq_false_iff.mpr c7;subst c7;rw[if_neg (show¬(false=true) by decide)] at H;replace H:=Option.bind_eq_some_iff.mp H;obtain⟨z,a9,H⟩:=H;(try dsimp only at H);have A8:=qA.mk a9;clear a9;have H':=qA.mk H;clear H;go_wp2_with (first|((with_reducible refine qC (f:=72) rfl ?_);refine qV (some 21) rfl rfl Try.func72 (by kernel_rfl) rfl #[.int .i64 a0] rfl byah ?_;(with_reducible refine(Ze.calls a0 z _ A8.out).mono ?_);rintro e w' ⟨rfl,⟨nd,rfl⟩⟩;refine⟨_,rfl,?_⟩));go_loopg [7] a8 (fun kq v7 w'=>∃(p:Int),v7=.int .i64 p∧qA (jK.l0 kq a1 z p=some (r1,r2))∧qA (kq≤a8)∧Qs w w');case atStart=>exact⟨(wrap64 (a0+1)),byaf,H',⟨Nat.le_refl _⟩,byam⟩
    case round=>
     clear H';obtain⟨p,rfl,HA,HK2,⟨m2,rfl⟩⟩:=hrel
     cases gk with
     |zero=>exact absurd HA.out (by simp[jK.l0])
     |succ k2=>
      have H:=HA.out;clear HA;simp only[jK.l0] at H;replace H:=Option.bind_eq_some_iff.mp H;obtain⟨aA,aB,H⟩:=H;(try dsimp only at H);have A9:=qA.mk aB;clear aB;by_cases c10:aA=true
      ·subst c10;rw[if_pos rfl] at H;replace H:=Option.bind_eq_some_iff.mp H;obtain⟨D,M,H⟩:=H;(try dsimp only at H);have aC:=qA.mk M;clear M;by_cases G:D=z
       ·rw[if_pos G] at H;obtain⟨T,U⟩:=eqT G;clear G;simp only[Option.some.injEq,Prod.mk.injEq] at H;obtain⟨rfl,rfl⟩:=H;go_wp2_with (first|((with_reducible refine qC (f:=71) rfl ?_);refine qV (some 26) rfl rfl Try.func71 (by kernel_rfl) rfl #[.int .i64 p,.int .i64 a1] rfl byah ?_;(with_reducible refine(kZ.calls p a1 true _ A9.out).mono ?_);rintro e w' ⟨rfl,⟨nd,rfl⟩⟩;refine⟨_,rfl,?_⟩)|((with_reducible refine qC (f:=72) rfl ?_);refine qV (some 30) rfl rfl Try.func72 (by kernel_rfl) rfl #[.int .i64 p] rfl byah ?_;(with_reducible refine(Ze.calls p D _ aC.out).mono ?_);rintro e w' ⟨rfl,⟨nd,rfl⟩⟩;refine⟨_,rfl,?_⟩));go_ret2;exact⟨byaf,byam⟩
       ·rw[if_neg G] at H;obtain⟨T,U⟩:=eqF G;have H':=qA.mk H;clear H;go_wp2_with (first|((with_reducible refine qC (f:=71) rfl ?_);refine qV (some 26) rfl rfl Try.func71 (by kernel_rfl) rfl #[.int .i64 p,.int .i64 a1] rfl byah ?_;(with_reducible refine(kZ.calls p a1 true _ A9.out).mono ?_);rintro e w' ⟨rfl,⟨nd,rfl⟩⟩;refine⟨_,rfl,?_⟩)|((with_reducible refine qC (f:=72) rfl ?_);refine qV (some 30) rfl rfl Try.func72 (by kernel_rfl) rfl #[.int .i64 p] rfl byah ?_;(with_reducible refine(Ze.calls p D _ aC.out).mono ?_);rintro e w' ⟨rfl,⟨nd,rfl⟩⟩;refine⟨_,rfl,?_⟩));go_roundg k2;case measure=>have:=HJ2.out;have:=HK2.out;omega
        case rel=>exact⟨(wrap64 (p+1)),byaf,H',⟨byau⟩,byam⟩
      ·replace c10:=Bool.eq_false_iff.mpr c10;subst c10;rw[if_neg (show¬(false=true) by decide)] at H;by_cases I:z=a1
       ·rw[if_pos I] at H;obtain⟨X,Y⟩:=eqT I;clear I;simp only[Option.some.injEq,Prod.mk.injEq] at H;obtain⟨rfl,rfl⟩:=H;go_wp2_with (first|((with_reducible refine qC (f:=71) rfl ?_);refine qV (some 26) rfl rfl Try.func71 (by kernel_rfl) rfl #[.int .i64 p,.int .i64 a1] rfl byah ?_;(with_reducible refine(kZ.calls p a1 false _ A9.out).mono ?_);rintro e w' ⟨rfl,⟨nd,rfl⟩⟩;refine⟨_,rfl,?_⟩));go_ret2;exact⟨byaf,byam⟩
       ·rw[if_neg I] at H;obtain⟨X,Y⟩:=eqF I;obtain⟨J,r⟩:∃j_:Int,(wrap64 (z+1))=j_:=⟨_,rfl⟩;(first|rw[r] at H|(simp only[r] at H));(try rw[r] at A9);have aD:(IntKind.i64.wrap (z+1))=J:=(Qo _).trans r;by_cases K:0≤(J)
        ·rw[if_pos K] at H;have aL:=eq_true K;have aM:=decide_eq_true K;clear K;obtain⟨aN,s⟩:∃j_:Int,(shl .i64 1 (J))=j_:=⟨_,rfl⟩;(first|rw[s] at H|(simp only[s] at H));(try rw[s] at A9);obtain⟨aE,aF,aG,aH,aI,aJ⟩:=jiA s;simp only[Option.some.injEq,Prod.mk.injEq] at H;obtain⟨rfl,rfl⟩:=H;go_wp2_with (first|((with_reducible refine qC (f:=71) rfl ?_);refine qV (some 26) rfl rfl Try.func71 (by kernel_rfl) rfl #[.int .i64 p,.int .i64 a1] rfl byah ?_;(with_reducible refine(kZ.calls p a1 false _ A9.out).mono ?_);rintro e w' ⟨rfl,⟨nd,rfl⟩⟩;refine⟨_,rfl,?_⟩));go_ret2;exact⟨by first|rfl|(simp;done)|(simp only[← r,← s]<;>(first|rfl|simp))|(simp[*];done),byam⟩
        ·rw[if_neg K] at H;exact absurd H (by simp)
end Go.Proofs.Ytkkbdimegpdbgaa.P
