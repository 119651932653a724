/- Walks: the calls answer as Lean functions say; conditions: each theorem's own. -/
import Derived.Test.YtkkbdimegpdbgaaQwPx7
import Derived.Test.YtkkbdimegpdbgaaQwPx8
namespace Go.Proofs.Ytkkbdimegpdbgaa.P
open Go.RowKit Go.Proofs.YtkkbdimegpdbgaaW.PrintWords Go.Proofs.YtkkbdimegpdbgaaW.PrintLast Go.Proofs.YtkkbdimegpdbgaaW.PrintMore
attribute [local go_sem] kK kM Qa Qb uV uU kN kL
set_option linter.unusedVariables false
set_option linter.unusedSimpArgs false
def uP.f (k:Nat) (p:List (S58)) (r:Int) (s:Int) (z:List (S28)):Option (Bool):=(zL.f k p).bind fun A=>(if A=0 then((zS.f k r s z).bind fun B=>(if B≤20000 then((qO.f k p r s z 0 0).bind fun D=>(some D)) else(some false))) else(some false))
theorem uP.mono:∀a0 a1 a2 a3 k,LeO (uP.f k a0 a1 a2 a3) (uP.f (k+1) a0 a1 a2 a3):=by
 intro a0 a1 a2 a3 k;unfold uP.f;repeat' first
   |(with_reducible exact zL.mono _ _)
   |(with_reducible exact zS.mono _ _ _ _)
   |(with_reducible exact qO.mono _ _ _ _ _ _ _)
   |(with_reducible exact LeO.refl _)
   |(with_reducible exact LeO.none _)
   |(with_reducible refine LeO.ite ?_ ?_)
   |(with_reducible refine LeO.bind ?_ (fun _=>?_))
   |exact zL.mono _ _
   |exact zS.mono _ _ _ _
   |exact qO.mono _ _ _ _ _ _ _
   |exact LeO.none _
   |refine LeO.ite ?_ ?_
   |refine LeO.bind ?_ (fun _=>?_)
set_option maxHeartbeats 8000000 in
set_option maxRecDepth 100000 in
theorem uP.calls (k:Nat) (L:Option Addr) (M:Nat) (B:List (S58)) (O:Int) (T:Int) (Y:Option Addr) (Z:Nat) (K:List (S28)) (r:Bool) (w:World) (aA:Kd.C k58 w L B.length B) (aB:B.length≤M) (aC:Kd.C k28 w Y K.length K) (aD:K.length≤Z) (h:uP.f k B O T K=some r):
  Calls Try.prog 20 #[.agg #[.slice L B.length M],.agg #[.int .i64 O,.int .i64 T,.slice Y K.length Z]] w fun e w'=>e=.returned (.bool r)∧Below w.heap.size w w':=by
 have hu25:=Try.underlying25;have hu28:=Try.underlying28;have U:=qA.mk aA;have X:=qA.mk aB;clear aA aB;have a7:=qA.mk aC;have a8:=qA.mk aD;clear aC aD;have HB:=qA.mk (Below.refl w.heap.size w);unfold uP.f at h;have H:=h;clear h;replace H:=Option.bind_eq_some_iff.mp H;obtain⟨a9,aH,H⟩:=H;(try dsimp only at H);have A3:=qA.mk aH;clear aH;by_cases c4:a9=0
 ·rw[if_pos c4] at H;obtain⟨aI,aJ⟩:=eqT c4;clear c4;replace H:=Option.bind_eq_some_iff.mp H;obtain⟨aE,aK,H⟩:=H;(try dsimp only at H);have A5:=qA.mk aK;clear aK;by_cases c6:aE≤20000
  ·rw[if_pos c6] at H;have aL:=decide_eq_true c6;clear c6;replace H:=Option.bind_eq_some_iff.mp H;obtain⟨aM,aN,H⟩:=H;(try dsimp only at H);have A7:=qA.mk aN;clear aN;obtain rfl:=Option.some.inj H;go_enter Try.func20,Try.ntmps20;go_wp2_with (first|((with_reducible refine qH (N:=2) rfl ?_);refine qG ?hg (N:=2) ?hd (cs:=#[.slice L B.length M]) (t:=25) ?hr ?_;(case hd=>rfl);(case hg=>rfl);(case hr=>exact byab);intro D hg w8 hbox hb;have n_:=q_4 (qB byac hb) (hbox) ((bycn:w.heap.size≤D)) ((bycn:w.heap.size≤D));clear HB;obtain⟨HB,p,aF,z⟩:=n_;clear hb hbox hg)|((with_reducible refine qH (N:=3) rfl ?_);refine qG ?hg (N:=3) ?hd (cs:=#[.int .i64 O,.int .i64 T,.slice Y K.length Z]) (t:=28) ?hr ?_;(case hd=>rfl);(case hg=>rfl);(case hr=>exact byab);intro G hg w9 hbox hb;have n_:=q_6 (bbl p hb) (qB (byae z) hb) (hbox) ((by rw[hg];exact(qI (byae z)):w.heap.size≤G)) ((by rw[hg];exact(qI (byae z)):w.heap.size≤G)) ((by rw[hg];exact Nat.ne_of_lt (bl p):D≠G));clear p HB;obtain⟨p,HB,s,aG,I,A⟩:=n_;have J:=ns A;clear hb hbox hg;have bE:=A.out;have bF:=J.out;obtain⟨aO,aP⟩:=cz1 p.out)|((with_reducible refine qC (f:=35) rfl ?_);refine qV (some 6) rfl rfl Try.func35 (by kernel_rfl) rfl #[.agg #[.slice L B.length M]] rfl byah ?_;(with_reducible refine(zL.calls k _ _ B a9 _ ?side1 ?side2 A3.out).mono ?_);(case side1=>exact byaq U);(case side2=>exact X.out);rintro e bK ⟨rfl,hb⟩;refine⟨_,rfl,?_⟩;have n_:=q_3 (bbl p hb) (bbl s hb) (qB (byaj z I) hb);clear p s HB;obtain⟨p,s,HB⟩:=n_;clear hb;obtain⟨aQ,aR,aS,aT,aU,aV⟩:=cz3 s.out)|(go_at_call 22;(with_reducible refine(zS.calls k O T _ _ K aE _ ?side1 ?side2 A5.out).mono ?_);(case side1=>exact byaq a7);(case side2=>exact a8.out);rintro e bL ⟨rfl,hb⟩;have n_:=q_3 (bbl p hb) (bbl s hb) (qB (byaj z I) hb);clear p s HB;obtain⟨p,s,HB⟩:=n_;clear hb;obtain⟨aW,aX⟩:=cz1 p.out;obtain⟨aY,aZ,b0,b1,b2,b3⟩:=cz3 s.out)|(go_at_call 41;(with_reducible refine(qO.calls k _ _ B O T _ _ K 0 0 aM _ ?side1 ?side2 ?side3 ?side4 A7.out).mono ?_);(case side1=>exact byaq U);(case side2=>exact X.out);(case side3=>exact byaq a7);(case side4=>exact a8.out);rintro e bM ⟨rfl,hb⟩;have n_:=q_3 (bbl p hb) (bbl s hb) (qB (byaj z I) hb);clear p s HB;obtain⟨p,s,HB⟩:=n_;clear hb));go_ret;exact⟨byad,byaj z I⟩
  ·rw[if_neg c6] at H;have aL:=decide_eq_false c6;clear c6;obtain rfl:=Option.some.inj H;go_enter Try.func20,Try.ntmps20;go_wp2_with (first|((with_reducible refine qH (N:=2) rfl ?_);refine qG ?hg (N:=2) ?hd (cs:=#[.slice L B.length M]) (t:=25) ?hr ?_;(case hd=>rfl);(case hg=>rfl);(case hr=>exact byab);intro D hg bN hbox hb;have n_:=q_4 (qB byac hb) (hbox) ((bycn:w.heap.size≤D)) ((bycn:w.heap.size≤D));clear HB;obtain⟨HB,p,aF,z⟩:=n_;clear hb hbox hg)|((with_reducible refine qH (N:=3) rfl ?_);refine qG ?hg (N:=3) ?hd (cs:=#[.int .i64 O,.int .i64 T,.slice Y K.length Z]) (t:=28) ?hr ?_;(case hd=>rfl);(case hg=>rfl);(case hr=>exact byab);intro G hg bO hbox hb;have n_:=q_6 (bbl p hb) (qB (byae z) hb) (hbox) ((by rw[hg];exact(qI (byae z)):w.heap.size≤G)) ((by rw[hg];exact(qI (byae z)):w.heap.size≤G)) ((by rw[hg];exact Nat.ne_of_lt (bl p):D≠G));clear p HB;obtain⟨p,HB,s,aG,I,A⟩:=n_;have J:=ns A;clear hb hbox hg;have bG:=A.out;have bH:=J.out;obtain⟨b4,b5⟩:=cz1 p.out)|((with_reducible refine qC (f:=35) rfl ?_);refine qV (some 6) rfl rfl Try.func35 (by kernel_rfl) rfl #[.agg #[.slice L B.length M]] rfl byah ?_;(with_reducible refine(zL.calls k _ _ B a9 _ ?side1 ?side2 A3.out).mono ?_);(case side1=>exact byaq U);(case side2=>exact X.out);rintro e bP ⟨rfl,hb⟩;refine⟨_,rfl,?_⟩;have n_:=q_3 (bbl p hb) (bbl s hb) (qB (byaj z I) hb);clear p s HB;obtain⟨p,s,HB⟩:=n_;clear hb;obtain⟨b6,b7,b8,b9,bA,bB⟩:=cz3 s.out)|(go_at_call 22;(with_reducible refine(zS.calls k O T _ _ K aE _ ?side1 ?side2 A5.out).mono ?_);(case side1=>exact byaq a7);(case side2=>exact a8.out);rintro e bQ ⟨rfl,hb⟩;have n_:=q_3 (bbl p hb) (bbl s hb) (qB (byaj z I) hb);clear p s HB;obtain⟨p,s,HB⟩:=n_;clear hb));go_ret;exact⟨byad,byaj z I⟩
 ·rw[if_neg c4] at H;obtain⟨aI,aJ⟩:=eqF c4;obtain rfl:=Option.some.inj H;go_enter Try.func20,Try.ntmps20;go_wp2_with (first|((with_reducible refine qH (N:=2) rfl ?_);refine qG ?hg (N:=2) ?hd (cs:=#[.slice L B.length M]) (t:=25) ?hr ?_;(case hd=>rfl);(case hg=>rfl);(case hr=>exact byab);intro D hg bR hbox hb;have n_:=q_4 (qB byac hb) (hbox) ((bycn:w.heap.size≤D)) ((bycn:w.heap.size≤D));clear HB;obtain⟨HB,p,aF,z⟩:=n_;clear hb hbox hg)|((with_reducible refine qH (N:=3) rfl ?_);refine qG ?hg (N:=3) ?hd (cs:=#[.int .i64 O,.int .i64 T,.slice Y K.length Z]) (t:=28) ?hr ?_;(case hd=>rfl);(case hg=>rfl);(case hr=>exact byab);intro G hg bT hbox hb;have n_:=q_6 (bbl p hb) (qB (byae z) hb) (hbox) ((by rw[hg];exact(qI (byae z)):w.heap.size≤G)) ((by rw[hg];exact(qI (byae z)):w.heap.size≤G)) ((by rw[hg];exact Nat.ne_of_lt (bl p):D≠G));clear p HB;obtain⟨p,HB,s,aG,I,A⟩:=n_;have J:=ns A;clear hb hbox hg;have bI:=A.out;have bJ:=J.out;obtain⟨bC,bD⟩:=cz1 p.out)|((with_reducible refine qC (f:=35) rfl ?_);refine qV (some 6) rfl rfl Try.func35 (by kernel_rfl) rfl #[.agg #[.slice L B.length M]] rfl byah ?_;(with_reducible refine(zL.calls k _ _ B a9 _ ?side1 ?side2 A3.out).mono ?_);(case side1=>exact byaq U);(case side2=>exact X.out);rintro e bU ⟨rfl,hb⟩;refine⟨_,rfl,?_⟩;have n_:=q_3 (bbl p hb) (bbl s hb) (qB (byaj z I) hb);clear p s HB;obtain⟨p,s,HB⟩:=n_;clear hb));go_ret;exact⟨byad,byaj z I⟩
mutual
def zH.l0:Nat→Int→Int→Int→List Int→Option ((List (S58)))
 |0,_,_,_,_=>none
 |k+1,x0,x6,r,p=>if x6<x0 then(if p.length<17592186044416 then(zH.l0 k x0 (wrap64 (x6+1)) r (p++[x6])) else(none)) else(zH.l1 k x0 0 r p ([]:List (S58)))
def zH.l1:Nat→Int→Int→Int→List Int→List (S58)→Option ((List (S58)))
 |0,_,_,_,_,_=>none
 |k+1,x0,x8,r,p,s=>if x8<x0 then(if s.length<2199023255552 then(zH.l1 k x0 (wrap64 (x8+1)) r p (s++[(⟨true,(⟨r,p,([]:List (S56))⟩:S56)⟩:S58)])) else(none)) else(some s)
end
def zH.f (k:Nat) (a0:Int) (a1:Int):Option ((List (S58))):=zH.l0 k a0 0 a1 ([]:List Int)
theorem zH.mono_l:∀k,(∀y0 y1 y2 y3,LeO (zH.l0 k y0 y1 y2 y3) (zH.l0 (k+1) y0 y1 y2 y3))∧(∀y0 y1 y2 y3 y4,LeO (zH.l1 k y0 y1 y2 y3 y4) (zH.l1 (k+1) y0 y1 y2 y3 y4))
 |0=>⟨fun _ _ _ _ r h=>by simp[zH.l0] at h,fun _ _ _ _ _ r h=>by simp[zH.l1] at h⟩
 |k+1=>by
  obtain⟨p,s⟩:=zH.mono_l k;refine⟨?_,?_⟩
  ·intro y0 y1 y2 y3;unfold zH.l0;repeat' first
   |(with_reducible exact p _ _ _ _)
   |(with_reducible exact s _ _ _ _ _)
   |(with_reducible exact LeO.refl _)
   |(with_reducible exact LeO.none _)
   |(with_reducible refine LeO.ite ?_ ?_)
   |(with_reducible refine LeO.bind ?_ (fun _=>?_))
   |exact p _ _ _ _
   |exact s _ _ _ _ _
   |exact LeO.none _
   |refine LeO.ite ?_ ?_
   |refine LeO.bind ?_ (fun _=>?_)
  ·intro y0 y1 y2 y3 y4;unfold zH.l1;repeat' first
   |(with_reducible exact p _ _ _ _)
   |(with_reducible exact s _ _ _ _ _)
   |(with_reducible exact LeO.refl _)
   |(with_reducible exact LeO.none _)
   |(with_reducible refine LeO.ite ?_ ?_)
   |(with_reducible refine LeO.bind ?_ (fun _=>?_))
   |exact p _ _ _ _
   |exact s _ _ _ _ _
   |exact LeO.none _
   |refine LeO.ite ?_ ?_
   |refine LeO.bind ?_ (fun _=>?_)
theorem zH.mono:∀a0 a1 k,LeO (zH.f k a0 a1) (zH.f (k+1) a0 a1):=by
 intro a0 a1 k;obtain⟨p,r⟩:=zH.mono_l k;unfold zH.f;repeat' first
   |(with_reducible exact p _ _ _ _)
   |(with_reducible exact r _ _ _ _ _)
   |(with_reducible exact LeO.refl _)
   |(with_reducible exact LeO.none _)
   |(with_reducible refine LeO.ite ?_ ?_)
   |(with_reducible refine LeO.bind ?_ (fun _=>?_))
   |exact p _ _ _ _
   |exact r _ _ _ _ _
   |exact LeO.none _
   |refine LeO.ite ?_ ?_
   |refine LeO.bind ?_ (fun _=>?_)
set_option maxHeartbeats 8000000 in
set_option maxRecDepth 100000 in
theorem zH.calls (k:Nat) (a0:Int) (a1:Int) (r:List (S58)) (w:World) (h:zH.f k a0 a1=some r):
  Calls Try.prog 25 #[.int .i64 a0,.int .i64 a1] w fun e w'=>∃aY:Value,e=.returned (.agg #[aY])∧Kd.R k58 58 w' w.heap.size (fun _=>True) aY r∧Below w.heap.size w w':=by
 have hu25:=Try.underlying25;have hu56:=Try.underlying56;have hu58:=Try.underlying58;have HB:=qA.mk (Below.refl w.heap.size w);unfold zH.f at h;have H:=h;clear h;have H':=qA.mk H;clear H;go_enter Try.func25,Try.ntmps25;go_wp2_with (first|((with_reducible refine qH (N:=4) rfl ?_);refine qG ?hg (N:=4) ?hd (cs:=#[.slice none 0 0]) (t:=25) ?hr ?_;(case hd=>rfl);(case hg=>rfl);(case hr=>exact byab);intro O hg w3 hbox hb;have n_:=q_4 (qB byac hb) (hbox) ((bycn:w.heap.size≤O)) ((bycn:w.heap.size≤O));clear HB;obtain⟨HB,A,cE,I⟩:=n_;clear hb hbox hg)|((with_reducible refine qH (N:=5) rfl ?_);refine qG ?hg (N:=5) ?hd (cs:=#[.int .i64 0,.slice none 0 0,.slice none 0 0]) (t:=56) ?hr ?_;(case hd=>rfl);(case hg=>rfl);(case hr=>exact byab);intro K hg w4 hbox hb;have n_:=q_6 (bbl A hb) (qB (byae I) hb) (hbox) ((by rw[hg];exact(qI (byae I)):w.heap.size≤K)) ((by rw[hg];exact(qI (byae I)):w.heap.size≤K)) ((by rw[hg];exact Nat.ne_of_lt (bl A):O≠K));clear A HB;obtain⟨A,HB,B,cF,L,J⟩:=n_;have T:=ns J;clear hb hbox hg;have cU:=T.out;have cV:=J.out;obtain⟨c0,c1,cA,cB,cC,cD⟩:=cz3 B.out));go_loopg [6] k (fun kq v6 w'=>∃(Z:Int) (z:List Int) (u265001:Value),v6=.int .i64 Z∧qA (zH.l0 kq a0 Z a1 z=some r)∧qA (kq≤k)∧qA (Kd.R (Kd.int .i64) 3 w' w.heap.size (fun _=>True) u265001 z)∧qA (w'.heap[O]? =some (.cells #[(.slice none 0 0)] 25 (0,0)))∧qA (w'.heap[K]? =some (.cells #[.int .i64 a1,u265001,(.slice none 0 0)] 56 (0,0)))∧qA (Below w.heap.size w w'));case atStart=>exact⟨(0),(([]:List Int)),(.slice none 0 0),byaf,H',⟨Nat.le_refl _⟩,⟨byav⟩,⟨byak J A⟩,⟨bp B⟩,⟨byaj I L⟩⟩
 case round=>
  clear H';obtain⟨Z,z,u265001,rfl,HA,HK1,s,A,B,HB⟩:=hrel
  cases gk with
  |zero=>exact absurd HA.out (by simp[zH.l0])
  |succ k1=>
   have H:=HA.out;clear HA;simp only[zH.l0] at H;by_cases c7:Z<a0
   ·rw[if_pos c7] at H;have aZ:=decide_eq_true c7;clear c7;by_cases c8:z.length<17592186044416
    ·rw[if_pos c8] at H;have LMc8:=qA.mk c8;clear c8;(first|(with_reducible have n_:=bS H;obtain⟨aG,aA,H⟩:=n_)|(obtain⟨aG,aA⟩:∃y_:List Int,y_=(z++[Z]):=⟨_,rfl⟩;rw[← aA] at H));(try dsimp only at H);have Ny265:=qA.mk aA;clear aA;have H':=qA.mk H;clear H;have cW:=T.out;have cX:=J.out;obtain⟨b0,b1,b2,b3,b4,b5⟩:=cz3 B.out;go_wp2_with (first|((with_reducible refine vS (b:=.append) (xs:=#[.tmp 17,.tmp 19]) rfl ?_);at_builtin;refine Kd.Q8 (Kd.int .i64) (w0:=w) w.heap.size rfl (.tmp 17) (.tmp 19) 22 3 (.int .i64 0) 8 rfl Try.underlying22 info3 rfl (by decide) (by omega) u265001 z Z [.int .i64 Z] (fun _=>True) (fun _=>False) rfl rfl ?aP (fun _ hk=>hk.elim) ?aF ?aO ?aB ?aS ?aL ?_;(case aP=>exact rfl);(case aB=>exact(byaj I L));(case aF=>exact(fun _ _=>trivial));(case aO=>exact(pXR s));(case aS=>exact(qI (byaj I L)));(case aL=>have:=LMc8.out;omega);intro cY d0 ho hb hg hat;rw[← Ny265.out] at ho;have n_:=q_4 (jB (g:=O) (o:=.cells #[.slice none 0 0] 25 (0,0)) (bq A) hg (Kd.R_ne s.out A.out (by decide))) (jB (g:=K) (o:=.cells #[.int .i64 a1,u265001,.slice none 0 0] 56 (0,0)) (bq B) hg (Kd.R_ne s.out B.out (by decide))) (hb) (ho);clear A B HB s;obtain⟨A,B,HB,aI⟩:=n_;clear ho hb hg hat;obtain⟨aT,aU,b6⟩:=Kd.vK aI.out;subst b6;obtain⟨b7,b8,b9,bA,bB,bC⟩:=cz3 B.out));go_roundg k1;case measure=>have:=HK1.out;omega
     case rel=>exact⟨(wrap64 (Z+1)),(aG),(.slice aT aG.length aU),byaf,H',⟨byai⟩,⟨by(with_reducible repeat(first|apply Kd.uI|apply Kd.uH|apply Kd.uQ));exact Kd.vI (Kd.vU (p:=⟨K,1,none⟩) (Kd.vP aI.out B.out (by decide)) (fun _ hk=>hk.2) (.slice aT aG.length aU)) (fun _ hk=>trivial)⟩,⟨byba J A⟩,⟨bp B⟩,⟨byaj I L⟩⟩
    ·rw[if_neg c8] at H;exact absurd H (by simp)
   ·rw[if_neg c7] at H;have aZ:=decide_eq_false c7;clear c7;have H':=qA.mk H;clear H;go_wp2_with (first|((with_reducible refine qH (N:=7) rfl ?_);refine qG ?hg (N:=7) ?hd (cs:=#[.slice none 0 0]) (t:=25) ?hr ?_;(case hd=>rfl);(case hg=>rfl);(case hr=>exact byab);intro Y hg d1 hbox hb;have n_:=q_9 (Kd.kQ (pXR s) hb) (bbl A hb) (bbl B hb) (qB (byaj I L) hb) (hbox) ((by rw[hg];exact(qI (byaj I L)):w.heap.size≤Y)) ((by rw[hg];exact(qI (byaj I L)):w.heap.size≤Y)) ((by rw[hg];exact Nat.ne_of_lt (bl A):O≠Y)) ((by rw[hg];exact Nat.ne_of_lt (bl B):K≠Y));clear s A B HB;obtain⟨s,A,B,HB,M,cG,a7,U,X⟩:=n_;have a8:=ns U;have a9:=ns X;clear hb hbox hg));go_loopg [8] k1 (fun kq v8 w'=>∃(aD:Int) (G:List (S58)) (u269000:Value),v8=.int .i64 aD∧qA (zH.l1 kq a0 aD a1 z G=some r)∧qA (kq≤k1)∧qA (Kd.R (Kd.int .i64) 3 w' w.heap.size (fun _=>True) u265001 z)∧qA (Kd.R k58 58 w' w.heap.size (fun k_=>k_≠K) u269000 G)∧qA (w'.heap[O]? =some (.cells #[(.slice none 0 0)] 25 (0,0)))∧qA (w'.heap[K]? =some (.cells #[.int .i64 a1,u265001,(.slice none 0 0)] 56 (0,0)))∧qA (w'.heap[Y]? =some (.cells #[u269000] 25 (0,0)))∧qA (Below w.heap.size w w'));case atStart=>exact⟨(0),(([]:List (S58))),(.slice none 0 0),byaf,H',⟨Nat.le_refl _⟩,⟨pXR s⟩,⟨byav⟩,⟨bq A⟩,⟨bq B⟩,⟨bq M⟩,⟨bybb I L a7⟩⟩
    case round=>
     clear H';obtain⟨aD,G,u269000,rfl,HA,HK2,s,D,A,B,M,HB⟩:=hrel
     cases gk with
     |zero=>exact absurd HA.out (by simp[zH.l1])
     |succ k2=>
      have H:=HA.out;clear HA;simp only[zH.l1] at H;by_cases aH:aD<a0
      ·rw[if_pos aH] at H;have aX:=decide_eq_true aH;clear aH;by_cases aR:G.length<2199023255552
       ·rw[if_pos aR] at H;have LMc16:=qA.mk aR;clear aR;(first|(with_reducible have n_:=bS H;obtain⟨aE,aC,H⟩:=n_)|(obtain⟨aE,aC⟩:∃y_:List (S58),y_=(G++[(⟨true,(⟨a1,z,([]:List (S56))⟩:S56)⟩:S58)]):=⟨_,rfl⟩;rw[← aC] at H));(try dsimp only at H);have Ny269:=qA.mk aC;clear aC;have H':=qA.mk H;clear H;have cH:=a8.out;have cI:=U.out;have cJ:=a9.out;have cK:=X.out;obtain⟨bD,bE⟩:=cz1 M.out;have cL:=T.out;have cM:=J.out;obtain⟨bF,bG,bH,bI,bJ,bK⟩:=cz3 B.out;obtain⟨aJ,aK,bL⟩:=Kd.vK s.out;subst bL;go_wp2_with (first|((with_reducible refine vS (b:=.append) (xs:=#[.tmp 28,.tmp 31]) rfl ?_);at_builtin;refine Kd.Q8 k58 (w0:=w) w.heap.size rfl (.tmp 28) (.tmp 31) 23 58 (.agg #[(.bool false),(.int .i64 0),(.slice none 0 0),(.slice none 0 0)]) 64 rfl Try.underlying23 Jb rfl (by decide) (by omega) u269000 G (⟨true,(⟨a1,z,([]:List (S56))⟩:S56)⟩:S58) [.bool true,.int .i64 a1,.slice aJ z.length aK,.slice none 0 0] (fun k_=>k_≠K) (fun k_=>((fun k_=>k_≠K)) k_∧some k_≠(u269000:Value).ownBlock) rfl rfl ?aP (fun _ hk=>hk) ?aF ?aO ?aB ?aS ?aL ?_;(case aP=>exact k58_mkM _ _ _ (⟨true,(⟨a1,z,([]:List (S56))⟩:S56)⟩:S58) (Kd.vI (Kd.vP (Kd.Zx (s.out) (Kd.Zn D.out) (by decide)) B.out (by decide)) (fun k_ hk=>⟨hk.2,hk.1.2⟩)) (Kd.R_nil _ _ _ _ _));(case aB=>exact(bybb I L a7));(case aF=>exact(fun k_ hk=>Kd.jT (g:=K) (o:=.cells #[.int .i64 a1,.slice aJ z.length aK,.slice none 0 0] 56 (0,0)) (bq B) k_ hk));(case aO=>exact(vXR D));(case aS=>exact(qI (bybb I L a7)));(case aL=>have:=LMc16.out;omega);intro cZ d2 ho hb hg hat;rw[← Ny269.out] at ho;have bM:=qA.mk (jB (g:=O) (o:=.cells #[.slice none 0 0] 25 (0,0)) (bq A) hg (Kd.R_ne D.out A.out (by decide)));have bN:=qA.mk (jB (g:=K) (o:=.cells #[.int .i64 a1,.slice aJ z.length aK,.slice none 0 0] 56 (0,0)) (bq B) hg (Kd.R_ne D.out B.out (by decide)));have bO:=qA.mk (jB (g:=Y) (o:=.cells #[u269000] 25 (0,0)) (bq M) hg (Kd.R_ne D.out M.out (by decide)));have bP:=qA.mk (hb);have bQ:=qA.mk (ho);have cN:=qA.mk (Kd.R_over' (pXR s) (Kd.Zn D.out) (by decide) hg);clear A;clear B;clear M;clear HB;clear D;clear s;have s:=cN;have A:=bM;have B:=bN;have M:=bO;have HB:=bP;have aM:=bQ;clear bM bN bO bP bQ;clear ho hb hg hat;obtain⟨aN,aQ,bR⟩:=Kd.vK aM.out;subst bR;obtain⟨bT,bU⟩:=cz1 M.out));go_roundg k2;case measure=>have:=HK1.out;have:=HK2.out;omega
        case rel=>exact⟨(wrap64 (aD+1)),(aE),(.slice aN aE.length aQ),byaf,H',⟨byar⟩,⟨by(with_reducible repeat(first|apply Kd.uI|apply Kd.uH|apply Kd.uQ));exact Kd.vI (Kd.vU (p:=⟨Y,0,none⟩) (Kd.vP s.out M.out (by decide)) (fun _ hk=>hk.2) (.slice aN aE.length aQ)) (fun _ hk=>trivial)⟩,⟨by(with_reducible repeat(first|apply Kd.uI|apply Kd.uH|apply Kd.uQ));exact Kd.vI (Kd.vU (p:=⟨Y,0,none⟩) (Kd.vP aM.out M.out (by decide)) (fun _ hk=>hk.2) (.slice aN aE.length aQ)) (fun _ hk=>hk.1)⟩,⟨byba U A⟩,⟨byba X B⟩,⟨bp M⟩,⟨bybb I L a7⟩⟩
       ·rw[if_neg aR] at H;exact absurd H (by simp)
      ·rw[if_neg aH] at H;have aX:=decide_eq_false aH;clear aH;obtain rfl:=Option.some.inj H;have cO:=a8.out;have cP:=U.out;have cQ:=a9.out;have cR:=X.out;obtain⟨bV,bW⟩:=cz1 M.out;obtain⟨aV,aW,bX⟩:=Kd.vK D.out;subst bX;have cS:=J.out;have cT:=T.out;obtain⟨bY,bZ⟩:=cz1 A.out;go_wp2;refine bodyPost_ret (results_cell_row rfl _ _ O 25 #[.slice aV G.length aW] (0,0) _ rfl (bp A) Try.underlying25 rfl (by kernel_rfl)) rfl ?_;exact⟨_,byad,by(with_reducible repeat(first|apply Kd.uI|apply Kd.uH|apply Kd.uQ));exact Kd.vI (Kd.vU (p:=⟨O,0,none⟩) (Kd.vP D.out A.out (by decide)) (fun _ hk=>hk.2) (.slice aV G.length aW)) (fun _ hk=>trivial),bybb I L a7⟩
end Go.Proofs.Ytkkbdimegpdbgaa.P
