/- Walks: the calls answer as Lean functions say; conditions: each theorem's own. -/
import Derived.Test.YtkkbdimegpdbgaaQwPx3
import Derived.Test.YtkkbdimegpdbgaaQwPx4
namespace Go.Proofs.Ytkkbdimegpdbgaa.P
open Go.RowKit Go.Proofs.YtkkbdimegpdbgaaW.PrintWords Go.Proofs.YtkkbdimegpdbgaaW.PrintLast Go.Proofs.YtkkbdimegpdbgaaW.PrintMore
attribute [local go_sem] kK kM Qa Qb uV uU kN kL
set_option linter.unusedVariables false
set_option linter.unusedSimpArgs false
def kG.f (k:Nat) (p:List (S58)) (a1:Int):Option (Bool):=(uD.f a1).bind fun s=>(if s=true then(if a1=0 then(some false) else((kY.f k p a1).bind fun z=>(if z=true then((jJ.f k p a1).bind fun r=>(some (!r.2))) else(some false)))) else(some false))
theorem kG.mono:∀a0 a1 k,LeO (kG.f k a0 a1) (kG.f (k+1) a0 a1):=by
 intro a0 a1 k;unfold kG.f;repeat' first
   |(with_reducible exact kY.mono _ _ _)
   |(with_reducible exact jJ.mono _ _ _)
   |(with_reducible exact LeO.refl _)
   |(with_reducible exact LeO.none _)
   |(with_reducible refine LeO.ite ?_ ?_)
   |(with_reducible refine LeO.bind ?_ (fun _=>?_))
   |exact kY.mono _ _ _
   |exact jJ.mono _ _ _
   |exact LeO.none _
   |refine LeO.ite ?_ ?_
   |refine LeO.bind ?_ (fun _=>?_)
set_option maxHeartbeats 8000000 in
set_option maxRecDepth 100000 in
theorem kG.calls (k:Nat) (B:Option Addr) (D:Nat) (A:List (S58)) (a1:Int) (r:Bool) (w:World) (K:Kd.C k58 w B A.length A) (L:A.length≤D) (h:kG.f k A a1=some r):
  Calls Try.prog 51 #[.agg #[.slice B A.length D],.int .i64 a1] w fun e w'=>e=.returned (.bool r)∧Below w.heap.size w w':=by
 have hu25:=Try.underlying25;have G:=qA.mk K;have I:=qA.mk L;clear K L;have HB:=qA.mk (Below.refl w.heap.size w);unfold kG.f at h;have H:=h;clear h;replace H:=Option.bind_eq_some_iff.mp H;obtain⟨M,O,H⟩:=H;(try dsimp only at H);have A3:=qA.mk O;clear O;by_cases c4:M=true
 ·subst c4;rw[if_pos rfl] at H;by_cases c5:a1=0
  ·rw[if_pos c5] at H;obtain⟨T,U⟩:=eqT c5;clear c5;obtain rfl:=Option.some.inj H;go_enter Try.func51,Try.ntmps51;go_wp2_with (first|((with_reducible refine qH (N:=2) rfl ?_);refine qG ?hg (N:=2) ?hd (cs:=#[.slice B A.length D]) (t:=25) ?hr ?_;(case hd=>rfl);(case hg=>rfl);(case hr=>exact byab);intro z hg w6 hbox hb;have n_:=q_4 (qB byac hb) (hbox) ((bycn:w.heap.size≤z)) ((bycn:w.heap.size≤z));clear HB;obtain⟨HB,p,J,s⟩:=n_;clear hb hbox hg)|((with_reducible refine qC (f:=73) rfl ?_);refine qV (some 8) rfl rfl Try.func73 (by kernel_rfl) rfl #[.int .i64 a1] rfl byah ?_;(with_reducible refine(uD.calls a1 true _ A3.out).mono ?_);rintro e w' ⟨rfl,⟨nd,rfl⟩⟩;refine⟨_,rfl,?_⟩));go_ret;exact⟨byad,byae s⟩
  ·rw[if_neg c5] at H;obtain⟨T,U⟩:=eqF c5;replace H:=Option.bind_eq_some_iff.mp H;obtain⟨X,Y,H⟩:=H;(try dsimp only at H);have A7:=qA.mk Y;clear Y;by_cases c8:X=true
   ·subst c8;rw[if_pos rfl] at H;replace H:=Option.bind_eq_some_iff.mp H;obtain⟨⟨Z,a7⟩,a8,H⟩:=H;(try dsimp only at H);have A9:=qA.mk a8;clear a8;obtain rfl:=Option.some.inj H;go_enter Try.func51,Try.ntmps51;go_wp2_with (first|((with_reducible refine qH (N:=2) rfl ?_);refine qG ?hg (N:=2) ?hd (cs:=#[.slice B A.length D]) (t:=25) ?hr ?_;(case hd=>rfl);(case hg=>rfl);(case hr=>exact byab);intro z hg aF hbox hb;have n_:=q_4 (qB byac hb) (hbox) ((bycn:w.heap.size≤z)) ((bycn:w.heap.size≤z));clear HB;obtain⟨HB,p,J,s⟩:=n_;clear hb hbox hg)|((with_reducible refine qC (f:=73) rfl ?_);refine qV (some 8) rfl rfl Try.func73 (by kernel_rfl) rfl #[.int .i64 a1] rfl byah ?_;(with_reducible refine(uD.calls a1 true _ A3.out).mono ?_);rintro e w' ⟨rfl,⟨nd,rfl⟩⟩;refine⟨_,rfl,?_⟩;obtain⟨a9,aA⟩:=cz1 p.out)|(go_at_call 74;(with_reducible refine(kY.calls k _ _ A a1 true _ ?side1 ?side2 A7.out).mono ?_);(case side1=>repeat(first|exact(Kd.vO G.out (byae s))|(with_reducible refine Kd.Zu ?_ _)|(with_reducible refine Kd.Zt ?_ _)|(with_reducible refine Kd.Ja ?_)));(case side2=>exact I.out);rintro e aG ⟨rfl,hb⟩;have n_:=q_2 (bbl p hb) (qB (byae s) hb);clear p HB;obtain⟨p,HB⟩:=n_;clear hb;obtain⟨aB,aC⟩:=cz1 p.out)|((with_reducible refine qC (f:=75) rfl ?_);refine qV (some 23) rfl rfl Try.func75 (by kernel_rfl) rfl #[.agg #[.slice B A.length D],.int .i64 a1] rfl byah ?_;(with_reducible refine(jJ.calls k _ _ A a1 Z a7 _ ?side1 ?side2 A9.out).mono ?_);(case side1=>exact byaq G);(case side2=>exact I.out);rintro e aH ⟨rfl,hb⟩;refine⟨_,rfl,?_⟩;have n_:=q_2 (bbl p hb) (qB (byae s) hb);clear p HB;obtain⟨p,HB⟩:=n_;clear hb));go_ret;exact⟨byad,byae s⟩
   ·replace c8:=Bool.eq_false_iff.mpr c8;subst c8;rw[if_neg (show¬(false=true) by decide)] at H;obtain rfl:=Option.some.inj H;go_enter Try.func51,Try.ntmps51;go_wp2_with (first|((with_reducible refine qH (N:=2) rfl ?_);refine qG ?hg (N:=2) ?hd (cs:=#[.slice B A.length D]) (t:=25) ?hr ?_;(case hd=>rfl);(case hg=>rfl);(case hr=>exact byab);intro z hg aI hbox hb;have n_:=q_4 (qB byac hb) (hbox) ((bycn:w.heap.size≤z)) ((bycn:w.heap.size≤z));clear HB;obtain⟨HB,p,J,s⟩:=n_;clear hb hbox hg)|((with_reducible refine qC (f:=73) rfl ?_);refine qV (some 8) rfl rfl Try.func73 (by kernel_rfl) rfl #[.int .i64 a1] rfl byah ?_;(with_reducible refine(uD.calls a1 true _ A3.out).mono ?_);rintro e w' ⟨rfl,⟨nd,rfl⟩⟩;refine⟨_,rfl,?_⟩;obtain⟨aD,aE⟩:=cz1 p.out)|(go_at_call 74;(with_reducible refine(kY.calls k _ _ A a1 false _ ?side1 ?side2 A7.out).mono ?_);(case side1=>repeat(first|exact(Kd.vO G.out (byae s))|(with_reducible refine Kd.Zu ?_ _)|(with_reducible refine Kd.Zt ?_ _)|(with_reducible refine Kd.Ja ?_)));(case side2=>exact I.out);rintro e aJ ⟨rfl,hb⟩;have n_:=q_2 (bbl p hb) (qB (byae s) hb);clear p HB;obtain⟨p,HB⟩:=n_;clear hb));go_ret;exact⟨byad,byae s⟩
 ·replace c4:=Bool.eq_false_iff.mpr c4;subst c4;rw[if_neg (show¬(false=true) by decide)] at H;obtain rfl:=Option.some.inj H;go_enter Try.func51,Try.ntmps51;go_wp2_with (first|((with_reducible refine qH (N:=2) rfl ?_);refine qG ?hg (N:=2) ?hd (cs:=#[.slice B A.length D]) (t:=25) ?hr ?_;(case hd=>rfl);(case hg=>rfl);(case hr=>exact byab);intro z hg aK hbox hb;have n_:=q_4 (qB byac hb) (hbox) ((bycn:w.heap.size≤z)) ((bycn:w.heap.size≤z));clear HB;obtain⟨HB,p,J,s⟩:=n_;clear hb hbox hg)|((with_reducible refine qC (f:=73) rfl ?_);refine qV (some 8) rfl rfl Try.func73 (by kernel_rfl) rfl #[.int .i64 a1] rfl byah ?_;(with_reducible refine(uD.calls a1 false _ A3.out).mono ?_);rintro e w' ⟨rfl,⟨nd,rfl⟩⟩;refine⟨_,rfl,?_⟩));go_ret;exact⟨byad,byae s⟩
def jM.l0:Nat→Int→List Int→List (S58)→Option (Int × List Int)
 |0,_,_,_=>none
 |k+1,x1,x6,r=>(jJ.f k r x1).bind fun p=>(if p.2=true then(if x6.length<17592186044416 then(if 0≤p.1 then(jM.l0 k (Go.bits .andNot .i64 x1 (shl .i64 1 p.1)) (x6++[p.1]) r) else(none)) else(none)) else(some (x1,x6)))
def jM.f (k:Nat) (p:List (S58)) (a1:Int):Option (Int × List Int):=(uD.f a1).bind fun r=>(if r=true then((qZ.f k p).bind fun s=>(jM.l0 k (Go.bits .and .i64 a1 s) ([]:List Int) p)) else(some (0,([]:List Int))))
theorem jM.mono_l:∀k,(∀y0 y1 y2,LeO (jM.l0 k y0 y1 y2) (jM.l0 (k+1) y0 y1 y2))
 |0=>fun _ _ _ r h=>by simp[jM.l0] at h
 |k+1=>by
  have p:=jM.mono_l k
  ·intro y0 y1 y2;unfold jM.l0;repeat' first
   |(with_reducible exact p _ _ _)
   |(with_reducible exact jJ.mono _ _ _)
   |(with_reducible exact qZ.mono _ _)
   |(with_reducible exact LeO.refl _)
   |(with_reducible exact LeO.none _)
   |(with_reducible refine LeO.ite ?_ ?_)
   |(with_reducible refine LeO.bind ?_ (fun _=>?_))
   |exact p _ _ _
   |exact jJ.mono _ _ _
   |exact qZ.mono _ _
   |exact LeO.none _
   |refine LeO.ite ?_ ?_
   |refine LeO.bind ?_ (fun _=>?_)
theorem jM.mono:∀a0 a1 k,LeO (jM.f k a0 a1) (jM.f (k+1) a0 a1):=by
 intro a0 a1 k;have p:=jM.mono_l k;unfold jM.f;repeat' first
   |(with_reducible exact p _ _ _)
   |(with_reducible exact jJ.mono _ _ _)
   |(with_reducible exact qZ.mono _ _)
   |(with_reducible exact LeO.refl _)
   |(with_reducible exact LeO.none _)
   |(with_reducible refine LeO.ite ?_ ?_)
   |(with_reducible refine LeO.bind ?_ (fun _=>?_))
   |exact p _ _ _
   |exact jJ.mono _ _ _
   |exact qZ.mono _ _
   |exact LeO.none _
   |refine LeO.ite ?_ ?_
   |refine LeO.bind ?_ (fun _=>?_)
set_option maxHeartbeats 8000000 in
set_option maxRecDepth 100000 in
theorem jM.calls (k:Nat) (B:Option Addr) (D:Nat) (r:List (S58)) (a1:Int) (r1:Int) (r2:List Int) (w:World) (T:Kd.C k58 w B r.length r) (U:r.length≤D) (h:jM.f k r a1=some (r1,r2)):
  Calls Try.prog 76 #[.agg #[.slice B r.length D],.int .i64 a1] w fun e w'=>∃aA:Value,e=.returned (.tuple #[.int .i64 r1,aA])∧Kd.R (Kd.int .i64) 3 w' w.heap.size (fun _=>True) aA r2∧Below w.heap.size w w':=by
 have hu25:=Try.underlying25;have M:=qA.mk T;have O:=qA.mk U;clear T U;have HB:=qA.mk (Below.refl w.heap.size w);unfold jM.f at h;have H:=h;clear h;replace H:=Option.bind_eq_some_iff.mp H;obtain⟨aC,aD,H⟩:=H;(try dsimp only at H);have A3:=qA.mk aD;clear aD;by_cases c4:aC=true
 ·subst c4;rw[if_pos rfl] at H;replace H:=Option.bind_eq_some_iff.mp H;obtain⟨Z,aE,H⟩:=H;(try dsimp only at H);have A5:=qA.mk aE;clear aE;have H':=qA.mk H;clear H;go_enter Try.func76,Try.ntmps76;go_wp2_with (first|((with_reducible refine qH (N:=2) rfl ?_);refine qG ?hg (N:=2) ?hd (cs:=#[.slice B r.length D]) (t:=25) ?hr ?_;(case hd=>rfl);(case hg=>rfl);(case hr=>exact byab);intro A hg w6 hbox hb;have n_:=q_4 (qB byac hb) (hbox) ((bycn:w.heap.size≤A)) ((bycn:w.heap.size≤A));clear HB;obtain⟨HB,p,a8,s⟩:=n_;clear hb hbox hg)|((with_reducible refine qC (f:=73) rfl ?_);refine qV (some 10) rfl rfl Try.func73 (by kernel_rfl) rfl #[.int .i64 a1] rfl byah ?_;(with_reducible refine(uD.calls a1 true _ A3.out).mono ?_);rintro e w' ⟨rfl,⟨nd,rfl⟩⟩;refine⟨_,rfl,?_⟩;obtain⟨aQ,aR⟩:=cz1 p.out)|((with_reducible refine qC (f:=86) rfl ?_);refine qV (some 14) rfl rfl Try.func86 (by kernel_rfl) rfl #[.agg #[.slice B r.length D]] rfl byah ?_;(with_reducible refine(qZ.calls k _ _ r Z _ ?side1 ?side2 A5.out).mono ?_);(case side1=>repeat(first|exact(Kd.vO M.out (byae s))|(with_reducible refine Kd.Zu ?_ _)|(with_reducible refine Kd.Zt ?_ _)|(with_reducible refine Kd.Ja ?_)));(case side2=>exact O.out);rintro e w8 ⟨rfl,hb⟩;refine⟨_,rfl,?_⟩;have n_:=q_2 (bbl p hb) (qB (byae s) hb);clear p HB;obtain⟨p,HB⟩:=n_;clear hb));go_loopg [1,6] k (fun kq v1 v6 w'=>∃(G:Int) (K:List Int),v1=.int .i64 G∧qA (jM.l0 kq G K r=some (r1,r2))∧qA (kq≤k)∧qA (Kd.R (Kd.int .i64) 3 w' w.heap.size (fun _=>True) v6 K)∧qA (w'.heap[A]? =some (.cells #[(.slice B r.length D)] 25 (0,0)))∧qA (Below w.heap.size w w'));case atStart=>exact⟨(Go.bits .and .i64 a1 Z),(([]:List Int)),byaf,H',⟨Nat.le_refl _⟩,⟨byav⟩,⟨bq p⟩,⟨byae s⟩⟩
  case round=>
   clear H';obtain⟨G,K,rfl,HA,HK1,z,p,HB⟩:=hrel
   cases gk with
   |zero=>exact absurd HA.out (by simp[jM.l0])
   |succ k1=>
    have H:=HA.out;clear HA;simp only[jM.l0] at H;replace H:=Option.bind_eq_some_iff.mp H;obtain⟨⟨I,aG⟩,aH,H⟩:=H;(try dsimp only at H);have A9:=qA.mk aH;clear aH;by_cases c10:aG=true
    ·subst c10;rw[if_pos rfl] at H;by_cases Y:K.length<17592186044416
     ·rw[if_pos Y] at H;have LMc11:=qA.mk Y;clear Y;(first|(with_reducible have n_:=bS H;obtain⟨a7,L,H⟩:=n_)|(obtain⟨a7,L⟩:∃y_:List Int,y_=(K++[I]):=⟨_,rfl⟩;rw[← L] at H));(try dsimp only at H);have Ny181:=qA.mk L;clear L;by_cases X:0≤I
      ·rw[if_pos X] at H;have aZ:=eq_true X;have b0:=decide_eq_true X;clear X;obtain⟨aI,J⟩:∃j_:Int,(shl .i64 1 I)=j_:=⟨_,rfl⟩;(first|rw[J] at H|(simp only[J] at H));(try rw[J] at A9);obtain⟨aT,aU,aV,aW,aX,aY⟩:=jiA J;have H':=qA.mk H;clear H;obtain⟨aJ,aK⟩:=cz1 p.out;go_wp2_with (first|((with_reducible refine qC (f:=75) rfl ?_);refine qV (some 19) rfl rfl Try.func75 (by kernel_rfl) rfl #[.agg #[.slice B r.length D],.int .i64 G] rfl byah ?_;(with_reducible refine(jJ.calls k1 _ _ r G I true _ ?side1 ?side2 A9.out).mono ?_);(case side1=>exact byaq M);(case side2=>exact O.out);rintro e b2 ⟨rfl,hb⟩;refine⟨_,rfl,?_⟩;have n_:=q_3 (Kd.kQ (pXR z) hb) (bbl p hb) (qB (byae s) hb);clear z p HB;obtain⟨z,p,HB⟩:=n_;clear hb)|((with_reducible refine vS (b:=.append) (xs:=#[.tmp 26,.tmp 28]) rfl ?_);at_builtin;refine Kd.Q8 (Kd.int .i64) (w0:=w) w.heap.size rfl (.tmp 26) (.tmp 28) 22 3 (.int .i64 0) 8 rfl Try.underlying22 info3 rfl (by decide) (by omega) u6 K I [.int .i64 I] (fun _=>True) (fun _=>False) rfl rfl ?aP (fun _ hk=>hk.elim) ?aF ?aO ?aB ?aS ?aL ?_;(case aP=>exact rfl);(case aB=>exact(byae s));(case aF=>exact(fun _ _=>trivial));(case aO=>exact(pXR z));(case aS=>exact(qI (byae s)));(case aL=>have:=LMc11.out;omega);intro b1 b3 ho hb hg hat;rw[← Ny181.out] at ho;have n_:=q_3 (jB (g:=A) (o:=.cells #[.slice B r.length D] 25 (0,0)) (bq p) hg (Kd.R_ne z.out p.out (by decide))) (hb) (ho);clear p HB z;obtain⟨p,HB,a9⟩:=n_;clear ho hb hg hat));go_roundg k1;case measure=>have:=HK1.out;omega
       case rel=>exact⟨(Go.bits .andNot .i64 G (aI)),(a7),(by first|rfl|(simp;done)|(simp only[← J]<;>(first|rfl|simp))|(simp[*];done)),H',⟨byai⟩,⟨pXR a9⟩,⟨bq p⟩,⟨byae s⟩⟩
      ·rw[if_neg X] at H;exact absurd H (by simp)
     ·rw[if_neg Y] at H;exact absurd H (by simp)
    ·replace c10:=Bool.eq_false_iff.mpr c10;subst c10;rw[if_neg (show¬(false=true) by decide)] at H;simp only[Option.some.injEq,Prod.mk.injEq] at H;obtain⟨rfl,rfl⟩:=H;obtain⟨aM,aN⟩:=cz1 p.out;go_wp2_with (first|((with_reducible refine qC (f:=75) rfl ?_);refine qV (some 19) rfl rfl Try.func75 (by kernel_rfl) rfl #[.agg #[.slice B r.length D],.int .i64 G] rfl byah ?_;(with_reducible refine(jJ.calls k1 _ _ r G I false _ ?side1 ?side2 A9.out).mono ?_);(case side1=>exact byaq M);(case side2=>exact O.out);rintro e b4 ⟨rfl,hb⟩;refine⟨_,rfl,?_⟩;have n_:=q_3 (Kd.kQ (pXR z) hb) (bbl p hb) (qB (byae s) hb);clear z p HB;obtain⟨z,p,HB⟩:=n_;clear hb));go_ret2;exact⟨_,byad,pXR z,byae s⟩
 ·replace c4:=Bool.eq_false_iff.mpr c4;subst c4;rw[if_neg (show¬(false=true) by decide)] at H;simp only[Option.some.injEq,Prod.mk.injEq] at H;obtain⟨rfl,rfl⟩:=H;go_enter Try.func76,Try.ntmps76;go_wp2_with (first|((with_reducible refine qH (N:=2) rfl ?_);refine qG ?hg (N:=2) ?hd (cs:=#[.slice B r.length D]) (t:=25) ?hr ?_;(case hd=>rfl);(case hg=>rfl);(case hr=>exact byab);intro A hg b5 hbox hb;have n_:=q_4 (qB byac hb) (hbox) ((bycn:w.heap.size≤A)) ((bycn:w.heap.size≤A));clear HB;obtain⟨HB,p,a8,s⟩:=n_;clear hb hbox hg)|((with_reducible refine qC (f:=73) rfl ?_);refine qV (some 10) rfl rfl Try.func73 (by kernel_rfl) rfl #[.int .i64 a1] rfl byah ?_;(with_reducible refine(uD.calls a1 false _ A3.out).mono ?_);rintro e w' ⟨rfl,⟨nd,rfl⟩⟩;refine⟨_,rfl,?_⟩));go_ret2;exact⟨_,byad,byav,byae s⟩
def jX.f (k:Nat) (r:List (S58)) (a1:Int):Option (Int):=(jM.f k r a1).bind fun p=>(some p.1)
theorem jX.mono:∀a0 a1 k,LeO (jX.f k a0 a1) (jX.f (k+1) a0 a1):=by
 intro a0 a1 k;unfold jX.f;repeat' first
   |(with_reducible exact jM.mono _ _ _)
   |(with_reducible exact LeO.refl _)
   |(with_reducible exact LeO.none _)
   |(with_reducible refine LeO.ite ?_ ?_)
   |(with_reducible refine LeO.bind ?_ (fun _=>?_))
   |exact jM.mono _ _ _
   |exact LeO.none _
   |refine LeO.ite ?_ ?_
   |refine LeO.bind ?_ (fun _=>?_)
set_option maxHeartbeats 8000000 in
set_option maxRecDepth 100000 in
theorem jX.calls (k:Nat) (A:Option Addr) (B:Nat) (p:List (S58)) (a1:Int) (r:Int) (w:World) (D:Kd.C k58 w A p.length p) (G:p.length≤B) (h:jX.f k p a1=some r):
  Calls Try.prog 52 #[.agg #[.slice A p.length B],.int .i64 a1] w fun e w'=>e=.returned (.int .i64 r)∧Below w.heap.size w w':=by
 have hu25:=Try.underlying25;have J:=qA.mk D;have K:=qA.mk G;clear D G;have HB:=qA.mk (Below.refl w.heap.size w);unfold jX.f at h;have H:=h;clear h;replace H:=Option.bind_eq_some_iff.mp H;obtain⟨⟨L,M⟩,O,H⟩:=H;(try dsimp only at H);have A3:=qA.mk O;clear O;obtain rfl:=Option.some.inj H;go_enter Try.func52,Try.ntmps52;go_wp2_with (first|((with_reducible refine qH (N:=2) rfl ?_);refine qG ?hg (N:=2) ?hd (cs:=#[.slice A p.length B]) (t:=25) ?hr ?_;(case hd=>rfl);(case hg=>rfl);(case hr=>exact byab);intro I hg w4 hbox hb;have n_:=q_4 (qB byac hb) (hbox) ((bycn:w.heap.size≤I)) ((bycn:w.heap.size≤I));clear HB;obtain⟨HB,s,Y,z⟩:=n_;clear hb hbox hg;obtain⟨U,X⟩:=cz1 s.out)|((with_reducible refine qC (f:=76) rfl ?_);refine qV (some 10) rfl rfl Try.func76 (by kernel_rfl) rfl #[.agg #[.slice A p.length B],.int .i64 a1] rfl byah ?_;(with_reducible refine(jM.calls k _ _ p a1 L M _ ?side1 ?side2 A3.out).mono ?_);(case side1=>exact byaq J);(case side2=>exact K.out);rintro e w6 ⟨a7,rfl,T,hb⟩;refine⟨_,rfl,?_⟩;have n_:=q_3 (Kd.kF T (qI (byae z))) (bbl s hb) (qB (byae z) hb);clear s HB;obtain⟨Z,s,HB⟩:=n_;clear hb;(try clear T)));go_ret;exact⟨byad,byae z⟩
def vT.f (p:List (S58)):Option (Int):=some (wrap64 ((shl .i64 1 (p.length:Int)) - 1))
set_option maxHeartbeats 8000000 in
set_option maxRecDepth 100000 in
theorem vT.calls (s:Option Addr) (z:Nat) (p:List (S58)) (r:Int) (w:World) (A:Kd.C k58 w s p.length p) (B:p.length≤z) (h:vT.f p=some r):
  Calls Try.prog 53 #[.agg #[.slice s p.length z]] w fun e w'=>e=.returned (.int .i64 r)∧Below w.heap.size w w':=by
 have hu25:=Try.underlying25;have L:=qA.mk A;have M:=qA.mk B;clear A B;have HB:=qA.mk (Below.refl w.heap.size w);unfold vT.f at h;have H:=h;clear h;obtain⟨aC,hji2⟩:∃j_:Int,(shl .i64 1 (p.length:Int))=j_:=⟨_,rfl⟩;(first|rw[hji2] at H|(simp only[hji2] at H));obtain⟨O,T,U,X,Y,Z,a7,a8,a9,aA⟩:=jiB hji2;obtain rfl:=Option.some.inj H;go_enter Try.func53,Try.ntmps53;go_wp2_with (first|((with_reducible refine qH (N:=1) rfl ?_);refine qG ?hg (N:=1) ?hd (cs:=#[.slice s p.length z]) (t:=25) ?hr ?_;(case hd=>rfl);(case hg=>rfl);(case hr=>exact byab);intro D hg w3 hbox hb;have n_:=q_4 (qB byac hb) (hbox) ((bycn:w.heap.size≤D)) ((bycn:w.heap.size≤D));clear HB;obtain⟨HB,G,aB,I⟩:=n_;clear hb hbox hg;obtain⟨J,K⟩:=cz1 G.out));go_ret;exact⟨byaw,byae I⟩
def zY.l0:Nat→Int→Int→Bool→List (S58)→Option (Int × Int)
 |0,_,_,_,_=>none
 |k+1,x4,x5,x6,p=>if x6=true then((kG.f k p x5).bind fun A=>(if A=true then((vT.f p).bind fun B=>((jX.f k p (Go.bits .andNot .i64 B x5)).bind fun z=>(if z=0 then((jK.f k x5 x4).bind fun r=>(zY.l0 k x4 r.1 r.2 p)) else(some (x5,z))))) else((jK.f k x5 x4).bind fun s=>(zY.l0 k x4 s.1 s.2 p)))) else(some (0,0))
def zY.f (k:Nat) (p:List (S58)):Option (Int × Int):=zY.l0 k (p.length:Int) 0 true p
theorem zY.mono_l:∀k,(∀y0 y1 y2 y3,LeO (zY.l0 k y0 y1 y2 y3) (zY.l0 (k+1) y0 y1 y2 y3))
 |0=>fun _ _ _ _ r h=>by simp[zY.l0] at h
 |k+1=>by
  have p:=zY.mono_l k
  ·intro y0 y1 y2 y3;unfold zY.l0;repeat' first
   |(with_reducible exact p _ _ _ _)
   |(with_reducible exact jX.mono _ _ _)
   |(with_reducible exact kG.mono _ _ _)
   |(with_reducible exact jK.mono _ _ _)
   |(with_reducible exact LeO.refl _)
   |(with_reducible exact LeO.none _)
   |(with_reducible refine LeO.ite ?_ ?_)
   |(with_reducible refine LeO.bind ?_ (fun _=>?_))
   |exact p _ _ _ _
   |exact jX.mono _ _ _
   |exact kG.mono _ _ _
   |exact jK.mono _ _ _
   |exact LeO.none _
   |refine LeO.ite ?_ ?_
   |refine LeO.bind ?_ (fun _=>?_)
theorem zY.mono:∀a0 k,LeO (zY.f k a0) (zY.f (k+1) a0):=by
 intro a0 k;have p:=zY.mono_l k;unfold zY.f;repeat' first
   |(with_reducible exact p _ _ _ _)
   |(with_reducible exact jX.mono _ _ _)
   |(with_reducible exact kG.mono _ _ _)
   |(with_reducible exact jK.mono _ _ _)
   |(with_reducible exact LeO.refl _)
   |(with_reducible exact LeO.none _)
   |(with_reducible refine LeO.ite ?_ ?_)
   |(with_reducible refine LeO.bind ?_ (fun _=>?_))
   |exact p _ _ _ _
   |exact jX.mono _ _ _
   |exact kG.mono _ _ _
   |exact jK.mono _ _ _
   |exact LeO.none _
   |refine LeO.ite ?_ ?_
   |refine LeO.bind ?_ (fun _=>?_)
set_option maxHeartbeats 8000000 in
set_option maxRecDepth 100000 in
theorem zY.calls (k:Nat) (A:Option Addr) (B:Nat) (r:List (S58)) (r1:Int) (r2:Int) (w:World) (M:Kd.C k58 w A r.length r) (O:r.length≤B) (h:zY.f k r=some (r1,r2)):
  Calls Try.prog 36 #[.agg #[.slice A r.length B]] w fun e w'=>e=.returned (.tuple #[.int .i64 r1,.int .i64 r2])∧Below w.heap.size w w':=by
 have hu25:=Try.underlying25;have D:=qA.mk M;have G:=qA.mk O;clear M O;have HB:=qA.mk (Below.refl w.heap.size w);unfold zY.f at h;have H:=h;clear h;have H':=qA.mk H;clear H;go_enter Try.func36,Try.ntmps36;go_wp2_with (first|((with_reducible refine qH (N:=1) rfl ?_);refine qG ?hg (N:=1) ?hd (cs:=#[.slice A r.length B]) (t:=25) ?hr ?_;(case hd=>rfl);(case hg=>rfl);(case hr=>exact byab);intro I hg w2 hbox hb;have n_:=q_4 (qB byac hb) (hbox) ((bycn:w.heap.size≤I)) ((bycn:w.heap.size≤I));clear HB;obtain⟨HB,p,aN,z⟩:=n_;clear hb hbox hg;obtain⟨aL,aM⟩:=cz1 p.out));go_loopg [5,6] k (fun kq v5 v6 w'=>∃(s:Int) (L:Bool),v5=.int .i64 s∧v6=.bool L∧qA (zY.l0 kq (r.length:Int) s L r=some (r1,r2))∧qA (kq≤k)∧qA (w'.heap[I]? =some (.cells #[(.slice A r.length B)] 25 (0,0)))∧qA (Below w.heap.size w w'));case atStart=>exact⟨(0),(true),byaf,byaf,H',⟨Nat.le_refl _⟩,⟨bq p⟩,⟨byae z⟩⟩
 case round=>
  clear H';obtain⟨s,L,rfl,rfl,HA,HK1,p,HB⟩:=hrel
  cases gk with
  |zero=>exact absurd HA.out (by simp[zY.l0])
  |succ k1=>
   have H:=HA.out;clear HA;simp only[zY.l0] at H;by_cases c4:L=true
   ·subst c4;rw[if_pos rfl] at H;replace H:=Option.bind_eq_some_iff.mp H;obtain⟨a9,aA,H⟩:=H;(try dsimp only at H);have A5:=qA.mk aA;clear aA;by_cases c6:a9=true
    ·subst c6;rw[if_pos rfl] at H;replace H:=Option.bind_eq_some_iff.mp H;obtain⟨J,aB,H⟩:=H;(try dsimp only at H);have A7:=qA.mk aB;clear aB;replace H:=Option.bind_eq_some_iff.mp H;obtain⟨T,aC,H⟩:=H;(try dsimp only at H);have A8:=qA.mk aC;clear aC;by_cases c9:T=0
     ·rw[if_pos c9] at H;obtain⟨aD,aE⟩:=eqT c9;clear c9;replace H:=Option.bind_eq_some_iff.mp H;obtain⟨⟨U,X⟩,Y,H⟩:=H;(try dsimp only at H);have aO:=qA.mk Y;clear Y;have H':=qA.mk H;clear H;obtain⟨aF,aG⟩:=cz1 p.out;(try go_wp2_with (first|((with_reducible refine qC (f:=51) rfl ?_);refine qV (some 20) rfl rfl Try.func51 (by kernel_rfl) rfl #[.agg #[.slice A r.length B],.int .i64 s] rfl byah ?_;(with_reducible refine(kG.calls k1 _ _ r s true _ ?side1 ?side2 A5.out).mono ?_);(case side1=>exact byaq D);(case side2=>exact G.out);rintro e aP ⟨rfl,hb⟩;refine⟨_,rfl,?_⟩;have n_:=q_2 (bbl p hb) (qB (byae z) hb);clear p HB;obtain⟨p,HB⟩:=n_;clear hb)));have n_:=q_2 (zK p.out) (jC HB.out);clear p HB;obtain⟨p,HB⟩:=n_;refine kX (n:=7) (S:=fun w'=>w'.cell? ⟨I,0,none⟩=some (.slice A r.length B)) (ds:=[]) (bb 7 0) (by kernel_rfl) rfl rfl ((qF p.out 0).trans rfl) (fun hHeld=>?_);generalize aP.drew=aS at p HB hHeld ⊢
      refine Qj (i:=3) (N:=some 25) (bb 7 8) ?_;refine Zw (i:=0) (N:=some 22) (bb 7 9) hHeld ?_;refine Zw (i:=1) (N:=some 23) (bb 7 11) hHeld ?_;refine one_ (i:=2) (N:=some 24) (bb 7 15) rfl rfl (by kernel_rfl) (by decide) (fun K hK=>?_);refine kS Try.func53 (by kernel_rfl) rfl #[.agg #[.slice A r.length B]] (by rfl) rfl rfl byah ?_;with_reducible refine(vT.calls _ _ r J _ ?side1 ?side2 A7.out).mono ?_
      (case side1=>exact byaq D);(case side2=>exact G.out);rintro e aT ⟨rfl,hb⟩;refine⟨_,rfl,?_⟩;have n_:=q_2 (bbl p hb) (qB (byae z) hb);clear p HB;obtain⟨p,HB⟩:=n_;(try clear hb);(try clear hb2);(try clear hk);(try clear hi);refine hK.out _ _ ((qF p.out 0).trans rfl) (fun hHeld=>?_);clear hK K;refine uZ (N:=some 24) ?_;refine Qj (i:=4) (N:=some 26) (bb 7 31) ?_;refine one_ (i:=5) (N:=some 27) (bb 7 63) rfl rfl (by kernel_rfl) (by decide) (fun K hK=>?_);refine kS Try.func52 (by kernel_rfl) rfl #[.agg #[.slice A r.length B],.int .i64 (Go.bits .andNot .i64 J s)] (by rfl) rfl rfl byah ?_;with_reducible refine(jX.calls k1 _ _ r (Go.bits .andNot .i64 J s) T _ ?side1 ?side2 A8.out).mono ?_
      (case side1=>exact byaq D);(case side2=>exact G.out);rintro e aU ⟨rfl,hb⟩;refine⟨_,rfl,?_⟩;have n_:=q_2 (bbl p hb) (qB (byae z) hb);clear p HB;obtain⟨p,HB⟩:=n_;(try clear hb);(try clear hb2);(try clear hk);(try clear hi);refine hK.out _ _ ((qF p.out 0).trans rfl) (fun hHeld=>?_);clear hK K;refine uZ (N:=some 27) ?_;refine Qj (i:=6) (N:=some 7) (bb 7 127) ?_;refine Qv (by kernel_rfl) ?_;(try go_wp2_with (first|((with_reducible refine qC (f:=50) rfl ?_);refine qV (some 15) rfl rfl Try.func50 (by kernel_rfl) rfl #[.int .i64 s,.int .i64 (r.length:Int)] rfl byah ?_;(with_reducible refine(jK.calls k1 s (r.length:Int) U X _ aO.out).mono ?_);rintro e w' ⟨rfl,⟨nd,rfl⟩⟩;refine⟨_,rfl,?_⟩)));go_roundg k1;case measure=>have:=HK1.out;omega
      case rel=>exact⟨(U),(X),byaf,byaf,H',⟨byai⟩,⟨bq p⟩,⟨byae z⟩⟩
     ·rw[if_neg c9] at H;obtain⟨aD,aE⟩:=eqF c9;simp only[Option.some.injEq,Prod.mk.injEq] at H;obtain⟨rfl,rfl⟩:=H;obtain⟨aH,aI⟩:=cz1 p.out;(try go_wp2_with (first|((with_reducible refine qC (f:=51) rfl ?_);refine qV (some 20) rfl rfl Try.func51 (by kernel_rfl) rfl #[.agg #[.slice A r.length B],.int .i64 s] rfl byah ?_;(with_reducible refine(kG.calls k1 _ _ r s true _ ?side1 ?side2 A5.out).mono ?_);(case side1=>exact byaq D);(case side2=>exact G.out);rintro e aQ ⟨rfl,hb⟩;refine⟨_,rfl,?_⟩;have n_:=q_2 (bbl p hb) (qB (byae z) hb);clear p HB;obtain⟨p,HB⟩:=n_;clear hb)));have n_:=q_2 (zK p.out) (jC HB.out);clear p HB;obtain⟨p,HB⟩:=n_;refine kX (n:=7) (S:=fun w'=>w'.cell? ⟨I,0,none⟩=some (.slice A r.length B)) (ds:=[]) (bb 7 0) (by kernel_rfl) rfl rfl ((qF p.out 0).trans rfl) (fun hHeld=>?_);generalize aQ.drew=aV at p HB hHeld ⊢
      refine Qj (i:=3) (N:=some 25) (bb 7 8) ?_;refine Zw (i:=0) (N:=some 22) (bb 7 9) hHeld ?_;refine Zw (i:=1) (N:=some 23) (bb 7 11) hHeld ?_;refine one_ (i:=2) (N:=some 24) (bb 7 15) rfl rfl (by kernel_rfl) (by decide) (fun K hK=>?_);refine kS Try.func53 (by kernel_rfl) rfl #[.agg #[.slice A r.length B]] (by rfl) rfl rfl byah ?_;with_reducible refine(vT.calls _ _ r J _ ?side1 ?side2 A7.out).mono ?_
      (case side1=>exact byaq D);(case side2=>exact G.out);rintro e aW ⟨rfl,hb⟩;refine⟨_,rfl,?_⟩;have n_:=q_2 (bbl p hb) (qB (byae z) hb);clear p HB;obtain⟨p,HB⟩:=n_;(try clear hb);(try clear hb2);(try clear hk);(try clear hi);refine hK.out _ _ ((qF p.out 0).trans rfl) (fun hHeld=>?_);clear hK K;refine uZ (N:=some 24) ?_;refine Qj (i:=4) (N:=some 26) (bb 7 31) ?_;refine one_ (i:=5) (N:=some 27) (bb 7 63) rfl rfl (by kernel_rfl) (by decide) (fun K hK=>?_);refine kS Try.func52 (by kernel_rfl) rfl #[.agg #[.slice A r.length B],.int .i64 (Go.bits .andNot .i64 J s)] (by rfl) rfl rfl byah ?_;with_reducible refine(jX.calls k1 _ _ r (Go.bits .andNot .i64 J s) T _ ?side1 ?side2 A8.out).mono ?_
      (case side1=>exact byaq D);(case side2=>exact G.out);rintro e aX ⟨rfl,hb⟩;refine⟨_,rfl,?_⟩;have n_:=q_2 (bbl p hb) (qB (byae z) hb);clear p HB;obtain⟨p,HB⟩:=n_;(try clear hb);(try clear hb2);(try clear hk);(try clear hi);refine hK.out _ _ ((qF p.out 0).trans rfl) (fun hHeld=>?_);clear hK K;refine uZ (N:=some 27) ?_;refine Qj (i:=6) (N:=some 7) (bb 7 127) ?_;refine Qv (by kernel_rfl) ?_;(try go_wp2);go_ret2;exact⟨byad,byae z⟩
    ·replace c6:=Bool.eq_false_iff.mpr c6;subst c6;rw[if_neg (show¬(false=true) by decide)] at H;replace H:=Option.bind_eq_some_iff.mp H;obtain⟨⟨Z,a7⟩,a8,H⟩:=H;(try dsimp only at H);have aR:=qA.mk a8;clear a8;have H':=qA.mk H;clear H;obtain⟨aJ,aK⟩:=cz1 p.out;go_wp2_with (first|((with_reducible refine qC (f:=51) rfl ?_);refine qV (some 20) rfl rfl Try.func51 (by kernel_rfl) rfl #[.agg #[.slice A r.length B],.int .i64 s] rfl byah ?_;(with_reducible refine(kG.calls k1 _ _ r s false _ ?side1 ?side2 A5.out).mono ?_);(case side1=>exact byaq D);(case side2=>exact G.out);rintro e aY ⟨rfl,hb⟩;refine⟨_,rfl,?_⟩;have n_:=q_2 (bbl p hb) (qB (byae z) hb);clear p HB;obtain⟨p,HB⟩:=n_;clear hb)|((with_reducible refine qC (f:=50) rfl ?_);refine qV (some 15) rfl rfl Try.func50 (by kernel_rfl) rfl #[.int .i64 s,.int .i64 (r.length:Int)] rfl byah ?_;(with_reducible refine(jK.calls k1 s (r.length:Int) Z a7 _ aR.out).mono ?_);rintro e w' ⟨rfl,⟨nd,rfl⟩⟩;refine⟨_,rfl,?_⟩));go_roundg k1;case measure=>have:=HK1.out;omega
     case rel=>exact⟨(Z),(a7),byaf,byaf,H',⟨byai⟩,⟨bq p⟩,⟨byae z⟩⟩
   ·replace c4:=Bool.eq_false_iff.mpr c4;subst c4;rw[if_neg (show¬(false=true) by decide)] at H;simp only[Option.some.injEq,Prod.mk.injEq] at H;obtain⟨rfl,rfl⟩:=H;go_wp2;go_ret2;exact⟨byad,byae z⟩
def intersection_Holds.f (k:Nat) (p:List (S58)):Option (Bool × Int):=(zL.f k p).bind fun r=>(if r=0 then((zY.f k p).bind fun s=>(some ((s.1==0),0))) else(some (false,r)))
theorem intersection_Holds.mono:∀a0 k,LeO (intersection_Holds.f k a0) (intersection_Holds.f (k+1) a0):=by
 intro a0 k;unfold intersection_Holds.f;repeat' first
   |(with_reducible exact zL.mono _ _)
   |(with_reducible exact zY.mono _ _)
   |(with_reducible exact LeO.refl _)
   |(with_reducible exact LeO.none _)
   |(with_reducible refine LeO.ite ?_ ?_)
   |(with_reducible refine LeO.bind ?_ (fun _=>?_))
   |exact zL.mono _ _
   |exact zY.mono _ _
   |exact LeO.none _
   |refine LeO.ite ?_ ?_
   |refine LeO.bind ?_ (fun _=>?_)
set_option maxHeartbeats 8000000 in
set_option maxRecDepth 100000 in
theorem intersection_Holds.calls (k:Nat) (z:Option Addr) (A:Nat) (r:List (S58)) (r1:Bool) (r2:Int) (w:World) (I:Kd.C k58 w z r.length r) (J:r.length≤A) (h:intersection_Holds.f k r=some (r1,r2)):
  Calls Try.prog 14 #[.agg #[.slice z r.length A]] w fun e w'=>e=.returned (.tuple #[.bool r1,.int .i64 r2])∧Below w.heap.size w w':=by
 have hu25:=Try.underlying25;have D:=qA.mk I;have G:=qA.mk J;clear I J;have HB:=qA.mk (Below.refl w.heap.size w);unfold intersection_Holds.f at h;have H:=h;clear h;replace H:=Option.bind_eq_some_iff.mp H;obtain⟨K,M,H⟩:=H;(try dsimp only at H);have A2:=qA.mk M;clear M;by_cases c3:K=0
 ·rw[if_pos c3] at H;obtain⟨O,T⟩:=eqT c3;clear c3;replace H:=Option.bind_eq_some_iff.mp H;obtain⟨⟨U,X⟩,Y,H⟩:=H;(try dsimp only at H);have A4:=qA.mk Y;clear Y;simp only[Option.some.injEq,Prod.mk.injEq] at H;obtain⟨rfl,rfl⟩:=H;go_enter Try.func14,Try.ntmps14;go_wp2_with (first|((with_reducible refine qH (N:=1) rfl ?_);refine qG ?hg (N:=1) ?hd (cs:=#[.slice z r.length A]) (t:=25) ?hr ?_;(case hd=>rfl);(case hg=>rfl);(case hr=>exact byab);intro B hg w5 hbox hb;have n_:=q_4 (qB byac hb) (hbox) ((bycn:w.heap.size≤B)) ((bycn:w.heap.size≤B));clear HB;obtain⟨HB,p,L,s⟩:=n_;clear hb hbox hg;obtain⟨a8,a9⟩:=cz1 p.out)|((with_reducible refine qC (f:=35) rfl ?_);refine qV (some 8) rfl rfl Try.func35 (by kernel_rfl) rfl #[.agg #[.slice z r.length A]] rfl byah ?_;(with_reducible refine(zL.calls k _ _ r K _ ?side1 ?side2 A2.out).mono ?_);(case side1=>exact byaq D);(case side2=>exact G.out);rintro e w7 ⟨rfl,hb⟩;refine⟨_,rfl,?_⟩;have n_:=q_2 (bbl p hb) (qB (byae s) hb);clear p HB;obtain⟨p,HB⟩:=n_;clear hb;obtain⟨aA,aB⟩:=cz1 p.out)|((with_reducible refine qC (f:=36) rfl ?_);refine qV (some 14) rfl rfl Try.func36 (by kernel_rfl) rfl #[.agg #[.slice z r.length A]] rfl byah ?_;(with_reducible refine(zY.calls k _ _ r U X _ ?side1 ?side2 A4.out).mono ?_);(case side1=>exact byaq D);(case side2=>exact G.out);rintro e w9 ⟨rfl,hb⟩;refine⟨_,rfl,?_⟩;have n_:=q_2 (bbl p hb) (qB (byae s) hb);clear p HB;obtain⟨p,HB⟩:=n_;clear hb));go_ret2;exact⟨byad,byae s⟩
 ·rw[if_neg c3] at H;obtain⟨O,T⟩:=eqF c3;simp only[Option.some.injEq,Prod.mk.injEq] at H;obtain⟨rfl,rfl⟩:=H;go_enter Try.func14,Try.ntmps14;go_wp2_with (first|((with_reducible refine qH (N:=1) rfl ?_);refine qG ?hg (N:=1) ?hd (cs:=#[.slice z r.length A]) (t:=25) ?hr ?_;(case hd=>rfl);(case hg=>rfl);(case hr=>exact byab);intro B hg aC hbox hb;have n_:=q_4 (qB byac hb) (hbox) ((bycn:w.heap.size≤B)) ((bycn:w.heap.size≤B));clear HB;obtain⟨HB,p,L,s⟩:=n_;clear hb hbox hg;obtain⟨Z,a7⟩:=cz1 p.out)|((with_reducible refine qC (f:=35) rfl ?_);refine qV (some 8) rfl rfl Try.func35 (by kernel_rfl) rfl #[.agg #[.slice z r.length A]] rfl byah ?_;(with_reducible refine(zL.calls k _ _ r K _ ?side1 ?side2 A2.out).mono ?_);(case side1=>exact byaq D);(case side2=>exact G.out);rintro e aD ⟨rfl,hb⟩;refine⟨_,rfl,?_⟩;have n_:=q_2 (bbl p hb) (qB (byae s) hb);clear p HB;obtain⟨p,HB⟩:=n_;clear hb));go_ret2;exact⟨byad,byae s⟩
def intersection_Disjoint.f (k:Nat) (r:List (S58)):Option (Int × Int × Int):=(zL.f k r).bind fun s=>(if s=0 then((zY.f k r).bind fun p=>(if p.1=0 then(some (0,0,11)) else(some (p.1,p.2,0)))) else(some (0,0,s)))
theorem intersection_Disjoint.mono:∀a0 k,LeO (intersection_Disjoint.f k a0) (intersection_Disjoint.f (k+1) a0):=by
 intro a0 k;unfold intersection_Disjoint.f;repeat' first
   |(with_reducible exact zL.mono _ _)
   |(with_reducible exact zY.mono _ _)
   |(with_reducible exact LeO.refl _)
   |(with_reducible exact LeO.none _)
   |(with_reducible refine LeO.ite ?_ ?_)
   |(with_reducible refine LeO.bind ?_ (fun _=>?_))
   |exact zL.mono _ _
   |exact zY.mono _ _
   |exact LeO.none _
   |refine LeO.ite ?_ ?_
   |refine LeO.bind ?_ (fun _=>?_)
set_option maxHeartbeats 8000000 in
set_option maxRecDepth 100000 in
theorem intersection_Disjoint.calls (k:Nat) (A:Option Addr) (B:Nat) (r:List (S58)) (r1:Int) (r2:Int) (r3:Int) (w:World) (J:Kd.C k58 w A r.length r) (K:r.length≤B) (h:intersection_Disjoint.f k r=some (r1,r2,r3)):
  Calls Try.prog 16 #[.agg #[.slice A r.length B]] w fun e w'=>e=.returned (.tuple #[.int .i64 r1,.int .i64 r2,.int .i64 r3])∧Below w.heap.size w w':=by
 have hu25:=Try.underlying25;have D:=qA.mk J;have G:=qA.mk K;clear J K;have HB:=qA.mk (Below.refl w.heap.size w);unfold intersection_Disjoint.f at h;have H:=h;clear h;replace H:=Option.bind_eq_some_iff.mp H;obtain⟨I,T,H⟩:=H;(try dsimp only at H);have A2:=qA.mk T;clear T;by_cases c3:I=0
 ·rw[if_pos c3] at H;obtain⟨U,X⟩:=eqT c3;clear c3;replace H:=Option.bind_eq_some_iff.mp H;obtain⟨⟨L,O⟩,Y,H⟩:=H;(try dsimp only at H);have A4:=qA.mk Y;clear Y;by_cases c5:L=0
  ·rw[if_pos c5] at H;obtain⟨Z,a7⟩:=eqT c5;clear c5;simp only[Option.some.injEq,Prod.mk.injEq] at H;obtain⟨rfl,rfl,rfl⟩:=H;go_enter Try.func16,Try.ntmps16;go_wp2_with (first|((with_reducible refine qH (N:=1) rfl ?_);refine qG ?hg (N:=1) ?hd (cs:=#[.slice A r.length B]) (t:=25) ?hr ?_;(case hd=>rfl);(case hg=>rfl);(case hr=>exact byab);intro z hg w6 hbox hb;have n_:=q_4 (qB byac hb) (hbox) ((bycn:w.heap.size≤z)) ((bycn:w.heap.size≤z));clear HB;obtain⟨HB,p,M,s⟩:=n_;clear hb hbox hg;obtain⟨aE,aF⟩:=cz1 p.out)|((with_reducible refine qC (f:=35) rfl ?_);refine qV (some 9) rfl rfl Try.func35 (by kernel_rfl) rfl #[.agg #[.slice A r.length B]] rfl byah ?_;(with_reducible refine(zL.calls k _ _ r I _ ?side1 ?side2 A2.out).mono ?_);(case side1=>exact byaq D);(case side2=>exact G.out);rintro e w8 ⟨rfl,hb⟩;refine⟨_,rfl,?_⟩;have n_:=q_2 (bbl p hb) (qB (byae s) hb);clear p HB;obtain⟨p,HB⟩:=n_;clear hb;obtain⟨aG,aH⟩:=cz1 p.out)|((with_reducible refine qC (f:=36) rfl ?_);refine qV (some 15) rfl rfl Try.func36 (by kernel_rfl) rfl #[.agg #[.slice A r.length B]] rfl byah ?_;(with_reducible refine(zY.calls k _ _ r L O _ ?side1 ?side2 A4.out).mono ?_);(case side1=>exact byaq D);(case side2=>exact G.out);rintro e aI ⟨rfl,hb⟩;refine⟨_,rfl,?_⟩;have n_:=q_2 (bbl p hb) (qB (byae s) hb);clear p HB;obtain⟨p,HB⟩:=n_;clear hb));go_ret3;exact⟨byad,byae s⟩
  ·rw[if_neg c5] at H;obtain⟨Z,a7⟩:=eqF c5;simp only[Option.some.injEq,Prod.mk.injEq] at H;obtain⟨rfl,rfl,rfl⟩:=H;go_enter Try.func16,Try.ntmps16;go_wp2_with (first|((with_reducible refine qH (N:=1) rfl ?_);refine qG ?hg (N:=1) ?hd (cs:=#[.slice A r.length B]) (t:=25) ?hr ?_;(case hd=>rfl);(case hg=>rfl);(case hr=>exact byab);intro z hg aJ hbox hb;have n_:=q_4 (qB byac hb) (hbox) ((bycn:w.heap.size≤z)) ((bycn:w.heap.size≤z));clear HB;obtain⟨HB,p,M,s⟩:=n_;clear hb hbox hg;obtain⟨a8,a9⟩:=cz1 p.out)|((with_reducible refine qC (f:=35) rfl ?_);refine qV (some 9) rfl rfl Try.func35 (by kernel_rfl) rfl #[.agg #[.slice A r.length B]] rfl byah ?_;(with_reducible refine(zL.calls k _ _ r I _ ?side1 ?side2 A2.out).mono ?_);(case side1=>exact byaq D);(case side2=>exact G.out);rintro e aK ⟨rfl,hb⟩;refine⟨_,rfl,?_⟩;have n_:=q_2 (bbl p hb) (qB (byae s) hb);clear p HB;obtain⟨p,HB⟩:=n_;clear hb;obtain⟨aA,aB⟩:=cz1 p.out)|((with_reducible refine qC (f:=36) rfl ?_);refine qV (some 15) rfl rfl Try.func36 (by kernel_rfl) rfl #[.agg #[.slice A r.length B]] rfl byah ?_;(with_reducible refine(zY.calls k _ _ r L O _ ?side1 ?side2 A4.out).mono ?_);(case side1=>exact byaq D);(case side2=>exact G.out);rintro e aL ⟨rfl,hb⟩;refine⟨_,rfl,?_⟩;have n_:=q_2 (bbl p hb) (qB (byae s) hb);clear p HB;obtain⟨p,HB⟩:=n_;clear hb));go_ret3;exact⟨byad,byae s⟩
 ·rw[if_neg c3] at H;obtain⟨U,X⟩:=eqF c3;simp only[Option.some.injEq,Prod.mk.injEq] at H;obtain⟨rfl,rfl,rfl⟩:=H;go_enter Try.func16,Try.ntmps16;go_wp2_with (first|((with_reducible refine qH (N:=1) rfl ?_);refine qG ?hg (N:=1) ?hd (cs:=#[.slice A r.length B]) (t:=25) ?hr ?_;(case hd=>rfl);(case hg=>rfl);(case hr=>exact byab);intro z hg aM hbox hb;have n_:=q_4 (qB byac hb) (hbox) ((bycn:w.heap.size≤z)) ((bycn:w.heap.size≤z));clear HB;obtain⟨HB,p,M,s⟩:=n_;clear hb hbox hg;obtain⟨aC,aD⟩:=cz1 p.out)|((with_reducible refine qC (f:=35) rfl ?_);refine qV (some 9) rfl rfl Try.func35 (by kernel_rfl) rfl #[.agg #[.slice A r.length B]] rfl byah ?_;(with_reducible refine(zL.calls k _ _ r I _ ?side1 ?side2 A2.out).mono ?_);(case side1=>exact byaq D);(case side2=>exact G.out);rintro e aN ⟨rfl,hb⟩;refine⟨_,rfl,?_⟩;have n_:=q_2 (bbl p hb) (qB (byae s) hb);clear p HB;obtain⟨p,HB⟩:=n_;clear hb));go_ret3;exact⟨byad,byae s⟩
end Go.Proofs.Ytkkbdimegpdbgaa.P
