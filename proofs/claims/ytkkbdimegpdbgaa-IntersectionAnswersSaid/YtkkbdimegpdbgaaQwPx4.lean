/- Walks: the calls answer as Lean functions say; conditions: each theorem's own. -/
import Derived.Test.YtkkbdimegpdbgaaQwPx1
namespace Go.Proofs.Ytkkbdimegpdbgaa.P
open Go.RowKit Go.Proofs.YtkkbdimegpdbgaaW.PrintWords Go.Proofs.YtkkbdimegpdbgaaW.PrintLast Go.Proofs.YtkkbdimegpdbgaaW.PrintMore
attribute [local go_sem] kK kM Qa Qb uV uU kN kL
set_option linter.unusedVariables false
set_option linter.unusedSimpArgs false
def qZ.l0:Nat→Int→List (S58)→Int→Int→Option (Int)
 |0,_,_,_,_=>none
 |k+1,x3,x7,x8,x9=>if x9<x8 then(if 0≤x9 then(if x9<(x7.length:Int) then(if(qU x7 x9).f0=true then(if x9<10 then(qZ.l0 k (Go.bits .or .i64 x3 (shl .i64 1 x9)) x7 x8 (wrap64 (x9+1))) else(qZ.l0 k x3 x7 x8 (wrap64 (x9+1)))) else(qZ.l0 k x3 x7 x8 (wrap64 (x9+1)))) else(none)) else(none)) else(some x3)
def qZ.f (k:Nat) (p:List (S58)):Option (Int):=qZ.l0 k 0 p (p.length:Int) 0
theorem qZ.mono_l:∀k,(∀y0 y1 y2 y3,LeO (qZ.l0 k y0 y1 y2 y3) (qZ.l0 (k+1) y0 y1 y2 y3))
 |0=>fun _ _ _ _ r h=>by simp[qZ.l0] at h
 |k+1=>by
  have p:=qZ.mono_l k
  ·intro y0 y1 y2 y3;unfold qZ.l0;repeat' first
   |(with_reducible exact p _ _ _ _)
   |(with_reducible exact LeO.refl _)
   |(with_reducible exact LeO.none _)
   |(with_reducible refine LeO.ite ?_ ?_)
   |(with_reducible refine LeO.bind ?_ (fun _=>?_))
   |exact p _ _ _ _
   |exact LeO.none _
   |refine LeO.ite ?_ ?_
   |refine LeO.bind ?_ (fun _=>?_)
theorem qZ.mono:∀a0 k,LeO (qZ.f k a0) (qZ.f (k+1) a0):=by
 intro a0 k;have p:=qZ.mono_l k;unfold qZ.f;repeat' first
   |(with_reducible exact p _ _ _ _)
   |(with_reducible exact LeO.refl _)
   |(with_reducible exact LeO.none _)
   |(with_reducible refine LeO.ite ?_ ?_)
   |(with_reducible refine LeO.bind ?_ (fun _=>?_))
   |exact p _ _ _ _
   |exact LeO.none _
   |refine LeO.ite ?_ ?_
   |refine LeO.bind ?_ (fun _=>?_)
set_option maxHeartbeats 8000000 in
set_option maxRecDepth 100000 in
theorem qZ.calls (k:Nat) (aE:Option Addr) (aF:Nat) (B:List (S58)) (r:Int) (w:World) (aK:Kd.C k58 w aE B.length B) (aL:B.length≤aF) (h:qZ.f k B=some r):
  Calls Try.prog 86 #[.agg #[.slice aE B.length aF]] w fun e w'=>e=.returned (.int .i64 r)∧Below w.heap.size w w':=by
 have hu25:=Try.underlying25;have hu58:=Try.underlying58;have aD:=qA.mk aK;have bN:=qA.mk aL;clear aK aL;have HB:=qA.mk (Below.refl w.heap.size w);unfold qZ.f at h;have H:=h;clear h;have H':=qA.mk H;clear H;go_enter Try.func86,Try.ntmps86;go_wp2_with (first|((with_reducible refine qH (N:=1) rfl ?_);refine qG ?hg (N:=1) ?hd (cs:=#[.slice aE B.length aF]) (t:=25) ?hr ?_;(case hd=>rfl);(case hg=>rfl);(case hr=>exact byab);intro Y hg w2 hbox hb;have n_:=q_4 (qB byac hb) (hbox) ((bycn:w.heap.size≤Y)) ((bycn:w.heap.size≤Y));clear HB;obtain⟨HB,z,bO,D⟩:=n_;clear hb hbox hg;obtain⟨bF,bG⟩:=cz1 z.out));go_loopg [3,9] k (fun kq v3 v9 w'=>∃(X:Int) (s:Int),v3=.int .i64 X∧v9=.int .i64 s∧qA (qZ.l0 kq X B (B.length:Int) s=some r)∧qA (kq≤k)∧qA (w'.heap[Y]? =some (.cells #[(.slice aE B.length aF)] 25 (0,0)))∧qA (Below w.heap.size w w'));case atStart=>exact⟨(0),(0),byaf,byaf,H',⟨Nat.le_refl _⟩,⟨bq z⟩,⟨byae D⟩⟩
 case round=>
  clear H';obtain⟨X,s,rfl,rfl,HA,HK1,z,HB⟩:=hrel
  cases gk with
  |zero=>exact absurd HA.out (by simp[qZ.l0])
  |succ k1=>
   have H:=HA.out;clear HA;simp only[qZ.l0] at H;by_cases c4:s<(B.length:Int)
   ·rw[if_pos c4] at H;have aO:=decide_eq_true c4;clear c4;by_cases c5:0≤s
    ·rw[if_pos c5] at H;have bX:=decide_eq_true c5;clear c5;by_cases c6:s<(B.length:Int)
     ·rw[if_pos c6] at H;have bY:=decide_eq_true c6;clear c6;obtain⟨bq7,hbq7⟩:∃b_:Bool,b_=((qU B s).f0):=⟨_,rfl⟩;replace H:(if bq7=true then(if s<10 then(qZ.l0 k1 (Go.bits .or .i64 X (shl .i64 1 s)) B (B.length:Int) (wrap64 (s+1))) else(qZ.l0 k1 X B (B.length:Int) (wrap64 (s+1)))) else(qZ.l0 k1 X B (B.length:Int) (wrap64 (s+1))))=some r:=by rw[← hbq7] at H;exact H
      have Nbq7:=qA.mk hbq7;clear hbq7;by_cases c8:bq7=true
      ·subst c8;rw[if_pos rfl] at H;by_cases c9:s<10
       ·rw[if_pos c9] at H;have aP:=decide_eq_true c9;clear c9;have bP:=eq_true (of_decide_eq_true byag:0≤s);obtain⟨aQ,hji11⟩:∃j_:Int,(shl .i64 1 s)=j_:=⟨_,rfl⟩;(first|rw[hji11] at H|(simp only[hji11] at H));obtain⟨bH,bI,bJ,bK,bL,bM⟩:=jiA hji11;have H':=qA.mk H;clear H;have T:0≤(s:Int):=of_decide_eq_true byag;have U:s<(B.length:Int):=of_decide_eq_true byag;obtain⟨aM,aG,aH,aI,aJ,a8,A,G,I,J,K,hi147_2,L,hi147_3⟩:=Zp aD.out s T U;(try rw[← Nbq7.out] at A)
        cases a8
        replace A:=bc HB A;replace G:=bc HB G;replace I:=bc HB I;replace J:=bc HB J;have a9:=qA.mk hi147_2;have aA:=qA.mk K;clear hi147_2 K;have aB:=qA.mk hi147_3;have aC:=qA.mk L;clear hi147_3 L;replace T:=eq_true T;replace U:=eq_true U;go_wp2_with (first|((with_reducible refine qH (N:=5) rfl ?_);refine qG ?hg (N:=5) ?hd (cs:=#[.bool false,.int .i64 0,.slice none 0 0,.slice none 0 0]) (t:=58) ?hr ?_;(case hd=>rfl);(case hg=>rfl);(case hr=>exact byab);intro M hg bZ hbox hb;have n_:=q_6 (bbl z hb) (qB (byae D) hb) (hbox) ((by rw[hg];exact(qI (byae D)):w.heap.size≤M)) ((by rw[hg];exact(qI (byae D)):w.heap.size≤M)) ((by rw[hg];exact Nat.ne_of_lt (bl z):Y≠M));clear z HB;obtain⟨z,HB,Z,aN,a7,p⟩:=n_;have O:=ns p;clear hb hbox hg;have bQ:=O.out;have bR:=p.out;obtain⟨aR,aS,aT,aU,aV,aW,aX,aY⟩:=cz4 Z.out));go_roundg k1;case measure=>have:=HK1.out;omega
        case rel=>exact⟨(Go.bits .or .i64 X (aQ)),(wrap64 (s+1)),byao,byaf,H',⟨byai⟩,⟨byat p z⟩,⟨byaj D a7⟩⟩
       ·rw[if_neg c9] at H;have aP:=decide_eq_false c9;clear c9;have H':=qA.mk H;clear H;have T:0≤(s:Int):=of_decide_eq_true byag;have U:s<(B.length:Int):=of_decide_eq_true byag;obtain⟨aM,aG,aH,aI,aJ,a8,A,G,I,J,K,hi147_2,L,hi147_3⟩:=Zp aD.out s T U;(try rw[← Nbq7.out] at A)
        cases a8
        replace A:=bc HB A;replace G:=bc HB G;replace I:=bc HB I;replace J:=bc HB J;have a9:=qA.mk hi147_2;have aA:=qA.mk K;clear hi147_2 K;have aB:=qA.mk hi147_3;have aC:=qA.mk L;clear hi147_3 L;replace T:=eq_true T;replace U:=eq_true U;go_wp2_with (first|((with_reducible refine qH (N:=5) rfl ?_);refine qG ?hg (N:=5) ?hd (cs:=#[.bool false,.int .i64 0,.slice none 0 0,.slice none 0 0]) (t:=58) ?hr ?_;(case hd=>rfl);(case hg=>rfl);(case hr=>exact byab);intro M hg c0 hbox hb;have n_:=q_6 (bbl z hb) (qB (byae D) hb) (hbox) ((by rw[hg];exact(qI (byae D)):w.heap.size≤M)) ((by rw[hg];exact(qI (byae D)):w.heap.size≤M)) ((by rw[hg];exact Nat.ne_of_lt (bl z):Y≠M));clear z HB;obtain⟨z,HB,Z,aN,a7,p⟩:=n_;have O:=ns p;clear hb hbox hg;have bT:=O.out;have bU:=p.out;obtain⟨aZ,b0,b1,b2,b3,b4,b5,b6⟩:=cz4 Z.out));go_roundg k1;case measure=>have:=HK1.out;omega
        case rel=>exact⟨(X),(wrap64 (s+1)),byaf,byaf,H',⟨byai⟩,⟨byat p z⟩,⟨byaj D a7⟩⟩
      ·replace c8:=Bool.eq_false_iff.mpr c8;subst c8;rw[if_neg (show¬(false=true) by decide)] at H;have H':=qA.mk H;clear H;have T:0≤(s:Int):=of_decide_eq_true byag;have U:s<(B.length:Int):=of_decide_eq_true byag;obtain⟨aM,aG,aH,aI,aJ,a8,A,G,I,J,K,hi147_2,L,hi147_3⟩:=Zp aD.out s T U;(try rw[← Nbq7.out] at A)
       cases a8
       replace A:=bc HB A;replace G:=bc HB G;replace I:=bc HB I;replace J:=bc HB J;have a9:=qA.mk hi147_2;have aA:=qA.mk K;clear hi147_2 K;have aB:=qA.mk hi147_3;have aC:=qA.mk L;clear hi147_3 L;replace T:=eq_true T;replace U:=eq_true U;go_wp2_with (first|((with_reducible refine qH (N:=5) rfl ?_);refine qG ?hg (N:=5) ?hd (cs:=#[.bool false,.int .i64 0,.slice none 0 0,.slice none 0 0]) (t:=58) ?hr ?_;(case hd=>rfl);(case hg=>rfl);(case hr=>exact byab);intro M hg c1 hbox hb;have n_:=q_6 (bbl z hb) (qB (byae D) hb) (hbox) ((by rw[hg];exact(qI (byae D)):w.heap.size≤M)) ((by rw[hg];exact(qI (byae D)):w.heap.size≤M)) ((by rw[hg];exact Nat.ne_of_lt (bl z):Y≠M));clear z HB;obtain⟨z,HB,Z,aN,a7,p⟩:=n_;have O:=ns p;clear hb hbox hg;have bV:=O.out;have bW:=p.out;obtain⟨b7,b8,b9,bA,bB,bC,bD,bE⟩:=cz4 Z.out));go_roundg k1;case measure=>have:=HK1.out;omega
       case rel=>exact⟨(X),(wrap64 (s+1)),byaf,byaf,H',⟨byai⟩,⟨byat p z⟩,⟨byaj D a7⟩⟩
     ·rw[if_neg c6] at H;exact absurd H (by simp)
    ·rw[if_neg c5] at H;exact absurd H (by simp)
   ·rw[if_neg c4] at H;have aO:=decide_eq_false c4;clear c4;obtain rfl:=Option.some.inj H;go_wp2;go_ret;exact⟨byad,byae D⟩
def kY.f (k:Nat) (p:List (S58)) (a1:Int):Option (Bool):=(qZ.f k p).bind fun r=>(some ((Go.bits .andNot .i64 a1 r)==0))
theorem kY.mono:∀a0 a1 k,LeO (kY.f k a0 a1) (kY.f (k+1) a0 a1):=by
 intro a0 a1 k;unfold kY.f;repeat' first
   |(with_reducible exact qZ.mono _ _)
   |(with_reducible exact LeO.refl _)
   |(with_reducible exact LeO.none _)
   |(with_reducible refine LeO.ite ?_ ?_)
   |(with_reducible refine LeO.bind ?_ (fun _=>?_))
   |exact qZ.mono _ _
   |exact LeO.none _
   |refine LeO.ite ?_ ?_
   |refine LeO.bind ?_ (fun _=>?_)
set_option maxHeartbeats 8000000 in
set_option maxRecDepth 100000 in
theorem kY.calls (k:Nat) (z:Option Addr) (A:Nat) (p:List (S58)) (a1:Int) (r:Bool) (w:World) (B:Kd.C k58 w z p.length p) (D:p.length≤A) (h:kY.f k p a1=some r):
  Calls Try.prog 74 #[.agg #[.slice z p.length A],.int .i64 a1] w fun e w'=>e=.returned (.bool r)∧Below w.heap.size w w':=by
 have hu25:=Try.underlying25;have J:=qA.mk B;have K:=qA.mk D;clear B D;have HB:=qA.mk (Below.refl w.heap.size w);unfold kY.f at h;have H:=h;clear h;replace H:=Option.bind_eq_some_iff.mp H;obtain⟨L,M,H⟩:=H;(try dsimp only at H);have A3:=qA.mk M;clear M;obtain rfl:=Option.some.inj H;go_enter Try.func74,Try.ntmps74;go_wp2_with (first|((with_reducible refine qH (N:=2) rfl ?_);refine qG ?hg (N:=2) ?hd (cs:=#[.slice z p.length A]) (t:=25) ?hr ?_;(case hd=>rfl);(case hg=>rfl);(case hr=>exact byab);intro G hg w4 hbox hb;have n_:=q_4 (qB byac hb) (hbox) ((bycn:w.heap.size≤G)) ((bycn:w.heap.size≤G));clear HB;obtain⟨HB,s,U,I⟩:=n_;clear hb hbox hg;obtain⟨O,T⟩:=cz1 s.out)|((with_reducible refine qC (f:=86) rfl ?_);refine qV (some 7) rfl rfl Try.func86 (by kernel_rfl) rfl #[.agg #[.slice z p.length A]] rfl byah ?_;(with_reducible refine(qZ.calls k _ _ p L _ ?side1 ?side2 A3.out).mono ?_);(case side1=>exact byaq J);(case side2=>exact K.out);rintro e w6 ⟨rfl,hb⟩;refine⟨_,rfl,?_⟩;have n_:=q_2 (bbl s hb) (qB (byae I) hb);clear s HB;obtain⟨s,HB⟩:=n_;clear hb));go_ret;exact⟨byad,byae I⟩
def vF.l0:Nat→Int→List Int→Int→Option (List Int)
 |0,_,_,_=>none
 |k+1,x0,x3,x5=>if x5<10 then((Ql.f x0 x5).bind fun p=>(if p=true then(if x3.length<17592186044416 then(vF.l0 k x0 (x3++[x5]) (wrap64 (x5+1))) else(none)) else(vF.l0 k x0 x3 (wrap64 (x5+1))))) else(some x3)
def vF.f (k:Nat) (a0:Int):Option (List Int):=vF.l0 k a0 ([]:List Int) 0
theorem vF.mono_l:∀k,(∀y0 y1 y2,LeO (vF.l0 k y0 y1 y2) (vF.l0 (k+1) y0 y1 y2))
 |0=>fun _ _ _ r h=>by simp[vF.l0] at h
 |k+1=>by
  have p:=vF.mono_l k
  ·intro y0 y1 y2;unfold vF.l0;repeat' first
   |(with_reducible exact p _ _ _)
   |(with_reducible exact LeO.refl _)
   |(with_reducible exact LeO.none _)
   |(with_reducible refine LeO.ite ?_ ?_)
   |(with_reducible refine LeO.bind ?_ (fun _=>?_))
   |exact p _ _ _
   |exact LeO.none _
   |refine LeO.ite ?_ ?_
   |refine LeO.bind ?_ (fun _=>?_)
theorem vF.mono:∀a0 k,LeO (vF.f k a0) (vF.f (k+1) a0):=by
 intro a0 k;have p:=vF.mono_l k;unfold vF.f;repeat' first
   |(with_reducible exact p _ _ _)
   |(with_reducible exact LeO.refl _)
   |(with_reducible exact LeO.none _)
   |(with_reducible refine LeO.ite ?_ ?_)
   |(with_reducible refine LeO.bind ?_ (fun _=>?_))
   |exact p _ _ _
   |exact LeO.none _
   |refine LeO.ite ?_ ?_
   |refine LeO.bind ?_ (fun _=>?_)
set_option maxHeartbeats 8000000 in
set_option maxRecDepth 100000 in
theorem vF.calls (k:Nat) (a0:Int) (r:List Int) (w:World) (h:vF.f k a0=some r):
  Calls Try.prog 61 #[.int .i64 a0] w fun e w'=>∃G:Value,e=.returned (G)∧Kd.R (Kd.int .i64) 3 w' w.heap.size (fun _=>True) G r∧Below w.heap.size w w':=by
 have HB:=qA.mk (Below.refl w.heap.size w);unfold vF.f at h;have H:=h;clear h;have H':=qA.mk H;clear H;go_enter Try.func61,Try.ntmps61;go_wp2;go_loopg [3,5] k (fun kq v3 v5 w'=>∃(s:List Int) (p:Int),v5=.int .i64 p∧qA (vF.l0 kq a0 s p=some r)∧qA (kq≤k)∧qA (Kd.R (Kd.int .i64) 3 w' w.heap.size (fun _=>True) v3 s)∧qA (Below w.heap.size w w'));case atStart=>exact⟨(([]:List Int)),(0),byaf,H',⟨Nat.le_refl _⟩,⟨byav⟩,⟨byac⟩⟩
 case round=>
  clear H';obtain⟨s,p,rfl,HA,HK1,A,HB⟩:=hrel
  cases gk with
  |zero=>exact absurd HA.out (by simp[vF.l0])
  |succ k1=>
   have H:=HA.out;clear HA;simp only[vF.l0] at H;by_cases c2:p<10
   ·rw[if_pos c2] at H;have I:=decide_eq_true c2;clear c2;replace H:=Option.bind_eq_some_iff.mp H;obtain⟨J,K,H⟩:=H;(try dsimp only at H);have A3:=qA.mk K;clear K;by_cases c4:J=true
    ·subst c4;rw[if_pos rfl] at H;by_cases c5:s.length<17592186044416
     ·rw[if_pos c5] at H;have LMc5:=qA.mk c5;clear c5;(first|(with_reducible have n_:=bS H;obtain⟨B,z,H⟩:=n_)|(obtain⟨B,z⟩:∃y_:List Int,y_=(s++[p]):=⟨_,rfl⟩;rw[← z] at H));(try dsimp only at H);have Ny152:=qA.mk z;clear z;have H':=qA.mk H;clear H;go_wp2_with (first|((with_reducible refine qC (f:=62) rfl ?_);refine qV (some 10) rfl rfl Try.func62 (by kernel_rfl) rfl #[.int .i64 a0,.int .i64 p] rfl byah ?_;(with_reducible refine(Ql.calls a0 p true _ A3.out).mono ?_);rintro e w' ⟨rfl,⟨nd,rfl⟩⟩;refine⟨_,rfl,?_⟩)|((with_reducible refine vS (b:=.append) (xs:=#[.tmp 11,.tmp 13]) rfl ?_);at_builtin;refine Kd.Q8 (Kd.int .i64) (w0:=w) w.heap.size rfl (.tmp 11) (.tmp 13) 22 3 (.int .i64 0) 8 rfl Try.underlying22 info3 rfl (by decide) (by omega) u3 s p [.int .i64 p] (fun _=>True) (fun _=>False) rfl rfl ?aP (fun _ hk=>hk.elim) ?aF ?aO ?aB ?aS ?aL ?_;(case aP=>exact rfl);(case aB=>exact byac);(case aF=>exact(fun _ _=>trivial));(case aO=>exact(pXR A));(case aS=>exact(qI byac));(case aL=>have:=LMc5.out;omega);intro L w6 ho hb hg hat;rw[← Ny152.out] at ho;have n_:=q_2 (hb) (ho);clear HB A;obtain⟨HB,D⟩:=n_;clear ho hb hg hat));go_roundg k1;case measure=>have:=HK1.out;omega
      case rel=>exact⟨(B),(wrap64 (p+1)),byaf,H',⟨byai⟩,⟨pXR D⟩,⟨byac⟩⟩
     ·rw[if_neg c5] at H;exact absurd H (by simp)
    ·replace c4:=Bool.eq_false_iff.mpr c4;subst c4;rw[if_neg (show¬(false=true) by decide)] at H;have H':=qA.mk H;clear H;go_wp2_with (first|((with_reducible refine qC (f:=62) rfl ?_);refine qV (some 10) rfl rfl Try.func62 (by kernel_rfl) rfl #[.int .i64 a0,.int .i64 p] rfl byah ?_;(with_reducible refine(Ql.calls a0 p false _ A3.out).mono ?_);rintro e w' ⟨rfl,⟨nd,rfl⟩⟩;refine⟨_,rfl,?_⟩));go_roundg k1;case measure=>have:=HK1.out;omega
     case rel=>exact⟨(s),(wrap64 (p+1)),byaf,H',⟨byai⟩,⟨pXR A⟩,⟨byac⟩⟩
   ·rw[if_neg c2] at H;have I:=decide_eq_false c2;clear c2;obtain rfl:=Option.some.inj H;go_wp2;go_ret;exact⟨_,byad,pXR A,byac⟩
mutual
def qX.l0:Nat→Int→Int→List Int→Int→Int→Int→List Int→List (S56)→Option (Bool)
 |0,_,_,_,_,_,_,_,_=>none
 |k+1,x1,x5,G,I,A,r,s,p=>if A<I then(if 0≤A then(if A<(G.length:Int) then((Ql.f x1 (rd G A)).bind fun K=>(if K=true then(qX.l0 k x1 (wrap64 (x5+1)) G I (wrap64 (A+1)) r s p) else(qX.l0 k x1 x5 G I (wrap64 (A+1)) r s p))) else(none)) else(none)) else(qX.l1 k x1 x5 p (p.length:Int) 0 r s p)
def qX.l1:Nat→Int→Int→List (S56)→Int→Int→Int→List Int→List (S56)→Option (Bool)
 |0,_,_,_,_,_,_,_,_=>none
 |k+1,x1,x5,B,J,z,r,s,p=>if z<J then(if 0≤z then(if z<(B.length:Int) then((qX.f k ((qQ B z).f0) ((qQ B z).f1) ((qQ B z).f2) x1).bind fun L=>(if L=true then(qX.l1 k x1 (wrap64 (x5+1)) B J (wrap64 (z+1)) r s p) else(qX.l1 k x1 x5 B J (wrap64 (z+1)) r s p))) else(none)) else(none)) else(some (decide (x5≥r)))
def qX.f:Nat→Int→List Int→List (S56)→Int→Option (Bool)
 |0,_,_,_,_=>none
 |k+1,M,D,O,a1=>(uD.f a1).bind fun T=>(if T=true then(qX.l0 k a1 0 D (D.length:Int) 0 M D O) else(some false))
end
theorem qX.mono_l:∀k,(∀y0 y1 y2 y3,LeO (qX.f k y0 y1 y2 y3) (qX.f (k+1) y0 y1 y2 y3))∧(∀y0 y1 y2 y3 y4 y5 y6 y7,LeO (qX.l0 k y0 y1 y2 y3 y4 y5 y6 y7) (qX.l0 (k+1) y0 y1 y2 y3 y4 y5 y6 y7))∧(∀y0 y1 y2 y3 y4 y5 y6 y7,LeO (qX.l1 k y0 y1 y2 y3 y4 y5 y6 y7) (qX.l1 (k+1) y0 y1 y2 y3 y4 y5 y6 y7))
 |0=>⟨fun _ _ _ _ r h=>by simp[qX.f] at h,fun _ _ _ _ _ _ _ _ r h=>by simp[qX.l0] at h,fun _ _ _ _ _ _ _ _ r h=>by simp[qX.l1] at h⟩
 |k+1=>by
  obtain⟨p,s,z⟩:=qX.mono_l k;refine⟨?_,?_,?_⟩
  ·intro y0 y1 y2 y3;unfold qX.f;repeat' first
   |(with_reducible exact p _ _ _ _)
   |(with_reducible exact s _ _ _ _ _ _ _ _)
   |(with_reducible exact z _ _ _ _ _ _ _ _)
   |(with_reducible exact LeO.refl _)
   |(with_reducible exact LeO.none _)
   |(with_reducible refine LeO.ite ?_ ?_)
   |(with_reducible refine LeO.bind ?_ (fun _=>?_))
   |exact p _ _ _ _
   |exact s _ _ _ _ _ _ _ _
   |exact z _ _ _ _ _ _ _ _
   |exact LeO.none _
   |refine LeO.ite ?_ ?_
   |refine LeO.bind ?_ (fun _=>?_)
  ·intro y0 y1 y2 y3 y4 y5 y6 y7;unfold qX.l0;repeat' first
   |(with_reducible exact p _ _ _ _)
   |(with_reducible exact s _ _ _ _ _ _ _ _)
   |(with_reducible exact z _ _ _ _ _ _ _ _)
   |(with_reducible exact LeO.refl _)
   |(with_reducible exact LeO.none _)
   |(with_reducible refine LeO.ite ?_ ?_)
   |(with_reducible refine LeO.bind ?_ (fun _=>?_))
   |exact p _ _ _ _
   |exact s _ _ _ _ _ _ _ _
   |exact z _ _ _ _ _ _ _ _
   |exact LeO.none _
   |refine LeO.ite ?_ ?_
   |refine LeO.bind ?_ (fun _=>?_)
  ·intro y0 y1 y2 y3 y4 y5 y6 y7;unfold qX.l1;repeat' first
   |(with_reducible exact p _ _ _ _)
   |(with_reducible exact s _ _ _ _ _ _ _ _)
   |(with_reducible exact z _ _ _ _ _ _ _ _)
   |(with_reducible exact LeO.refl _)
   |(with_reducible exact LeO.none _)
   |(with_reducible refine LeO.ite ?_ ?_)
   |(with_reducible refine LeO.bind ?_ (fun _=>?_))
   |exact p _ _ _ _
   |exact s _ _ _ _ _ _ _ _
   |exact z _ _ _ _ _ _ _ _
   |exact LeO.none _
   |refine LeO.ite ?_ ?_
   |refine LeO.bind ?_ (fun _=>?_)
theorem qX.mono:∀a0 a1 a2 a3 k,LeO (qX.f k a0 a1 a2 a3) (qX.f (k+1) a0 a1 a2 a3):=by
 intro a0 a1 a2 a3 k;obtain⟨p,r,s⟩:=qX.mono_l k;exact p a0 a1 a2 a3
set_option maxHeartbeats 8000000 in
set_option maxRecDepth 100000 in
theorem qX.calls (k:Nat):∀(O:Int) (a8:Option Addr) (a9:Nat) (D:List Int) (aF:Option Addr) (aA:Nat) (s:List (S56)) (a1:Int) (r:Bool) (w:World) (aQ:Kd.C (Kd.int .i64) w a8 D.length D) (aR:D.length≤a9) (aS:Kd.C k56 w aF s.length s) (aT:s.length≤aA) (h:qX.f k O D s a1=some r),
  Calls Try.prog 93 #[.agg #[.int .i64 O,.slice a8 D.length a9,.slice aF s.length aA],.int .i64 a1] w fun e w'=>e=.returned (.bool r)∧Below w.heap.size w w':=by
 induction k using Nat.strongRecOn with
 |_ k ih=>
 intro O a8 a9 D aF aA s a1 r w aQ aR aS aT h
 cases k with
 |zero=>exact absurd h (by simp[qX.f])
 |succ k=>
 simp only[qX.f] at h;have hu56:=Try.underlying56;have aW:=qA.mk aQ;have cK:=qA.mk aR;clear aQ aR;have aX:=qA.mk aS;have cL:=qA.mk aT;clear aS aT;have HB:=qA.mk (Below.refl w.heap.size w);have H:=h;clear h;replace H:=Option.bind_eq_some_iff.mp H;obtain⟨bA,bB,H⟩:=H;(try dsimp only at H);have A3:=qA.mk bB;clear bB;by_cases c4:bA=true
 ·subst c4;rw[if_pos rfl] at H;have H':=qA.mk H;clear H;go_enter Try.func93,Try.ntmps93;go_wp2_with (first|((with_reducible refine qH (N:=2) rfl ?_);refine qG ?hg (N:=2) ?hd (cs:=#[.int .i64 O,.slice a8 D.length a9,.slice aF s.length aA]) (t:=56) ?hr ?_;(case hd=>rfl);(case hg=>rfl);(case hr=>exact byab);intro I hg w5 hbox hb;have n_:=q_4 (qB byac hb) (hbox) ((bycn:w.heap.size≤I)) ((bycn:w.heap.size≤I));clear HB;obtain⟨HB,z,b6,A⟩:=n_;clear hb hbox hg)|((with_reducible refine qC (f:=73) rfl ?_);refine qV (some 11) rfl rfl Try.func73 (by kernel_rfl) rfl #[.int .i64 a1] rfl byah ?_;(with_reducible refine(uD.calls a1 true _ A3.out).mono ?_);rintro e w' ⟨rfl,⟨nd,rfl⟩⟩;refine⟨_,rfl,?_⟩;obtain⟨cE,cF,cG,cH,cI,cJ⟩:=cz3 z.out));go_loopg [5,16] k (fun kq v5 cM w'=>∃(aO:Int) (B:Int),v5=.int .i64 aO∧cM=.int .i64 B∧qA (qX.l0 kq a1 aO D (D.length:Int) B O D s=some r)∧qA (kq≤k)∧qA (w'.heap[I]? =some (.cells #[.int .i64 O,(.slice a8 D.length a9),(.slice aF s.length aA)] 56 (0,0)))∧qA (Below w.heap.size w w'));case atStart=>exact⟨(0),(0),byaf,byaf,H',⟨Nat.le_refl _⟩,⟨bq z⟩,⟨byae A⟩⟩
  case round=>
   clear H';obtain⟨aO,B,rfl,rfl,HA,HK1,z,HB⟩:=hrel
   cases gk with
   |zero=>exact absurd HA.out (by simp[qX.l0])
   |succ k1=>
    have H:=HA.out;clear HA;simp only[qX.l0] at H;by_cases c7:B<(D.length:Int)
    ·rw[if_pos c7] at H;have bC:=decide_eq_true c7;clear c7;by_cases c8:0≤B
     ·rw[if_pos c8] at H;have cU:=decide_eq_true c8;clear c8;by_cases c9:B<(D.length:Int)
      ·rw[if_pos c9] at H;have cV:=decide_eq_true c9;clear c9;replace H:=Option.bind_eq_some_iff.mp H;obtain⟨bD,b4,H⟩:=H;(try dsimp only at H);have bE:=qA.mk b4;clear b4;by_cases b0:bD=true
       ·subst b0;rw[if_pos rfl] at H;have H':=qA.mk H;clear H;have aG:0≤(B:Int):=of_decide_eq_true byag;have aH:B<(D.length:Int):=of_decide_eq_true byag;obtain⟨b7,aY,J⟩:=Kd.Qp aW.out B aG aH
        cases aY
        replace J:=bc HB J;replace aG:=eq_true aG;replace aH:=eq_true aH;go_wp2_with (first|((with_reducible refine qC (f:=62) rfl ?_);refine qV (some 22) rfl rfl Try.func62 (by kernel_rfl) rfl #[.int .i64 a1,.int .i64 (rd D B)] rfl byah ?_;(with_reducible refine(Ql.calls a1 (rd D B) true _ bE.out).mono ?_);rintro e w' ⟨rfl,⟨nd,rfl⟩⟩;refine⟨_,rfl,?_⟩));go_roundg k1;case measure=>have:=HK1.out;omega
        case rel=>exact⟨(wrap64 (aO+1)),(wrap64 (B+1)),byaf,byaf,H',⟨byai⟩,⟨bq z⟩,⟨byae A⟩⟩
       ·replace b0:=Bool.eq_false_iff.mpr b0;subst b0;rw[if_neg (show¬(false=true) by decide)] at H;have H':=qA.mk H;clear H;have aG:0≤(B:Int):=of_decide_eq_true byag;have aH:B<(D.length:Int):=of_decide_eq_true byag;obtain⟨b7,aY,J⟩:=Kd.Qp aW.out B aG aH
        cases aY
        replace J:=bc HB J;replace aG:=eq_true aG;replace aH:=eq_true aH;go_wp2_with (first|((with_reducible refine qC (f:=62) rfl ?_);refine qV (some 22) rfl rfl Try.func62 (by kernel_rfl) rfl #[.int .i64 a1,.int .i64 (rd D B)] rfl byah ?_;(with_reducible refine(Ql.calls a1 (rd D B) false _ bE.out).mono ?_);rintro e w' ⟨rfl,⟨nd,rfl⟩⟩;refine⟨_,rfl,?_⟩));go_roundg k1;case measure=>have:=HK1.out;omega
        case rel=>exact⟨(aO),(wrap64 (B+1)),byaf,byaf,H',⟨byai⟩,⟨bq z⟩,⟨byae A⟩⟩
      ·rw[if_neg c9] at H;exact absurd H (by simp)
     ·rw[if_neg c8] at H;exact absurd H (by simp)
    ·rw[if_neg c7] at H;have bC:=decide_eq_false c7;clear c7;have H':=qA.mk H;clear H;obtain⟨bF,bG,bH,bI,bJ,bK⟩:=cz3 z.out;go_wp2;go_loopg [5,29] k1 (fun kq v5 cN w'=>∃(aP:Int) (p:Int),v5=.int .i64 aP∧cN=.int .i64 p∧qA (qX.l1 kq a1 aP s (s.length:Int) p O D s=some r)∧qA (kq≤k1)∧qA (w'.heap[I]? =some (.cells #[.int .i64 O,(.slice a8 D.length a9),(.slice aF s.length aA)] 56 (0,0)))∧qA (Below w.heap.size w w'));case atStart=>exact⟨(aO),(0),byaf,byaf,H',⟨Nat.le_refl _⟩,⟨bq z⟩,⟨byae A⟩⟩
     case round=>
      clear H';(try clear cW);(try clear J);obtain⟨aP,p,rfl,rfl,HA,HK2,z,HB⟩:=hrel
      cases gk with
      |zero=>exact absurd HA.out (by simp[qX.l1])
      |succ k2=>
       have H:=HA.out;clear HA;simp only[qX.l1] at H;by_cases aV:p<(s.length:Int)
       ·rw[if_pos aV] at H;have b8:=decide_eq_true aV;clear aV;by_cases b1:0≤p
        ·rw[if_pos b1] at H;have cO:=decide_eq_true b1;clear b1;by_cases b2:p<(s.length:Int)
         ·rw[if_pos b2] at H;have cP:=decide_eq_true b2;clear b2;replace H:=Option.bind_eq_some_iff.mp H;obtain⟨bL,b5,H⟩:=H;(try dsimp only at H);have bM:=qA.mk b5;clear b5;by_cases b3:bL=true
          ·subst b3;rw[if_pos rfl] at H;have H':=qA.mk H;clear H;have aI:0≤(p:Int):=of_decide_eq_true byag;have aJ:p<(s.length:Int):=of_decide_eq_true byag;obtain⟨aU,aB,aC,aD,aE,aZ,T,U,X,Y,hi159_1,Z,hi159_2⟩:=Zq aX.out p aI aJ
           cases aZ
           replace T:=bc HB T;replace U:=bc HB U;replace X:=bc HB X;have aK:=qA.mk hi159_1;have aL:=qA.mk Y;clear hi159_1 Y;have aM:=qA.mk hi159_2;have aN:=qA.mk Z;clear hi159_2 Z;replace aI:=eq_true aI;replace aJ:=eq_true aJ;go_wp2_with (first|((with_reducible refine qH (N:=9) rfl ?_);refine qG ?hg (N:=9) ?hd (cs:=#[.int .i64 0,.slice none 0 0,.slice none 0 0]) (t:=56) ?hr ?_;(case hd=>rfl);(case hg=>rfl);(case hr=>exact byab);intro K hg cX hbox hb;have n_:=q_6 (bbl z hb) (qB (byae A) hb) (hbox) ((by rw[hg];exact(qI (byae A)):w.heap.size≤K)) ((by rw[hg];exact(qI (byae A)):w.heap.size≤K)) ((by rw[hg];exact Nat.ne_of_lt (bl z):I≠K));clear z HB;obtain⟨z,HB,L,b9,M,G⟩:=n_;have a7:=ns G;clear hb hbox hg;have cQ:=a7.out;have cR:=G.out;obtain⟨bN,bO,bP,bQ,bR,bT⟩:=cz3 L.out)|((with_reducible refine qC (f:=93) rfl ?_);refine qV (some 35) rfl rfl Try.func93 (by kernel_rfl) rfl #[.agg #[.int .i64 ((qQ s p).f0),.slice aB ((qQ s p).f1).length aC,.slice aD ((qQ s p).f2).length aE],.int .i64 a1] rfl byah ?_;(with_reducible refine(ih k2 byar ((qQ s p).f0) _ _ ((qQ s p).f1) _ _ ((qQ s p).f2) a1 true _ ?side1 ?side2 ?side3 ?side4 bM.out).mono ?_);(case side1=>exact Kd.vO aK.out (byaj A M));(case side2=>exact aL.out);(case side3=>exact Kd.vO aM.out (byaj A M));(case side4=>exact aN.out);rintro e cY ⟨rfl,hb⟩;refine⟨_,rfl,?_⟩;have n_:=q_3 (vC (g:=I) (o:=.cells #[.int .i64 O,.slice a8 D.length a9,.slice (some aU) s.length aA] 56 (0,0)) (byak G z) hb) (vC (g:=K) (o:=.cells #[.int .i64 ((qQ s p).f0),.slice aB ((qQ s p).f1).length aC,.slice aD ((qQ s p).f2).length aE] 56 (0,0)) (bp L) hb) (qB (byaj A M) hb);clear z L HB;obtain⟨z,L,HB⟩:=n_;clear hb));go_roundg k2;case measure=>have:=HK1.out;have:=HK2.out;omega
           case rel=>exact⟨(wrap64 (aP+1)),(wrap64 (p+1)),byaf,byaf,H',⟨byar⟩,⟨bq z⟩,⟨byaj A M⟩⟩
          ·replace b3:=Bool.eq_false_iff.mpr b3;subst b3;rw[if_neg (show¬(false=true) by decide)] at H;have H':=qA.mk H;clear H;have aI:0≤(p:Int):=of_decide_eq_true byag;have aJ:p<(s.length:Int):=of_decide_eq_true byag;obtain⟨aU,aB,aC,aD,aE,aZ,T,U,X,Y,hi159_1,Z,hi159_2⟩:=Zq aX.out p aI aJ
           cases aZ
           replace T:=bc HB T;replace U:=bc HB U;replace X:=bc HB X;have aK:=qA.mk hi159_1;have aL:=qA.mk Y;clear hi159_1 Y;have aM:=qA.mk hi159_2;have aN:=qA.mk Z;clear hi159_2 Z;replace aI:=eq_true aI;replace aJ:=eq_true aJ;go_wp2_with (first|((with_reducible refine qH (N:=9) rfl ?_);refine qG ?hg (N:=9) ?hd (cs:=#[.int .i64 0,.slice none 0 0,.slice none 0 0]) (t:=56) ?hr ?_;(case hd=>rfl);(case hg=>rfl);(case hr=>exact byab);intro K hg cZ hbox hb;have n_:=q_6 (bbl z hb) (qB (byae A) hb) (hbox) ((by rw[hg];exact(qI (byae A)):w.heap.size≤K)) ((by rw[hg];exact(qI (byae A)):w.heap.size≤K)) ((by rw[hg];exact Nat.ne_of_lt (bl z):I≠K));clear z HB;obtain⟨z,HB,L,b9,M,G⟩:=n_;have a7:=ns G;clear hb hbox hg;have cS:=a7.out;have cT:=G.out;obtain⟨bU,bV,bW,bX,bY,bZ⟩:=cz3 L.out)|((with_reducible refine qC (f:=93) rfl ?_);refine qV (some 35) rfl rfl Try.func93 (by kernel_rfl) rfl #[.agg #[.int .i64 ((qQ s p).f0),.slice aB ((qQ s p).f1).length aC,.slice aD ((qQ s p).f2).length aE],.int .i64 a1] rfl byah ?_;(with_reducible refine(ih k2 byar ((qQ s p).f0) _ _ ((qQ s p).f1) _ _ ((qQ s p).f2) a1 false _ ?side1 ?side2 ?side3 ?side4 bM.out).mono ?_);(case side1=>exact Kd.vO aK.out (byaj A M));(case side2=>exact aL.out);(case side3=>exact Kd.vO aM.out (byaj A M));(case side4=>exact aN.out);rintro e d0 ⟨rfl,hb⟩;refine⟨_,rfl,?_⟩;have n_:=q_3 (vC (g:=I) (o:=.cells #[.int .i64 O,.slice a8 D.length a9,.slice (some aU) s.length aA] 56 (0,0)) (byak G z) hb) (vC (g:=K) (o:=.cells #[.int .i64 ((qQ s p).f0),.slice aB ((qQ s p).f1).length aC,.slice aD ((qQ s p).f2).length aE] 56 (0,0)) (bp L) hb) (qB (byaj A M) hb);clear z L HB;obtain⟨z,L,HB⟩:=n_;clear hb));go_roundg k2;case measure=>have:=HK1.out;have:=HK2.out;omega
           case rel=>exact⟨(aP),(wrap64 (p+1)),byaf,byaf,H',⟨byar⟩,⟨bq z⟩,⟨byaj A M⟩⟩
         ·rw[if_neg b2] at H;exact absurd H (by simp)
        ·rw[if_neg b1] at H;exact absurd H (by simp)
       ·rw[if_neg aV] at H;have b8:=decide_eq_false aV;clear aV;obtain rfl:=Option.some.inj H;obtain⟨c0,c1,cA,cB,cC,cD⟩:=cz3 z.out;go_wp2;go_ret;exact⟨byad,byae A⟩
 ·replace c4:=Bool.eq_false_iff.mpr c4;subst c4;rw[if_neg (show¬(false=true) by decide)] at H;obtain rfl:=Option.some.inj H;go_enter Try.func93,Try.ntmps93;go_wp2_with (first|((with_reducible refine qH (N:=2) rfl ?_);refine qG ?hg (N:=2) ?hd (cs:=#[.int .i64 O,.slice a8 D.length a9,.slice aF s.length aA]) (t:=56) ?hr ?_;(case hd=>rfl);(case hg=>rfl);(case hr=>exact byab);intro I hg d1 hbox hb;have n_:=q_4 (qB byac hb) (hbox) ((bycn:w.heap.size≤I)) ((bycn:w.heap.size≤I));clear HB;obtain⟨HB,z,b6,A⟩:=n_;clear hb hbox hg)|((with_reducible refine qC (f:=73) rfl ?_);refine qV (some 11) rfl rfl Try.func73 (by kernel_rfl) rfl #[.int .i64 a1] rfl byah ?_;(with_reducible refine(uD.calls a1 false _ A3.out).mono ?_);rintro e w' ⟨rfl,⟨nd,rfl⟩⟩;refine⟨_,rfl,?_⟩));go_ret;exact⟨byad,byae A⟩
def kE.f (k:Nat) (p:List (S58)) (a1:Int) (a2:Int):Option (Bool):=if 0≤a1 then(if a1<(p.length:Int) then((qX.f k ((qU p a1).f1.f0) ((qU p a1).f1.f1) ((qU p a1).f1.f2) a2).bind fun r=>(some r)) else(none)) else(none)
theorem kE.mono:∀a0 a1 a2 k,LeO (kE.f k a0 a1 a2) (kE.f (k+1) a0 a1 a2):=by
 intro a0 a1 a2 k;unfold kE.f;repeat' first
   |(with_reducible exact qX.mono _ _ _ _ _)
   |(with_reducible exact LeO.refl _)
   |(with_reducible exact LeO.none _)
   |(with_reducible refine LeO.ite ?_ ?_)
   |(with_reducible refine LeO.bind ?_ (fun _=>?_))
   |exact qX.mono _ _ _ _ _
   |exact LeO.none _
   |refine LeO.ite ?_ ?_
   |refine LeO.bind ?_ (fun _=>?_)
set_option maxHeartbeats 8000000 in
set_option maxRecDepth 100000 in
theorem kE.calls (k:Nat) (J:Option Addr) (K:Nat) (p:List (S58)) (a1:Int) (a2:Int) (r:Bool) (w:World) (L:Kd.C k58 w J p.length p) (M:p.length≤K) (h:kE.f k p a1 a2=some r):
  Calls Try.prog 87 #[.agg #[.slice J p.length K],.int .i64 a1,.int .i64 a2] w fun e w'=>e=.returned (.bool r)∧Below w.heap.size w w':=by
 have hu25:=Try.underlying25;have hu56:=Try.underlying56;have aD:=qA.mk L;have aJ:=qA.mk M;clear L M;have HB:=qA.mk (Below.refl w.heap.size w);unfold kE.f at h;have H:=h;clear h;by_cases c4:0≤a1
 ·rw[if_pos c4] at H;have aM:=decide_eq_true c4;clear c4;by_cases c5:a1<(p.length:Int)
  ·rw[if_pos c5] at H;have aN:=decide_eq_true c5;clear c5;replace H:=Option.bind_eq_some_iff.mp H;obtain⟨aE,aF,H⟩:=H;(try dsimp only at H);have A6:=qA.mk aF;clear aF;obtain rfl:=Option.some.inj H;go_enter Try.func87,Try.ntmps87;go_wp2_with (first|((with_reducible refine qH (N:=3) rfl ?_);refine qG ?hg (N:=3) ?hd (cs:=#[.slice J p.length K]) (t:=25) ?hr ?_;(case hd=>rfl);(case hg=>rfl);(case hr=>exact byab);intro O hg w7 hbox hb;have n_:=q_4 (qB byac hb) (hbox) ((bycn:w.heap.size≤O)) ((bycn:w.heap.size≤O));clear HB;obtain⟨HB,s,aK,T⟩:=n_;clear hb hbox hg;obtain⟨aH,aI⟩:=cz1 s.out;have U:0≤(a1:Int):=of_decide_eq_true byag;have X:a1<(p.length:Int):=of_decide_eq_true byag;obtain⟨aL,a9,aA,aB,aC,aG,z,A,B,D,G,hi163_2,I,hi163_3⟩:=Zp aD.out a1 U X;cases aG;replace z:=bc HB z;replace A:=bc HB A;replace B:=bc HB B;replace D:=bc HB D;have Y:=qA.mk hi163_2;have Z:=qA.mk G;clear hi163_2 G;have a7:=qA.mk hi163_3;have a8:=qA.mk I;clear hi163_3 I;replace U:=eq_true U;replace X:=eq_true X)|((with_reducible refine qC (f:=93) rfl ?_);refine qV (some 14) rfl rfl Try.func93 (by kernel_rfl) rfl #[.agg #[.int .i64 ((qU p a1).f1.f0),.slice a9 ((qU p a1).f1.f1).length aA,.slice aB ((qU p a1).f1.f2).length aC],.int .i64 a2] rfl byah ?_;(with_reducible refine(qX.calls k ((qU p a1).f1.f0) _ _ ((qU p a1).f1.f1) _ _ ((qU p a1).f1.f2) a2 aE _ ?side1 ?side2 ?side3 ?side4 A6.out).mono ?_);(case side1=>exact byaq Y);(case side2=>exact Z.out);(case side3=>exact byaq a7);(case side4=>exact a8.out);rintro e w9 ⟨rfl,hb⟩;refine⟨_,rfl,?_⟩;have n_:=q_2 (bbl s hb) (qB (byae T) hb);clear s HB;obtain⟨s,HB⟩:=n_;clear hb));go_ret;exact⟨byad,byae T⟩
  ·rw[if_neg c5] at H;exact absurd H (by simp)
 ·rw[if_neg c4] at H;exact absurd H (by simp)
def jJ.l0:Nat→Int→List Int→Int→Int→List (S58)→Option (Int × Bool)
 |0,_,_,_,_,_=>none
 |k+1,x1,x9,s,r,p=>if r<s then(if 0≤r then(if r<(x9.length:Int) then((kE.f k p (rd x9 r) x1).bind fun z=>(if z=true then(jJ.l0 k x1 x9 s (wrap64 (r+1)) p) else(some (rd x9 r,true)))) else(none)) else(none)) else(some (0,false))
def jJ.f (k:Nat) (r:List (S58)) (a1:Int):Option (Int × Bool):=(vF.f k a1).bind fun p=>(jJ.l0 k a1 p (p.length:Int) 0 r)
theorem jJ.mono_l:∀k,(∀y0 y1 y2 y3 y4,LeO (jJ.l0 k y0 y1 y2 y3 y4) (jJ.l0 (k+1) y0 y1 y2 y3 y4))
 |0=>fun _ _ _ _ _ r h=>by simp[jJ.l0] at h
 |k+1=>by
  have p:=jJ.mono_l k
  ·intro y0 y1 y2 y3 y4;unfold jJ.l0;repeat' first
   |(with_reducible exact p _ _ _ _ _)
   |(with_reducible exact kE.mono _ _ _ _)
   |(with_reducible exact vF.mono _ _)
   |(with_reducible exact LeO.refl _)
   |(with_reducible exact LeO.none _)
   |(with_reducible refine LeO.ite ?_ ?_)
   |(with_reducible refine LeO.bind ?_ (fun _=>?_))
   |exact p _ _ _ _ _
   |exact kE.mono _ _ _ _
   |exact vF.mono _ _
   |exact LeO.none _
   |refine LeO.ite ?_ ?_
   |refine LeO.bind ?_ (fun _=>?_)
theorem jJ.mono:∀a0 a1 k,LeO (jJ.f k a0 a1) (jJ.f (k+1) a0 a1):=by
 intro a0 a1 k;have p:=jJ.mono_l k;unfold jJ.f;repeat' first
   |(with_reducible exact p _ _ _ _ _)
   |(with_reducible exact kE.mono _ _ _ _)
   |(with_reducible exact vF.mono _ _)
   |(with_reducible exact LeO.refl _)
   |(with_reducible exact LeO.none _)
   |(with_reducible refine LeO.ite ?_ ?_)
   |(with_reducible refine LeO.bind ?_ (fun _=>?_))
   |exact p _ _ _ _ _
   |exact kE.mono _ _ _ _
   |exact vF.mono _ _
   |exact LeO.none _
   |refine LeO.ite ?_ ?_
   |refine LeO.bind ?_ (fun _=>?_)
set_option maxHeartbeats 8000000 in
set_option maxRecDepth 100000 in
theorem jJ.calls (k:Nat) (I:Option Addr) (J:Nat) (z:List (S58)) (a1:Int) (r1:Int) (r2:Bool) (w:World) (L:Kd.C k58 w I z.length z) (M:z.length≤J) (h:jJ.f k z a1=some (r1,r2)):
  Calls Try.prog 75 #[.agg #[.slice I z.length J],.int .i64 a1] w fun e w'=>e=.returned (.tuple #[.int .i64 r1,.bool r2])∧Below w.heap.size w w':=by
 have hu25:=Try.underlying25;have O:=qA.mk L;have T:=qA.mk M;clear L M;have HB:=qA.mk (Below.refl w.heap.size w);unfold jJ.f at h;have H:=h;clear h;replace H:=Option.bind_eq_some_iff.mp H;obtain⟨s,a9,H⟩:=H;(try dsimp only at H);have A3:=qA.mk a9;clear a9;have H':=qA.mk H;clear H;go_enter Try.func75,Try.ntmps75;go_wp2_with (first|((with_reducible refine qH (N:=2) rfl ?_);refine qG ?hg (N:=2) ?hd (cs:=#[.slice I z.length J]) (t:=25) ?hr ?_;(case hd=>rfl);(case hg=>rfl);(case hr=>exact byab);intro K hg w4 hbox hb;have n_:=q_4 (qB byac hb) (hbox) ((bycn:w.heap.size≤K)) ((bycn:w.heap.size≤K));clear HB;obtain⟨HB,r,aI,A⟩:=n_;clear hb hbox hg)|((with_reducible refine qC (f:=61) rfl ?_);refine qV (some 9) rfl rfl Try.func61 (by kernel_rfl) rfl #[.int .i64 a1] rfl byah ?_;(with_reducible refine(vF.calls k a1 s _ A3.out).mono ?_);rintro e w5 ⟨aN,rfl,aA,hb⟩;refine⟨_,rfl,?_⟩;have n_:=q_3 (Kd.kF aA (qI (byae A))) (bbl r hb) (qB (byae A) hb);clear r HB;obtain⟨U,r,HB⟩:=n_;clear hb;(try clear aA);obtain⟨aJ,aK,aL⟩:=Kd.vK U.out;subst aL));go_loopg [11] k (fun kq aM w'=>∃(p:Int),aM=.int .i64 p∧qA (jJ.l0 kq a1 s (s.length:Int) p z=some (r1,r2))∧qA (kq≤k)∧qA (Kd.R (Kd.int .i64) 3 w' w.heap.size (fun _=>True) (.slice aJ s.length aK) s)∧qA (w'.heap[K]? =some (.cells #[(.slice I z.length J)] 25 (0,0)))∧qA (Below w.heap.size w w'));case atStart=>exact⟨(0),byaf,H',⟨Nat.le_refl _⟩,⟨pXR U⟩,⟨bq r⟩,⟨byae A⟩⟩
 case round=>
  clear H';obtain⟨p,rfl,HA,HK1,B,r,HB⟩:=hrel
  cases gk with
  |zero=>exact absurd HA.out (by simp[jJ.l0])
  |succ k1=>
   have H:=HA.out;clear HA;simp only[jJ.l0] at H;by_cases c7:p<(s.length:Int)
   ·rw[if_pos c7] at H;have aB:=decide_eq_true c7;clear c7;by_cases c8:0≤p
    ·rw[if_pos c8] at H;have aO:=decide_eq_true c8;clear c8;by_cases c9:p<(s.length:Int)
     ·rw[if_pos c9] at H;have aP:=decide_eq_true c9;clear c9;replace H:=Option.bind_eq_some_iff.mp H;obtain⟨aC,a7,H⟩:=H;(try dsimp only at H);have aD:=qA.mk a7;clear a7;by_cases Z:aC=true
      ·subst Z;rw[if_pos rfl] at H;have H':=qA.mk H;clear H;have D:0≤(p:Int):=of_decide_eq_true byag;have G:p<(s.length:Int):=of_decide_eq_true byag;obtain⟨a8,X,Y⟩:=Kd.Qp (Kd.uO B.out).2.2 p D G
       cases X
       replace D:=eq_true D;replace G:=eq_true G;obtain⟨aE,aF⟩:=cz1 r.out;go_wp2_with (first|((with_reducible refine qC (f:=87) rfl ?_);refine qV (some 18) rfl rfl Try.func87 (by kernel_rfl) rfl #[.agg #[.slice I z.length J],.int .i64 (rd s p),.int .i64 a1] rfl byah ?_;(with_reducible refine(kE.calls k1 _ _ z (rd s p) a1 true _ ?side1 ?side2 aD.out).mono ?_);(case side1=>exact byaq O);(case side2=>exact T.out);rintro e aQ ⟨rfl,hb⟩;refine⟨_,rfl,?_⟩;have n_:=q_3 (Kd.kQ (pXR B) hb) (bbl r hb) (qB (byae A) hb);clear B r HB;obtain⟨B,r,HB⟩:=n_;clear hb));go_roundg k1;case measure=>have:=HK1.out;omega
       case rel=>exact⟨(wrap64 (p+1)),byaf,H',⟨byai⟩,⟨pXR B⟩,⟨bq r⟩,⟨byae A⟩⟩
      ·replace Z:=Bool.eq_false_iff.mpr Z;subst Z;rw[if_neg (show¬(false=true) by decide)] at H;simp only[Option.some.injEq,Prod.mk.injEq] at H;obtain⟨rfl,rfl⟩:=H;have D:0≤(p:Int):=of_decide_eq_true byag;have G:p<(s.length:Int):=of_decide_eq_true byag;obtain⟨a8,X,Y⟩:=Kd.Qp (Kd.uO B.out).2.2 p D G
       cases X
       replace D:=eq_true D;replace G:=eq_true G;obtain⟨aG,aH⟩:=cz1 r.out;go_wp2_with (first|((with_reducible refine qC (f:=87) rfl ?_);refine qV (some 18) rfl rfl Try.func87 (by kernel_rfl) rfl #[.agg #[.slice I z.length J],.int .i64 (rd s p),.int .i64 a1] rfl byah ?_;(with_reducible refine(kE.calls k1 _ _ z (rd s p) a1 false _ ?side1 ?side2 aD.out).mono ?_);(case side1=>exact byaq O);(case side2=>exact T.out);rintro e aR ⟨rfl,hb⟩;refine⟨_,rfl,?_⟩;have n_:=q_3 (Kd.kQ (pXR B) hb) (bbl r hb) (qB (byae A) hb);clear B r HB;obtain⟨B,r,HB⟩:=n_;clear hb));go_ret2;exact⟨byad,byae A⟩
     ·rw[if_neg c9] at H;exact absurd H (by simp)
    ·rw[if_neg c8] at H;exact absurd H (by simp)
   ·rw[if_neg c7] at H;have aB:=decide_eq_false c7;clear c7;simp only[Option.some.injEq,Prod.mk.injEq] at H;obtain⟨rfl,rfl⟩:=H;go_wp2;go_ret2;exact⟨byad,byae A⟩
end Go.Proofs.Ytkkbdimegpdbgaa.P
