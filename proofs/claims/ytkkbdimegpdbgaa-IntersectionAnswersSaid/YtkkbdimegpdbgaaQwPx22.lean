/- Walks: the calls answer as Lean functions say; conditions: each theorem's own. -/
import Derived.Test.YtkkbdimegpdbgaaQwPx17
namespace Go.Proofs.Ytkkbdimegpdbgaa.P
open Go.RowKit Go.Proofs.YtkkbdimegpdbgaaW.PrintWords Go.Proofs.YtkkbdimegpdbgaaW.PrintLast Go.Proofs.YtkkbdimegpdbgaaW.PrintMore
attribute [local go_sem] kK kM Qa Qb uV uU kN kL
set_option linter.unusedVariables false
set_option linter.unusedSimpArgs false
def jA.l0:Nat→Int→Int→Int→Option (Int)
 |0,_,_,_=>none
 |k+1,x0,x3,x4=>if x4<10 then((zZ.f x0).bind fun p=>(if p=true then(if 0≤x4 then(jA.l0 k x0 (wrap64 (x3+(Go.bits .and .i64 (shr .i64 x0 x4) 1))) (wrap64 (x4+1))) else(none)) else(some x3))) else(some x3)
def jA.f (k:Nat) (a0:Int):Option (Int):=jA.l0 k a0 0 0
theorem jA.mono_l:∀k,(∀y0 y1 y2,LeO (jA.l0 k y0 y1 y2) (jA.l0 (k+1) y0 y1 y2))
 |0=>fun _ _ _ r h=>by simp[jA.l0] at h
 |k+1=>by
  have p:=jA.mono_l k
  ·intro y0 y1 y2;unfold jA.l0;repeat' first
   |(with_reducible exact p _ _ _)
   |(with_reducible exact LeO.refl _)
   |(with_reducible exact LeO.none _)
   |(with_reducible refine LeO.ite ?_ ?_)
   |(with_reducible refine LeO.bind ?_ (fun _=>?_))
   |exact p _ _ _
   |exact LeO.none _
   |refine LeO.ite ?_ ?_
   |refine LeO.bind ?_ (fun _=>?_)
theorem jA.mono:∀a0 k,LeO (jA.f k a0) (jA.f (k+1) a0):=by
 intro a0 k;have p:=jA.mono_l k;unfold jA.f;repeat' first
   |(with_reducible exact p _ _ _)
   |(with_reducible exact LeO.refl _)
   |(with_reducible exact LeO.none _)
   |(with_reducible refine LeO.ite ?_ ?_)
   |(with_reducible refine LeO.bind ?_ (fun _=>?_))
   |exact p _ _ _
   |exact LeO.none _
   |refine LeO.ite ?_ ?_
   |refine LeO.bind ?_ (fun _=>?_)
set_option maxHeartbeats 8000000 in
set_option maxRecDepth 100000 in
theorem jA.calls (k:Nat) (a0:Int) (r:Int) (w:World) (h:jA.f k a0=some r):
  Calls Try.prog 78 #[.int .i64 a0] w fun e w'=>e=.returned (.int .i64 r)∧Qs w w':=by
 unfold jA.f at h;have H:=h;clear h;have H':=qA.mk H;clear H;go_enter Try.func78,Try.ntmps78;go_wp2;go_loopg [3,4] k (fun kq v3 v4 w'=>∃(s:Int) (p:Int),v3=.int .i64 s∧v4=.int .i64 p∧qA (jA.l0 kq a0 s p=some r)∧qA (kq≤k)∧Qs w w');case atStart=>exact⟨(0),(0),byaf,byaf,H',⟨Nat.le_refl _⟩,byam⟩
 case round=>
  clear H';obtain⟨s,p,rfl,rfl,HA,HK1,⟨m1,rfl⟩⟩:=hrel
  cases gk with
  |zero=>exact absurd HA.out (by simp[jA.l0])
  |succ k1=>
   have H:=HA.out;clear HA;simp only[jA.l0] at H;by_cases c2:p<10
   ·rw[if_pos c2] at H;have A:=decide_eq_true c2;clear c2;replace H:=Option.bind_eq_some_iff.mp H;obtain⟨B,D,H⟩:=H;(try dsimp only at H);have A3:=qA.mk D;clear D;by_cases c4:B=true
    ·subst c4;rw[if_pos rfl] at H;by_cases c5:0≤p
     ·rw[if_pos c5] at H;have J:=eq_true c5;have K:=decide_eq_true c5;clear c5;obtain⟨z,hji6⟩:∃j_:Int,(shr .i64 a0 p)=j_:=⟨_,rfl⟩;(first|rw[hji6] at H|(simp only[hji6] at H));(try rw[hji6] at A3);have G:(a0 / 2^min p.toNat 64)=z:=hji6;have I:p≤64→(a0 / 2^p.toNat)=z:=shr_small hji6;have H':=qA.mk H;clear H;go_wp2_with (first|(go_at_call 43;(with_reducible refine(zZ.calls a0 true _ A3.out).mono ?_);rintro e w' ⟨rfl,⟨nd,rfl⟩⟩));go_roundg k1;case measure=>have:=HK1.out;omega
      case rel=>exact⟨(wrap64 (s+(Go.bits .and .i64 (z) 1))),(wrap64 (p+1)),(by first|rfl|(simp;done)|(simp only[← hji6]<;>(first|rfl|simp))|(simp[*];done)),byaf,H',⟨byai⟩,byam⟩
     ·rw[if_neg c5] at H;exact absurd H (by simp)
    ·replace c4:=Bool.eq_false_iff.mpr c4;subst c4;rw[if_neg (show¬(false=true) by decide)] at H;obtain rfl:=Option.some.inj H;go_wp2_with (first|(go_at_call 43;(with_reducible refine(zZ.calls a0 false _ A3.out).mono ?_);rintro e w' ⟨rfl,⟨nd,rfl⟩⟩));go_ret;exact⟨byaf,byam⟩
   ·rw[if_neg c2] at H;have A:=decide_eq_false c2;clear c2;obtain rfl:=Option.some.inj H;go_wp2;go_ret;exact⟨byaf,byam⟩
mutual
def zD.l0:Nat→Int→List Int→Int→Option (List Int)
 |0,_,_,_=>none
 |k+1,x0,x3,x4=>(jA.f k x0).bind fun p=>(if x4≤p then((zZ.f x0).bind fun r=>(zD.j1 k x0 x3 x4 r)) else(zD.j1 k x0 x3 x4 false))
def zD.j1:Nat→Int→List Int→Int→Bool→Option (List Int)
 |0,_,_,_,_=>none
 |k+1,x0,x3,x4,z=>if z=true then(zD.l1 k x0 x3 x4 0) else(some x3)
def zD.l1:Nat→Int→List Int→Int→Int→Option (List Int)
 |0,_,_,_,_=>none
 |k+1,x0,x3,x4,x5=>if x5≤x0 then(if(Go.bits .and .i64 x5 x0)=x5 then((jA.f k x5).bind fun s=>(if s=x4 then(if x3.length<17592186044416 then(zD.l1 k x0 (x3++[x5]) x4 (wrap64 (x5+1))) else(none)) else(zD.l1 k x0 x3 x4 (wrap64 (x5+1))))) else(zD.l1 k x0 x3 x4 (wrap64 (x5+1)))) else(zD.l0 k x0 x3 (wrap64 (x4+1)))
end
def zD.f (k:Nat) (a0:Int):Option (List Int):=zD.l0 k a0 ([]:List Int) 0
set_option maxHeartbeats 8000000 in
set_option maxRecDepth 100000 in
theorem zD.calls (k:Nat) (a0:Int) (r:List Int) (w:World) (h:zD.f k a0=some r):
  Calls Try.prog 56 #[.int .i64 a0] w fun e w'=>∃Z:Value,e=.returned (Z)∧Kd.R (Kd.int .i64) 3 w' w.heap.size (fun _=>True) Z r∧Below w.heap.size w w':=by
 have HB:=qA.mk (Below.refl w.heap.size w);unfold zD.f at h;have H:=h;clear h;have H':=qA.mk H;clear H;go_enter Try.func56,Try.ntmps56;go_wp2;go_loopg [3,4] k (fun kq v3 v4 w'=>∃(B:List Int) (A:Int),v4=.int .i64 A∧qA (zD.l0 kq a0 B A=some r)∧qA (kq≤k)∧qA (Kd.R (Kd.int .i64) 3 w' w.heap.size (fun _=>True) v3 B)∧qA (Below w.heap.size w w'));case atStart=>exact⟨(([]:List Int)),(0),byaf,H',⟨Nat.le_refl _⟩,⟨byav⟩,⟨byac⟩⟩
 case round=>
  clear H';obtain⟨B,A,rfl,HA,HK1,s,HB⟩:=hrel
  cases gk with
  |zero=>exact absurd HA.out (by simp[zD.l0])
  |succ k1=>
   have H:=HA.out;clear HA;simp only[zD.l0] at H;have T:=qA.mk H;clear H;go_upto_region 3 with(fail)
   go_cut[13] (fun aG wc=>∃(kq:Nat) (D:Bool),aG=.bool D∧qA (zD.j1 kq a0 B A D=some r)∧qA (kq≤k1)∧qA (Kd.R (Kd.int .i64) 3 wc w.heap.size (fun _=>True) u3 B)∧qA (Below w.heap.size w wc));case first=>
    have H:=T.out;clear T;replace H:=Option.bind_eq_some_iff.mp H;obtain⟨J,a7,H⟩:=H;(try dsimp only at H);have A3:=qA.mk a7;clear a7;by_cases c4:A≤J
    ·rw[if_pos c4] at H;have I:=decide_eq_true c4;clear c4;(first|rw[I]|(simp only[Qo,Qw];rw[I])|skip);replace H:=Option.bind_eq_some_iff.mp H;obtain⟨M,a8,H⟩:=H;(try dsimp only at H);have A5:=qA.mk a8;clear a8;have H':=qA.mk H;clear H;go_wp2_with (first|((with_reducible refine qC (f:=78) rfl ?_);refine qV (some 8) rfl rfl Try.func78 (by kernel_rfl) rfl #[.int .i64 a0] rfl byah ?_;(with_reducible refine(jA.calls k1 a0 J _ A3.out).mono ?_);rintro e w' ⟨rfl,⟨nd,rfl⟩⟩;refine⟨_,rfl,?_⟩)|(go_at_call 43;(with_reducible refine(zZ.calls a0 M _ A5.out).mono ?_);rintro e w' ⟨rfl,⟨nd,rfl⟩⟩));go_meet;case rel=>exact⟨_,(M),byaf,H',⟨byan⟩,⟨pXR s⟩,⟨byac⟩⟩
    ·rw[if_neg c4] at H;have I:=decide_eq_false c4;clear c4;(first|rw[I]|(simp only[Qo,Qw];rw[I])|skip);have H':=qA.mk H;clear H;go_wp2_with (first|((with_reducible refine qC (f:=78) rfl ?_);refine qV (some 8) rfl rfl Try.func78 (by kernel_rfl) rfl #[.int .i64 a0] rfl byah ?_;(with_reducible refine(jA.calls k1 a0 J _ A3.out).mono ?_);rintro e w' ⟨rfl,⟨nd,rfl⟩⟩;refine⟨_,rfl,?_⟩));go_meet;case rel=>exact⟨_,(false),byaf,H',⟨byan⟩,⟨pXR s⟩,⟨byac⟩⟩
   case rest=>
    clear T;obtain⟨kq,D,rfl,HA,HJ1,s,HB⟩:=hcut
    cases kq with
    |zero=>exact absurd HA.out (by simp[zD.j1])
    |succ a9=>
     have H:=HA.out;clear HA;simp only[zD.j1] at H;by_cases c6:D=true
     ·subst c6;rw[if_pos rfl] at H;have H':=qA.mk H;clear H;go_wp2;go_loopg [3,5] a9 (fun kq v3 v5 w'=>∃(z:List Int) (p:Int),v5=.int .i64 p∧qA (zD.l1 kq a0 z A p=some r)∧qA (kq≤a9)∧qA (Kd.R (Kd.int .i64) 3 w' w.heap.size (fun _=>True) v3 z)∧qA (Below w.heap.size w w'));case atStart=>exact⟨(B),(0),byaf,H',⟨Nat.le_refl _⟩,⟨pXR s⟩,⟨byac⟩⟩
      case round=>
       clear H';obtain⟨z,p,rfl,HA,HK3,s,HB⟩:=hrel
       cases gk with
       |zero=>exact absurd HA.out (by simp[zD.l1])
       |succ k3=>
        have H:=HA.out;clear HA;simp only[zD.l1] at H;by_cases c7:p≤a0
        ·rw[if_pos c7] at H;have aA:=decide_eq_true c7;clear c7;by_cases c8:(Go.bits .and .i64 p a0)=p
         ·rw[if_pos c8] at H;obtain⟨aC,aD⟩:=eqT c8;clear c8;replace H:=Option.bind_eq_some_iff.mp H;obtain⟨K,aE,H⟩:=H;(try dsimp only at H);have A9:=qA.mk aE;clear aE;by_cases c10:K=A
          ·rw[if_pos c10] at H;obtain⟨U,X⟩:=eqT c10;clear c10;by_cases L:z.length<17592186044416
           ·rw[if_pos L] at H;have LMc11:=qA.mk L;clear L;(first|(with_reducible have n_:=bS H;obtain⟨O,G,H⟩:=n_)|(obtain⟨O,G⟩:∃y_:List Int,y_=(z++[p]):=⟨_,rfl⟩;rw[← G] at H));(try dsimp only at H);have Ny559:=qA.mk G;clear G;have H':=qA.mk H;clear H;go_wp2_with (first|(go_at_call 78;(with_reducible refine(jA.calls k3 p K _ A9.out).mono ?_);rintro e w' ⟨rfl,⟨nd,rfl⟩⟩)|((with_reducible refine vS (b:=.append) (xs:=#[.tmp 32,.tmp 34]) rfl ?_);at_builtin;refine Kd.Q8 (Kd.int .i64) (w0:=w) w.heap.size rfl (.tmp 32) (.tmp 34) 22 3 (.int .i64 0) 8 rfl Try.underlying22 info3 rfl (by decide) (by omega) u3 z p [.int .i64 p] (fun _=>True) (fun _=>False) rfl rfl ?aP (fun _ hk=>hk.elim) ?aF ?aO ?aB ?aS ?aL ?_;(case aP=>exact rfl);(case aB=>exact byac);(case aF=>exact(fun _ _=>trivial));(case aO=>exact(pXR s));(case aS=>exact(qI byac));(case aL=>have:=LMc11.out;omega);intro aH aI ho hb hg hat;rw[← Ny559.out] at ho;have n_:=q_2 (hb) (ho);clear HB s;obtain⟨HB,Y⟩:=n_;clear ho hb hg hat));go_roundg k3;case measure=>have:=HK1.out;have:=HJ1.out;have:=HK3.out;omega
            case rel=>exact⟨(O),(wrap64 (p+1)),byaf,H',⟨bybs⟩,⟨pXR Y⟩,⟨byac⟩⟩
           ·rw[if_neg L] at H;exact absurd H (by simp)
          ·rw[if_neg c10] at H;obtain⟨U,X⟩:=eqF c10;have H':=qA.mk H;clear H;go_wp2_with (first|(go_at_call 78;(with_reducible refine(jA.calls k3 p K _ A9.out).mono ?_);rintro e w' ⟨rfl,⟨nd,rfl⟩⟩));go_roundg k3;case measure=>have:=HK1.out;have:=HJ1.out;have:=HK3.out;omega
           case rel=>exact⟨(z),(wrap64 (p+1)),byaf,H',⟨bybs⟩,⟨pXR s⟩,⟨byac⟩⟩
         ·rw[if_neg c8] at H;obtain⟨aC,aD⟩:=eqF c8;have H':=qA.mk H;clear H;go_wp2;go_roundg k3;case measure=>have:=HK1.out;have:=HJ1.out;have:=HK3.out;omega
          case rel=>exact⟨(z),(wrap64 (p+1)),byaf,H',⟨bybs⟩,⟨pXR s⟩,⟨byac⟩⟩
        ·rw[if_neg c7] at H;have aA:=decide_eq_false c7;clear c7;have H':=qA.mk H;clear H;go_wp2;go_roundg k3;case measure=>have:=HK1.out;have:=HJ1.out;have:=HK3.out;omega
         case rel=>exact⟨(z),(wrap64 (A+1)),byaf,H',⟨bybs⟩,⟨pXR s⟩,⟨byac⟩⟩
     ·replace c6:=Bool.eq_false_iff.mpr c6;subst c6;rw[if_neg (show¬(false=true) by decide)] at H;obtain rfl:=Option.some.inj H;go_wp2;go_ret;exact⟨_,byad,pXR s,byac⟩
def vH.f (p:List (S58)):Option (Int):=some (wrap64 ((shl .i64 1 (p.length:Int)) - 1))
set_option maxHeartbeats 8000000 in
set_option maxRecDepth 100000 in
theorem vH.calls (s:Option Addr) (z:Nat) (p:List (S58)) (r:Int) (w:World) (A:Kd.C k58 w s p.length p) (B:p.length≤z) (h:vH.f p=some r):
  Calls Try.prog 57 #[.agg #[.slice s p.length z]] w fun e w'=>e=.returned (.int .i64 r)∧Below w.heap.size w w':=by
 have hu25:=Try.underlying25;have L:=qA.mk A;have M:=qA.mk B;clear A B;have HB:=qA.mk (Below.refl w.heap.size w);unfold vH.f at h;have H:=h;clear h;obtain⟨aC,hji2⟩:∃j_:Int,(shl .i64 1 (p.length:Int))=j_:=⟨_,rfl⟩;(first|rw[hji2] at H|(simp only[hji2] at H));obtain⟨O,T,U,X,Y,Z,a7,a8,a9,aA⟩:=jiB hji2;obtain rfl:=Option.some.inj H;go_enter Try.func57,Try.ntmps57;go_wp2_with (first|((with_reducible refine qH (N:=1) rfl ?_);refine qG ?hg (N:=1) ?hd (cs:=#[.slice s p.length z]) (t:=25) ?hr ?_;(case hd=>rfl);(case hg=>rfl);(case hr=>exact byab);intro D hg w3 hbox hb;have n_:=q_4 (qB byac hb) (hbox) ((bycn:w.heap.size≤D)) ((bycn:w.heap.size≤D));clear HB;obtain⟨HB,G,aB,I⟩:=n_;clear hb hbox hg;obtain⟨J,K⟩:=cz1 G.out));go_ret;exact⟨byaw,byae I⟩
mutual
def zJ.l0:Nat→Int→List Int→Bool→List (S58)→Option (List Int)
 |0,_,_,_,_=>none
 |k+1,x5,x6,x7,p=>if x7=true then((vG.f k x5).bind fun z=>(zJ.l1 k x5 x6 false z (z.length:Int) 0 p)) else(some x6)
def zJ.l1:Nat→Int→List Int→Bool→List Int→Int→Int→List (S58)→Option (List Int)
 |0,_,_,_,_,_,_,_=>none
 |k+1,x5,x6,x7,s,A,r,p=>if r<A then(if 0≤r then(if r<(s.length:Int) then(if 0≤(rd s r) then(if(rd s r)<(p.length:Int) then((qY.f k ((qU p (rd s r)).f1.f0) ((qU p (rd s r)).f1.f1) ((qU p (rd s r)).f1.f2) x5).bind fun B=>(if B=true then(zJ.l1 k x5 x6 x7 s A (wrap64 (r+1)) p) else(if x6.length<17592186044416 then(zJ.l0 k (wrap64 (x5 - (shl .i64 1 (rd s r)))) (x6++[rd s r]) true p) else(none)))) else(none)) else(none)) else(none)) else(none)) else(zJ.l0 k x5 x6 x7 p)
end
def zJ.f (k:Nat) (p:List (S58)) (a1:Int):Option (List Int):=(zZ.f a1).bind fun r=>(if r=true then((zW.f k p).bind fun s=>(zJ.l0 k (Go.bits .and .i64 a1 s) ([]:List Int) true p)) else(some ([]:List Int)))
set_option maxHeartbeats 8000000 in
set_option maxRecDepth 100000 in
theorem zJ.calls (k:Nat) (Z:Option Addr) (X:Nat) (A:List (S58)) (a1:Int) (r:List Int) (w:World) (aX:Kd.C k58 w Z A.length A) (aY:A.length≤X) (h:zJ.f k A a1=some r):
  Calls Try.prog 79 #[.agg #[.slice Z A.length X],.int .i64 a1] w fun e w'=>∃bN:Value,e=.returned (bN)∧Kd.R (Kd.int .i64) 3 w' w.heap.size (fun _=>True) bN r∧Below w.heap.size w w':=by
 have hu25:=Try.underlying25;have hu56:=Try.underlying56;have aT:=qA.mk aX;have bH:=qA.mk aY;clear aX aY;have HB:=qA.mk (Below.refl w.heap.size w);unfold zJ.f at h;have H:=h;clear h;replace H:=Option.bind_eq_some_iff.mp H;obtain⟨bO,bP,H⟩:=H;(try dsimp only at H);have A3:=qA.mk bP;clear bP;by_cases c4:bO=true
 ·subst c4;rw[if_pos rfl] at H;replace H:=Option.bind_eq_some_iff.mp H;obtain⟨bC,bQ,H⟩:=H;(try dsimp only at H);have A5:=qA.mk bQ;clear bQ;have H':=qA.mk H;clear H;go_enter Try.func79,Try.ntmps79;go_wp2_with (first|((with_reducible refine qH (N:=2) rfl ?_);refine qG ?hg (N:=2) ?hd (cs:=#[.slice Z A.length X]) (t:=25) ?hr ?_;(case hd=>rfl);(case hg=>rfl);(case hr=>exact byab);intro I hg w6 hbox hb;have n_:=q_4 (qB byac hb) (hbox) ((bycn:w.heap.size≤I)) ((bycn:w.heap.size≤I));clear HB;obtain⟨HB,s,bI,B⟩:=n_;clear hb hbox hg)|((with_reducible refine qC (f:=43) rfl ?_);refine qV (some 11) rfl rfl Try.func43 (by kernel_rfl) rfl #[.int .i64 a1] rfl byah ?_;(with_reducible refine(zZ.calls a1 true _ A3.out).mono ?_);rintro e w' ⟨rfl,⟨nd,rfl⟩⟩;refine⟨_,rfl,?_⟩;obtain⟨bZ,c0⟩:=cz1 s.out)|((with_reducible refine qC (f:=44) rfl ?_);refine qV (some 15) rfl rfl Try.func44 (by kernel_rfl) rfl #[.agg #[.slice Z A.length X]] rfl byah ?_;(with_reducible refine(zW.calls k _ _ A bC _ ?side1 ?side2 A5.out).mono ?_);(case side1=>repeat(first|exact(Kd.vO aT.out (byae B))|(with_reducible refine Kd.Zu ?_ _)|(with_reducible refine Kd.Zt ?_ _)|(with_reducible refine Kd.Ja ?_)));(case side2=>exact bH.out);rintro e w8 ⟨rfl,hb⟩;refine⟨_,rfl,?_⟩;have n_:=q_2 (bbl s hb) (qB (byae B) hb);clear s HB;obtain⟨s,HB⟩:=n_;clear hb));go_loopg [5,6,7] k (fun kq v5 v6 v7 w'=>∃(aI:Int) (aU:List Int) (aV:Bool),v5=.int .i64 aI∧v7=.bool aV∧qA (zJ.l0 kq aI aU aV A=some r)∧qA (kq≤k)∧qA (Kd.R (Kd.int .i64) 3 w' w.heap.size (fun _=>True) v6 aU)∧qA (w'.heap[I]? =some (.cells #[(.slice Z A.length X)] 25 (0,0)))∧qA (Below w.heap.size w w'));case atStart=>exact⟨(Go.bits .and .i64 a1 bC),(([]:List Int)),(true),byaf,byaf,H',⟨Nat.le_refl _⟩,⟨byav⟩,⟨bq s⟩,⟨byae B⟩⟩
  case round=>
   clear H';obtain⟨aI,aU,aV,rfl,rfl,HA,HK1,D,s,HB⟩:=hrel
   cases gk with
   |zero=>exact absurd HA.out (by simp[zJ.l0])
   |succ k1=>
    have H:=HA.out;clear HA;simp only[zJ.l0] at H;by_cases c9:aV=true
    ·subst c9;rw[if_pos rfl] at H;replace H:=Option.bind_eq_some_iff.mp H;obtain⟨z,bD,H⟩:=H;(try dsimp only at H);have cF:=qA.mk bD;clear bD;have H':=qA.mk H;clear H;go_wp2_with (first|((with_reducible refine qC (f:=45) rfl ?_);refine qV (some 19) rfl rfl Try.func45 (by kernel_rfl) rfl #[.int .i64 aI] rfl byah ?_;(with_reducible refine(vG.calls k1 aI z _ cF.out).mono ?_);rintro e cO ⟨cM,rfl,bJ,hb⟩;refine⟨_,rfl,?_⟩;have n_:=q_4 (Kd.Jg (pXR D) (Kd.uT bJ) hb) (Kd.kF (Kd.R_new' bJ (Kd.R_lt (pXR D))) (qI (byae B))) (bbl s hb) (qB (byae B) hb);clear D s HB;obtain⟨D,aZ,s,HB⟩:=n_;clear hb;(try clear bJ);obtain⟨bE,b0,bR⟩:=Kd.vK aZ.out;subst bR));go_loopg [5,6,7,21] k1 (fun kq v5 v6 v7 cG w'=>∃(U:Int) (Y:List Int) (aR:Bool) (p:Int),v5=.int .i64 U∧v7=.bool aR∧cG=.int .i64 p∧qA (zJ.l1 kq U Y aR z (z.length:Int) p A=some r)∧qA (kq≤k1)∧qA (Kd.R (Kd.int .i64) 3 w' w.heap.size (fun k_=>some k_≠((.slice bE z.length b0):Value).ownBlock) v6 Y)∧qA (Kd.R (Kd.int .i64) 3 w' w.heap.size (fun k_=>some k_≠(v6:Value).ownBlock) (.slice bE z.length b0) z)∧qA (w'.heap[I]? =some (.cells #[(.slice Z A.length X)] 25 (0,0)))∧qA (Below w.heap.size w w'));case atStart=>exact⟨(aI),(aU),(false),(0),byaf,byaf,byaf,H',⟨Nat.le_refl _⟩,⟨vXR D⟩,⟨vXR aZ⟩,⟨bq s⟩,⟨byae B⟩⟩
     case round=>
      clear H';obtain⟨U,Y,aR,p,rfl,rfl,rfl,HA,HK2,D,G,s,HB⟩:=hrel
      cases gk with
      |zero=>exact absurd HA.out (by simp[zJ.l1])
      |succ k2=>
       have H:=HA.out;clear HA;simp only[zJ.l1] at H;by_cases aW:p<(z.length:Int)
       ·rw[if_pos aW] at H;have bK:=decide_eq_true aW;clear aW;by_cases b6:0≤p
        ·rw[if_pos b6] at H;have cH:=decide_eq_true b6;clear b6;by_cases b7:p<(z.length:Int)
         ·rw[if_pos b7] at H;have cI:=decide_eq_true b7;clear b7;by_cases b8:0≤(rd z p)
          ·rw[if_pos b8] at H;have cJ:=decide_eq_true b8;clear b8;by_cases b9:(rd z p)<(A.length:Int)
           ·rw[if_pos b9] at H;have cK:=decide_eq_true b9;clear b9;replace H:=Option.bind_eq_some_iff.mp H;obtain⟨bT,bF,H⟩:=H;(try dsimp only at H);have bL:=qA.mk bF;clear bF;by_cases bA:bT=true
            ·subst bA;rw[if_pos rfl] at H;have H':=qA.mk H;clear H;have a7:0≤(p:Int):=of_decide_eq_true byag;have a8:p<(z.length:Int):=of_decide_eq_true byag;obtain⟨b1,b2,b3⟩:=Kd.Qp (Kd.uO G.out).2.2 p a7 a8
             cases b2
             replace a7:=eq_true a7;replace a8:=eq_true a8;obtain⟨bU,bV⟩:=cz1 s.out;have a9:0≤((rd z p):Int):=of_decide_eq_true byag;have aA:(rd z p)<(A.length:Int):=of_decide_eq_true byag;obtain⟨b4,aJ,aK,aM,aN,b5,J,K,L,M,O,hi570_2,T,hi570_3⟩:=Zp aT.out (rd z p) a9 aA
             cases b5
             replace J:=bc HB J;replace K:=bc HB K;replace L:=bc HB L;replace M:=bc HB M;have aC:=qA.mk hi570_2;have aD:=qA.mk O;clear hi570_2 O;have aE:=qA.mk hi570_3;have aG:=qA.mk T;clear hi570_3 T;replace a9:=eq_true a9;replace aA:=eq_true aA;go_wp2_with (first|((with_reducible refine qC (f:=46) rfl ?_);refine qV (some 32) rfl rfl Try.func46 (by kernel_rfl) rfl #[.agg #[.int .i64 ((qU A (rd z p)).f1.f0),.slice aJ ((qU A (rd z p)).f1.f1).length aK,.slice aM ((qU A (rd z p)).f1.f2).length aN],.int .i64 U] rfl byah ?_;(with_reducible refine(qY.calls k2 ((qU A (rd z p)).f1.f0) _ _ ((qU A (rd z p)).f1.f1) _ _ ((qU A (rd z p)).f1.f2) U true _ ?side1 ?side2 ?side3 ?side4 bL.out).mono ?_);(case side1=>exact byaq aC);(case side2=>exact aD.out);(case side3=>exact byaq aE);(case side4=>exact aG.out);rintro e cP ⟨rfl,hb⟩;refine⟨_,rfl,?_⟩;have n_:=q_4 (Kd.kQ (pXR D) hb) (Kd.kQ (pXR G) hb) (bbl s hb) (qB (byae B) hb);clear D G s HB;obtain⟨D,G,s,HB⟩:=n_;clear hb));go_roundg k2;case measure=>have:=HK1.out;have:=HK2.out;omega
             case rel=>exact⟨(U),(Y),(aR),(wrap64 (p+1)),byaf,byaf,byaf,H',⟨byar⟩,⟨pXR D⟩,⟨pXR G⟩,⟨bq s⟩,⟨byae B⟩⟩
            ·replace bA:=Bool.eq_false_iff.mpr bA;subst bA;rw[if_neg (show¬(false=true) by decide)] at H;have cL:=eq_true (of_decide_eq_true byag:0≤(rd z p));obtain⟨bW,aH⟩:∃j_:Int,(shl .i64 1 (rd z p))=j_:=⟨_,rfl⟩;(first|rw[aH] at H|(simp only[aH] at H));(try rw[aH] at bL);obtain⟨c1,cA,cB,cC,cD,cE⟩:=jiA aH;by_cases bB:Y.length<17592186044416
             ·rw[if_pos bB] at H;have LMc24:=qA.mk bB;clear bB;(first|(with_reducible have n_:=bS H;obtain⟨bG,aQ,H⟩:=n_)|(obtain⟨bG,aQ⟩:∃y_:List Int,y_=(Y++[rd z p]):=⟨_,rfl⟩;rw[← aQ] at H));(try dsimp only at H);have Ny572:=qA.mk aQ;clear aQ;have H':=qA.mk H;clear H;have a7:0≤(p:Int):=of_decide_eq_true byag;have a8:p<(z.length:Int):=of_decide_eq_true byag;obtain⟨b1,b2,b3⟩:=Kd.Qp (Kd.uO G.out).2.2 p a7 a8
              cases b2
              replace a7:=eq_true a7;replace a8:=eq_true a8;obtain⟨bX,bY⟩:=cz1 s.out;have a9:0≤((rd z p):Int):=of_decide_eq_true byag;have aA:(rd z p)<(A.length:Int):=of_decide_eq_true byag;obtain⟨b4,aJ,aK,aM,aN,b5,J,K,L,M,O,hi570_2,T,hi570_3⟩:=Zp aT.out (rd z p) a9 aA
              cases b5
              replace J:=bc HB J;replace K:=bc HB K;replace L:=bc HB L;replace M:=bc HB M;have aC:=qA.mk hi570_2;have aD:=qA.mk O;clear hi570_2 O;have aE:=qA.mk hi570_3;have aG:=qA.mk T;clear hi570_3 T;replace a9:=eq_true a9;replace aA:=eq_true aA;go_wp2_with (first|((with_reducible refine qC (f:=46) rfl ?_);refine qV (some 32) rfl rfl Try.func46 (by kernel_rfl) rfl #[.agg #[.int .i64 ((qU A (rd z p)).f1.f0),.slice aJ ((qU A (rd z p)).f1.f1).length aK,.slice aM ((qU A (rd z p)).f1.f2).length aN],.int .i64 U] rfl byah ?_;(with_reducible refine(qY.calls k2 ((qU A (rd z p)).f1.f0) _ _ ((qU A (rd z p)).f1.f1) _ _ ((qU A (rd z p)).f1.f2) U false _ ?side1 ?side2 ?side3 ?side4 bL.out).mono ?_);(case side1=>exact byaq aC);(case side2=>exact aD.out);(case side3=>exact byaq aE);(case side4=>exact aG.out);rintro e cQ ⟨rfl,hb⟩;refine⟨_,rfl,?_⟩;have n_:=q_4 (Kd.kQ (pXR D) hb) (Kd.kQ (pXR G) hb) (bbl s hb) (qB (byae B) hb);clear D G s HB;obtain⟨D,G,s,HB⟩:=n_;clear hb)|((with_reducible refine vS (b:=.append) (xs:=#[.tmp 38,.tmp 40]) rfl ?_);at_builtin;refine Kd.Q8 (Kd.int .i64) (w0:=w) w.heap.size rfl (.tmp 38) (.tmp 40) 22 3 (.int .i64 0) 8 rfl Try.underlying22 info3 rfl (by decide) (by omega) u6 Y (rd z p) [.int .i64 (rd z p)] (fun k_=>some k_≠(.slice (some b1) z.length b0:Value).ownBlock) (fun _=>False) rfl rfl ?aP (fun _ hk=>hk.elim) ?aF ?aO ?aB ?aS ?aL ?_;(case aP=>exact rfl);(case aB=>exact(byae B));(case aF=>exact(fun k_ hk=>Kd.fresh' (Kd.R_lt (pXR G)) k_ hk));(case aO=>exact(pXR D));(case aS=>exact(qI (byae B)));(case aL=>have:=LMc24.out;omega);intro cN cR ho hb hg hat;rw[← Ny572.out] at ho;have n_:=q_4 (Kd.R_after (ok:=(fun _=>True)) (vXR G) hg hat) (jB (g:=I) (o:=.cells #[.slice (some b4) A.length X] 25 (0,0)) (bq s) hg (Kd.R_ne D.out s.out (by decide))) (hb) (ho);clear G s HB D;obtain⟨G,s,HB,bM⟩:=n_;clear ho hb hg hat));go_roundg k2;case measure=>have:=HK1.out;have:=HK2.out;omega
              case rel=>exact⟨(wrap64 (U - (bW))),(bG),(true),(by first|rfl|(simp;done)|(simp only[← aH]<;>(first|rfl|simp))|(simp[*];done)),byaf,H',⟨byar⟩,⟨vXR bM⟩,⟨bq s⟩,⟨byae B⟩⟩
             ·rw[if_neg bB] at H;exact absurd H (by simp)
           ·rw[if_neg b9] at H;exact absurd H (by simp)
          ·rw[if_neg b8] at H;exact absurd H (by simp)
         ·rw[if_neg b7] at H;exact absurd H (by simp)
        ·rw[if_neg b6] at H;exact absurd H (by simp)
       ·rw[if_neg aW] at H;have bK:=decide_eq_false aW;clear aW;have H':=qA.mk H;clear H;go_wp2;go_roundg k2;case measure=>have:=HK1.out;have:=HK2.out;omega
        case rel=>exact⟨(U),(Y),(aR),byaf,byaf,H',⟨byar⟩,⟨vXR D⟩,⟨bq s⟩,⟨byae B⟩⟩
    ·replace c9:=Bool.eq_false_iff.mpr c9;subst c9;rw[if_neg (show¬(false=true) by decide)] at H;obtain rfl:=Option.some.inj H;go_wp2;go_ret;exact⟨_,byad,pXR D,byae B⟩
 ·replace c4:=Bool.eq_false_iff.mpr c4;subst c4;rw[if_neg (show¬(false=true) by decide)] at H;obtain rfl:=Option.some.inj H;go_enter Try.func79,Try.ntmps79;go_wp2_with (first|((with_reducible refine qH (N:=2) rfl ?_);refine qG ?hg (N:=2) ?hd (cs:=#[.slice Z A.length X]) (t:=25) ?hr ?_;(case hd=>rfl);(case hg=>rfl);(case hr=>exact byab);intro I hg cS hbox hb;have n_:=q_4 (qB byac hb) (hbox) ((bycn:w.heap.size≤I)) ((bycn:w.heap.size≤I));clear HB;obtain⟨HB,s,bI,B⟩:=n_;clear hb hbox hg)|((with_reducible refine qC (f:=43) rfl ?_);refine qV (some 11) rfl rfl Try.func43 (by kernel_rfl) rfl #[.int .i64 a1] rfl byah ?_;(with_reducible refine(zZ.calls a1 false _ A3.out).mono ?_);rintro e w' ⟨rfl,⟨nd,rfl⟩⟩;refine⟨_,rfl,?_⟩));go_ret;exact⟨_,byad,byav,byae B⟩
def zM.l0:Nat→Int→List Int→Int→Int→Option (Int)
 |0,_,_,_,_=>none
 |k+1,x5,r,s,p=>if p<s then(if 0≤p then(if p<(r.length:Int) then(if 0≤(rd r p) then(zM.l0 k (wrap64 (x5 - (shl .i64 1 (rd r p)))) r s (wrap64 (p+1))) else(none)) else(none)) else(none)) else(some x5)
def zM.f (k:Nat) (p:List (S58)) (a1:Int):Option (Int):=(zZ.f a1).bind fun s=>(if s=true then((zW.f k p).bind fun z=>((zJ.f k p a1).bind fun r=>(zM.l0 k (Go.bits .and .i64 a1 z) r (r.length:Int) 0))) else(some 0))
set_option maxHeartbeats 8000000 in
set_option maxRecDepth 100000 in
theorem zM.calls (k:Nat) (G:Option Addr) (I:Nat) (A:List (S58)) (a1:Int) (r:Int) (w:World) (M:Kd.C k58 w G A.length A) (O:A.length≤I) (h:zM.f k A a1=some r):
  Calls Try.prog 58 #[.agg #[.slice G A.length I],.int .i64 a1] w fun e w'=>e=.returned (.int .i64 r)∧Below w.heap.size w w':=by
 have hu25:=Try.underlying25;have T:=qA.mk M;have U:=qA.mk O;clear M O;have HB:=qA.mk (Below.refl w.heap.size w);unfold zM.f at h;have H:=h;clear h;replace H:=Option.bind_eq_some_iff.mp H;obtain⟨aE,aF,H⟩:=H;(try dsimp only at H);have A3:=qA.mk aF;clear aF;by_cases c4:aE=true
 ·subst c4;rw[if_pos rfl] at H;replace H:=Option.bind_eq_some_iff.mp H;obtain⟨aB,aG,H⟩:=H;(try dsimp only at H);have A5:=qA.mk aG;clear aG;replace H:=Option.bind_eq_some_iff.mp H;obtain⟨B,aH,H⟩:=H;(try dsimp only at H);have A6:=qA.mk aH;clear aH;have H':=qA.mk H;clear H;go_enter Try.func58,Try.ntmps58;go_wp2_with (first|((with_reducible refine qH (N:=2) rfl ?_);refine qG ?hg (N:=2) ?hd (cs:=#[.slice G A.length I]) (t:=25) ?hr ?_;(case hd=>rfl);(case hg=>rfl);(case hr=>exact byab);intro D hg w7 hbox hb;have n_:=q_4 (qB byac hb) (hbox) ((bycn:w.heap.size≤D)) ((bycn:w.heap.size≤D));clear HB;obtain⟨HB,p,aC,z⟩:=n_;clear hb hbox hg)|((with_reducible refine qC (f:=43) rfl ?_);refine qV (some 9) rfl rfl Try.func43 (by kernel_rfl) rfl #[.int .i64 a1] rfl byah ?_;(with_reducible refine(zZ.calls a1 true _ A3.out).mono ?_);rintro e w' ⟨rfl,⟨nd,rfl⟩⟩;refine⟨_,rfl,?_⟩;obtain⟨aR,aS⟩:=cz1 p.out)|((with_reducible refine qC (f:=44) rfl ?_);refine qV (some 13) rfl rfl Try.func44 (by kernel_rfl) rfl #[.agg #[.slice G A.length I]] rfl byah ?_;(with_reducible refine(zW.calls k _ _ A aB _ ?side1 ?side2 A5.out).mono ?_);(case side1=>repeat(first|exact(Kd.vO T.out (byae z))|(with_reducible refine Kd.Zu ?_ _)|(with_reducible refine Kd.Zt ?_ _)|(with_reducible refine Kd.Ja ?_)));(case side2=>exact U.out);rintro e w9 ⟨rfl,hb⟩;refine⟨_,rfl,?_⟩;have n_:=q_2 (bbl p hb) (qB (byae z) hb);clear p HB;obtain⟨p,HB⟩:=n_;clear hb;obtain⟨aI,aJ⟩:=cz1 p.out)|((with_reducible refine qC (f:=79) rfl ?_);refine qV (some 17) rfl rfl Try.func79 (by kernel_rfl) rfl #[.agg #[.slice G A.length I],.int .i64 a1] rfl byah ?_;(with_reducible refine(zJ.calls k _ _ A a1 B _ ?side1 ?side2 A6.out).mono ?_);(case side1=>exact byaq T);(case side2=>exact U.out);rintro e b6 ⟨b5,rfl,aK,hb⟩;refine⟨_,rfl,?_⟩;have n_:=q_3 (Kd.kF aK (qI (byae z))) (bbl p hb) (qB (byae z) hb);clear p HB;obtain⟨X,p,HB⟩:=n_;clear hb;(try clear aK);obtain⟨aL,aM,aN⟩:=Kd.vK X.out;subst aN));go_loopg [5,19] k (fun kq v5 aZ w'=>∃(K:Int) (s:Int),v5=.int .i64 K∧aZ=.int .i64 s∧qA (zM.l0 kq K B (B.length:Int) s=some r)∧qA (kq≤k)∧qA (Kd.R (Kd.int .i64) 3 w' w.heap.size (fun _=>True) (.slice aL B.length aM) B)∧qA (w'.heap[D]? =some (.cells #[(.slice G A.length I)] 25 (0,0)))∧qA (Below w.heap.size w w'));case atStart=>exact⟨(Go.bits .and .i64 a1 aB),(0),byaf,byaf,H',⟨Nat.le_refl _⟩,⟨pXR X⟩,⟨bq p⟩,⟨byae z⟩⟩
  case round=>
   clear H';obtain⟨K,s,rfl,rfl,HA,HK1,Y,p,HB⟩:=hrel
   cases gk with
   |zero=>exact absurd HA.out (by simp[zM.l0])
   |succ k1=>
    have H:=HA.out;clear HA;simp only[zM.l0] at H;by_cases L:s<(B.length:Int)
    ·rw[if_pos L] at H;have aD:=decide_eq_true L;clear L;by_cases a9:0≤s
     ·rw[if_pos a9] at H;have b0:=decide_eq_true a9;clear a9;by_cases aA:s<(B.length:Int)
      ·rw[if_pos aA] at H;have b1:=decide_eq_true aA;clear aA;by_cases Z:0≤(rd B s)
       ·rw[if_pos Z] at H;have b2:=eq_true Z;have b3:=decide_eq_true Z;clear Z;obtain⟨aO,J⟩:∃j_:Int,(shl .i64 1 (rd B s))=j_:=⟨_,rfl⟩;(first|rw[J] at H|(simp only[J] at H));obtain⟨aT,aU,aV,aW,aX,aY⟩:=jiA J;have H':=qA.mk H;clear H;have a7:0≤(s:Int):=of_decide_eq_true byag;have a8:s<(B.length:Int):=of_decide_eq_true byag;obtain⟨b4,aP,aQ⟩:=Kd.Qp (Kd.uO Y.out).2.2 s a7 a8
        cases aP
        replace a7:=eq_true a7;replace a8:=eq_true a8;go_wp2;go_roundg k1;case measure=>have:=HK1.out;omega
        case rel=>exact⟨(wrap64 (K - (aO))),(wrap64 (s+1)),(by first|rfl|(simp;done)|(simp only[← J]<;>(first|rfl|simp))|(simp[*];done)),byaf,H',⟨byai⟩,⟨pXR Y⟩,⟨bq p⟩,⟨byae z⟩⟩
       ·rw[if_neg Z] at H;exact absurd H (by simp)
      ·rw[if_neg aA] at H;exact absurd H (by simp)
     ·rw[if_neg a9] at H;exact absurd H (by simp)
    ·rw[if_neg L] at H;have aD:=decide_eq_false L;clear L;obtain rfl:=Option.some.inj H;go_wp2;go_ret;exact⟨byad,byae z⟩
 ·replace c4:=Bool.eq_false_iff.mpr c4;subst c4;rw[if_neg (show¬(false=true) by decide)] at H;obtain rfl:=Option.some.inj H;go_enter Try.func58,Try.ntmps58;go_wp2_with (first|((with_reducible refine qH (N:=2) rfl ?_);refine qG ?hg (N:=2) ?hd (cs:=#[.slice G A.length I]) (t:=25) ?hr ?_;(case hd=>rfl);(case hg=>rfl);(case hr=>exact byab);intro D hg b7 hbox hb;have n_:=q_4 (qB byac hb) (hbox) ((bycn:w.heap.size≤D)) ((bycn:w.heap.size≤D));clear HB;obtain⟨HB,p,aC,z⟩:=n_;clear hb hbox hg)|((with_reducible refine qC (f:=43) rfl ?_);refine qV (some 9) rfl rfl Try.func43 (by kernel_rfl) rfl #[.int .i64 a1] rfl byah ?_;(with_reducible refine(zZ.calls a1 false _ A3.out).mono ?_);rintro e w' ⟨rfl,⟨nd,rfl⟩⟩;refine⟨_,rfl,?_⟩));go_ret;exact⟨byad,byae z⟩
end Go.Proofs.Ytkkbdimegpdbgaa.P
