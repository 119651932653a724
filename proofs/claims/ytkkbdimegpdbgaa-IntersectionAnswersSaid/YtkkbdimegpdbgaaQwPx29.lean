/- Walks: the calls answer as Lean functions say; conditions: each theorem's own. -/
import Derived.Test.YtkkbdimegpdbgaaQwPx0
namespace Go.Proofs.Ytkkbdimegpdbgaa.P
open Go.RowKit Go.Proofs.YtkkbdimegpdbgaaW.PrintWords Go.Proofs.YtkkbdimegpdbgaaW.PrintLast Go.Proofs.YtkkbdimegpdbgaaW.PrintMore
attribute [local go_sem] kK kM Qa Qb uV uU kN kL
set_option linter.unusedVariables false
set_option linter.unusedSimpArgs false
mutual
def jY.l0:Nat→Int→Int→Int→List Int→List (S56)→Option (Int)
 |0,_,_,_,_,_=>none
 |k+1,x1,x5,r,s,p=>if x5<(p.length:Int) then(if x1≤400 then(if 0≤x5 then((jY.f k ((qQ p x5).f0) ((qQ p x5).f1) ((qQ p x5).f2) x1).bind fun A=>(jY.l0 k A (wrap64 (x5+1)) r s p)) else(none)) else(some x1)) else(some x1)
def jY.f:Nat→Int→List Int→List (S56)→Int→Option (Int)
 |0,_,_,_,_=>none
 |k+1,B,z,D,a1=>jY.l0 k (wrap64 (a1+(wrap64 (1+(z.length:Int))))) 0 B z D
end
set_option maxHeartbeats 8000000 in
set_option maxRecDepth 100000 in
theorem jY.calls (k:Nat):∀(D:Int) (I:Option Addr) (J:Nat) (A:List Int) (K:Option Addr) (L:Nat) (p:List (S56)) (a1:Int) (r:Int) (w:World) (Y:Kd.C (Kd.int .i64) w I A.length A) (Z:A.length≤J) (a7:Kd.C k56 w K p.length p) (a8:p.length≤L) (h:jY.f k D A p a1=some r),
  Calls Try.prog 26 #[.agg #[.int .i64 D,.slice I A.length J,.slice K p.length L],.int .i64 a1] w fun e w'=>e=.returned (.int .i64 r)∧Below w.heap.size w w':=by
 induction k using Nat.strongRecOn with
 |_ k ih=>
 intro D I J A K L p a1 r w Y Z a7 a8 h
 cases k with
 |zero=>exact absurd h (by simp[jY.f])
 |succ k=>
 simp only[jY.f] at h;have hu56:=Try.underlying56;have bE:=qA.mk Y;have bF:=qA.mk Z;clear Y Z;have aL:=qA.mk a7;have bG:=qA.mk a8;clear a7 a8;have HB:=qA.mk (Below.refl w.heap.size w);have H:=h;clear h;have H':=qA.mk H;clear H;go_enter Try.func26,Try.ntmps26;go_wp2_with (first|((with_reducible refine qH (N:=2) rfl ?_);refine qG ?hg (N:=2) ?hd (cs:=#[.int .i64 D,.slice I A.length J,.slice K p.length L]) (t:=56) ?hr ?_;(case hd=>rfl);(case hg=>rfl);(case hr=>exact byab);intro a9 hg w3 hbox hb;have n_:=q_4 (qB byac hb) (hbox) ((bycn:w.heap.size≤a9)) ((bycn:w.heap.size≤a9));clear HB;obtain⟨HB,z,bH,B⟩:=n_;clear hb hbox hg;obtain⟨b2,b3,b4,b5,b6,b7⟩:=cz3 z.out));go_loopg [1,5] k (fun kq v1 v5 w'=>∃(G:Int) (s:Int),v1=.int .i64 G∧v5=.int .i64 s∧qA (jY.l0 kq G s D A p=some r)∧qA (kq≤k)∧qA (w'.heap[a9]? =some (.cells #[.int .i64 D,(.slice I A.length J),(.slice K p.length L)] 56 (0,0)))∧qA (Below w.heap.size w w'));case atStart=>exact⟨(wrap64 (a1+(wrap64 (1+(A.length:Int))))),(0),byaf,byaf,H',⟨Nat.le_refl _⟩,⟨bq z⟩,⟨byae B⟩⟩
 case round=>
  clear H';obtain⟨G,s,rfl,rfl,HA,HK1,z,HB⟩:=hrel
  cases gk with
  |zero=>exact absurd HA.out (by simp[jY.l0])
  |succ k1=>
   have H:=HA.out;clear HA;simp only[jY.l0] at H;by_cases c5:s<(p.length:Int)
   ·rw[if_pos c5] at H;have aM:=decide_eq_true c5;clear c5;by_cases c6:G≤400
    ·rw[if_pos c6] at H;have aN:=decide_eq_true c6;clear c6;by_cases c7:0≤s
     ·rw[if_pos c7] at H;have bJ:=decide_eq_true c7;clear c7;replace H:=Option.bind_eq_some_iff.mp H;obtain⟨aK,aO,H⟩:=H;(try dsimp only at H);have A8:=qA.mk aO;clear aO;have H':=qA.mk H;clear H;obtain⟨b8,b9,bA,bB,bC,bD⟩:=cz3 z.out;have aA:0≤(s:Int):=of_decide_eq_true byag;have aB:s<(p.length:Int):=of_decide_eq_true byag;obtain⟨bI,aG,aH,aI,aJ,aP,M,O,T,U,hi721_1,X,hi721_2⟩:=Zq aL.out s aA aB
      cases aP
      replace M:=bc HB M;replace O:=bc HB O;replace T:=bc HB T;have aC:=qA.mk hi721_1;have aD:=qA.mk U;clear hi721_1 U;have aE:=qA.mk hi721_2;have aF:=qA.mk X;clear hi721_2 X;replace aA:=eq_true aA;replace aB:=eq_true aB;go_wp2_with (first|((with_reducible refine qC (f:=26) rfl ?_);refine qV (some 29) rfl rfl Try.func26 (by kernel_rfl) rfl #[.agg #[.int .i64 ((qQ p s).f0),.slice aG ((qQ p s).f1).length aH,.slice aI ((qQ p s).f2).length aJ],.int .i64 G] rfl byah ?_;(with_reducible refine(ih k1 byai ((qQ p s).f0) _ _ ((qQ p s).f1) _ _ ((qQ p s).f2) G aK _ ?side1 ?side2 ?side3 ?side4 A8.out).mono ?_);(case side1=>exact byaq aC);(case side2=>exact aD.out);(case side3=>exact byaq aE);(case side4=>exact aF.out);rintro e bK ⟨rfl,hb⟩;refine⟨_,rfl,?_⟩;have n_:=q_2 (bbl z hb) (qB (byae B) hb);clear z HB;obtain⟨z,HB⟩:=n_;clear hb));go_roundg k1;case measure=>have:=HK1.out;omega
      case rel=>exact⟨(aK),(wrap64 (s+1)),byaf,byaf,H',⟨byai⟩,⟨bq z⟩,⟨byae B⟩⟩
     ·rw[if_neg c7] at H;exact absurd H (by simp)
    ·rw[if_neg c6] at H;have aN:=decide_eq_false c6;clear c6;obtain rfl:=Option.some.inj H;obtain⟨aQ,aR,aS,aT,aU,aV⟩:=cz3 z.out;go_wp2;go_ret;exact⟨byad,byae B⟩
   ·rw[if_neg c5] at H;have aM:=decide_eq_false c5;clear c5;obtain rfl:=Option.some.inj H;obtain⟨aW,aX,aY,aZ,b0,b1⟩:=cz3 z.out;go_wp2;go_ret;exact⟨byad,byae B⟩
def jR.l0:Nat→Int→Int→List (S58)→Option (Bool)
 |0,_,_,_=>none
 |k+1,x3,x4,p=>if x4<(p.length:Int) then(if x3≤400 then(if 0≤x4 then((jY.f k ((qU p x4).f1.f0) ((qU p x4).f1.f1) ((qU p x4).f1.f2) x3).bind fun r=>(jR.l0 k r (wrap64 (x4+1)) p)) else(none)) else(some (decide (x3≤400)))) else(some (decide (x3≤400)))
def jR.f (k:Nat) (p:List (S58)):Option (Bool):=if(p.length:Int)>30 then(some false) else(jR.l0 k 0 0 p)
set_option maxHeartbeats 8000000 in
set_option maxRecDepth 100000 in
theorem jR.calls (k:Nat) (G:Option Addr) (I:Nat) (p:List (S58)) (r:Bool) (w:World) (U:Kd.C k58 w G p.length p) (X:p.length≤I) (h:jR.f k p=some r):
  Calls Try.prog 8 #[.agg #[.slice G p.length I]] w fun e w'=>e=.returned (.bool r)∧Below w.heap.size w w':=by
 have hu25:=Try.underlying25;have hu56:=Try.underlying56;have aH:=qA.mk U;have aY:=qA.mk X;clear U X;have HB:=qA.mk (Below.refl w.heap.size w);unfold jR.f at h;have H:=h;clear h;by_cases c2:(p.length:Int)>30
 ·rw[if_pos c2] at H;have aJ:=decide_eq_true c2;have aK:decide (30<p.length)=true:=decide_eq_true (by omega);clear c2;obtain rfl:=Option.some.inj H;go_enter Try.func8,Try.ntmps8;go_wp2_with (first|((with_reducible refine qH (N:=1) rfl ?_);refine qG ?hg (N:=1) ?hd (cs:=#[.slice G p.length I]) (t:=25) ?hr ?_;(case hd=>rfl);(case hg=>rfl);(case hr=>exact byab);intro B hg w3 hbox hb;have n_:=q_4 (qB byac hb) (hbox) ((bycn:w.heap.size≤B)) ((bycn:w.heap.size≤B));clear HB;obtain⟨HB,s,aI,A⟩:=n_;clear hb hbox hg;obtain⟨aU,aV⟩:=cz1 s.out));go_ret;exact⟨byad,byae A⟩
 ·rw[if_neg c2] at H;have aJ:=decide_eq_false c2;have aK:decide (30<p.length)=false:=decide_eq_false (by omega);clear c2;have H':=qA.mk H;clear H;go_enter Try.func8,Try.ntmps8;go_wp2_with (first|((with_reducible refine qH (N:=1) rfl ?_);refine qG ?hg (N:=1) ?hd (cs:=#[.slice G p.length I]) (t:=25) ?hr ?_;(case hd=>rfl);(case hg=>rfl);(case hr=>exact byab);intro B hg w5 hbox hb;have n_:=q_4 (qB byac hb) (hbox) ((bycn:w.heap.size≤B)) ((bycn:w.heap.size≤B));clear HB;obtain⟨HB,s,aI,A⟩:=n_;clear hb hbox hg;obtain⟨aW,aX⟩:=cz1 s.out));go_loopg [3,4] k (fun kq v3 v4 w'=>∃(D:Int) (z:Int),v3=.int .i64 D∧v4=.int .i64 z∧qA (jR.l0 kq D z p=some r)∧qA (kq≤k)∧qA (w'.heap[B]? =some (.cells #[(.slice G p.length I)] 25 (0,0)))∧qA (Below w.heap.size w w'));case atStart=>exact⟨(0),(0),byaf,byaf,H',⟨Nat.le_refl _⟩,⟨bq s⟩,⟨byae A⟩⟩
  case round=>
   clear H';obtain⟨D,z,rfl,rfl,HA,HK1,s,HB⟩:=hrel
   cases gk with
   |zero=>exact absurd HA.out (by simp[jR.l0])
   |succ k1=>
    have H:=HA.out;clear HA;simp only[jR.l0] at H;by_cases c7:z<(p.length:Int)
    ·rw[if_pos c7] at H;have aL:=decide_eq_true c7;clear c7;by_cases c8:D≤400
     ·rw[if_pos c8] at H;have aM:=decide_eq_true c8;clear c8;by_cases c9:0≤z
      ·rw[if_pos c9] at H;have b1:=decide_eq_true c9;clear c9;replace H:=Option.bind_eq_some_iff.mp H;obtain⟨aF,aG,H⟩:=H;(try dsimp only at H);have aZ:=qA.mk aG;clear aG;have H':=qA.mk H;clear H;obtain⟨aN,aO⟩:=cz1 s.out;have Y:0≤(z:Int):=of_decide_eq_true byag;have Z:z<(p.length:Int):=of_decide_eq_true byag;obtain⟨b0,aB,aC,aD,aE,aP,J,K,L,M,O,hi724_2,T,hi724_3⟩:=Zp aH.out z Y Z
       cases aP
       replace J:=bc HB J;replace K:=bc HB K;replace L:=bc HB L;replace M:=bc HB M;have a7:=qA.mk hi724_2;have a8:=qA.mk O;clear hi724_2 O;have a9:=qA.mk hi724_3;have aA:=qA.mk T;clear hi724_3 T;replace Y:=eq_true Y;replace Z:=eq_true Z;go_wp2_with (first|((with_reducible refine qC (f:=26) rfl ?_);refine qV (some 27) rfl rfl Try.func26 (by kernel_rfl) rfl #[.agg #[.int .i64 ((qU p z).f1.f0),.slice aB ((qU p z).f1.f1).length aC,.slice aD ((qU p z).f1.f2).length aE],.int .i64 D] rfl byah ?_;(with_reducible refine(jY.calls k1 ((qU p z).f1.f0) _ _ ((qU p z).f1.f1) _ _ ((qU p z).f1.f2) D aF _ ?side1 ?side2 ?side3 ?side4 aZ.out).mono ?_);(case side1=>exact byaq a7);(case side2=>exact a8.out);(case side3=>exact byaq a9);(case side4=>exact aA.out);rintro e b2 ⟨rfl,hb⟩;refine⟨_,rfl,?_⟩;have n_:=q_2 (bbl s hb) (qB (byae A) hb);clear s HB;obtain⟨s,HB⟩:=n_;clear hb));go_roundg k1;case measure=>have:=HK1.out;omega
       case rel=>exact⟨(aF),(wrap64 (z+1)),byaf,byaf,H',⟨byai⟩,⟨bq s⟩,⟨byae A⟩⟩
      ·rw[if_neg c9] at H;exact absurd H (by simp)
     ·rw[if_neg c8] at H;have aM:=decide_eq_false c8;clear c8;obtain rfl:=Option.some.inj H;obtain⟨aQ,aR⟩:=cz1 s.out;go_wp2;go_ret;exact⟨byad,byae A⟩
    ·rw[if_neg c7] at H;have aL:=decide_eq_false c7;clear c7;obtain rfl:=Option.some.inj H;obtain⟨aS,aT⟩:=cz1 s.out;go_wp2;go_ret;exact⟨byad,byae A⟩
end Go.Proofs.Ytkkbdimegpdbgaa.P
