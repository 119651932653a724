/- Walks: the calls answer as Lean functions say; conditions: each theorem's own. -/
import Derived.Test.YtkkbdimegpdbgaaQwPx16
namespace Go.Proofs.Ytkkbdimegpdbgaa.P
open Go.RowKit Go.Proofs.YtkkbdimegpdbgaaW.PrintWords Go.Proofs.YtkkbdimegpdbgaaW.PrintLast Go.Proofs.YtkkbdimegpdbgaaW.PrintMore
attribute [local go_sem] kK kM Qa Qb uV uU kN kL
set_option linter.unusedVariables false
set_option linter.unusedSimpArgs false
mutual
def qY.l0:Nat→Int→Int→List Int→Int→Int→Int→List Int→List (S56)→Option (Bool)
 |0,_,_,_,_,_,_,_,_=>none
 |k+1,x1,x5,G,I,A,r,s,p=>if A<I then(if 0≤A then(if A<(G.length:Int) then((uJ.f x1 (rd G A)).bind fun K=>(if K=true then(qY.l0 k x1 (wrap64 (x5+1)) G I (wrap64 (A+1)) r s p) else(qY.l0 k x1 x5 G I (wrap64 (A+1)) r s p))) else(none)) else(none)) else(qY.l1 k x1 x5 p (p.length:Int) 0 r s p)
def qY.l1:Nat→Int→Int→List (S56)→Int→Int→Int→List Int→List (S56)→Option (Bool)
 |0,_,_,_,_,_,_,_,_=>none
 |k+1,x1,x5,B,J,z,r,s,p=>if z<J then(if 0≤z then(if z<(B.length:Int) then((qY.f k ((qQ B z).f0) ((qQ B z).f1) ((qQ B z).f2) x1).bind fun L=>(if L=true then(qY.l1 k x1 (wrap64 (x5+1)) B J (wrap64 (z+1)) r s p) else(qY.l1 k x1 x5 B J (wrap64 (z+1)) r s p))) else(none)) else(none)) else(some (decide (x5≥r)))
def qY.f:Nat→Int→List Int→List (S56)→Int→Option (Bool)
 |0,_,_,_,_=>none
 |k+1,M,D,O,a1=>(zZ.f a1).bind fun T=>(if T=true then(qY.l0 k a1 0 D (D.length:Int) 0 M D O) else(some false))
end
set_option maxHeartbeats 8000000 in
set_option maxRecDepth 100000 in
theorem qY.calls (k:Nat):∀(O:Int) (a8:Option Addr) (a9:Nat) (D:List Int) (aF:Option Addr) (aA:Nat) (s:List (S56)) (a1:Int) (r:Bool) (w:World) (aQ:Kd.C (Kd.int .i64) w a8 D.length D) (aR:D.length≤a9) (aS:Kd.C k56 w aF s.length s) (aT:s.length≤aA) (h:qY.f k O D s a1=some r),
  Calls Try.prog 46 #[.agg #[.int .i64 O,.slice a8 D.length a9,.slice aF s.length aA],.int .i64 a1] w fun e w'=>e=.returned (.bool r)∧Below w.heap.size w w':=by
 induction k using Nat.strongRecOn with
 |_ k ih=>
 intro O a8 a9 D aF aA s a1 r w aQ aR aS aT h
 cases k with
 |zero=>exact absurd h (by simp[qY.f])
 |succ k=>
 simp only[qY.f] at h;have hu56:=Try.underlying56;have aW:=qA.mk aQ;have cK:=qA.mk aR;clear aQ aR;have aX:=qA.mk aS;have cL:=qA.mk aT;clear aS aT;have HB:=qA.mk (Below.refl w.heap.size w);have H:=h;clear h;replace H:=Option.bind_eq_some_iff.mp H;obtain⟨bA,bB,H⟩:=H;(try dsimp only at H);have A3:=qA.mk bB;clear bB;by_cases c4:bA=true
 ·subst c4;rw[if_pos rfl] at H;have H':=qA.mk H;clear H;go_enter Try.func46,Try.ntmps46;go_wp2_with (first|((with_reducible refine qH (N:=2) rfl ?_);refine qG ?hg (N:=2) ?hd (cs:=#[.int .i64 O,.slice a8 D.length a9,.slice aF s.length aA]) (t:=56) ?hr ?_;(case hd=>rfl);(case hg=>rfl);(case hr=>exact byab);intro I hg w5 hbox hb;have n_:=q_4 (qB byac hb) (hbox) ((bycn:w.heap.size≤I)) ((bycn:w.heap.size≤I));clear HB;obtain⟨HB,z,b6,A⟩:=n_;clear hb hbox hg)|((with_reducible refine qC (f:=43) rfl ?_);refine qV (some 11) rfl rfl Try.func43 (by kernel_rfl) rfl #[.int .i64 a1] rfl byah ?_;(with_reducible refine(zZ.calls a1 true _ A3.out).mono ?_);rintro e w' ⟨rfl,⟨nd,rfl⟩⟩;refine⟨_,rfl,?_⟩;obtain⟨cE,cF,cG,cH,cI,cJ⟩:=cz3 z.out));go_loopg [5,16] k (fun kq v5 cM w'=>∃(aO:Int) (B:Int),v5=.int .i64 aO∧cM=.int .i64 B∧qA (qY.l0 kq a1 aO D (D.length:Int) B O D s=some r)∧qA (kq≤k)∧qA (w'.heap[I]? =some (.cells #[.int .i64 O,(.slice a8 D.length a9),(.slice aF s.length aA)] 56 (0,0)))∧qA (Below w.heap.size w w'));case atStart=>exact⟨(0),(0),byaf,byaf,H',⟨Nat.le_refl _⟩,⟨bq z⟩,⟨byae A⟩⟩
  case round=>
   clear H';obtain⟨aO,B,rfl,rfl,HA,HK1,z,HB⟩:=hrel
   cases gk with
   |zero=>exact absurd HA.out (by simp[qY.l0])
   |succ k1=>
    have H:=HA.out;clear HA;simp only[qY.l0] at H;by_cases c7:B<(D.length:Int)
    ·rw[if_pos c7] at H;have bC:=decide_eq_true c7;clear c7;by_cases c8:0≤B
     ·rw[if_pos c8] at H;have cU:=decide_eq_true c8;clear c8;by_cases c9:B<(D.length:Int)
      ·rw[if_pos c9] at H;have cV:=decide_eq_true c9;clear c9;replace H:=Option.bind_eq_some_iff.mp H;obtain⟨bD,b4,H⟩:=H;(try dsimp only at H);have bE:=qA.mk b4;clear b4;by_cases b0:bD=true
       ·subst b0;rw[if_pos rfl] at H;have H':=qA.mk H;clear H;have aG:0≤(B:Int):=of_decide_eq_true byag;have aH:B<(D.length:Int):=of_decide_eq_true byag;obtain⟨b7,aY,J⟩:=Kd.Qp aW.out B aG aH
        cases aY
        replace J:=bc HB J;replace aG:=eq_true aG;replace aH:=eq_true aH;go_wp2_with (first|((with_reducible refine qC (f:=63) rfl ?_);refine qV (some 22) rfl rfl Try.func63 (by kernel_rfl) rfl #[.int .i64 a1,.int .i64 (rd D B)] rfl byah ?_;(with_reducible refine(uJ.calls a1 (rd D B) true _ bE.out).mono ?_);rintro e w' ⟨rfl,⟨nd,rfl⟩⟩;refine⟨_,rfl,?_⟩));go_roundg k1;case measure=>have:=HK1.out;omega
        case rel=>exact⟨(wrap64 (aO+1)),(wrap64 (B+1)),byaf,byaf,H',⟨byai⟩,⟨bq z⟩,⟨byae A⟩⟩
       ·replace b0:=Bool.eq_false_iff.mpr b0;subst b0;rw[if_neg (show¬(false=true) by decide)] at H;have H':=qA.mk H;clear H;have aG:0≤(B:Int):=of_decide_eq_true byag;have aH:B<(D.length:Int):=of_decide_eq_true byag;obtain⟨b7,aY,J⟩:=Kd.Qp aW.out B aG aH
        cases aY
        replace J:=bc HB J;replace aG:=eq_true aG;replace aH:=eq_true aH;go_wp2_with (first|((with_reducible refine qC (f:=63) rfl ?_);refine qV (some 22) rfl rfl Try.func63 (by kernel_rfl) rfl #[.int .i64 a1,.int .i64 (rd D B)] rfl byah ?_;(with_reducible refine(uJ.calls a1 (rd D B) false _ bE.out).mono ?_);rintro e w' ⟨rfl,⟨nd,rfl⟩⟩;refine⟨_,rfl,?_⟩));go_roundg k1;case measure=>have:=HK1.out;omega
        case rel=>exact⟨(aO),(wrap64 (B+1)),byaf,byaf,H',⟨byai⟩,⟨bq z⟩,⟨byae A⟩⟩
      ·rw[if_neg c9] at H;exact absurd H (by simp)
     ·rw[if_neg c8] at H;exact absurd H (by simp)
    ·rw[if_neg c7] at H;have bC:=decide_eq_false c7;clear c7;have H':=qA.mk H;clear H;obtain⟨bF,bG,bH,bI,bJ,bK⟩:=cz3 z.out;go_wp2;go_loopg [5,29] k1 (fun kq v5 cN w'=>∃(aP:Int) (p:Int),v5=.int .i64 aP∧cN=.int .i64 p∧qA (qY.l1 kq a1 aP s (s.length:Int) p O D s=some r)∧qA (kq≤k1)∧qA (w'.heap[I]? =some (.cells #[.int .i64 O,(.slice a8 D.length a9),(.slice aF s.length aA)] 56 (0,0)))∧qA (Below w.heap.size w w'));case atStart=>exact⟨(aO),(0),byaf,byaf,H',⟨Nat.le_refl _⟩,⟨bq z⟩,⟨byae A⟩⟩
     case round=>
      clear H';(try clear cW);(try clear J);obtain⟨aP,p,rfl,rfl,HA,HK2,z,HB⟩:=hrel
      cases gk with
      |zero=>exact absurd HA.out (by simp[qY.l1])
      |succ k2=>
       have H:=HA.out;clear HA;simp only[qY.l1] at H;by_cases aV:p<(s.length:Int)
       ·rw[if_pos aV] at H;have b8:=decide_eq_true aV;clear aV;by_cases b1:0≤p
        ·rw[if_pos b1] at H;have cO:=decide_eq_true b1;clear b1;by_cases b2:p<(s.length:Int)
         ·rw[if_pos b2] at H;have cP:=decide_eq_true b2;clear b2;replace H:=Option.bind_eq_some_iff.mp H;obtain⟨bL,b5,H⟩:=H;(try dsimp only at H);have bM:=qA.mk b5;clear b5;by_cases b3:bL=true
          ·subst b3;rw[if_pos rfl] at H;have H':=qA.mk H;clear H;have aI:0≤(p:Int):=of_decide_eq_true byag;have aJ:p<(s.length:Int):=of_decide_eq_true byag;obtain⟨aU,aB,aC,aD,aE,aZ,T,U,X,Y,hi501_1,Z,hi501_2⟩:=Zq aX.out p aI aJ
           cases aZ
           replace T:=bc HB T;replace U:=bc HB U;replace X:=bc HB X;have aK:=qA.mk hi501_1;have aL:=qA.mk Y;clear hi501_1 Y;have aM:=qA.mk hi501_2;have aN:=qA.mk Z;clear hi501_2 Z;replace aI:=eq_true aI;replace aJ:=eq_true aJ;go_wp2_with (first|((with_reducible refine qH (N:=9) rfl ?_);refine qG ?hg (N:=9) ?hd (cs:=#[.int .i64 0,.slice none 0 0,.slice none 0 0]) (t:=56) ?hr ?_;(case hd=>rfl);(case hg=>rfl);(case hr=>exact byab);intro K hg cX hbox hb;have n_:=q_6 (bbl z hb) (qB (byae A) hb) (hbox) ((by rw[hg];exact(qI (byae A)):w.heap.size≤K)) ((by rw[hg];exact(qI (byae A)):w.heap.size≤K)) ((by rw[hg];exact Nat.ne_of_lt (bl z):I≠K));clear z HB;obtain⟨z,HB,L,b9,M,G⟩:=n_;have a7:=ns G;clear hb hbox hg;have cQ:=a7.out;have cR:=G.out;obtain⟨bN,bO,bP,bQ,bR,bT⟩:=cz3 L.out)|((with_reducible refine qC (f:=46) rfl ?_);refine qV (some 35) rfl rfl Try.func46 (by kernel_rfl) rfl #[.agg #[.int .i64 ((qQ s p).f0),.slice aB ((qQ s p).f1).length aC,.slice aD ((qQ s p).f2).length aE],.int .i64 a1] rfl byah ?_;(with_reducible refine(ih k2 byar ((qQ s p).f0) _ _ ((qQ s p).f1) _ _ ((qQ s p).f2) a1 true _ ?side1 ?side2 ?side3 ?side4 bM.out).mono ?_);(case side1=>exact Kd.vO aK.out (byaj A M));(case side2=>exact aL.out);(case side3=>exact Kd.vO aM.out (byaj A M));(case side4=>exact aN.out);rintro e cY ⟨rfl,hb⟩;refine⟨_,rfl,?_⟩;have n_:=q_3 (vC (g:=I) (o:=.cells #[.int .i64 O,.slice a8 D.length a9,.slice (some aU) s.length aA] 56 (0,0)) (byak G z) hb) (vC (g:=K) (o:=.cells #[.int .i64 ((qQ s p).f0),.slice aB ((qQ s p).f1).length aC,.slice aD ((qQ s p).f2).length aE] 56 (0,0)) (bp L) hb) (qB (byaj A M) hb);clear z L HB;obtain⟨z,L,HB⟩:=n_;clear hb));go_roundg k2;case measure=>have:=HK1.out;have:=HK2.out;omega
           case rel=>exact⟨(wrap64 (aP+1)),(wrap64 (p+1)),byaf,byaf,H',⟨byar⟩,⟨bq z⟩,⟨byaj A M⟩⟩
          ·replace b3:=Bool.eq_false_iff.mpr b3;subst b3;rw[if_neg (show¬(false=true) by decide)] at H;have H':=qA.mk H;clear H;have aI:0≤(p:Int):=of_decide_eq_true byag;have aJ:p<(s.length:Int):=of_decide_eq_true byag;obtain⟨aU,aB,aC,aD,aE,aZ,T,U,X,Y,hi501_1,Z,hi501_2⟩:=Zq aX.out p aI aJ
           cases aZ
           replace T:=bc HB T;replace U:=bc HB U;replace X:=bc HB X;have aK:=qA.mk hi501_1;have aL:=qA.mk Y;clear hi501_1 Y;have aM:=qA.mk hi501_2;have aN:=qA.mk Z;clear hi501_2 Z;replace aI:=eq_true aI;replace aJ:=eq_true aJ;go_wp2_with (first|((with_reducible refine qH (N:=9) rfl ?_);refine qG ?hg (N:=9) ?hd (cs:=#[.int .i64 0,.slice none 0 0,.slice none 0 0]) (t:=56) ?hr ?_;(case hd=>rfl);(case hg=>rfl);(case hr=>exact byab);intro K hg cZ hbox hb;have n_:=q_6 (bbl z hb) (qB (byae A) hb) (hbox) ((by rw[hg];exact(qI (byae A)):w.heap.size≤K)) ((by rw[hg];exact(qI (byae A)):w.heap.size≤K)) ((by rw[hg];exact Nat.ne_of_lt (bl z):I≠K));clear z HB;obtain⟨z,HB,L,b9,M,G⟩:=n_;have a7:=ns G;clear hb hbox hg;have cS:=a7.out;have cT:=G.out;obtain⟨bU,bV,bW,bX,bY,bZ⟩:=cz3 L.out)|((with_reducible refine qC (f:=46) rfl ?_);refine qV (some 35) rfl rfl Try.func46 (by kernel_rfl) rfl #[.agg #[.int .i64 ((qQ s p).f0),.slice aB ((qQ s p).f1).length aC,.slice aD ((qQ s p).f2).length aE],.int .i64 a1] rfl byah ?_;(with_reducible refine(ih k2 byar ((qQ s p).f0) _ _ ((qQ s p).f1) _ _ ((qQ s p).f2) a1 false _ ?side1 ?side2 ?side3 ?side4 bM.out).mono ?_);(case side1=>exact Kd.vO aK.out (byaj A M));(case side2=>exact aL.out);(case side3=>exact Kd.vO aM.out (byaj A M));(case side4=>exact aN.out);rintro e d0 ⟨rfl,hb⟩;refine⟨_,rfl,?_⟩;have n_:=q_3 (vC (g:=I) (o:=.cells #[.int .i64 O,.slice a8 D.length a9,.slice (some aU) s.length aA] 56 (0,0)) (byak G z) hb) (vC (g:=K) (o:=.cells #[.int .i64 ((qQ s p).f0),.slice aB ((qQ s p).f1).length aC,.slice aD ((qQ s p).f2).length aE] 56 (0,0)) (bp L) hb) (qB (byaj A M) hb);clear z L HB;obtain⟨z,L,HB⟩:=n_;clear hb));go_roundg k2;case measure=>have:=HK1.out;have:=HK2.out;omega
           case rel=>exact⟨(aP),(wrap64 (p+1)),byaf,byaf,H',⟨byar⟩,⟨bq z⟩,⟨byaj A M⟩⟩
         ·rw[if_neg b2] at H;exact absurd H (by simp)
        ·rw[if_neg b1] at H;exact absurd H (by simp)
       ·rw[if_neg aV] at H;have b8:=decide_eq_false aV;clear aV;obtain rfl:=Option.some.inj H;obtain⟨c0,c1,cA,cB,cC,cD⟩:=cz3 z.out;go_wp2;go_ret;exact⟨byad,byae A⟩
 ·replace c4:=Bool.eq_false_iff.mpr c4;subst c4;rw[if_neg (show¬(false=true) by decide)] at H;obtain rfl:=Option.some.inj H;go_enter Try.func46,Try.ntmps46;go_wp2_with (first|((with_reducible refine qH (N:=2) rfl ?_);refine qG ?hg (N:=2) ?hd (cs:=#[.int .i64 O,.slice a8 D.length a9,.slice aF s.length aA]) (t:=56) ?hr ?_;(case hd=>rfl);(case hg=>rfl);(case hr=>exact byab);intro I hg d1 hbox hb;have n_:=q_4 (qB byac hb) (hbox) ((bycn:w.heap.size≤I)) ((bycn:w.heap.size≤I));clear HB;obtain⟨HB,z,b6,A⟩:=n_;clear hb hbox hg)|((with_reducible refine qC (f:=43) rfl ?_);refine qV (some 11) rfl rfl Try.func43 (by kernel_rfl) rfl #[.int .i64 a1] rfl byah ?_;(with_reducible refine(zZ.calls a1 false _ A3.out).mono ?_);rintro e w' ⟨rfl,⟨nd,rfl⟩⟩;refine⟨_,rfl,?_⟩));go_ret;exact⟨byad,byae A⟩
mutual
def zX.j0:Nat→Int→Bool→List (S58)→Option (Bool)
 |0,_,_,_=>none
 |k+1,x1,D,p=>if D=true then(some false) else((vG.f k x1).bind fun z=>(zX.l0 k x1 z (z.length:Int) 0 p))
def zX.l0:Nat→Int→List Int→Int→Int→List (S58)→Option (Bool)
 |0,_,_,_,_,_=>none
 |k+1,x1,s,A,r,p=>if r<A then(if 0≤r then(if r<(s.length:Int) then(if 0≤(rd s r) then(if(rd s r)<(p.length:Int) then((qY.f k ((qU p (rd s r)).f1.f0) ((qU p (rd s r)).f1.f1) ((qU p (rd s r)).f1.f2) x1).bind fun B=>(if B=true then(zX.l0 k x1 s A (wrap64 (r+1)) p) else(some false))) else(none)) else(none)) else(none)) else(none)) else(some true)
end
def zX.f (k:Nat) (p:List (S58)) (a1:Int):Option (Bool):=(zZ.f a1).bind fun r=>(if r=true then(if a1=0 then(zX.j0 k a1 true p) else((zW.f k p).bind fun s=>(zX.j0 k a1 ((Go.bits .and .i64 a1 s) != a1) p))) else(zX.j0 k a1 true p))
set_option maxHeartbeats 8000000 in
set_option maxRecDepth 100000 in
theorem zX.calls (k:Nat) (aF:Option Addr) (aG:Nat) (A:List (S58)) (a1:Int) (r:Bool) (w:World) (aK:Kd.C k58 w aF A.length A) (aL:A.length≤aG) (h:zX.f k A a1=some r):
  Calls Try.prog 24 #[.agg #[.slice aF A.length aG],.int .i64 a1] w fun e w'=>e=.returned (.bool r)∧Below w.heap.size w w':=by
 have hu25:=Try.underlying25;have hu56:=Try.underlying56;have aI:=qA.mk aK;have aZ:=qA.mk aL;clear aK aL;have HB:=qA.mk (Below.refl w.heap.size w);unfold zX.f at h;have H:=h;clear h;have b0:=qA.mk H;clear H;go_enter Try.func24,Try.ntmps24;go_upto_region 1 with(first|((with_reducible refine qH (N:=2) rfl ?_);refine qG ?hg (N:=2) ?hd (cs:=#[.slice aF A.length aG]) (t:=25) ?hr ?_;(case hd=>rfl);(case hg=>rfl);(case hr=>exact byab);intro a9 hg w4 hbox hb;have n_:=q_4 (qB byac hb) (hbox) ((bycn:w.heap.size≤a9)) ((bycn:w.heap.size≤a9));clear HB;obtain⟨HB,s,bL,B⟩:=n_;clear hb hbox hg))
 (try simp only[Act.put,List.setIfInBounds_toArray,List.set_cons_zero,List.set_cons_succ]);go_cut[21] (fun bM wc=>∃(kq:Nat) (aA:Bool),bM=.bool aA∧qA (zX.j0 kq a1 aA A=some r)∧qA (kq≤k)∧qA (wc.heap[a9]? =some (.cells #[(.slice aF A.length aG)] 25 (0,0)))∧qA (Below w.heap.size w wc));case first=>
  have H:=b0.out;clear b0;replace H:=Option.bind_eq_some_iff.mp H;obtain⟨b5,b6,H⟩:=H;(try dsimp only at H);have A5:=qA.mk b6;clear b6;by_cases c6:b5=true
  ·subst c6;rw[if_pos rfl] at H;by_cases c7:a1=0
   ·rw[if_pos c7] at H;obtain⟨aH,b7⟩:=eqT c7;clear c7;(first|rw[aH]|(simp only[Qo,Qw];rw[aH])|skip);have H':=qA.mk H;clear H;go_wp2_with (first|((with_reducible refine qC (f:=43) rfl ?_);refine qV (some 8) rfl rfl Try.func43 (by kernel_rfl) rfl #[.int .i64 a1] rfl byah ?_;(with_reducible refine(zZ.calls a1 true _ A5.out).mono ?_);rintro e w' ⟨rfl,⟨nd,rfl⟩⟩;refine⟨_,rfl,?_⟩));go_meet;case rel=>exact⟨_,(true),byaf,H',⟨byap⟩,⟨bq s⟩,⟨byae B⟩⟩
   ·rw[if_neg c7] at H;obtain⟨aH,b7⟩:=eqF c7;(first|rw[aH]|(simp only[Qo,Qw];rw[aH])|skip);replace H:=Option.bind_eq_some_iff.mp H;obtain⟨aW,b8,H⟩:=H;(try dsimp only at H);have A8:=qA.mk b8;clear b8;have H':=qA.mk H;clear H;go_wp2_with (first|((with_reducible refine qC (f:=43) rfl ?_);refine qV (some 8) rfl rfl Try.func43 (by kernel_rfl) rfl #[.int .i64 a1] rfl byah ?_;(with_reducible refine(zZ.calls a1 true _ A5.out).mono ?_);rintro e w' ⟨rfl,⟨nd,rfl⟩⟩;refine⟨_,rfl,?_⟩;obtain⟨bJ,bK⟩:=cz1 s.out)|(go_at_call 44;(with_reducible refine(zW.calls k _ _ A aW _ ?side1 ?side2 A8.out).mono ?_);(case side1=>repeat(first|exact(Kd.vO aI.out (byae B))|(with_reducible refine Kd.Zu ?_ _)|(with_reducible refine Kd.Zt ?_ _)|(with_reducible refine Kd.Ja ?_)));(case side2=>exact aZ.out);rintro e bV ⟨rfl,hb⟩;have n_:=q_2 (bbl s hb) (qB (byae B) hb);clear s HB;obtain⟨s,HB⟩:=n_;clear hb));go_meet;case rel=>exact⟨_,(((Go.bits .and .i64 a1 aW) != a1)),byaf,H',⟨byap⟩,⟨bq s⟩,⟨byae B⟩⟩
  ·replace c6:=Bool.eq_false_iff.mpr c6;subst c6;rw[if_neg (show¬(false=true) by decide)] at H;have H':=qA.mk H;clear H;go_wp2_with (first|((with_reducible refine qC (f:=43) rfl ?_);refine qV (some 8) rfl rfl Try.func43 (by kernel_rfl) rfl #[.int .i64 a1] rfl byah ?_;(with_reducible refine(zZ.calls a1 false _ A5.out).mono ?_);rintro e w' ⟨rfl,⟨nd,rfl⟩⟩;refine⟨_,rfl,?_⟩));go_meet;case rel=>exact⟨_,(true),byaf,H',⟨byap⟩,⟨bq s⟩,⟨byae B⟩⟩
 case rest=>
  clear b0;obtain⟨kq,aA,rfl,HA,HJ2,s,HB⟩:=hcut
  cases kq with
  |zero=>exact absurd HA.out (by simp[zX.j0])
  |succ b1=>
   have H:=HA.out;clear HA;simp only[zX.j0] at H;by_cases aQ:aA=true
   ·subst aQ;rw[if_pos rfl] at H;obtain rfl:=Option.some.inj H;go_wp2;go_ret;exact⟨byad,byae B⟩
   ·replace aQ:=Bool.eq_false_iff.mpr aQ;subst aQ;rw[if_neg (show¬(false=true) by decide)] at H;replace H:=Option.bind_eq_some_iff.mp H;obtain⟨z,aX,H⟩:=H;(try dsimp only at H);have bN:=qA.mk aX;clear aX;have H':=qA.mk H;clear H;go_wp2_with (first|((with_reducible refine qC (f:=45) rfl ?_);refine qV (some 23) rfl rfl Try.func45 (by kernel_rfl) rfl #[.int .i64 a1] rfl byah ?_;(with_reducible refine(vG.calls b1 a1 z _ bN.out).mono ?_);rintro e bW ⟨bU,rfl,b9,hb⟩;refine⟨_,rfl,?_⟩;have n_:=q_3 (Kd.kF b9 (qI (byae B))) (bbl s hb) (qB (byae B) hb);clear s HB;obtain⟨aM,s,HB⟩:=n_;clear hb;(try clear b9);obtain⟨bA,bB,bC⟩:=Kd.vK aM.out;subst bC));go_loopg [25] b1 (fun kq bO w'=>∃(p:Int),bO=.int .i64 p∧qA (zX.l0 kq a1 z (z.length:Int) p A=some r)∧qA (kq≤b1)∧qA (Kd.R (Kd.int .i64) 3 w' w.heap.size (fun _=>True) (.slice bA z.length bB) z)∧qA (w'.heap[a9]? =some (.cells #[(.slice aF A.length aG)] 25 (0,0)))∧qA (Below w.heap.size w w'));case atStart=>exact⟨(0),byaf,H',⟨Nat.le_refl _⟩,⟨pXR aM⟩,⟨bq s⟩,⟨byae B⟩⟩
    case round=>
     clear H';obtain⟨p,rfl,HA,HK2,D,s,HB⟩:=hrel
     cases gk with
     |zero=>exact absurd HA.out (by simp[zX.l0])
     |succ k2=>
      have H:=HA.out;clear HA;simp only[zX.l0] at H;by_cases aJ:p<(z.length:Int)
      ·rw[if_pos aJ] at H;have b2:=decide_eq_true aJ;clear aJ;by_cases aR:0≤p
       ·rw[if_pos aR] at H;have bP:=decide_eq_true aR;clear aR;by_cases aS:p<(z.length:Int)
        ·rw[if_pos aS] at H;have bQ:=decide_eq_true aS;clear aS;by_cases aT:0≤(rd z p)
         ·rw[if_pos aT] at H;have bR:=decide_eq_true aT;clear aT;by_cases aU:(rd z p)<(A.length:Int)
          ·rw[if_pos aU] at H;have bT:=decide_eq_true aU;clear aU;replace H:=Option.bind_eq_some_iff.mp H;obtain⟨bD,aY,H⟩:=H;(try dsimp only at H);have bE:=qA.mk aY;clear aY;by_cases aV:bD=true
           ·subst aV;rw[if_pos rfl] at H;have H':=qA.mk H;clear H;have O:0≤(p:Int):=of_decide_eq_true byag;have T:p<(z.length:Int):=of_decide_eq_true byag;obtain⟨b3,aN,aO⟩:=Kd.Qp (Kd.uO D.out).2.2 p O T
            cases aN
            replace O:=eq_true O;replace T:=eq_true T;obtain⟨bF,bG⟩:=cz1 s.out;have U:0≤((rd z p):Int):=of_decide_eq_true byag;have X:(rd z p)<(A.length:Int):=of_decide_eq_true byag;obtain⟨b4,aB,aC,aD,aE,aP,G,I,J,K,L,hi511_2,M,hi511_3⟩:=Zp aI.out (rd z p) U X
            cases aP
            replace G:=bc HB G;replace I:=bc HB I;replace J:=bc HB J;replace K:=bc HB K;have Y:=qA.mk hi511_2;have Z:=qA.mk L;clear hi511_2 L;have a7:=qA.mk hi511_3;have a8:=qA.mk M;clear hi511_3 M;replace U:=eq_true U;replace X:=eq_true X;go_wp2_with (first|((with_reducible refine qC (f:=46) rfl ?_);refine qV (some 36) rfl rfl Try.func46 (by kernel_rfl) rfl #[.agg #[.int .i64 ((qU A (rd z p)).f1.f0),.slice aB ((qU A (rd z p)).f1.f1).length aC,.slice aD ((qU A (rd z p)).f1.f2).length aE],.int .i64 a1] rfl byah ?_;(with_reducible refine(qY.calls k2 ((qU A (rd z p)).f1.f0) _ _ ((qU A (rd z p)).f1.f1) _ _ ((qU A (rd z p)).f1.f2) a1 true _ ?side1 ?side2 ?side3 ?side4 bE.out).mono ?_);(case side1=>exact byaq Y);(case side2=>exact Z.out);(case side3=>exact byaq a7);(case side4=>exact a8.out);rintro e bX ⟨rfl,hb⟩;refine⟨_,rfl,?_⟩;have n_:=q_3 (Kd.kQ (pXR D) hb) (bbl s hb) (qB (byae B) hb);clear D s HB;obtain⟨D,s,HB⟩:=n_;clear hb));go_roundg k2;case measure=>have:=HJ2.out;have:=HK2.out;omega
            case rel=>exact⟨(wrap64 (p+1)),byaf,H',⟨byau⟩,⟨pXR D⟩,⟨bq s⟩,⟨byae B⟩⟩
           ·replace aV:=Bool.eq_false_iff.mpr aV;subst aV;rw[if_neg (show¬(false=true) by decide)] at H;obtain rfl:=Option.some.inj H;have O:0≤(p:Int):=of_decide_eq_true byag;have T:p<(z.length:Int):=of_decide_eq_true byag;obtain⟨b3,aN,aO⟩:=Kd.Qp (Kd.uO D.out).2.2 p O T
            cases aN
            replace O:=eq_true O;replace T:=eq_true T;obtain⟨bH,bI⟩:=cz1 s.out;have U:0≤((rd z p):Int):=of_decide_eq_true byag;have X:(rd z p)<(A.length:Int):=of_decide_eq_true byag;obtain⟨b4,aB,aC,aD,aE,aP,G,I,J,K,L,hi511_2,M,hi511_3⟩:=Zp aI.out (rd z p) U X
            cases aP
            replace G:=bc HB G;replace I:=bc HB I;replace J:=bc HB J;replace K:=bc HB K;have Y:=qA.mk hi511_2;have Z:=qA.mk L;clear hi511_2 L;have a7:=qA.mk hi511_3;have a8:=qA.mk M;clear hi511_3 M;replace U:=eq_true U;replace X:=eq_true X;go_wp2_with (first|((with_reducible refine qC (f:=46) rfl ?_);refine qV (some 36) rfl rfl Try.func46 (by kernel_rfl) rfl #[.agg #[.int .i64 ((qU A (rd z p)).f1.f0),.slice aB ((qU A (rd z p)).f1.f1).length aC,.slice aD ((qU A (rd z p)).f1.f2).length aE],.int .i64 a1] rfl byah ?_;(with_reducible refine(qY.calls k2 ((qU A (rd z p)).f1.f0) _ _ ((qU A (rd z p)).f1.f1) _ _ ((qU A (rd z p)).f1.f2) a1 false _ ?side1 ?side2 ?side3 ?side4 bE.out).mono ?_);(case side1=>exact byaq Y);(case side2=>exact Z.out);(case side3=>exact byaq a7);(case side4=>exact a8.out);rintro e bY ⟨rfl,hb⟩;refine⟨_,rfl,?_⟩;have n_:=q_3 (Kd.kQ (pXR D) hb) (bbl s hb) (qB (byae B) hb);clear D s HB;obtain⟨D,s,HB⟩:=n_;clear hb));go_ret;exact⟨byad,byae B⟩
          ·rw[if_neg aU] at H;exact absurd H (by simp)
         ·rw[if_neg aT] at H;exact absurd H (by simp)
        ·rw[if_neg aS] at H;exact absurd H (by simp)
       ·rw[if_neg aR] at H;exact absurd H (by simp)
      ·rw[if_neg aJ] at H;have b2:=decide_eq_false aJ;clear aJ;obtain rfl:=Option.some.inj H;go_wp2;go_ret;exact⟨byad,byae B⟩
end Go.Proofs.Ytkkbdimegpdbgaa.P
