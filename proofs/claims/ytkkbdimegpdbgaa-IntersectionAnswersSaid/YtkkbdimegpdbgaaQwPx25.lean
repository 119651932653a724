/- Walks: the calls answer as Lean functions say; conditions: each theorem's own. -/
import Derived.Test.YtkkbdimegpdbgaaQwPx24
namespace Go.Proofs.Ytkkbdimegpdbgaa.P
open Go.RowKit Go.Proofs.YtkkbdimegpdbgaaW.PrintWords Go.Proofs.YtkkbdimegpdbgaaW.PrintLast Go.Proofs.YtkkbdimegpdbgaaW.PrintMore
attribute [local go_sem] kK kM Qa Qb uV uU kN kL
set_option linter.unusedVariables false
set_option linter.unusedSimpArgs false
def kV.f (k:Nat) (r:List Int) (s:Int) (z:List (S58)) (a2:Bool):Option (Int × Int × (List (S28)) × Int):=(qL.f k r s z 0 0 a2).bind fun p=>(some (p.1,p.2.1,p.2.2.1,p.2.2.2))
set_option maxHeartbeats 8000000 in
set_option maxRecDepth 100000 in
theorem kV.calls (k:Nat) (g:Nat) (K:List Int) (M:Int) (Y:Option Addr) (Z:Nat) (G:List (S58)) (a2:Bool) (r1:Int) (r2:Int) (r3:List (S28)) (r4:Int) (w0 w:World) (hI:qE w0 w g K M) (hB:Below w0.heap.size w0 w) (a7:∀W_,qP w W_ g none→Kd.C k58 W_ Y G.length G) (a8:G.length≤Z) (h:kV.f k K M G a2=some (r1,r2,r3,r4)):
  Calls Try.prog 19 #[.pointer (some ⟨g,0,none⟩),.agg #[.slice Y G.length Z],.bool a2] w fun e w'=>∃aG:Value,e=.returned (.agg #[.int .i64 r1,.int .i64 r2,aG])∧Kd.R k28 28 w' w.heap.size (fun _=>True) aG r3∧qE w0 w' g K r4∧Below w0.heap.size w0 w'∧qP w w' g none:=by
 have hu25:=Try.underlying25;have hu28:=Try.underlying28;have aE:=qA.mk a7;have aF:=qA.mk a8;clear a7 a8;have s:=qA.mk hI;have HK:=qA.mk (qP.refl w g none);have HL:=qA.mk hB.size;clear hI;have aH:=qA.mk hB.size;have HB:=qA.mk hB;clear hB;unfold kV.f at h;have H:=h;clear h;replace H:=Option.bind_eq_some_iff.mp H;obtain⟨⟨aB,aC,aD,aI⟩,aJ,H⟩:=H;(try dsimp only at H);have A4:=qA.mk aJ;clear aJ;simp only[Option.some.injEq,Prod.mk.injEq] at H;obtain⟨rfl,rfl,rfl,rfl⟩:=H;go_enter Try.func19,Try.ntmps19;go_wp2_with (first|((with_reducible refine qH (N:=4) rfl ?_);refine qG ?hg (N:=4) ?hd (cs:=#[.slice Y G.length Z]) (t:=25) ?hr ?_;(case hd=>rfl);(case hg=>rfl);(case hr=>exact byab);intro I hg w5 hbox hb;have n_:=q_7 (qE.below (bybd s) hb) (ko hb g bybf) (qB (bybe s) hb) (hbox) ((bycp:w.heap.size≤I)) ((Nat.le_trans aH.out (bycp:w.heap.size≤I):w0.heap.size≤I)) ((by rw[hg];exact Nat.ne_of_lt (qE.lt (show qE w0 _ g K M from bybd s)):g≠I));clear s HK HB;obtain⟨s,HK,HB,r,z,U,p⟩:=n_;have O:=ns p;clear hb hbox hg)|((with_reducible refine qH (N:=6) rfl ?_);refine qG ?hg (N:=6) ?hd (cs:=#[.int .i64 0,.int .i64 0,.slice none 0 0]) (t:=28) ?hr ?_;(case hd=>rfl);(case hg=>rfl);(case hr=>exact byab);intro A hg w6 hbox hb;have n_:=q_9 (qE.below (bybg s p) hb) (bbl r hb) (ko hb g (bybh z)) (qB (bybi s U) hb) (hbox) ((by rw[hg];exact(qK (w:=w) (g:=g) (row:=none) (bybh z)):w.heap.size≤A)) ((Nat.le_trans aH.out (by rw[hg];exact(qK (w:=w) (g:=g) (row:=none) (bybh z)):w.heap.size≤A):w0.heap.size≤A)) ((by rw[hg];exact Nat.ne_of_lt (bl r):I≠A)) ((by rw[hg];exact Nat.ne_of_lt (qE.lt (show qE w0 _ g K M from bybg s p)):g≠A));clear s r HK HB;obtain⟨s,r,HK,HB,D,L,a9,J,B⟩:=n_;have X:=ns J;have T:=ns B;clear hb hbox hg;have aY:=J.out;have aZ:=X.out;have b0:=O.out;have b1:=p.out;obtain⟨aU,aV⟩:=cz1 r.out)|((with_reducible refine qC (f:=40) rfl ?_);refine qV (some 10) rfl rfl Try.func40 (by kernel_rfl) rfl #[.pointer (some ⟨g,0,none⟩),.agg #[.slice Y G.length Z],.int .i64 0,.int .i64 0,.bool a2] rfl byah ?_;(with_reducible refine(qL.calls k g K M _ _ G 0 0 a2 aB aC aD aI w0 _ ?side1 ?side2 ?side3 ?side4 A4.out).mono ?_);(case side1=>exact bybj s p B);(case side2=>exact bybk s U a9);(case side3=>exact Kd.C_foot_step aE.out (bybl z L));(case side4=>exact aF.out);rintro e b3 ⟨b2,rfl,aK,hi,hb,hk⟩;refine⟨_,rfl,?_⟩;have n_:=q_6 (kb hk r O) (kb hk D T) (Kd.kF (Kd.Jh aK (g:=A) (o:=.cells #[.int .i64 0,.int .i64 0,.slice none 0 0] 28 (0,0)) (bq D)) (qK (w:=w) (g:=g) (row:=none) (bybl z L))) (kt hk (bybl z L)) (hb) (hi);clear r D HK HB s;obtain⟨r,D,aA,HK,HB,s⟩:=n_;clear hb hk hi;(try clear aK);have aW:=T.out;have aX:=B.out;obtain⟨aL,aM,aN,aO,aP,aQ⟩:=cz3 D.out;obtain⟨aR,aS,aT⟩:=Kd.vK aA.out;subst aT));refine bodyPost_ret (results_cell_row rfl _ _ A 28 #[.int .i64 aB,.int .i64 aC,.slice aR aD.length aS] (0,0) _ rfl (bp D) Try.underlying28 rfl (by kernel_rfl)) rfl ?_;exact⟨_,byad,vXR aA,bybj s p B,bybk s U a9,bybl z L⟩
mutual
def jQ.l0:Nat→Int→List (S28)→Int→Int→Option (Int)
 |0,_,_,_,_=>none
 |k+1,x3,x7,x8,x9=>if x9<x8 then(if 0≤x9 then(if x9<(x7.length:Int) then((jQ.f k ((qN x7 x9).f0) ((qN x7 x9).f1) ((qN x7 x9).f2)).bind fun r=>(jQ.l0 k (wrap64 (x3+r)) x7 x8 (wrap64 (x9+1)))) else(none)) else(none)) else(some x3)
def jQ.f:Nat→Int→Int→List (S28)→Option (Int)
 |0,_,_,_=>none
 |k+1,s,z,p=>jQ.l0 k 1 p (p.length:Int) 0
end
set_option maxHeartbeats 8000000 in
set_option maxRecDepth 100000 in
theorem jQ.calls (k:Nat):∀(G:Int) (I:Int) (M:Option Addr) (J:Nat) (p:List (S28)) (r:Int) (w:World) (Y:Kd.C k28 w M p.length p) (Z:p.length≤J) (h:jQ.f k G I p=some r),
  Calls Try.prog 23 #[.agg #[.int .i64 G,.int .i64 I,.slice M p.length J]] w fun e w'=>e=.returned (.int .i64 r)∧Below w.heap.size w w':=by
 induction k using Nat.strongRecOn with
 |_ k ih=>
 intro G I M J p r w Y Z h
 cases k with
 |zero=>exact absurd h (by simp[jQ.f])
 |succ k=>
 simp only[jQ.f] at h;have hu28:=Try.underlying28;have aH:=qA.mk Y;have aY:=qA.mk Z;clear Y Z;have HB:=qA.mk (Below.refl w.heap.size w);have H:=h;clear h;have H':=qA.mk H;clear H;go_enter Try.func23,Try.ntmps23;go_wp2_with (first|((with_reducible refine qH (N:=1) rfl ?_);refine qG ?hg (N:=1) ?hd (cs:=#[.int .i64 G,.int .i64 I,.slice M p.length J]) (t:=28) ?hr ?_;(case hd=>rfl);(case hg=>rfl);(case hr=>exact byab);intro D hg w2 hbox hb;have n_:=q_4 (qB byac hb) (hbox) ((bycn:w.heap.size≤D)) ((bycn:w.heap.size≤D));clear HB;obtain⟨HB,z,aZ,A⟩:=n_;clear hb hbox hg;obtain⟨aS,aT,aU,aV,aW,aX⟩:=cz3 z.out));go_loopg [3,9] k (fun kq v3 v9 w'=>∃(a9:Int) (s:Int),v3=.int .i64 a9∧v9=.int .i64 s∧qA (jQ.l0 kq a9 p (p.length:Int) s=some r)∧qA (kq≤k)∧qA (w'.heap[D]? =some (.cells #[.int .i64 G,.int .i64 I,(.slice M p.length J)] 28 (0,0)))∧qA (Below w.heap.size w w'));case atStart=>exact⟨(1),(0),byaf,byaf,H',⟨Nat.le_refl _⟩,⟨bq z⟩,⟨byae A⟩⟩
 case round=>
  clear H';obtain⟨a9,s,rfl,rfl,HA,HK1,z,HB⟩:=hrel
  cases gk with
  |zero=>exact absurd HA.out (by simp[jQ.l0])
  |succ k1=>
   have H:=HA.out;clear HA;simp only[jQ.l0] at H;by_cases c4:s<(p.length:Int)
   ·rw[if_pos c4] at H;have aJ:=decide_eq_true c4;clear c4;by_cases c5:0≤s
    ·rw[if_pos c5] at H;have b1:=decide_eq_true c5;clear c5;by_cases c6:s<(p.length:Int)
     ·rw[if_pos c6] at H;have b2:=decide_eq_true c6;clear c6;replace H:=Option.bind_eq_some_iff.mp H;obtain⟨aG,aK,H⟩:=H;(try dsimp only at H);have A7:=qA.mk aK;clear aK;have H':=qA.mk H;clear H;have aC:0≤(s:Int):=of_decide_eq_true byag;have aD:s<(p.length:Int):=of_decide_eq_true byag;obtain⟨aI,aA,aB,aL,O,T,U,X,hi660_2⟩:=at_T28 aH.out s aC aD
      cases aL
      replace O:=bc HB O;replace T:=bc HB T;replace U:=bc HB U;have aE:=qA.mk hi660_2;have aF:=qA.mk X;clear hi660_2 X;replace aC:=eq_true aC;replace aD:=eq_true aD;go_wp2_with (first|((with_reducible refine qH (N:=5) rfl ?_);refine qG ?hg (N:=5) ?hd (cs:=#[.int .i64 0,.int .i64 0,.slice none 0 0]) (t:=28) ?hr ?_;(case hd=>rfl);(case hg=>rfl);(case hr=>exact byab);intro K hg w8 hbox hb;have n_:=q_6 (bbl z hb) (qB (byae A) hb) (hbox) ((by rw[hg];exact(qI (byae A)):w.heap.size≤K)) ((by rw[hg];exact(qI (byae A)):w.heap.size≤K)) ((by rw[hg];exact Nat.ne_of_lt (bl z):D≠K));clear z HB;obtain⟨z,HB,L,b0,a7,B⟩:=n_;have a8:=ns B;clear hb hbox hg;have b3:=a8.out;have b4:=B.out;obtain⟨aM,aN,aO,aP,aQ,aR⟩:=cz3 L.out)|((with_reducible refine qC (f:=23) rfl ?_);refine qV (some 15) rfl rfl Try.func23 (by kernel_rfl) rfl #[.agg #[.int .i64 ((qN p s).f0),.int .i64 ((qN p s).f1),.slice aA ((qN p s).f2).length aB]] rfl byah ?_;(with_reducible refine(ih k1 byai ((qN p s).f0) ((qN p s).f1) _ _ ((qN p s).f2) aG _ ?side1 ?side2 A7.out).mono ?_);(case side1=>exact Kd.vO aE.out (byaj A a7));(case side2=>exact aF.out);rintro e b5 ⟨rfl,hb⟩;refine⟨_,rfl,?_⟩;have n_:=q_3 (vC (g:=D) (o:=.cells #[.int .i64 G,.int .i64 I,.slice (some aI) p.length J] 28 (0,0)) (byak B z) hb) (vC (g:=K) (o:=.cells #[.int .i64 ((qN p s).f0),.int .i64 ((qN p s).f1),.slice aA ((qN p s).f2).length aB] 28 (0,0)) (bp L) hb) (qB (byaj A a7) hb);clear z L HB;obtain⟨z,L,HB⟩:=n_;clear hb));go_roundg k1;case measure=>have:=HK1.out;omega
      case rel=>exact⟨(wrap64 (a9+aG)),(wrap64 (s+1)),byaf,byaf,H',⟨byai⟩,⟨bq z⟩,⟨byaj A a7⟩⟩
     ·rw[if_neg c6] at H;exact absurd H (by simp)
    ·rw[if_neg c5] at H;exact absurd H (by simp)
   ·rw[if_neg c4] at H;have aJ:=decide_eq_false c4;clear c4;obtain rfl:=Option.some.inj H;go_wp2;go_ret;exact⟨byad,byae A⟩
end Go.Proofs.Ytkkbdimegpdbgaa.P
