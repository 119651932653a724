/- Walks: the calls answer as Lean functions say; conditions: each theorem's own. -/
import Derived.Test.YtkkbdimegpdbgaaQwF1
import Derived.Test.YtkkbdimegpdbgaaQwPx1
namespace Go.Proofs.Ytkkbdimegpdbgaa.P
open Go.RowKit Go.Proofs.YtkkbdimegpdbgaaW.PrintWords Go.Proofs.YtkkbdimegpdbgaaW.PrintLast Go.Proofs.YtkkbdimegpdbgaaW.PrintMore
attribute [local go_sem] kK kM Qa Qb uV uU kN kL
set_option linter.unusedVariables false
set_option linter.unusedSimpArgs false
mutual
def zT.j0:Nat→Bool→Int→List Int→List (S56)→Option (Int)
 |0,_,_,_,_=>none
 |k+1,M,J,p,r=>if M=true then(some 4) else((threshold_bad.f p).bind fun K=>(if K=true then(some 5) else((vJ.f k p).bind fun A=>(if A.2=0 then(zT.l0 k r (r.length:Int) 0) else(some A.2)))))
def zT.l0:Nat→List (S56)→Int→Int→Option (Int)
 |0,_,_,_=>none
 |k+1,B,L,s=>if s<L then(if 0≤s then(if s<(B.length:Int) then((zT.f k ((qQ B s).f0) ((qQ B s).f1) ((qQ B s).f2)).bind fun I=>(if I=0 then(zT.l0 k B L (wrap64 (s+1))) else(some I))) else(none)) else(none)) else(some 0)
def zT.f:Nat→Int→List Int→List (S56)→Option (Int)
 |0,_,_,_=>none
 |k+1,z,D,G=>if z<1 then(zT.j0 k true z D G) else(zT.j0 k (decide (z>(wrap64 ((D.length:Int)+(G.length:Int))))) z D G)
end
theorem zT.mono_l:∀k,(∀y0 y1 y2,LeO (zT.f k y0 y1 y2) (zT.f (k+1) y0 y1 y2))∧(∀y0 y1 y2 y3,LeO (zT.j0 k y0 y1 y2 y3) (zT.j0 (k+1) y0 y1 y2 y3))∧(∀y0 y1 y2,LeO (zT.l0 k y0 y1 y2) (zT.l0 (k+1) y0 y1 y2))
 |0=>⟨fun _ _ _ r h=>by simp[zT.f] at h,fun _ _ _ _ r h=>by simp[zT.j0] at h,fun _ _ _ r h=>by simp[zT.l0] at h⟩
 |k+1=>by
  obtain⟨p,s,z⟩:=zT.mono_l k;refine⟨?_,?_,?_⟩
  ·intro y0 y1 y2;unfold zT.f;repeat' first
   |(with_reducible exact p _ _ _)
   |(with_reducible exact s _ _ _ _)
   |(with_reducible exact z _ _ _)
   |(with_reducible exact vJ.mono _ _)
   |(with_reducible exact LeO.refl _)
   |(with_reducible exact LeO.none _)
   |(with_reducible refine LeO.ite ?_ ?_)
   |(with_reducible refine LeO.bind ?_ (fun _=>?_))
   |exact p _ _ _
   |exact s _ _ _ _
   |exact z _ _ _
   |exact vJ.mono _ _
   |exact LeO.none _
   |refine LeO.ite ?_ ?_
   |refine LeO.bind ?_ (fun _=>?_)
  ·intro y0 y1 y2 y3;unfold zT.j0;repeat' first
   |(with_reducible exact p _ _ _)
   |(with_reducible exact s _ _ _ _)
   |(with_reducible exact z _ _ _)
   |(with_reducible exact vJ.mono _ _)
   |(with_reducible exact LeO.refl _)
   |(with_reducible exact LeO.none _)
   |(with_reducible refine LeO.ite ?_ ?_)
   |(with_reducible refine LeO.bind ?_ (fun _=>?_))
   |exact p _ _ _
   |exact s _ _ _ _
   |exact z _ _ _
   |exact vJ.mono _ _
   |exact LeO.none _
   |refine LeO.ite ?_ ?_
   |refine LeO.bind ?_ (fun _=>?_)
  ·intro y0 y1 y2;unfold zT.l0;repeat' first
   |(with_reducible exact p _ _ _)
   |(with_reducible exact s _ _ _ _)
   |(with_reducible exact z _ _ _)
   |(with_reducible exact vJ.mono _ _)
   |(with_reducible exact LeO.refl _)
   |(with_reducible exact LeO.none _)
   |(with_reducible refine LeO.ite ?_ ?_)
   |(with_reducible refine LeO.bind ?_ (fun _=>?_))
   |exact p _ _ _
   |exact s _ _ _ _
   |exact z _ _ _
   |exact vJ.mono _ _
   |exact LeO.none _
   |refine LeO.ite ?_ ?_
   |refine LeO.bind ?_ (fun _=>?_)
theorem zT.mono:∀a0 a1 a2 k,LeO (zT.f k a0 a1 a2) (zT.f (k+1) a0 a1 a2):=by
 intro a0 a1 a2 k;obtain⟨p,r,s⟩:=zT.mono_l k;exact p a0 a1 a2
set_option maxHeartbeats 8000000 in
set_option maxRecDepth 100000 in
theorem zT.calls (k:Nat):∀(M:Int) (G:Option Addr) (I:Nat) (B:List Int) (aL:Option Addr) (aC:Nat) (s:List (S56)) (r:Int) (w:World) (aO:Kd.C (Kd.int .i64) w G B.length B) (aP:B.length≤I) (aQ:Kd.C k56 w aL s.length s) (aR:s.length≤aC) (h:zT.f k M B s=some r),
  Calls Try.prog 83 #[.agg #[.int .i64 M,.slice G B.length I,.slice aL s.length aC]] w fun e w'=>e=.returned (.int .i64 r)∧Below w.heap.size w w':=by
 induction k using Nat.strongRecOn with
 |_ k ih=>
 intro M G I B aL aC s r w aO aP aQ aR h
 cases k with
 |zero=>exact absurd h (by simp[zT.f])
 |succ k=>
 simp only[zT.f] at h;have hu56:=Try.underlying56;have aD:=qA.mk aO;have aE:=qA.mk aP;clear aO aP;have aU:=qA.mk aQ;have cW:=qA.mk aR;clear aQ aR;have HB:=qA.mk (Below.refl w.heap.size w);have H:=h;clear h;have b6:=qA.mk H;clear H;go_enter Try.func83,Try.ntmps83;go_upto_region 1 with(first|((with_reducible refine qH (N:=1) rfl ?_);(try(refine uS (by rfl) ?_;dsimp only));refine qG ?hg (N:=1) ?hd (cs:=#[.int .i64 M,.slice G B.length I,.slice aL s.length aC]) (t:=56) ?hr ?_;(case hd=>rfl);(case hg=>rfl);(case hr=>exact byab);intro O hg w3 hbox hb;have n_:=q_4 (qB byac hb) (hbox) ((bycn:w.heap.size≤O)) ((bycn:w.heap.size≤O));clear HB;obtain⟨HB,z,cX,A⟩:=n_;clear hb hbox hg))
 (try simp only[Act.put,List.setIfInBounds_toArray,List.set_cons_zero,List.set_cons_succ]);go_cut[22] (fun cY wc=>∃(kq:Nat) (aM:Bool),cY=.bool aM∧qA (zT.j0 kq aM M B s=some r)∧qA (kq≤k)∧qA (wc.heap[O]? =some (.cells #[.int .i64 M,(.slice G B.length I),(.slice aL s.length aC)] 56 (0,0)))∧qA (Below w.heap.size w wc));case first=>
  have H:=b6.out;clear b6;by_cases c4:M<1
  ·rw[if_pos c4] at H;have aN:=decide_eq_true c4;clear c4;(first|rw[aN]|(simp only[Qo,Qw];rw[aN])|skip);have H':=qA.mk H;clear H;obtain⟨cK,cL,cM,cN,cO,cP⟩:=cz3 z.out;go_wp2;go_meet;case rel=>exact⟨_,(true),byaf,H',⟨byap⟩,⟨bq z⟩,⟨byae A⟩⟩
  ·rw[if_neg c4] at H;have aN:=decide_eq_false c4;clear c4;(first|rw[aN]|(simp only[Qo,Qw];rw[aN])|skip);have H':=qA.mk H;clear H;obtain⟨cQ,cR,cS,cT,cU,cV⟩:=cz3 z.out;go_wp2;go_meet;case rel=>exact⟨_,(decide (M>(wrap64 ((B.length:Int)+(s.length:Int))))),byaf,H',⟨byap⟩,⟨bq z⟩,⟨byae A⟩⟩
 case rest=>
  clear b6;obtain⟨kq,aM,rfl,HA,HJ1,z,HB⟩:=hcut
  cases kq with
  |zero=>exact absurd HA.out (by simp[zT.j0])
  |succ b0=>
   have H:=HA.out;clear HA;simp only[zT.j0] at H;by_cases c7:aM=true
   ·subst c7;rw[if_pos rfl] at H;obtain rfl:=Option.some.inj H;go_wp2;go_ret;exact⟨byad,byae A⟩
   ·replace c7:=Bool.eq_false_iff.mpr c7;subst c7;rw[if_neg (show¬(false=true) by decide)] at H;replace H:=Option.bind_eq_some_iff.mp H;obtain⟨bD,bE,H⟩:=H;(try dsimp only at H);have A8:=qA.mk bE;clear bE;by_cases c9:bD=true
    ·subst c9;rw[if_pos rfl] at H;obtain rfl:=Option.some.inj H;obtain⟨bF,bG,bH,bI,bJ,bK⟩:=cz3 z.out;go_wp2_with (first|((with_reducible refine qC (f:=88) rfl ?_);refine qV (some 25) rfl rfl Try.func88 (by kernel_rfl) rfl #[.slice G B.length I,.func (.func 89) #[] #[]] rfl byah ?_;(with_reducible refine(threshold_bad.calls _ _ B true _ ?side1 ?side2 A8.out).mono ?_);(case side1=>exact byaq aD);(case side2=>exact aE.out);rintro e w' ⟨rfl,⟨nd,rfl⟩⟩;refine⟨_,rfl,?_⟩));go_ret;exact⟨byad,byae A⟩
    ·replace c9:=Bool.eq_false_iff.mpr c9;subst c9;rw[if_neg (show¬(false=true) by decide)] at H;replace H:=Option.bind_eq_some_iff.mp H;obtain⟨⟨b3,aV⟩,b4,H⟩:=H;(try dsimp only at H);have bL:=qA.mk b4;clear b4;by_cases aW:aV=0
     ·rw[if_pos aW] at H;obtain⟨b7,b8⟩:=eqT aW;clear aW;have H':=qA.mk H;clear H;obtain⟨bM,bN,bO,bP,bQ,bR⟩:=cz3 z.out;go_wp2_with (first|((with_reducible refine qC (f:=88) rfl ?_);refine qV (some 25) rfl rfl Try.func88 (by kernel_rfl) rfl #[.slice G B.length I,.func (.func 89) #[] #[]] rfl byah ?_;(with_reducible refine(threshold_bad.calls _ _ B false _ ?side1 ?side2 A8.out).mono ?_);(case side1=>exact byaq aD);(case side2=>exact aE.out);rintro e w' ⟨rfl,⟨nd,rfl⟩⟩;refine⟨_,rfl,?_⟩)|((with_reducible refine qC (f:=90) rfl ?_);refine qV (some 29) rfl rfl Try.func90 (by kernel_rfl) rfl #[.slice G B.length I] rfl byah ?_;(with_reducible refine(vJ.calls b0 _ _ B b3 aV _ ?side1 ?side2 bL.out).mono ?_);(case side1=>repeat(first|exact(Kd.vO aD.out (byae A))|(with_reducible refine Kd.Zu ?_ _)|(with_reducible refine Kd.Zt ?_ _)|(with_reducible refine Kd.Ja ?_)));(case side2=>exact aE.out);rintro e w' ⟨rfl,⟨nd,rfl⟩⟩;refine⟨_,rfl,?_⟩));go_loopg [38] b0 (fun kq cZ w'=>∃(p:Int),cZ=.int .i64 p∧qA (zT.l0 kq s (s.length:Int) p=some r)∧qA (kq≤b0)∧qA (w'.heap[O]? =some (.cells #[.int .i64 M,(.slice G B.length I),(.slice aL s.length aC)] 56 (0,0)))∧qA (Below w.heap.size w w'));case atStart=>exact⟨(0),byaf,H',⟨Nat.le_refl _⟩,⟨bq z⟩,⟨byae A⟩⟩
      case round=>
       clear H';obtain⟨p,rfl,HA,HK2,z,HB⟩:=hrel
       cases gk with
       |zero=>exact absurd HA.out (by simp[zT.l0])
       |succ k2=>
        have H:=HA.out;clear HA;simp only[zT.l0] at H;by_cases aT:p<(s.length:Int)
        ·rw[if_pos aT] at H;have b9:=decide_eq_true aT;clear aT;by_cases b1:0≤p
         ·rw[if_pos b1] at H;have d0:=decide_eq_true b1;clear b1;by_cases b2:p<(s.length:Int)
          ·rw[if_pos b2] at H;have d1:=decide_eq_true b2;clear b2;replace H:=Option.bind_eq_some_iff.mp H;obtain⟨aX,b5,H⟩:=H;(try dsimp only at H);have bT:=qA.mk b5;clear b5;by_cases aY:aX=0
           ·rw[if_pos aY] at H;obtain⟨bA,bB⟩:=eqT aY;clear aY;have H':=qA.mk H;clear H;have aF:0≤(p:Int):=of_decide_eq_true byag;have aG:p<(s.length:Int):=of_decide_eq_true byag;obtain⟨aS,a8,a9,aA,aB,aZ,T,U,X,Y,hi118_1,Z,hi118_2⟩:=Zq aU.out p aF aG
            cases aZ
            replace T:=bc HB T;replace U:=bc HB U;replace X:=bc HB X;have aH:=qA.mk hi118_1;have aI:=qA.mk Y;clear hi118_1 Y;have aJ:=qA.mk hi118_2;have aK:=qA.mk Z;clear hi118_2 Z;replace aF:=eq_true aF;replace aG:=eq_true aG;go_wp2_with (first|((with_reducible refine qH (N:=6) rfl ?_);(try(refine uS (by rfl) ?_;dsimp only));refine qG ?hg (N:=6) ?hd (cs:=#[.int .i64 0,.slice none 0 0,.slice none 0 0]) (t:=56) ?hr ?_;(case hd=>rfl);(case hg=>rfl);(case hr=>exact byab);intro J hg d6 hbox hb;have n_:=q_6 (bbl z hb) (qB (byae A) hb) (hbox) ((by rw[hg];exact(qI (byae A)):w.heap.size≤J)) ((by rw[hg];exact(qI (byae A)):w.heap.size≤J)) ((by rw[hg];exact Nat.ne_of_lt (bl z):O≠J));clear z HB;obtain⟨z,HB,K,bC,L,D⟩:=n_;have a7:=ns D;clear hb hbox hg;have d2:=a7.out;have d3:=D.out;obtain⟨bU,bV,bW,bX,bY,bZ⟩:=cz3 K.out)|((with_reducible refine qC (f:=83) rfl ?_);refine qV (some 43) rfl rfl Try.func83 (by kernel_rfl) rfl #[.agg #[.int .i64 ((qQ s p).f0),.slice a8 ((qQ s p).f1).length a9,.slice aA ((qQ s p).f2).length aB]] rfl byah ?_;(with_reducible refine(ih k2 (by have:=HJ1.out;have:=HK2.out;omega) ((qQ s p).f0) _ _ ((qQ s p).f1) _ _ ((qQ s p).f2) aX _ ?side1 ?side2 ?side3 ?side4 bT.out).mono ?_);(case side1=>exact Kd.vO aH.out (byaj A L));(case side2=>exact aI.out);(case side3=>exact Kd.vO aJ.out (byaj A L));(case side4=>exact aK.out);rintro e d7 ⟨rfl,hb⟩;refine⟨_,rfl,?_⟩;have n_:=q_3 (vC (g:=O) (o:=.cells #[.int .i64 M,.slice G B.length I,.slice (some aS) s.length aC] 56 (0,0)) (byak D z) hb) (vC (g:=J) (o:=.cells #[.int .i64 ((qQ s p).f0),.slice a8 ((qQ s p).f1).length a9,.slice aA ((qQ s p).f2).length aB] 56 (0,0)) (bp K) hb) (qB (byaj A L) hb);clear z K HB;obtain⟨z,K,HB⟩:=n_;clear hb));go_roundg k2;case measure=>have:=HJ1.out;have:=HK2.out;omega
            case rel=>exact⟨(wrap64 (p+1)),byaf,H',⟨by have:=HJ1.out;have:=HK2.out;omega⟩,⟨bq z⟩,⟨byaj A L⟩⟩
           ·rw[if_neg aY] at H;obtain⟨bA,bB⟩:=eqF aY;obtain rfl:=Option.some.inj H;have aF:0≤(p:Int):=of_decide_eq_true byag;have aG:p<(s.length:Int):=of_decide_eq_true byag;obtain⟨aS,a8,a9,aA,aB,aZ,T,U,X,Y,hi118_1,Z,hi118_2⟩:=Zq aU.out p aF aG
            cases aZ
            replace T:=bc HB T;replace U:=bc HB U;replace X:=bc HB X;have aH:=qA.mk hi118_1;have aI:=qA.mk Y;clear hi118_1 Y;have aJ:=qA.mk hi118_2;have aK:=qA.mk Z;clear hi118_2 Z;replace aF:=eq_true aF;replace aG:=eq_true aG;go_wp2_with (first|((with_reducible refine qH (N:=6) rfl ?_);(try(refine uS (by rfl) ?_;dsimp only));refine qG ?hg (N:=6) ?hd (cs:=#[.int .i64 0,.slice none 0 0,.slice none 0 0]) (t:=56) ?hr ?_;(case hd=>rfl);(case hg=>rfl);(case hr=>exact byab);intro J hg d8 hbox hb;have n_:=q_6 (bbl z hb) (qB (byae A) hb) (hbox) ((by rw[hg];exact(qI (byae A)):w.heap.size≤J)) ((by rw[hg];exact(qI (byae A)):w.heap.size≤J)) ((by rw[hg];exact Nat.ne_of_lt (bl z):O≠J));clear z HB;obtain⟨z,HB,K,bC,L,D⟩:=n_;have a7:=ns D;clear hb hbox hg;have d4:=a7.out;have d5:=D.out;obtain⟨c0,c1,cA,cB,cC,cD⟩:=cz3 K.out)|((with_reducible refine qC (f:=83) rfl ?_);refine qV (some 43) rfl rfl Try.func83 (by kernel_rfl) rfl #[.agg #[.int .i64 ((qQ s p).f0),.slice a8 ((qQ s p).f1).length a9,.slice aA ((qQ s p).f2).length aB]] rfl byah ?_;(with_reducible refine(ih k2 (by have:=HJ1.out;have:=HK2.out;omega) ((qQ s p).f0) _ _ ((qQ s p).f1) _ _ ((qQ s p).f2) aX _ ?side1 ?side2 ?side3 ?side4 bT.out).mono ?_);(case side1=>exact Kd.vO aH.out (byaj A L));(case side2=>exact aI.out);(case side3=>exact Kd.vO aJ.out (byaj A L));(case side4=>exact aK.out);rintro e d9 ⟨rfl,hb⟩;refine⟨_,rfl,?_⟩;have n_:=q_3 (vC (g:=O) (o:=.cells #[.int .i64 M,.slice G B.length I,.slice (some aS) s.length aC] 56 (0,0)) (byak D z) hb) (vC (g:=J) (o:=.cells #[.int .i64 ((qQ s p).f0),.slice a8 ((qQ s p).f1).length a9,.slice aA ((qQ s p).f2).length aB] 56 (0,0)) (bp K) hb) (qB (byaj A L) hb);clear z K HB;obtain⟨z,K,HB⟩:=n_;clear hb));go_ret;exact⟨byad,byaj A L⟩
          ·rw[if_neg b2] at H;exact absurd H (by simp)
         ·rw[if_neg b1] at H;exact absurd H (by simp)
        ·rw[if_neg aT] at H;have b9:=decide_eq_false aT;clear aT;obtain rfl:=Option.some.inj H;go_wp2;go_ret;exact⟨byad,byae A⟩
     ·rw[if_neg aW] at H;obtain⟨b7,b8⟩:=eqF aW;obtain rfl:=Option.some.inj H;obtain⟨cE,cF,cG,cH,cI,cJ⟩:=cz3 z.out;go_wp2_with (first|((with_reducible refine qC (f:=88) rfl ?_);refine qV (some 25) rfl rfl Try.func88 (by kernel_rfl) rfl #[.slice G B.length I,.func (.func 89) #[] #[]] rfl byah ?_;(with_reducible refine(threshold_bad.calls _ _ B false _ ?side1 ?side2 A8.out).mono ?_);(case side1=>exact byaq aD);(case side2=>exact aE.out);rintro e w' ⟨rfl,⟨nd,rfl⟩⟩;refine⟨_,rfl,?_⟩)|((with_reducible refine qC (f:=90) rfl ?_);refine qV (some 29) rfl rfl Try.func90 (by kernel_rfl) rfl #[.slice G B.length I] rfl byah ?_;(with_reducible refine(vJ.calls b0 _ _ B b3 aV _ ?side1 ?side2 bL.out).mono ?_);(case side1=>repeat(first|exact(Kd.vO aD.out (byae A))|(with_reducible refine Kd.Zu ?_ _)|(with_reducible refine Kd.Zt ?_ _)|(with_reducible refine Kd.Ja ?_)));(case side2=>exact aE.out);rintro e w' ⟨rfl,⟨nd,rfl⟩⟩;refine⟨_,rfl,?_⟩));go_ret;exact⟨byad,byae A⟩
def kP.f (k:Nat) (p:Int) (r:List Int) (s:List (S56)):Option (Int):=(jH.f k p r s).bind fun z=>(if z>4 then(some 3) else((jL.f k p r s).bind fun A=>(if A>200 then(some 3) else((zT.f k p r s).bind fun B=>(some B)))))
theorem kP.mono:∀a0 a1 a2 k,LeO (kP.f k a0 a1 a2) (kP.f (k+1) a0 a1 a2):=by
 intro a0 a1 a2 k;unfold kP.f;repeat' first
   |(with_reducible exact jH.mono _ _ _ _)
   |(with_reducible exact jL.mono _ _ _ _)
   |(with_reducible exact zT.mono _ _ _ _)
   |(with_reducible exact LeO.refl _)
   |(with_reducible exact LeO.none _)
   |(with_reducible refine LeO.ite ?_ ?_)
   |(with_reducible refine LeO.bind ?_ (fun _=>?_))
   |exact jH.mono _ _ _ _
   |exact jL.mono _ _ _ _
   |exact zT.mono _ _ _ _
   |exact LeO.none _
   |refine LeO.ite ?_ ?_
   |refine LeO.bind ?_ (fun _=>?_)
set_option maxHeartbeats 8000000 in
set_option maxRecDepth 100000 in
theorem kP.calls (k:Nat) (A:Int) (G:Option Addr) (I:Nat) (s:List Int) (J:Option Addr) (K:Nat) (z:List (S56)) (r:Int) (w:World) (X:Kd.C (Kd.int .i64) w G s.length s) (Y:s.length≤I) (Z:Kd.C k56 w J z.length z) (a7:z.length≤K) (h:kP.f k A s z=some r):
  Calls Try.prog 69 #[.agg #[.int .i64 A,.slice G s.length I,.slice J z.length K]] w fun e w'=>e=.returned (.int .i64 r)∧Below w.heap.size w w':=by
 have hu56:=Try.underlying56;have L:=qA.mk X;have M:=qA.mk Y;clear X Y;have O:=qA.mk Z;have T:=qA.mk a7;clear Z a7;have HB:=qA.mk (Below.refl w.heap.size w);unfold kP.f at h;have H:=h;clear h;replace H:=Option.bind_eq_some_iff.mp H;obtain⟨U,aB,H⟩:=H;(try dsimp only at H);have A2:=qA.mk aB;clear aB;by_cases c3:U>4
 ·rw[if_pos c3] at H;have aC:=decide_eq_true c3;clear c3;obtain rfl:=Option.some.inj H;go_enter Try.func69,Try.ntmps69;go_wp2_with (first|((with_reducible refine qH (N:=1) rfl ?_);refine qG ?hg (N:=1) ?hd (cs:=#[.int .i64 A,.slice G s.length I,.slice J z.length K]) (t:=56) ?hr ?_;(case hd=>rfl);(case hg=>rfl);(case hr=>exact byab);intro D hg w4 hbox hb;have n_:=q_4 (qB byac hb) (hbox) ((bycn:w.heap.size≤D)) ((bycn:w.heap.size≤D));clear HB;obtain⟨HB,p,a8,B⟩:=n_;clear hb hbox hg;obtain⟨bA,bB,bC,bD,bE,bF⟩:=cz3 p.out)|((with_reducible refine qC (f:=81) rfl ?_);refine qV (some 4) rfl rfl Try.func81 (by kernel_rfl) rfl #[.agg #[.int .i64 A,.slice G s.length I,.slice J z.length K]] rfl byah ?_;(with_reducible refine(jH.calls k A _ _ s _ _ z U _ ?side1 ?side2 ?side3 ?side4 A2.out).mono ?_);(case side1=>exact byaq L);(case side2=>exact M.out);(case side3=>exact byaq O);(case side4=>exact T.out);rintro e w6 ⟨rfl,hb⟩;refine⟨_,rfl,?_⟩;have n_:=q_2 (bbl p hb) (qB (byae B) hb);clear p HB;obtain⟨p,HB⟩:=n_;clear hb));go_ret;exact⟨byad,byae B⟩
 ·rw[if_neg c3] at H;have aC:=decide_eq_false c3;clear c3;replace H:=Option.bind_eq_some_iff.mp H;obtain⟨a9,aD,H⟩:=H;(try dsimp only at H);have A7:=qA.mk aD;clear aD;by_cases c8:a9>200
  ·rw[if_pos c8] at H;have aE:=decide_eq_true c8;clear c8;obtain rfl:=Option.some.inj H;go_enter Try.func69,Try.ntmps69;go_wp2_with (first|((with_reducible refine qH (N:=1) rfl ?_);refine qG ?hg (N:=1) ?hd (cs:=#[.int .i64 A,.slice G s.length I,.slice J z.length K]) (t:=56) ?hr ?_;(case hd=>rfl);(case hg=>rfl);(case hr=>exact byab);intro D hg w9 hbox hb;have n_:=q_4 (qB byac hb) (hbox) ((bycn:w.heap.size≤D)) ((bycn:w.heap.size≤D));clear HB;obtain⟨HB,p,a8,B⟩:=n_;clear hb hbox hg;obtain⟨aF,aG,aH,aI,aJ,aK⟩:=cz3 p.out)|((with_reducible refine qC (f:=81) rfl ?_);refine qV (some 4) rfl rfl Try.func81 (by kernel_rfl) rfl #[.agg #[.int .i64 A,.slice G s.length I,.slice J z.length K]] rfl byah ?_;(with_reducible refine(jH.calls k A _ _ s _ _ z U _ ?side1 ?side2 ?side3 ?side4 A2.out).mono ?_);(case side1=>exact byaq L);(case side2=>exact M.out);(case side3=>exact byaq O);(case side4=>exact T.out);rintro e bH ⟨rfl,hb⟩;refine⟨_,rfl,?_⟩;have n_:=q_2 (bbl p hb) (qB (byae B) hb);clear p HB;obtain⟨p,HB⟩:=n_;clear hb;obtain⟨aL,aM,aN,aO,aP,aQ⟩:=cz3 p.out)|(go_at_call 82;(with_reducible refine(jL.calls k A _ _ s _ _ z a9 _ ?side1 ?side2 ?side3 ?side4 A7.out).mono ?_);(case side1=>exact byaq L);(case side2=>exact M.out);(case side3=>exact byaq O);(case side4=>exact T.out);rintro e bI ⟨rfl,hb⟩;have n_:=q_2 (bbl p hb) (qB (byae B) hb);clear p HB;obtain⟨p,HB⟩:=n_;clear hb));go_ret;exact⟨byad,byae B⟩
  ·rw[if_neg c8] at H;have aE:=decide_eq_false c8;clear c8;replace H:=Option.bind_eq_some_iff.mp H;obtain⟨aR,aA,H⟩:=H;(try dsimp only at H);have bG:=qA.mk aA;clear aA;obtain rfl:=Option.some.inj H;go_enter Try.func69,Try.ntmps69;go_wp2_with (first|((with_reducible refine qH (N:=1) rfl ?_);refine qG ?hg (N:=1) ?hd (cs:=#[.int .i64 A,.slice G s.length I,.slice J z.length K]) (t:=56) ?hr ?_;(case hd=>rfl);(case hg=>rfl);(case hr=>exact byab);intro D hg bJ hbox hb;have n_:=q_4 (qB byac hb) (hbox) ((bycn:w.heap.size≤D)) ((bycn:w.heap.size≤D));clear HB;obtain⟨HB,p,a8,B⟩:=n_;clear hb hbox hg;obtain⟨aS,aT,aU,aV,aW,aX⟩:=cz3 p.out)|((with_reducible refine qC (f:=81) rfl ?_);refine qV (some 4) rfl rfl Try.func81 (by kernel_rfl) rfl #[.agg #[.int .i64 A,.slice G s.length I,.slice J z.length K]] rfl byah ?_;(with_reducible refine(jH.calls k A _ _ s _ _ z U _ ?side1 ?side2 ?side3 ?side4 A2.out).mono ?_);(case side1=>exact byaq L);(case side2=>exact M.out);(case side3=>exact byaq O);(case side4=>exact T.out);rintro e bK ⟨rfl,hb⟩;refine⟨_,rfl,?_⟩;have n_:=q_2 (bbl p hb) (qB (byae B) hb);clear p HB;obtain⟨p,HB⟩:=n_;clear hb;obtain⟨aY,aZ,b0,b1,b2,b3⟩:=cz3 p.out)|(go_at_call 82;(with_reducible refine(jL.calls k A _ _ s _ _ z a9 _ ?side1 ?side2 ?side3 ?side4 A7.out).mono ?_);(case side1=>exact byaq L);(case side2=>exact M.out);(case side3=>exact byaq O);(case side4=>exact T.out);rintro e bL ⟨rfl,hb⟩;have n_:=q_2 (bbl p hb) (qB (byae B) hb);clear p HB;obtain⟨p,HB⟩:=n_;clear hb;obtain⟨b4,b5,b6,b7,b8,b9⟩:=cz3 p.out)|((with_reducible refine qC (f:=83) rfl ?_);refine qV (some 12) rfl rfl Try.func83 (by kernel_rfl) rfl #[.agg #[.int .i64 A,.slice G s.length I,.slice J z.length K]] rfl byah ?_;(with_reducible refine(zT.calls k A _ _ s _ _ z aR _ ?side1 ?side2 ?side3 ?side4 bG.out).mono ?_);(case side1=>exact byaq L);(case side2=>exact M.out);(case side3=>exact byaq O);(case side4=>exact T.out);rintro e bM ⟨rfl,hb⟩;refine⟨_,rfl,?_⟩;have n_:=q_2 (bbl p hb) (qB (byae B) hb);clear p HB;obtain⟨p,HB⟩:=n_;clear hb));go_ret;exact⟨byad,byae B⟩
def Zg.f (a0:Int):Option (Bool):=if a0≥0 then(some (decide (a0<10))) else(some false)
set_option maxHeartbeats 8000000 in
set_option maxRecDepth 100000 in
theorem Zg.calls (a0:Int) (r:Bool) (w:World) (h:Zg.f a0=some r):
  Calls Try.prog 84 #[.int .i64 a0] w fun e w'=>e=.returned (.bool r)∧Qs w w':=by
 unfold Zg.f at h;have H:=h;clear h;by_cases c2:a0≥0
 ·rw[if_pos c2] at H;have p:=decide_eq_true c2;clear c2;obtain rfl:=Option.some.inj H;go_enter Try.func84,Try.ntmps84;go_wp2;go_ret;exact⟨byaf,byam⟩
 ·rw[if_neg c2] at H;have p:=decide_eq_false c2;clear c2;obtain rfl:=Option.some.inj H;go_enter Try.func84,Try.ntmps84;go_wp2;go_ret;exact⟨byaf,byam⟩
mutual
def zV.l0:Nat→Int→List Int→Int→Int→Int→List Int→List (S56)→Option (Int)
 |0,_,_,_,_,_,_,_=>none
 |k+1,x3,x9,G,r,s,z,p=>if r<G then(if 0≤r then(if r<(x9.length:Int) then((Zg.f (rd x9 r)).bind fun I=>(if I=true then(if 0≤(rd x9 r) then(zV.l0 k (Go.bits .or .i64 x3 (shl .i64 1 (rd x9 r))) x9 G (wrap64 (r+1)) s z p) else(none)) else(zV.l0 k x3 x9 G (wrap64 (r+1)) s z p))) else(none)) else(none)) else(zV.l1 k x3 p (p.length:Int) 0)
def zV.l1:Nat→Int→List (S56)→Int→Int→Option (Int)
 |0,_,_,_,_=>none
 |k+1,x3,B,J,A=>if A<J then(if 0≤A then(if A<(B.length:Int) then((zV.f k ((qQ B A).f0) ((qQ B A).f1) ((qQ B A).f2)).bind fun K=>(zV.l1 k (Go.bits .or .i64 x3 K) B J (wrap64 (A+1)))) else(none)) else(none)) else(some x3)
def zV.f:Nat→Int→List Int→List (S56)→Option (Int)
 |0,_,_,_=>none
 |k+1,L,D,M=>zV.l0 k 0 D (D.length:Int) 0 L D M
end
theorem zV.mono_l:∀k,(∀y0 y1 y2,LeO (zV.f k y0 y1 y2) (zV.f (k+1) y0 y1 y2))∧(∀y0 y1 y2 y3 y4 y5 y6,LeO (zV.l0 k y0 y1 y2 y3 y4 y5 y6) (zV.l0 (k+1) y0 y1 y2 y3 y4 y5 y6))∧(∀y0 y1 y2 y3,LeO (zV.l1 k y0 y1 y2 y3) (zV.l1 (k+1) y0 y1 y2 y3))
 |0=>⟨fun _ _ _ r h=>by simp[zV.f] at h,fun _ _ _ _ _ _ _ r h=>by simp[zV.l0] at h,fun _ _ _ _ r h=>by simp[zV.l1] at h⟩
 |k+1=>by
  obtain⟨p,s,z⟩:=zV.mono_l k;refine⟨?_,?_,?_⟩
  ·intro y0 y1 y2;unfold zV.f;repeat' first
   |(with_reducible exact p _ _ _)
   |(with_reducible exact s _ _ _ _ _ _ _)
   |(with_reducible exact z _ _ _ _)
   |(with_reducible exact LeO.refl _)
   |(with_reducible exact LeO.none _)
   |(with_reducible refine LeO.ite ?_ ?_)
   |(with_reducible refine LeO.bind ?_ (fun _=>?_))
   |exact p _ _ _
   |exact s _ _ _ _ _ _ _
   |exact z _ _ _ _
   |exact LeO.none _
   |refine LeO.ite ?_ ?_
   |refine LeO.bind ?_ (fun _=>?_)
  ·intro y0 y1 y2 y3 y4 y5 y6;unfold zV.l0;repeat' first
   |(with_reducible exact p _ _ _)
   |(with_reducible exact s _ _ _ _ _ _ _)
   |(with_reducible exact z _ _ _ _)
   |(with_reducible exact LeO.refl _)
   |(with_reducible exact LeO.none _)
   |(with_reducible refine LeO.ite ?_ ?_)
   |(with_reducible refine LeO.bind ?_ (fun _=>?_))
   |exact p _ _ _
   |exact s _ _ _ _ _ _ _
   |exact z _ _ _ _
   |exact LeO.none _
   |refine LeO.ite ?_ ?_
   |refine LeO.bind ?_ (fun _=>?_)
  ·intro y0 y1 y2 y3;unfold zV.l1;repeat' first
   |(with_reducible exact p _ _ _)
   |(with_reducible exact s _ _ _ _ _ _ _)
   |(with_reducible exact z _ _ _ _)
   |(with_reducible exact LeO.refl _)
   |(with_reducible exact LeO.none _)
   |(with_reducible refine LeO.ite ?_ ?_)
   |(with_reducible refine LeO.bind ?_ (fun _=>?_))
   |exact p _ _ _
   |exact s _ _ _ _ _ _ _
   |exact z _ _ _ _
   |exact LeO.none _
   |refine LeO.ite ?_ ?_
   |refine LeO.bind ?_ (fun _=>?_)
theorem zV.mono:∀a0 a1 a2 k,LeO (zV.f k a0 a1 a2) (zV.f (k+1) a0 a1 a2):=by
 intro a0 a1 a2 k;obtain⟨p,r,s⟩:=zV.mono_l k;exact p a0 a1 a2
set_option maxHeartbeats 8000000 in
set_option maxRecDepth 100000 in
theorem zV.calls (k:Nat):∀(K:Int) (L:Option Addr) (M:Nat) (A:List Int) (Y:Option Addr) (O:Nat) (z:List (S56)) (r:Int) (w:World) (aF:Kd.C (Kd.int .i64) w L A.length A) (aG:A.length≤M) (aH:Kd.C k56 w Y z.length z) (aI:z.length≤O) (h:zV.f k K A z=some r),
  Calls Try.prog 70 #[.agg #[.int .i64 K,.slice L A.length M,.slice Y z.length O]] w fun e w'=>e=.returned (.int .i64 r)∧Below w.heap.size w w':=by
 induction k using Nat.strongRecOn with
 |_ k ih=>
 intro K L M A Y O z r w aF aG aH aI h
 cases k with
 |zero=>exact absurd h (by simp[zV.f])
 |succ k=>
 simp only[zV.f] at h;have hu56:=Try.underlying56;have aQ:=qA.mk aF;have c0:=qA.mk aG;clear aF aG;have b2:=qA.mk aH;have c1:=qA.mk aI;clear aH aI;have HB:=qA.mk (Below.refl w.heap.size w);have H:=h;clear h;have H':=qA.mk H;clear H;go_enter Try.func70,Try.ntmps70;go_wp2_with (first|((with_reducible refine qH (N:=1) rfl ?_);refine qG ?hg (N:=1) ?hd (cs:=#[.int .i64 K,.slice L A.length M,.slice Y z.length O]) (t:=56) ?hr ?_;(case hd=>rfl);(case hg=>rfl);(case hr=>exact byab);intro J hg w2 hbox hb;have n_:=q_4 (qB byac hb) (hbox) ((bycn:w.heap.size≤J)) ((bycn:w.heap.size≤J));clear HB;obtain⟨HB,B,cA,D⟩:=n_;clear hb hbox hg;obtain⟨bN,bO,bP,bQ,bR,bT⟩:=cz3 B.out));go_loopg [3,11] k (fun kq v3 cB w'=>∃(Z:Int) (p:Int),v3=.int .i64 Z∧cB=.int .i64 p∧qA (zV.l0 kq Z A (A.length:Int) p K A z=some r)∧qA (kq≤k)∧qA (w'.heap[J]? =some (.cells #[.int .i64 K,(.slice L A.length M),(.slice Y z.length O)] 56 (0,0)))∧qA (Below w.heap.size w w'));case atStart=>exact⟨(0),(0),byaf,byaf,H',⟨Nat.le_refl _⟩,⟨bq B⟩,⟨byae D⟩⟩
 case round=>
  clear H';obtain⟨Z,p,rfl,rfl,HA,HK1,B,HB⟩:=hrel
  cases gk with
  |zero=>exact absurd HA.out (by simp[zV.l0])
  |succ k1=>
   have H:=HA.out;clear HA;simp only[zV.l0] at H;by_cases c4:p<(A.length:Int)
   ·rw[if_pos c4] at H;have b6:=decide_eq_true c4;clear c4;by_cases c5:0≤p
    ·rw[if_pos c5] at H;have cJ:=decide_eq_true c5;clear c5;by_cases c6:p<(A.length:Int)
     ·rw[if_pos c6] at H;have cK:=decide_eq_true c6;clear c6;replace H:=Option.bind_eq_some_iff.mp H;obtain⟨b7,b8,H⟩:=H;(try dsimp only at H);have A7:=qA.mk b8;clear b8;by_cases c8:b7=true
      ·subst c8;rw[if_pos rfl] at H;by_cases c9:0≤(rd A p)
       ·rw[if_pos c9] at H;have cL:=eq_true c9;have cM:=decide_eq_true c9;clear c9;obtain⟨b9,T⟩:∃j_:Int,(shl .i64 1 (rd A p))=j_:=⟨_,rfl⟩;(first|rw[T] at H|(simp only[T] at H));(try rw[T] at A7);obtain⟨bU,bV,bW,bX,bY,bZ⟩:=jiA T;have H':=qA.mk H;clear H;have U:0≤(p:Int):=of_decide_eq_true byag;have X:p<(A.length:Int):=of_decide_eq_true byag;obtain⟨b3,aR,G⟩:=Kd.Qp aQ.out p U X
        cases aR
        replace G:=bc HB G;replace U:=eq_true U;replace X:=eq_true X;go_wp2_with (first|((with_reducible refine qC (f:=84) rfl ?_);refine qV (some 16) rfl rfl Try.func84 (by kernel_rfl) rfl #[.int .i64 (rd A p)] rfl byah ?_;(with_reducible refine(Zg.calls (rd A p) true _ A7.out).mono ?_);rintro e w' ⟨rfl,⟨nd,rfl⟩⟩;refine⟨_,rfl,?_⟩));go_roundg k1;case measure=>have:=HK1.out;omega
        case rel=>exact⟨(Go.bits .or .i64 Z (b9)),(wrap64 (p+1)),(by first|rfl|(simp;done)|(simp only[← T]<;>(first|rfl|simp))|(simp[*];done)),byaf,H',⟨byai⟩,⟨bq B⟩,⟨byae D⟩⟩
       ·rw[if_neg c9] at H;exact absurd H (by simp)
      ·replace c8:=Bool.eq_false_iff.mpr c8;subst c8;rw[if_neg (show¬(false=true) by decide)] at H;have H':=qA.mk H;clear H;have U:0≤(p:Int):=of_decide_eq_true byag;have X:p<(A.length:Int):=of_decide_eq_true byag;obtain⟨b3,aR,G⟩:=Kd.Qp aQ.out p U X
       cases aR
       replace G:=bc HB G;replace U:=eq_true U;replace X:=eq_true X;go_wp2_with (first|((with_reducible refine qC (f:=84) rfl ?_);refine qV (some 16) rfl rfl Try.func84 (by kernel_rfl) rfl #[.int .i64 (rd A p)] rfl byah ?_;(with_reducible refine(Zg.calls (rd A p) false _ A7.out).mono ?_);rintro e w' ⟨rfl,⟨nd,rfl⟩⟩;refine⟨_,rfl,?_⟩));go_roundg k1;case measure=>have:=HK1.out;omega
       case rel=>exact⟨(Z),(wrap64 (p+1)),byaf,byaf,H',⟨byai⟩,⟨bq B⟩,⟨byae D⟩⟩
     ·rw[if_neg c6] at H;exact absurd H (by simp)
    ·rw[if_neg c5] at H;exact absurd H (by simp)
   ·rw[if_neg c4] at H;have b6:=decide_eq_false c4;clear c4;have H':=qA.mk H;clear H;obtain⟨bA,bB,bC,bD,bE,bF⟩:=cz3 B.out;go_wp2;go_loopg [3,25] k1 (fun kq v3 cC w'=>∃(aK:Int) (s:Int),v3=.int .i64 aK∧cC=.int .i64 s∧qA (zV.l1 kq aK z (z.length:Int) s=some r)∧qA (kq≤k1)∧qA (w'.heap[J]? =some (.cells #[.int .i64 K,(.slice L A.length M),(.slice Y z.length O)] 56 (0,0)))∧qA (Below w.heap.size w w'));case atStart=>exact⟨(Z),(0),byaf,byaf,H',⟨Nat.le_refl _⟩,⟨bq B⟩,⟨byae D⟩⟩
    case round=>
     clear H';(try clear cN);(try clear G);obtain⟨aK,s,rfl,rfl,HA,HK2,B,HB⟩:=hrel
     cases gk with
     |zero=>exact absurd HA.out (by simp[zV.l1])
     |succ k2=>
      have H:=HA.out;clear HA;simp only[zV.l1] at H;by_cases aP:s<(z.length:Int)
      ·rw[if_pos aP] at H;have b4:=decide_eq_true aP;clear aP;by_cases aY:0≤s
       ·rw[if_pos aY] at H;have cD:=decide_eq_true aY;clear aY;by_cases aZ:s<(z.length:Int)
        ·rw[if_pos aZ] at H;have cE:=decide_eq_true aZ;clear aZ;replace H:=Option.bind_eq_some_iff.mp H;obtain⟨b0,b1,H⟩:=H;(try dsimp only at H);have cF:=qA.mk b1;clear b1;have H':=qA.mk H;clear H;have aS:0≤(s:Int):=of_decide_eq_true byag;have aT:s<(z.length:Int):=of_decide_eq_true byag;obtain⟨b5,aL,aM,aN,aO,bG,aA,aB,aC,aD,hi128_1,aE,hi128_2⟩:=Zq b2.out s aS aT
         cases bG
         replace aA:=bc HB aA;replace aB:=bc HB aB;replace aC:=bc HB aC;have aU:=qA.mk hi128_1;have aV:=qA.mk aD;clear hi128_1 aD;have aW:=qA.mk hi128_2;have aX:=qA.mk aE;clear hi128_2 aE;replace aS:=eq_true aS;replace aT:=eq_true aT;go_wp2_with (first|((with_reducible refine qH (N:=7) rfl ?_);refine qG ?hg (N:=7) ?hd (cs:=#[.int .i64 0,.slice none 0 0,.slice none 0 0]) (t:=56) ?hr ?_;(case hd=>rfl);(case hg=>rfl);(case hr=>exact byab);intro a7 hg cO hbox hb;have n_:=q_6 (bbl B hb) (qB (byae D) hb) (hbox) ((by rw[hg];exact(qI (byae D)):w.heap.size≤a7)) ((by rw[hg];exact(qI (byae D)):w.heap.size≤a7)) ((by rw[hg];exact Nat.ne_of_lt (bl B):J≠a7));clear B HB;obtain⟨B,HB,a8,cG,a9,I⟩:=n_;have aJ:=ns I;clear hb hbox hg;have cH:=aJ.out;have cI:=I.out;obtain⟨bH,bI,bJ,bK,bL,bM⟩:=cz3 a8.out)|((with_reducible refine qC (f:=70) rfl ?_);refine qV (some 31) rfl rfl Try.func70 (by kernel_rfl) rfl #[.agg #[.int .i64 ((qQ z s).f0),.slice aL ((qQ z s).f1).length aM,.slice aN ((qQ z s).f2).length aO]] rfl byah ?_;(with_reducible refine(ih k2 byar ((qQ z s).f0) _ _ ((qQ z s).f1) _ _ ((qQ z s).f2) b0 _ ?side1 ?side2 ?side3 ?side4 cF.out).mono ?_);(case side1=>exact Kd.vO aU.out (byaj D a9));(case side2=>exact aV.out);(case side3=>exact Kd.vO aW.out (byaj D a9));(case side4=>exact aX.out);rintro e cP ⟨rfl,hb⟩;refine⟨_,rfl,?_⟩;have n_:=q_3 (vC (g:=J) (o:=.cells #[.int .i64 K,.slice L A.length M,.slice (some b5) z.length O] 56 (0,0)) (byak I B) hb) (vC (g:=a7) (o:=.cells #[.int .i64 ((qQ z s).f0),.slice aL ((qQ z s).f1).length aM,.slice aN ((qQ z s).f2).length aO] 56 (0,0)) (bp a8) hb) (qB (byaj D a9) hb);clear B a8 HB;obtain⟨B,a8,HB⟩:=n_;clear hb));go_roundg k2;case measure=>have:=HK1.out;have:=HK2.out;omega
         case rel=>exact⟨(Go.bits .or .i64 aK b0),(wrap64 (s+1)),byaf,byaf,H',⟨byar⟩,⟨bq B⟩,⟨byaj D a9⟩⟩
        ·rw[if_neg aZ] at H;exact absurd H (by simp)
       ·rw[if_neg aY] at H;exact absurd H (by simp)
      ·rw[if_neg aP] at H;have b4:=decide_eq_false aP;clear aP;obtain rfl:=Option.some.inj H;go_wp2;go_ret;exact⟨byad,byae D⟩
end Go.Proofs.Ytkkbdimegpdbgaa.P
