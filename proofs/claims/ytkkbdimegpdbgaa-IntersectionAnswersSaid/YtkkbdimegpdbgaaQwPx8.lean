/- Walks: the calls answer as Lean functions say; conditions: each theorem's own. -/
import Derived.Test.YtkkbdimegpdbgaaQwPx6
namespace Go.Proofs.Ytkkbdimegpdbgaa.P
open Go.RowKit Go.Proofs.YtkkbdimegpdbgaaW.PrintWords Go.Proofs.YtkkbdimegpdbgaaW.PrintLast Go.Proofs.YtkkbdimegpdbgaaW.PrintMore
attribute [local go_sem] kK kM Qa Qb uV uU kN kL
set_option linter.unusedVariables false
set_option linter.unusedSimpArgs false
mutual
def qO.j0:Nat→Int→Int→Bool→List (S58)→Int→Int→List (S28)→Option (Bool)
 |0,_,_,_,_,_,_,_=>none
 |k+1,x2,x3,x9,r,z,s,p=>if z=1 then(if x9=true then((vM.f k r x2 x3).bind fun I=>(some I)) else(some false)) else(if z=2 then(if x9=true then((jG.f k r x2).bind fun J=>(some J)) else(some false)) else(if z=3 then(if(p.length:Int)=2 then((vT.f r).bind fun K=>((Ql.f (Go.bits .andNot .i64 (Go.bits .andNot .i64 K x2) x3) s).bind fun L=>(qO.j1 k x2 x3 (!L) r z s p))) else(qO.j1 k x2 x3 true r z s p)) else(some false)))
def qO.j1:Nat→Int→Int→Bool→List (S58)→Int→Int→List (S28)→Option (Bool)
 |0,_,_,_,_,_,_,_=>none
 |k+1,x2,x3,T,r,z,s,p=>if T=true then(some false) else(if 0<(p.length:Int) then(if 0≤s then((qO.f k r ((qN p 0).f0) ((qN p 0).f1) ((qN p 0).f2) x2 (Go.bits .or .i64 x3 (shl .i64 1 s))).bind fun M=>(if M=true then(if 1<(p.length:Int) then((qO.f k r ((qN p 1).f0) ((qN p 1).f1) ((qN p 1).f2) (Go.bits .or .i64 x2 (shl .i64 1 s)) x3).bind fun O=>(some O)) else(none)) else(some false))) else(none)) else(none))
def qO.f:Nat→List (S58)→Int→Int→List (S28)→Int→Int→Option (Bool)
 |0,_,_,_,_,_,_=>none
 |k+1,D,G,A,B,a2,a3=>if A=0 then(qO.j0 k a2 a3 ((B.length:Int)==0) D G A B) else(qO.j0 k a2 a3 false D G A B)
end
theorem qO.mono_l:∀k,(∀y0 y1 y2 y3 y4 y5,LeO (qO.f k y0 y1 y2 y3 y4 y5) (qO.f (k+1) y0 y1 y2 y3 y4 y5))∧(∀y0 y1 y2 y3 y4 y5 y6,LeO (qO.j0 k y0 y1 y2 y3 y4 y5 y6) (qO.j0 (k+1) y0 y1 y2 y3 y4 y5 y6))∧(∀y0 y1 y2 y3 y4 y5 y6,LeO (qO.j1 k y0 y1 y2 y3 y4 y5 y6) (qO.j1 (k+1) y0 y1 y2 y3 y4 y5 y6))
 |0=>⟨fun _ _ _ _ _ _ r h=>by simp[qO.f] at h,fun _ _ _ _ _ _ _ r h=>by simp[qO.j0] at h,fun _ _ _ _ _ _ _ r h=>by simp[qO.j1] at h⟩
 |k+1=>by
  obtain⟨p,s,z⟩:=qO.mono_l k;refine⟨?_,?_,?_⟩
  ·intro y0 y1 y2 y3 y4 y5;unfold qO.f;repeat' first
   |(with_reducible exact p _ _ _ _ _ _)
   |(with_reducible exact s _ _ _ _ _ _ _)
   |(with_reducible exact z _ _ _ _ _ _ _)
   |(with_reducible exact jG.mono _ _ _)
   |(with_reducible exact vM.mono _ _ _ _)
   |(with_reducible exact LeO.refl _)
   |(with_reducible exact LeO.none _)
   |(with_reducible refine LeO.ite ?_ ?_)
   |(with_reducible refine LeO.bind ?_ (fun _=>?_))
   |exact p _ _ _ _ _ _
   |exact s _ _ _ _ _ _ _
   |exact z _ _ _ _ _ _ _
   |exact jG.mono _ _ _
   |exact vM.mono _ _ _ _
   |exact LeO.none _
   |refine LeO.ite ?_ ?_
   |refine LeO.bind ?_ (fun _=>?_)
  ·intro y0 y1 y2 y3 y4 y5 y6;unfold qO.j0;repeat' first
   |(with_reducible exact p _ _ _ _ _ _)
   |(with_reducible exact s _ _ _ _ _ _ _)
   |(with_reducible exact z _ _ _ _ _ _ _)
   |(with_reducible exact jG.mono _ _ _)
   |(with_reducible exact vM.mono _ _ _ _)
   |(with_reducible exact LeO.refl _)
   |(with_reducible exact LeO.none _)
   |(with_reducible refine LeO.ite ?_ ?_)
   |(with_reducible refine LeO.bind ?_ (fun _=>?_))
   |exact p _ _ _ _ _ _
   |exact s _ _ _ _ _ _ _
   |exact z _ _ _ _ _ _ _
   |exact jG.mono _ _ _
   |exact vM.mono _ _ _ _
   |exact LeO.none _
   |refine LeO.ite ?_ ?_
   |refine LeO.bind ?_ (fun _=>?_)
  ·intro y0 y1 y2 y3 y4 y5 y6;unfold qO.j1;repeat' first
   |(with_reducible exact p _ _ _ _ _ _)
   |(with_reducible exact s _ _ _ _ _ _ _)
   |(with_reducible exact z _ _ _ _ _ _ _)
   |(with_reducible exact jG.mono _ _ _)
   |(with_reducible exact vM.mono _ _ _ _)
   |(with_reducible exact LeO.refl _)
   |(with_reducible exact LeO.none _)
   |(with_reducible refine LeO.ite ?_ ?_)
   |(with_reducible refine LeO.bind ?_ (fun _=>?_))
   |exact p _ _ _ _ _ _
   |exact s _ _ _ _ _ _ _
   |exact z _ _ _ _ _ _ _
   |exact jG.mono _ _ _
   |exact vM.mono _ _ _ _
   |exact LeO.none _
   |refine LeO.ite ?_ ?_
   |refine LeO.bind ?_ (fun _=>?_)
theorem qO.mono:∀a0 a1 a2 a3 a4 a5 k,LeO (qO.f k a0 a1 a2 a3 a4 a5) (qO.f (k+1) a0 a1 a2 a3 a4 a5):=by
 intro a0 a1 a2 a3 a4 a5 k;obtain⟨p,r,s⟩:=qO.mono_l k;exact p a0 a1 a2 a3 a4 a5
def qO.T8:Bool × List (List Nat × List Nat):=(true,[([],[]),([0],[0]),([1],[1]),([2],[2]),([3],[3]),([4],[4]),([5,4,4],[4,5]),([4],[4]),([6,7,4],[4,6,7]),([4],[4]),([8,9,4],[4,8,9]),([4],[4]),([11,4],[4,11]),([10,12,6,4],[4,10,12]),([13,4],[4,13]),([4,14],[4,14])])
def qO.B8:List Nat:=[0,1,3,7,15,31,63,31,255,31,1023,31,2079,8191,16383,32767]
theorem qO.tab8:rtab .any (opsOf Try.f41 8)=qO.T8:=by kernel_rfl
theorem qO.bits8:Q9 qO.T8.2 qO.B8=true:=by kernel_rfl
def qO.T10:Bool × List (List Nat × List Nat):=(true,[([],[]),([],[]),([1],[1]),([2],[2]),([3],[3]),([],[]),([],[]),([],[]),([7],[7]),([8],[8]),([6,9],[6,9]),([0,4,5,10],[0,4,5,10]),([11,11],[11]),([12],[12]),([12],[12]),([14,12],[12,14]),([15,12],[12,15]),([16,12],[12,16]),([12],[12]),([12],[12]),([19,12],[12,19]),([20,12],[12,20]),([18,21,12],[12,18,21]),([12],[12]),([13,17,22,23,12,12],[12,13,17,22,23]),([12,24],[12,24]),([25,24,0,1,2,3,4,5,6,7,8,9,10,11,12,13,14,15,16,17,18,19,20,21,22,23,24,25],[25])])
def qO.B10:List Nat:=[0,0,2,6,14,0,0,0,128,384,960,2047,4095,8191,8191,24575,57343,122879,8191,8191,532479,1581055,3940351,8191,16777215,33554431,67108863]
theorem qO.tab10:rtab .any (opsOf Try.f41 10)=qO.T10:=by kernel_rfl
theorem qO.bits10:Q9 qO.T10.2 qO.B10=true:=by kernel_rfl
set_option maxHeartbeats 8000000 in
set_option maxRecDepth 100000 in
theorem qO.calls (k:Nat):∀(a8:Option Addr) (a9:Nat) (M:List (S58)) (X:Int) (U:Int) (aI:Option Addr) (aD:Nat) (z:List (S28)) (a2:Int) (a3:Int) (r:Bool) (w:World) (aT:Kd.C k58 w a8 M.length M) (aU:M.length≤a9) (aV:Kd.C k28 w aI z.length z) (aW:z.length≤aD) (h:qO.f k M X U z a2 a3=some r),
  Calls Try.prog 41 #[.agg #[.slice a8 M.length a9],.agg #[.int .i64 X,.int .i64 U,.slice aI z.length aD],.int .i64 a2,.int .i64 a3] w fun e w'=>e=.returned (.bool r)∧Below w.heap.size w w':=by
 induction k using Nat.strongRecOn with
 |_ k ih=>
 intro a8 a9 M X U aI aD z a2 a3 r w aT aU aV aW h
 cases k with
 |zero=>exact absurd h (by simp[qO.f])
 |succ k=>
 simp only[qO.f] at h;have hu25:=Try.underlying25;have hu28:=Try.underlying28;have aG:=qA.mk aT;have aH:=qA.mk aU;clear aT aU;have aX:=qA.mk aV;have e3:=qA.mk aW;clear aV aW;have HB:=qA.mk (Below.refl w.heap.size w);have H:=h;clear h;have bR:=qA.mk H;clear H;go_enter Try.func41,Try.ntmps41;go_upto_region 1 with(first|((with_reducible refine qH (N:=4) rfl ?_);(try(refine uS (by rfl) ?_;dsimp only));refine qG ?hg (N:=4) ?hd (cs:=#[.slice a8 M.length a9]) (t:=25) ?hr ?_;(case hd=>rfl);(case hg=>rfl);(case hr=>exact byab);intro aA hg w6 hbox hb;have n_:=q_4 (qB byac hb) (hbox) ((bycn:w.heap.size≤aA)) ((bycn:w.heap.size≤aA));clear HB;obtain⟨HB,s,e4,G⟩:=n_;clear hb hbox hg)|((with_reducible refine qH (N:=5) rfl ?_);(try(refine uS (by rfl) ?_;dsimp only));refine qG ?hg (N:=5) ?hd (cs:=#[.int .i64 X,.int .i64 U,.slice aI z.length aD]) (t:=28) ?hr ?_;(case hd=>rfl);(case hg=>rfl);(case hr=>exact byab);intro O hg w7 hbox hb;have n_:=q_6 (bbl s hb) (qB (byae G) hb) (hbox) ((by rw[hg];exact(qI (byae G)):w.heap.size≤O)) ((by rw[hg];exact(qI (byae G)):w.heap.size≤O)) ((by rw[hg];exact Nat.ne_of_lt (bl s):aA≠O));clear s HB;obtain⟨s,HB,p,e5,L,J⟩:=n_;have T:=ns J;clear hb hbox hg))
 (try simp only[Act.put,List.setIfInBounds_toArray,List.set_cons_zero,List.set_cons_succ]);go_cut[9] (fun v9 wc=>∃(kq:Nat) (aP:Bool),v9=.bool aP∧qA (qO.j0 kq a2 a3 aP M X U z=some r)∧qA (kq≤k)∧qA (wc.heap[aA]? =some (.cells #[(.slice a8 M.length a9)] 25 (0,0)))∧qA (wc.heap[O]? =some (.cells #[.int .i64 X,.int .i64 U,(.slice aI z.length aD)] 28 (0,0)))∧qA (Below w.heap.size w wc));case first=>
  have H:=bR.out;clear bR;by_cases c8:U=0
  ·rw[if_pos c8] at H;obtain⟨aQ,cA⟩:=eqT c8;clear c8;(first|rw[aQ]|(simp only[Qo,Qw];rw[aQ])|skip);have H':=qA.mk H;clear H;have eX:=T.out;have eY:=J.out;obtain⟨cB,cC,cD,cE,cF,cG⟩:=cz3 p.out;go_wp2;go_meet;case rel=>exact⟨_,(((z.length:Int)==0)),byaf,H',⟨byap⟩,⟨bq s⟩,⟨bq p⟩,⟨byaj G L⟩⟩
  ·rw[if_neg c8] at H;obtain⟨aQ,cA⟩:=eqF c8;(first|rw[aQ]|(simp only[Qo,Qw];rw[aQ])|skip);have H':=qA.mk H;clear H;have e6:=T.out;have e7:=J.out;obtain⟨cH,cI,cJ,cK,cL,cM⟩:=cz3 p.out;go_wp2;go_meet;case rel=>exact⟨_,(false),byaf,H',⟨byap⟩,⟨bq s⟩,⟨bq p⟩,⟨byaj G L⟩⟩
 case rest=>
  clear bR;obtain⟨kq,aP,rfl,HA,b0,s,p,HB⟩:=hcut
  cases kq with
  |zero=>exact absurd HA.out (by simp[qO.j0])
  |succ bT=>
   have H:=HA.out;clear HA;simp only[qO.j0] at H;by_cases b1:X=1
   ·rw[if_pos b1] at H;obtain⟨bU,bV⟩:=eqT b1;clear b1;by_cases bE:aP=true
    ·subst bE;rw[if_pos rfl] at H;replace H:=Option.bind_eq_some_iff.mp H;obtain⟨cN,bK,H⟩:=H;(try dsimp only at H);have e8:=qA.mk bK;clear bK;obtain rfl:=Option.some.inj H;have e9:=T.out;have eA:=J.out;obtain⟨cO,cP,cQ,cR,cS,cT⟩:=cz3 p.out;obtain⟨cU,cV⟩:=cz1 s.out;go_wp2_with (first|(go_at_call 59;(with_reducible refine(vM.calls bT _ _ M a2 a3 cN _ ?side1 ?side2 e8.out).mono ?_);(case side1=>exact byaq aG);(case side2=>exact aH.out);rintro e eZ ⟨rfl,hb⟩;have n_:=q_3 (bbl s hb) (bbl p hb) (qB (byaj G L) hb);clear s p HB;obtain⟨s,p,HB⟩:=n_;clear hb));go_ret;exact⟨byad,byaj G L⟩
    ·replace bE:=Bool.eq_false_iff.mpr bE;subst bE;rw[if_neg (show¬(false=true) by decide)] at H;obtain rfl:=Option.some.inj H;have eB:=T.out;have eC:=J.out;obtain⟨cW,cX,cY,cZ,d0,d1⟩:=cz3 p.out;go_wp2;go_ret;exact⟨byad,byaj G L⟩
   ·rw[if_neg b1] at H;obtain⟨bU,bV⟩:=eqF b1;by_cases b2:X=2
    ·rw[if_pos b2] at H;obtain⟨bW,bX⟩:=eqT b2;clear b2;by_cases bF:aP=true
     ·subst bF;rw[if_pos rfl] at H;replace H:=Option.bind_eq_some_iff.mp H;obtain⟨d2,bL,H⟩:=H;(try dsimp only at H);have eD:=qA.mk bL;clear bL;obtain rfl:=Option.some.inj H;have eE:=T.out;have eF:=J.out;obtain⟨d3,d4,d5,d6,d7,d8⟩:=cz3 p.out;obtain⟨d9,dA⟩:=cz1 s.out;go_wp2_with (first|(go_at_call 60;(with_reducible refine(jG.calls bT _ _ M a2 d2 _ ?side1 ?side2 eD.out).mono ?_);(case side1=>exact byaq aG);(case side2=>exact aH.out);rintro e f3 ⟨rfl,hb⟩;have n_:=q_3 (bbl s hb) (bbl p hb) (qB (byaj G L) hb);clear s p HB;obtain⟨s,p,HB⟩:=n_;clear hb));go_ret;exact⟨byad,byaj G L⟩
     ·replace bF:=Bool.eq_false_iff.mpr bF;subst bF;rw[if_neg (show¬(false=true) by decide)] at H;obtain rfl:=Option.some.inj H;have eG:=T.out;have eH:=J.out;obtain⟨dB,dC,dD,dE,dF,dG⟩:=cz3 p.out;go_wp2;go_ret;exact⟨byad,byaj G L⟩
    ·rw[if_neg b2] at H;obtain⟨bW,bX⟩:=eqF b2;by_cases b3:X=3
     ·rw[if_pos b3] at H;obtain⟨bY,bZ⟩:=eqT b3;clear b3;have b4:=qA.mk H;clear H;have eI:=T.out;have eJ:=J.out;obtain⟨dH,dI,dJ,dK,dL,dM⟩:=cz3 p.out;go_upto_region 8 with(fail)
      go_cut[55] (fun eK wc=>∃(kq:Nat) (aJ:Bool),eK=.bool aJ∧qA (qO.j1 kq a2 a3 aJ M X U z=some r)∧qA (kq≤bT)∧qA (wc.heap[aA]? =some (.cells #[(.slice a8 M.length a9)] 25 (0,0)))∧qA (wc.heap[O]? =some (.cells #[.int .i64 X,.int .i64 U,(.slice aI z.length aD)] 28 (0,0)))∧qA (Below w.heap.size w wc));case first=>
       have H:=b4.out;clear b4;by_cases b5:(z.length:Int)=2
       ·rw[if_pos b5] at H;obtain⟨aK,c0⟩:=eqT b5;clear b5;(first|rw[aK]|(simp only[Qo,Qw];rw[aK])|skip);replace H:=Option.bind_eq_some_iff.mp H;obtain⟨b6,bM,H⟩:=H;(try dsimp only at H);have eL:=qA.mk bM;clear bM;replace H:=Option.bind_eq_some_iff.mp H;obtain⟨bN,bO,H⟩:=H;(try dsimp only at H);have eM:=qA.mk bO;clear bO;have H':=qA.mk H;clear H;(try go_wp2);have n_:=q_3 (zK s.out) (zK p.out) (jC HB.out);clear s p HB;obtain⟨s,p,HB⟩:=n_;refine kX (n:=16) (S:=fun w'=>w'.cell? ⟨O,0,none⟩=some (.int .i64 X)∧w'.cell? ⟨O,1,none⟩=some (.int .i64 U)∧w'.cell? ⟨O,2,none⟩=some (.slice aI z.length aD)∧w'.cell? ⟨aA,0,none⟩=some (.slice a8 M.length a9)) (ds:=[]) (bb 16 0) (by kernel_rfl) rfl rfl ⟨(qF p.out 0).trans rfl,(qF p.out 1).trans rfl,(qF p.out 2).trans rfl,(qF s.out 0).trans rfl⟩ (fun hHeld=>?_);refine uY qO.tab8 qO.bits8 (fun HT_ HW_=>?_);generalize wc.drew=f4 at s p HB hHeld ⊢
        refine qM (i:=0) (N:=some 40) (bb 16 1) ?_;refine Zo (i:=1) (N:=some 41) (bb 16 3) hHeld ?_;refine qM (i:=2) (N:=some 42) (bb 16 7) ?_;refine qM (i:=3) (N:=some 43) (bb 16 15) ?_;refine qM (i:=4) (N:=some 44) (bb 16 31) ?_;refine qM (i:=7) (N:=some 47) (bb 16 159) ?_;refine qM (i:=9) (N:=some 49) (bb 16 671) ?_;refine qM (i:=11) (N:=some 51) (bb 16 2719) ?_;refine Zo (i:=5) (N:=some 45) (bb 16 2751) hHeld ?_;refine Zo (i:=12) (N:=some 52) (bb 16 6847) hHeld ?_;refine one_ (i:=6) (N:=some 46) (bb 16 6911) rfl rfl (uM HT_.out (by kernel_rfl)) (by decide) (fun K hK=>?_);refine kS Try.func53 (by kernel_rfl) rfl #[.agg #[.slice a8 M.length a9]] (by rfl) rfl rfl byah ?_;with_reducible refine(vT.calls _ _ M b6 _ ?side1 ?side2 eL.out).mono ?_
        (case side1=>exact byaq aG);(case side2=>exact aH.out);rintro e f5 ⟨rfl,hb⟩;refine⟨_,rfl,?_⟩;have n_:=q_3 (bbl s hb) (bbl p hb) (qB (byaj G L) hb);clear s p HB;obtain⟨s,p,HB⟩:=n_;(try clear hb);(try clear hb2);(try clear hk);(try clear hi);refine hK.out _ _ ⟨(qF p.out 0).trans rfl,(qF p.out 1).trans rfl,(qF p.out 2).trans rfl,(qF s.out 0).trans rfl⟩ (fun hHeld=>?_);clear hK K;refine uZ (N:=some 46) ?_;refine qM (i:=8) (N:=some 48) (bb 16 7167) ?_;refine qM (i:=10) (N:=some 50) (bb 16 8191) ?_;refine one_ (i:=13) (N:=some 53) (bb 16 16383) rfl rfl (uM HT_.out (by kernel_rfl)) (by decide) (fun K hK=>?_);refine kS Try.func62 (by kernel_rfl) rfl #[.int .i64 (Go.bits .andNot .i64 (Go.bits .andNot .i64 b6 a2) a3),.int .i64 U] (by rfl) rfl rfl byah ?_;with_reducible refine(Ql.calls (Go.bits .andNot .i64 (Go.bits .andNot .i64 b6 a2) a3) U bN _ eM.out).mono ?_
        rintro e w' ⟨rfl,⟨nd,rfl⟩⟩;refine⟨_,rfl,?_⟩;refine hK.out _ _ ⟨(qF p.out 0).trans rfl,(qF p.out 1).trans rfl,(qF p.out 2).trans rfl,(qF s.out 0).trans rfl⟩ (fun hHeld=>?_);clear hK K;refine uZ (N:=some 53) ?_;refine qM (i:=14) (N:=some 54) (bb 16 32767) ?_;refine qM (i:=15) (N:=some 55) (bb 16 65535) ?_;refine Qv (Qd HT_.out (by kernel_rfl)) ?_;(try go_wp2);go_meet;case rel=>exact⟨_,(!bN),byaf,H',⟨by have:=b0.out;first|omega|exact Nat.le_refl _⟩,⟨bq s⟩,⟨bq p⟩,⟨byaj G L⟩⟩
       ·rw[if_neg b5] at H;obtain⟨aK,c0⟩:=eqF b5;(first|rw[aK]|(simp only[Qo,Qw];rw[aK])|skip);have H':=qA.mk H;clear H;(try go_wp2);have n_:=q_3 (zK s.out) (zK p.out) (jC HB.out);clear s p HB;obtain⟨s,p,HB⟩:=n_;refine kX (n:=16) (S:=fun w'=>w'.cell? ⟨O,0,none⟩=some (.int .i64 X)∧w'.cell? ⟨O,1,none⟩=some (.int .i64 U)∧w'.cell? ⟨O,2,none⟩=some (.slice aI z.length aD)) (ds:=[]) (bb 16 0) (by kernel_rfl) rfl rfl (cv3 p.out) (fun hHeld=>?_);refine uY qO.tab8 qO.bits8 (fun HT_ HW_=>?_);generalize wc.drew=f6 at s p HB hHeld ⊢
        refine qM (i:=0) (N:=some 40) (bb 16 1) ?_;refine takeZE (i:=1) (N:=some 41) (bb 16 3) hHeld ?_;refine qM (i:=2) (N:=some 42) (bb 16 7) ?_;refine qM (i:=3) (N:=some 43) (bb 16 15) ?_;refine qM (i:=4) (N:=some 44) (bb 16 31) ?_;refine uK (i:=5) (N:=some 45) (bb 16 63) ?_;refine uK (i:=6) (N:=some 46) (bb 16 127) ?_;refine uK (i:=7) (N:=some 47) (bb 16 255) ?_;refine uK (i:=8) (N:=some 48) (bb 16 511) ?_;refine uK (i:=9) (N:=some 49) (bb 16 1023) ?_;refine uK (i:=10) (N:=some 50) (bb 16 2047) ?_;refine uK (i:=11) (N:=some 51) (bb 16 4095) ?_;refine uK (i:=12) (N:=some 52) (bb 16 8191) ?_;refine uK (i:=13) (N:=some 53) (bb 16 16383) ?_;refine uK (i:=14) (N:=some 54) (bb 16 32767) ?_;refine qM (i:=15) (N:=some 55) (bb 16 65535) ?_;refine Qv (Qd HT_.out (by kernel_rfl)) ?_;(try go_wp2);go_meet;case rel=>exact⟨_,(true),byaf,H',⟨by have:=b0.out;first|omega|exact Nat.le_refl _⟩,⟨bq s⟩,⟨bq p⟩,⟨byaj G L⟩⟩
      case rest=>
       clear b4;obtain⟨kq,aJ,rfl,HA,b7,s,p,HB⟩:=hcut
       cases kq with
       |zero=>exact absurd HA.out (by simp[qO.j1])
       |succ b8=>
        have H:=HA.out;clear HA;simp only[qO.j1] at H;by_cases bG:aJ=true
        ·subst bG;rw[if_pos rfl] at H;obtain rfl:=Option.some.inj H;go_wp2;go_ret;exact⟨byad,byaj G L⟩
        ·replace bG:=Bool.eq_false_iff.mpr bG;subst bG;rw[if_neg (show¬(false=true) by decide)] at H;by_cases bH:0<(z.length:Int)
         ·rw[if_pos bH] at H;have eN:=decide_eq_true bH;have eO:decide (0<z.length)=true:=decide_eq_true (by omega);clear bH;by_cases b9:0≤U
          ·rw[if_pos b9] at H;have eP:=eq_true b9;have eQ:=decide_eq_true b9;clear b9;obtain⟨aO,hji44⟩:∃j_:Int,(shl .i64 1 U)=j_:=⟨_,rfl⟩;(first|rw[hji44] at H|(simp only[hji44] at H));obtain⟨dX,dY,dZ,e0,e1,e2⟩:=jiA hji44;replace H:=Option.bind_eq_some_iff.mp H;obtain⟨dN,bP,H⟩:=H;(try dsimp only at H);have dO:=qA.mk bP;clear bP;by_cases bI:dN=true
           ·subst bI;rw[if_pos rfl] at H;by_cases bJ:1<(z.length:Int)
            ·rw[if_pos bJ] at H;have eR:=decide_eq_true bJ;have eS:decide (1<z.length)=true:=decide_eq_true (by omega);clear bJ;have eT:=eq_true (of_decide_eq_true byag:0≤U);replace H:=Option.bind_eq_some_iff.mp H;obtain⟨dP,bQ,H⟩:=H;(try dsimp only at H);have eU:=qA.mk bQ;clear bQ;obtain rfl:=Option.some.inj H;(try go_wp2);have n_:=q_3 (zK s.out) (zK p.out) (jC HB.out);clear s p HB;obtain⟨s,p,HB⟩:=n_;have aL:0≤(0:Int):=(by omega);have aM:0<(z.length:Int):=of_decide_eq_true byag;obtain⟨I,aE,aF,bA,A,B,D,aB,hi254_2⟩:=at_T28 aX.out 0 aL aM;have hw254_2:=D;(try rw[show((0:Int)).toNat=0 from rfl] at hw254_2);(try rw[show 0*3=0 from rfl] at hw254_2);(try rw[Addr.add_zero'] at hw254_2);have hw254_1:=B;(try rw[show((0:Int)).toNat=0 from rfl] at hw254_1);(try rw[show 0*3=0 from rfl] at hw254_1);(try rw[Addr.add_zero'] at hw254_1);have hw254_0:=A;(try rw[show((0:Int)).toNat=0 from rfl] at hw254_0);(try rw[show 0*3=0 from rfl] at hw254_0);(try rw[Addr.add_zero'] at hw254_0)
             cases bA
             have qi254:(0<z.length)=True:=eq_true (by omega);(try rw[show((0:Int)).toNat=0 from rfl] at A);(try rw[show 0*3=0 from rfl] at A);(try rw[Addr.add_zero'] at A);(try rw[show((0:Int)).toNat=0 from rfl] at B);(try rw[show 0*3=0 from rfl] at B);(try rw[Addr.add_zero'] at B);(try rw[show((0:Int)).toNat=0 from rfl] at D);(try rw[show 0*3=0 from rfl] at D);(try rw[Addr.add_zero'] at D);replace A:=bc HB A;replace B:=bc HB B;replace D:=bc HB D;have aC:=qA.mk hi254_2;have aN:=qA.mk aB;clear hi254_2 aB;replace aL:=eq_true aL;replace aM:=eq_true aM;have bB:0≤(1:Int):=(by omega);have bC:1<(z.length:Int):=of_decide_eq_true byag;obtain⟨c1,aY,aZ,dQ,Y,Z,a7,aR,hi256_2⟩:=at_T28 aX.out 1 bB bC;have hw256_2:=a7;(try rw[show((1:Int)).toNat=1 from rfl] at hw256_2);(try rw[show 1*3=3 from rfl] at hw256_2);(try simp only[Nat.reduceMul,Nat.reduceEqDiff,Go.Addr.add,↓reduceIte] at hw256_2);have hw256_1:=Z;(try rw[show((1:Int)).toNat=1 from rfl] at hw256_1);(try rw[show 1*3=3 from rfl] at hw256_1);(try simp only[Nat.reduceMul,Nat.reduceEqDiff,Go.Addr.add,↓reduceIte] at hw256_1);have hw256_0:=Y;(try rw[show((1:Int)).toNat=1 from rfl] at hw256_0);(try rw[show 1*3=3 from rfl] at hw256_0);(try simp only[Nat.reduceMul,Nat.reduceEqDiff,Go.Addr.add,↓reduceIte] at hw256_0);obtain rfl:I=c1:=(by injection dQ);(try simp only[show(1:Int).toNat=1 from rfl,Nat.reduceMul,Nat.reduceEqDiff,Go.Addr.add,↓reduceIte] at Y);(try simp only[show(1:Int).toNat=1 from rfl,Nat.reduceMul,Nat.reduceEqDiff,Go.Addr.add,↓reduceIte] at Z);(try simp only[show(1:Int).toNat=1 from rfl,Nat.reduceMul,Nat.reduceEqDiff,Go.Addr.add,↓reduceIte] at a7);have qi256:(1<z.length)=True:=eq_true (by omega);(try rw[show((1:Int)).toNat=1 from rfl] at Y);(try rw[show 1*3=3 from rfl] at Y);(try rw[show((1:Int)).toNat=1 from rfl] at Z);(try rw[show 1*3=3 from rfl] at Z);(try rw[show((1:Int)).toNat=1 from rfl] at a7);(try rw[show 1*3=3 from rfl] at a7);replace Y:=bc HB Y;replace Z:=bc HB Z;replace a7:=bc HB a7;have aS:=qA.mk hi256_2;have bD:=qA.mk aR;clear hi256_2 aR;replace bB:=eq_true bB;replace bC:=eq_true bC;refine kX (n:=27) (S:=fun w'=>w'.cell? ⟨aA,0,none⟩=some (.slice a8 M.length a9)∧w'.cell? ⟨O,0,none⟩=some (.int .i64 X)∧w'.cell? ⟨O,1,none⟩=some (.int .i64 U)∧w'.cell? ⟨O,2,none⟩=some (.slice (some I) z.length aD)∧w'.cell? I=some (.int .i64 ((qN z 0).f0))∧w'.cell? ⟨I.block,I.off+1,none⟩=some (.int .i64 ((qN z 0).f1))∧w'.cell? ⟨I.block,I.off+2,none⟩=some (.slice aE ((qN z 0).f2).length aF)∧w'.cell? ⟨I.block,I.off+3,none⟩=some (.int .i64 ((qN z 1).f0))∧w'.cell? ⟨I.block,I.off+3+1,none⟩=some (.int .i64 ((qN z 1).f1))∧w'.cell? ⟨I.block,I.off+3+2,none⟩=some (.slice aY ((qN z 1).f2).length aZ)) (ds:=[]) (bb 27 0) (by kernel_rfl) rfl rfl ⟨(qF s.out 0).trans rfl,(qF p.out 0).trans rfl,(qF p.out 1).trans rfl,(qF p.out 2).trans rfl,(bc HB hw254_0),(bc HB hw254_1),(bc HB hw254_2),(bc HB hw256_0),(bc HB hw256_1),(bc HB hw256_2)⟩ (fun hHeld=>?_);refine uY qO.tab10 qO.bits10 (fun HT_ HW_=>?_);generalize wc.drew=f7 at s p HB aC aS A B D Y Z a7 hHeld ⊢
             refine qM (i:=1) (N:=some 57) (bb 27 2) ?_;refine qM (i:=5) (N:=some 61) (bb 27 34) ?_;refine qM (i:=6) (N:=some 62) (bb 27 98) ?_;refine qM (i:=7) (N:=some 63) (bb 27 226) ?_;refine Jd (i:=0) (N:=some 56) (bb 27 227) hHeld ?_;refine Jd (i:=2) (N:=some 58) (bb 27 231) hHeld ?_;refine qM (i:=3) (N:=some 59) (bb 27 239) ?_;refine Jd (i:=4) (N:=some 60) (bb 27 255) hHeld ?_;refine Jd (i:=8) (N:=some 64) (bb 27 511) hHeld ?_;refine qM (i:=9) (N:=some 65) (bb 27 1023) ?_;refine qM (i:=10) (N:=some 66) (bb 27 2047) ?_;refine one_ (i:=11) (N:=some 67) (bb 27 4095) rfl rfl (uM HT_.out (by kernel_rfl)) (by decide) (fun K hK=>?_);refine kS Try.func41 (by kernel_rfl) rfl #[.agg #[.slice a8 M.length a9],.agg #[.int .i64 ((qN z 0).f0),.int .i64 ((qN z 0).f1),.slice aE ((qN z 0).f2).length aF],.int .i64 a2,.int .i64 (Go.bits .or .i64 a3 (aO))] (by rfl) rfl rfl byay ?_;with_reducible refine(ih b8 (by have:=b0.out;have:=b7.out;omega) _ _ M ((qN z 0).f0) ((qN z 0).f1) _ _ ((qN z 0).f2) a2 (Go.bits .or .i64 a3 (aO)) true _ ?side1 ?side2 ?side3 ?side4 dO.out).mono ?_
             (case side1=>exact byaq aG);(case side2=>exact aH.out);(case side3=>exact byaq aC);(case side4=>exact aN.out);rintro e f8 ⟨rfl,hb⟩;refine⟨_,rfl,?_⟩;have n_:=q_3 (bbl s hb) (bbl p hb) (qB (byaj G L) hb);clear s p HB;obtain⟨s,p,HB⟩:=n_;(try clear hb);(try clear hb2);(try clear hk);(try clear hi);refine hK.out _ _ ⟨(qF s.out 0).trans rfl,(qF p.out 0).trans rfl,(qF p.out 1).trans rfl,(qF p.out 2).trans rfl,(bc HB hw254_0),(bc HB hw254_1),(bc HB hw254_2),(bc HB hw256_0),(bc HB hw256_1),(bc HB hw256_2)⟩ (fun hHeld=>?_);clear hK K;refine uZ (N:=some 67) ?_;refine qM (i:=12) (N:=some 68) (bb 27 8191) ?_;refine qM (i:=14) (N:=some 70) (bb 27 24575) ?_;refine qM (i:=18) (N:=some 74) (bb 27 286719) ?_;refine qM (i:=19) (N:=some 75) (bb 27 811007) ?_;refine qM (i:=23) (N:=some 79) (bb 27 9199615) ?_;refine Jd (i:=13) (N:=some 69) (bb 27 9207807) hHeld ?_;refine Jd (i:=15) (N:=some 71) (bb 27 9240575) hHeld ?_;refine qM (i:=16) (N:=some 72) (bb 27 9306111) ?_;refine Jd (i:=17) (N:=some 73) (bb 27 9437183) hHeld ?_;refine Jd (i:=20) (N:=some 76) (bb 27 10485759) hHeld ?_;refine qM (i:=21) (N:=some 77) (bb 27 12582911) ?_;refine qM (i:=22) (N:=some 78) (bb 27 16777215) ?_;refine one_ (i:=24) (N:=some 80) (bb 27 33554431) rfl rfl (uM HT_.out (by kernel_rfl)) (by decide) (fun K hK=>?_);refine kS Try.func41 (by kernel_rfl) rfl #[.agg #[.slice a8 M.length a9],.agg #[.int .i64 ((qN z 1).f0),.int .i64 ((qN z 1).f1),.slice aY ((qN z 1).f2).length aZ],.int .i64 (Go.bits .or .i64 a2 (aO)),.int .i64 a3] (by rfl) rfl rfl byay ?_;with_reducible refine(ih b8 (by have:=b0.out;have:=b7.out;omega) _ _ M ((qN z 1).f0) ((qN z 1).f1) _ _ ((qN z 1).f2) (Go.bits .or .i64 a2 (aO)) a3 dP _ ?side1 ?side2 ?side3 ?side4 eU.out).mono ?_
             (case side1=>exact byaq aG);(case side2=>exact aH.out);(case side3=>exact byaq aS);(case side4=>exact bD.out);rintro e f9 ⟨rfl,hb⟩;refine⟨_,rfl,?_⟩;have n_:=q_3 (bbl s hb) (bbl p hb) (qB (byaj G L) hb);clear s p HB;obtain⟨s,p,HB⟩:=n_;(try clear hb);(try clear hb2);(try clear hk);(try clear hi);refine hK.out _ _ ⟨(qF s.out 0).trans rfl,(qF p.out 0).trans rfl,(qF p.out 1).trans rfl,(qF p.out 2).trans rfl,(bc HB hw254_0),(bc HB hw254_1),(bc HB hw254_2),(bc HB hw256_0),(bc HB hw256_1),(bc HB hw256_2)⟩ (fun hHeld=>?_);clear hK K;refine uZ (N:=some 80) ?_;refine qM (i:=25) (N:=some 81) (bb 27 67108863) ?_;refine qM (i:=26) (N:=some 8) (bb 27 134217727) ?_;refine Qv (Qd HT_.out (by kernel_rfl)) ?_;(try go_wp2);go_ret;exact⟨byaz,byaj G L⟩
            ·rw[if_neg bJ] at H;exact absurd H (by simp)
           ·replace bI:=Bool.eq_false_iff.mpr bI;subst bI;rw[if_neg (show¬(false=true) by decide)] at H;obtain rfl:=Option.some.inj H;(try go_wp2);have n_:=q_3 (zK s.out) (zK p.out) (jC HB.out);clear s p HB;obtain⟨s,p,HB⟩:=n_;have aL:0≤(0:Int):=(by omega);have aM:0<(z.length:Int):=of_decide_eq_true byag;obtain⟨I,aE,aF,bA,A,B,D,aB,hi254_2⟩:=at_T28 aX.out 0 aL aM;have hw254_2:=D;(try rw[show((0:Int)).toNat=0 from rfl] at hw254_2);(try rw[show 0*3=0 from rfl] at hw254_2);(try rw[Addr.add_zero'] at hw254_2);have hw254_1:=B;(try rw[show((0:Int)).toNat=0 from rfl] at hw254_1);(try rw[show 0*3=0 from rfl] at hw254_1);(try rw[Addr.add_zero'] at hw254_1);have hw254_0:=A;(try rw[show((0:Int)).toNat=0 from rfl] at hw254_0);(try rw[show 0*3=0 from rfl] at hw254_0);(try rw[Addr.add_zero'] at hw254_0)
            cases bA
            have qi254:(0<z.length)=True:=eq_true (by omega);(try rw[show((0:Int)).toNat=0 from rfl] at A);(try rw[show 0*3=0 from rfl] at A);(try rw[Addr.add_zero'] at A);(try rw[show((0:Int)).toNat=0 from rfl] at B);(try rw[show 0*3=0 from rfl] at B);(try rw[Addr.add_zero'] at B);(try rw[show((0:Int)).toNat=0 from rfl] at D);(try rw[show 0*3=0 from rfl] at D);(try rw[Addr.add_zero'] at D);replace A:=bc HB A;replace B:=bc HB B;replace D:=bc HB D;have aC:=qA.mk hi254_2;have aN:=qA.mk aB;clear hi254_2 aB;replace aL:=eq_true aL;replace aM:=eq_true aM;refine kX (n:=27) (S:=fun w'=>w'.cell? ⟨aA,0,none⟩=some (.slice a8 M.length a9)∧w'.cell? ⟨O,0,none⟩=some (.int .i64 X)∧w'.cell? ⟨O,1,none⟩=some (.int .i64 U)∧w'.cell? ⟨O,2,none⟩=some (.slice (some I) z.length aD)∧w'.cell? I=some (.int .i64 ((qN z 0).f0))∧w'.cell? ⟨I.block,I.off+1,none⟩=some (.int .i64 ((qN z 0).f1))∧w'.cell? ⟨I.block,I.off+2,none⟩=some (.slice aE ((qN z 0).f2).length aF)) (ds:=[]) (bb 27 0) (by kernel_rfl) rfl rfl ⟨(qF s.out 0).trans rfl,(qF p.out 0).trans rfl,(qF p.out 1).trans rfl,(qF p.out 2).trans rfl,(bc HB hw254_0),(bc HB hw254_1),(bc HB hw254_2)⟩ (fun hHeld=>?_);refine uY qO.tab10 qO.bits10 (fun HT_ HW_=>?_);generalize wc.drew=fA at s p HB aC A B D hHeld ⊢
            refine qM (i:=1) (N:=some 57) (bb 27 2) ?_;refine qM (i:=5) (N:=some 61) (bb 27 34) ?_;refine qM (i:=6) (N:=some 62) (bb 27 98) ?_;refine qM (i:=7) (N:=some 63) (bb 27 226) ?_;refine takeZG (i:=0) (N:=some 56) (bb 27 227) hHeld ?_;refine takeZG (i:=2) (N:=some 58) (bb 27 231) hHeld ?_;refine qM (i:=3) (N:=some 59) (bb 27 239) ?_;refine takeZG (i:=4) (N:=some 60) (bb 27 255) hHeld ?_;refine takeZG (i:=8) (N:=some 64) (bb 27 511) hHeld ?_;refine qM (i:=9) (N:=some 65) (bb 27 1023) ?_;refine qM (i:=10) (N:=some 66) (bb 27 2047) ?_;refine one_ (i:=11) (N:=some 67) (bb 27 4095) rfl rfl (uM HT_.out (by kernel_rfl)) (by decide) (fun K hK=>?_);refine kS Try.func41 (by kernel_rfl) rfl #[.agg #[.slice a8 M.length a9],.agg #[.int .i64 ((qN z 0).f0),.int .i64 ((qN z 0).f1),.slice aE ((qN z 0).f2).length aF],.int .i64 a2,.int .i64 (Go.bits .or .i64 a3 (aO))] (by rfl) rfl rfl byay ?_;with_reducible refine(ih b8 (by have:=b0.out;have:=b7.out;omega) _ _ M ((qN z 0).f0) ((qN z 0).f1) _ _ ((qN z 0).f2) a2 (Go.bits .or .i64 a3 (aO)) false _ ?side1 ?side2 ?side3 ?side4 dO.out).mono ?_
            (case side1=>exact byaq aG);(case side2=>exact aH.out);(case side3=>exact byaq aC);(case side4=>exact aN.out);rintro e fB ⟨rfl,hb⟩;refine⟨_,rfl,?_⟩;have n_:=q_3 (bbl s hb) (bbl p hb) (qB (byaj G L) hb);clear s p HB;obtain⟨s,p,HB⟩:=n_;(try clear hb);(try clear hb2);(try clear hk);(try clear hi);refine hK.out _ _ ⟨(qF s.out 0).trans rfl,(qF p.out 0).trans rfl,(qF p.out 1).trans rfl,(qF p.out 2).trans rfl,(bc HB hw254_0),(bc HB hw254_1),(bc HB hw254_2)⟩ (fun hHeld=>?_);clear hK K;refine uZ (N:=some 67) ?_;refine qM (i:=12) (N:=some 68) (bb 27 8191) ?_;refine uK (i:=13) (N:=some 69) (bb 27 16383) ?_;refine uK (i:=14) (N:=some 70) (bb 27 32767) ?_;refine uK (i:=15) (N:=some 71) (bb 27 65535) ?_;refine uK (i:=16) (N:=some 72) (bb 27 131071) ?_;refine uK (i:=17) (N:=some 73) (bb 27 262143) ?_;refine uK (i:=18) (N:=some 74) (bb 27 524287) ?_;refine uK (i:=19) (N:=some 75) (bb 27 1048575) ?_;refine uK (i:=20) (N:=some 76) (bb 27 2097151) ?_;refine uK (i:=21) (N:=some 77) (bb 27 4194303) ?_;refine uK (i:=22) (N:=some 78) (bb 27 8388607) ?_;refine uK (i:=23) (N:=some 79) (bb 27 16777215) ?_;refine uK (i:=24) (N:=some 80) (bb 27 33554431) ?_;refine qM (i:=25) (N:=some 81) (bb 27 67108863) ?_;refine qM (i:=26) (N:=some 8) (bb 27 134217727) ?_;refine Qv (Qd HT_.out (by kernel_rfl)) ?_;(try go_wp2);go_ret;exact⟨byaz,byaj G L⟩
          ·rw[if_neg b9] at H;exact absurd H (by simp)
         ·rw[if_neg bH] at H;exact absurd H (by simp)
     ·rw[if_neg b3] at H;obtain⟨bY,bZ⟩:=eqF b3;obtain rfl:=Option.some.inj H;have eV:=T.out;have eW:=J.out;obtain⟨dR,dS,dT,dU,dV,dW⟩:=cz3 p.out;go_wp2;go_ret;exact⟨byad,byaj G L⟩
end Go.Proofs.Ytkkbdimegpdbgaa.P
