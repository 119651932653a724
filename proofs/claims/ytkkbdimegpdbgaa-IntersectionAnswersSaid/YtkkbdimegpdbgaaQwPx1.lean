/- Walks: the calls answer as Lean functions say; conditions: each theorem's own. -/
import Derived.Test.YtkkbdimegpdbgaaQwPx0
namespace Go.Proofs.Ytkkbdimegpdbgaa.P
open Go.RowKit Go.Proofs.YtkkbdimegpdbgaaW.PrintWords Go.Proofs.YtkkbdimegpdbgaaW.PrintLast Go.Proofs.YtkkbdimegpdbgaaW.PrintMore
attribute [local go_sem] kK kM Qa Qb uV uU kN kL
set_option linter.unusedVariables false
set_option linter.unusedSimpArgs false
def Qm.f (p:Int) (r:List Int) (s:List (S56)):Option (Bool):=if p=0 then(if(r.length:Int)=0 then(some ((s.length:Int)==0)) else(some false)) else(some false)
set_option maxHeartbeats 8000000 in
set_option maxRecDepth 100000 in
theorem Qm.calls (D:Int) (G:Option Addr) (I:Nat) (s:List Int) (J:Option Addr) (K:Nat) (z:List (S56)) (r:Bool) (w:World) (L:Kd.C (Kd.int .i64) w G s.length s) (M:s.length≤I) (O:Kd.C k56 w J z.length z) (T:z.length≤K) (h:Qm.f D s z=some r):
  Calls Try.prog 68 #[.agg #[.int .i64 D,.slice G s.length I,.slice J z.length K]] w fun e w'=>e=.returned (.bool r)∧Below w.heap.size w w':=by
 have hu56:=Try.underlying56;have aQ:=qA.mk L;have aR:=qA.mk M;clear L M;have aS:=qA.mk O;have aT:=qA.mk T;clear O T;have HB:=qA.mk (Below.refl w.heap.size w);unfold Qm.f at h;have H:=h;clear h;by_cases c2:D=0
 ·rw[if_pos c2] at H;obtain⟨X,Y⟩:=eqT c2;clear c2;by_cases c3:(s.length:Int)=0
  ·rw[if_pos c3] at H;obtain⟨Z,a7⟩:=eqT c3;clear c3;obtain rfl:=Option.some.inj H;go_enter Try.func68,Try.ntmps68;go_wp2_with (first|((with_reducible refine qH (N:=1) rfl ?_);(try(refine uS (by rfl) ?_;dsimp only));refine qG ?hg (N:=1) ?hd (cs:=#[.int .i64 D,.slice G s.length I,.slice J z.length K]) (t:=56) ?hr ?_;(case hd=>rfl);(case hg=>rfl);(case hr=>exact byab);intro p hg w4 hbox hb;have n_:=q_4 (qB byac hb) (hbox) ((bycn:w.heap.size≤p)) ((bycn:w.heap.size≤p));clear HB;obtain⟨HB,A,U,B⟩:=n_;clear hb hbox hg;obtain⟨a8,a9,aA,aB,aC,aD⟩:=cz3 A.out));go_ret;exact⟨byad,byae B⟩
  ·rw[if_neg c3] at H;obtain⟨Z,a7⟩:=eqF c3;have aU:¬(s=[]):=fun h_=>c3 (by rw[h_];rfl)
   obtain rfl:=Option.some.inj H;go_enter Try.func68,Try.ntmps68;go_wp2_with (first|((with_reducible refine qH (N:=1) rfl ?_);(try(refine uS (by rfl) ?_;dsimp only));refine qG ?hg (N:=1) ?hd (cs:=#[.int .i64 D,.slice G s.length I,.slice J z.length K]) (t:=56) ?hr ?_;(case hd=>rfl);(case hg=>rfl);(case hr=>exact byab);intro p hg w6 hbox hb;have n_:=q_4 (qB byac hb) (hbox) ((bycn:w.heap.size≤p)) ((bycn:w.heap.size≤p));clear HB;obtain⟨HB,A,U,B⟩:=n_;clear hb hbox hg;obtain⟨aE,aF,aG,aH,aI,aJ⟩:=cz3 A.out));go_ret;exact⟨byad,byae B⟩
 ·rw[if_neg c2] at H;obtain⟨X,Y⟩:=eqF c2;obtain rfl:=Option.some.inj H;go_enter Try.func68,Try.ntmps68;go_wp2_with (first|((with_reducible refine qH (N:=1) rfl ?_);(try(refine uS (by rfl) ?_;dsimp only));refine qG ?hg (N:=1) ?hd (cs:=#[.int .i64 D,.slice G s.length I,.slice J z.length K]) (t:=56) ?hr ?_;(case hd=>rfl);(case hg=>rfl);(case hr=>exact byab);intro p hg w8 hbox hb;have n_:=q_4 (qB byac hb) (hbox) ((bycn:w.heap.size≤p)) ((bycn:w.heap.size≤p));clear HB;obtain⟨HB,A,U,B⟩:=n_;clear hb hbox hg;obtain⟨aK,aL,aM,aN,aO,aP⟩:=cz3 A.out));go_ret;exact⟨byad,byae B⟩
mutual
def jH.l0:Nat→Int→List (S56)→Int→Int→Option (Int)
 |0,_,_,_,_=>none
 |k+1,x3,x7,x8,x9=>if x9<x8 then(if 0≤x9 then(if x9<(x7.length:Int) then((jH.f k ((qQ x7 x9).f0) ((qQ x7 x9).f1) ((qQ x7 x9).f2)).bind fun r=>(jH.l0 k (mx x3 r) x7 x8 (wrap64 (x9+1)))) else(none)) else(none)) else(some (wrap64 (x3+1)))
def jH.f:Nat→Int→List Int→List (S56)→Option (Int)
 |0,_,_,_=>none
 |k+1,s,z,p=>jH.l0 k 0 p (p.length:Int) 0
end
theorem jH.mono_l:∀k,(∀y0 y1 y2,LeO (jH.f k y0 y1 y2) (jH.f (k+1) y0 y1 y2))∧(∀y0 y1 y2 y3,LeO (jH.l0 k y0 y1 y2 y3) (jH.l0 (k+1) y0 y1 y2 y3))
 |0=>⟨fun _ _ _ r h=>by simp[jH.f] at h,fun _ _ _ _ r h=>by simp[jH.l0] at h⟩
 |k+1=>by
  obtain⟨p,s⟩:=jH.mono_l k;refine⟨?_,?_⟩
  ·intro y0 y1 y2;unfold jH.f;repeat' first
   |(with_reducible exact p _ _ _)
   |(with_reducible exact s _ _ _ _)
   |(with_reducible exact LeO.refl _)
   |(with_reducible exact LeO.none _)
   |(with_reducible refine LeO.ite ?_ ?_)
   |(with_reducible refine LeO.bind ?_ (fun _=>?_))
   |exact p _ _ _
   |exact s _ _ _ _
   |exact LeO.none _
   |refine LeO.ite ?_ ?_
   |refine LeO.bind ?_ (fun _=>?_)
  ·intro y0 y1 y2 y3;unfold jH.l0;repeat' first
   |(with_reducible exact p _ _ _)
   |(with_reducible exact s _ _ _ _)
   |(with_reducible exact LeO.refl _)
   |(with_reducible exact LeO.none _)
   |(with_reducible refine LeO.ite ?_ ?_)
   |(with_reducible refine LeO.bind ?_ (fun _=>?_))
   |exact p _ _ _
   |exact s _ _ _ _
   |exact LeO.none _
   |refine LeO.ite ?_ ?_
   |refine LeO.bind ?_ (fun _=>?_)
theorem jH.mono:∀a0 a1 a2 k,LeO (jH.f k a0 a1 a2) (jH.f (k+1) a0 a1 a2):=by
 intro a0 a1 a2 k;obtain⟨p,r⟩:=jH.mono_l k;exact p a0 a1 a2
set_option maxHeartbeats 8000000 in
set_option maxRecDepth 100000 in
theorem jH.calls (k:Nat):∀(I:Int) (J:Option Addr) (K:Nat) (D:List Int) (X:Option Addr) (L:Nat) (p:List (S56)) (r:Int) (w:World) (aA:Kd.C (Kd.int .i64) w J D.length D) (aB:D.length≤K) (aC:Kd.C k56 w X p.length p) (aD:p.length≤L) (h:jH.f k I D p=some r),
  Calls Try.prog 81 #[.agg #[.int .i64 I,.slice J D.length K,.slice X p.length L]] w fun e w'=>e=.returned (.int .i64 r)∧Below w.heap.size w w':=by
 induction k using Nat.strongRecOn with
 |_ k ih=>
 intro I J K D X L p r w aA aB aC aD h
 cases k with
 |zero=>exact absurd h (by simp[jH.f])
 |succ k=>
 simp only[jH.f] at h;have hu56:=Try.underlying56;have b8:=qA.mk aA;have b9:=qA.mk aB;clear aA aB;have aQ:=qA.mk aC;have bA:=qA.mk aD;clear aC aD;have HB:=qA.mk (Below.refl w.heap.size w);have H:=h;clear h;have H':=qA.mk H;clear H;go_enter Try.func81,Try.ntmps81;go_wp2_with (first|((with_reducible refine qH (N:=1) rfl ?_);refine qG ?hg (N:=1) ?hd (cs:=#[.int .i64 I,.slice J D.length K,.slice X p.length L]) (t:=56) ?hr ?_;(case hd=>rfl);(case hg=>rfl);(case hr=>exact byab);intro G hg w2 hbox hb;have n_:=q_4 (qB byac hb) (hbox) ((bycn:w.heap.size≤G)) ((bycn:w.heap.size≤G));clear HB;obtain⟨HB,z,bB,A⟩:=n_;clear hb hbox hg;obtain⟨b2,b3,b4,b5,b6,b7⟩:=cz3 z.out));go_loopg [3,9] k (fun kq v3 v9 w'=>∃(M:Int) (s:Int),v3=.int .i64 M∧v9=.int .i64 s∧qA (jH.l0 kq M p (p.length:Int) s=some r)∧qA (kq≤k)∧qA (w'.heap[G]? =some (.cells #[.int .i64 I,(.slice J D.length K),(.slice X p.length L)] 56 (0,0)))∧qA (Below w.heap.size w w'));case atStart=>exact⟨(0),(0),byaf,byaf,H',⟨Nat.le_refl _⟩,⟨bq z⟩,⟨byae A⟩⟩
 case round=>
  clear H';obtain⟨M,s,rfl,rfl,HA,HK1,z,HB⟩:=hrel
  cases gk with
  |zero=>exact absurd HA.out (by simp[jH.l0])
  |succ k1=>
   have H:=HA.out;clear HA;simp only[jH.l0] at H;by_cases c4:s<(p.length:Int)
   ·rw[if_pos c4] at H;have aS:=decide_eq_true c4;clear c4;by_cases c5:0≤s
    ·rw[if_pos c5] at H;have bG:=decide_eq_true c5;clear c5;by_cases c6:s<(p.length:Int)
     ·rw[if_pos c6] at H;have bH:=decide_eq_true c6;clear c6;replace H:=Option.bind_eq_some_iff.mp H;obtain⟨aF,aT,H⟩:=H;(try dsimp only at H);have A7:=qA.mk aT;clear aT;obtain⟨aU,hji8⟩:∃j_:Int,(mx M aF)=j_:=⟨_,rfl⟩;(first|rw[hji8] at H|(simp only[hji8] at H));(try rw[hji8] at A7);have bC:(if M<aF then aF else M)=aU:=hji8;have H':=qA.mk H;clear H;have aK:0≤(s:Int):=of_decide_eq_true byag;have aL:s<(p.length:Int):=of_decide_eq_true byag;obtain⟨aR,aG,aH,aI,aJ,aV,Y,Z,a7,a8,hi103_1,a9,hi103_2⟩:=Zq aQ.out s aK aL
      cases aV
      replace Y:=bc HB Y;replace Z:=bc HB Z;replace a7:=bc HB a7;have aM:=qA.mk hi103_1;have aN:=qA.mk a8;clear hi103_1 a8;have aO:=qA.mk hi103_2;have aP:=qA.mk a9;clear hi103_2 a9;replace aK:=eq_true aK;replace aL:=eq_true aL;go_wp2_with (first|((with_reducible refine qH (N:=5) rfl ?_);refine qG ?hg (N:=5) ?hd (cs:=#[.int .i64 0,.slice none 0 0,.slice none 0 0]) (t:=56) ?hr ?_;(case hd=>rfl);(case hg=>rfl);(case hr=>exact byab);intro O hg w9 hbox hb;have n_:=q_6 (bbl z hb) (qB (byae A) hb) (hbox) ((by rw[hg];exact(qI (byae A)):w.heap.size≤O)) ((by rw[hg];exact(qI (byae A)):w.heap.size≤O)) ((by rw[hg];exact Nat.ne_of_lt (bl z):G≠O));clear z HB;obtain⟨z,HB,T,bD,U,B⟩:=n_;have aE:=ns B;clear hb hbox hg;have bE:=aE.out;have bF:=B.out;obtain⟨aW,aX,aY,aZ,b0,b1⟩:=cz3 T.out)|((with_reducible refine qC (f:=81) rfl ?_);refine qV (some 15) rfl rfl Try.func81 (by kernel_rfl) rfl #[.agg #[.int .i64 ((qQ p s).f0),.slice aG ((qQ p s).f1).length aH,.slice aI ((qQ p s).f2).length aJ]] rfl byah ?_;(with_reducible refine(ih k1 byai ((qQ p s).f0) _ _ ((qQ p s).f1) _ _ ((qQ p s).f2) aF _ ?side1 ?side2 ?side3 ?side4 A7.out).mono ?_);(case side1=>exact Kd.vO aM.out (byaj A U));(case side2=>exact aN.out);(case side3=>exact Kd.vO aO.out (byaj A U));(case side4=>exact aP.out);rintro e bI ⟨rfl,hb⟩;refine⟨_,rfl,?_⟩;have n_:=q_3 (vC (g:=G) (o:=.cells #[.int .i64 I,.slice J D.length K,.slice (some aR) p.length L] 56 (0,0)) (byak B z) hb) (vC (g:=O) (o:=.cells #[.int .i64 ((qQ p s).f0),.slice aG ((qQ p s).f1).length aH,.slice aI ((qQ p s).f2).length aJ] 56 (0,0)) (bp T) hb) (qB (byaj A U) hb);clear z T HB;obtain⟨z,T,HB⟩:=n_;clear hb));go_roundg k1;case measure=>have:=HK1.out;omega
      case rel=>exact⟨(aU),(wrap64 (s+1)),byal,byaf,H',⟨byai⟩,⟨bq z⟩,⟨byaj A U⟩⟩
     ·rw[if_neg c6] at H;exact absurd H (by simp)
    ·rw[if_neg c5] at H;exact absurd H (by simp)
   ·rw[if_neg c4] at H;have aS:=decide_eq_false c4;clear c4;obtain rfl:=Option.some.inj H;go_wp2;go_ret;exact⟨byad,byae A⟩
mutual
def jL.l0:Nat→Int→List (S56)→Int→Int→Option (Int)
 |0,_,_,_,_=>none
 |k+1,x3,r,z,p=>if p<z then(if 0≤p then(if p<(r.length:Int) then((jL.f k ((qQ r p).f0) ((qQ r p).f1) ((qQ r p).f2)).bind fun A=>(jL.l0 k (wrap64 (x3+A)) r z (wrap64 (p+1)))) else(none)) else(none)) else(some x3)
def jL.f:Nat→Int→List Int→List (S56)→Option (Int)
 |0,_,_,_=>none
 |k+1,D,B,s=>jL.l0 k (wrap64 ((B.length:Int)+(s.length:Int))) s (s.length:Int) 0
end
theorem jL.mono_l:∀k,(∀y0 y1 y2,LeO (jL.f k y0 y1 y2) (jL.f (k+1) y0 y1 y2))∧(∀y0 y1 y2 y3,LeO (jL.l0 k y0 y1 y2 y3) (jL.l0 (k+1) y0 y1 y2 y3))
 |0=>⟨fun _ _ _ r h=>by simp[jL.f] at h,fun _ _ _ _ r h=>by simp[jL.l0] at h⟩
 |k+1=>by
  obtain⟨p,s⟩:=jL.mono_l k;refine⟨?_,?_⟩
  ·intro y0 y1 y2;unfold jL.f;repeat' first
   |(with_reducible exact p _ _ _)
   |(with_reducible exact s _ _ _ _)
   |(with_reducible exact LeO.refl _)
   |(with_reducible exact LeO.none _)
   |(with_reducible refine LeO.ite ?_ ?_)
   |(with_reducible refine LeO.bind ?_ (fun _=>?_))
   |exact p _ _ _
   |exact s _ _ _ _
   |exact LeO.none _
   |refine LeO.ite ?_ ?_
   |refine LeO.bind ?_ (fun _=>?_)
  ·intro y0 y1 y2 y3;unfold jL.l0;repeat' first
   |(with_reducible exact p _ _ _)
   |(with_reducible exact s _ _ _ _)
   |(with_reducible exact LeO.refl _)
   |(with_reducible exact LeO.none _)
   |(with_reducible refine LeO.ite ?_ ?_)
   |(with_reducible refine LeO.bind ?_ (fun _=>?_))
   |exact p _ _ _
   |exact s _ _ _ _
   |exact LeO.none _
   |refine LeO.ite ?_ ?_
   |refine LeO.bind ?_ (fun _=>?_)
theorem jL.mono:∀a0 a1 a2 k,LeO (jL.f k a0 a1 a2) (jL.f (k+1) a0 a1 a2):=by
 intro a0 a1 a2 k;obtain⟨p,r⟩:=jL.mono_l k;exact p a0 a1 a2
set_option maxHeartbeats 8000000 in
set_option maxRecDepth 100000 in
theorem jL.calls (k:Nat):∀(I:Int) (J:Option Addr) (K:Nat) (B:List Int) (U:Option Addr) (L:Nat) (s:List (S56)) (r:Int) (w:World) (a9:Kd.C (Kd.int .i64) w J B.length B) (aA:B.length≤K) (aB:Kd.C k56 w U s.length s) (aC:s.length≤L) (h:jL.f k I B s=some r),
  Calls Try.prog 82 #[.agg #[.int .i64 I,.slice J B.length K,.slice U s.length L]] w fun e w'=>e=.returned (.int .i64 r)∧Below w.heap.size w w':=by
 induction k using Nat.strongRecOn with
 |_ k ih=>
 intro I J K B U L s r w a9 aA aB aC h
 cases k with
 |zero=>exact absurd h (by simp[jL.f])
 |succ k=>
 simp only[jL.f] at h;have hu56:=Try.underlying56;have b7:=qA.mk a9;have b8:=qA.mk aA;clear a9 aA;have aQ:=qA.mk aB;have b9:=qA.mk aC;clear aB aC;have HB:=qA.mk (Below.refl w.heap.size w);have H:=h;clear h;have H':=qA.mk H;clear H;go_enter Try.func82,Try.ntmps82;go_wp2_with (first|((with_reducible refine qH (N:=1) rfl ?_);refine qG ?hg (N:=1) ?hd (cs:=#[.int .i64 I,.slice J B.length K,.slice U s.length L]) (t:=56) ?hr ?_;(case hd=>rfl);(case hg=>rfl);(case hr=>exact byab);intro G hg w2 hbox hb;have n_:=q_4 (qB byac hb) (hbox) ((bycn:w.heap.size≤G)) ((bycn:w.heap.size≤G));clear HB;obtain⟨HB,z,bA,A⟩:=n_;clear hb hbox hg;obtain⟨b1,b2,b3,b4,b5,b6⟩:=cz3 z.out));go_loopg [3,16] k (fun kq v3 bB w'=>∃(aE:Int) (p:Int),v3=.int .i64 aE∧bB=.int .i64 p∧qA (jL.l0 kq aE s (s.length:Int) p=some r)∧qA (kq≤k)∧qA (w'.heap[G]? =some (.cells #[.int .i64 I,(.slice J B.length K),(.slice U s.length L)] 56 (0,0)))∧qA (Below w.heap.size w w'));case atStart=>exact⟨(wrap64 ((B.length:Int)+(s.length:Int))),(0),byaf,byaf,H',⟨Nat.le_refl _⟩,⟨bq z⟩,⟨byae A⟩⟩
 case round=>
  clear H';obtain⟨aE,p,rfl,rfl,HA,HK1,z,HB⟩:=hrel
  cases gk with
  |zero=>exact absurd HA.out (by simp[jL.l0])
  |succ k1=>
   have H:=HA.out;clear HA;simp only[jL.l0] at H;by_cases c4:p<(s.length:Int)
   ·rw[if_pos c4] at H;have aS:=decide_eq_true c4;clear c4;by_cases c5:0≤p
    ·rw[if_pos c5] at H;have bD:=decide_eq_true c5;clear c5;by_cases c6:p<(s.length:Int)
     ·rw[if_pos c6] at H;have bE:=decide_eq_true c6;clear c6;replace H:=Option.bind_eq_some_iff.mp H;obtain⟨aP,aT,H⟩:=H;(try dsimp only at H);have A7:=qA.mk aT;clear aT;have H':=qA.mk H;clear H;have aJ:0≤(p:Int):=of_decide_eq_true byag;have aK:p<(s.length:Int):=of_decide_eq_true byag;obtain⟨aR,aF,aG,aH,aI,aU,X,Y,Z,a7,hi107_1,a8,hi107_2⟩:=Zq aQ.out p aJ aK
      cases aU
      replace X:=bc HB X;replace Y:=bc HB Y;replace Z:=bc HB Z;have aL:=qA.mk hi107_1;have aM:=qA.mk a7;clear hi107_1 a7;have aN:=qA.mk hi107_2;have aO:=qA.mk a8;clear hi107_2 a8;replace aJ:=eq_true aJ;replace aK:=eq_true aK;go_wp2_with (first|((with_reducible refine qH (N:=5) rfl ?_);refine qG ?hg (N:=5) ?hd (cs:=#[.int .i64 0,.slice none 0 0,.slice none 0 0]) (t:=56) ?hr ?_;(case hd=>rfl);(case hg=>rfl);(case hr=>exact byab);intro M hg w8 hbox hb;have n_:=q_6 (bbl z hb) (qB (byae A) hb) (hbox) ((by rw[hg];exact(qI (byae A)):w.heap.size≤M)) ((by rw[hg];exact(qI (byae A)):w.heap.size≤M)) ((by rw[hg];exact Nat.ne_of_lt (bl z):G≠M));clear z HB;obtain⟨z,HB,O,bC,T,D⟩:=n_;have aD:=ns D;clear hb hbox hg;have bF:=aD.out;have bG:=D.out;obtain⟨aV,aW,aX,aY,aZ,b0⟩:=cz3 O.out)|((with_reducible refine qC (f:=82) rfl ?_);refine qV (some 22) rfl rfl Try.func82 (by kernel_rfl) rfl #[.agg #[.int .i64 ((qQ s p).f0),.slice aF ((qQ s p).f1).length aG,.slice aH ((qQ s p).f2).length aI]] rfl byah ?_;(with_reducible refine(ih k1 byai ((qQ s p).f0) _ _ ((qQ s p).f1) _ _ ((qQ s p).f2) aP _ ?side1 ?side2 ?side3 ?side4 A7.out).mono ?_);(case side1=>exact Kd.vO aL.out (byaj A T));(case side2=>exact aM.out);(case side3=>exact Kd.vO aN.out (byaj A T));(case side4=>exact aO.out);rintro e bH ⟨rfl,hb⟩;refine⟨_,rfl,?_⟩;have n_:=q_3 (vC (g:=G) (o:=.cells #[.int .i64 I,.slice J B.length K,.slice (some aR) s.length L] 56 (0,0)) (byak D z) hb) (vC (g:=M) (o:=.cells #[.int .i64 ((qQ s p).f0),.slice aF ((qQ s p).f1).length aG,.slice aH ((qQ s p).f2).length aI] 56 (0,0)) (bp O) hb) (qB (byaj A T) hb);clear z O HB;obtain⟨z,O,HB⟩:=n_;clear hb));go_roundg k1;case measure=>have:=HK1.out;omega
      case rel=>exact⟨(wrap64 (aE+aP)),(wrap64 (p+1)),byaf,byaf,H',⟨byai⟩,⟨bq z⟩,⟨byaj A T⟩⟩
     ·rw[if_neg c6] at H;exact absurd H (by simp)
    ·rw[if_neg c5] at H;exact absurd H (by simp)
   ·rw[if_neg c4] at H;have aS:=decide_eq_false c4;clear c4;obtain rfl:=Option.some.inj H;go_wp2;go_ret;exact⟨byad,byae A⟩
def kZ.f (a0:Int) (a1:Int):Option (Bool):=if a0≥0 then(if 0≤a1 then(some (decide (a0<(shl .i64 1 a1)))) else(none)) else(some false)
set_option maxHeartbeats 8000000 in
set_option maxRecDepth 100000 in
theorem kZ.calls (a0:Int) (a1:Int) (r:Bool) (w:World) (h:kZ.f a0 a1=some r):
  Calls Try.prog 71 #[.int .i64 a0,.int .i64 a1] w fun e w'=>e=.returned (.bool r)∧Qs w w':=by
 unfold kZ.f at h;have H:=h;clear h;by_cases c3:a0≥0
 ·rw[if_pos c3] at H;have p:=decide_eq_true c3;clear c3;by_cases c4:0≤a1
  ·rw[if_pos c4] at H;have I:=eq_true c4;have J:=decide_eq_true c4;clear c4;obtain⟨K,hji5⟩:∃j_:Int,(shl .i64 1 a1)=j_:=⟨_,rfl⟩;(first|rw[hji5] at H|(simp only[hji5] at H));obtain⟨s,z,A,B,D,G⟩:=jiA hji5;obtain rfl:=Option.some.inj H;go_enter Try.func71,Try.ntmps71;go_wp2;go_ret;exact⟨by first|rfl|(simp;done)|(simp only[← hji5]<;>(first|rfl|simp))|(simp[*];done),byam⟩
  ·rw[if_neg c4] at H;exact absurd H (by simp)
 ·rw[if_neg c3] at H;have p:=decide_eq_false c3;clear c3;obtain rfl:=Option.some.inj H;go_enter Try.func71,Try.ntmps71;go_wp2;go_ret;exact⟨byaf,byam⟩
def uD.f (a0:Int):Option (Bool):=(kZ.f a0 10).bind fun p=>(some p)
set_option maxHeartbeats 8000000 in
set_option maxRecDepth 100000 in
theorem uD.calls (a0:Int) (r:Bool) (w:World) (h:uD.f a0=some r):
  Calls Try.prog 73 #[.int .i64 a0] w fun e w'=>e=.returned (.bool r)∧Qs w w':=by
 unfold uD.f at h;have H:=h;clear h;replace H:=Option.bind_eq_some_iff.mp H;obtain⟨p,s,H⟩:=H;(try dsimp only at H);have A2:=qA.mk s;clear s;obtain rfl:=Option.some.inj H;go_enter Try.func73,Try.ntmps73;go_wp2_with (first|((with_reducible refine qC (f:=71) rfl ?_);refine qV (some 4) rfl rfl Try.func71 (by kernel_rfl) rfl #[.int .i64 a0,.int .i64 10] rfl byah ?_;(with_reducible refine(kZ.calls a0 10 p _ A2.out).mono ?_);rintro e w' ⟨rfl,⟨nd,rfl⟩⟩;refine⟨_,rfl,?_⟩));go_ret;exact⟨byaf,byam⟩
def Ql.f (a0:Int) (a1:Int):Option (Bool):=(uD.f a0).bind fun p=>(if p=true then(if a1≥0 then(if a1<10 then(if 0≤a1 then(some ((Go.bits .and .i64 a0 (shl .i64 1 a1)) != 0)) else(none)) else(some false)) else(some false)) else(some false))
set_option maxHeartbeats 8000000 in
set_option maxRecDepth 100000 in
theorem Ql.calls (a0:Int) (a1:Int) (r:Bool) (w:World) (h:Ql.f a0 a1=some r):
  Calls Try.prog 62 #[.int .i64 a0,.int .i64 a1] w fun e w'=>e=.returned (.bool r)∧Qs w w':=by
 unfold Ql.f at h;have H:=h;clear h;replace H:=Option.bind_eq_some_iff.mp H;obtain⟨p,s,H⟩:=H;(try dsimp only at H);have A3:=qA.mk s;clear s;by_cases c4:p=true
 ·subst c4;rw[if_pos rfl] at H;by_cases c5:a1≥0
  ·rw[if_pos c5] at H;have z:=decide_eq_true c5;clear c5;by_cases c6:a1<10
   ·rw[if_pos c6] at H;have A:=decide_eq_true c6;clear c6;by_cases c7:0≤a1
    ·rw[if_pos c7] at H;have L:=eq_true c7;have M:=decide_eq_true c7;clear c7;obtain⟨O,hji8⟩:∃j_:Int,(shl .i64 1 a1)=j_:=⟨_,rfl⟩;(first|rw[hji8] at H|(simp only[hji8] at H));(try rw[hji8] at A3);obtain⟨B,D,G,I,J,K⟩:=jiA hji8;obtain rfl:=Option.some.inj H;go_enter Try.func62,Try.ntmps62;go_wp2_with (first|((with_reducible refine qC (f:=73) rfl ?_);refine qV (some 6) rfl rfl Try.func73 (by kernel_rfl) rfl #[.int .i64 a0] rfl byah ?_;(with_reducible refine(uD.calls a0 true _ A3.out).mono ?_);rintro e w' ⟨rfl,⟨nd,rfl⟩⟩;refine⟨_,rfl,?_⟩));go_ret;exact⟨byal,byam⟩
    ·rw[if_neg c7] at H;exact absurd H (by simp)
   ·rw[if_neg c6] at H;have A:=decide_eq_false c6;clear c6;obtain rfl:=Option.some.inj H;go_enter Try.func62,Try.ntmps62;go_wp2_with (first|((with_reducible refine qC (f:=73) rfl ?_);refine qV (some 6) rfl rfl Try.func73 (by kernel_rfl) rfl #[.int .i64 a0] rfl byah ?_;(with_reducible refine(uD.calls a0 true _ A3.out).mono ?_);rintro e w' ⟨rfl,⟨nd,rfl⟩⟩;refine⟨_,rfl,?_⟩));go_ret;exact⟨byaf,byam⟩
  ·rw[if_neg c5] at H;have z:=decide_eq_false c5;clear c5;obtain rfl:=Option.some.inj H;go_enter Try.func62,Try.ntmps62;go_wp2_with (first|((with_reducible refine qC (f:=73) rfl ?_);refine qV (some 6) rfl rfl Try.func73 (by kernel_rfl) rfl #[.int .i64 a0] rfl byah ?_;(with_reducible refine(uD.calls a0 true _ A3.out).mono ?_);rintro e w' ⟨rfl,⟨nd,rfl⟩⟩;refine⟨_,rfl,?_⟩));go_ret;exact⟨byaf,byam⟩
 ·replace c4:=Bool.eq_false_iff.mpr c4;subst c4;rw[if_neg (show¬(false=true) by decide)] at H;obtain rfl:=Option.some.inj H;go_enter Try.func62,Try.ntmps62;go_wp2_with (first|((with_reducible refine qC (f:=73) rfl ?_);refine qV (some 6) rfl rfl Try.func73 (by kernel_rfl) rfl #[.int .i64 a0] rfl byah ?_;(with_reducible refine(uD.calls a0 false _ A3.out).mono ?_);rintro e w' ⟨rfl,⟨nd,rfl⟩⟩;refine⟨_,rfl,?_⟩));go_ret;exact⟨byaf,byam⟩
mutual
def vJ.l0:Nat→Int→List Int→Int→Int→Option (Int × Int)
 |0,_,_,_,_=>none
 |k+1,x4,x7,x8,x9=>if x9<x8 then(if 0≤x9 then(if x9<(x7.length:Int) then(if(rd x7 x9)<0 then(vJ.j1 k x4 (rd x7 x9) x7 x8 x9 true) else(vJ.j1 k x4 (rd x7 x9) x7 x8 x9 (decide ((rd x7 x9)≥10)))) else(none)) else(none)) else(some (x4,0))
def vJ.j1:Nat→Int→Int→List Int→Int→Int→Bool→Option (Int × Int)
 |0,_,_,_,_,_,_=>none
 |k+1,x4,x6,x7,x8,x9,r=>if r=true then(some (0,5)) else((Ql.f x4 x6).bind fun p=>(if p=true then(some (0,6)) else(if 0≤x6 then(vJ.l0 k (Go.bits .or .i64 x4 (shl .i64 1 x6)) x7 x8 (wrap64 (x9+1))) else(none))))
end
def vJ.f (k:Nat) (l0:List Int):Option (Int × Int):=vJ.l0 k 0 l0 (l0.length:Int) 0
theorem vJ.mono_l:∀k,(∀y0 y1 y2 y3,LeO (vJ.l0 k y0 y1 y2 y3) (vJ.l0 (k+1) y0 y1 y2 y3))∧(∀y0 y1 y2 y3 y4 y5,LeO (vJ.j1 k y0 y1 y2 y3 y4 y5) (vJ.j1 (k+1) y0 y1 y2 y3 y4 y5))
 |0=>⟨fun _ _ _ _ r h=>by simp[vJ.l0] at h,fun _ _ _ _ _ _ r h=>by simp[vJ.j1] at h⟩
 |k+1=>by
  obtain⟨p,s⟩:=vJ.mono_l k;refine⟨?_,?_⟩
  ·intro y0 y1 y2 y3;unfold vJ.l0;repeat' first
   |(with_reducible exact p _ _ _ _)
   |(with_reducible exact s _ _ _ _ _ _)
   |(with_reducible exact LeO.refl _)
   |(with_reducible exact LeO.none _)
   |(with_reducible refine LeO.ite ?_ ?_)
   |(with_reducible refine LeO.bind ?_ (fun _=>?_))
   |exact p _ _ _ _
   |exact s _ _ _ _ _ _
   |exact LeO.none _
   |refine LeO.ite ?_ ?_
   |refine LeO.bind ?_ (fun _=>?_)
  ·intro y0 y1 y2 y3 y4 y5;unfold vJ.j1;repeat' first
   |(with_reducible exact p _ _ _ _)
   |(with_reducible exact s _ _ _ _ _ _)
   |(with_reducible exact LeO.refl _)
   |(with_reducible exact LeO.none _)
   |(with_reducible refine LeO.ite ?_ ?_)
   |(with_reducible refine LeO.bind ?_ (fun _=>?_))
   |exact p _ _ _ _
   |exact s _ _ _ _ _ _
   |exact LeO.none _
   |refine LeO.ite ?_ ?_
   |refine LeO.bind ?_ (fun _=>?_)
theorem vJ.mono:∀a0 k,LeO (vJ.f k a0) (vJ.f (k+1) a0):=by
 intro a0 k;obtain⟨p,r⟩:=vJ.mono_l k;unfold vJ.f;repeat' first
   |(with_reducible exact p _ _ _ _)
   |(with_reducible exact r _ _ _ _ _ _)
   |(with_reducible exact LeO.refl _)
   |(with_reducible exact LeO.none _)
   |(with_reducible refine LeO.ite ?_ ?_)
   |(with_reducible refine LeO.bind ?_ (fun _=>?_))
   |exact p _ _ _ _
   |exact r _ _ _ _ _ _
   |exact LeO.none _
   |refine LeO.ite ?_ ?_
   |refine LeO.bind ?_ (fun _=>?_)
set_option maxHeartbeats 8000000 in
set_option maxRecDepth 100000 in
theorem vJ.calls (k:Nat) (A0:Option Addr) (c0:Nat) (l0:List Int) (r1:Int) (r2:Int) (w:World) (I:Kd.C (Kd.int .i64) w A0 l0.length l0) (J:l0.length≤c0) (h:vJ.f k l0=some (r1,r2)):
  Calls Try.prog 90 #[.slice A0 l0.length c0] w fun e w'=>e=.returned (.tuple #[.int .i64 r1,.int .i64 r2])∧Qs w w':=by
 have aA:=qA.mk I;have aI:=qA.mk J;clear I J;unfold vJ.f at h;have H:=h;clear h;have H':=qA.mk H;clear H;go_enter Try.func90,Try.ntmps90;go_wp2;go_loopg [4,9] k (fun kq v4 v9 w'=>∃(r:Int) (p:Int),v4=.int .i64 r∧v9=.int .i64 p∧qA (vJ.l0 kq r l0 (l0.length:Int) p=some (r1,r2))∧qA (kq≤k)∧Qs w w');case atStart=>exact⟨(0),(0),byaf,byaf,H',⟨Nat.le_refl _⟩,byam⟩
 case round=>
  clear H';obtain⟨r,p,rfl,rfl,HA,HK1,⟨m1,rfl⟩⟩:=hrel
  cases gk with
  |zero=>exact absurd HA.out (by simp[vJ.l0])
  |succ k1=>
   have H:=HA.out;clear HA;simp only[vJ.l0] at H;by_cases c2:p<(l0.length:Int)
   ·rw[if_pos c2] at H;have K:=decide_eq_true c2;clear c2;by_cases c3:0≤p
    ·rw[if_pos c3] at H;have aG:=decide_eq_true c3;clear c3;by_cases c4:p<(l0.length:Int)
     ·rw[if_pos c4] at H;have aH:=decide_eq_true c4;clear c4;have G:=qA.mk H;clear H;have A:0≤(p:Int):=of_decide_eq_true byag;have B:p<(l0.length:Int):=of_decide_eq_true byag;obtain⟨aB,L,D⟩:=Kd.Qp aA.out p A B
      cases L
      replace A:=eq_true A;replace B:=eq_true B;go_upto_region 5 with(fail)
      go_cut[18] (fun aC wc=>∃(kq:Nat) (s:Bool),aC=.bool s∧qA (vJ.j1 kq r (rd l0 p) l0 (l0.length:Int) p s=some (r1,r2))∧qA (kq≤k1)∧Qs w wc);case first=>
       have H:=G.out;clear G;by_cases c6:(rd l0 p)<0
       ·rw[if_pos c6] at H;have z:=decide_eq_true c6;clear c6;(first|rw[z]|(simp only[Qo,Qw];rw[z])|skip);have H':=qA.mk H;clear H;go_wp2;go_meet;case rel=>exact⟨_,(true),byaf,H',⟨byan⟩,byam⟩
       ·rw[if_neg c6] at H;have z:=decide_eq_false c6;clear c6;(first|rw[z]|(simp only[Qo,Qw];rw[z])|skip);have H':=qA.mk H;clear H;go_wp2;go_meet;case rel=>exact⟨_,(decide ((rd l0 p)≥10)),byaf,H',⟨byan⟩,byam⟩
      case rest=>
       clear G;(try clear aJ);(try clear D);obtain⟨kq,s,rfl,HA,M,⟨mc4,rfl⟩⟩:=hcut
       cases kq with
       |zero=>exact absurd HA.out (by simp[vJ.j1])
       |succ aD=>
        have H:=HA.out;clear HA;simp only[vJ.j1] at H;by_cases c7:s=true
        ·subst c7;rw[if_pos rfl] at H;simp only[Option.some.injEq,Prod.mk.injEq] at H;obtain⟨rfl,rfl⟩:=H;go_wp2;go_ret2;exact⟨byaf,byam⟩
        ·replace c7:=Bool.eq_false_iff.mpr c7;subst c7;rw[if_neg (show¬(false=true) by decide)] at H;replace H:=Option.bind_eq_some_iff.mp H;obtain⟨O,T,H⟩:=H;(try dsimp only at H);have A8:=qA.mk T;clear T;by_cases c9:O=true
         ·subst c9;rw[if_pos rfl] at H;simp only[Option.some.injEq,Prod.mk.injEq] at H;obtain⟨rfl,rfl⟩:=H;go_wp2_with (first|((with_reducible refine qC (f:=62) rfl ?_);refine qV (some 21) rfl rfl Try.func62 (by kernel_rfl) rfl #[.int .i64 r,.int .i64 (rd l0 p)] rfl byah ?_;(with_reducible refine(Ql.calls r (rd l0 p) true _ A8.out).mono ?_);rintro e w' ⟨rfl,⟨nd,rfl⟩⟩;refine⟨_,rfl,?_⟩));go_ret2;exact⟨byaf,byam⟩
         ·replace c9:=Bool.eq_false_iff.mpr c9;subst c9;rw[if_neg (show¬(false=true) by decide)] at H;by_cases c10:0≤(rd l0 p)
          ·rw[if_pos c10] at H;have aE:=eq_true c10;have aF:=decide_eq_true c10;clear c10;obtain⟨U,hji11⟩:∃j_:Int,(shl .i64 1 (rd l0 p))=j_:=⟨_,rfl⟩;(first|rw[hji11] at H|(simp only[hji11] at H));(try rw[hji11] at A8);obtain⟨X,Y,Z,a7,a8,a9⟩:=jiA hji11;have H':=qA.mk H;clear H;go_wp2_with (first|((with_reducible refine qC (f:=62) rfl ?_);refine qV (some 21) rfl rfl Try.func62 (by kernel_rfl) rfl #[.int .i64 r,.int .i64 (rd l0 p)] rfl byah ?_;(with_reducible refine(Ql.calls r (rd l0 p) false _ A8.out).mono ?_);rintro e w' ⟨rfl,⟨nd,rfl⟩⟩;refine⟨_,rfl,?_⟩));go_roundg aD;case measure=>have:=HK1.out;have:=M.out;omega
           case rel=>exact⟨(Go.bits .or .i64 r (U)),(wrap64 (p+1)),byao,byaf,H',⟨by have:=HK1.out;have:=M.out;omega⟩,byam⟩
          ·rw[if_neg c10] at H;exact absurd H (by simp)
     ·rw[if_neg c4] at H;exact absurd H (by simp)
    ·rw[if_neg c3] at H;exact absurd H (by simp)
   ·rw[if_neg c2] at H;have K:=decide_eq_false c2;clear c2;simp only[Option.some.injEq,Prod.mk.injEq] at H;obtain⟨rfl,rfl⟩:=H;go_wp2;go_ret2;exact⟨byaf,byam⟩
end Go.Proofs.Ytkkbdimegpdbgaa.P
