/- Walks: the calls answer as Lean functions say; conditions: each theorem's own. -/
import Derived.Test.YtkkbdimegpdbgaaQwPx17
namespace Go.Proofs.Ytkkbdimegpdbgaa.P
open Go.RowKit Go.Proofs.YtkkbdimegpdbgaaW.PrintWords Go.Proofs.YtkkbdimegpdbgaaW.PrintLast Go.Proofs.YtkkbdimegpdbgaaW.PrintMore
attribute [local go_sem] kK kM Qa Qb uV uU kN kL
set_option linter.unusedVariables false
set_option linter.unusedSimpArgs false
mutual
def jS.l0:Nat→Int→Int→Int→Int→List (S28)→Option (Int)
 |0,_,_,_,_,_=>none
 |k+1,x1,x5,r,s,p=>if x5<(p.length:Int) then(if x1≤600 then(if 0≤x5 then((jS.f k ((qN p x5).f0) ((qN p x5).f1) ((qN p x5).f2) x1).bind fun z=>(jS.l0 k z (wrap64 (x5+1)) r s p)) else(none)) else(some x1)) else(some x1)
def jS.f:Nat→Int→Int→List (S28)→Int→Option (Int)
 |0,_,_,_,_=>none
 |k+1,A,B,D,a1=>jS.l0 k (wrap64 (a1+1)) 0 A B D
end
set_option maxHeartbeats 8000000 in
set_option maxRecDepth 100000 in
theorem jS.calls (k:Nat):∀(B:Int) (D:Int) (I:Option Addr) (J:Nat) (p:List (S28)) (a1:Int) (r:Int) (w:World) (T:Kd.C k28 w I p.length p) (U:p.length≤J) (h:jS.f k B D p a1=some r),
  Calls Try.prog 27 #[.agg #[.int .i64 B,.int .i64 D,.slice I p.length J],.int .i64 a1] w fun e w'=>e=.returned (.int .i64 r)∧Below w.heap.size w w':=by
 induction k using Nat.strongRecOn with
 |_ k ih=>
 intro B D I J p a1 r w T U h
 cases k with
 |zero=>exact absurd h (by simp[jS.f])
 |succ k=>
 simp only[jS.f] at h;have hu28:=Try.underlying28;have aC:=qA.mk T;have aZ:=qA.mk U;clear T U;have HB:=qA.mk (Below.refl w.heap.size w);have H:=h;clear h;have H':=qA.mk H;clear H;go_enter Try.func27,Try.ntmps27;go_wp2_with (first|((with_reducible refine qH (N:=2) rfl ?_);refine qG ?hg (N:=2) ?hd (cs:=#[.int .i64 B,.int .i64 D,.slice I p.length J]) (t:=28) ?hr ?_;(case hd=>rfl);(case hg=>rfl);(case hr=>exact byab);intro X hg w3 hbox hb;have n_:=q_4 (qB byac hb) (hbox) ((bycn:w.heap.size≤X)) ((bycn:w.heap.size≤X));clear HB;obtain⟨HB,z,b0,A⟩:=n_;clear hb hbox hg));go_loopg [1,5] k (fun kq v1 v5 w'=>∃(G:Int) (s:Int),v1=.int .i64 G∧v5=.int .i64 s∧qA (jS.l0 kq G s B D p=some r)∧qA (kq≤k)∧qA (w'.heap[X]? =some (.cells #[.int .i64 B,.int .i64 D,(.slice I p.length J)] 28 (0,0)))∧qA (Below w.heap.size w w'));case atStart=>exact⟨(wrap64 (a1+1)),(0),byaf,byaf,H',⟨Nat.le_refl _⟩,⟨bq z⟩,⟨byae A⟩⟩
 case round=>
  clear H';obtain⟨G,s,rfl,rfl,HA,HK1,z,HB⟩:=hrel
  cases gk with
  |zero=>exact absurd HA.out (by simp[jS.l0])
  |succ k1=>
   have H:=HA.out;clear HA;simp only[jS.l0] at H;by_cases c4:s<(p.length:Int)
   ·rw[if_pos c4] at H;have aD:=decide_eq_true c4;clear c4;by_cases c5:G≤600
    ·rw[if_pos c5] at H;have aE:=decide_eq_true c5;clear c5;by_cases c6:0≤s
     ·rw[if_pos c6] at H;have b2:=decide_eq_true c6;clear c6;replace H:=Option.bind_eq_some_iff.mp H;obtain⟨aB,aF,H⟩:=H;(try dsimp only at H);have A7:=qA.mk aF;clear aF;have H':=qA.mk H;clear H;obtain⟨aT,aU,aV,aW,aX,aY⟩:=cz3 z.out;have Y:0≤(s:Int):=of_decide_eq_true byag;have Z:s<(p.length:Int):=of_decide_eq_true byag;obtain⟨b1,a9,aA,aG,K,L,M,O,hi532_2⟩:=at_T28 aC.out s Y Z
      cases aG
      replace K:=bc HB K;replace L:=bc HB L;replace M:=bc HB M;have a7:=qA.mk hi532_2;have a8:=qA.mk O;clear hi532_2 O;replace Y:=eq_true Y;replace Z:=eq_true Z;go_wp2_with (first|((with_reducible refine qC (f:=27) rfl ?_);refine qV (some 25) rfl rfl Try.func27 (by kernel_rfl) rfl #[.agg #[.int .i64 ((qN p s).f0),.int .i64 ((qN p s).f1),.slice a9 ((qN p s).f2).length aA],.int .i64 G] rfl byah ?_;(with_reducible refine(ih k1 byai ((qN p s).f0) ((qN p s).f1) _ _ ((qN p s).f2) G aB _ ?side1 ?side2 A7.out).mono ?_);(case side1=>exact byaq a7);(case side2=>exact a8.out);rintro e w9 ⟨rfl,hb⟩;refine⟨_,rfl,?_⟩;have n_:=q_2 (bbl z hb) (qB (byae A) hb);clear z HB;obtain⟨z,HB⟩:=n_;clear hb));go_roundg k1;case measure=>have:=HK1.out;omega
      case rel=>exact⟨(aB),(wrap64 (s+1)),byaf,byaf,H',⟨byai⟩,⟨bq z⟩,⟨byae A⟩⟩
     ·rw[if_neg c6] at H;exact absurd H (by simp)
    ·rw[if_neg c5] at H;have aE:=decide_eq_false c5;clear c5;obtain rfl:=Option.some.inj H;obtain⟨aH,aI,aJ,aK,aL,aM⟩:=cz3 z.out;go_wp2;go_ret;exact⟨byad,byae A⟩
   ·rw[if_neg c4] at H;have aD:=decide_eq_false c4;clear c4;obtain rfl:=Option.some.inj H;obtain⟨aN,aO,aP,aQ,aR,aS⟩:=cz3 z.out;go_wp2;go_ret;exact⟨byad,byae A⟩
def uN.f (k:Nat) (p:Int) (r:Int) (s:List (S28)):Option (Bool):=(jS.f k p r s 0).bind fun z=>(some (decide (z≤600)))
set_option maxHeartbeats 8000000 in
set_option maxRecDepth 100000 in
theorem uN.calls (k:Nat) (z:Int) (A:Int) (B:Option Addr) (D:Nat) (p:List (S28)) (r:Bool) (w:World) (G:Kd.C k28 w B p.length p) (I:p.length≤D) (h:uN.f k z A p=some r):
  Calls Try.prog 9 #[.agg #[.int .i64 z,.int .i64 A,.slice B p.length D]] w fun e w'=>e=.returned (.bool r)∧Below w.heap.size w w':=by
 have hu28:=Try.underlying28;have L:=qA.mk G;have M:=qA.mk I;clear G I;have HB:=qA.mk (Below.refl w.heap.size w);unfold uN.f at h;have H:=h;clear h;replace H:=Option.bind_eq_some_iff.mp H;obtain⟨O,T,H⟩:=H;(try dsimp only at H);have A2:=qA.mk T;clear T;obtain rfl:=Option.some.inj H;go_enter Try.func9,Try.ntmps9;go_wp2_with (first|((with_reducible refine qH (N:=1) rfl ?_);refine qG ?hg (N:=1) ?hd (cs:=#[.int .i64 z,.int .i64 A,.slice B p.length D]) (t:=28) ?hr ?_;(case hd=>rfl);(case hg=>rfl);(case hr=>exact byab);intro J hg w3 hbox hb;have n_:=q_4 (qB byac hb) (hbox) ((bycn:w.heap.size≤J)) ((bycn:w.heap.size≤J));clear HB;obtain⟨HB,s,a9,K⟩:=n_;clear hb hbox hg;obtain⟨U,X,Y,Z,a7,a8⟩:=cz3 s.out)|((with_reducible refine qC (f:=27) rfl ?_);refine qV (some 4) rfl rfl Try.func27 (by kernel_rfl) rfl #[.agg #[.int .i64 z,.int .i64 A,.slice B p.length D],.int .i64 0] rfl byah ?_;(with_reducible refine(jS.calls k z A _ _ p 0 O _ ?side1 ?side2 A2.out).mono ?_);(case side1=>exact byaq L);(case side2=>exact M.out);rintro e w5 ⟨rfl,hb⟩;refine⟨_,rfl,?_⟩;have n_:=q_2 (bbl s hb) (qB (byae K) hb);clear s HB;obtain⟨s,HB⟩:=n_;clear hb));go_ret;exact⟨byad,byae K⟩
end Go.Proofs.Ytkkbdimegpdbgaa.P
