/- Walks: the calls answer as Lean functions say; conditions: each theorem's own. -/
import Derived.Test.YtkkbdimegpdbgaaQwPx10
namespace Go.Proofs.Ytkkbdimegpdbgaa.P
open Go.RowKit Go.Proofs.YtkkbdimegpdbgaaW.PrintWords Go.Proofs.YtkkbdimegpdbgaaW.PrintLast Go.Proofs.YtkkbdimegpdbgaaW.PrintMore
attribute [local go_sem] kK kM Qa Qb uV uU kN kL
set_option linter.unusedVariables false
set_option linter.unusedSimpArgs false
def qE (w0 W:World) (g:Nat) (f0:List Int) (f1:Int):Prop:=∃A0 c0,W.heap[g]? =some (.cells #[.slice A0 f0.length c0,.int .i64 f1] 61 (0,0))∧w0.heap.size≤g∧Kd.C (Kd.int .i64) w0 A0 f0.length f0
theorem qE.grown {w0 W:World} {g:Nat} {f0:List Int} {f1:Int} {W1:World} {row:Option Nat} (h:qE w0 W g f0 f1) (hw:W.grownBy W1 row) (hne:some g≠row):qE w0 W1 g f0 f1:=by
 obtain⟨A0,c0,hb,hg,p⟩:=h;exact⟨A0,c0,jB hb hw hne,hg,p⟩
theorem qE.Zi {w0 W:World} {g:Nat} {f0:List Int} {f1:Int} {α:Type} {d:Kd α} {e:Nat} {base:Nat} {ok:Nat→Prop} {v:Value} {xs:List α} (h:qE w0 W g f0 f1) (ho:Kd.N d e W base ok v xs) (ht:e≠61):some g≠v.ownBlock:=by
 obtain⟨A0,c0,hb,hg,p⟩:=h;exact Kd.N_ne ho hb ht
theorem qE.fresh {w0 W:World} {g:Nat} {f0:List Int} {f1:Int} (h:qE w0 W g f0 f1):∀k,W.heap.size≤k→k≠g:=by
 obtain⟨A0,c0,hb,hg,p⟩:=h;exact Kd.jT hb
theorem qE.kept {w0 W:World} {g:Nat} {f0:List Int} {f1:Int} {W1:World} {S:Nat→Prop} (h:qE w0 W g f0 f1) (hk:Kept W W1 S) (hne:¬S g):qE w0 W1 g f0 f1:=by
 obtain⟨A0,c0,hb,hg,p⟩:=h;exact⟨A0,c0,blk_kept hb hk hne,hg,p⟩
theorem qE.below {w0 W:World} {g:Nat} {f0:List Int} {f1:Int} {W1:World} (h:qE w0 W g f0 f1) (hw:Below W.heap.size W W1):qE w0 W1 g f0 f1:=h.grown (grown_of_below hw none) (by simp)
theorem qE.alloc {w0 W:World} {g:Nat} {f0:List Int} {f1:Int} (h:qE w0 W g f0 f1) (o:Obj):qE w0 (W.alloc o) g f0 f1:=h.below (kD (Below.refl _ _) o)
theorem qE.drewN {w0 W:World} {g:Nat} {f0:List Int} {f1:Int} (h:qE w0 W g f0 f1) (m:Nat):qE w0 (W.drewN m) g f0 f1:=h
theorem qE.drew {w0 W:World} {g:Nat} {f0:List Int} {f1:Int} (h:qE w0 W g f0 f1):qE w0 W.drew g f0 f1:=h
theorem qE.at_ {w0 W:World} {g:Nat} {f0:List Int} {f1:Int} {w':World} {m:Nat} (hq:W.drewN m=w') (h:qE w0 W g f0 f1):qE w0 w' g f0 f1:=by subst hq;exact qE.drewN h m
theorem qE.apart {w0 W:World} {g:Nat} {f0:List Int} {f1:Int} {α:Type} {d:Kd α} {e:Nat} {base:Nat} {ok:Nat→Prop} {v:Value} {xs:List α} (h:qE w0 W g f0 f1) (ho:d.R e W base ok v xs) (ht:∀q,q∈e::d.E→q≠61):d.R e W base (fun k=>ok k∧k≠g) v xs:=by
 obtain⟨A0,c0,hb,hg,p⟩:=h;exact Kd.vP ho hb ht
theorem qE.kRa {w0:World} {g:Nat} {f0:List Int} {f1:Int} {α:Type} {d:Kd α} {e base:Nat} {W0 W:World} {v:Value} {xs:List α} {ok:Nat→Prop} {w1:World} (hI:qE w0 W g f0 f1) (h0:qA (Kd.R d e W0 base ok v xs)) (hk:qP W w1 g none) (hp:Kd.R d e W0 base ok v xs→Kd.R d e W base ok v xs:=by intro a_;repeat(first|(with_reducible exact a_)|(with_reducible refine Kd.uI ?_ _)|(with_reducible refine Kd.uH ?_ _)|(with_reducible refine Kd.uQ ?_)|(with_reducible refine Kd.vU ?_ byaa _)|exact a_)) (ht:∀q,q∈e::d.E→q≠61:=by decide):Kd.R d e w1 base ok v xs:=Kd.vI (Kd.R_keep (qE.apart hI (hp h0.out) ht) hk (fun _ h=>h.2)) (fun _ h=>h.1)
theorem qE.tRa {w0:World} {g:Nat} {f0:List Int} {f1:Int} {α:Type} {d:Kd α} {e base:Nat} {W0 W:World} {v:Value} {xs:List α} {ok:Nat→Prop} {w1:World} {u:Value} (hI:qE w0 W g f0 f1) (h0:qA (Kd.R d e W0 base ok v xs)) (hk:qP W w1 g none) (hb:∀k,u.ownBlock=some k→W.heap.size≤k) (hp:Kd.R d e W0 base ok v xs→Kd.R d e W base ok v xs:=by intro a_;repeat(first|(with_reducible exact a_)|(with_reducible refine Kd.uI ?_ _)|(with_reducible refine Kd.uH ?_ _)|(with_reducible refine Kd.uQ ?_)|(with_reducible refine Kd.vU ?_ byaa _)|exact a_)) (ht:∀q,q∈e::d.E→q≠61:=by decide):Kd.R d e w1 base (fun k=>ok k∧some k≠u.ownBlock) v xs:=Kd.vI (Kd.R_told (Kd.R_oldK (qE.apart hI (hp h0.out) ht) hk) hb) (fun _ h=>h.1)
theorem qE.tRa2 {w0:World} {g:Nat} {f0:List Int} {f1:Int} {α:Type} {d:Kd α} {e base:Nat} {W0 W:World} {v:Value} {xs:List α} {ok:Nat→Prop} {w1:World} {u u2:Value} (hI:qE w0 W g f0 f1) (h0:qA (Kd.R d e W0 base ok v xs)) (hk:qP W w1 g none) (hb:∀k,u.ownBlock=some k→W.heap.size≤k) (hb2:∀k,u2.ownBlock=some k→W.heap.size≤k) (hp:Kd.R d e W0 base ok v xs→Kd.R d e W base ok v xs:=by intro a_;repeat(first|(with_reducible exact a_)|(with_reducible refine Kd.uI ?_ _)|(with_reducible refine Kd.uH ?_ _)|(with_reducible refine Kd.uQ ?_)|(with_reducible refine Kd.vU ?_ byaa _)|exact a_)) (ht:∀q,q∈e::d.E→q≠61:=by decide):Kd.R d e w1 base (fun k=>(ok k∧some k≠u.ownBlock)∧some k≠u2.ownBlock) v xs:=Kd.vI (Kd.R_told (Kd.R_told (Kd.R_oldK (qE.apart hI (hp h0.out) ht) hk) hb) hb2) (fun _ h=>h.1)
theorem qE.own_ne {w0 W:World} {g:Nat} {f0:List Int} {f1:Int} {α:Type} {d:Kd α} {e:Nat} {base:Nat} {ok:Nat→Prop} {v:Value} {xs:List α} (h:qE w0 W g f0 f1) (ho:d.R e W base ok v xs) (ht:e≠61):some g≠v.ownBlock:=by
 obtain⟨A0,c0,hb,hg,p⟩:=h;exact Kd.R_ne ho hb ht
theorem qE.lt {w0 W:World} {g:Nat} {f0:List Int} {f1:Int} (h:qE w0 W g f0 f1):g<W.heap.size:=by
 obtain⟨A0,c0,hb,hg,p⟩:=h;exact blk_lt hb
theorem qE.ge {w0 W:World} {g:Nat} {f0:List Int} {f1:Int} (h:qE w0 W g f0 f1):w0.heap.size≤g:=by
 obtain⟨A0,c0,hb,hg,p⟩:=h;exact hg
theorem qE.ne_blk {w0 W:World} {g:Nat} {f0:List Int} {f1:Int} {a:Nat} {cs:Array Value} {t:TypeId} {fr:Nat × Nat} (h:qE w0 W g f0 f1) (hb2:W.heap[a]? =some (.cells cs t fr)) (ht:t≠61):g≠a:=by
 obtain⟨A0,c0,hb,hg,p⟩:=h;rintro rfl;rw[hb] at hb2;injection hb2 with hb2
 injection hb2 with _ ht2
 exact ht ht2.symm
theorem qE.far {w0 W:World} {g:Nat} {f0:List Int} {f1:Int} {p:Addr} (h:qE w0 W g f0 f1) (hne:g≠p.block) (u:Value):qE w0 (W.setCell p u) g f0 f1:=by
 obtain⟨A0,c0,hb,hg,r⟩:=h;exact⟨A0,c0,Qq hb hne u,hg,r⟩
theorem cellS61_0 {W:World} {g:Nat} {A0:Option Addr} {c0:Nat} {f0:List Int} {f1:Int} (h:W.heap[g]? =some (.cells #[.slice A0 f0.length c0,.int .i64 f1] 61 (0,0))):W.cell? ⟨g,0,none⟩=some (.slice A0 f0.length c0):=(qF h 0).trans rfl
theorem cellS61_1 {W:World} {g:Nat} {A0:Option Addr} {c0:Nat} {f0:List Int} {f1:Int} (h:W.heap[g]? =some (.cells #[.slice A0 f0.length c0,.int .i64 f1] 61 (0,0))):W.cell? ⟨g,1,none⟩=some (.int .i64 f1):=(qF h 1).trans rfl
theorem qE.set_1 {w0 W:World} {g:Nat} {f0:List Int} {f1:Int} (h:qE w0 W g f0 f1) (x:Int):qE w0 (W.setCell ⟨g,1,none⟩ (.int .i64 x)) g f0 x:=by
 obtain⟨A0,c0,hb,hg,p⟩:=h;exact⟨A0,c0,by simpa using blk_set hb 1 (.int .i64 x),hg,p⟩
def Qx.f (l0:List Int):Option (List Int × Int):=if 0≤(mn (l0.length:Int) 400) then(if(mn (l0.length:Int) 400)≤(l0.length:Int) then(some (l0.take ((mn (l0.length:Int) 400):Int).toNat,0)) else(none)) else(none)
set_option maxHeartbeats 8000000 in
set_option maxRecDepth 100000 in
theorem Qx.calls (A0:Option Addr) (c0:Nat) (l0:List Int) (r1:List Int) (r2:Int) (w0 w:World) (hB:Below w0.heap.size w0 w) (D:Kd.C (Kd.int .i64) w0 A0 l0.length l0) (G:l0.length≤c0) (h:Qx.f l0=some (r1,r2)):
  Calls Try.prog 11 #[.slice A0 l0.length c0] w fun e w'=>∃g_:Nat,e=.returned (.pointer (some ⟨g_,0,none⟩))∧qE w0 w' g_ r1 r2∧Below w0.heap.size w0 w'∧Below w.heap.size w w':=by
 have hu61:=Try.underlying61;have I:=qA.mk D;have J:=qA.mk G;clear D G;have HBW:=qA.mk (Below.refl w.heap.size w);have K:=qA.mk hB.size;have HB:=qA.mk hB;clear hB;unfold Qx.f at h;have H:=h;clear h;obtain⟨p,hji2⟩:∃j_:Int,(mn (l0.length:Int) 400)=j_:=⟨_,rfl⟩;(first|rw[hji2] at H|(simp only[hji2] at H));(try(have L:p≤400:=by(rw[← hji2];unfold mn;(repeat' split)<;>omega)));(try(have M:p≤64:=by omega));(try(have O:0≤p:=by(rw[← hji2];unfold mn;(repeat' split)<;>omega)));(try(have T:0≤p:=by omega));have U:(if 400<(l0.length:Int) then 400 else(l0.length:Int))=p:=hji2;by_cases c3:0≤(p)
 ·rw[if_pos c3] at H;have Y:=eq_true c3;have Z:=decide_eq_true c3;clear c3;by_cases c4:(p)≤(l0.length:Int)
  ·rw[if_pos c4] at H;have a7:=eq_true c4;have a8:=decide_eq_true c4;clear c4;simp only[Option.some.injEq,Prod.mk.injEq] at H;obtain⟨rfl,rfl⟩:=H;obtain⟨a9,hi05,_,hsz5,_⟩:=info_parts info3;obtain⟨hcut5,hA5,hC5⟩:=print_take_of (P:=Try.prog) (Value.int .i64) 0 22 3 .i64 Try.underlying22 hi05 hsz5 A0 c0 l0 (p) (of_decide_eq_true byag) (of_decide_eq_true byag) J.out;have z:=qA.mk (Kd.C_of_reads (h1:=fun _=>rfl) (hA5 _ (Kd.reads_of_C I.out)));have X:=qA.mk hC5;clear hA5 hC5 hi05 hsz5;go_enter Try.func11,Try.ntmps11;go_wp2_with (first|((with_reducible refine qH (N:=9) rfl ?_);refine qG ?hg (N:=9) ?hd (cs:=#[.slice A0 (l0.take ((p):Int).toNat).length c0,.int .i64 0]) (t:=61) ?hr ?_;(case hd=>rfl);(case hg=>rfl);(case hr=>exact byab);intro r hg w6 hbox hb;have n_:=q_5 (qB HBW.out hb) (qB byac hb) (hbox) ((byco:w.heap.size≤r)) ((Nat.le_trans K.out (byco:w.heap.size≤r):w0.heap.size≤r));clear HBW HB;obtain⟨HBW,HB,A,B,s⟩:=n_;clear hb hbox hg));go_ret;exact⟨_,rfl,(show qE w0 _ r (l0.take ((p):Int).toNat) 0 from⟨_,_,bq A,s.out,z.out⟩),byae s,by repeat(first|(with_reducible first|exact HBW.out|apply kD|apply uX|apply jC|refine vN ?_ B.out)|exact HBW.out)⟩
  ·rw[if_neg c4] at H;exact absurd H (by simp)
 ·rw[if_neg c3] at H;exact absurd H (by simp)
def qJ.f (r:List Int) (p:Int) (a1:Int):Option (Int × Int):=if p≥(r.length:Int) then(some (0,p)) else(if 0≤p then(if p<(r.length:Int) then(if a1=0 then(none) else(if(Int.tmod (rd r p) a1)<0 then(some (wrap64 ((Int.tmod (rd r p) a1)+a1),wrap64 (p+1))) else(some (Int.tmod (rd r p) a1,wrap64 (p+1))))) else(none)) else(none))
set_option maxHeartbeats 8000000 in
set_option maxRecDepth 100000 in
theorem qJ.calls (g:Nat) (s:List Int) (p:Int) (a1:Int) (r1:Int) (r2:Int) (w0 w:World) (hI:qE w0 w g s p) (hB:Below w0.heap.size w0 w) (h:qJ.f s p a1=some (r1,r2)):
  Calls Try.prog 29 #[.pointer (some ⟨g,0,none⟩),.int .i64 a1] w fun e w'=>e=.returned (.int .i64 r1)∧qE w0 w' g s r2∧Below w0.heap.size w0 w'∧qP w w' g none:=by
 have B:=qA.mk hI;have HK:=qA.mk (qP.refl w g none);have HL:=qA.mk hB.size;clear hI;have aB:=qA.mk hB.size;have HB:=qA.mk hB;clear hB;unfold qJ.f at h;have H:=h;clear h;by_cases c3:p≥(s.length:Int)
 ·rw[if_pos c3] at H;have I:=decide_eq_true c3;clear c3;simp only[Option.some.injEq,Prod.mk.injEq] at H;obtain⟨rfl,rfl⟩:=H;obtain⟨ASz4_0,cSz4_0,HGz4,hgz4,HSz4_0⟩:=B.out;have O:=cellS61_0 HGz4;have T:=cellS61_1 HGz4;have U:=Qe HGz4 1;clear HGz4 hgz4;go_enter Try.func29,Try.ntmps29;go_wp2;repeat(go_quiet (fail);try go_wp2)
  go_ret;exact⟨byad,bybd B,bybe B,bybf⟩
 ·rw[if_neg c3] at H;have I:=decide_eq_false c3;clear c3;by_cases c5:0≤p
  ·rw[if_pos c5] at H;have a7:=decide_eq_true c5;clear c5;by_cases c6:p<(s.length:Int)
   ·rw[if_pos c6] at H;have a8:=decide_eq_true c6;clear c6;by_cases c7:a1=0
    ·rw[if_pos c7] at H;exact absurd H (by simp)
    ·rw[if_neg c7] at H;obtain⟨a9,aA⟩:=eqF c7;by_cases c8:(Int.tmod (rd s p) a1)<0
     ·rw[if_pos c8] at H;have J:=decide_eq_true c8;clear c8;simp only[Option.some.injEq,Prod.mk.injEq] at H;obtain⟨rfl,rfl⟩:=H;obtain⟨ASz9_0,cSz9_0,HGz9,hgz9,HSz9_0⟩:=B.out;have X:=cellS61_0 HGz9;have Y:=cellS61_1 HGz9;have Z:=Qe HGz9 1;clear HGz9 hgz9;have z:0≤(p:Int):=of_decide_eq_true byag;have A:p<(s.length:Int):=of_decide_eq_true byag;obtain⟨G,D,r⟩:=Kd.Qp HSz9_0 p z A
      cases D
      replace r:=Jf HB.out r;replace z:=eq_true z;replace A:=eq_true A;go_enter Try.func29,Try.ntmps29;go_wp2;repeat(go_quiet (fail);try go_wp2)
      go_ret;exact⟨byad,bybd B,bybe B,bybf⟩
     ·rw[if_neg c8] at H;have J:=decide_eq_false c8;clear c8;simp only[Option.some.injEq,Prod.mk.injEq] at H;obtain⟨rfl,rfl⟩:=H;obtain⟨ASz10_0,cSz10_0,HGz10,hgz10,HSz10_0⟩:=B.out;have K:=cellS61_0 HGz10;have L:=cellS61_1 HGz10;have M:=Qe HGz10 1;clear HGz10 hgz10;have z:0≤(p:Int):=of_decide_eq_true byag;have A:p<(s.length:Int):=of_decide_eq_true byag;obtain⟨G,D,r⟩:=Kd.Qp HSz10_0 p z A
      cases D
      replace r:=Jf HB.out r;replace z:=eq_true z;replace A:=eq_true A;go_enter Try.func29,Try.ntmps29;go_wp2;repeat(go_quiet (fail);try go_wp2)
      go_ret;exact⟨byad,bybd B,bybe B,bybf⟩
   ·rw[if_neg c6] at H;exact absurd H (by simp)
  ·rw[if_neg c5] at H;exact absurd H (by simp)
def zO.f (r:List Int) (s:Int) (a1:Int) (a2:Int):Option (Int × Int):=(qJ.f r s (wrap64 ((wrap64 (a2 - a1))+1))).bind fun p=>(some (wrap64 (a1+p.1),p.2))
set_option maxHeartbeats 8000000 in
set_option maxRecDepth 100000 in
theorem zO.calls (g:Nat) (p:List Int) (s:Int) (a1:Int) (a2:Int) (r1:Int) (r2:Int) (w0 w:World) (hI:qE w0 w g p s) (hB:Below w0.heap.size w0 w) (h:zO.f p s a1 a2=some (r1,r2)):
  Calls Try.prog 28 #[.pointer (some ⟨g,0,none⟩),.int .i64 a1,.int .i64 a2] w fun e w'=>e=.returned (.int .i64 r1)∧qE w0 w' g p r2∧Below w0.heap.size w0 w'∧qP w w' g none:=by
 have r:=qA.mk hI;have HK:=qA.mk (qP.refl w g none);have HL:=qA.mk hB.size;clear hI;have D:=qA.mk hB.size;have HB:=qA.mk hB;clear hB;unfold zO.f at h;have H:=h;clear h;replace H:=Option.bind_eq_some_iff.mp H;obtain⟨⟨z,A⟩,B,H⟩:=H;(try dsimp only at H);have A4:=qA.mk B;clear B;simp only[Option.some.injEq,Prod.mk.injEq] at H;obtain⟨rfl,rfl⟩:=H;go_enter Try.func28,Try.ntmps28;go_wp2_with (first|((with_reducible refine qC (f:=29) rfl ?_);refine qV (some 13) rfl rfl Try.func29 (by kernel_rfl) rfl #[.pointer (some ⟨g,0,none⟩),.int .i64 (wrap64 ((wrap64 (a2 - a1))+1))] rfl byah ?_;(with_reducible refine(qJ.calls g p s (wrap64 ((wrap64 (a2 - a1))+1)) z A w0 _ ?side1 ?side2 A4.out).mono ?_);(case side1=>exact bybd r);(case side2=>exact bybe r);rintro e w5 ⟨rfl,hi,hb,hk⟩;refine⟨_,rfl,?_⟩;have n_:=q_3 (kt hk bybf) (hb) (hi);clear HK HB r;obtain⟨HK,HB,r⟩:=n_;clear hb hk hi));go_ret;exact⟨byad,bybd r,bybe r,bybf⟩
def jI.f (r:List Int) (s:Int) (l1:List Int):Option (Int × Int):=(qJ.f r s (l1.length:Int)).bind fun p=>(if 0≤p.1 then(if p.1<(l1.length:Int) then(some (rd l1 p.1,p.2)) else(none)) else(none))
set_option maxHeartbeats 8000000 in
set_option maxRecDepth 100000 in
theorem jI.calls (g:Nat) (s:List Int) (A:Int) (A1:Option Addr) (c1:Nat) (l1:List Int) (r1:Int) (r2:Int) (w0 w:World) (hI:qE w0 w g s A) (hB:Below w0.heap.size w0 w) (I:Kd.C (Kd.int .i64) w A1 l1.length l1) (J:l1.length≤c1) (hf1:∀ad,A1=some ad→0<l1.length→ad.block≠g) (h:jI.f s A l1=some (r1,r2)):
  Calls Try.prog 33 #[.pointer (some ⟨g,0,none⟩),.slice A1 l1.length c1] w fun e w'=>e=.returned (.int .i64 r1)∧qE w0 w' g s r2∧Below w0.heap.size w0 w'∧qP w w' g none:=by
 have O:=qA.mk I;have X:=qA.mk J;clear I J;have z:=qA.mk hI;have HK:=qA.mk (qP.refl w g none);have HL:=qA.mk hB.size;clear hI;have Y:=qA.mk hB.size;have HB:=qA.mk hB;clear hB;unfold jI.f at h;have H:=h;clear h;replace H:=Option.bind_eq_some_iff.mp H;obtain⟨⟨p,K⟩,L,H⟩:=H;(try dsimp only at H);have A3:=qA.mk L;clear L;by_cases c4:0≤p
 ·rw[if_pos c4] at H;have T:=decide_eq_true c4;clear c4;by_cases c5:p<(l1.length:Int)
  ·rw[if_pos c5] at H;have U:=decide_eq_true c5;clear c5;simp only[Option.some.injEq,Prod.mk.injEq] at H;obtain⟨rfl,rfl⟩:=H;go_enter Try.func33,Try.ntmps33;go_wp2_with (first|((with_reducible refine qC (f:=29) rfl ?_);refine qV (some 9) rfl rfl Try.func29 (by kernel_rfl) rfl #[.pointer (some ⟨g,0,none⟩),.int .i64 (l1.length:Int)] rfl byah ?_;(with_reducible refine(qJ.calls g s A (l1.length:Int) p K w0 _ ?side1 ?side2 A3.out).mono ?_);(case side1=>exact bybd z);(case side2=>exact bybe z);rintro e w6 ⟨rfl,hi,hb,hk⟩;refine⟨_,rfl,?_⟩;have n_:=q_3 (kt hk bybf) (hb) (hi);clear HK HB z;obtain⟨HK,HB,z⟩:=n_;clear hb hk hi;have B:0≤(p:Int):=of_decide_eq_true byag;have D:p<(l1.length:Int):=of_decide_eq_true byag;obtain⟨G,M,r⟩:=Kd.Qp O.out p B D;cases M;replace r:=keep_cell HK.out r (by first|(rw[add_block];exact hf1 _ rfl (by omega))|exact hf1 _ rfl (by omega)|exact hf1 G rfl (by omega));replace B:=eq_true B;replace D:=eq_true D));go_ret;exact⟨byad,bybd z,bybe z,bybf⟩
  ·rw[if_neg c5] at H;exact absurd H (by simp)
 ·rw[if_neg c4] at H;exact absurd H (by simp)
mutual
def zA.l0:Nat→Int→List Int→Int→List Int→Int→Option (List Int × Int)
 |0,_,_,_,_,_=>none
 |k+1,x1,x5,x6,p,r=>if x6<x1 then(if x5.length<17592186044416 then(zA.l0 k x1 (x5++[x6]) (wrap64 (x6+1)) p r) else(none)) else(zA.l1 k x5 (wrap64 (x1 - 1)) p r)
def zA.l1:Nat→List Int→Int→List Int→Int→Option (List Int × Int)
 |0,_,_,_,_=>none
 |k+1,x5,x7,p,r=>if x7>0 then((qJ.f p r (wrap64 (x7+1))).bind fun s=>(if 0≤s.1 then(if s.1<(x5.length:Int) then(if 0≤x7 then(if x7<(x5.length:Int) then(zA.l1 k ((x5.set (x7:Int).toNat (rd x5 s.1)).set (s.1:Int).toNat (rd x5 x7)) (wrap64 (x7 - 1)) p s.2) else(none)) else(none)) else(none)) else(none))) else(some (x5,r))
end
def zA.f (k:Nat) (p:List Int) (r:Int) (a1:Int):Option (List Int × Int):=zA.l0 k a1 ([]:List Int) 0 p r
def zA.T10:Bool × List (List Nat × List Nat):=(true,[([],[]),([],[]),([],[]),([],[]),([],[]),([],[]),([4,5],[4,5]),([6],[6]),([],[]),([],[]),([8,9],[8,9]),([10],[10]),([0,1,0,1,4,5,6,7,11],[0,1]),([12,7,0,1,4,5,6,7,11],[7,12]),([2,3,0,1,2,3,4,5,6,7,8,9,10,11,12,13],[2,3]),([14,11,13,0,1,2,3,4,5,6,7,8,9,10,11,12,13],[11,14])])
def zA.B10:List Nat:=[0,0,0,0,0,0,48,112,0,0,768,1792,4083,8179,16383,32767]
theorem zA.tab10:rtab .any (opsOf Try.f64 10)=zA.T10:=by kernel_rfl
theorem zA.bits10:Q9 zA.T10.2 zA.B10=true:=by kernel_rfl
set_option maxHeartbeats 8000000 in
set_option maxRecDepth 100000 in
theorem zA.calls (k:Nat) (g:Nat) (D:List Int) (U:Int) (a1:Int) (r1:List Int) (r2:Int) (w0 w:World) (hI:qE w0 w g D U) (hB:Below w0.heap.size w0 w) (h:zA.f k D U a1=some (r1,r2)):
  Calls Try.prog 64 #[.pointer (some ⟨g,0,none⟩),.int .i64 a1] w fun e w'=>∃aW:Value,e=.returned (aW)∧Kd.R (Kd.int .i64) 3 w' w.heap.size (fun _=>True) aW r1∧qE w0 w' g D r2∧Below w0.heap.size w0 w'∧qP w w' g none:=by
 have s:=qA.mk hI;have HK:=qA.mk (qP.refl w g none);have HL:=qA.mk hB.size;clear hI;have bG:=qA.mk hB.size;have HB:=qA.mk hB;clear hB;unfold zA.f at h;have H:=h;clear h;have H':=qA.mk H;clear H;go_enter Try.func64,Try.ntmps64;go_wp2;go_loopg [5,6] k (fun kq v5 v6 w'=>∃(I:List Int) (G:Int),v6=.int .i64 G∧qA (zA.l0 kq a1 I G D U=some (r1,r2))∧qA (kq≤k)∧qA (Kd.R (Kd.int .i64) 3 w' w.heap.size (fun _=>True) v5 I)∧qA (qE w0 w' g D U)∧qA (qP w w' g none)∧qA (Below w0.heap.size w0 w'));case atStart=>exact⟨(([]:List Int)),(0),byaf,H',⟨Nat.le_refl _⟩,⟨byav⟩,⟨bybd s⟩,⟨bybf⟩,⟨bybe s⟩⟩
 case round=>
  clear H';obtain⟨I,G,rfl,HA,HK1,p,s,HK,HB⟩:=hrel
  cases gk with
  |zero=>exact absurd HA.out (by simp[zA.l0])
  |succ k1=>
   have H:=HA.out;clear HA;simp only[zA.l0] at H;by_cases c3:G<a1
   ·rw[if_pos c3] at H;have aX:=decide_eq_true c3;clear c3;by_cases c4:I.length<17592186044416
    ·rw[if_pos c4] at H;have LMc4:=qA.mk c4;clear c4;(first|(with_reducible have n_:=bS H;obtain⟨aD,M,H⟩:=n_)|(obtain⟨aD,M⟩:∃y_:List Int,y_=(I++[G]):=⟨_,rfl⟩;rw[← M] at H));(try dsimp only at H);have Ny312:=qA.mk M;clear M;have H':=qA.mk H;clear H;go_wp2_with (first|((with_reducible refine vS (b:=.append) (xs:=#[.tmp 14,.tmp 16]) rfl ?_);at_builtin;refine Kd.Q8 (Kd.int .i64) w.heap.size rfl (.tmp 14) (.tmp 16) 22 3 (.int .i64 0) 8 rfl Try.underlying22 info3 rfl (by decide) (by omega) u5 I G [.int .i64 G] (fun _=>True) (fun _=>False) rfl rfl ?aP (fun _ hk=>hk.elim) ?aF ?aO (Below.refl _ _) ?aS ?aL ?_;(case aP=>exact rfl);(case aF=>exact(fun _ _=>trivial));(case aO=>exact(pXR p));(case aS=>exact(qK (w:=w) (g:=g) (row:=none) bybf));(case aL=>have:=LMc4.out;omega);intro bA w5 ho hb hg hat;rw[← Ny312.out] at ho;have n_:=q_4 (qE.grown (bybd s) hg (qE.own_ne s.out p.out (by decide))) (uB (bybe s) HL.out hb) (qP.trans bybf (qP.kR hg g) (Kd.Zr p.out)) (ho);clear s HB HK p;obtain⟨s,HB,HK,aM⟩:=n_;clear ho hb hg hat));go_roundg k1;case measure=>have:=HK1.out;omega
     case rel=>exact⟨(aD),(wrap64 (G+1)),byaf,H',⟨byai⟩,⟨pXR aM⟩,⟨bybd s⟩,⟨bybf⟩,⟨bybe s⟩⟩
    ·rw[if_neg c4] at H;exact absurd H (by simp)
   ·rw[if_neg c3] at H;have aX:=decide_eq_false c3;clear c3;have H':=qA.mk H;clear H;go_wp2;go_loopg [7] k1 (fun kq v7 w'=>∃(z:List Int) (r:Int) (B:Int),v7=.int .i64 r∧qA (zA.l1 kq z r D B=some (r1,r2))∧qA (kq≤k1)∧qA (Kd.R (Kd.int .i64) 3 w' w.heap.size (fun _=>True) u5 z)∧qA (qE w0 w' g D B)∧qA (qP w w' g none)∧qA (Below w0.heap.size w0 w'));case atStart=>exact⟨(I),(wrap64 (a1 - 1)),(U),byaf,H',⟨Nat.le_refl _⟩,⟨pXR p⟩,⟨bybd s⟩,⟨bybf⟩,⟨bybe s⟩⟩
    case round=>
     clear H';obtain⟨z,r,B,rfl,HA,HK2,p,s,HK,HB⟩:=hrel
     cases gk with
     |zero=>exact absurd HA.out (by simp[zA.l1])
     |succ k2=>
      have H:=HA.out;clear HA;simp only[zA.l1] at H;by_cases c6:r>0
      ·rw[if_pos c6] at H;have aY:=decide_eq_true c6;clear c6;replace H:=Option.bind_eq_some_iff.mp H;obtain⟨⟨A,aE⟩,aZ,H⟩:=H;(try dsimp only at H);have A7:=qA.mk aZ;clear aZ;by_cases c8:0≤A
       ·rw[if_pos c8] at H;have bB:=decide_eq_true c8;clear c8;by_cases c9:A<(z.length:Int)
        ·rw[if_pos c9] at H;have bC:=decide_eq_true c9;clear c9;by_cases c10:0≤r
         ·rw[if_pos c10] at H;have b4:=decide_eq_true c10;clear c10;by_cases aA:r<(z.length:Int)
          ·rw[if_pos aA] at H;have b5:=decide_eq_true aA;clear aA;(first|(with_reducible have n_:=bS H;obtain⟨aG,O,H⟩:=n_)|(obtain⟨aG,O⟩:∃y_:List Int,y_=(z.set (r:Int).toNat (rd z A)):=⟨_,rfl⟩;rw[← O] at H));(try dsimp only at H);have Ny319:=qA.mk O;clear O;(first|(with_reducible have n_:=bS H;obtain⟨aH,T,H⟩:=n_)|(obtain⟨aH,T⟩:∃y_:List Int,y_=(aG.set (A:Int).toNat (rd z r)):=⟨_,rfl⟩;rw[← T] at H));(try dsimp only at H);have Ny320:=qA.mk T;clear T;have H':=qA.mk H;clear H;(try go_wp2_with (first|((with_reducible refine qC (f:=29) rfl ?_);refine qV (some 27) rfl rfl Try.func29 (by kernel_rfl) rfl #[.pointer (some ⟨g,0,none⟩),.int .i64 (wrap64 (r+1))] rfl byah ?_;(with_reducible refine(qJ.calls g D B (wrap64 (r+1)) A aE w0 _ ?side1 ?side2 A7.out).mono ?_);(case side1=>exact bybd s);(case side2=>exact bybe s);rintro e b6 ⟨rfl,hi,hb,hk⟩;refine⟨_,rfl,?_⟩;have n_:=q_4 (qE.kRa (show qE w0 _ g D B from bybd s) p hk) (kt hk bybf) (hb) (hi);clear p HK HB s;obtain⟨p,HK,HB,s⟩:=n_;clear hb hk hi)));have n_:=q_4 (Kd.uQ p.out) (qE.drew s.out) (Qy HK.out) (jC HB.out);clear p s HK HB;obtain⟨p,s,HK,HB⟩:=n_;obtain⟨bD,bE,aI⟩:=Kd.vK p.out;(first|subst aI|(injection aI with b0 b7 b1;have b8:=b0.symm;have b9:=b1.symm;clear b0 b7 b1;subst b8;subst b9));have X:0≤(A:Int):=of_decide_eq_true byag;have Y:A<(z.length:Int):=of_decide_eq_true byag;obtain⟨aN,b2,J⟩:=Kd.Qp (Kd.uO p.out).2.2 A X Y
           cases b2
           replace X:=eq_true X;replace Y:=eq_true Y;have Z:0≤(r:Int):=of_decide_eq_true byag;have a7:r<(z.length:Int):=of_decide_eq_true byag;obtain⟨aQ,b3,L⟩:=Kd.Qp (Kd.uO p.out).2.2 r Z a7;obtain rfl:aN=aQ:=(by injection b3);replace Z:=eq_true Z;replace a7:=eq_true a7;have aR:0≤(r:Int):=of_decide_eq_true byag;have aT:(r:Int)<((z.length:Int):Int):=of_decide_eq_true byag;obtain⟨go12,bF,aJ,aK,gl12,cl12,HG12⟩:=Kd.R_form p.out (by omega);(first|cases aJ|(injection aJ with ea_ en_ ec_;(first|subst ea_|(injection ea_ with ea_;subst ea_));subst ec_;clear en_));have GB12:=qA.mk aK;have GG12:=qA.mk HG12;clear aK gl12 HG12;(first|simp only[add_plain] at J|skip);(first|simp only[add_plain] at L|skip);obtain⟨aB,hf12_0⟩:=Kd.R_celln 0 p.out (r:Int) aR aT;replace aR:=eq_true aR;replace aT:=eq_true aT;have HN0_go12:=qA.mk (show g≠go12 from by have h_:=qE.own_ne s.out p.out (by decide);intro e_;exact h_ (by rw[e_];rfl));have a8:=Kd.R_putn p.out (r:Int) (rd z A);rw[← Ny319.out] at a8;have HQ17:=qA.mk a8;clear a8;have aU:0≤(A:Int):=of_decide_eq_true byag;have aV:(A:Int)<((z.length:Int):Int):=of_decide_eq_true byag;obtain⟨aC,hf13_0⟩:=Kd.R_celln 0 HQ17.out (A:Int) aU aV;replace aU:=eq_true aU;replace aV:=eq_true aV;have HN0_go12:=qA.mk (show g≠go12 from by have h_:=qE.own_ne s.out p.out (by decide);intro e_;exact h_ (by rw[e_];rfl));have a9:=Kd.R_putn HQ17.out (A:Int) (rd z r);rw[← Ny320.out] at a9;have HQ18:=qA.mk a9;clear a9;refine kX (n:=16) (S:=fun w'=>w'.cell? ⟨go12,(A).toNat,none⟩=some (.int .i64 (rd z A))∧w'.cell? ⟨go12,(r).toNat,none⟩=some (.int .i64 (rd z r))) (ds:=[13,15]) (bb 16 0) (by kernel_rfl) rfl rfl ⟨J,L⟩ (fun hHeld=>?_);refine uY zA.tab10 zA.bits10 (fun HT_ HW_=>?_);generalize b6.drew=bH at p s HK HB GG12 HQ17 HQ18 hf12_0 hf13_0 aB aC J L hHeld ⊢
           refine qM (i:=0) (N:=some 28) (bb 16 1) ?_;refine qM (i:=1) (N:=some 29) (bb 16 3) ?_;refine qM (i:=2) (N:=some 30) (bb 16 7) ?_;refine qM (i:=3) (N:=some 31) (bb 16 15) ?_;refine qM (i:=4) (N:=some 32) (bb 16 31) ?_;refine qM (i:=5) (N:=some 33) (bb 16 63) ?_;refine qM (i:=6) (N:=some 34) (bb 16 127) ?_;refine qM (i:=8) (N:=some 36) (bb 16 383) ?_;refine qM (i:=9) (N:=some 37) (bb 16 895) ?_;refine qM (i:=10) (N:=some 38) (bb 16 1919) ?_;refine takeZH (i:=7) (N:=some 35) (bb 16 2047) hHeld ?_;refine takeZH (i:=11) (N:=some 39) (bb 16 4095) hHeld ?_;refine qM (i:=12) (N:=some 40) (bb 16 8191) ?_;refine last_ (i:=13) (N:=none) (bb 16 16383) rfl rfl (uM HT_.out (by kernel_rfl)) (by decide) (fun K hK=>?_);refine skip_ (w1:=?_) (by rfl) rfl ?_ ?_;rotate_left
           ·go_simp;rfl
           refine hK.out _ _ ?_;clear hK K;refine qM (i:=14) (N:=some 41) (bb 16 32767) ?_;refine last_ (i:=15) (N:=none) (bb 16 65535) rfl rfl (uM HT_.out (by kernel_rfl)) (by decide) (fun K hK=>?_);refine skip_ (w1:=?_) (by rfl) rfl ?_ ?_;rotate_left
           ·go_simp;rfl
           refine hK.out _ _ ?_;clear hK K;refine Qv (Qd HT_.out (by kernel_rfl)) ?_;(try go_wp2);go_roundg k2;case measure=>have:=HK1.out;have:=HK2.out;omega
           case rel=>exact⟨(aH),(wrap64 (r - 1)),(aE),byaf,H',⟨byar⟩,⟨by(with_reducible repeat(first|apply Kd.uI|apply Kd.uH|apply Kd.uQ));exact HQ18.out⟩,⟨by repeat(first|(with_reducible first|exact s.out|apply qE.alloc|apply qE.drewN|apply qE.drew|apply qE.set_1|refine qE.far ?_ HN0_go12.out _|refine qE.far ?_ HN0_go12.out _)|exact s.out)⟩,⟨by repeat(first|(with_reducible first|exact HK.out|apply qP.set_|apply keep_drewN|apply Qy|apply keep_alloc|refine Zv ?_ GB12.out _|refine Zv ?_ GB12.out _)|exact HK.out)⟩,⟨by repeat(first|(with_reducible first|exact HB.out|apply kD|apply uX|apply jC|refine vN ?_ (Nat.le_trans HL.out GB12.out)|refine vN ?_ (Nat.le_trans HL.out GB12.out)|refine vN ?_ (qE.ge s.out))|exact HB.out)⟩⟩
          ·rw[if_neg aA] at H;exact absurd H (by simp)
         ·rw[if_neg c10] at H;exact absurd H (by simp)
        ·rw[if_neg c9] at H;exact absurd H (by simp)
       ·rw[if_neg c8] at H;exact absurd H (by simp)
      ·rw[if_neg c6] at H;have aY:=decide_eq_false c6;clear c6;simp only[Option.some.injEq,Prod.mk.injEq] at H;obtain⟨rfl,rfl⟩:=H;go_wp2;go_ret;exact⟨_,byad,pXR p,bybd s,bybe s,bybf⟩
end Go.Proofs.Ytkkbdimegpdbgaa.P
