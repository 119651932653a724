/- What the tape gives, and the configurations that are made from it: from 1 to n members, each undeclared and blank, or declared with a trust that is right over the members; conditions: n from 1 to 10. -/
import Derived.Test.YtkkbdimegpdbgaaQwM3
import Derived.Test.YtkkbdimegpdbgaaQwPx16
namespace Go.Proofs.Ytkkbdimegpdbgaa.P
open Go.RowKit Go.Proofs.YtkkbdimegpdbgaaW.PrintWords Go.Proofs.YtkkbdimegpdbgaaW.PrintLast Go.Proofs.YtkkbdimegpdbgaaW.PrintMore
set_option linter.unusedVariables false
set_option linter.unusedSimpArgs false
def TapeOk (l:List Int) (a:Int):Prop:=l.length≤1000∧0≤a∧a≤1000
theorem tape_new (l:List Int):∃r,TapeOk r.1 r.2∧Qx.f l=some r:=by
  unfold Qx.f mn;refine⟨(l.take (if 400<(l.length:Int) then 400 else(l.length:Int)).toNat,0),⟨?_,by simp,by simp⟩, ?_⟩
  · simp only[List.length_take];split <;> omega
  · rw[if_pos (by split <;> omega),if_pos (by split <;> omega)]
theorem tapeN {l:List Int} {a n:Int} (h:TapeOk l a) (h1:1≤n) (h2:n≤2305843009213693952):∃r,(0≤r.1∧r.1<n∧TapeOk l r.2)∧qJ.f l a n=some r:=by
  obtain⟨hl,h3,h4⟩:=h;unfold qJ.f;by_cases ha:a≥(l.length:Int)
  · exact⟨(0,a),⟨Int.le_refl _,by show(0:Int)<n;omega,hl,h3,h4⟩,by rw[if_pos ha]⟩
  · have e1:=Int.tmod_lt_of_pos (rd l a) (show 0<n by omega);have e2:=Int.lt_tmod_of_pos (rd l a) (show 0<n by omega);have ha':wrap64 (a+1)=a+1:=wrap64_id (by omega) (by omega);by_cases hs:Int.tmod (rd l a) n<0
    · refine⟨(Int.tmod (rd l a) n+n,a+1),⟨by show 0≤Int.tmod (rd l a) n+n;omega,by show Int.tmod (rd l a) n+n<n;omega,hl,by show 0≤a+1;omega,by show a+1≤1000;omega⟩, ?_⟩;rw[if_neg ha,if_pos h3,if_pos (by omega),if_neg (by omega),if_pos hs,ha',wrap64_id (by omega) (by omega)]
    · refine⟨(Int.tmod (rd l a) n,a+1),⟨by show 0≤Int.tmod (rd l a) n;omega,e1,hl,by show 0≤a+1;omega,by show a+1≤1000;omega⟩, ?_⟩;rw[if_neg ha,if_pos h3,if_pos (by omega),if_neg (by omega),if_neg hs,ha']
theorem tapeRange {l:List Int} {a lo hi:Int} (h:TapeOk l a) (h1:lo≤hi) (h0: -1000000≤lo) (h2:hi≤1000000):∃r,(lo≤r.1∧r.1≤hi∧TapeOk l r.2)∧zO.f l a lo hi=some r:=by
  unfold zO.f;rw[wrap64_id (i:=hi - lo) (by omega) (by omega),wrap64_id (i:=hi - lo+1) (by omega) (by omega)];obtain⟨r,⟨h3,h4,h5⟩,he⟩:=tapeN h (n:=hi - lo+1) (by omega) (by omega);rw[he];exact⟨(lo+r.1,r.2),⟨by show lo≤lo+r.1;omega,by show lo+r.1≤hi;omega,h5⟩,by simp only[Option.bind_some];rw[wrap64_id (by omega) (by omega)]⟩
theorem tapePick {l:List Int} {a:Int} (p:List Int) (h:TapeOk l a) (h1:1≤p.length) (h2:p.length≤1000):∃r,(r.1∈p∧TapeOk l r.2)∧jI.f l a p=some r:=by
  unfold jI.f;obtain⟨⟨i,b⟩,⟨h3,h4,h5⟩,he⟩:=tapeN h (n:=(p.length:Int)) (by omega) (by omega);rw[he];obtain⟨n,rfl⟩:=Int.eq_ofNat_of_zero_le h3;have hlt:n<p.length:=by omega
  refine⟨(p[n],b),⟨List.getElem_mem hlt,h5⟩, ?_⟩;simp only[Option.bind_some];rw[if_pos (by omega),if_pos (by omega),rd_get hlt]
def OrderOk (n:Nat) (xs:List Int):Prop:=xs.length=n∧(∀x∈xs,0≤x∧x<(n:Int))∧xs.Nodup
theorem nodup_inj {α:Type} {l:List α} (h:l.Nodup) {i j:Nat} (hi:i<l.length) (hj:j<l.length) (e:l[i]=l[j]):i=j:=by
  have h:=List.pairwise_iff_getElem.1 h;rcases Nat.lt_trichotomy i j with h1|h1|h1
  · exact absurd e (h i j hi hj h1)
  · exact h1
  · exact absurd e.symm (h j i hj hi h1)
theorem order_swap {n:Nat} {xs:List Int} (h:OrderOk n xs) {i j:Nat} (hi:i<n) (hj:j<n):OrderOk n ((xs.set i (rd xs (j:Int))).set j (rd xs (i:Int))):=by
  obtain⟨h1,h2,h3⟩:=h;rw[rd_get (by omega),rd_get (by omega)];have hlen:((xs.set i xs[j]).set j xs[i]).length=n:=by simp[h1]
  have hget:∀k (hk:k<((xs.set i xs[j]).set j xs[i]).length),((xs.set i xs[j]).set j xs[i])[k]=xs[if k=j then i else if k=i then j else k]'(by rw[hlen] at hk;split <;> (try split) <;> omega):=by
    intro k hk;rw[List.getElem_set,List.getElem_set];by_cases e1:j=k
    · subst e1;simp
    · have e1':¬k=j:=fun e=>e1 e.symm
      by_cases e2:i=k
      · subst e2;simp[e1,e1']
      · have e2':¬k=i:=fun e=>e2 e.symm
        simp[e1,e1',e2,e2']
  refine⟨hlen,fun x hx=> ?_, ?_⟩
  · obtain⟨k,hk,rfl⟩:=List.getElem_of_mem hx;rw[hget];exact h2 _ (List.getElem_mem _)
  · refine List.pairwise_iff_getElem.2 fun a b ha hb hab=> ?_
    rw[hget,hget];intro e;have:=nodup_inj h3 _ _ e;revert this;split <;> split <;> (try split) <;> (try split) <;> omega
theorem order_l1 {l:List Int} {n:Nat} (hn:n≤1100):∀(j:Nat) (xs:List Int) (a:Int),OrderOk n xs→TapeOk l a→(j=0∨j<n)→
    Tot (fun k=>zA.l1 k xs (j:Int) l a) (fun r=>OrderOk n r.1∧TapeOk l r.2):=by
  intro j
  induction j with
  |zero=>
    intro xs a h ht _;refine Tot.step (fun k=>by rw[zA.l1]) ?_;exact Tot.neg (by omega) (Tot.now ⟨h,ht⟩)
  |succ j ih=>
    intro xs a h ht hj;have hj':j+1<n:=by omega
    refine Tot.step (fun k=>by rw[zA.l1]) ?_;refine Tot.pos (by omega) ?_;rw[succ64 (by omega)];refine Tot.bindP (tapeN ht (n:=((j+1+1:Nat):Int)) (by omega) (by omega)) ?_;rintro⟨i,b⟩ ⟨h0,h1,h2⟩;obtain⟨i,rfl⟩:=Int.eq_ofNat_of_zero_le h0;have hlen:=h.1;refine Tot.pos (by show(0:Int)≤(i:Int);omega) (Tot.pos (by show(i:Int)<(xs.length:Int);simp only at h1;omega) (Tot.pos (by omega) (Tot.pos (by omega) ?_)));rw[wrap64_id (i:=((j+1:Nat):Int) - 1) (by omega) (by omega),show((j+1:Nat):Int) - 1=(j:Int) by omega];simp only[Int.toNat_natCast];refine ih _ _ (order_swap h hj' ?_) h2 (by omega);simp only at h1;omega
theorem order_l0 {l:List Int} {n:Nat} (hn:n≤1100) (hn0:1≤n) {a:Int} (ht:TapeOk l a):∀(d i:Nat),n - i=d→i≤n→
    Tot (fun k=>zA.l0 k (n:Int) (casts (List.range i)) (i:Int) l a) (fun r=>OrderOk n r.1∧TapeOk l r.2):=by
  intro d
  induction d with
  |zero=>
    intro i hd hi;obtain rfl:i=n:=by omega
    refine Tot.step (fun k=>by rw[zA.l0]) ?_;refine Tot.neg (by omega) ?_;rw[wrap64_id (by omega) (by omega),show(i:Int) - 1=((i - 1:Nat):Int) by omega];refine order_l1 hn _ _ _ ⟨by simp[casts],fun x hx=> ?_, ?_⟩ ht (by omega)
    · simp only[casts,List.mem_map,List.mem_range] at hx;obtain⟨y,hy,rfl⟩:=hx;omega
    · unfold casts;refine List.pairwise_iff_getElem.2 fun p q hp hq hpq=> ?_
      simp at hp hq ⊢;omega
  |succ d ih=>
    intro i hd hi;refine Tot.step (fun k=>by rw[zA.l0]) ?_;refine Tot.pos (by omega) (Tot.pos (by simp[casts];omega) ?_);rw[succ64 (by omega)];have:=ih (i+1) (by omega) (by omega);rw[List.range_succ,casts_append] at this;exact this
theorem order_ok {l:List Int} {n:Nat} (hn:n≤10) (hn0:1≤n) {a:Int} (ht:TapeOk l a):Tot (fun k=>zA.f k l a (n:Int)) (fun r=>OrderOk n r.1∧TapeOk l r.2):=by
  unfold zA.f;exact order_l0 (by omega) hn0 ht n 0 (by omega) (by omega)
def NodesOk (m:Nat) (ns:List Int):Prop:=ns.length≤10∧(∀k∈ns,0≤k∧k<(m:Int))∧ns.Nodup
def FlatT (m:Nat) (t:S56):Prop:=t.f2=[]∧1≤t.f0∧t.f0≤(t.f1.length:Int)∧NodesOk m t.f1
def GenT (m:Nat) (t:S56):Prop:=1≤t.f0∧t.f0≤(t.f1.length:Int)+(t.f2.length:Int)∧NodesOk m t.f1∧t.f2.length≤3∧∀x∈t.f2,FlatT m x
theorem FlatT.gen {m:Nat} {t:S56} (h:FlatT m t):GenT m t:=by
  obtain⟨h1,h2,h3,h4⟩:=h;refine⟨h2,by rw[h1];simp;exact h3,h4,by rw[h1];simp,by rw[h1];simp⟩
def mkT (r:Int × List Int × List S56 × Int):S56:=⟨r.1,r.2.1,r.2.2.1⟩
theorem nodes_take {m n:Nat} {xs:List Int} (h:OrderOk m xs) (hm:m≤10):NodesOk m (xs.take n):=by
  refine⟨?_,fun k hk=>h.2.1 k (List.mem_of_mem_take hk),h.2.2.sublist (List.take_sublist _ _)⟩;rw[List.length_take,h.1];omega
theorem mn_le (a b:Int):mn a b≤a∧mn a b≤b∧(mn a b=a∨mn a b=b):=by unfold mn;split <;> omega
theorem mx_ge (a b:Int):a≤mx a b∧b≤mx a b∧(mx a b=a∨mx a b=b):=by unfold mx;split <;> omega
theorem trust1_l0 {l:List Int} {m:Nat} (hm:m≤10) {a:Int} (ht:TapeOk l a) (y:List Int) (hy:NodesOk m y) (hy0:1≤y.length):∀(d i:Nat),y.length - i=d→i≤y.length→
    Tot (fun k=>zB.l0 k (m:Int) 1 y (y.length:Int) (i:Int) l a 0 (y.take i)) (fun r=>FlatT m (mkT r)∧TapeOk l r.2.2.2):=by
  have hy1:=hy.1;intro d
  induction d with
  |zero=>
    intro i hd hi;refine Tot.step (fun k=>by rw[zB.l0]) ?_;refine Tot.neg (by omega) (Tot.neg (by decide) ?_);rw[List.take_of_length_le (by omega)];rw[wrap64_id (by simp only[List.length_nil];omega) (by simp only[List.length_nil];omega)];refine Tot.bindP (tapeRange ht (lo:=1) (by simp only[List.length_nil];omega) (by omega) (by simp only[List.length_nil];omega)) ?_;rintro⟨x,b⟩ ⟨h1,h2,h3⟩;refine Tot.now ⟨⟨rfl,h1, ?_,hy⟩,h3⟩;simpa[mkT] using h2
  |succ d ih=>
    intro i hd hi;have hlt:i<y.length:=by omega
    refine Tot.step (fun k=>by rw[zB.l0]) ?_;refine Tot.pos (by omega) (Tot.pos (by omega) (Tot.pos (by omega) (Tot.pos (by rw[List.length_take];omega) ?_)));rw[rd_get hlt,succ64 (by omega)];have:=ih (i+1) (by omega) (by omega);rwa [List.take_succ_eq_append_getElem hlt] at this
theorem trust1_ok {l:List Int} {m:Nat} (hm:m≤10) (hm0:1≤m) {a:Int} (ht:TapeOk l a):Tot (fun k=>zB.f k l a (m:Int) 1) (fun r=>FlatT m (mkT r)∧TapeOk l r.2.2.2):=by
  refine Tot.step (fun k=>by rw[zB.f]) ?_;refine Tot.bind (order_ok hm hm0 ht) ?_;rintro⟨xs,b⟩ ⟨ho,hb⟩;have hmn:=mn_le (m:Int) 5;refine Tot.bindP (tapeRange hb (lo:=1) (hi:=mn (m:Int) 5) (by omega) (by omega) (by omega)) ?_;rintro⟨x,c⟩ ⟨h1,h2,h3⟩;have hlen:=ho.1;simp only at h1 h2 h3 hlen ⊢;refine Tot.pos (by omega) (Tot.pos (by omega) ?_);refine Tot.bindE (Ev.now _) ?_;have h0:=trust1_l0 hm h3 (xs.take x.toNat) (nodes_take ho hm) (by rw[List.length_take];omega) _ 0 rfl (by omega);simpa using h0
theorem trust2_l1 {l:List Int} {m:Nat} (hm:m≤10) (hm0:1≤m) (y:List Int) (hy:NodesOk m y) (hy0:1≤y.length):∀(c:Nat) (a:Int) (acc:List S56),TapeOk l a→acc.length+c≤3→(∀x∈acc,FlatT m x)→
    Tot (fun k=>zB.l1 k (m:Int) 2 (c:Int) l a 0 y acc) (fun r=>GenT m (mkT r)∧TapeOk l r.2.2.2):=by
  have hy1:=hy.1;intro c
  induction c with
  |zero=>
    intro a acc ht hl hx;refine Tot.step (fun k=>by rw[zB.l1]) ?_;refine Tot.neg (by omega) ?_;have fin (q:List Int) (hq:NodesOk m q) (hqa:1≤q.length+acc.length) (b:Int) (hb:TapeOk l b):Tot (fun k=>(zO.f l b 1 (wrap64 ((q.length:Int)+(acc.length:Int)))).bind fun bt249=>(some (bt249.1,q,acc,bt249.2))) (fun r=>GenT m (mkT r)∧TapeOk l r.2.2.2):=by
      have hq1:=hq.1;rw[wrap64_id (by omega) (by omega)];refine Tot.bindP (tapeRange hb (lo:=1) (by omega) (by omega) (by omega)) ?_;rintro⟨x,c⟩ ⟨h1,h2,h3⟩;exact Tot.now ⟨⟨h1,h2,hq,by show acc.length≤3;omega,hx⟩,h3⟩
    by_cases h0:(acc.length:Int)>0
    · refine Tot.pos h0 ?_;refine Tot.bindP (tapeN ht (n:=3) (by decide) (by decide)) ?_;rintro⟨x,b⟩ ⟨h1,h2,h3⟩;refine Tot.ite (fun _=> ?_) (fun _=> ?_)
      · exact fin [] ⟨by simp,by simp,List.nodup_nil⟩ (by simp;omega) b h3
      · exact fin y hy (by omega) b h3
    · refine Tot.neg h0 ?_;exact fin y hy (by omega) a ht
  |succ c ih=>
    intro a acc ht hl hx;refine Tot.step (fun k=>by rw[zB.l1]) ?_;refine Tot.pos (by omega) ?_;rw[show wrap64 (2 - 1)=1 from wrap64_id (i:=2 - 1) (by decide) (by decide)];refine Tot.bind (trust1_ok hm hm0 ht) ?_;rintro⟨th,ns,inner,b⟩ ⟨h1,h2⟩;refine Tot.pos (by omega) ?_;rw[wrap64_id (by omega) (by omega),show((c+1:Nat):Int) - 1=(c:Int) by omega];refine ih _ _ h2 (by simp;omega) fun x hx'=> ?_
    rcases List.mem_append.1 hx' with h|h
    · exact hx x h
    · rw[List.mem_singleton.1 h];exact h1
theorem trust2_l0 {l:List Int} {m:Nat} (hm:m≤10) (hm0:1≤m) {a:Int} (ht:TapeOk l a) (y:List Int) (hy:NodesOk m y) (hy0:1≤y.length):∀(d i:Nat),y.length - i=d→i≤y.length→
    Tot (fun k=>zB.l0 k (m:Int) 2 y (y.length:Int) (i:Int) l a 0 (y.take i)) (fun r=>GenT m (mkT r)∧TapeOk l r.2.2.2):=by
  have hy1:=hy.1;intro d
  induction d with
  |zero=>
    intro i hd hi;refine Tot.step (fun k=>by rw[zB.l0]) ?_;refine Tot.neg (by omega) (Tot.pos (by decide) ?_);rw[List.take_of_length_le (by omega)];refine Tot.bindP (tapePick [0,0,1,1,2,3] ht (by decide) (by decide)) ?_;rintro⟨x,b⟩ ⟨h1,h3⟩;simp only[List.mem_cons,List.not_mem_nil,or_false] at h1;obtain⟨c,rfl⟩:=Int.eq_ofNat_of_zero_le (show 0≤x by omega);exact trust2_l1 hm hm0 y hy hy0 c b [] h3 (by simp;omega) (by simp)
  |succ d ih=>
    intro i hd hi;have hlt:i<y.length:=by omega
    refine Tot.step (fun k=>by rw[zB.l0]) ?_;refine Tot.pos (by omega) (Tot.pos (by omega) (Tot.pos (by omega) (Tot.pos (by rw[List.length_take];omega) ?_)));rw[rd_get hlt,succ64 (by omega)];have:=ih (i+1) (by omega) (by omega);rwa [List.take_succ_eq_append_getElem hlt] at this
theorem trust2_ok {l:List Int} {m:Nat} (hm:m≤10) (hm0:1≤m) {a:Int} (ht:TapeOk l a):Tot (fun k=>zB.f k l a (m:Int) 2) (fun r=>GenT m (mkT r)∧TapeOk l r.2.2.2):=by
  refine Tot.step (fun k=>by rw[zB.f]) ?_;refine Tot.bind (order_ok hm hm0 ht) ?_;rintro⟨xs,b⟩ ⟨ho,hb⟩;have hmn:=mn_le (m:Int) 5;refine Tot.bindP (tapeRange hb (lo:=1) (hi:=mn (m:Int) 5) (by omega) (by omega) (by omega)) ?_;rintro⟨x,c⟩ ⟨h1,h2,h3⟩;have hlen:=ho.1;simp only at h1 h2 h3 hlen ⊢;refine Tot.pos (by omega) (Tot.pos (by omega) ?_);refine Tot.bindE (Ev.now _) ?_;have h0:=trust2_l0 hm hm0 h3 (xs.take x.toNat) (nodes_take ho hm) (by rw[List.length_take];omega) _ 0 rfl (by omega);simpa using h0
theorem sizeL_flat {m:Nat}:∀{xs:List S56},(∀x∈xs,FlatT m x)→sizeL xs≤10*xs.length
  |[],_=>by simp[sizeL]
  |x::xs,h=>by
    have h1:=sizeL_flat (xs:=xs) (fun y hy=>h y (List.mem_cons_of_mem _ hy));obtain⟨h2,h3,h4,h5⟩:=h x List.mem_cons_self;obtain⟨th,ns,inner⟩:=x;simp only at h2 h5;subst h2;rw[sizeL,sizeT,sizeL,List.length_cons,List.length_nil];have:=h5.1;omega
theorem gen_size {m:Nat} {t:S56} (h:GenT m t):sizeT t≤43:=by
  obtain⟨th,ns,inner⟩:=t;obtain⟨h1,h2,h3,h4,h5⟩:=h;simp only at h3 h4 h5;have:=sizeL_flat h5;have:=h3.1;rw[sizeT];omega
theorem trust_ok {l:List Int} {m:Nat} (hm:m≤10) (hm0:1≤m) {a:Int} (ht:TapeOk l a):Tot (fun k=>Qc.f k l a (m:Int) 2) (fun r=>GenT m (mkT r)∧TapeOk l r.2.2.2):=by
  unfold Qc.f;refine Tot.bind (trust2_ok hm hm0 ht) ?_;rintro⟨th,ns,inner,b⟩ ⟨h1,h2⟩;have hs:=gen_size h1;refine Tot.bindE (ref_validT_ev (t:=⟨th,ns,inner⟩) (Nat.le_trans hs (by decide))) ?_;refine Tot.ite (fun _=>Tot.now ⟨h1,h2⟩) (fun _=> ?_);refine Tot.bindP (tapeN h2 (n:=(m:Int)) (by omega) (by omega)) ?_;rintro⟨x,c⟩ ⟨h3,h4,h5⟩;refine Tot.now ⟨FlatT.gen ⟨rfl,Int.le_refl 1,by simp[mkT],by simp[mkT], ?_,by simp[mkT]⟩,h5⟩;intro k hk;simp only[mkT,List.mem_singleton] at hk;subst hk;exact⟨h3,h4⟩
theorem most_end {l:List Int} {m:Nat} (y:List Int) (hy:NodesOk m y) (hy0:1≤y.length) {a:Int} (ht:TapeOk l a):
    Tot (fun k=>(jI.f l a (([0,0,0,1,(-1)]:List Int))).bind fun bt308=>(some (mn (y.length:Int) (mx 1 (wrap64 ((wrap64 (Int.tdiv (wrap64 ((wrap64 (2*(y.length:Int)))+2)) 3))+bt308.1))),y,([]:List S56),bt308.2))) (fun r=>GenT m (mkT r)∧TapeOk l r.2.2.2):=by
  refine Tot.bindP (tapePick [0,0,0,1, -1] ht (by decide) (by decide)) ?_;rintro⟨x,b⟩ ⟨h1,h3⟩;have h4:=mn_le (y.length:Int) (mx 1 (wrap64 ((wrap64 (Int.tdiv (wrap64 ((wrap64 (2*(y.length:Int)))+2)) 3))+x)));have h5:=mx_ge 1 (wrap64 ((wrap64 (Int.tdiv (wrap64 ((wrap64 (2*(y.length:Int)))+2)) 3))+x));refine Tot.now ⟨FlatT.gen ⟨rfl, ?_,h4.1,hy⟩,h3⟩;show 1≤mn (y.length:Int) (mx 1 (wrap64 ((wrap64 (Int.tdiv (wrap64 ((wrap64 (2*(y.length:Int)))+2)) 3))+x)))
  omega
theorem most_l0 {l:List Int} {m:Nat} (hm:m≤10) (hm0:1≤m):∀(d i:Nat) (a:Int) (acc:List Int),m - i=d→i≤m→TapeOk l a→acc.length≤i→(∀k∈acc,0≤k∧k<(i:Int))→acc.Nodup→
    Tot (fun k=>jE.l0 k (m:Int) (i:Int) l a 0 acc) (fun r=>GenT m (mkT r)∧TapeOk l r.2.2.2):=by
  intro d
  induction d with
  |zero=>
    intro i a acc hd hi ht hl ha hn;refine Tot.step (fun k=>by rw[jE.l0]) ?_;refine Tot.neg (by omega) ?_;refine Tot.ite (fun h=> ?_) (fun h=> ?_)
    · refine Tot.bindE (Ev.now _) ?_;exact most_end [0] ⟨by simp,fun k hk=>by simp at hk;omega,by simp⟩ (by simp) ht
    · exact most_end acc ⟨by omega,fun k hk=>⟨(ha k hk).1,by have:=(ha k hk).2;omega⟩,hn⟩ (by omega) ht
  |succ d ih=>
    intro i a acc hd hi ht hl ha hn;refine Tot.step (fun k=>by rw[jE.l0]) ?_;refine Tot.pos (by omega) ?_;rw[succ64 (by omega)];refine Tot.bindP (tapeN ht (n:=10) (by decide) (by decide)) ?_;rintro⟨x,b⟩ ⟨h1,h2,h3⟩;refine Tot.ite (fun h=>Tot.pos (by omega) ?_) (fun h=> ?_)
    · refine ih (i+1) b _ (by omega) (by omega) h3 (by simp;omega) (fun k hk=> ?_) ?_
      · rcases List.mem_append.1 hk with hk|hk
        · have:=ha k hk;omega
        · rw[List.mem_singleton.1 hk];omega
      · refine List.nodup_append.2 ⟨hn,by simp,fun u hu v hv=> ?_⟩;rw[List.mem_singleton.1 hv];have:=ha u hu;omega
    · exact ih (i+1) b _ (by omega) (by omega) h3 (by omega) (fun k hk=>by have:=ha k hk;omega) hn
theorem most_ok {l:List Int} {m:Nat} (hm:m≤10) (hm0:1≤m) {a:Int} (ht:TapeOk l a):Tot (fun k=>jE.f k l a (m:Int)) (fun r=>GenT m (mkT r)∧TapeOk l r.2.2.2):=by
  unfold jE.f;exact most_l0 hm hm0 m 0 a [] (by omega) (by omega) ht (by simp) (by simp) List.nodup_nil
theorem group_end {l:List Int} {m:Nat} {kk:Nat} (hm:m≤10) (ls:List S56) (hl:ls.length≤3) (hl0:1≤ls.length) (hx:∀x∈ls,FlatT m x) {a:Int} (ht:TapeOk l a):
    Tot (fun k=>(qJ.f l a 4).bind fun bt324=>(if bt324.1=0 then(if(ls.length:Int)=0 then(none) else(if 0≤(Int.tmod (kk:Int) (ls.length:Int)) then(if(Int.tmod (kk:Int) (ls.length:Int))<(ls.length:Int) then(some ((qQ ls (Int.tmod (kk:Int) (ls.length:Int))).f0,(qQ ls (Int.tmod (kk:Int) (ls.length:Int))).f1,(qQ ls (Int.tmod (kk:Int) (ls.length:Int))).f2,bt324.2)) else(none)) else(none))) else((zO.f l bt324.2 (mx 1 (wrap64 ((ls.length:Int) - 1))) (ls.length:Int)).bind fun bt327=>(some (bt327.1,([]:List Int),ls,bt327.2)))))
      (fun r=>GenT m (mkT r)∧TapeOk l r.2.2.2):=by
  refine Tot.bindP (tapeN ht (n:=4) (by decide) (by decide)) ?_;rintro⟨x,b⟩ ⟨h1,h2,h3⟩;refine Tot.ite (fun h=> ?_) (fun h=> ?_)
  · have e1:=Int.tmod_lt_of_pos (kk:Int) (show(0:Int)<(ls.length:Int) by omega);have e2:0≤Int.tmod (kk:Int) (ls.length:Int):=Int.tmod_nonneg _ (by omega);refine Tot.neg (by omega) (Tot.pos e2 (Tot.pos e1 ?_));obtain⟨n,hn⟩:=Int.eq_ofNat_of_zero_le e2;rw[hn] at e1 ⊢;have hlt:n<ls.length:=by omega
    rw[rdT_get hlt];exact Tot.now ⟨(hx _ (List.getElem_mem hlt)).gen,h3⟩
  · rw[wrap64_id (by omega) (by omega)];have h5:=mx_ge 1 ((ls.length:Int) - 1);refine Tot.bindP (tapeRange h3 (lo:=mx 1 ((ls.length:Int) - 1)) (by omega) (by omega) (by omega)) ?_;rintro⟨y,c⟩ ⟨h6,h7,h8⟩;refine Tot.now ⟨⟨?_, ?_,⟨by simp[mkT],by simp[mkT],by simp[mkT]⟩,hl,hx⟩,h8⟩
    · show 1≤y;simp only at h6;omega
    · show y≤_;simp only[mkT,List.length_nil];simp only at h7;omega
theorem group_l1 {l:List Int} {m kk:Nat} (hm:m≤10) (hm0:1≤m) (g:Nat) (hg:g<3) (ls:List S56) {a:Int} (ht:TapeOk l a) (hl:ls.length≤g) (hl0:1≤g→1≤ls.length) (hx:∀x∈ls,FlatT m x)
    (next:∀(ls':List S56) (b:Int),TapeOk l b→ls'.length≤g+1→1≤ls'.length→(∀x∈ls',FlatT m x)→Tot (fun k=>jF.l0 k (m:Int) (kk:Int) ls' ((g+1:Nat):Int) l b) (fun r=>GenT m (mkT r)∧TapeOk l r.2.2.2)):
    ∀(d i:Nat) (acc:List Int),m+3 - i=d→i≤m+2→g≤i→3*acc.length≤i→(∀k∈acc,0≤k∧k<(i:Int)∧k<(m:Int))→acc.Nodup→(g=0→i=0∨1≤acc.length)→
    Tot (fun k=>jF.l1 k (m:Int) (kk:Int) ls (g:Int) (i:Int) l a 1 acc) (fun r=>GenT m (mkT r)∧TapeOk l r.2.2.2):=by
  intro d
  induction d using Nat.strongRecOn with
  |_ d ih=>
    intro i acc hd hi hgi hl1 ha hn h0;refine Tot.step (fun k=>by rw[jF.l1]) ?_;by_cases hlt:i<m
    · refine Tot.pos (by omega) (Tot.pos (by omega) ?_);rw[wrap64_id (by omega) (by omega),show(i:Int)+3=((i+3:Nat):Int) by omega];refine ih (m+3 - (i+3)) (by omega) (i+3) _ rfl (by omega) (by omega) (by simp;omega) (fun k hk=> ?_) ?_ (fun _=>.inr (by simp))
      · rcases List.mem_append.1 hk with hk|hk
        · have:=ha k hk;omega
        · rw[List.mem_singleton.1 hk];omega
      · refine List.nodup_append.2 ⟨hn,by simp,fun u hu v hv=> ?_⟩;rw[List.mem_singleton.1 hv];have:=ha u hu;omega
    · refine Tot.neg (by omega) ?_;have hacc:acc.length≤10∨10<acc.length:=by omega
      have hsz:acc.length≤12:=by omega
      rw[succ64 (by omega)];refine Tot.ite (fun h=> ?_) (fun h=> ?_)
      · refine Tot.bindP (tapeRange ht (lo:=1) (hi:=(acc.length:Int)) (by omega) (by omega) (by omega)) ?_;rintro⟨y,c⟩ ⟨h6,h7,h8⟩;refine Tot.pos (by omega) ?_;refine next _ _ h8 (by simp;omega) (by simp) fun x hx'=> ?_
        rcases List.mem_append.1 hx' with h'|h'
        · exact hx x h'
        · rw[List.mem_singleton.1 h'];refine⟨rfl,h6,h7, ?_,fun k hk=>⟨(ha k hk).1,(ha k hk).2.2⟩,hn⟩;show acc.length≤10
          omega
      · refine next ls a ht (by omega) ?_ hx;by_cases hg0:g=0
        · have:=h0 hg0;omega
        · exact hl0 (by omega)
theorem group_l0 {l:List Int} {m kk:Nat} (hm:m≤10) (hm0:1≤m):∀(d g:Nat) (ls:List S56) (a:Int),3 - g=d→g≤3→TapeOk l a→ls.length≤g→(1≤g→1≤ls.length)→(∀x∈ls,FlatT m x)→
    Tot (fun k=>jF.l0 k (m:Int) (kk:Int) ls (g:Int) l a) (fun r=>GenT m (mkT r)∧TapeOk l r.2.2.2):=by
  intro d
  induction d with
  |zero=>
    intro g ls a hd hg ht hl hl0 hx;refine Tot.step (fun k=>by rw[jF.l0]) ?_;refine Tot.neg (by omega) ?_;exact group_end hm ls (by omega) (hl0 (by omega)) hx ht
  |succ d ih=>
    intro g ls a hd hg ht hl hl0 hx;refine Tot.step (fun k=>by rw[jF.l0]) ?_;refine Tot.pos (by omega) ?_;exact group_l1 hm hm0 g (by omega) ls ht hl hl0 hx (fun ls' b hb h1 h2 h3=>ih (g+1) ls' b (by omega) (by omega) hb h1 (fun _=>h2) h3) _ g [] rfl (by omega) (by omega) (by simp) (by simp) List.nodup_nil (fun h=>.inl h)
theorem group_ok {l:List Int} {m kk:Nat} (hm:m≤10) (hm0:1≤m) {a:Int} (ht:TapeOk l a):Tot (fun k=>jF.f k l a (m:Int) (kk:Int)) (fun r=>GenT m (mkT r)∧TapeOk l r.2.2.2):=by
  unfold jF.f;exact group_l0 hm hm0 3 0 [] a (by omega) (by omega) ht (by simp) (by omega) (by simp)
def MemOk (m:Nat) (x:S58):Prop:=x=z58∨x.f0=true∧GenT m x.f1
def CfgOk (n:Nat) (ms:List S58):Prop:=1≤ms.length∧ms.length≤n∧∀x∈ms,MemOk ms.length x
theorem config_l0 {l:List Int} {m:Nat} (hm:m≤10) (hm0:1≤m) (kind:Int):∀(d i:Nat) (a:Int) (acc:List S58),m - i=d→i≤m→TapeOk l a→acc.length=i→(∀x∈acc,MemOk m x)→
    Tot (fun k=>jP.l0 k (m:Int) kind (i:Int) l a acc) (fun r=>(r.1.length=m∧∀x∈r.1,MemOk m x)∧TapeOk l r.2):=by
  intro d
  induction d with
  |zero=>
    intro i a acc hd hi ht hl hx;refine Tot.step (fun k=>by rw[jP.l0]) ?_;exact Tot.neg (by omega) (Tot.now ⟨⟨by show acc.length=m;omega,hx⟩,ht⟩)
  |succ d ih=>
    intro i a acc hd hi ht hl hx;refine Tot.step (fun k=>by rw[jP.l0]) ?_;refine Tot.pos (by omega) ?_;have more (x:S58) (hm':MemOk m x) (b:Int) (hb:TapeOk l b):Tot (fun k=>jP.l0 k (m:Int) kind (wrap64 ((i:Int)+1)) l b (acc++[x])) (fun r=>(r.1.length=m∧∀x∈r.1,MemOk m x)∧TapeOk l r.2):=by
      rw[succ64 (by omega)];refine ih (i+1) b _ (by omega) (by omega) hb (by simp;omega) fun y hy=> ?_
      rcases List.mem_append.1 hy with h|h
      · exact hx y h
      · rw[List.mem_singleton.1 h];exact hm'
    refine Tot.ite (fun _=> ?_) (fun _=>Tot.ite (fun _=> ?_) (fun _=> ?_))
    · refine Tot.bind (trust_ok hm hm0 ht) ?_;rintro⟨th,ns,inner,b⟩ ⟨h1,h2⟩;refine Tot.bindP (tapeN h2 (n:=12) (by decide) (by decide)) ?_;rintro⟨x,c⟩ ⟨h3,h4,h5⟩;refine Tot.ite (fun _=>Tot.pos (by omega) ?_) (fun _=>Tot.pos (by omega) ?_)
      · exact more _ (.inl rfl) c h5
      · exact more _ (.inr ⟨rfl,h1⟩) c h5
    · refine Tot.bind (most_ok hm hm0 ht) ?_;rintro⟨th,ns,inner,b⟩ ⟨h1,h2⟩;refine Tot.bindP (tapeN h2 (n:=12) (by decide) (by decide)) ?_;rintro⟨x,c⟩ ⟨h3,h4,h5⟩;refine Tot.ite (fun _=>Tot.pos (by omega) ?_) (fun _=>Tot.pos (by omega) ?_)
      · exact more _ (.inl rfl) c h5
      · exact more _ (.inr ⟨rfl,h1⟩) c h5
    · refine Tot.bind (group_ok hm hm0 ht) ?_;rintro⟨th,ns,inner,b⟩ ⟨h1,h2⟩;refine Tot.bindP (tapeN h2 (n:=12) (by decide) (by decide)) ?_;rintro⟨x,c⟩ ⟨h3,h4,h5⟩;refine Tot.ite (fun _=>Tot.pos (by omega) ?_) (fun _=>Tot.pos (by omega) ?_)
      · exact more _ (.inl rfl) c h5
      · exact more _ (.inr ⟨rfl,h1⟩) c h5
theorem config_ok {l:List Int} {n:Nat} (hn:n≤10) (hn0:1≤n) {a:Int} (ht:TapeOk l a):Tot (fun k=>jP.f k l a (n:Int)) (fun r=>CfgOk n r.1∧TapeOk l r.2):=by
  unfold jP.f;refine Tot.bindP (tapeRange ht (lo:=1) (hi:=(n:Int)) (by omega) (by omega) (by omega)) ?_;rintro⟨m,b⟩ ⟨h1,h2,h3⟩;obtain⟨m,rfl⟩:=Int.eq_ofNat_of_zero_le (show 0≤m by simp only at h1;omega);simp only at h1 h2;refine Tot.bindP (tapeN h3 (n:=3) (by decide) (by decide)) ?_;rintro⟨kind,c⟩ ⟨h4,h5,h6⟩;refine(config_l0 (by omega) (by omega) kind m 0 c [] (by omega) (by omega) h6 rfl (by simp)).mono fun r h=> ?_
  obtain⟨⟨h7,h8⟩,h9⟩:=h;exact⟨⟨by omega,by omega,by rw[h7];exact h8⟩,h9⟩
theorem cfg_small {n:Nat} {ms:List S58} (h:CfgOk n ms) (hn:n≤10):SmallC ms:=by
  obtain⟨h1,h2,h3⟩:=h;refine⟨by omega,fun m hm=> ?_⟩;rcases h3 m hm with rfl|⟨_,h4⟩
  · exact smallT_of_size _ (by decide)
  · exact smallT_of_size _ (Nat.le_trans (gen_size h4) (by decide))
end Go.Proofs.Ytkkbdimegpdbgaa.P
