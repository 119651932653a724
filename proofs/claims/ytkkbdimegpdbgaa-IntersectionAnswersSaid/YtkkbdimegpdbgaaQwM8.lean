/- The order of sets, the next set, and the search for two disjoint quorums come to the pure answers; conditions: at most ten members, trusts of no more than 2^40 entries. -/
import Derived.Test.YtkkbdimegpdbgaaQwM7
namespace Go.Proofs.Ytkkbdimegpdbgaa.P
open Go.RowKit Go.Proofs.YtkkbdimegpdbgaaW.PrintWords Go.Proofs.YtkkbdimegpdbgaaW.PrintLast Go.Proofs.YtkkbdimegpdbgaaW.PrintMore
set_option linter.unusedVariables false
set_option linter.unusedSimpArgs false
def pop (s:Nat):Nat:=(nodesL s).length
set_option maxRecDepth 100000 in
theorem size_fin:∀n:Fin 1024,Ze.f (n.1:Int)=some (pop n.1:Int):=by decide+kernel
theorem size_nat {s:Nat} (h:s<1024):Ze.f (s:Int)=some (pop s:Int):=size_fin ⟨s,h⟩
set_option maxRecDepth 100000 in
theorem pop_fin:∀n:Fin 1024,2^pop n.1≤n.1+1:=by decide+kernel
theorem pop_ge {s:Nat} (h:s<1024):2^pop s≤s+1:=pop_fin ⟨s,h⟩
theorem pop_full:∀m:Fin 11,pop (2^m.1 - 1)=m.1:=by decide+kernel
theorem two_pow_le10 {n:Nat} (h:n≤10):2^n≤1024:=by
  have:=Nat.pow_le_pow_right (n:=2) (by decide) h;omega
theorem pop_le {n s:Nat} (hn:n≤10) (h:s<2^n):pop s≤n:=by
  have h1:=pop_ge (Nat.lt_of_lt_of_le h (two_pow_le10 hn));have h2:2^pop s≤2^n:=by omega
  exact(Nat.pow_le_pow_iff_right (by decide)).1 h2
def key (s:Nat):Nat:=pop s*1024+s
theorem key_inj {a b:Nat} (ha:a<1024) (hb:b<1024) (h:key a=key b):a=b:=by unfold key at h;omega
theorem below_nat {t n:Nat} (hn:n≤10):kZ.f (t:Int) (n:Int)=some (decide (t<2^n)):=by
  unfold kZ.f;rw[if_pos (by omega),if_pos (by omega),shl_one (by omega)];congr 1;exact decide_eq_decide.2 (by omega)
def NextP (n s:Nat) (r:Int × Bool):Prop:=
  (r.2=true∧∃t:Nat,r.1=(t:Int)∧t<2^n∧key s<key t∧∀x,x<2^n→key s<key x→key t≤key x)∨(r.2=false∧∀x,x<2^n→key x≤key s)
theorem next_l0 {n s:Nat} (hn:n≤10) (hs:s<2^n):∀(d t:Nat),2^n - t=d→s<t→t≤2^n→(∀x,s<x→x<t→pop x≠pop s)→
    Tot (fun k=>jK.l0 k (n:Int) (pop s:Int) (t:Int)) (NextP n s):=by
  have h10:=two_pow_le10 hn;have hps:=pop_le hn hs;intro d
  induction d with
  |zero=>
    intro t hd hst ht hx;obtain rfl:t=2^n:=by omega
    refine Tot.step (fun k=>by rw[jK.l0]) ?_;refine Tot.bindP (P:=fun b=>b=false) ⟨_,by simp,below_nat hn⟩ ?_;rintro _ rfl;refine Tot.neg (by simp) ?_;by_cases he:pop s=n
    · refine Tot.pos (by omega) (Tot.now (.inr ⟨rfl,fun x hx'=> ?_⟩));have h1:=pop_le hn hx';unfold key;by_cases e:pop x=n
      · have:¬s<x:=fun h=>hx x h hx' (by omega)
        rw[e,he];omega
      · rw[he];omega
    · refine Tot.neg (by omega) (Tot.pos ?_ ?_)
      · rw[succ64 (by omega)];omega
      · rw[succ64 (by omega),shl_one (by omega)];have hm:2^(pop s+1)≤2^n:=Nat.pow_le_pow_right (by decide) (by omega);have hm0:0<2^(pop s+1):=Nat.two_pow_pos _;have hfull:pop (2^(pop s+1) - 1)=pop s+1:=pop_full ⟨pop s+1,by omega⟩;refine Tot.now (.inl ⟨rfl,2^(pop s+1) - 1, ?_,by omega, ?_,fun x hx' hk=> ?_⟩)
        · show wrap64 (((2^(pop s+1):Nat):Int) - 1)=_
          generalize 2^(pop s+1)=q at hm hm0
          rw[wrap64_id (by omega) (by omega)];omega
        · unfold key;rw[hfull];omega
        · have h1:=pop_ge (show x<1024 by omega);unfold key at hk ⊢;rw[hfull];by_cases e:pop x=pop s
          · exact absurd e (hx x (by omega) hx')
          · by_cases e2:pop x=pop s+1
            · rw[e2] at h1 ⊢;omega
            · omega
  |succ d ih=>
    intro t hd hst ht hx;have hlt:t<2^n:=by omega
    refine Tot.step (fun k=>by rw[jK.l0]) ?_;refine Tot.bindP (P:=fun b=>b=true) ⟨_,by simp[hlt],below_nat hn⟩ ?_;rintro _ rfl;refine Tot.pos rfl ?_;refine Tot.bindP (P:=fun b=>b=(pop t:Int)) ⟨_,rfl,size_nat (by omega)⟩ ?_;rintro _ rfl;by_cases e:pop t=pop s
    · refine Tot.pos (by omega) (Tot.now (.inl ⟨rfl,t,rfl,hlt,by unfold key;rw[e];omega,fun x hx' hk=> ?_⟩));unfold key at hk ⊢;rw[e];by_cases e2:pop x=pop s
      · have:¬x<t:=fun h=>hx x (by omega) h e2
        omega
      · omega
    · refine Tot.neg (by omega) ?_;rw[succ64 (by omega)];refine ih (t+1) (by omega) (by omega) (by omega) fun x h1 h2=> ?_
      by_cases e2:x=t
      · rw[e2];exact e
      · exact hx x h1 (by omega)
theorem next_tot {n s:Nat} (hn:n≤10) (hs:s<2^n):Tot (fun k=>jK.f k (s:Int) (n:Int)) (NextP n s):=by
  have h10:=two_pow_le10 hn;unfold jK.f;refine Tot.neg (by omega) (Tot.neg (by omega) ?_);refine Tot.bindP (P:=fun b=>b=true) ⟨_,by simp[hs],below_nat hn⟩ ?_;rintro _ rfl;refine Tot.step (fun k=>by rw[jK.j0]) ?_;refine Tot.neg (by simp) ?_;refine Tot.bindP (P:=fun b=>b=(pop s:Int)) ⟨_,rfl,size_nat (by omega)⟩ ?_;rintro _ rfl;rw[succ64 (by omega)];exact next_l0 hn hs _ (s+1) rfl (by omega) (by omega) fun x h1 h2=>by omega
def allN (ms:List S58):Nat:=2^ms.length - 1
theorem allN_bit (ms:List S58) (i:Nat):(allN ms).testBit i=decide (i<ms.length):=Nat.testBit_two_pow_sub_one _ _
theorem allN_lt {ms:List S58} (hl:ms.length≤10):allN ms<1024:=by
  have:=two_pow_le10 hl;have:=Nat.two_pow_pos ms.length;unfold allN;omega
theorem members_eq {ms:List S58} (hl:ms.length≤10):vT.f ms=some (allN ms:Int):=by
  have h1:=two_pow_le10 hl;have h2:=Nat.two_pow_pos ms.length;unfold vT.f allN;rw[shl_one (by omega)];congr 1;generalize 2^ms.length=q at h1 h2
  rw[wrap64_id (by omega) (by omega)];omega
theorem decl_sub_all (ms:List S58):Sub (declN ms) (allN ms):=fun i h=>by
  rw[allN_bit];exact decide_eq_true (declN_len h)
theorem sub_all_lt {ms:List S58} {q:Nat} (h:Sub q (allN ms)):q<2^ms.length:=by
  have h1:=le_of_bits h;have h2:=Nat.two_pow_pos ms.length;unfold allN at h1;omega
theorem lt_sub_all {ms:List S58} {q:Nat} (h:q<2^ms.length):Sub q (allN ms):=fun i hi=>by
  rw[allN_bit];by_cases h1:i<ms.length
  · exact decide_eq_true h1
  · rw[Nat.testBit_lt_two_pow (Nat.lt_of_lt_of_le h (Nat.pow_le_pow_right (by decide) (by omega)))] at hi
    cases hi
def IsQ (ms:List S58) (q:Nat):Prop:=q≠0∧Sub q (declN ms)∧Fix ms q
theorem IsQ.lt {ms:List S58} {q:Nat} (h:IsQ ms q):q<1024:=Sub.lt10 h.2.1 (declN_lt ms)
theorem isQ_iff {ms:List S58} {q:Nat} (h:q<1024):quorumN ms q=true↔IsQ ms q:=quorumN_iff h
theorem IsQ.lt_all {ms:List S58} {q:Nat} (h:IsQ ms q):q<2^ms.length:=sub_all_lt (h.2.1.trans (decl_sub_all ms))
def Bad (ms:List S58) (x:Nat):Prop:=quorumN ms x=true∧greatN ms (sdiff (allN ms) x)≠0
instance(ms:List S58) (x:Nat):Decidable (Bad ms x):=inferInstanceAs (Decidable (_∧_))
def Meets (ms:List S58):Prop:=∀x,x<2^ms.length→¬Bad ms x
theorem bad_of_disjoint {ms:List S58} {a b:Nat} (ha:IsQ ms a) (hb:IsQ ms b) (h:a&&& b=0):Bad ms a:=by
  refine⟨(isQ_iff ha.lt).2 ha,fun e=> ?_⟩;have h1:Sub b (sdiff (allN ms) a):=fun i hi=>by
    rw[sdiff_bit,lt_sub_all hb.lt_all i hi];have:=congrArg (fun n=>n.testBit i) h;simp only[Nat.testBit_and,Nat.zero_testBit,hi,Bool.and_true] at this;simp[this]
  have h2:=great_max h1 hb.2.1 hb.2.2;rw[e] at h2;exact hb.1 (Sub.antisymm h2 (zero_sub b))
theorem and_zero_of {a b:Nat} (h:∀i,a.testBit i=true→b.testBit i=false):a&&& b=0:=eq_zero_of_no_bit fun i=>by
  rw[Nat.testBit_and]
  cases e:a.testBit i with
  |false=>rfl
  |true=>rw[h i e];rfl
theorem disjoint_of_bad {ms:List S58} (hl:ms.length≤10) {a:Nat} (h:Bad ms a) (ha:a<1024):IsQ ms a∧IsQ ms (greatN ms (sdiff (allN ms) a))∧a&&& greatN ms (sdiff (allN ms) a)=0:=by
  refine⟨(isQ_iff ha).1 h.1,⟨h.2,great_decl _ _,great_fix _ _⟩,and_zero_of fun i hi=> ?_⟩
  cases e:(greatN ms (sdiff (allN ms) a)).testBit i with
  |false=>rfl
  |true=>
    have:=great_sub _ _ i e;rw[sdiff_bit,hi] at this;simp at this
theorem meets_iff {ms:List S58} (hl:ms.length≤10):Meets ms↔∀a b,IsQ ms a→IsQ ms b→a&&& b≠0:=by
  constructor
  · intro h a b ha hb e;exact h a ha.lt_all (bad_of_disjoint ha hb e)
  · intro h x hx hb;have h10:=two_pow_le10 hl;obtain⟨h1,h2,h3⟩:=disjoint_of_bad hl hb (by omega);exact h _ _ h1 h2 h3
def FindP (ms:List S58) (r:Int × Int):Prop:=
  (∃s:Nat,s<2^ms.length∧Bad ms s∧(∀x,x<2^ms.length→key x<key s→¬Bad ms x)∧r=((s:Int),(greatN ms (sdiff (allN ms) s):Int)))∨(r=(0,0)∧Meets ms)
theorem find_l0 {ms:List S58} (hc:SmallC ms) (hl:ms.length≤10):∀(d s:Nat) (ok:Bool),11264 - key s≤d→(ok=true→s<2^ms.length∧∀x,x<2^ms.length→key x<key s→¬Bad ms x)→(ok=false→Meets ms)→
    Tot (fun k=>zY.l0 k (ms.length:Int) (s:Int) ok ms) (FindP ms):=by
  have h10:=two_pow_le10 hl;intro d
  induction d with
  |zero=>
    intro s ok hd h1 h2
    cases ok with
    |false=>
      refine Tot.step (fun k=>by rw[zY.l0]) ?_;exact Tot.neg (by simp) (Tot.now (.inr ⟨rfl,h2 rfl⟩))
    |true=>
      obtain⟨h3,_⟩:=h1 rfl;have:=pop_le hl h3;unfold key at hd;omega
  |succ d ih=>
    intro s ok hd h1 h2
    cases ok with
    |false=>
      refine Tot.step (fun k=>by rw[zY.l0]) ?_;exact Tot.neg (by simp) (Tot.now (.inr ⟨rfl,h2 rfl⟩))
    |true=>
      obtain⟨h3,h4⟩:=h1 rfl;have hs:s<1024:=by omega
      have next (hb:¬Bad ms s):Tot (fun k=>(jK.f k (s:Int) (ms.length:Int)).bind fun bt=>(zY.l0 k (ms.length:Int) bt.1 bt.2 ms)) (FindP ms):=by
        refine Tot.bind (next_tot hl h3) ?_;rintro⟨t,ok⟩ (⟨e,t,rfl,h5,h6,h7⟩|⟨e,h5⟩)
        · simp only at e;subst e;refine ih t true (by omega) (fun _=>⟨h5,fun x hx hk=> ?_⟩) (fun e=>by cases e);by_cases e:key x<key s
          · exact h4 x hx e
          · by_cases e2:key s<key x
            · have:=h7 x hx e2;omega
            · have:=key_inj (by omega) hs (show key x=key s by omega);rw[this];exact hb
        · simp only at e;subst e;have hm:Meets ms:=fun x hx=>by
            by_cases e:key x<key s
            · exact h4 x hx e
            · have:=key_inj (by omega) hs (show key x=key s by have:=h5 x hx;omega);rw[this];exact hb
          refine Tot.step (fun k=>by rw[zY.l0]) ?_;exact Tot.neg (by simp) (Tot.now (.inr ⟨rfl,hm⟩))
      refine Tot.step (fun k=>by rw[zY.l0]) ?_;refine Tot.pos rfl ?_;refine Tot.bindE (quorum_ev hc hs) ?_;refine Tot.ite (fun hq=> ?_) (fun hq=>next fun h=>hq h.1);refine Tot.bindP (P:=fun b=>b=(allN ms:Int)) ⟨_,rfl,members_eq hl⟩ ?_;rintro _ rfl;have ha:=allN_lt hl;rw[bits_andNot_nat (lt1024 ha) (lt1024 hs)];refine Tot.bindE (greatest_ev hc (sdiff_lt (n:=10) ha)) ?_;refine Tot.ite (fun h0=>next fun h=>h.2 (by omega)) (fun h0=>Tot.now (.inl ⟨s,h3,⟨hq,by omega⟩,h4,rfl⟩))
theorem find_tot {ms:List S58} (hc:SmallC ms) (hl:ms.length≤10):Tot (fun k=>zY.f k ms) (FindP ms):=by
  unfold zY.f;refine find_l0 hc hl _ 0 true (Nat.le_refl _) (fun _=>⟨Nat.two_pow_pos _,fun x hx hk=> ?_⟩) (fun e=>by cases e);have:key 0=0:=by decide+kernel
  omega
open Classical in
theorem holds_ev {ms:List S58} (hs:SizedC ms) (hl:ms.length≤10) (hv:validC ms=0):Ev (fun k=>intersection_Holds.f k ms) (decide (Meets ms),0):=by
  have hc:=sized_small hs (by omega);unfold intersection_Holds.f;refine Ev.bind (validC_ev hs (by omega)) ?_;refine Ev.pos hv ?_;obtain⟨r,hr,he⟩:=find_tot hc hl;refine Ev.bind he (Ev.eq ?_);rcases hr with⟨s,h1,h2,_,rfl⟩|⟨rfl,h⟩
  · have h10:=two_pow_le10 hl;have hq:=(isQ_iff (show s<1024 by omega)).1 h2.1;have h3:¬Meets ms:=fun h=>h s h1 h2
    have h4:((s:Int)==0)=false:=beq_eq_false_iff_ne.2 (by have:=hq.1;omega);rw[decide_eq_false h3];show(((s:Int)==0),(0:Int))=_
    rw[h4]
  · rw[decide_eq_true h];rfl
theorem holds_err {ms:List S58} (hs:SizedC ms) (hl:ms.length≤1099511627776) (hv:validC ms≠0):Ev (fun k=>intersection_Holds.f k ms) (false,validC ms):=by
  unfold intersection_Holds.f;refine Ev.bind (validC_ev hs hl) ?_;exact Ev.neg hv (Ev.now _)
end Go.Proofs.Ytkkbdimegpdbgaa.P
