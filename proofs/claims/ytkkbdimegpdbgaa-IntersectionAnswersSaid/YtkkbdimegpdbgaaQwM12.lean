/- The reference's search for two disjoint quorums comes to the same answer as the program's; conditions: at most ten members, trusts of no more than 2^40 entries. -/
import Derived.Test.YtkkbdimegpdbgaaQwM8
import Derived.Test.YtkkbdimegpdbgaaQwM10
import Derived.Test.YtkkbdimegpdbgaaQwM11
import Derived.Test.YtkkbdimegpdbgaaQwPx23
namespace Go.Proofs.Ytkkbdimegpdbgaa.P
open Go.RowKit Go.Proofs.YtkkbdimegpdbgaaW.PrintWords Go.Proofs.YtkkbdimegpdbgaaW.PrintLast Go.Proofs.YtkkbdimegpdbgaaW.PrintMore
set_option linter.unusedVariables false
set_option linter.unusedSimpArgs false
set_option maxRecDepth 100000 in
theorem ref_size_fin:∀n:Fin 1024,jA.f 12 (n.1:Int)=some (pop n.1:Int):=by decide+kernel
theorem ref_size_ev {s:Nat} (h:s<1024):Ev (fun k=>jA.f k (s:Int)) (pop s:Int):=Ev.of (jA.mono _) (k:=12) (ref_size_fin ⟨s,h⟩)
def bySize (n m:Nat):List Nat:=(List.range (2^n)).filter fun x=>decide (pop x=m)
def subsetsL (n:Nat):List Nat:=(List.range (n+1)).flatMap (bySize n)
theorem mem_bySize {n m x:Nat}:x∈bySize n m↔x<2^n∧pop x=m:=by
  unfold bySize;rw[List.mem_filter,List.mem_range,decide_eq_true_eq]
theorem mem_subsetsL {n x:Nat} (hn:n≤10):x∈subsetsL n↔x<2^n:=by
  unfold subsetsL;rw[List.mem_flatMap];constructor
  · rintro⟨m,_,h⟩;exact(mem_bySize.1 h).1
  · intro h;have:=pop_le hn h;exact⟨pop x,List.mem_range.2 (by omega),mem_bySize.2 ⟨h,rfl⟩⟩
theorem subsetsL_sorted {n:Nat} (hn:n≤10):(subsetsL n).Pairwise (fun a b=>key a<key b):=by
  have h10:=two_pow_le10 hn;unfold subsetsL;rw[List.pairwise_flatMap];refine⟨fun m _=> ?_, ?_⟩
  · unfold bySize;refine List.Pairwise.imp_of_mem (R:=fun a b=>a<b) ?_ (List.Pairwise.filter _ List.pairwise_lt_range);intro a b ha hb hab;have h1:=(mem_bySize (n:=n) (m:=m)).1 ha;have h2:=(mem_bySize (n:=n) (m:=m)).1 hb;unfold key;omega
  · refine List.Pairwise.imp ?_ List.pairwise_lt_range;intro m m' hm a ha b hb;have h1:=mem_bySize.1 ha;have h2:=mem_bySize.1 hb;unfold key;omega
theorem ref_subsets_l1_ev {n:Nat} (hn:n≤10) (m:Nat) (r:List Int):∀(d x:Nat) (acc:List Int),2^n - x=d→x≤2^n→acc.length+d≤20000→
    Ev (fun k=>zD.l0 k ((2^n - 1:Nat):Int) (acc++casts ((List.range' x d).filter fun x=>decide (pop x=m))) (wrap64 ((m:Int)+1))) r→
    Ev (fun k=>zD.l1 k ((2^n - 1:Nat):Int) acc (m:Int) (x:Int)) r:=by
  have h10:=two_pow_le10 hn;have h0:=Nat.two_pow_pos n;intro d
  induction d with
  |zero=>
    intro x acc hd hx ha h;refine Ev.step (fun k=>by rw[zD.l1]) ?_;refine Ev.neg (by omega) ?_;simpa[casts] using h
  |succ d ih=>
    intro x acc hd hx ha h;have hx1:x<1024:=by omega
    refine Ev.step (fun k=>by rw[zD.l1]) ?_;refine Ev.pos (by omega) ?_;have hsub:x&&& (2^n - 1)=x:=by rw[Nat.and_two_pow_sub_one_eq_mod,Nat.mod_eq_of_lt (by omega)]
    rw[bits_and_nat (lt1024 hx1) (lt1024 (show 2^n - 1<1024 by omega)),hsub];refine Ev.pos rfl (Ev.bind (ref_size_ev hx1) ?_);rw[List.range'_succ,List.filter_cons] at h;by_cases e:pop x=m
    · refine Ev.pos (by omega) (Ev.pos (by omega) ?_);rw[succ64 (by omega)];rw[if_pos (decide_eq_true e)] at h;refine ih (x+1) _ (by omega) (by omega) (by simp;omega) ?_;simpa[casts] using h
    · refine Ev.neg (by omega) ?_;rw[succ64 (by omega)];rw[if_neg (by simpa using e)] at h;exact ih (x+1) _ (by omega) (by omega) (by omega) h
theorem ref_subsets_l0_ev {n:Nat} (hn:n≤10):∀(d m:Nat) (acc:List Int),n+1 - m=d→m≤n+1→acc.length+d*1024≤15000→
    Ev (fun k=>zD.l0 k ((2^n - 1:Nat):Int) acc (m:Int)) (acc++casts ((List.range' m d).flatMap (bySize n))):=by
  have h10:=two_pow_le10 hn;have h0:=Nat.two_pow_pos n;have hp:pop (2^n - 1)=n:=pop_full ⟨n,by omega⟩;have h1:2^n - 1<1024:=by omega
  intro d
  induction d with
  |zero=>
    intro m acc hd hm ha;refine Ev.step (fun k=>by rw[zD.l0]) ?_;refine Ev.bind (ref_size_ev h1) ?_;rw[hp];refine Ev.neg (by omega) ?_;refine Ev.step (fun k=>by rw[zD.j1]) ?_;exact Ev.neg (by simp) (Ev.eq (by simp[casts]))
  |succ d ih=>
    intro m acc hd hm ha;refine Ev.step (fun k=>by rw[zD.l0]) ?_;refine Ev.bind (ref_size_ev h1) ?_;rw[hp];refine Ev.pos (by omega) (Ev.bindP (ref_valid_nat h1) ?_);refine Ev.step (fun k=>by rw[zD.j1]) ?_;refine Ev.pos rfl ?_;refine ref_subsets_l1_ev hn m _ (2^n) 0 acc (by omega) (by omega) (by omega) ?_;have hb:(List.range' 0 (2^n)).filter (fun x=>decide (pop x=m))=bySize n m:=by unfold bySize;rw[List.range_eq_range']
    rw[hb,succ64 (by omega)];have hl:(bySize n m).length≤1024:=by
      unfold bySize;exact Nat.le_trans (List.length_filter_le _ _) (by rw[List.length_range];exact h10)
    have:=ih (m+1) (acc++casts (bySize n m)) (by omega) (by omega) (by rw[List.length_append,casts,List.length_map];omega);rw[List.range'_succ,List.flatMap_cons,casts_append, ← List.append_assoc];exact this
theorem ref_subsets_ev {n:Nat} (hn:n≤10):Ev (fun k=>zD.f k ((2^n - 1:Nat):Int)) (casts (subsetsL n)):=by
  unfold zD.f subsetsL;have:=ref_subsets_l0_ev hn (n+1) 0 [] (by omega) (by omega) (by simp;omega);rw[List.range_eq_range'];simpa using this
theorem subsetsL_len {n:Nat} (hn:n≤10):(subsetsL n).length≤1099511627776:=by
  have h10:=two_pow_le10 hn;have:∀l:List Nat,(l.flatMap (bySize n)).length≤1024*l.length:=by
    intro l
    induction l with
    |nil=>simp
    |cons m l ih=>
      have hl:(bySize n m).length≤1024:=by
        unfold bySize;exact Nat.le_trans (List.length_filter_le _ _) (by rw[List.length_range];exact h10)
      rw[List.flatMap_cons,List.length_append,List.length_cons];omega
  have:=this (List.range (n+1));rw[List.length_range] at this;unfold subsetsL;omega
theorem ref_members_eq {ms:List S58} (hl:ms.length≤10):vH.f ms=some (allN ms:Int):=by
  have h1:=two_pow_le10 hl;have h2:=Nat.two_pow_pos ms.length;unfold vH.f allN;rw[shl_one (by omega)];congr 1;generalize 2^ms.length=q at h1 h2
  rw[wrap64_id (by omega) (by omega)];omega
theorem all_minus {ms:List S58} (hl:ms.length≤10) {s:Nat} (hs:s<2^ms.length):wrap64 ((allN ms:Int) - (s:Int))=(sdiff (allN ms) s:Int):=by
  have h1:=allN_lt hl;have h0:sdiff (allN ms) s&&& s=0:=and_zero_of fun i hi=>by
    rw[sdiff_bit,Bool.and_eq_true] at hi;simpa using hi.2
  have h2:sdiff (allN ms) s|||s=allN ms:=by
    apply Nat.eq_of_testBit_eq;intro i;rw[Nat.testBit_or,sdiff_bit]
    cases e:s.testBit i with
    |true=>rw[lt_sub_all hs i e];rfl
    |false=>simp
  have h3:=add_of_and_zero h0;have:s≤allN ms:=le_of_bits (lt_sub_all hs);rw[wrap64_id (by omega) (by omega)];omega
theorem ref_apart_l0_ev {ms:List S58} (hc:SmallC ms) (hl:ms.length≤10) (L:List Nat) (hL:L.length≤1099511627776) (hx:∀x∈L,x<2^ms.length):∀(d i:Nat),L.length - i=d→i≤L.length→
    Ev (fun k=>jZ.l0 k (casts L) ((casts L).length:Int) (i:Int) ms) (match(L.drop i).find? (fun x=>decide (Bad ms x)) with|some s=>((s:Int),(greatN ms (sdiff (allN ms) s):Int))|none=>(0,0)):=by
  have h10:=two_pow_le10 hl;have hlen:(casts L).length=L.length:=by simp[casts]
  rw[hlen];intro d
  induction d with
  |zero=>
    intro i hd hi;refine Ev.step (fun k=>by rw[jZ.l0]) ?_;rw[List.drop_eq_nil_of_le (by omega)];exact Ev.neg (by omega) (Ev.now _)
  |succ d ih=>
    intro i hd hi;have hlt:i<L.length:=by omega
    have hlt':i<(casts L).length:=by omega
    have hxi:=hx _ (List.getElem_mem hlt);have next:=ih (i+1) (by omega) (by omega);refine Ev.step (fun k=>by rw[jZ.l0]) ?_;refine Ev.pos (by omega) (Ev.pos (by omega) (Ev.pos (by omega) ?_));rw[rd_get hlt'];have e:(casts L)[i]=(L[i]:Int):=by simp[casts]
    rw[e,List.drop_eq_getElem_cons hlt,List.find?_cons,succ64 (by omega)];refine Ev.bind (ref_quorum_ev hc (by omega)) ?_;by_cases h1:quorumN ms L[i]=true
    · refine Ev.pos h1 (Ev.bindP (ref_members_eq hl) ?_);rw[all_minus hl hxi];have ha:sdiff (allN ms) L[i]<1024:=Sub.lt10 (Sub.sdiff _ _) (allN_lt hl);refine Ev.bind (ref_greatest_ev hc ha) ?_;by_cases h2:greatN ms (sdiff (allN ms) L[i])=0
      · have hb:¬Bad ms L[i]:=fun h=>h.2 h2
        rw[decide_eq_false hb];exact Ev.pos (by omega) next
      · have hb:Bad ms L[i]:=⟨h1,h2⟩;rw[decide_eq_true hb];exact Ev.neg (by omega) (Ev.now _)
    · have hb:¬Bad ms L[i]:=fun h=>h1 h.1
      rw[decide_eq_false hb];exact Ev.neg h1 next
theorem ref_apart_tot {ms:List S58} (hc:SmallC ms) (hl:ms.length≤10):Tot (fun k=>jZ.f k ms) (FindP ms):=by
  have h10:=two_pow_le10 hl;unfold jZ.f;refine Tot.bindP (P:=fun b=>b=(allN ms:Int)) ⟨_,rfl,ref_members_eq hl⟩ ?_;rintro _ rfl;refine Tot.bindE (ref_subsets_ev hl) ?_;refine Tot.of (ref_apart_l0_ev hc hl (subsetsL ms.length) (subsetsL_len hl) (fun x hx=>(mem_subsetsL hl).1 hx) _ 0 rfl (Nat.zero_le _)) ?_;rw[List.drop_zero]
  cases h:(subsetsL ms.length).find? (fun x=>decide (Bad ms x)) with
  |none=>
    rw[List.find?_eq_none] at h;exact .inr ⟨rfl,fun x hx hb=>h x ((mem_subsetsL hl).2 hx) (decide_eq_true hb)⟩
  |some s=>
    obtain⟨hb,l1,l2,e,has⟩:=List.find?_eq_some_iff_append.1 h;have hmem:s∈subsetsL ms.length:=List.mem_of_find?_eq_some h;refine .inl ⟨s,(mem_subsetsL hl).1 hmem,of_decide_eq_true hb,fun x hx hk hbx=> ?_,rfl⟩;have hxm:=(mem_subsetsL hl).2 hx;have hs:=subsetsL_sorted hl;rw[e] at hxm hs;rcases List.mem_append.1 hxm with h1|h1
    · have:=has x h1;simp[hbx] at this
    · rcases List.mem_cons.1 h1 with h1|h1
      · rw[h1] at hk;omega
      · have:=(List.pairwise_cons.1 (List.pairwise_append.1 hs).2.1).1 x h1;omega
theorem findP_unique {ms:List S58} (hl:ms.length≤10) {a b:Int × Int} (ha:FindP ms a) (hb:FindP ms b):a=b:=by
  have h10:=two_pow_le10 hl;rcases ha with⟨s,h1,h2,h3,rfl⟩|⟨rfl,h1⟩
  · rcases hb with⟨t,i1,i2,i3,rfl⟩|⟨rfl,i1⟩
    · have e:s=t:=by
        apply key_inj (by omega) (by omega);have a1:¬key t<key s:=fun h=>h3 t i1 h i2
        have a2:¬key s<key t:=fun h=>i3 s h1 h h2
        omega
      rw[e]
    · exact absurd h2 (i1 s h1)
  · rcases hb with⟨t,i1,i2,i3,rfl⟩|⟨rfl,i1⟩
    · exact absurd i2 (h1 t i1)
    · rfl
open Classical in
theorem ref_holds_ev {ms:List S58} (hs:SizedC ms) (hl:ms.length≤10) (hv:validC ms=0):Ev (fun k=>trustquorumref12_Holds.f k ms) (decide (Meets ms),0):=by
  have hc:=sized_small hs (by omega);unfold trustquorumref12_Holds.f;refine Ev.bind (ref_validC_ev hs (by omega)) ?_;refine Ev.pos hv ?_;obtain⟨r,hr,he⟩:=ref_apart_tot hc hl;refine Ev.bind he (Ev.eq ?_);rcases hr with⟨s,h1,h2,h3,rfl⟩|⟨rfl,h1⟩
  · have hm:¬Meets ms:=fun h=>h s h1 h2
    have h10:=two_pow_le10 hl;have:=((isQ_iff (by omega)).1 h2.1).1;rw[decide_eq_false hm];simp only[Prod.mk.injEq,and_true];rw[beq_eq_false_iff_ne];omega
  · rw[decide_eq_true h1];rfl
theorem ref_holds_err {ms:List S58} (hs:SizedC ms) (hl:ms.length≤1099511627776) (hv:validC ms≠0):Ev (fun k=>trustquorumref12_Holds.f k ms) (false,validC ms):=by
  unfold trustquorumref12_Holds.f;refine Ev.bind (ref_validC_ev hs hl) ?_;exact Ev.neg hv (Ev.now _)
end Go.Proofs.Ytkkbdimegpdbgaa.P
