/- The printed functions of the packages nodeset, threshold, configuration and closure come to the pure answers; conditions: sets below 1024, trusts whose lists are no longer than 2^40. -/
import Derived.Test.YtkkbdimegpdbgaaQwM1
import Derived.Test.YtkkbdimegpdbgaaQwPx5
namespace Go.Proofs.Ytkkbdimegpdbgaa.P
open Go.RowKit Go.Proofs.YtkkbdimegpdbgaaW.PrintWords Go.Proofs.YtkkbdimegpdbgaaW.PrintLast Go.Proofs.YtkkbdimegpdbgaaW.PrintMore
set_option linter.unusedVariables false
set_option linter.unusedSimpArgs false
theorem valid_nat {s:Nat} (h:s<1024):uD.f (s:Int)=some true:=by
  have h1:shl .i64 1 10=1024:=by decide
  unfold uD.f kZ.f;rw[h1,if_pos (by omega),if_pos (by decide)];have h2:((s:Int)<1024):=by omega
  simp[h2]
theorem test_pow {s k:Nat} (hs:s<1024) (hk:k<10):(Go.bits .and .i64 (s:Int) ((2^k:Nat):Int) != 0)=s.testBit k:=by
  rw[bits_and_nat (lt1024 hs) (lt1024 (pow_lt1024 hk))];have hb:∀i,(s&&& 2^k).testBit i=(s.testBit k&&decide (i=k)):=by
    intro i;rw[Nat.testBit_and,Nat.testBit_two_pow];by_cases h:k=i
    · subst h;simp
    · have:¬i=k:=fun e=>h e.symm
      simp[h,this]
  cases e:s.testBit k with
  |false=>
    have h0:s&&& 2^k=0:=eq_zero_of_no_bit fun i=>by rw[hb,e];rfl
    rw[h0];rfl
  |true=>
    have h0:s&&& 2^k=2^k:=Nat.eq_of_testBit_eq fun i=>by
      rw[hb,e,Nat.testBit_two_pow];by_cases h:k=i
      · subst h;simp
      · have:¬i=k:=fun e=>h e.symm
        simp[h,this]
    rw[h0];have h:0<2^k:=Nat.two_pow_pos k;exact bne_iff_ne.2 (by omega)
theorem has_nat {s:Nat} (hs:s<1024) (k:Int):Ql.f (s:Int) k=some (hasI s k):=by
  unfold Ql.f;rw[valid_nat hs];simp only[Option.bind_some,if_true];by_cases h0:k≥0
  · rw[if_pos h0];by_cases h1:k<10
    · rw[if_pos h1,if_pos h0];obtain⟨n,rfl⟩:=Int.eq_ofNat_of_zero_le h0;rw[shl_one (by omega),test_pow hs (by omega),hasI_nat]
    · rw[if_neg h1];unfold hasI;have h2:s.testBit k.toNat=false:=by
        cases e:s.testBit k.toNat with
        |false=>rfl
        |true=>have:=bit_lt10 hs e;omega
      rw[h2,Bool.and_false]
  · rw[if_neg h0];unfold hasI;have h2:¬(0≤k):=h0;simp[h2]
theorem rd_get {xs:List Int} {i:Nat} (h:i<xs.length):rd xs (i:Int)=xs[i]:=by
  unfold rd;rw[Int.toNat_natCast,List.getD_eq_getElem?_getD,List.getElem?_eq_getElem h];rfl
theorem rdT_get {xs:List S56} {i:Nat} (h:i<xs.length):qQ xs (i:Int)=xs[i]:=by
  unfold qQ;rw[Int.toNat_natCast,List.getD_eq_getElem?_getD,List.getElem?_eq_getElem h];rfl
theorem rdM_get {xs:List S58} {i:Nat} (h:i<xs.length):qU xs (i:Int)=xs[i]:=by
  unfold qU;rw[Int.toNat_natCast,List.getD_eq_getElem?_getD,List.getElem?_eq_getElem h];rfl
theorem rdM_nat (xs:List S58) (i:Nat):qU xs (i:Int)=xs.getD i z58:=by unfold qU;rw[Int.toNat_natCast]
theorem succ64 {i:Nat} (h:i≤9223372036854775806):wrap64 ((i:Int)+1)=((i+1:Nat):Int):=by rw[wrap64_id (by omega) (by omega)];omega
theorem sat_l0_ev {s:Nat} (hs:s<1024) (ns:List Int) (th:Int) (ns':List Int) (inner:List S56) (r:Int→Bool) (hn:ns.length≤1099511627776)
    (hl1:∀c:Nat,c≤1099511627776→Ev (fun k=>qX.l1 k (s:Int) (c:Int) inner (inner.length:Int) 0 th ns' inner) (r c)):
    ∀(d i c:Nat),ns.length - i=d→i≤ns.length→c≤i→Ev (fun k=>qX.l0 k (s:Int) (c:Int) ns (ns.length:Int) (i:Int) th ns' inner) (r ((c+((ns.drop i).filter (hasI s)).length:Nat):Int)):=by
  intro d
  induction d with
  |zero=>
    intro i c hd hi hc;refine Ev.step (fun k=>by rw[qX.l0]) ?_;refine Ev.neg (by omega) ?_;rw[List.drop_eq_nil_of_le (by omega)];exact hl1 c (by omega)
  |succ d ih=>
    intro i c hd hi hc;have hlt:i<ns.length:=by omega
    refine Ev.step (fun k=>by rw[qX.l0]) ?_;refine Ev.pos (by omega) (Ev.pos (by omega) (Ev.pos (by omega) ?_));refine Ev.bindP (has_nat hs _) ?_;rw[rd_get hlt,List.drop_eq_getElem_cons hlt,List.filter_cons];by_cases hb:hasI s ns[i]=true
    · refine Ev.pos hb ?_;rw[if_pos hb,succ64 (by omega),succ64 (by omega),List.length_cons];have:=ih (i+1) (c+1) (by omega) (by omega) (by omega);rwa [show c+(((ns.drop (i+1)).filter (hasI s)).length+1)=c+1+((ns.drop (i+1)).filter (hasI s)).length by omega]
    · refine Ev.neg hb ?_;rw[if_neg hb,succ64 (by omega)];exact ih (i+1) c (by omega) (by omega) (by omega)
theorem sat_l1_ev {s:Nat} (xs:List S56) (th:Int) (ns':List Int) (inner':List S56) (hn:xs.length≤1099511627776)
    (hx:∀x∈xs,Ev (fun k=>qX.f k x.f0 x.f1 x.f2 (s:Int)) (satT s x)):
    ∀(d i c:Nat),xs.length - i=d→i≤xs.length→c≤1099511627776+i→Ev (fun k=>qX.l1 k (s:Int) (c:Int) xs (xs.length:Int) (i:Int) th ns' inner') (decide (th≤((c+satL s (xs.drop i):Nat):Int))):=by
  intro d
  induction d with
  |zero=>
    intro i c hd hi hc;refine Ev.step (fun k=>by rw[qX.l1]) ?_;refine Ev.neg (by omega) ?_;rw[List.drop_eq_nil_of_le (by omega)];exact Ev.eq (by simp only[satL,Nat.add_zero];exact decide_eq_decide.2 Iff.rfl)
  |succ d ih=>
    intro i c hd hi hc;have hlt:i<xs.length:=by omega
    refine Ev.step (fun k=>by rw[qX.l1]) ?_;refine Ev.pos (by omega) (Ev.pos (by omega) (Ev.pos (by omega) ?_));rw[rdT_get hlt];refine Ev.bind (hx _ (List.getElem_mem hlt)) ?_;rw[List.drop_eq_getElem_cons hlt,satL];by_cases hb:satT s xs[i]=true
    · refine Ev.pos hb ?_;rw[if_pos hb,succ64 (by omega),succ64 (by omega)];have:=ih (i+1) (c+1) (by omega) (by omega) (by omega);rwa [show c+(1+satL s (xs.drop (i+1)))=c+1+satL s (xs.drop (i+1)) by omega]
    · refine Ev.neg hb ?_;rw[if_neg hb,succ64 (by omega),show c+(0+satL s (xs.drop (i+1)))=c+satL s (xs.drop (i+1)) by omega];exact ih (i+1) c (by omega) (by omega) (by omega)
theorem sat_ev {s:Nat} (hs:s<1024) {t:S56} (h:SmallT t):Ev (fun k=>qX.f k t.f0 t.f1 t.f2 (s:Int)) (satT s t):=by
  induction h with
  |mk th ns inner h1 h2 _ ih=>
    refine Ev.step (fun k=>by rw[qX.f]) ?_;refine Ev.bindP (valid_nat hs) (Ev.pos rfl ?_);have:=sat_l0_ev hs ns th ns inner (fun c=>decide (th≤c+(satL s inner:Int))) h1 (fun c hc=> ?_) ns.length 0 0 (by omega) (by omega) (by omega)
    · rw[satT];simpa using this
    · have:=sat_l1_ev inner th ns inner h2 ih inner.length 0 c (by omega) (by omega) (by omega);simpa using this
def SmallC (ms:List S58):Prop:=ms.length≤1099511627776∧∀m∈ms,SmallT m.f1
theorem smallC_get {ms:List S58} (h:SmallC ms) (k:Nat):SmallT (ms.getD k z58).f1:=by
  rw[List.getD_eq_getElem?_getD]
  cases e:ms[k]? with
  |none=>exact SmallT.mk _ _ _ (by simp) (by simp) (by simp)
  |some m=>exact h.2 m (List.mem_of_getElem? e)
theorem or_pow_bit (a k i:Nat):(a|||2^k).testBit i=(a.testBit i||decide (i=k)):=by
  rw[Nat.testBit_or,Nat.testBit_two_pow];by_cases h:k=i
  · subst h;simp
  · have:¬i=k:=fun e=>h e.symm
    simp[h,this]
theorem decl_l0_ev {ms:List S58} (hm:ms.length≤1099511627776):∀(d i a:Nat),ms.length - i=d→i≤ms.length→(∀j,a.testBit j=(decide (j<i)&&isDecl ms j))→
    Ev (fun k=>qZ.l0 k (a:Int) ms (ms.length:Int) (i:Int)) (declN ms:Int):=by
  intro d
  induction d with
  |zero=>
    intro i a hd hi ha;refine Ev.step (fun k=>by rw[qZ.l0]) ?_;refine Ev.neg (by omega) (Ev.eq ?_);congr 1;refine Nat.eq_of_testBit_eq fun j=> ?_
    rw[ha,declN_bit];unfold isDecl;by_cases h:j<ms.length
    · have:j<i:=by omega
      simp[h,this]
    · simp[h]
  |succ d ih=>
    intro i a hd hi ha;have hlt:i<ms.length:=by omega
    have ha10:a<1024:=by
      apply Nat.lt_pow_two_of_testBit (n:=10);intro j hj;rw[ha];unfold isDecl;have:¬j<10:=by omega
      simp[this]
    have next (a':Nat) (h:∀j,a'.testBit j=(decide (j<i+1)&&isDecl ms j)):Ev (fun k=>qZ.l0 k (a':Int) ms (ms.length:Int) (wrap64 ((i:Int)+1))) (declN ms:Int):=by
      rw[succ64 (by omega)];exact ih (i+1) a' (by omega) (by omega) h
    have keep (hn:isDecl ms i=false):∀j,a.testBit j=(decide (j<i+1)&&isDecl ms j):=by
      intro j;rw[ha];by_cases e:j=i
      · subst e;simp[hn]
      · have:(j<i)↔(j<i+1):=by omega
        simp[this]
    refine Ev.step (fun k=>by rw[qZ.l0]) ?_;refine Ev.pos (by omega) (Ev.pos (by omega) (Ev.pos (by omega) ?_));rw[rdM_nat];by_cases hf:(ms.getD i z58).f0=true
    · refine Ev.pos hf ?_;by_cases h10:i<10
      · refine Ev.pos (by omega) ?_;rw[shl_one (by omega),bits_or_nat (lt1024 ha10) (lt1024 (pow_lt1024 h10))];refine next _ fun j=> ?_
        rw[or_pow_bit,ha];by_cases e:j=i
        · subst e;unfold isDecl;rw[hf];simp[h10,hlt]
        · have:(j<i)↔(j<i+1):=by omega
          simp[this,e]
      · refine Ev.neg (by omega) ?_;exact next _ (keep (by simp[isDecl,h10]))
    · refine Ev.neg hf ?_;exact next _ (keep (by unfold isDecl;rw[Bool.eq_false_iff.2 hf];simp))
theorem decl_ev {ms:List S58} (h:ms.length≤1099511627776):Ev (fun k=>qZ.f k ms) (declN ms:Int):=by
  unfold qZ.f;exact decl_l0_ev h ms.length 0 0 (by omega) (by omega) (fun j=>by simp)
def casts (l:List Nat):List Int:=l.map fun(n:Nat)=>(n:Int)
theorem casts_append (a b:List Nat):casts (a++b)=casts a++casts b:=by simp[casts]
theorem nodes_l0_ev {s:Nat} (hs:s<1024):∀(d i:Nat) (acc:List Int),10 - i=d→i≤10→acc.length≤i→Ev (fun k=>vF.l0 k (s:Int) acc (i:Int)) (acc++casts ((List.range' i d).filter s.testBit)):=by
  intro d
  induction d with
  |zero=>
    intro i acc hd hi ha;refine Ev.step (fun k=>by rw[vF.l0]) ?_;exact Ev.neg (by omega) (Ev.eq (by simp[casts]))
  |succ d ih=>
    intro i acc hd hi ha;refine Ev.step (fun k=>by rw[vF.l0]) ?_;refine Ev.pos (by omega) ?_;refine Ev.bindP (has_nat hs _) ?_;rw[hasI_nat,List.range'_succ,List.filter_cons];by_cases hb:s.testBit i=true
    · refine Ev.pos hb (Ev.pos (by omega) ?_);rw[if_pos hb,succ64 (by omega)];have:=ih (i+1) (acc++[(i:Int)]) (by omega) (by omega) (by simp;omega);simpa[casts] using this
    · refine Ev.neg hb ?_;rw[if_neg hb,succ64 (by omega)];exact ih (i+1) acc (by omega) (by omega) (by omega)
theorem nodes_ev {s:Nat} (hs:s<1024):Ev (fun k=>vF.f k (s:Int)) (casts (nodesL s)):=by
  unfold vF.f nodesL;have:=nodes_l0_ev hs 10 0 [] (by omega) (by omega) (by simp);rw[List.range_eq_range'];simpa using this
theorem nodesL_len (s:Nat):(nodesL s).length≤10:=by
  unfold nodesL;have:=List.length_filter_le s.testBit (List.range 10);simpa using this
theorem content_ev {ms:List S58} (h:SmallC ms) {s k:Nat} (hs:s<1024) (hk:k<ms.length):Ev (fun n=>kE.f n ms (k:Int) (s:Int)) (content ms k s):=by
  unfold kE.f;refine Ev.pos (by omega) (Ev.pos (by omega) ?_);rw[rdM_nat];exact Ev.bind (sat_ev hs (smallC_get h k)) (Ev.now _)
theorem unhappy_l0_ev {ms:List S58} (h:SmallC ms) {s:Nat} (hs:s<1024) (l:List Nat) (hl:l.length≤100) (hd:∀k∈l,k<ms.length):∀(d i:Nat),l.length - i=d→i≤l.length→
    Ev (fun k=>jJ.l0 k (s:Int) (casts l) ((casts l).length:Int) (i:Int) ms) (match(l.drop i).find? (fun k=> !content ms k s) with|none=>(0,false)|some k=>((k:Int),true)):=by
  have hcl:(casts l).length=l.length:=by simp[casts]
  intro d
  induction d with
  |zero=>
    intro i hd' hi;refine Ev.step (fun k=>by rw[jJ.l0]) ?_;rw[List.drop_eq_nil_of_le (by omega)];exact Ev.neg (by omega) (Ev.now _)
  |succ d ih=>
    intro i hd' hi;have hlt:i<l.length:=by omega
    have hg:rd (casts l) (i:Int)=((l[i]:Nat):Int):=by rw[rd_get (by omega)];simp[casts]
    refine Ev.step (fun k=>by rw[jJ.l0]) ?_;refine Ev.pos (by omega) (Ev.pos (by omega) (Ev.pos (by omega) ?_));rw[hg];refine Ev.bind (content_ev h hs (hd _ (List.getElem_mem hlt))) ?_;rw[List.drop_eq_getElem_cons hlt,List.find?_cons]
    cases hb:content ms l[i] s with
    |true=>
      refine Ev.pos rfl ?_;rw[succ64 (by omega)];exact ih (i+1) (by omega) (by omega)
    |false=>
      refine Ev.neg (by simp) ?_;exact Ev.now _
def unhapR (ms:List S58) (s:Nat):Int × Bool:=match unhap ms s with|none=>(0,false)|some k=>((k:Int),true)
theorem unhappy_ev {ms:List S58} (h:SmallC ms) {s:Nat} (hs:s<1024) (hd:Sub s (declN ms)):Ev (fun k=>jJ.f k ms (s:Int)) (unhapR ms s):=by
  unfold jJ.f;refine Ev.bind (nodes_ev hs) ?_;have:=unhappy_l0_ev h hs (nodesL s) (by have:=nodesL_len s;omega) (fun k hk=>declN_len (hd k ((mem_nodesL hs).1 hk))) (nodesL s).length 0 (by omega) (by omega);rw[List.drop_zero] at this;exact this
theorem inside_ev {ms:List S58} (h:ms.length≤1099511627776) {s:Nat} (hs:s<1024):Ev (fun k=>kY.f k ms (s:Int)) (decide (sdiff s (declN ms)=0)):=by
  unfold kY.f;refine Ev.bind (decl_ev h) (Ev.eq ?_);rw[bits_andNot_nat (lt1024 hs) (lt1024 (declN_lt ms))];by_cases e:sdiff s (declN ms)=0
  · rw[e];rfl
  · have:((sdiff s (declN ms):Nat):Int)≠0:=by omega
    rw[beq_eq_false_iff_ne.2 this,decide_eq_false e]
theorem quorum_ev {ms:List S58} (h:SmallC ms) {s:Nat} (hs:s<1024):Ev (fun k=>kG.f k ms (s:Int)) (quorumN ms s):=by
  unfold kG.f quorumN;refine Ev.bindP (valid_nat hs) (Ev.pos rfl ?_);by_cases h0:s=0
  · subst h0;exact Ev.pos rfl (Ev.eq (by simp))
  · refine Ev.neg (by omega) ?_;refine Ev.bind (inside_ev h.1 hs) ?_;by_cases hd:sdiff s (declN ms)=0
    · refine Ev.pos (by simp[hd]) ?_;refine Ev.bind (unhappy_ev h hs (sdiff_zero.1 hd)) (Ev.eq ?_);unfold unhapR
      cases unhap ms s <;> simp[h0,hd]
    · exact Ev.neg (by simp[hd]) (Ev.eq (by simp[hd]))
theorem elim_l0_ev {ms:List S58} (h:SmallC ms):∀(n s:Nat) (acc:List Int),s≤n→s<1024→Sub s (declN ms)→acc.length+s≤2000→Ev (fun k=>jM.l0 k (s:Int) acc ms) (((elimS ms s).1:Int),acc++casts (elimS ms s).2):=by
  intro n
  induction n with
  |zero=>
    intro s acc hn hs hd ha;obtain rfl:s=0:=by omega
    have hu:unhap ms 0=none:=(unhap_none (by decide)).2 fun k hk=>by rw[Nat.zero_testBit] at hk;cases hk
    refine Ev.step (fun k=>by rw[jM.l0]) ?_;refine Ev.bind (unhappy_ev h hs hd) ?_;unfold unhapR;rw[hu,elimS_none hu];exact Ev.neg (by simp) (Ev.eq (by simp[casts]))
  |succ n ih=>
    intro s acc hn hs hd ha;refine Ev.step (fun k=>by rw[jM.l0]) ?_;refine Ev.bind (unhappy_ev h hs hd) ?_;unfold unhapR
    cases hu:unhap ms s with
    |none=>
      rw[elimS_none hu];exact Ev.neg (by simp) (Ev.eq (by simp[casts]))
    |some k=>
      obtain⟨h1,h2,h3⟩:=unhap_some hu;have hlt:=sdiff_pow_lt h1;rw[elimS_some hu];refine Ev.pos rfl (Ev.pos (by omega) (Ev.pos (show(0:Int)≤(k:Int) by omega) ?_));show Ev (fun q=>jM.l0 q (Go.bits .andNot .i64 (s:Int) (shl .i64 1 (k:Int))) (acc++[(k:Int)]) ms) _
      rw[shl_one (by omega),bits_andNot_nat (lt1024 hs) (lt1024 (pow_lt1024 h3))];have:=ih (sdiff s (2^k)) (acc++[(k:Int)]) (by omega) (by omega) ((Sub.sdiff _ _).trans hd) (by simp;omega);simpa[casts] using this
theorem eliminate_ev {ms:List S58} (h:SmallC ms) {s:Nat} (hs:s<1024):Ev (fun k=>jM.f k ms (s:Int)) ((greatN ms s:Int),casts (elimS ms (s&&& declN ms)).2):=by
  unfold jM.f;refine Ev.bindP (valid_nat hs) (Ev.pos rfl ?_);refine Ev.bind (decl_ev h.1) ?_;rw[bits_and_nat (lt1024 hs) (lt1024 (declN_lt ms))];have hl:=and_decl_lt ms s;have:=elim_l0_ev h _ (s&&& declN ms) [] (Nat.le_refl _) hl (Sub.and_right _ _) (by simp;omega);simpa[greatN] using this
theorem greatest_ev {ms:List S58} (h:SmallC ms) {s:Nat} (hs:s<1024):Ev (fun k=>jX.f k ms (s:Int)) (greatN ms s:Int):=by
  unfold jX.f;exact Ev.bind (eliminate_ev h hs) (Ev.now _)
end Go.Proofs.Ytkkbdimegpdbgaa.P
