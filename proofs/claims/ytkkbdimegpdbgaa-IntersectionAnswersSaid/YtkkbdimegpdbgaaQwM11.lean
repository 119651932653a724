/- A configuration that was made is right; the reference's test of a quorum comes to the pure answer; conditions: sets below 1024. -/
import Derived.Test.YtkkbdimegpdbgaaQwM6
import Derived.Test.YtkkbdimegpdbgaaQwM7
import Derived.Test.YtkkbdimegpdbgaaQwPx22
namespace Go.Proofs.Ytkkbdimegpdbgaa.P
open Go.RowKit Go.Proofs.YtkkbdimegpdbgaaW.PrintWords Go.Proofs.YtkkbdimegpdbgaaW.PrintLast Go.Proofs.YtkkbdimegpdbgaaW.PrintMore
set_option linter.unusedVariables false
set_option linter.unusedSimpArgs false
theorem ref_quorum_l0_ev {ms:List S58} (hc:SmallC ms) {s:Nat} (hs:s<1024):∀(ns:List Nat),ns.length≤1099511627776→(∀k∈ns,k<ms.length)→∀(d i:Nat),ns.length - i=d→i≤ns.length→
    Ev (fun k=>zX.l0 k (s:Int) (casts ns) ((casts ns).length:Int) (i:Int) ms) ((ns.drop i).all fun x=>content ms x s):=by
  intro ns hn hk d;have hlen:(casts ns).length=ns.length:=by simp[casts]
  rw[hlen]
  induction d with
  |zero=>
    intro i hd hi;refine Ev.step (fun k=>by rw[zX.l0]) ?_;rw[List.drop_eq_nil_of_le (by omega)];exact Ev.neg (by omega) (Ev.now _)
  |succ d ih=>
    intro i hd hi;have hlt:i<ns.length:=by omega
    have hlt':i<(casts ns).length:=by omega
    have hkk:=hk _ (List.getElem_mem hlt);refine Ev.step (fun k=>by rw[zX.l0]) ?_;refine Ev.pos (by omega) (Ev.pos (by omega) (Ev.pos (by omega) ?_));rw[rd_get hlt'];have e:(casts ns)[i]=(ns[i]:Int):=by simp[casts]
    rw[e];refine Ev.pos (by omega) (Ev.pos (by omega) ?_);rw[rdM_get hkk];refine Ev.bind (ref_sat_ev hs (hc.2 _ (List.getElem_mem hkk))) ?_;have hcont:content ms ns[i] s=satT s (ms[ns[i]]).f1:=by
      unfold content;rw[List.getD_eq_getElem?_getD,List.getElem?_eq_getElem hkk];rfl
    rw[List.drop_eq_getElem_cons hlt,List.all_cons,hcont];by_cases h:satT s (ms[ns[i]]).f1=true
    · refine Ev.pos h ?_;rw[h,Bool.true_and,succ64 (by omega)];exact ih (i+1) (by omega) (by omega)
    · refine Ev.neg h ?_;rw[Bool.eq_false_iff.2 h,Bool.false_and];exact Ev.now _
theorem ref_quorum_ev {ms:List S58} (hc:SmallC ms) {s:Nat} (hs:s<1024):Ev (fun k=>zX.f k ms (s:Int)) (quorumN ms s):=by
  have hd:=declN_lt ms;have hj:∀b:Bool,(b=false→Sub s (declN ms))→Ev (fun k=>zX.j0 k (s:Int) b ms) (!b&&(nodesL s).all fun x=>content ms x s):=by
    intro b hb;refine Ev.step (fun k=>by rw[zX.j0]) ?_
    cases b with
    |true=>exact Ev.pos rfl (Ev.now _)
    |false=>
      refine Ev.neg (by simp) ?_;refine Ev.bind (ref_nodes_ev hs) ?_;have hlen:(nodesL s).length≤10:=by
        unfold nodesL;exact Nat.le_trans (List.length_filter_le _ _) (by simp)
      have:=ref_quorum_l0_ev hc hs (nodesL s) (by omega) (fun k hk=>by
        have h1:=hb rfl k ((mem_nodesL hs).1 hk);rw[declN_bit] at h1;unfold isDecl at h1;simp only[Bool.and_eq_true,decide_eq_true_eq] at h1;exact h1.1.2) (nodesL s).length 0 (by omega) (by omega)
      simpa using this
  have hfix:(nodesL s).all (fun x=>content ms x s)=true↔Fix ms s:=by
    rw[List.all_eq_true];exact⟨fun h k hk=>h k ((mem_nodesL hs).2 hk),fun h k hk=>h k ((mem_nodesL hs).1 hk)⟩
  unfold zX.f;refine Ev.bindP (ref_valid_nat hs) (Ev.pos rfl ?_);by_cases h0:s=0
  · refine Ev.pos (by omega) ?_;have e:quorumN ms s=false:=by unfold quorumN;simp[h0]
    rw[e];exact hj true (by simp)
  · refine Ev.neg (by omega) ?_;refine Ev.bind (ref_decl_ev hc.1) ?_;rw[bits_and_nat (lt1024 hs) (lt1024 hd)];by_cases h1:Sub s (declN ms)
    · have e:(((s&&& declN ms:Nat):Int) != (s:Int))=false:=by rw[h1.and_eq];simp
      rw[e];have:=hj false (fun _=>h1);have e2:quorumN ms s=(!false&&(nodesL s).all fun x=>content ms x s):=by
        rw[Bool.eq_iff_iff,quorumN_iff hs,Bool.not_false,Bool.true_and,hfix];exact⟨fun h=>h.2.2,fun h=>⟨h0,h1,h⟩⟩
      rw[e2];exact this
    · have e:(((s&&& declN ms:Nat):Int) != (s:Int))=true:=by
        rw[bne_iff_ne];intro h;exact h1 (sub_of_and_eq (by omega))
      rw[e];have e2:quorumN ms s=false:=by
        rw[Bool.eq_false_iff];intro h;exact h1 ((quorumN_iff hs).1 h).2.1
      rw[e2];exact hj true (by simp)
end Go.Proofs.Ytkkbdimegpdbgaa.P
namespace Go.Proofs.Ytkkbdimegpdbgaa.P
open Go.RowKit Go.Proofs.YtkkbdimegpdbgaaW.PrintWords Go.Proofs.YtkkbdimegpdbgaaW.PrintLast Go.Proofs.YtkkbdimegpdbgaaW.PrintMore
set_option linter.unusedVariables false
set_option linter.unusedSimpArgs false
theorem minus_pow {s k:Nat} (hs:s<1024) (h:s.testBit k=true):wrap64 ((s:Int) - shl .i64 1 (k:Int))=(sdiff s (2^k):Int):=by
  have hk:k<10:=bit_lt10 hs h;have h0:sdiff s (2^k)&&& 2^k=0:=eq_zero_of_no_bit fun i=>by
    rw[Nat.testBit_and,sdiff_pow_bit,Nat.testBit_two_pow];by_cases e:i=k
    · subst e;simp
    · have e':¬k=i:=fun x=>e x.symm
      simp[e,e']
  have h1:sdiff s (2^k)|||2^k=s:=by
    apply Nat.eq_of_testBit_eq;intro i;rw[Nat.testBit_or,sdiff_pow_bit,Nat.testBit_two_pow];by_cases e:i=k
    · subst e;simp[h]
    · have e':¬k=i:=fun x=>e x.symm
      simp[e,e']
  have h2:=add_of_and_zero h0;have h3:=pow_lt1024 hk;rw[shl_one (by omega)];generalize 2^k=p at h1 h2 h3 ⊢
  rw[wrap64_id (by omega) (by omega)];omega
theorem ref_elim_l1_ev {ms:List S58} (hc:SmallC ms) {s:Nat} (hs:s<1024) (acc r:List Int) (ha:acc.length≤2000):∀(ns:List Nat),ns.length≤1099511627776→(∀k∈ns,k<ms.length)→∀(d i:Nat),ns.length - i=d→i≤ns.length→
    (∀k,(ns.drop i).find? (fun k=> !content ms k s)=some k→Ev (fun q=>zJ.l0 q (wrap64 ((s:Int) - shl .i64 1 (k:Int))) (acc++[(k:Int)]) true ms) r)→((ns.drop i).find? (fun k=> !content ms k s)=none→r=acc)→
    Ev (fun q=>zJ.l1 q (s:Int) acc false (casts ns) ((casts ns).length:Int) (i:Int) ms) r:=by
  intro ns hn hk d;have hlen:(casts ns).length=ns.length:=by simp[casts]
  rw[hlen]
  induction d with
  |zero=>
    intro i hd hi h1 h2;refine Ev.step (fun k=>by rw[zJ.l1]) ?_;refine Ev.neg (by omega) ?_;refine Ev.step (fun k=>by rw[zJ.l0]) ?_;refine Ev.neg (by simp) (Ev.eq ?_);rw[List.drop_eq_nil_of_le (by omega)] at h2;exact(h2 rfl).symm
  |succ d ih=>
    intro i hd hi h1 h2;have hlt:i<ns.length:=by omega
    have hlt':i<(casts ns).length:=by omega
    have hkk:=hk _ (List.getElem_mem hlt);refine Ev.step (fun k=>by rw[zJ.l1]) ?_;refine Ev.pos (by omega) (Ev.pos (by omega) (Ev.pos (by omega) ?_));rw[rd_get hlt'];have e:(casts ns)[i]=(ns[i]:Int):=by simp[casts]
    rw[e];refine Ev.pos (by omega) (Ev.pos (by omega) ?_);rw[rdM_get hkk];refine Ev.bind (ref_sat_ev hs (hc.2 _ (List.getElem_mem hkk))) ?_;have hcont:content ms ns[i] s=satT s (ms[ns[i]]).f1:=by
      unfold content;rw[List.getD_eq_getElem?_getD,List.getElem?_eq_getElem hkk];rfl
    rw[List.drop_eq_getElem_cons hlt,List.find?_cons,hcont] at h1 h2;by_cases h:satT s (ms[ns[i]]).f1=true
    · refine Ev.pos h ?_;rw[h] at h1 h2;rw[succ64 (by omega)];exact ih (i+1) (by omega) (by omega) (by simpa using h1) (by simpa using h2)
    · refine Ev.neg h ?_;rw[Bool.eq_false_iff.2 h] at h1;exact Ev.pos (by omega) (h1 _ rfl)
theorem ref_elim_l0_ev {ms:List S58} (hc:SmallC ms):∀(n s:Nat) (acc:List Int),s≤n→s<1024→Sub s (declN ms)→acc.length+s≤2000→
    Ev (fun k=>zJ.l0 k (s:Int) acc true ms) (acc++casts (elimS ms s).2):=by
  intro n
  induction n with
  |zero=>
    intro s acc hn hs hd ha;obtain rfl:s=0:=by omega
    refine Ev.step (fun k=>by rw[zJ.l0]) ?_;refine Ev.pos rfl (Ev.bind (ref_nodes_ev (by decide)) ?_);have hu:unhap ms 0=none:=(unhap_none (by decide)).2 fun k hk=>by rw[Nat.zero_testBit] at hk;cases hk
    rw[elimS_none hu];have e:nodesL 0=[]:=by decide
    rw[e];exact ref_elim_l1_ev hc (s:=0) (by decide) acc _ (by omega) [] (by simp) (by simp) 0 0 (by simp) (by simp) (by simp) (by simp[casts])
  |succ n ih=>
    intro s acc hn hs hd ha;refine Ev.step (fun k=>by rw[zJ.l0]) ?_;refine Ev.pos rfl (Ev.bind (ref_nodes_ev hs) ?_);have hlen:(nodesL s).length≤10:=by
      unfold nodesL;exact Nat.le_trans (List.length_filter_le _ _) (by simp)
    refine ref_elim_l1_ev hc hs acc _ (by omega) (nodesL s) (by omega) (fun k hk=>declN_len (hd k ((mem_nodesL hs).1 hk))) _ 0 rfl (Nat.zero_le _) (fun k hk=> ?_) (fun hk=> ?_)
    · have hu:unhap ms s=some k:=hk;obtain⟨b1,b2,b3⟩:=unhap_some hu;have hlt:=sdiff_pow_lt b1;rw[minus_pow hs b1,elimS_some hu];have:=ih (sdiff s (2^k)) (acc++[(k:Int)]) (by omega) (by omega) ((Sub.sdiff _ _).trans hd) (by simp;omega);simpa[casts] using this
    · have hu:unhap ms s=none:=hk;rw[elimS_none hu];simp[casts]
theorem ref_elimination_ev {ms:List S58} (hc:SmallC ms) {s:Nat} (hs:s<1024):Ev (fun k=>zJ.f k ms (s:Int)) (casts (elimS ms (s&&& declN ms)).2):=by
  have hl:=and_decl_lt ms s;unfold zJ.f;refine Ev.bindP (ref_valid_nat hs) (Ev.pos rfl (Ev.bind (ref_decl_ev hc.1) ?_));rw[bits_and_nat (lt1024 hs) (lt1024 (declN_lt ms))];have:=ref_elim_l0_ev hc _ (s&&& declN ms) [] (Nat.le_refl _) hl (Sub.and_right _ _) (by simp;omega);simpa using this
def goes:Nat→List Nat→Nat→Prop
  |s,[],t=>s=t
  |s,k::ks,t=>s.testBit k=true∧goes (sdiff s (2^k)) ks t
theorem elim_goes (ms:List S58):∀(n s:Nat),s≤n→goes s (elimS ms s).2 (elimS ms s).1:=by
  intro n
  induction n with
  |zero=>
    intro s hn;obtain rfl:s=0:=by omega
    have hu:unhap ms 0=none:=(unhap_none (by decide)).2 fun k hk=>by rw[Nat.zero_testBit] at hk;cases hk
    rw[elimS_none hu];rfl
  |succ n ih=>
    intro s hn
    cases h:unhap ms s with
    |none=>rw[elimS_none h];rfl
    |some k=>
      obtain⟨b1,b2,b3⟩:=unhap_some h;have hlt:=sdiff_pow_lt b1;rw[elimS_some h];exact⟨b1,ih _ (by omega)⟩
theorem elim_len (ms:List S58):∀(n s:Nat),s≤n→(elimS ms s).2.length≤s:=by
  intro n
  induction n with
  |zero=>
    intro s hn;obtain rfl:s=0:=by omega
    have hu:unhap ms 0=none:=(unhap_none (by decide)).2 fun k hk=>by rw[Nat.zero_testBit] at hk;cases hk
    rw[elimS_none hu];simp
  |succ n ih=>
    intro s hn
    cases h:unhap ms s with
    |none=>rw[elimS_none h];simp
    |some k=>
      obtain⟨b1,b2,b3⟩:=unhap_some h;have hlt:=sdiff_pow_lt b1;have:=ih (sdiff s (2^k)) (by omega);rw[elimS_some h,List.length_cons];omega
theorem ref_greatest_l0_ev (ks:List Nat) (hn:ks.length≤1099511627776) (t:Nat):∀(d i s:Nat),ks.length - i=d→i≤ks.length→s<1024→goes s (ks.drop i) t→
    Ev (fun k=>zM.l0 k (s:Int) (casts ks) ((casts ks).length:Int) (i:Int)) (t:Int):=by
  have hlen:(casts ks).length=ks.length:=by simp[casts]
  rw[hlen];intro d
  induction d with
  |zero=>
    intro i s hd hi hs h;rw[List.drop_eq_nil_of_le (by omega)] at h;refine Ev.step (fun k=>by rw[zM.l0]) ?_;refine Ev.neg (by omega) (Ev.eq ?_);have:s=t:=h;rw[this]
  |succ d ih=>
    intro i s hd hi hs h;have hlt:i<ks.length:=by omega
    have hlt':i<(casts ks).length:=by omega
    rw[List.drop_eq_getElem_cons hlt] at h;obtain⟨h1,h2⟩:=h;refine Ev.step (fun k=>by rw[zM.l0]) ?_;refine Ev.pos (by omega) (Ev.pos (by omega) (Ev.pos (by omega) ?_));rw[rd_get hlt'];have e:(casts ks)[i]=(ks[i]:Int):=by simp[casts]
    rw[e,minus_pow hs h1,succ64 (by omega)];have hlt2:=sdiff_pow_lt h1;exact Ev.pos (by omega) (ih (i+1) _ (by omega) (by omega) (by omega) h2)
theorem ref_greatest_ev {ms:List S58} (hc:SmallC ms) {s:Nat} (hs:s<1024):Ev (fun k=>zM.f k ms (s:Int)) (greatN ms s:Int):=by
  have hl:=and_decl_lt ms s;unfold zM.f;refine Ev.bindP (ref_valid_nat hs) (Ev.pos rfl (Ev.bind (ref_decl_ev hc.1) (Ev.bind (ref_elimination_ev hc hs) ?_)));rw[bits_and_nat (lt1024 hs) (lt1024 (declN_lt ms))];have h1:=elim_len ms _ (s&&& declN ms) (Nat.le_refl _);exact ref_greatest_l0_ev _ (by omega) _ _ 0 _ rfl (Nat.zero_le _) hl (elim_goes ms _ _ (Nat.le_refl _))
end Go.Proofs.Ytkkbdimegpdbgaa.P
