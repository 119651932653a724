/- The pure statement of IntersectionAnswers: what the program's functions answer is what the reference answers, for configurations and search trees of all sorts; conditions: none beyond the given ones. -/
import Derived.Test.YtkkbdimegpdbgaaQwM17
import Derived.Test.YtkkbdimegpdbgaaQwM18
import Derived.Test.YtkkbdimegpdbgaaQwPx44
namespace Go.Proofs.Ytkkbdimegpdbgaa.Pure
open Go.RowKit Go.Proofs.Ytkkbdimegpdbgaa.P Go.Proofs.YtkkbdimegpdbgaaW.PrintWords Go.Proofs.YtkkbdimegpdbgaaW.PrintLast
set_option linter.unusedVariables false
theorem rd25_get {xs:List S25} {i:Nat} (h:i<xs.length):rd_T25 xs (i:Int)=xs[i]:=by
  unfold rd_T25;rw[Int.toNat_natCast,List.getD_eq_getElem?_getD,List.getElem?_eq_getElem h];rfl
structure Same (ms:List S58):Prop where
  a:∃(b:Bool) (e:Int) (d:Int × Int × Int),Ev (fun k=>intersection_Holds.f k ms) (b,e)∧Ev (fun k=>trustquorumref12_Holds.f k ms) (b,e)∧Ev (fun k=>intersection_Disjoint.f k ms) d∧Ev (fun k=>trustquorumref12_Disjoint.f k ms) d∧
    Tot (fun k=>intersection_Prove.f k ms) (fun r=>(e=0∧b=true∧r.2.2.2=0)∨(e=0∧b=false∧r.2.2.2=11)∨(e≠0∧r.2.2.2=e))
open Classical in
theorem same {ms:List S58} (hs:SizedC ms) (hl:ms.length≤1099511627776):Same ms:=by
  by_cases hv:validC ms=0
  · have hl10:ms.length≤10:=by
      unfold validC at hv;by_cases h:ms.length>10
      · rw[if_pos h] at hv;cases hv
      · omega
    have hc:=sized_small hs hl;obtain⟨p,hp,hpe⟩:=find_tot hc hl10;obtain⟨q,hq,hqe⟩:=ref_apart_tot hc hl10;have e:=findP_unique hl10 hq hp;subst e;refine⟨decide (Meets ms),0,if q.1=0 then(0,0,11) else(q.1,q.2,0),holds_ev hs hl10 hv,ref_holds_ev hs hl10 hv, ?_, ?_, ?_⟩
    · unfold intersection_Disjoint.f;refine Ev.bind (validC_ev hs hl) (Ev.pos hv (Ev.bind hpe ?_));by_cases h:q.1=0
      · exact Ev.pos h (Ev.eq (by rw[if_pos h]))
      · exact Ev.neg h (Ev.eq (by rw[if_neg h]))
    · unfold trustquorumref12_Disjoint.f;refine Ev.bind (ref_validC_ev hs hl) (Ev.pos hv (Ev.bind hqe ?_));by_cases h:q.1=0
      · exact Ev.pos h (Ev.eq (by rw[if_pos h]))
      · exact Ev.neg h (Ev.eq (by rw[if_neg h]))
    · unfold intersection_Prove.f;refine Tot.bindE (holds_ev hs hl10 hv) (Tot.pos rfl ?_);refine Tot.ite (fun h=> ?_) (fun h=>Tot.now (.inr (.inl ⟨rfl,Bool.eq_false_iff.2 h,rfl⟩)));refine Tot.bind (prove0_tot hc hl10 (of_decide_eq_true h)) ?_;intro r _;exact Tot.now (.inl ⟨rfl,h,rfl⟩)
  · refine⟨false,validC ms,(0,0,validC ms),holds_err hs hl hv,ref_holds_err hs hl hv, ?_, ?_, ?_⟩
    · unfold intersection_Disjoint.f;exact Ev.bind (validC_ev hs hl) (Ev.neg hv (Ev.now _))
    · unfold trustquorumref12_Disjoint.f;exact Ev.bind (ref_validC_ev hs hl) (Ev.neg hv (Ev.now _))
    · unfold intersection_Prove.f;exact Tot.bindE (holds_err hs hl hv) (Tot.neg hv (Tot.now (.inr (.inr ⟨hv,rfl⟩))))
section
variable {l : List Int} {Y : List S25} {x : S28} {c : List S58}
theorem ans_l1 {ms:List S58} (hs:SizedC ms) (hl:ms.length≤1099511627776) (x44 x45 b:Int) (Z:List S28) (hZ:Z.length≤1000) (back:Tot (fun k=>trustquorumlaw12_IntersectionAnswers.l0 k Y x44 (wrap64 (x45+1)) x.f0 x.f1 x.f2 l b c) (fun r=>r=true)):
    ∀(d i:Nat),Z.length - i=d→i≤Z.length→Tot (fun k=>trustquorumlaw12_IntersectionAnswers.l1 k Y x44 x45 Z (Z.length:Int) (i:Int) x.f0 x.f1 x.f2 l b c ms) (fun r=>r=true):=by
  intro d
  induction d with
  |zero=>
    intro i hd hi;refine Tot.step (fun k=>by rw[trustquorumlaw12_IntersectionAnswers.l1]) ?_;exact Tot.neg (by omega) back
  |succ d ih=>
    intro i hd hi;have hlt:i<Z.length:=by omega
    refine Tot.step (fun k=>by rw[trustquorumlaw12_IntersectionAnswers.l1]) ?_;refine Tot.pos (by omega) (Tot.pos (by omega) (Tot.pos (by omega) ?_));rw[rdK_get hlt,succ64 (by omega)];refine Tot.bind (smallTrace_tot Z[i]) ?_;intro s h;refine Tot.ite (fun e=> ?_) (fun _=>ih (i+1) (by omega) (by omega));have:=h e;refine Tot.bindE (x_check_ev hs hl (x:=Z[i]) (by omega)) (Tot.bindE (ref_x_check_ev hs hl (x:=Z[i]) (by omega)) (Tot.neg (by simp) ?_));exact Tot.bindE (x_size_ev Z[i] (by omega)) (Tot.bindE (ref_x_size_ev Z[i] (by omega)) (Tot.pos rfl (ih (i+1) (by omega) (by omega))))
theorem ans_j2 {ms:List S58} (hs:SizedC ms) (hl:ms.length≤1099511627776) (hcs:SmallC c) (hc10:c.length≤10) (hc0:1≤c.length) (x44 x45 b:Int) (ht:TapeOk l b)
    (back:∀b,TapeOk l b→Tot (fun k=>trustquorumlaw12_IntersectionAnswers.l0 k Y x44 (wrap64 (x45+1)) x.f0 x.f1 x.f2 l b c) (fun r=>r=true)) (q:Bool) (hq:q=false):
    Tot (fun k=>trustquorumlaw12_IntersectionAnswers.j2 k Y x44 x45 q x.f0 x.f1 x.f2 l b c ms) (fun r=>r=true):=by
  subst hq;refine Tot.step (fun k=>by rw[trustquorumlaw12_IntersectionAnswers.j2]) ?_;refine Tot.neg (by simp) ?_;refine Tot.bind (made_tot hcs hc10 hc0 false ht) ?_;rintro y ⟨_,ht2⟩;refine Tot.bind (made_tot hcs hc10 hc0 true ht2) ?_;rintro z ⟨_,ht3⟩;refine Tot.bindP (P:=fun L=>L=[mkX4 y,mkX4 z,x]) ⟨[mkX4 y,mkX4 z,x],rfl,by obtain⟨x0,x1,x2⟩:=x;rfl⟩ ?_;intro L hL;subst hL;exact ans_l1 hs hl _ _ _ _ (by simp) (back _ ht3) _ 0 rfl (by simp)
theorem ans_l0 (hcs:SmallC c) (hc10:c.length≤10) (hc0:1≤c.length) (hY:Y.length≤1000) (hys:∀y∈Y,SizedC y.f0∧y.f0.length≤1099511627776):
    ∀(d i:Nat) (b:Int),TapeOk l b→Y.length - i=d→i≤Y.length→Tot (fun k=>trustquorumlaw12_IntersectionAnswers.l0 k Y (Y.length:Int) (i:Int) x.f0 x.f1 x.f2 l b c) (fun r=>r=true):=by
  intro d
  induction d with
  |zero=>
    intro i b ht hd hi;refine Tot.step (fun k=>by rw[trustquorumlaw12_IntersectionAnswers.l0]) ?_;exact Tot.neg (by omega) (Tot.bindE awake_ev (Tot.now rfl))
  |succ d ih=>
    intro i b ht hd hi;have hlt:i<Y.length:=by omega
    obtain⟨hs,hl⟩:=hys _ (List.getElem_mem hlt);refine Tot.step (fun k=>by rw[trustquorumlaw12_IntersectionAnswers.l0]) ?_;refine Tot.pos (by omega) (Tot.pos (by omega) (Tot.pos (by omega) ?_));rw[rd25_get hlt];obtain⟨⟨q,e,r,h1,h2,h3,h4,h5⟩⟩:=same hs hl;refine Tot.bindE h1 (Tot.bindE h2 (Tot.bindE h3 (Tot.bindE h4 (Tot.bind h5 ?_))));intro p hp;have back:∀b,TapeOk l b→Tot (fun k=>trustquorumlaw12_IntersectionAnswers.l0 k Y (Y.length:Int) (wrap64 ((i:Int)+1)) x.f0 x.f1 x.f2 l b c) (fun r=>r=true):=by
      intro b hb;rw[succ64 (by omega)];exact ih (i+1) b hb (by omega) (by omega)
    have j2:=fun q hq=>ans_j2 (Y:=Y) (x:=x) hs hl hcs hc10 hc0 (Y.length:Int) (i:Int) b ht back q hq
    refine Tot.neg (by simp) (Tot.pos rfl (Tot.pos rfl (Tot.pos rfl (Tot.pos rfl ?_))));rcases hp with⟨he,hq,hp⟩|⟨he,hq,hp⟩|⟨he,hp⟩
    · refine Tot.pos he (Tot.neg (by simp[hp,hq]) (Tot.pos hq (j2 _ rfl)))
    · refine Tot.pos he (Tot.neg (by simp[hp,hq]) (Tot.neg (by simp[hq]) (j2 _ (by simp[hp]))))
    · exact Tot.neg he (Tot.pos hp (j2 _ rfl))
end
theorem IntersectionAnswers:trustquorumlaw12_IntersectionAnswers.Pure:=by
  intro l0 ms x _ _ _ hms hbt;refine Tot.rounds ?_;unfold trustquorumlaw12_IntersectionAnswers.f;have aw:∀(y:List S58),Tot (fun k=>trustquorumlaw12_IntersectionAnswers.j0 k l0 true y x.f0 x.f1 x.f2) (fun r=>r=true):=by
    intro y;refine Tot.step (fun k=>by rw[trustquorumlaw12_IntersectionAnswers.j0]) ?_;exact Tot.pos rfl (Tot.bindE awake_ev (Tot.now rfl))
  refine Tot.bind (smallConfig_tot hbt (by unfold maxLen at hms;omega)) ?_;intro s hs;refine Tot.ite (fun h=> ?_) (fun _=>aw ms);have hraw:=hs h;refine Tot.bind (smallTrace_tot x) ?_;intro t ht'
  cases t with
  |false=>exact aw ms
  |true=>
    refine Tot.step (fun k=>by rw[trustquorumlaw12_IntersectionAnswers.j0]) ?_;refine Tot.neg (by simp) ?_;refine Tot.bindP (tape_new l0) ?_;rintro⟨l,p⟩ ht;dsimp only at ht ⊢;refine Tot.bind (config_ok (n:=8) (by decide) (by decide) ht) ?_;rintro⟨c,p2⟩ ⟨hcfg,ht2⟩;dsimp only at hcfg ht2 ⊢;have hlen:=hcfg.2.1;have hcB:SmallB 43 c:=⟨by omega,fun m hm=>by
      rcases hcfg.2.2 m hm with rfl|⟨_,h2⟩
      · decide
      · exact gen_size h2⟩
    refine Tot.bind (bentc_tot ht2 (by omega) hcB hcfg.1) ?_;rintro⟨y,p3⟩ ⟨hb,ht3⟩;dsimp only at hb ht3 ⊢;refine Tot.bindP (P:=fun Y=>Y=[⟨c⟩,⟨y⟩,⟨ms⟩]) ⟨_,rfl,rfl⟩ ?_;intro Y hY;subst hY;have sz:∀{B:Nat} {z:List S58},SmallB B z→B≤1099511627776→SizedC z∧z.length≤1099511627776:=fun h hB=>⟨fun m hm=>Nat.le_trans (h.2 m hm) hB,by have:=h.1;omega⟩
    refine ans_l0 (cfg_small hcfg (by decide)) (by omega) hcfg.1 (by simp) (fun t ht=> ?_) _ 0 p3 ht3 rfl (by simp);simp only[List.mem_cons,List.not_mem_nil,or_false] at ht;rcases ht with rfl|rfl|rfl
    · exact sz hcB (by decide)
    · exact sz hb (by decide)
    · exact sz hraw (by decide)
end Go.Proofs.Ytkkbdimegpdbgaa.Pure
