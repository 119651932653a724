/- A configuration of which one thing is changed stays small; a configuration that came in is small if SmallConfig says so; conditions: sizes below a million. -/
import Derived.Test.YtkkbdimegpdbgaaQwM4
import Derived.Test.YtkkbdimegpdbgaaQwO2
import Derived.Test.YtkkbdimegpdbgaaQwPx43
import Derived.Test.YtkkbdimegpdbgaaQwPx29
namespace Go.Proofs.Ytkkbdimegpdbgaa.P
open Go.RowKit Go.Proofs.YtkkbdimegpdbgaaW.PrintWords Go.Proofs.YtkkbdimegpdbgaaW.PrintLast Go.Proofs.YtkkbdimegpdbgaaW.PrintMore
set_option linter.unusedVariables false
set_option linter.unusedSimpArgs false
theorem sizeL_set:∀(xs:List S56) (i:Nat) (y:S56) (h:i<xs.length),sizeL (xs.set i y)+sizeT xs[i]=sizeL xs+sizeT y
  |x::xs,0,y,_=>by simp only[List.set_cons_zero,sizeL,List.getElem_cons_zero];omega
  |x::xs,i+1,y,h=>by
    simp only[List.set_cons_succ,sizeL,List.getElem_cons_succ];have:=sizeL_set xs i y (by simp at h;omega);omega
theorem eta_T (t:S56):(⟨t.f0,t.f1,t.f2⟩:S56)=t:=by cases t;rfl
def BentP (l:List Int) (B:Nat) (r:Int × List Int × List S56 × Int):Prop:=sizeT (mkT r)≤B∧TapeOk l r.2.2.2
theorem bent_l0 {l:List Int} {a:Int} (ht:TapeOk l a):∀(i:Nat) (th:Int) (ns:List Int) (inner:List S56),i≤100→
    Tot (fun k=>qR.l0 k (i:Int) l a th ns inner) (BentP l (sizeT ⟨th,ns,inner⟩+i)):=by
  intro i
  induction i with
  |zero=>
    intro th ns inner _;refine Tot.step (fun k=>by rw[qR.l0]) ?_;exact Tot.neg (by omega) (Tot.now ⟨Nat.le_refl _,ht⟩)
  |succ i ih=>
    intro th ns inner hi;refine Tot.step (fun k=>by rw[qR.l0]) ?_;refine Tot.pos (by omega) ?_;rw[wrap64_id (by omega) (by omega),show((i+1:Nat):Int) - 1=(i:Int) by omega];refine(ih 1 [] [⟨th,ns,inner⟩] (by omega)).mono ?_;rintro r ⟨h1,h2⟩;refine⟨?_,h2⟩;simp only[sizeT,sizeL,List.length_nil,List.length_cons] at h1 ⊢;omega
theorem bent_l1 {l:List Int} {a:Int} (ht:TapeOk l a) (th:Int) (ns:List Int) (inner:List S56) (hin:inner.length≤1000000):∀(i:Nat) (acc:List S56),i≤200→acc.length+i≤300→
    Tot (fun k=>qR.l1 k acc (i:Int) l a th ns inner) (BentP l (sizeT ⟨th,ns,inner⟩+acc.length+sizeL acc+2*i)):=by
  intro i
  induction i with
  |zero=>
    intro acc _ hacc;refine Tot.step (fun k=>by rw[qR.l1]) ?_;refine Tot.neg (by omega) (Tot.pos (by omega) (Tot.now ⟨?_,ht⟩));simp only[mkT,sizeT,List.length_append,sizeL_append];omega
  |succ i ih=>
    intro acc hi hacc;refine Tot.step (fun k=>by rw[qR.l1]) ?_;refine Tot.pos (by omega) (Tot.pos (by omega) ?_);rw[wrap64_id (by omega) (by omega),show((i+1:Nat):Int) - 1=(i:Int) by omega];refine(ih _ (by omega) (by simp;omega)).mono ?_;rintro r ⟨h1,h2⟩;refine⟨?_,h2⟩;simp only[List.length_append,sizeL_append,List.length_cons,List.length_nil,sizeL,sizeT] at h1 ⊢;omega
theorem bent_tot {l:List Int}:∀(n:Nat) (t:S56) (a:Int),sizeT t<n→sizeT t≤1000000→TapeOk l a→
    Tot (fun k=>qR.f k l a t.f0 t.f1 t.f2) (BentP l (sizeT t+500)):=by
  intro n
  induction n with
  |zero=>intro t a h;omega
  |succ n ih=>
    rintro⟨th,ns,inner⟩ a hn hB ht;have hsz:sizeT ⟨th,ns,inner⟩=ns.length+inner.length+sizeL inner:=by rw[sizeT]
    rw[hsz] at hn hB ⊢;have j0:∀(b:Bool) (a:Int),(b=true→0<inner.length)→TapeOk l a→Tot (fun k=>qR.j0 k b l a th ns inner) (BentP l (ns.length+inner.length+sizeL inner+500)):=by
      intro b a hb ht;refine Tot.step (fun k=>by rw[qR.j0]) ?_;refine Tot.ite (fun e=> ?_) (fun _=> ?_)
      · have hpos:=hb e;refine Tot.bindP (P:=fun y=>y=[]) ⟨[],rfl,rfl⟩ ?_;intro y hy;subst hy;refine Tot.pos (by simp only[List.length_nil];omega) ?_;refine Tot.bindP (P:=fun y=>y=inner) ⟨inner,rfl,by simp⟩ ?_;intro y hy;subst hy;refine Tot.bindP (tapeN ht (n:=(y.length:Int)) (by omega) (by omega)) ?_;rintro⟨i,c⟩ ⟨h0,h1,h2⟩;obtain⟨i,rfl⟩:=Int.eq_ofNat_of_zero_le h0;dsimp only at h1 h2 ⊢;have hlt:i<y.length:=by omega
        refine Tot.pos (by omega) (Tot.pos (by omega) ?_);rw[rdT_get hlt];have hm:=sizeL_mem (List.getElem_mem hlt);refine Tot.bind (ih y[i] c (by omega) (by omega) h2) ?_;rintro r ⟨h3,h4⟩;refine Tot.now ⟨?_,h4⟩;have h5:=sizeL_set y i (mkT r) hlt;simp only[mkT] at h3 h5 ⊢;rw[sizeT,List.length_set,Int.toNat_natCast];omega
      · refine Tot.bindP (tapeN ht (n:=6) (by omega) (by omega)) ?_;rintro⟨q,c⟩ ⟨h0,h1,h2⟩;dsimp only at h0 h1 h2 ⊢;refine Tot.ite (fun _=> ?_) (fun _=>Tot.ite (fun _=> ?_) (fun _=>Tot.ite (fun _=> ?_) (fun _=>Tot.ite (fun _=> ?_) (fun _=>Tot.ite (fun _=> ?_) (fun _=> ?_)))))
        · refine Tot.bindP (tapePick _ h2 (by simp) (by simp)) ?_;rintro r ⟨_,h3⟩;refine Tot.now ⟨?_,h3⟩;simp only[mkT,sizeT];omega
        · refine Tot.bindP (P:=fun y=>y=[]) ⟨[],rfl,rfl⟩ ?_;intro y hy;subst hy;refine Tot.pos (by simp only[List.length_nil];omega) ?_;refine Tot.bindP (P:=fun y=>y=ns) ⟨ns,rfl,by simp⟩ ?_;intro y hy;subst hy;refine Tot.bindP (tapePick _ h2 (by simp) (by simp)) ?_;rintro r ⟨_,h3⟩;refine Tot.pos (by omega) (Tot.now ⟨?_,h3⟩);simp only[mkT,sizeT,List.length_append,List.length_cons,List.length_nil];omega
        · refine Tot.now ⟨?_,h2⟩;simp only[mkT,sizeT,List.length_nil];omega
        · refine Tot.bindP (P:=fun y=>y=[]) ⟨[],rfl,rfl⟩ ?_;intro y hy;subst hy;refine Tot.pos (by simp only[List.length_nil];omega) ?_;refine Tot.bindP (P:=fun y=>y=inner) ⟨inner,rfl,by simp⟩ ?_;intro y hy;subst hy;refine Tot.pos (by omega) (Tot.now ⟨?_,h2⟩);simp only[mkT,sizeT,List.length_append,sizeL_append,sizeL,List.length_cons,List.length_nil];omega
        · refine Tot.bindP (tapeRange h2 (lo:=1) (hi:=4) (by omega) (by omega) (by omega)) ?_;rintro⟨i,b⟩ ⟨h3,h4,h5⟩;dsimp only at h3 h4 h5 ⊢;obtain⟨i,rfl⟩:=Int.eq_ofNat_of_zero_le (show 0≤i by omega);refine(bent_l0 h5 i th ns inner (by omega)).mono ?_;rintro r ⟨h6,h7⟩;refine⟨?_,h7⟩;rw[hsz] at h6;omega
        · refine Tot.bindP (tapePick _ h2 (by simp) (by simp)) ?_;rintro⟨i,b⟩ ⟨h3,h4⟩;dsimp only at h3 h4 ⊢;have hi:0≤i∧i≤101:=by
            simp only[List.mem_cons,List.not_mem_nil,or_false] at h3;omega
          obtain⟨i,rfl⟩:=Int.eq_ofNat_of_zero_le hi.1;refine(bent_l1 h4 th ns inner (by omega) i [] (by omega) (by simp;omega)).mono ?_;rintro r ⟨h6,h7⟩;refine⟨?_,h7⟩;rw[hsz] at h6;simp only[sizeL,List.length_nil] at h6;omega
    refine Tot.step (fun k=>by rw[qR.f]) ?_;refine Tot.ite (fun h=> ?_) (fun _=>j0 false a (by simp) ht);refine Tot.bindP (tapeN ht (n:=2) (by omega) (by omega)) ?_;rintro⟨q,c⟩ ⟨h0,h1,h2⟩;exact j0 _ _ (fun _=>by dsimp only at h;omega) h2
def SmallB (B:Nat) (ms:List S58):Prop:=ms.length≤30∧∀m∈ms,sizeT m.f1≤B
def BentC (l:List Int) (B:Nat) (r:List S58 × Int):Prop:=SmallB B r.1∧TapeOk l r.2
theorem bentc_l0 {l:List Int} {a:Int} (ht:TapeOk l a) {B:Nat}:∀(d:Nat) (ms:List S58),11 - ms.length=d→SmallB B ms→Tot (fun k=>zC.l0 k l a ms) (BentC l B):=by
  intro d
  induction d with
  |zero=>
    intro ms hd h;refine Tot.step (fun k=>by rw[zC.l0]) ?_;exact Tot.neg (by omega) (Tot.now ⟨h,ht⟩)
  |succ d ih=>
    intro ms hd h;refine Tot.step (fun k=>by rw[zC.l0]) ?_;refine Tot.pos (by omega) (Tot.pos (by omega) ?_);refine ih _ (by simp;omega) ⟨by simp;omega,fun m hm=> ?_⟩;rcases List.mem_append.1 hm with hm|hm
    · exact h.2 m hm
    · rw[List.mem_singleton.1 hm];simp[sizeT,sizeL]
theorem smallB_set {B B':Nat} {ms:List S58} (h:SmallB B ms) (hB:B≤B') {i:Nat} {y:S58} (hy:sizeT y.f1≤B'):SmallB B' (ms.set i y):=
  ⟨by rw[List.length_set];exact h.1,fun m hm=>(List.mem_or_eq_of_mem_set hm).elim (fun h1=>Nat.le_trans (h.2 m h1) hB) (fun h1=>by rw[h1];exact hy)⟩
theorem bentc_tot {l:List Int} {a:Int} (ht:TapeOk l a) {B:Nat} (hB:B≤900000) {ms:List S58} (h:SmallB B ms) (h0:1≤ms.length):Tot (fun k=>zC.f k l a ms) (BentC l (B+500)):=by
  have hlen:=h.1;unfold zC.f;refine Tot.bindP (P:=fun y=>y=[]) ⟨[],rfl,rfl⟩ ?_;intro y hy;subst hy;refine Tot.pos (by simp only[List.length_nil];omega) ?_;refine Tot.bindP (P:=fun y=>y=ms) ⟨ms,rfl,by simp⟩ ?_;intro y hy;subst hy;refine Tot.neg (by omega) ?_;refine Tot.bindP (tapeN ht (n:=(y.length:Int)) (by omega) (by omega)) ?_;rintro⟨i,c⟩ ⟨g0,g1,g2⟩;obtain⟨i,rfl⟩:=Int.eq_ofNat_of_zero_le g0;dsimp only at g1 g2 ⊢;have hlt:i<y.length:=by omega
  have hsz:=h.2 _ (List.getElem_mem hlt);refine Tot.pos (by omega) (Tot.pos (by omega) ?_);rw[rdM_get hlt];refine Tot.bindP (tapeN g2 (n:=5) (by omega) (by omega)) ?_;rintro⟨q,b⟩ ⟨g3,g4,g5⟩;dsimp only at g3 g4 g5 ⊢;refine Tot.ite (fun _=> ?_) (fun _=>Tot.ite (fun _=> ?_) (fun _=>Tot.ite (fun _=> ?_) (fun _=>Tot.ite (fun _=> ?_) (fun _=> ?_))))
  · have g8:sizeT (⟨(y[i]).f1.f0,(y[i]).f1.f1,(y[i]).f1.f2⟩:S56)≤B+500:=by
      have g9:sizeT (y[i]).f1≤B+500:=by omega
      rw[show(⟨(y[i]).f1.f0,(y[i]).f1.f1,(y[i]).f1.f2⟩:S56)=(y[i]).f1 from eta_T _];exact g9
    exact Tot.now ⟨smallB_set (B':=B+500) h (by omega) g8,g5⟩
  · refine Tot.bind (bent_tot _ (y[i]).f1 b (Nat.lt_succ_self _) (by omega) g5) ?_;rintro r ⟨g6,g7⟩;have g8:sizeT (⟨r.1,r.2.1,r.2.2.1⟩:S56)≤B+500:=by
      simp only[mkT] at g6;omega
    exact Tot.now ⟨smallB_set (B':=B+500) h (by omega) g8,g7⟩
  · refine Tot.now ⟨smallB_set (B':=B+500) h (by omega) ?_,g5⟩;simp[sizeT,sizeL]
  · rw[wrap64_id (by omega) (by omega)];refine Tot.pos (by omega) (Tot.pos (by omega) (Tot.now ⟨⟨?_,fun m hm=>Nat.le_trans (h.2 m (List.mem_of_mem_take hm)) (by omega)⟩,g5⟩));rw[List.length_take];omega
  · exact bentc_l0 g5 _ y rfl ⟨h.1,fun m hm=>Nat.le_trans (h.2 m hm) (by omega)⟩
def EntP (n s:Nat) (r:Int):Prop:=∃m:Nat,r=(m:Int)∧n<m∧m≤281474976710656∧(m≤400→m=n+s)
mutual
def entT:S56→Nat
  |⟨_,ns,inner⟩=>1+ns.length+entL inner
def entL:List S56→Nat
  |[]=>0
  |x::xs=>entT x+entL xs
end
theorem entL_drop (xs:List S56) (i:Nat) (h:i<xs.length):entL (xs.drop i)=entT xs[i]+entL (xs.drop (i+1)):=by rw[List.drop_eq_getElem_cons h,entL]
mutual
theorem size_ent:∀t:S56,sizeT t+1≤2*entT t
  |⟨_,ns,inner⟩=>by
    rw[sizeT,entT];have:=size_entL inner;omega
theorem size_entL:∀xs:List S56,xs.length+sizeL xs≤2*entL xs
  |[]=>by simp[sizeL,entL]
  |x::xs=>by
    rw[sizeL,entL,List.length_cons];have:=size_ent x;have:=size_entL xs;omega
end
theorem entries_l0 {inner:List S56} (th:Int) (ns:List Int) (ih:∀t∈inner,∀n:Nat,n≤400→Tot (fun k=>jY.f k t.f0 t.f1 t.f2 (n:Int)) (EntP n (entT t))):
    ∀(d i m:Nat),inner.length - i=d→i≤inner.length→m≤281474976710656→i≤m→Tot (fun k=>jY.l0 k (m:Int) (i:Int) th ns inner) (fun r=>∃m':Nat,r=(m':Int)∧m≤m'∧m'≤281474976710656∧(m'≤400→m'=m+entL (inner.drop i))):=by
  intro d
  induction d with
  |zero=>
    intro i m hd hi hm him;refine Tot.step (fun k=>by rw[jY.l0]) ?_;rw[List.drop_eq_nil_of_le (by omega)];exact Tot.neg (by omega) (Tot.now ⟨m,rfl,Nat.le_refl _,hm,fun _=>by simp[entL]⟩)
  |succ d ihd=>
    intro i m hd hi hm him;have hlt:i<inner.length:=by omega
    have he:=entL_drop inner i hlt;refine Tot.step (fun k=>by rw[jY.l0]) ?_;refine Tot.pos (by omega) ?_;by_cases h4:m≤400
    · refine Tot.pos (by omega) (Tot.pos (by omega) ?_);rw[rdT_get hlt];refine Tot.bind (ih _ (List.getElem_mem hlt) m h4) ?_;rintro r ⟨m',rfl,h1,h2,h3⟩;rw[succ64 (by omega)];refine(ihd (i+1) m' (by omega) (by omega) h2 (by omega)).mono ?_;rintro r ⟨m2,rfl,g1,g2,g3⟩;exact⟨m2,rfl,by omega,g2,fun h=>by have:=g3 h;have:=h3 (by omega);omega⟩
    · exact Tot.neg (by omega) (Tot.now ⟨m,rfl,Nat.le_refl _,hm,fun h=>absurd h h4⟩)
theorem entries_tot {t:S56} (hb:BoundT t):∀n:Nat,n≤400→Tot (fun k=>jY.f k t.f0 t.f1 t.f2 (n:Int)) (EntP n (entT t)):=by
  induction hb with
  |mk th ns inner h1 _ ih=>
    intro n hn;refine Tot.step (fun k=>by rw[jY.f]) ?_;dsimp only;rw[wrap64_id (i:=1+(ns.length:Int)) (by omega) (by omega),wrap64_id (by omega) (by omega),show(n:Int)+(1+(ns.length:Int))=((n+1+ns.length:Nat):Int) by omega];refine(entries_l0 th ns ih inner.length 0 (n+1+ns.length) (by omega) (by omega) (by omega) (by omega)).mono ?_;rintro r ⟨m,rfl,g1,g2,g3⟩;refine⟨m,rfl,by omega,g2,fun h=> ?_⟩;have:=g3 h;rw[List.drop_zero] at this;rw[entT];omega
def entM:List S58→Nat
  |[]=>0
  |x::xs=>entT x.f1+entM xs
theorem entM_mem {m:S58}:∀{ms:List S58},m∈ms→entT m.f1≤entM ms
  |x::xs,h=>by
    rw[entM];rcases List.mem_cons.1 h with rfl|h
    · omega
    · have:=entM_mem h;omega
theorem smallConfig_l0 {ms:List S58} (hb:∀m∈ms,BoundT m.f1) (hl:ms.length≤30):∀(d i n:Nat),ms.length - i=d→i≤ms.length→n≤281474976710656→
    Tot (fun k=>jR.l0 k (n:Int) (i:Int) ms) (fun r=>r=true→n+entM (ms.drop i)≤400):=by
  intro d
  induction d with
  |zero=>
    intro i n hd hi hn;refine Tot.step (fun k=>by rw[jR.l0]) ?_;rw[List.drop_eq_nil_of_le (by omega)];refine Tot.neg (by omega) (Tot.now fun h=> ?_);have:=of_decide_eq_true h;simp only[entM];omega
  |succ d ih=>
    intro i n hd hi hn;have hlt:i<ms.length:=by omega
    refine Tot.step (fun k=>by rw[jR.l0]) ?_;refine Tot.pos (by omega) ?_;by_cases h4:n≤400
    · refine Tot.pos (by omega) (Tot.pos (by omega) ?_);rw[rdM_get hlt];refine Tot.bind (entries_tot (hb _ (List.getElem_mem hlt)) n h4) ?_;rintro r ⟨m,rfl,h1,h2,h3⟩;rw[succ64 (by omega)];refine(ih (i+1) m (by omega) (by omega) h2).mono ?_;intro r hr e;have h5:=hr e;have:=h3 (by omega);rw[List.drop_eq_getElem_cons hlt,entM];omega
    · refine Tot.neg (by omega) (Tot.now fun h=> ?_);have:=of_decide_eq_true h;omega
theorem smallConfig_tot {ms:List S58} (hb:∀m∈ms,BoundT m.f1) (hl:ms.length≤9223372036854775807):Tot (fun k=>jR.f k ms) (fun r=>r=true→SmallB 1000 ms):=by
  unfold jR.f;refine Tot.ite (fun _=>Tot.now (by simp)) (fun h=> ?_);refine(smallConfig_l0 hb (by omega) ms.length 0 0 (by omega) (by omega) (by omega)).mono ?_;intro r hr e;have:=hr e;rw[List.drop_zero] at this;refine⟨by omega,fun m hm=> ?_⟩;have:=entM_mem hm;have:=size_ent m.f1;omega
end Go.Proofs.Ytkkbdimegpdbgaa.P
