/- The search trees that are made: all come, none is large, and those without mistakes are right where no two quorums are disjoint; conditions: at most ten members. -/
import Derived.Test.YtkkbdimegpdbgaaQwM15
import Derived.Test.YtkkbdimegpdbgaaQwPx18
namespace Go.Proofs.Ytkkbdimegpdbgaa.P
open Go.RowKit Go.Proofs.YtkkbdimegpdbgaaW.PrintWords Go.Proofs.YtkkbdimegpdbgaaW.PrintLast Go.Proofs.YtkkbdimegpdbgaaW.PrintMore
set_option linter.unusedVariables false
set_option linter.unusedSimpArgs false
def mkX4 (r:Int × Int × List S28 × Int):S28:=⟨r.1,r.2.1,r.2.2.1⟩
def MadeX (ms:List S58) (R E:Nat) (mis:Bool) (x:S28):Prop:=sizeX x+1≤2^(pop (freeN ms R E)+1)∧(mis=false→Meets ms→rightX ms x R E=true)
theorem all_eq {ms:List S58} (hl:ms.length≤10):wrap64 ((shl .i64 1 (ms.length:Int)) - 1)=(allN ms:Int):=by
  have h1:=two_pow_le10 hl;have h2:=Nat.two_pow_pos ms.length;unfold allN;rw[shl_one (by omega)];generalize 2^ms.length=q at h1 h2
  rw[wrap64_id (by omega) (by omega)];omega
theorem free_eq {ms:List S58} {R E:Nat}:sdiff (allN ms) (R|||E)=freeN ms R E:=by
  apply Nat.eq_of_testBit_eq;intro i;rw[freeN_bit,sdiff_bit,allN_bit,Nat.testBit_or]
  cases decide (i<ms.length) <;> cases R.testBit i <;> cases E.testBit i <;> rfl
theorem trace_loop {ms:List S58} (hl:ms.length≤10) (hl0:1≤ms.length) {F:Nat} (hF:F<1024) (hFa:∀i,F.testBit i=true→i<ms.length) (hF0:F≠0) (x2 x3:Int) (x4:Bool) (l:List Int) (a:Int) (P:Int × Int × List S28 × Int→Prop)
    (go:∀j,F.testBit j=true→Tot (fun k=>(qL.f k l a ms x2 (Go.bits .or .i64 x3 (shl .i64 1 (j:Int))) x4).bind fun bt608=>(if([]:List S28).length<3518437208883 then((some (([]:List S28)++[(⟨bt608.1,bt608.2.1,bt608.2.2.1⟩:S28)]:List S28)).bind fun y614=>((qL.f k l bt608.2.2.2 ms (Go.bits .or .i64 x2 (shl .i64 1 (j:Int))) x3 x4).bind fun bt617=>(if y614.length<3518437208883 then(some (3,(j:Int),(y614++[(⟨bt617.1,bt617.2.1,bt617.2.2.1⟩:S28)]),bt617.2.2.2)) else(none)))) else(none))) P):
    ∀(d j:Nat),j<ms.length→(∃i,i<d∧F.testBit ((j+i)%ms.length)=true)→Tot (fun k=>qL.l0 k x2 x3 x4 (F:Int) (j:Int) l a ms) P:=by
  intro d
  induction d with
  |zero=>rintro j hj ⟨i,hi,_⟩;omega
  |succ d ih=>
    rintro j hj ⟨i,hi,hb⟩;refine Tot.step (fun k=>by rw[qL.l0]) ?_;refine Tot.pos (Int.natCast_nonneg j) ?_;rw[shr_bit hF (by omega)];by_cases e:F.testBit j=true
    · refine Tot.neg (by rw[e];decide) (go j e)
    · have e':=Bool.eq_false_iff.2 e;refine Tot.pos (by rw[e'];rfl) (Tot.neg (by omega) ?_);rw[succ64 (by omega)];have e2:Int.tmod ((j+1:Nat):Int) (ms.length:Int)=(((j+1)%ms.length:Nat):Int):=by rw[Int.tmod_eq_emod_of_nonneg (by omega)];rfl
      rw[e2];refine ih _ (Nat.mod_lt _ (by omega)) ⟨i - 1, ?_, ?_⟩
      · cases i with
        |zero=>rw[Nat.add_zero,Nat.mod_eq_of_lt hj] at hb;exact absurd hb e
        |succ i=>omega
      · cases i with
        |zero=>rw[Nat.add_zero,Nat.mod_eq_of_lt hj] at hb;exact absurd hb e
        |succ i=>
          rw[Nat.succ_sub_one,Nat.mod_add_mod];rwa [show j+1+i=j+(i+1) by omega]
theorem trace_meets {ms:List S58} (hl0:1≤ms.length) {F j:Nat} (hj:j<ms.length) (hFa:∀i,F.testBit i=true→i<ms.length) (hF0:F≠0):∃i,i<ms.length∧F.testBit ((j+i)%ms.length)=true:=by
  obtain⟨q,hq⟩:∃q,F.testBit q=true:=by
    by_cases hx:∃q,F.testBit q=true
    · exact hx
    · exact absurd (eq_zero_of_no_bit fun i=>by
        cases e:F.testBit i with
        |false=>rfl
        |true=>exact absurd ⟨i,e⟩ hx) hF0
  have hqn:=hFa q hq;by_cases h:j≤q
  · exact⟨q - j,by omega,by rw[show j+(q - j)=q by omega,Nat.mod_eq_of_lt hqn];exact hq⟩
  · refine⟨q+ms.length - j,by omega, ?_⟩;rw[show j+(q+ms.length - j)=q+ms.length by omega,Nat.add_mod_right,Nat.mod_eq_of_lt hqn];exact hq
theorem trace_tot {ms:List S58} (hc:SmallC ms) (hl:ms.length≤10) (hl0:1≤ms.length) {l:List Int} (mis:Bool):∀(d R E:Nat) (a:Int),pop (freeN ms R E)<d→R<1024→E<1024→TapeOk l a→
    Tot (fun k=>qL.f k l a ms (R:Int) (E:Int) mis) (fun r=>MadeX ms R E mis (mkX4 r)∧TapeOk l r.2.2.2):=by
  have ha:=allN_lt hl;intro d
  induction d with
  |zero=>intro R E a hd;omega
  |succ d ih=>
    intro R E a hd hR hE ht;have hsE:sdiff (allN ms) E<1024:=Sub.lt10 (Sub.sdiff _ _) ha;have hsR:sdiff (allN ms) R<1024:=Sub.lt10 (Sub.sdiff _ _) ha;have hRE:R|||E<1024:=Nat.or_lt_two_pow (n:=10) hR hE
    have hg:=great_lt ms (sdiff (allN ms) E);have hF:=freeN_lt hl R E;have hone:2≤2^(pop (freeN ms R E)+1):=by
      have:=Nat.two_pow_pos (pop (freeN ms R E));rw[Nat.pow_succ];omega
    have small (kd nd:Int):sizeX (⟨kd,nd,[]⟩:S28)+1≤2^(pop (freeN ms R E)+1):=by simpa[sizeX,sizeXL] using hone
    have j2 (b:Bool) (b0:Int) (h1:noneN ms R E=false) (hb:b=(aloneN ms R||decide (freeN ms R E=0))) (ht:TapeOk l b0):Tot (fun k=>qL.j2 k (R:Int) (E:Int) mis (freeN ms R E:Int) b l b0 ms) (fun r=>MadeX ms R E mis (mkX4 r)∧TapeOk l r.2.2.2):=by
      refine Tot.step (fun k=>by rw[qL.j2]) ?_;refine Tot.ite (fun h=>Tot.now ⟨⟨small _ _,fun _ hm=> ?_⟩,ht⟩) (fun h=> ?_)
      · show rightX ms ⟨2,0,[]⟩ R E=true
        rw[rightX_def];have h2:aloneN ms R=true:=by
          cases e:aloneN ms R with
          |true=>rfl
          |false=>
            rw[hb,e,Bool.false_or,decide_eq_true_eq] at h;refine absurd (eq_zero_of_no_bit fun i=> ?_) (split_node hl hm h1 e)
            cases e2:(sdiff (greatN ms (sdiff (allN ms) E)) R).testBit i with
            |false=>rfl
            |true=>
              rw[sdiff_bit,Bool.and_eq_true] at e2;have h3:=great_sub _ _ i e2.1;rw[sdiff_bit,Bool.and_eq_true] at h3;have:(freeN ms R E).testBit i=true:=by unfold freeN;rw[sdiff_bit,sdiff_bit,h3.1,e2.2,h3.2];rfl
              rw[h,Nat.zero_testBit] at this;cases this
        simpa using h2
      · have hF0:freeN ms R E≠0:=fun e=>h (by rw[hb,decide_eq_true e,Bool.or_true])
        refine Tot.bindP (tapeN ht (n:=(ms.length:Int)) (by omega) (by omega)) ?_;rintro⟨j,b1⟩ ⟨c1,c2,c3⟩;obtain⟨j,rfl⟩:=Int.eq_ofNat_of_zero_le c1;simp only at c1 c2 c3 ⊢;have hFa:∀i,(freeN ms R E).testBit i=true→i<ms.length:=fun i hi=>by
          rw[freeN_bit,Bool.and_eq_true,Bool.and_eq_true,decide_eq_true_eq] at hi;exact hi.1.1
        refine trace_loop hl hl0 hF hFa hF0 _ _ _ _ _ _ (fun j hj=> ?_) ms.length j (by omega) (trace_meets hl0 (by omega) hFa hF0);have hjn:=hFa j hj;have hp:=pow_lt1024 (k:=j) (by omega);have hpop:=pop_minus hF hj;rw[shl_one (by omega),bits_or_nat (lt1024 hE) (lt1024 hp),bits_or_nat (lt1024 hR) (lt1024 hp)];have hE':E|||2^j<1024:=Nat.or_lt_two_pow (n:=10) hE hp
        have hR':R|||2^j<1024:=Nat.or_lt_two_pow (n:=10) hR hp
        refine Tot.bind (ih R (E|||2^j) b1 (by rw[freeN_or2];omega) hR hE' c3) ?_;rintro⟨k1,n1,x1,b2⟩ ⟨⟨s1,r1⟩,c4⟩;refine Tot.pos (by simp) (Tot.bindE (Ev.now _) ?_);refine Tot.bind (ih (R|||2^j) E b2 (by rw[freeN_or1];omega) hR' hE c4) ?_;rintro⟨k2,n2,x2,b3⟩ ⟨⟨s2,r2⟩,c5⟩;refine Tot.pos (by simp) (Tot.now ⟨⟨?_,fun hmis hm=> ?_⟩,c5⟩)
        · rw[freeN_or2] at s1;rw[freeN_or1] at s2;simp only[mkX4,List.nil_append,List.cons_append,sizeX,sizeXL] at s1 s2 ⊢;rw[hpop] at s1 s2;exact two_up s1 s2
        · have r1:=r1 hmis hm;have r2:=r2 hmis hm;simp only[mkX4,List.nil_append,List.cons_append] at r1 r2 ⊢;rw[rightX_def,if_neg (by simp),if_neg (by simp),if_pos rfl,rightK];simp only[Bool.and_eq_true];refine⟨⟨?_,by rw[Int.toNat_natCast];exact r1⟩,by rw[Int.toNat_natCast];exact r2⟩;rw[hasI_nat];exact hj
    have j1 (b:Bool) (b0:Int) (hb:b=noneN ms R E) (ht:TapeOk l b0):Tot (fun k=>qL.j1 k (R:Int) (E:Int) mis (allN ms:Int) b l b0 ms) (fun r=>MadeX ms R E mis (mkX4 r)∧TapeOk l r.2.2.2):=by
      refine Tot.step (fun k=>by rw[qL.j1]) ?_;refine Tot.ite (fun h=>Tot.now ⟨⟨small _ _,fun _ hm=> ?_⟩,ht⟩) (fun h=> ?_)
      · show rightX ms ⟨1,0,[]⟩ R E=true
        rw[rightX_def];simpa[← hb] using h
      · rw[bits_andNot_nat (lt1024 ha) (lt1024 hR),bits_or_nat (lt1024 hR) (lt1024 hE),bits_andNot_nat (lt1024 ha) (lt1024 hRE),free_eq];have h1:noneN ms R E=false:=by rw[← hb];exact Bool.eq_false_iff.2 h
        refine Tot.bindE (ref_greatest_ev hc hsR) (Tot.ite (fun h2=>j2 _ _ h1 ?_ ht) (fun h2=>j2 _ _ h1 ?_ ht))
        · have:aloneN ms R=true:=by unfold aloneN;exact decide_eq_true (by omega)
          rw[this];rfl
        · have:aloneN ms R=false:=by unfold aloneN;exact decide_eq_false (by omega)
          rw[this,Bool.false_or];by_cases e:freeN ms R E=0
          · rw[e];rfl
          · rw[decide_eq_false e,beq_eq_false_iff_ne];omega
    have j0 (b:Bool) (b0:Int) (hb:mis=false→b=false) (ht:TapeOk l b0):Tot (fun k=>qL.j0 k (R:Int) (E:Int) mis (allN ms:Int) b l b0 ms) (fun r=>MadeX ms R E mis (mkX4 r)∧TapeOk l r.2.2.2):=by
      refine Tot.step (fun k=>by rw[qL.j0]) ?_;refine Tot.ite (fun h=> ?_) (fun h=> ?_)
      · refine Tot.bindP (tapeRange ht (lo:=0) (hi:=4) (by omega) (by omega) (by omega)) ?_;rintro⟨x,b1⟩ ⟨c1,c2,c3⟩;refine Tot.bindP (tapeN c3 (n:=2) (by omega) (by omega)) ?_;rintro⟨y,b2⟩ ⟨c4,c5,c6⟩;refine Tot.now ⟨⟨small _ _,fun hm=> ?_⟩,c6⟩;rw[hb hm] at h;cases h
      · rw[bits_andNot_nat (lt1024 ha) (lt1024 hE)];refine Tot.bindE (ref_greatest_ev hc hsE) (Tot.ite (fun h2=>j1 _ _ ?_ ht) (fun h2=>j1 _ _ ?_ ht))
        · unfold noneN;rw[decide_eq_true (by omega),Bool.true_or]
        · unfold noneN;rw[decide_eq_false (by omega),Bool.false_or,bits_and_nat (lt1024 hg) (lt1024 hR)];by_cases h3:sdiff R (greatN ms (sdiff (allN ms) E))=0
          · have:=(sdiff_zero.1 h3).and_eq;rw[Nat.and_comm,this,h3];simp
          · rw[decide_eq_true h3,bne_iff_ne];intro e;refine h3 (sdiff_zero.2 (sub_of_and_eq ?_));rw[Nat.and_comm];omega
    refine Tot.step (fun k=>by rw[qL.f]) ?_;rw[all_eq hl];refine Tot.ite (fun h=> ?_) (fun h=>j0 _ _ (fun _=>rfl) ht);refine Tot.bindP (tapeN ht (n:=12) (by omega) (by omega)) ?_;rintro⟨x,b1⟩ ⟨c1,c2,c3⟩;exact j0 _ _ (fun e=>by rw[e] at h;cases h) c3
theorem made_tot {ms:List S58} (hc:SmallC ms) (hl:ms.length≤10) (hl0:1≤ms.length) {l:List Int} (mis:Bool) {a:Int} (ht:TapeOk l a):
    Tot (fun k=>kV.f k l a ms mis) (fun r=>(sizeX (mkX4 r)≤2047∧(mis=false→Meets ms→rightX ms (mkX4 r) 0 0=true))∧TapeOk l r.2.2.2):=by
  unfold kV.f;refine Tot.bind (trace_tot hc hl hl0 mis _ 0 0 a (Nat.lt_succ_self _) (by decide) (by decide) ht) ?_;rintro⟨a1,a2,a3,a4⟩ ⟨⟨h1,h2⟩,h3⟩;refine Tot.now ⟨⟨?_,h2⟩,h3⟩;rw[free_zero hl] at h1;have:2^(ms.length+1)≤2^11:=Nat.pow_le_pow_right (by decide) (by omega);simp only[mkX4] at h1 ⊢;omega
end Go.Proofs.Ytkkbdimegpdbgaa.P
namespace Go.Proofs.Ytkkbdimegpdbgaa.P
open Go.RowKit Go.Proofs.YtkkbdimegpdbgaaW.PrintWords Go.Proofs.YtkkbdimegpdbgaaW.PrintLast Go.Proofs.YtkkbdimegpdbgaaW.PrintMore
set_option linter.unusedVariables false
set_option linter.unusedSimpArgs false
def BrP (n s:Nat) (r:Int):Prop:=∃m:Nat,r=(m:Int)∧n≤m∧m≤601∧(m≤600→m=n+s)
theorem branches_l0 {kids:List S28} (a b:Int) (n:Nat) (ih:∀y∈kids,∀n:Nat,n≤600→Tot (fun k=>jS.f k y.f0 y.f1 y.f2 (n:Int)) (fun r=>BrP n (sizeX y) r∧(n:Int)<r)):
    ∀(d i m:Nat),kids.length - i=d→i≤kids.length→m≤601→i≤m→Tot (fun k=>jS.l0 k (m:Int) (i:Int) a b kids) (BrP m (sizeXL (kids.drop i))):=by
  intro d
  induction d with
  |zero=>
    intro i m hd hi hm him;refine Tot.step (fun k=>by rw[jS.l0]) ?_;rw[List.drop_eq_nil_of_le (by omega)];exact Tot.neg (by omega) (Tot.now ⟨m,rfl,Nat.le_refl _,hm,fun _=>by simp[sizeXL]⟩)
  |succ d ihd=>
    intro i m hd hi hm him;have hlt:i<kids.length:=by omega
    have he:=sizeXL_drop kids i hlt;refine Tot.step (fun k=>by rw[jS.l0]) ?_;refine Tot.pos (by omega) ?_;by_cases h6:m≤600
    · refine Tot.pos (by omega) (Tot.pos (by omega) ?_);rw[rdK_get hlt];refine Tot.bind (ih _ (List.getElem_mem hlt) m h6) ?_;rintro r ⟨⟨m',rfl,h1,h2,h3⟩,h4⟩;rw[succ64 (by omega)];refine(ihd (i+1) m' (by omega) (by omega) h2 (by omega)).mono ?_;rintro r ⟨m2,rfl,g1,g2,g3⟩;exact⟨m2,rfl,by omega,g2,fun h=>by have:=g3 h;have:=h3 (by omega);omega⟩
    · exact Tot.neg (by omega) (Tot.now ⟨m,rfl,Nat.le_refl _,hm,fun h=>absurd h h6⟩)
theorem branches_tot:∀(N:Nat) (x:S28),sizeX x≤N→∀n:Nat,n≤600→Tot (fun k=>jS.f k x.f0 x.f1 x.f2 (n:Int)) (fun r=>BrP n (sizeX x) r∧(n:Int)<r):=by
  intro N
  induction N with
  |zero=>intro x hx;have:=sizeX_pos x;omega
  |succ N ih=>
    rintro⟨a,b,kids⟩ hx n hn;rw[sizeX] at hx;refine Tot.step (fun k=>by rw[jS.f]) ?_;rw[succ64 (by omega)];have hk:∀y∈kids,sizeX y≤N:=by
      intro y hy;obtain⟨i,hi,rfl⟩:=List.getElem_of_mem hy;have h1:=sizeXL_drop kids i hi;have h2:=sizeXL_drop_le kids i;omega
    refine(branches_l0 a b n (fun y hy=>ih y (hk y hy)) kids.length 0 (n+1) (by omega) (by omega) (by omega) (by omega)).mono ?_;rintro r ⟨m,rfl,h1,h2,h3⟩;refine⟨⟨m,rfl,by omega,h2,fun h=> ?_⟩,by omega⟩;have:=h3 h;rw[List.drop_zero] at this;rw[sizeX];omega
theorem smallTrace_tot (x:S28):Tot (fun k=>uN.f k x.f0 x.f1 x.f2) (fun r=>r=true→sizeX x≤600):=by
  unfold uN.f;refine Tot.bind (branches_tot _ x (Nat.le_refl _) 0 (by omega)) ?_;rintro r ⟨⟨m,rfl,h1,h2,h3⟩,_⟩;refine Tot.now fun h=> ?_
  have:(m:Int)≤600:=of_decide_eq_true h;have:=h3 (by omega);omega
end Go.Proofs.Ytkkbdimegpdbgaa.P
