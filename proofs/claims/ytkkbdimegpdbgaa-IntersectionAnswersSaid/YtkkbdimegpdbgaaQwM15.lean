/- Search trees: their size, and what the program's check of them answers; what is accepted shows that no two quorums are disjoint; conditions: at most ten members, sizes below 2^40. -/
import Derived.Test.YtkkbdimegpdbgaaQwM12
import Derived.Test.YtkkbdimegpdbgaaQwPx27
namespace Go.Proofs.Ytkkbdimegpdbgaa.P
open Go.RowKit Go.Proofs.YtkkbdimegpdbgaaW.PrintWords Go.Proofs.YtkkbdimegpdbgaaW.PrintLast Go.Proofs.YtkkbdimegpdbgaaW.PrintMore
set_option linter.unusedVariables false
set_option linter.unusedSimpArgs false
theorem rdK_get {xs:List S28} {i:Nat} (h:i<xs.length):qN xs (i:Int)=xs[i]:=by
  unfold qN;rw[Int.toNat_natCast,List.getD_eq_getElem?_getD,List.getElem?_eq_getElem h];rfl
mutual

def sizeX:S28→Nat
  |⟨_,_,kids⟩=>1+sizeXL kids
def sizeXL:List S28→Nat
  |[]=>0
  |x::xs=>sizeX x+sizeXL xs
end
theorem sizeX_pos (x:S28):1≤sizeX x:=by obtain⟨a,b,c⟩:=x;rw[sizeX];omega
theorem sizeXL_append:∀a b:List S28,sizeXL (a++b)=sizeXL a+sizeXL b
  |[],b=>by simp[sizeXL]
  |x::a,b=>by rw[List.cons_append,sizeXL,sizeXL_append a b,sizeXL];omega
theorem sizeXL_drop (xs:List S28) (i:Nat) (h:i<xs.length):sizeXL (xs.drop i)=sizeX xs[i]+sizeXL (xs.drop (i+1)):=by rw[List.drop_eq_getElem_cons h,sizeXL]
theorem sizeXL_drop_le (xs:List S28) (i:Nat):sizeXL (xs.drop i)≤sizeXL xs:=by
  have:=sizeXL_append (xs.take i) (xs.drop i);rw[List.take_append_drop] at this;omega
theorem sizeXL_len:∀xs:List S28,xs.length≤sizeXL xs
  |[]=>by simp
  |x::xs=>by rw[sizeXL,List.length_cons];have:=sizeXL_len xs;have:=sizeX_pos x;omega
theorem x_size_l0 {xs:List S28} (hs:sizeXL xs≤1099511627776) (hx:∀x∈xs,Ev (fun k=>zS.f k x.f0 x.f1 x.f2) (sizeX x:Int)):
    ∀(d i c:Nat),xs.length - i=d→i≤xs.length→c≤2199023255552+(sizeXL xs - sizeXL (xs.drop i))→Ev (fun k=>zS.l0 k (c:Int) xs (xs.length:Int) (i:Int)) ((c+sizeXL (xs.drop i):Nat):Int):=by
  have hn:=sizeXL_len xs;intro d
  induction d with
  |zero=>
    intro i c hd' hi hc;refine Ev.step (fun k=>by rw[zS.l0]) ?_;rw[List.drop_eq_nil_of_le (by omega)];exact Ev.neg (by omega) (Ev.eq (by simp[sizeXL]))
  |succ d ih=>
    intro i c hd' hi hc;have hlt:i<xs.length:=by omega
    have he:=sizeXL_drop xs i hlt;have hle:=sizeXL_drop_le xs i;refine Ev.step (fun k=>by rw[zS.l0]) ?_;refine Ev.pos (by omega) (Ev.pos (by omega) (Ev.pos (by omega) ?_));rw[rdK_get hlt];refine Ev.bind (hx _ (List.getElem_mem hlt)) ?_;rw[wrap64_id (by omega) (by omega),succ64 (by omega),he];have:=ih (i+1) (c+sizeX xs[i]) (by omega) (by omega) (by omega);rw[← Nat.add_assoc,show(c:Int)+(sizeX xs[i]:Int)=((c+sizeX xs[i]:Nat):Int) by omega];exact this
mutual
theorem x_size_ev:∀x:S28,sizeX x≤1099511627776→Ev (fun k=>zS.f k x.f0 x.f1 x.f2) (sizeX x:Int)
  |⟨a,b,kids⟩,h=>by
    rw[sizeX] at h;refine Ev.step (fun k=>by rw[zS.f]) ?_;have:=x_size_l0 (xs:=kids) (by omega) (x_size_evL kids (by omega)) kids.length 0 1 (by omega) (by omega) (by omega);simpa[sizeX] using this
theorem x_size_evL:∀xs:List S28,sizeXL xs≤1099511627776→∀x∈xs,Ev (fun k=>zS.f k x.f0 x.f1 x.f2) (sizeX x:Int)
  |[],_,x,hx=>by cases hx
  |y::ys,h,x,hx=>by
    rw[sizeXL] at h;rcases List.mem_cons.1 hx with e|hx
    · rw[e];exact x_size_ev y (by omega)
    · exact x_size_evL ys (by omega) x hx
end
def noneN (ms:List S58) (R E:Nat):Bool:=decide (greatN ms (sdiff (allN ms) E)=0)||decide (sdiff R (greatN ms (sdiff (allN ms) E))≠0)
def aloneN (ms:List S58) (R:Nat):Bool:=decide (greatN ms (sdiff (allN ms) R)=0)
def rightX (ms:List S58):S28→Nat→Nat→Bool
  |⟨kd,nd,kids⟩,R,E=>
    if kd=1 then decide (nd=0)&&kids.isEmpty&&noneN ms R E
    else if kd=2 then decide (nd=0)&&kids.isEmpty&&aloneN ms R
    else if kd=3 then
      match h:kids with
      |[a,b]=>hasI (sdiff (sdiff (allN ms) R) E) nd&&rightX ms a R (E|||2^nd.toNat)&&rightX ms b (R|||2^nd.toNat) E
      |_=>false
    else false
termination_by x=>sizeX x
decreasing_by
  all_goals
    simp only[sizeX,sizeXL];have:=sizeX_pos a;have:=sizeX_pos b;omega
def rightK (ms:List S58) (kids:List S28) (nd:Int) (R E:Nat):Bool:=
  match kids with
  |[a,b]=>hasI (sdiff (sdiff (allN ms) R) E) nd&&rightX ms a R (E|||2^nd.toNat)&&rightX ms b (R|||2^nd.toNat) E
  |_=>false
theorem rightX_def (ms:List S58) (kd nd:Int) (kids:List S28) (R E:Nat):rightX ms ⟨kd,nd,kids⟩ R E=
    if kd=1 then decide (nd=0)&&kids.isEmpty&&noneN ms R E
    else if kd=2 then decide (nd=0)&&kids.isEmpty&&aloneN ms R
    else if kd=3 then rightK ms kids nd R E else false:=by
  match kids with
  |[]=>rw[rightX] <;> simp[rightK]
  |[a]=>rw[rightX] <;> simp[rightK]
  |[a,b]=>rw[rightX];simp only[rightK]
  |a::b::c::l=>rw[rightX] <;> simp[rightK]
theorem none_ev {ms:List S58} (hc:SmallC ms) (hl:ms.length≤10) {R E:Nat} (hR:R<1024) (hE:E<1024):Ev (fun k=>vM.f k ms (R:Int) (E:Int)) (noneN ms R E):=by
  have ha:=allN_lt hl;have hs:sdiff (allN ms) E<1024:=Sub.lt10 (Sub.sdiff _ _) ha;have hg:=great_lt ms (sdiff (allN ms) E);unfold vM.f noneN;refine Ev.bindP (members_eq hl) ?_;rw[bits_andNot_nat (lt1024 ha) (lt1024 hE)];refine Ev.bind (greatest_ev hc hs) ?_;by_cases h:greatN ms (sdiff (allN ms) E)=0
  · rw[decide_eq_true h,Bool.true_or];exact Ev.pos (by omega) (Ev.now _)
  · rw[decide_eq_false h,Bool.false_or];refine Ev.neg (by omega) (Ev.eq ?_);rw[bits_andNot_nat (lt1024 hR) (lt1024 hg)];by_cases h2:sdiff R (greatN ms (sdiff (allN ms) E))=0
    · rw[h2];rfl
    · rw[decide_eq_true h2,bne_iff_ne];omega
theorem alone_ev {ms:List S58} (hc:SmallC ms) (hl:ms.length≤10) {R:Nat} (hR:R<1024):Ev (fun k=>jG.f k ms (R:Int)) (aloneN ms R):=by
  have ha:=allN_lt hl;have hs:sdiff (allN ms) R<1024:=Sub.lt10 (Sub.sdiff _ _) ha;unfold jG.f aloneN;refine Ev.bindP (members_eq hl) ?_;rw[bits_andNot_nat (lt1024 ha) (lt1024 hR)];refine Ev.bind (greatest_ev hc hs) (Ev.eq ?_);by_cases h:greatN ms (sdiff (allN ms) R)=0
  · rw[h];rfl
  · rw[decide_eq_false h,beq_eq_false_iff_ne];omega
theorem hasI_bit {s:Nat} {k:Int} (hs:s<1024) (h:hasI s k=true):0≤k∧k<10∧s.testBit k.toNat=true:=by
  unfold hasI at h;simp only[Bool.and_eq_true,decide_eq_true_eq] at h;have:=bit_lt10 hs h.2;exact⟨h.1,by omega,h.2⟩
theorem right_ev {ms:List S58} (hc:SmallC ms) (hl:ms.length≤10):∀(n:Nat) (x:S28) (R E:Nat),sizeX x≤n→R<1024→E<1024→Ev (fun k=>qO.f k ms x.f0 x.f1 x.f2 (R:Int) (E:Int)) (rightX ms x R E):=by
  have ha:=allN_lt hl;intro n
  induction n with
  |zero=>intro x R E h;have:=sizeX_pos x;omega
  |succ n ih=>
    rintro⟨kd,nd,kids⟩ R E hn hR hE;have hs:sdiff (sdiff (allN ms) R) E<1024:=Sub.lt10 ((Sub.sdiff _ _).trans (Sub.sdiff _ _)) ha;have no (b:Bool) (hb:b=true):Ev (fun k=>qO.j1 k (R:Int) (E:Int) b ms kd nd kids) false:=by
      refine Ev.step (fun k=>by rw[qO.j1]) ?_;exact Ev.pos hb (Ev.now _)
    have main (b:Bool) (hb:b=(decide (nd=0)&&kids.isEmpty)):Ev (fun k=>qO.j0 k (R:Int) (E:Int) b ms kd nd kids) (rightX ms ⟨kd,nd,kids⟩ R E):=by
      refine Ev.step (fun k=>by rw[qO.j0]) ?_;rw[rightX_def];by_cases h1:kd=1
      · rw[if_pos h1, ← hb];refine Ev.pos h1 ?_
        cases b with
        |true=>exact Ev.pos rfl (Ev.bind (none_ev hc hl hR hE) (Ev.eq (by simp)))
        |false=>exact Ev.neg (by simp) (Ev.now _)
      · rw[if_neg h1];refine Ev.neg h1 ?_;by_cases h2:kd=2
        · rw[if_pos h2, ← hb];refine Ev.pos h2 ?_
          cases b with
          |true=>exact Ev.pos rfl (Ev.bind (alone_ev hc hl hR) (Ev.eq (by simp)))
          |false=>exact Ev.neg (by simp) (Ev.now _)
        · rw[if_neg h2];refine Ev.neg h2 ?_;by_cases h3:kd=3
          · rw[if_pos h3];refine Ev.pos h3 ?_;match kids,hn,no with
            |[],hn,no=>exact Ev.neg (by simp) (no true rfl)
            |[a],hn,no=>exact Ev.neg (by simp) (no true rfl)
            |a::b::c::l,hn,no=>exact Ev.neg (by simp;omega) (no true rfl)
            |[a,b],hn,no=>
              refine Ev.pos rfl (Ev.bindP (members_eq hl) ?_);rw[bits_andNot_nat (lt1024 ha) (lt1024 hR),bits_andNot_nat (lt1024 (Sub.lt10 (Sub.sdiff _ _) ha)) (lt1024 hE)];refine Ev.bindP (has_nat hs nd) ?_;by_cases h4:hasI (sdiff (sdiff (allN ms) R) E) nd=true
              · obtain⟨b1,b2,b3⟩:=hasI_bit hs h4;rw[rightK,h4,Bool.true_and];refine Ev.step (fun k=>by rw[qO.j1]) ?_;refine Ev.neg (by simp) (Ev.pos (by simp) (Ev.pos b1 ?_));have hp:=pow_lt1024 (k:=nd.toNat) (by omega);rw[shl_oneI b1 (by omega),bits_or_nat (lt1024 hE) (lt1024 hp),bits_or_nat (lt1024 hR) (lt1024 hp)];have e0:qN [a,b] 0=a:=rfl;have e1:qN [a,b] 1=b:=rfl;rw[e0,e1];simp only[sizeX,sizeXL] at hn;have hE':E|||2^nd.toNat<1024:=Nat.or_lt_two_pow (n:=10) hE hp
                have hR':R|||2^nd.toNat<1024:=Nat.or_lt_two_pow (n:=10) hR hp
                have:=sizeX_pos a;have:=sizeX_pos b;refine Ev.bind (ih a R _ (by omega) hR hE') ?_
                cases h5:rightX ms a R (E|||2^nd.toNat) with
                |false=>exact Ev.neg (by simp) (Ev.now _)
                |true=>
                  refine Ev.pos rfl (Ev.pos (by simp) (Ev.bind (ih b _ E (by omega) hR' hE) (Ev.eq (by simp))))
              · rw[rightK,Bool.eq_false_iff.2 h4,Bool.false_and,Bool.false_and];exact no true rfl
          · rw[if_neg h3];exact Ev.neg h3 (Ev.now _)
    refine Ev.step (fun k=>by rw[qO.f]) ?_;by_cases h0:nd=0
    · refine Ev.pos h0 (main _ ?_);rw[decide_eq_true h0,Bool.true_and]
      cases kids <;> simp;omega
    · exact Ev.neg h0 (main _ (by rw[decide_eq_false h0];rfl))
def checkX (ms:List S58) (x:S28):Bool:=decide (validC ms=0)&&decide (sizeX x≤20000)&&rightX ms x 0 0
theorem x_check_ev {ms:List S58} (hs:SizedC ms) (hl:ms.length≤1099511627776) {x:S28} (hx:sizeX x≤1099511627776):Ev (fun k=>uP.f k ms x.f0 x.f1 x.f2) (checkX ms x):=by
  unfold uP.f checkX;refine Ev.bind (validC_ev hs hl) ?_;by_cases hv:validC ms=0
  · rw[decide_eq_true hv,Bool.true_and];refine Ev.pos hv (Ev.bind (x_size_ev x hx) ?_);have h10:ms.length≤10:=by
      by_cases h:ms.length>10
      · unfold validC at hv;rw[if_pos h] at hv;cases hv
      · omega
    by_cases h2:sizeX x≤20000
    · rw[decide_eq_true h2,Bool.true_and];refine Ev.pos (by omega) (Ev.bind (right_ev (sized_small hs hl) h10 _ x 0 0 (Nat.le_refl _) (by decide) (by decide)) (Ev.now _))
    · rw[decide_eq_false h2,Bool.false_and];exact Ev.neg (by omega) (Ev.now _)
  · rw[decide_eq_false hv,Bool.false_and];exact Ev.neg hv (Ev.now _)
end Go.Proofs.Ytkkbdimegpdbgaa.P
namespace Go.Proofs.Ytkkbdimegpdbgaa.P
open Go.RowKit Go.Proofs.YtkkbdimegpdbgaaW.PrintWords Go.Proofs.YtkkbdimegpdbgaaW.PrintLast Go.Proofs.YtkkbdimegpdbgaaW.PrintMore
set_option linter.unusedVariables false
set_option linter.unusedSimpArgs false
theorem ref_x_size_l0 {xs:List S28} (hs:sizeXL xs≤1099511627776) (hx:∀x∈xs,Ev (fun k=>jQ.f k x.f0 x.f1 x.f2) (sizeX x:Int)):
    ∀(d i c:Nat),xs.length - i=d→i≤xs.length→c≤2199023255552+(sizeXL xs - sizeXL (xs.drop i))→Ev (fun k=>jQ.l0 k (c:Int) xs (xs.length:Int) (i:Int)) ((c+sizeXL (xs.drop i):Nat):Int):=by
  have hn:=sizeXL_len xs;intro d
  induction d with
  |zero=>
    intro i c hd' hi hc;refine Ev.step (fun k=>by rw[jQ.l0]) ?_;rw[List.drop_eq_nil_of_le (by omega)];exact Ev.neg (by omega) (Ev.eq (by simp[sizeXL]))
  |succ d ih=>
    intro i c hd' hi hc;have hlt:i<xs.length:=by omega
    have he:=sizeXL_drop xs i hlt;have hle:=sizeXL_drop_le xs i;refine Ev.step (fun k=>by rw[jQ.l0]) ?_;refine Ev.pos (by omega) (Ev.pos (by omega) (Ev.pos (by omega) ?_));rw[rdK_get hlt];refine Ev.bind (hx _ (List.getElem_mem hlt)) ?_;rw[wrap64_id (by omega) (by omega),succ64 (by omega),he];have:=ih (i+1) (c+sizeX xs[i]) (by omega) (by omega) (by omega);rw[← Nat.add_assoc,show(c:Int)+(sizeX xs[i]:Int)=((c+sizeX xs[i]:Nat):Int) by omega];exact this
mutual
theorem ref_x_size_ev:∀x:S28,sizeX x≤1099511627776→Ev (fun k=>jQ.f k x.f0 x.f1 x.f2) (sizeX x:Int)
  |⟨a,b,kids⟩,h=>by
    rw[sizeX] at h;refine Ev.step (fun k=>by rw[jQ.f]) ?_;have:=ref_x_size_l0 (xs:=kids) (by omega) (ref_x_size_evL kids (by omega)) kids.length 0 1 (by omega) (by omega) (by omega);simpa[sizeX] using this
theorem ref_x_size_evL:∀xs:List S28,sizeXL xs≤1099511627776→∀x∈xs,Ev (fun k=>jQ.f k x.f0 x.f1 x.f2) (sizeX x:Int)
  |[],_,x,hx=>by cases hx
  |y::ys,h,x,hx=>by
    rw[sizeXL] at h;rcases List.mem_cons.1 hx with e|hx
    · rw[e];exact ref_x_size_ev y (by omega)
    · exact ref_x_size_evL ys (by omega) x hx
end
theorem free_bit {ms:List S58} {R E i:Nat}:(sdiff (sdiff (allN ms) R) E).testBit i=(decide (i<ms.length)&& !(R|||E).testBit i):=by
  rw[sdiff_bit,sdiff_bit,allN_bit,Nat.testBit_or]
  cases decide (i<ms.length) <;> cases R.testBit i <;> cases E.testBit i <;> rfl
theorem ref_right_ev {ms:List S58} (hc:SmallC ms) (hl:ms.length≤10):∀(n:Nat) (x:S28) (R E:Nat),sizeX x≤n→R<1024→E<1024→Ev (fun k=>qW.f k ms x.f0 x.f1 x.f2 (R:Int) (E:Int)) (rightX ms x R E):=by
  have ha:=allN_lt hl;intro n
  induction n with
  |zero=>intro x R E h;have:=sizeX_pos x;omega
  |succ n ih=>
    rintro⟨kd,nd,kids⟩ R E hn hR hE;have hRE:R|||E<1024:=Nat.or_lt_two_pow (n:=10) hR hE
    have hsE:sdiff (allN ms) E<1024:=Sub.lt10 (Sub.sdiff _ _) ha;have hsR:sdiff (allN ms) R<1024:=Sub.lt10 (Sub.sdiff _ _) ha;have no (b:Bool) (hb:b=true):Ev (fun k=>qW.j0 k (R:Int) (E:Int) b ms kd nd kids) false:=by
      refine Ev.step (fun k=>by rw[qW.j0]) ?_;exact Ev.pos hb (Ev.now _)
    have hemp:((kids.length:Int)=0)↔kids.isEmpty=true:=by cases kids <;> simp;omega
    refine Ev.step (fun k=>by rw[qW.f]) ?_;rw[rightX_def];by_cases h1:kd=1
    · rw[if_pos h1];refine Ev.pos h1 (Ev.bindP (ref_members_eq hl) ?_);rw[bits_andNot_nat (lt1024 ha) (lt1024 hE)];refine Ev.bind (ref_greatest_ev hc hsE) ?_;by_cases h0:nd=0
      · rw[decide_eq_true h0,Bool.true_and];refine Ev.pos h0 ?_;by_cases hk:(kids.length:Int)=0
        · rw[hemp.1 hk,Bool.true_and];refine Ev.pos hk ?_;have hg:=great_lt ms (sdiff (allN ms) E);unfold noneN;by_cases h:greatN ms (sdiff (allN ms) E)=0
          · rw[decide_eq_true h,Bool.true_or];exact Ev.pos (by omega) (Ev.now _)
          · rw[decide_eq_false h,Bool.false_or];refine Ev.neg (by omega) (Ev.eq ?_);rw[bits_and_nat (lt1024 hg) (lt1024 hR)];by_cases h2:sdiff R (greatN ms (sdiff (allN ms) E))=0
            · have:=(sdiff_zero.1 h2).and_eq;rw[Nat.and_comm,this,h2];simp
            · rw[decide_eq_true h2,bne_iff_ne];intro e;refine h2 (sdiff_zero.2 (sub_of_and_eq ?_));rw[Nat.and_comm];omega
        · rw[Bool.eq_false_iff.2 (fun e=>hk (hemp.2 e)),Bool.false_and];exact Ev.neg hk (Ev.now _)
      · rw[decide_eq_false h0,Bool.false_and,Bool.false_and];exact Ev.neg h0 (Ev.now _)
    · rw[if_neg h1];refine Ev.neg h1 ?_;by_cases h2:kd=2
      · rw[if_pos h2];refine Ev.pos h2 ?_;by_cases h0:nd=0
        · rw[decide_eq_true h0,Bool.true_and];refine Ev.pos h0 ?_;by_cases hk:(kids.length:Int)=0
          · rw[hemp.1 hk,Bool.true_and];refine Ev.pos hk (Ev.bindP (ref_members_eq hl) ?_);rw[bits_andNot_nat (lt1024 ha) (lt1024 hR)];refine Ev.bind (ref_greatest_ev hc hsR) (Ev.eq ?_);unfold aloneN;by_cases h:greatN ms (sdiff (allN ms) R)=0
            · rw[h];rfl
            · rw[decide_eq_false h,beq_eq_false_iff_ne];omega
          · rw[Bool.eq_false_iff.2 (fun e=>hk (hemp.2 e)),Bool.false_and];exact Ev.neg hk (Ev.now _)
        · rw[decide_eq_false h0,Bool.false_and,Bool.false_and];exact Ev.neg h0 (Ev.now _)
      · rw[if_neg h2];refine Ev.neg h2 ?_;by_cases h3:kd=3
        · rw[if_pos h3];refine Ev.pos h3 ?_;have hno:hasI (sdiff (sdiff (allN ms) R) E) nd=false→rightK ms kids nd R E=false:=fun h=>by
            match kids with
            |[]=>rfl
            |[a]=>rfl
            |[a,b]=>simp only[rightK,h,Bool.false_and]
            |a::b::c::l=>rfl
          by_cases c0:nd<0
          · rw[hno (by unfold hasI;simp;omega)];exact Ev.pos c0 (no true rfl)
          · refine Ev.neg c0 ?_;obtain⟨j,rfl⟩:=Int.eq_ofNat_of_zero_le (show 0≤nd by omega);by_cases c1:(j:Int)≥(ms.length:Int)
            · rw[hno (by rw[hasI_nat,free_bit,decide_eq_false (by omega),Bool.false_and])];exact Ev.pos c1 (no true rfl)
            · refine Ev.neg c1 (Ev.pos (Int.natCast_nonneg j) ?_);rw[bits_or_nat (lt1024 hR) (lt1024 hE),shr_bit hRE (by omega)];by_cases c2:(R|||E).testBit j=true
              · rw[hno (by rw[hasI_nat,free_bit,c2];simp)];exact Ev.pos (by rw[c2];rfl) (no true rfl)
              · have c3:=Bool.eq_false_iff.2 c2;refine Ev.neg (by rw[c3];decide) ?_;have hh:hasI (sdiff (sdiff (allN ms) R) E) (j:Int)=true:=by rw[hasI_nat,free_bit,c3,decide_eq_true (by omega)];rfl
                match kids,hn,no with
                |[],hn,no=>exact no _ rfl
                |[a],hn,no=>exact no _ rfl
                |a::b::c::l,hn,no=>exact no _ (by simp;omega)
                |[a,b],hn,no=>
                  refine Ev.step (fun k=>by rw[qW.j0]) ?_;rw[rightK,hh,Bool.true_and];refine Ev.neg (by simp) (Ev.pos (by simp) (Ev.pos (Int.natCast_nonneg j) ?_));have hp:=pow_lt1024 (k:=j) (by omega);rw[shl_one (by omega),bits_or_nat (lt1024 hE) (lt1024 hp),bits_or_nat (lt1024 hR) (lt1024 hp)];have e0:qN [a,b] 0=a:=rfl;have e1:qN [a,b] 1=b:=rfl;rw[e0,e1];simp only[sizeX,sizeXL] at hn;have hE':E|||2^j<1024:=Nat.or_lt_two_pow (n:=10) hE hp
                  have hR':R|||2^j<1024:=Nat.or_lt_two_pow (n:=10) hR hp
                  have:=sizeX_pos a;have:=sizeX_pos b;refine Ev.bind (ih a R _ (by omega) hR hE') ?_;rw[Int.toNat_natCast]
                  cases h5:rightX ms a R (E|||2^j) with
                  |false=>exact Ev.neg (by simp) (Ev.now _)
                  |true=>exact Ev.pos rfl (Ev.pos (by simp) (Ev.bind (ih b _ E (by omega) hR' hE) (Ev.eq (by simp))))
        · rw[if_neg h3];exact Ev.neg h3 (Ev.now _)
theorem ref_x_check_ev {ms:List S58} (hs:SizedC ms) (hl:ms.length≤1099511627776) {x:S28} (hx:sizeX x≤1099511627776):Ev (fun k=>Qh.f k ms x.f0 x.f1 x.f2) (checkX ms x):=by
  unfold Qh.f checkX;refine Ev.bind (ref_validC_ev hs hl) ?_;by_cases hv:validC ms=0
  · rw[decide_eq_true hv,Bool.true_and];refine Ev.pos hv (Ev.bind (ref_x_size_ev x hx) ?_);have h10:ms.length≤10:=by
      by_cases h:ms.length>10
      · unfold validC at hv;rw[if_pos h] at hv;cases hv
      · omega
    by_cases h2:sizeX x≤20000
    · rw[decide_eq_true h2,Bool.true_and];refine Ev.pos (by omega) (Ev.bind (ref_right_ev (sized_small hs hl) h10 _ x 0 0 (Nat.le_refl _) (by decide) (by decide)) (Ev.now _))
    · rw[decide_eq_false h2,Bool.false_and];exact Ev.neg (by omega) (Ev.now _)
  · rw[decide_eq_false hv,Bool.false_and];exact Ev.neg hv (Ev.now _)
end Go.Proofs.Ytkkbdimegpdbgaa.P
namespace Go.Proofs.Ytkkbdimegpdbgaa.P
open Go.RowKit Go.Proofs.YtkkbdimegpdbgaaW.PrintWords Go.Proofs.YtkkbdimegpdbgaaW.PrintLast Go.Proofs.YtkkbdimegpdbgaaW.PrintMore
set_option linter.unusedVariables false
set_option linter.unusedSimpArgs false
theorem filter_two {p q r:Nat→Bool}:∀(l:List Nat),(∀x,p x=true→q x=false)→(∀x,r x=(p x||q x))→(l.filter p).length+(l.filter q).length=(l.filter r).length
  |[],_,_=>rfl
  |x::l,h,hr=>by
    have ih:=filter_two l h hr;have h1:=h x;have h2:=hr x;simp only[List.filter_cons]
    cases hp:p x <;> cases hq:q x <;> rw[hp,hq] at h2 <;> simp[hp,hq] at h1 h2 <;> simp[h2] <;> omega
theorem pop_minus {s k:Nat} (hs:s<1024) (h:s.testBit k=true):pop (sdiff s (2^k))+1=pop s:=by
  have hk:=bit_lt10 hs h;have h1:pop (2^k)=1:=by
    have:∀j:Fin 10,pop (2^j.1)=1:=by decide+kernel
    exact this ⟨k,hk⟩
  rw[← h1];unfold pop nodesL;refine filter_two _ (fun x hx=> ?_) (fun x=> ?_)
  · rw[sdiff_pow_bit,Bool.and_eq_true,decide_eq_true_eq] at hx;rw[Nat.testBit_two_pow];exact decide_eq_false fun e=>hx.2 e.symm
  · rw[sdiff_pow_bit,Nat.testBit_two_pow];by_cases e:x=k
    · subst e;simp[h]
    · have e':¬k=x:=fun x=>e x.symm
      simp[e,e']
def freeN (ms:List S58) (R E:Nat):Nat:=sdiff (sdiff (allN ms) R) E
theorem freeN_bit {ms:List S58} {R E i:Nat}:(freeN ms R E).testBit i=(decide (i<ms.length)&& !R.testBit i&& !E.testBit i):=by
  unfold freeN;rw[sdiff_bit,sdiff_bit,allN_bit]
theorem freeN_or1 {ms:List S58} {R E k:Nat}:freeN ms (R|||2^k) E=sdiff (freeN ms R E) (2^k):=by
  apply Nat.eq_of_testBit_eq;intro i;rw[sdiff_pow_bit,freeN_bit,freeN_bit,or_pow_bit];by_cases e:i=k <;> simp[e] <;> cases decide (i<ms.length) <;> cases R.testBit i <;> cases E.testBit i <;> rfl
theorem freeN_or2 {ms:List S58} {R E k:Nat}:freeN ms R (E|||2^k)=sdiff (freeN ms R E) (2^k):=by
  apply Nat.eq_of_testBit_eq;intro i;rw[sdiff_pow_bit,freeN_bit,freeN_bit,or_pow_bit];by_cases e:i=k <;> simp[e] <;> cases decide (i<ms.length) <;> cases R.testBit i <;> cases E.testBit i <;> rfl
theorem freeN_lt {ms:List S58} (hl:ms.length≤10) (R E:Nat):freeN ms R E<1024:=Sub.lt10 ((Sub.sdiff _ _).trans (Sub.sdiff _ _)) (allN_lt hl)
theorem split_node {ms:List S58} (hl:ms.length≤10) (hm:Meets ms) {R E:Nat} (h1:noneN ms R E=false) (h2:aloneN ms R=false):sdiff (greatN ms (sdiff (allN ms) E)) R≠0:=by
  intro h0;unfold noneN at h1;unfold aloneN at h2;rw[Bool.or_eq_false_iff,decide_eq_false_iff_not,decide_eq_false_iff_not] at h1;rw[decide_eq_false_iff_not] at h2;obtain⟨h3,h4⟩:=h1;have h5:Sub R (greatN ms (sdiff (allN ms) E)):=sdiff_zero.1 (by omega);have h6:=Sub.antisymm (sdiff_zero.1 h0) h5;refine(meets_iff hl).1 hm (greatN ms (sdiff (allN ms) E)) (greatN ms (sdiff (allN ms) R)) ⟨h3,great_decl _ _,great_fix _ _⟩ ⟨h2,great_decl _ _,great_fix _ _⟩ ?_;rw[h6];refine and_zero_of fun i hi=> ?_
  cases e:(greatN ms (sdiff (allN ms) R)).testBit i with
  |false=>rfl
  |true=>
    have:=great_sub _ _ i e;rw[sdiff_bit,hi] at this;simp at this
def mkX (r:Int × Int × List S28):S28:=⟨r.1,r.2.1,r.2.2⟩
theorem two_up {a b n:Nat} (ha:a+1≤2^n) (hb:b+1≤2^n):1+(a+(b+0))+1≤2^(n+1):=by rw[Nat.pow_succ];omega
theorem prove_tot {ms:List S58} (hc:SmallC ms) (hl:ms.length≤10) (hm:Meets ms):∀(d R E:Nat),pop (freeN ms R E)<d→R<1024→E<1024→
    Tot (fun k=>zN.f k ms (R:Int) (E:Int)) (fun r=>rightX ms (mkX r) R E=true∧sizeX (mkX r)+1≤2^(pop (freeN ms R E)+1)):=by
  have ha:=allN_lt hl;intro d
  induction d with
  |zero=>intro R E hd;omega
  |succ d ih=>
    intro R E hd hR hE;have hsE:sdiff (allN ms) E<1024:=Sub.lt10 (Sub.sdiff _ _) ha;have hg:=great_lt ms (sdiff (allN ms) E);have hone:2≤2^(pop (freeN ms R E)+1):=by
      have:=Nat.two_pow_pos (pop (freeN ms R E));rw[Nat.pow_succ];omega
    refine Tot.step (fun k=>by rw[zN.f]) ?_;refine Tot.bindE (none_ev hc hl hR hE) (Tot.ite (fun h1=>Tot.now ⟨?_, ?_⟩) (fun h1=> ?_))
    · rw[mkX,rightX_def];simpa using h1
    · simpa[mkX,sizeX,sizeXL] using hone
    refine Tot.bindE (alone_ev hc hl hR) (Tot.ite (fun h2=>Tot.now ⟨?_, ?_⟩) (fun h2=> ?_))
    · rw[mkX,rightX_def];simpa using h2
    · simpa[mkX,sizeX,sizeXL] using hone
    refine Tot.bindP (P:=fun b=>b=(allN ms:Int)) ⟨_,rfl,members_eq hl⟩ ?_;rintro _ rfl;rw[bits_andNot_nat (lt1024 ha) (lt1024 hE)];refine Tot.bindE (greatest_ev hc hsE) ?_;rw[bits_andNot_nat (lt1024 hg) (lt1024 hR)];have hq:sdiff (greatN ms (sdiff (allN ms) E)) R<1024:=Sub.lt10 (Sub.sdiff _ _) hg;refine Tot.bindE (nodes_ev hq) ?_;have h3:=split_node hl hm (Bool.eq_false_iff.2 h1) (Bool.eq_false_iff.2 h2)
    cases hnl:nodesL (sdiff (greatN ms (sdiff (allN ms) E)) R) with
    |nil=>
      exfalso;refine h3 (eq_zero_of_no_bit fun i=> ?_)
      cases e:(sdiff (greatN ms (sdiff (allN ms) E)) R).testBit i with
      |false=>rfl
      |true=>
        have:=(mem_nodesL hq).2 e;rw[hnl] at this;cases this
    |cons j l=>
      have hj:(sdiff (greatN ms (sdiff (allN ms) E)) R).testBit j=true:=(mem_nodesL hq).1 (by rw[hnl];exact List.mem_cons_self);rw[sdiff_bit,Bool.and_eq_true] at hj;have hj2:=great_sub _ _ j hj.1;rw[sdiff_bit,allN_bit,Bool.and_eq_true,decide_eq_true_eq] at hj2;have hfree:(freeN ms R E).testBit j=true:=by
        rw[freeN_bit,decide_eq_true hj2.1,hj.2,hj2.2];rfl
      have hj10:j<10:=by omega
      have hp:=pow_lt1024 hj10;have hpop:=pop_minus (freeN_lt hl R E) hfree;have e0:rd (casts (j::l)) 0=(j:Int):=rfl;rw[e0];refine Tot.pos (by simp[casts]) (Tot.pos (Int.natCast_nonneg j) ?_);rw[shl_one (by omega),bits_or_nat (lt1024 hE) (lt1024 hp),bits_or_nat (lt1024 hR) (lt1024 hp)];have hE':E|||2^j<1024:=Nat.or_lt_two_pow (n:=10) hE hp
      have hR':R|||2^j<1024:=Nat.or_lt_two_pow (n:=10) hR hp
      refine Tot.bind (ih R (E|||2^j) (by rw[freeN_or2];omega) hR hE') ?_;rintro⟨k1,n1,x1⟩ ⟨r1,s1⟩;refine Tot.bind (ih (R|||2^j) E (by rw[freeN_or1];omega) hR' hE) ?_;rintro⟨k2,n2,x2⟩ ⟨r2,s2⟩;rw[freeN_or2] at s1;rw[freeN_or1] at s2;simp only[mkX] at r1 r2 s1 s2;refine Tot.now ⟨?_, ?_⟩
      · rw[mkX,rightX_def,if_neg (by simp),if_neg (by simp),if_pos rfl,rightK];simp only[Bool.and_eq_true];refine⟨⟨?_,by rw[Int.toNat_natCast];exact r1⟩,by rw[Int.toNat_natCast];exact r2⟩;rw[hasI_nat];exact hfree
      · simp only[mkX,sizeX,sizeXL] at s1 s2 ⊢;rw[hpop] at s1 s2;exact two_up s1 s2
theorem free_zero {ms:List S58} (hl:ms.length≤10):pop (freeN ms 0 0)=ms.length:=by
  have:freeN ms 0 0=allN ms:=by
    apply Nat.eq_of_testBit_eq;intro i;rw[freeN_bit,allN_bit];simp
  rw[this];exact pop_full ⟨ms.length,by omega⟩
theorem prove0_tot {ms:List S58} (hc:SmallC ms) (hl:ms.length≤10) (hm:Meets ms):Tot (fun k=>zN.f k ms 0 0) (fun r=>rightX ms (mkX r) 0 0=true∧sizeX (mkX r)≤2047):=by
  refine(prove_tot hc hl hm _ 0 0 (Nat.lt_succ_self _) (by decide) (by decide)).mono fun r h=>⟨h.1, ?_⟩
  have h2:=h.2;rw[free_zero hl] at h2;have:2^(ms.length+1)≤2^11:=Nat.pow_le_pow_right (by decide) (by omega);omega
end Go.Proofs.Ytkkbdimegpdbgaa.P
