/- The program's check of a configuration comes to the pure answer; conditions: no more than 2^40 entries a trust. -/
import Derived.Test.YtkkbdimegpdbgaaQwM3
namespace Go.Proofs.Ytkkbdimegpdbgaa.P
open Go.RowKit Go.Proofs.YtkkbdimegpdbgaaW.PrintWords Go.Proofs.YtkkbdimegpdbgaaW.PrintLast Go.Proofs.YtkkbdimegpdbgaaW.PrintMore
set_option linter.unusedVariables false
set_option linter.unusedSimpArgs false
theorem p_depth_ev_l {xs:List S56} (hn:xs.length≤1099511627776) (hd:depthL xs≤2199023255552) (hx:∀x∈xs,Ev (fun k=>jH.f k x.f0 x.f1 x.f2) (depthT x:Int)):
    ∀(d i c:Nat),xs.length - i=d→i≤xs.length→c≤2199023255552→Ev (fun k=>jH.l0 k (c:Int) xs (xs.length:Int) (i:Int)) ((max c (depthL (xs.drop i))+1:Nat):Int):=by
  intro d
  induction d with
  |zero=>
    intro i c hd' hi hc;refine Ev.step (fun k=>by rw[jH.l0]) ?_;rw[List.drop_eq_nil_of_le (by omega)];refine Ev.neg (by omega) (Ev.eq ?_);rw[succ64 (by omega),depthL,Nat.max_zero]
  |succ d ih=>
    intro i c hd' hi hc;have hlt:i<xs.length:=by omega
    have hle:depthL (xs.drop i)≤depthL xs:=by
      have:∀(l:List S56) (i:Nat),depthL (l.drop i)≤depthL l:=by
        intro l
        induction l with
        |nil=>intro i;simp
        |cons y ys ihy=>
          intro i
          cases i with
          |zero=>simp
          |succ i=>rw[List.drop_succ_cons,depthL];have:=ihy i;omega
      exact this xs i
    refine Ev.step (fun k=>by rw[jH.l0]) ?_;refine Ev.pos (by omega) (Ev.pos (by omega) (Ev.pos (by omega) ?_));rw[rdT_get hlt];refine Ev.bind (hx _ (List.getElem_mem hlt)) ?_;have hmx:mx (c:Int) (depthT xs[i]:Int)=((max c (depthT xs[i]):Nat):Int):=by unfold mx;split <;> omega
    rw[hmx,succ64 (by omega)];have he:depthL (xs.drop i)=max (depthT xs[i]) (depthL (xs.drop (i+1))):=by rw[List.drop_eq_getElem_cons hlt,depthL]
    have:=ih (i+1) (max c (depthT xs[i])) (by omega) (by omega) (by omega);rw[he];rwa [show max c (max (depthT xs[i]) (depthL (xs.drop (i+1))))=max (max c (depthT xs[i])) (depthL (xs.drop (i+1))) by omega]
mutual
theorem p_depth_ev:∀t:S56,sizeT t≤1099511627776→Ev (fun k=>jH.f k t.f0 t.f1 t.f2) (depthT t:Int)
  |⟨th,ns,inner⟩,h=>by
    rw[sizeT] at h;refine Ev.step (fun k=>by rw[jH.f]) ?_;have h1:=depthL_le inner;have:=p_depth_ev_l (xs:=inner) (by omega) (by omega) (p_depth_evL inner (by omega)) inner.length 0 0 (by omega) (by omega) (by omega);simpa[depthT] using this
theorem p_depth_evL:∀xs:List S56,sizeL xs≤1099511627776→∀x∈xs,Ev (fun k=>jH.f k x.f0 x.f1 x.f2) (depthT x:Int)
  |[],_,x,hx=>by cases hx
  |y::ys,h,x,hx=>by
    rw[sizeL] at h;rcases List.mem_cons.1 hx with e|hx
    · rw[e];exact p_depth_ev y (by omega)
    · exact p_depth_evL ys (by omega) x hx
end
theorem p_size_ev_l {xs:List S56} (hn:xs.length≤1099511627776) (hs:sizeL xs≤1099511627776) (hx:∀x∈xs,Ev (fun k=>jL.f k x.f0 x.f1 x.f2) (sizeT x:Int)):
    ∀(d i c:Nat),xs.length - i=d→i≤xs.length→c≤2199023255552+(sizeL xs - sizeL (xs.drop i))→Ev (fun k=>jL.l0 k (c:Int) xs (xs.length:Int) (i:Int)) ((c+sizeL (xs.drop i):Nat):Int):=by
  intro d
  induction d with
  |zero=>
    intro i c hd' hi hc;refine Ev.step (fun k=>by rw[jL.l0]) ?_;rw[List.drop_eq_nil_of_le (by omega)];exact Ev.neg (by omega) (Ev.eq (by simp[sizeL]))
  |succ d ih=>
    intro i c hd' hi hc;have hlt:i<xs.length:=by omega
    have he:=sizeL_drop xs i hlt;have hle:=sizeL_drop_le xs i;refine Ev.step (fun k=>by rw[jL.l0]) ?_;refine Ev.pos (by omega) (Ev.pos (by omega) (Ev.pos (by omega) ?_));rw[rdT_get hlt];refine Ev.bind (hx _ (List.getElem_mem hlt)) ?_;rw[wrap64_id (by omega) (by omega),succ64 (by omega),he];have:=ih (i+1) (c+sizeT xs[i]) (by omega) (by omega) (by omega);rw[← Nat.add_assoc,show(c:Int)+(sizeT xs[i]:Int)=((c+sizeT xs[i]:Nat):Int) by omega];exact this
mutual
theorem p_size_ev:∀t:S56,sizeT t≤1099511627776→Ev (fun k=>jL.f k t.f0 t.f1 t.f2) (sizeT t:Int)
  |⟨th,ns,inner⟩,h=>by
    rw[sizeT] at h;refine Ev.step (fun k=>by rw[jL.f]) ?_;show Ev (fun k=>jL.l0 k (wrap64 ((ns.length:Int)+(inner.length:Int))) inner (inner.length:Int) 0) _
    rw[wrap64_id (by omega) (by omega),show(ns.length:Int)+(inner.length:Int)=((ns.length+inner.length:Nat):Int) by omega];have:=p_size_ev_l (xs:=inner) (by omega) (by omega) (p_size_evL inner (by omega)) inner.length 0 (ns.length+inner.length) (by omega) (by omega) (by omega);simpa[sizeT] using this
theorem p_size_evL:∀xs:List S56,sizeL xs≤1099511627776→∀x∈xs,Ev (fun k=>jL.f k x.f0 x.f1 x.f2) (sizeT x:Int)
  |[],_,x,hx=>by cases hx
  |y::ys,h,x,hx=>by
    rw[sizeL] at h;rcases List.mem_cons.1 hx with e|hx
    · rw[e];exact p_size_ev y (by omega)
    · exact p_size_evL ys (by omega) x hx
end
theorem p_of_ev_l {l:List Int} (hn:l.length≤1099511627776) (hr:∀k∈l,0≤k∧k<10):∀(d i s:Nat),l.length - i=d→i≤l.length→s<1024→
    Tot (fun k=>vJ.l0 k (s:Int) l (l.length:Int) (i:Int)) (fun r=>r.2=if((l.drop i).any fun x=>hasI s x)=true∨dupOf (l.drop i)=true then 6 else 0):=by
  intro d
  induction d with
  |zero=>
    intro i s hd hi hs;refine Tot.step (fun k=>by rw[vJ.l0]) ?_;rw[List.drop_eq_nil_of_le (by omega)];exact Tot.neg (by omega) (Tot.now (by simp[dupOf]))
  |succ d ih=>
    intro i s hd hi hs;have hlt:i<l.length:=by omega
    obtain⟨h0,h10⟩:=hr _ (List.getElem_mem hlt);refine Tot.step (fun k=>by rw[vJ.l0]) ?_;refine Tot.pos (by omega) (Tot.pos (by omega) (Tot.pos (by omega) ?_));rw[rd_get hlt];refine Tot.neg (by omega) ?_;refine Tot.step (fun k=>by rw[vJ.j1]) ?_;refine Tot.neg (by simp;omega) ?_;refine Tot.bindP (P:=fun b=>b=hasI s l[i]) ⟨_,rfl,has_nat hs _⟩ ?_;rintro _ rfl;rw[List.drop_eq_getElem_cons hlt];by_cases hb:hasI s l[i]=true
    · refine Tot.pos hb (Tot.now ?_);rw[if_pos];left;rw[List.any_cons,hb];rfl
    · refine Tot.neg hb (Tot.pos h0 ?_);rw[shl_oneI h0 (by omega),bits_or_nat (lt1024 hs) (lt1024 (pow_lt1024 (by omega))),succ64 (by omega)];have hs':s|||2^l[i].toNat<1024:=Nat.or_lt_two_pow (n:=10) hs (pow_lt1024 (by omega))
      refine(ih (i+1) _ (by omega) (by omega) hs').mono fun r h=> ?_
      rw[h];have e:((l.drop (i+1)).any fun x=>hasI (s|||2^l[i].toNat) x)=(((l.drop (i+1)).any fun x=>hasI s x)||(l.drop (i+1)).contains l[i]):=by
        rw[Bool.eq_iff_iff,Bool.or_eq_true,List.any_eq_true,List.any_eq_true,List.contains_iff_mem];constructor
        · rintro⟨x,hx,h⟩;rw[hasI_or h0,Bool.or_eq_true,decide_eq_true_eq] at h;rcases h with h|h
          · exact .inl ⟨x,hx,h⟩
          · exact .inr (h ▸ hx)
        · rintro(⟨x,hx,h⟩|h)
          · exact⟨x,hx,by rw[hasI_or h0,h];rfl⟩
          · exact⟨_,h,by rw[hasI_or h0];simp⟩
      have e2:dupOf (l[i]::l.drop (i+1))=((l.drop (i+1)).contains l[i]||dupOf (l.drop (i+1))):=rfl;have e3:((l[i]::l.drop (i+1)).any fun x=>hasI s x)=((l.drop (i+1)).any fun x=>hasI s x):=by rw[List.any_cons,Bool.eq_false_iff.2 hb,Bool.false_or]
      rw[e,e2,e3];simp only[Bool.or_eq_true,or_assoc]
theorem p_of_ev {l:List Int} (hn:l.length≤1099511627776) (hr:∀k∈l,0≤k∧k<10):Tot (fun k=>vJ.f k l) (fun r=>r.2=if dupOf l=true then 6 else 0):=by
  unfold vJ.f;refine(p_of_ev_l hn hr l.length 0 0 (by omega) (by omega) (by decide)).mono fun r h=> ?_
  rw[h,List.drop_zero];have:(l.any fun x=>hasI 0 x)=false:=by
    rw[Bool.eq_false_iff];intro h;rw[List.any_eq_true] at h;obtain⟨x,_,h⟩:=h;simp[hasI] at h
  simp[this]
theorem badNode_eq (k:Int):badNode k=(decide (k<0)||decide (k≥10)):=by
  unfold badNode;by_cases h0:0≤k
  · have h1:¬k<0:=by omega
    by_cases h2:k<10
    · have h3:¬k≥10:=by omega
      simp[h0,h1,h2,h3]
    · have h3:k≥10:=by omega
      simp[h0,h1,h2,h3]
  · have h1:k<0:=by omega
    simp[h0,h1]
theorem level_l0_ev {xs:List S56} (hn:xs.length≤1099511627776) (hx:∀x∈xs,Ev (fun k=>zT.f k x.f0 x.f1 x.f2) (checkT x)):∀(d i:Nat),xs.length - i=d→i≤xs.length→
    Ev (fun k=>zT.l0 k xs (xs.length:Int) (i:Int)) (checkL (xs.drop i)):=by
  intro d
  induction d with
  |zero=>
    intro i hd hi;refine Ev.step (fun k=>by rw[zT.l0]) ?_;rw[List.drop_eq_nil_of_le (by omega)];exact Ev.neg (by omega) (Ev.eq (by rw[checkL]))
  |succ d ih=>
    intro i hd hi;have hlt:i<xs.length:=by omega
    refine Ev.step (fun k=>by rw[zT.l0]) ?_;refine Ev.pos (by omega) (Ev.pos (by omega) (Ev.pos (by omega) ?_));rw[rdT_get hlt];refine Ev.bind (hx _ (List.getElem_mem hlt)) ?_;rw[List.drop_eq_getElem_cons hlt,checkL];by_cases h:checkT xs[i]=0
    · rw[if_pos h];refine Ev.pos h ?_;rw[succ64 (by omega)];exact ih (i+1) (by omega) (by omega)
    · rw[if_neg h];exact Ev.neg h (Ev.now _)
mutual
theorem level_ev:∀t:S56,sizeT t≤1099511627776→Ev (fun k=>zT.f k t.f0 t.f1 t.f2) (checkT t)
  |⟨th,ns,inner⟩,h=>by
    rw[sizeT] at h;refine Ev.step (fun k=>by rw[zT.f]) ?_;have hany:ns.any badNode=ns.any (fun k=>decide (k<0)||decide (k≥10)):=by
      congr 1;funext k;exact badNode_eq k
    have hj:∀b:Bool,Ev (fun k=>zT.j0 k b th ns inner) (if b=true then 4 else if ns.any (fun k=>decide (k<0)||decide (k≥10))=true then 5 else if dupOf ns=true then 6 else checkL inner):=by
      intro b;refine Ev.step (fun k=>by rw[zT.j0]) ?_
      cases b with
      |true=>exact Ev.pos rfl (Ev.now _)
      |false=>
        refine Ev.neg (by simp) ?_;rw[if_neg (by simp:¬(false=true))];refine Ev.bindP (a:=ns.any badNode) rfl ?_;rw[hany];by_cases hb:ns.any (fun k=>decide (k<0)||decide (k≥10))=true
        · rw[if_pos hb];exact Ev.pos hb (Ev.now _)
        · rw[if_neg hb];refine Ev.neg hb ?_;have hr:∀k∈ns,0≤k∧k<10:=fun k hk=>by
            rw[List.any_eq_true] at hb;refine⟨?_, ?_⟩
            · by_cases h0:k<0
              · exact absurd ⟨k,hk,by simp[h0]⟩ hb
              · omega
            · by_cases h0:k≥10
              · exact absurd ⟨k,hk,by simp[h0]⟩ hb
              · omega
          obtain⟨a,h2,h3⟩:=p_of_ev (l:=ns) (by omega) hr;refine Ev.bind h3 ?_;by_cases hdup:dupOf ns=true
          · rw[if_pos hdup] at h2 ⊢;rw[h2];exact Ev.neg (by decide) (Ev.now _)
          · rw[if_neg hdup] at h2 ⊢;refine Ev.pos h2 ?_;have h1:=level_l0_ev (xs:=inner) (by omega) (level_evL inner (by omega)) inner.length 0 (by omega) (by omega);simpa using h1
    rw[checkT];by_cases h1:th<1
    · rw[if_pos (.inl h1)];exact Ev.pos h1 (hj true)
    · refine Ev.neg h1 ?_;show Ev (fun k=>zT.j0 k (decide (th>wrap64 ((ns.length:Int)+(inner.length:Int)))) th ns inner) _
      rw[wrap64_id (by omega) (by omega)];by_cases h2:th>(ns.length:Int)+(inner.length:Int)
      · rw[if_pos (.inr h2)];have:=hj true;simpa[h2] using this
      · rw[if_neg (by omega)];have:=hj false;simpa[h2] using this
theorem level_evL:∀xs:List S56,sizeL xs≤1099511627776→∀x∈xs,Ev (fun k=>zT.f k x.f0 x.f1 x.f2) (checkT x)
  |[],_,x,hx=>by cases hx
  |y::ys,h,x,hx=>by
    rw[sizeL] at h;rcases List.mem_cons.1 hx with e|hx
    · rw[e];exact level_ev y (by omega)
    · exact level_evL ys (by omega) x hx
end
theorem validT_ev {t:S56} (h:sizeT t≤1099511627776):Ev (fun k=>kP.f k t.f0 t.f1 t.f2) (validT t):=by
  unfold kP.f validT;refine Ev.bind (p_depth_ev t h) ?_;by_cases h1:depthT t>4
  · rw[if_pos h1];exact Ev.pos (by omega) (Ev.now _)
  · rw[if_neg h1];refine Ev.neg (by omega) ?_;refine Ev.bind (p_size_ev t h) ?_;by_cases h2:sizeT t>200
    · rw[if_pos h2];exact Ev.pos (by omega) (Ev.now _)
    · rw[if_neg h2];refine Ev.neg (by omega) ?_;exact Ev.bind (level_ev t h) (Ev.now _)
def usesI (ns:List Int) (a:Nat):Nat:=ns.foldl (fun a k=>if 0≤k∧k<10 then a|||2^k.toNat else a) a
mutual
def usesT:S56→Nat
  |⟨_,ns,inner⟩=>usesL inner (usesI ns 0)
def usesL:List S56→Nat→Nat
  |[],a=>a
  |x::xs,a=>usesL xs (a|||usesT x)
end
theorem usesI_lt {n:Nat} (hn:n≤10):∀(ns:List Int) (a:Nat),a<2^n→(∀k∈ns,k<(n:Int)∨10≤k)→usesI ns a<2^n
  |[],a,h,_=>h
  |k::ns,a,h,hk=>by
    unfold usesI;rw[List.foldl_cons];refine usesI_lt hn ns _ ?_ fun k hk'=>hk k (List.mem_cons_of_mem _ hk')
    split
    · rename_i h1;have:=hk k List.mem_cons_self;exact Nat.or_lt_two_pow h (Nat.pow_lt_pow_right (by decide) (by omega))
    · exact h
theorem usesI_lt10 (ns:List Int) {a:Nat} (h:a<1024):usesI ns a<1024:=usesI_lt (n:=10) (by decide) ns a h fun k _=>by omega
mutual
theorem usesT_lt10:∀t:S56,usesT t<1024
  |⟨th,ns,inner⟩=>by
    rw[usesT];exact usesL_lt10 inner _ (usesI_lt10 ns (by decide))
theorem usesL_lt10:∀(xs:List S56) (a:Nat),a<1024→usesL xs a<1024
  |[],a,h=>by rw[usesL];exact h
  |x::xs,a,h=>by
    rw[usesL];exact usesL_lt10 xs _ (Nat.or_lt_two_pow (n:=10) h (usesT_lt10 x))
end
theorem uses_l0_ev {ns:List Int} (hn:ns.length≤1099511627776) (th:Int) (inner:List S56) (r:Nat→Int) (hl:∀a:Nat,a<1024→Ev (fun k=>zV.l1 k (a:Int) inner (inner.length:Int) 0) (r a)):∀(d i a:Nat),ns.length - i=d→i≤ns.length→a<1024→
    Ev (fun k=>zV.l0 k (a:Int) ns (ns.length:Int) (i:Int) th ns inner) (r (usesI (ns.drop i) a)):=by
  intro d
  induction d with
  |zero=>
    intro i a hd hi ha;refine Ev.step (fun k=>by rw[zV.l0]) ?_;rw[List.drop_eq_nil_of_le (by omega)];exact Ev.neg (by omega) (hl a ha)
  |succ d ih=>
    intro i a hd hi ha;have hlt:i<ns.length:=by omega
    refine Ev.step (fun k=>by rw[zV.l0]) ?_;refine Ev.pos (by omega) (Ev.pos (by omega) (Ev.pos (by omega) ?_));rw[rd_get hlt,List.drop_eq_getElem_cons hlt];have he:∀a,usesI (ns[i]::ns.drop (i+1)) a=usesI (ns.drop (i+1)) (if 0≤ns[i]∧ns[i]<10 then a|||2^ns[i].toNat else a):=fun a=>rfl
    rw[he];have hnode:Zg.f ns[i]=some (decide (0≤ns[i]∧ns[i]<10)):=by
      unfold Zg.f;by_cases h0:ns[i]≥0
      · rw[if_pos h0];have:(0≤ns[i]∧ns[i]<10)↔ns[i]<10:=by omega
        simp[this]
      · rw[if_neg h0];have:¬(0≤ns[i]∧ns[i]<10):=by omega
        simp[this]
    refine Ev.bindP hnode ?_;rw[succ64 (by omega)];by_cases h:0≤ns[i]∧ns[i]<10
    · rw[if_pos h];refine Ev.pos (decide_eq_true h) (Ev.pos h.1 ?_);rw[shl_oneI h.1 (by omega),bits_or_nat (lt1024 ha) (lt1024 (pow_lt1024 (by omega)))];exact ih (i+1) _ (by omega) (by omega) (Nat.or_lt_two_pow (n:=10) ha (pow_lt1024 (by omega)))
    · rw[if_neg h];refine Ev.neg (by simpa using h) ?_;exact ih (i+1) _ (by omega) (by omega) ha
theorem uses_l1_ev {xs:List S56} (hn:xs.length≤1099511627776) (hx:∀x∈xs,Ev (fun k=>zV.f k x.f0 x.f1 x.f2) (usesT x:Int)):∀(d i a:Nat),xs.length - i=d→i≤xs.length→a<1024→
    Ev (fun k=>zV.l1 k (a:Int) xs (xs.length:Int) (i:Int)) (usesL (xs.drop i) a:Int):=by
  intro d
  induction d with
  |zero=>
    intro i a hd hi ha;refine Ev.step (fun k=>by rw[zV.l1]) ?_;rw[List.drop_eq_nil_of_le (by omega)];exact Ev.neg (by omega) (Ev.eq (by rw[usesL]))
  |succ d ih=>
    intro i a hd hi ha;have hlt:i<xs.length:=by omega
    refine Ev.step (fun k=>by rw[zV.l1]) ?_;refine Ev.pos (by omega) (Ev.pos (by omega) (Ev.pos (by omega) ?_));rw[rdT_get hlt];refine Ev.bind (hx _ (List.getElem_mem hlt)) ?_;rw[List.drop_eq_getElem_cons hlt,usesL,succ64 (by omega),bits_or_nat (lt1024 ha) (lt1024 (usesT_lt10 _))];exact ih (i+1) _ (by omega) (by omega) (Nat.or_lt_two_pow (n:=10) ha (usesT_lt10 _))
mutual
theorem uses_ev:∀t:S56,sizeT t≤1099511627776→Ev (fun k=>zV.f k t.f0 t.f1 t.f2) (usesT t:Int)
  |⟨th,ns,inner⟩,h=>by
    rw[sizeT] at h;refine Ev.step (fun k=>by rw[zV.f]) ?_;have:=uses_l0_ev (ns:=ns) (by omega) th inner (fun a=>(usesL inner a:Int)) (fun a ha=> ?_) ns.length 0 0 (by omega) (by omega) (by decide)
    · rw[usesT];simpa using this
    · have:=uses_l1_ev (xs:=inner) (by omega) (uses_evL inner (by omega)) inner.length 0 a (by omega) (by omega) ha;simpa using this
theorem uses_evL:∀xs:List S56,sizeL xs≤1099511627776→∀x∈xs,Ev (fun k=>zV.f k x.f0 x.f1 x.f2) (usesT x:Int)
  |[],_,x,hx=>by cases hx
  |y::ys,h,x,hx=>by
    rw[sizeL] at h;rcases List.mem_cons.1 hx with e|hx
    · rw[e];exact uses_ev y (by omega)
    · exact uses_evL ys (by omega) x hx
end
def blankT:S56→Bool
  |⟨th,ns,inner⟩=>decide (th=0)&&ns.isEmpty&&inner.isEmpty
def memE (n:Nat) (m:S58):Int:=if m.f0=true then(if validT m.f1=0 then(if usesT m.f1≥2^n then 5 else 0) else validT m.f1) else if blankT m.f1=true then 0 else 1
def memL (n:Nat):List S58→Int
  |[]=>0
  |m::ms=>if memE n m=0 then memL n ms else memE n m
def validC (ms:List S58):Int:=if ms.length>10 then 3 else memL ms.length ms
def SizedC (ms:List S58):Prop:=∀m∈ms,sizeT m.f1≤1099511627776
theorem blank_ev (t:S56) (h:sizeT t≤1099511627776):Qm.f t.f0 t.f1 t.f2=some (blankT t):=by
  obtain⟨th,ns,inner⟩:=t;unfold Qm.f blankT;simp only;by_cases h1:th=0
  · rw[if_pos h1]
    cases ns with
    |nil=>
      rw[if_pos (by simp)]
      cases inner with
      |nil=>simp[h1]
      |cons y ys=>simp;omega
    |cons y ys=>
      rw[if_neg (by simp;omega)];simp
  · rw[if_neg h1];simp[h1]
theorem member_ev {n:Nat} (hn:n≤10) (m:S58) (h:sizeT m.f1≤1099511627776):Ev (fun k=>vV.f k m.f0 m.f1.f0 m.f1.f1 m.f1.f2 (n:Int)) (memE n m):=by
  unfold vV.f memE;by_cases h0:m.f0=true
  · rw[if_pos h0];refine Ev.pos h0 ?_;refine Ev.bind (validT_ev h) ?_;by_cases h1:validT m.f1=0
    · rw[if_pos h1];refine Ev.pos h1 ?_;refine Ev.bind (uses_ev _ h) (Ev.pos (by omega) ?_);rw[shl_one (by omega)];by_cases h2:usesT m.f1≥2^n
      · rw[if_pos h2];exact Ev.pos (by omega) (Ev.now _)
      · rw[if_neg h2];exact Ev.neg (by omega) (Ev.now _)
    · rw[if_neg h1];exact Ev.neg h1 (Ev.now _)
  · rw[if_neg h0];refine Ev.neg h0 ?_;refine Ev.bindP (blank_ev _ h) ?_;by_cases h1:blankT m.f1=true
    · exact Ev.pos h1 (Ev.eq (if_pos h1).symm)
    · exact Ev.neg h1 (Ev.eq (if_neg h1).symm)
theorem validC_l0_ev {ms:List S58} (hs:SizedC ms) (hl:ms.length≤10):∀(d i:Nat),ms.length - i=d→i≤ms.length→Ev (fun k=>zL.l0 k ms (ms.length:Int) (i:Int) ms) (memL ms.length (ms.drop i)):=by
  intro d
  induction d with
  |zero=>
    intro i hd hi;refine Ev.step (fun k=>by rw[zL.l0]) ?_;rw[List.drop_eq_nil_of_le (by omega)];exact Ev.neg (by omega) (Ev.eq (by rw[memL]))
  |succ d ih=>
    intro i hd hi;have hlt:i<ms.length:=by omega
    refine Ev.step (fun k=>by rw[zL.l0]) ?_;refine Ev.pos (by omega) (Ev.pos (by omega) (Ev.pos (by omega) ?_));rw[rdM_get hlt];refine Ev.bind (member_ev hl _ (hs _ (List.getElem_mem hlt))) ?_;rw[List.drop_eq_getElem_cons hlt,memL];by_cases h:memE ms.length ms[i]=0
    · rw[if_pos h];refine Ev.pos h ?_;rw[succ64 (by omega)];exact ih (i+1) (by omega) (by omega)
    · rw[if_neg h];exact Ev.neg h (Ev.now _)
theorem validC_ev {ms:List S58} (hs:SizedC ms) (hl:ms.length≤1099511627776):Ev (fun k=>zL.f k ms) (validC ms):=by
  unfold zL.f validC;by_cases h:ms.length>10
  · rw[if_pos h];exact Ev.pos (by omega) (Ev.now _)
  · rw[if_neg h];refine Ev.neg (by omega) ?_;have:=validC_l0_ev hs (by omega) ms.length 0 (by omega) (by omega);simpa using this
theorem sized_small {ms:List S58} (hs:SizedC ms) (hl:ms.length≤1099511627776):SmallC ms:=⟨hl,fun m hm=>smallT_of_size _ (hs m hm)⟩
end Go.Proofs.Ytkkbdimegpdbgaa.P
