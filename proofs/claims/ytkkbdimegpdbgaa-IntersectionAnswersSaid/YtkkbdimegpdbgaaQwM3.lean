/- The reference's check of a trust comes to the pure answer; conditions: no more than 2^40 entries. -/
import Derived.Test.YtkkbdimegpdbgaaQwM2
import Derived.Test.YtkkbdimegpdbgaaQwPx14
namespace Go.Proofs.Ytkkbdimegpdbgaa.P
open Go.RowKit Go.Proofs.YtkkbdimegpdbgaaW.PrintWords Go.Proofs.YtkkbdimegpdbgaaW.PrintLast Go.Proofs.YtkkbdimegpdbgaaW.PrintMore
set_option linter.unusedVariables false
set_option linter.unusedSimpArgs false
mutual

def sizeT:S56→Nat
  |⟨_,ns,inner⟩=>ns.length+inner.length+sizeL inner
def sizeL:List S56→Nat
  |[]=>0
  |x::xs=>sizeT x+sizeL xs
end
mutual

def depthT:S56→Nat
  |⟨_,_,inner⟩=>depthL inner+1
def depthL:List S56→Nat
  |[]=>0
  |x::xs=>max (depthT x) (depthL xs)
end
theorem sizeL_mem {x:S56}:∀{xs:List S56},x∈xs→sizeT x≤sizeL xs
  |y::ys,h=>by
    rw[sizeL];rcases List.mem_cons.1 h with rfl|h
    · omega
    · have:=sizeL_mem h;omega
theorem sizeL_append:∀a b:List S56,sizeL (a++b)=sizeL a+sizeL b
  |[],b=>by simp[sizeL]
  |x::a,b=>by rw[List.cons_append,sizeL,sizeL_append a b,sizeL];omega
theorem sizeL_drop (xs:List S56) (i:Nat) (h:i<xs.length):sizeL (xs.drop i)=sizeT xs[i]+sizeL (xs.drop (i+1)):=by rw[List.drop_eq_getElem_cons h,sizeL]
theorem sizeL_drop_le (xs:List S56) (i:Nat):sizeL (xs.drop i)≤sizeL xs:=by
  have:=sizeL_append (xs.take i) (xs.drop i);rw[List.take_append_drop] at this;omega
mutual
theorem smallT_of_size:∀t:S56,sizeT t≤1099511627776→SmallT t
  |⟨th,ns,inner⟩,h=>by
    rw[sizeT] at h;exact SmallT.mk th ns inner (by omega) (by omega) (smallL_of_size inner (by omega))
theorem smallL_of_size:∀xs:List S56,sizeL xs≤1099511627776→∀x∈xs,SmallT x
  |[],_,x,hx=>by cases hx
  |y::ys,h,x,hx=>by
    rw[sizeL] at h;rcases List.mem_cons.1 hx with e|hx
    · rw[e];exact smallT_of_size y (by omega)
    · exact smallL_of_size ys (by omega) x hx
end
mutual
theorem depthT_le:∀t:S56,depthT t≤sizeT t+1
  |⟨th,ns,inner⟩=>by
    rw[sizeT,depthT];have:=depthL_le inner;omega
theorem depthL_le:∀xs:List S56,depthL xs≤xs.length+sizeL xs
  |[]=>by simp[depthL]
  |x::xs=>by
    rw[depthL,sizeL,List.length_cons];have h1:=depthT_le x;have h2:=depthL_le xs;omega
end
def dupOf:List Int→Bool
  |[]=>false
  |x::xs=>xs.contains x||dupOf xs
mutual

def checkT:S56→Int
  |⟨th,ns,inner⟩=>if th<1∨th>(ns.length:Int)+(inner.length:Int) then 4 else if ns.any (fun k=>decide (k<0)||decide (k≥10))=true then 5 else if dupOf ns=true then 6 else checkL inner
def checkL:List S56→Int
  |[]=>0
  |x::xs=>if checkT x=0 then checkL xs else checkT x
end
def validT (t:S56):Int:=if depthT t>4 then 3 else if sizeT t>200 then 3 else checkT t
theorem depth_ev_l {xs:List S56} (hn:xs.length≤1099511627776) (hd:depthL xs≤2199023255552) (hx:∀x∈xs,Ev (fun k=>jO.f k x.f0 x.f1 x.f2) (depthT x:Int)):
    ∀(d i c:Nat),xs.length - i=d→i≤xs.length→c≤2199023255552→Ev (fun k=>jO.l0 k (c:Int) xs (xs.length:Int) (i:Int)) ((max c (depthL (xs.drop i))+1:Nat):Int):=by
  intro d
  induction d with
  |zero=>
    intro i c hd' hi hc;refine Ev.step (fun k=>by rw[jO.l0]) ?_;rw[List.drop_eq_nil_of_le (by omega)];refine Ev.neg (by omega) (Ev.eq ?_);rw[succ64 (by omega),depthL,Nat.max_zero]
  |succ d ih=>
    intro i c hd' hi hc;have hlt:i<xs.length:=by omega
    have hle:depthL (xs.drop i)≤depthL xs:=by
      have:∀(l:List S56) (i:Nat),depthL (l.drop i)≤depthL l:=by
        intro l
        induction l with
        |nil=>intro i;simp
        |cons y ys ihy=>
          intro i
          cases i with
          |zero=>simp
          |succ i=>rw[List.drop_succ_cons,depthL];have:=ihy i;omega
      exact this xs i
    refine Ev.step (fun k=>by rw[jO.l0]) ?_;refine Ev.pos (by omega) (Ev.pos (by omega) (Ev.pos (by omega) ?_));rw[rdT_get hlt];refine Ev.bind (hx _ (List.getElem_mem hlt)) ?_;have hmx:mx (c:Int) (depthT xs[i]:Int)=((max c (depthT xs[i]):Nat):Int):=by unfold mx;split <;> omega
    rw[hmx,succ64 (by omega)];have he:depthL (xs.drop i)=max (depthT xs[i]) (depthL (xs.drop (i+1))):=by rw[List.drop_eq_getElem_cons hlt,depthL]
    have:=ih (i+1) (max c (depthT xs[i])) (by omega) (by omega) (by omega);rw[he];rwa [show max c (max (depthT xs[i]) (depthL (xs.drop (i+1))))=max (max c (depthT xs[i])) (depthL (xs.drop (i+1))) by omega]
mutual
theorem depth_ev:∀t:S56,sizeT t≤1099511627776→Ev (fun k=>jO.f k t.f0 t.f1 t.f2) (depthT t:Int)
  |⟨th,ns,inner⟩,h=>by
    rw[sizeT] at h;refine Ev.step (fun k=>by rw[jO.f]) ?_;have h1:=depthL_le inner;have:=depth_ev_l (xs:=inner) (by omega) (by omega) (depth_evL inner (by omega)) inner.length 0 0 (by omega) (by omega) (by omega);simpa[depthT] using this
theorem depth_evL:∀xs:List S56,sizeL xs≤1099511627776→∀x∈xs,Ev (fun k=>jO.f k x.f0 x.f1 x.f2) (depthT x:Int)
  |[],_,x,hx=>by cases hx
  |y::ys,h,x,hx=>by
    rw[sizeL] at h;rcases List.mem_cons.1 hx with e|hx
    · rw[e];exact depth_ev y (by omega)
    · exact depth_evL ys (by omega) x hx
end
theorem size_ev_l {xs:List S56} (hn:xs.length≤1099511627776) (hs:sizeL xs≤1099511627776) (hx:∀x∈xs,Ev (fun k=>jU.f k x.f0 x.f1 x.f2) (sizeT x:Int)):
    ∀(d i c:Nat),xs.length - i=d→i≤xs.length→c≤2199023255552+(sizeL xs - sizeL (xs.drop i))→Ev (fun k=>jU.l0 k (c:Int) xs (xs.length:Int) (i:Int)) ((c+sizeL (xs.drop i):Nat):Int):=by
  intro d
  induction d with
  |zero=>
    intro i c hd' hi hc;refine Ev.step (fun k=>by rw[jU.l0]) ?_;rw[List.drop_eq_nil_of_le (by omega)];exact Ev.neg (by omega) (Ev.eq (by simp[sizeL]))
  |succ d ih=>
    intro i c hd' hi hc;have hlt:i<xs.length:=by omega
    have he:=sizeL_drop xs i hlt;have hle:=sizeL_drop_le xs i;refine Ev.step (fun k=>by rw[jU.l0]) ?_;refine Ev.pos (by omega) (Ev.pos (by omega) (Ev.pos (by omega) ?_));rw[rdT_get hlt];refine Ev.bind (hx _ (List.getElem_mem hlt)) ?_;rw[wrap64_id (by omega) (by omega),succ64 (by omega),he];have:=ih (i+1) (c+sizeT xs[i]) (by omega) (by omega) (by omega);rw[← Nat.add_assoc,show(c:Int)+(sizeT xs[i]:Int)=((c+sizeT xs[i]:Nat):Int) by omega];exact this
mutual
theorem size_ev:∀t:S56,sizeT t≤1099511627776→Ev (fun k=>jU.f k t.f0 t.f1 t.f2) (sizeT t:Int)
  |⟨th,ns,inner⟩,h=>by
    rw[sizeT] at h;refine Ev.step (fun k=>by rw[jU.f]) ?_;show Ev (fun k=>jU.l0 k (wrap64 ((ns.length:Int)+(inner.length:Int))) inner (inner.length:Int) 0) _
    rw[wrap64_id (by omega) (by omega),show(ns.length:Int)+(inner.length:Int)=((ns.length+inner.length:Nat):Int) by omega];have:=size_ev_l (xs:=inner) (by omega) (by omega) (size_evL inner (by omega)) inner.length 0 (ns.length+inner.length) (by omega) (by omega) (by omega);simpa[sizeT] using this
theorem size_evL:∀xs:List S56,sizeL xs≤1099511627776→∀x∈xs,Ev (fun k=>jU.f k x.f0 x.f1 x.f2) (sizeT x:Int)
  |[],_,x,hx=>by cases hx
  |y::ys,h,x,hx=>by
    rw[sizeL] at h;rcases List.mem_cons.1 hx with e|hx
    · rw[e];exact size_ev y (by omega)
    · exact size_evL ys (by omega) x hx
end
theorem ref_valid_nat {s:Nat} (h:s<1024):zZ.f (s:Int)=some true:=by
  unfold zZ.f;rw[if_pos (by omega)];have:(s:Int)≤1023:=by omega
  simp[this]
theorem shr_bit {s k:Nat} (hs:s<1024) (hk:k<10):Go.bits .and .i64 (shr .i64 (s:Int) (k:Int)) 1=(((s.testBit k).toNat:Nat):Int):=by
  have h1:shr .i64 (s:Int) (k:Int)=((s>>>k:Nat):Int):=by
    unfold shr;have hb:IntKind.i64.bits=64:=rfl;rw[hb,Int.toNat_natCast,Nat.min_eq_left (by omega),Nat.shiftRight_eq_div_pow];simp
  have h2:s>>>k<1024:=by rw[Nat.shiftRight_eq_div_pow];exact Nat.lt_of_le_of_lt (Nat.div_le_self _ _) hs
  rw[h1,show(1:Int)=((1:Nat):Int) by rfl,bits_and_nat (lt1024 h2) (by decide)];congr 1;rw[Nat.testBit,Nat.and_comm];have h3:1&&& (s>>>k)=(s>>>k)%2:=by rw[Nat.and_comm];exact Nat.and_one_is_mod _
  rw[h3];rcases Nat.mod_two_eq_zero_or_one (s>>>k) with h|h <;> rw[h] <;> rfl
theorem ref_has_nat {s:Nat} (hs:s<1024) (k:Int):uJ.f (s:Int) k=some (hasI s k):=by
  unfold uJ.f;rw[ref_valid_nat hs];simp only[Option.bind_some,if_true];by_cases h0:k≥0
  · rw[if_pos h0];by_cases h1:k<10
    · rw[if_pos h1,if_pos h0];obtain⟨n,rfl⟩:=Int.eq_ofNat_of_zero_le h0;rw[shr_bit hs (by omega),hasI_nat]
      cases s.testBit n <;> rfl
    · rw[if_neg h1];unfold hasI;have h2:s.testBit k.toNat=false:=by
        cases e:s.testBit k.toNat with
        |false=>rfl
        |true=>have:=bit_lt10 hs e;omega
      rw[h2,Bool.and_false]
  · rw[if_neg h0];unfold hasI;have h2:¬(0≤k):=h0;simp[h2]
theorem hasI_or {s:Nat} {k x:Int} (hk:0≤k):hasI (s|||2^k.toNat) x=(hasI s x||decide (x=k)):=by
  unfold hasI;rw[or_pow_bit];by_cases h0:0≤x
  · have:(x.toNat=k.toNat)↔x=k:=by omega
    simp[h0,this]
  · have:¬x=k:=by omega
    simp[h0,this]
theorem of_ev_l {l:List Int} (hn:l.length≤1099511627776) (hr:∀k∈l,0≤k∧k<10):∀(d i s:Nat),l.length - i=d→i≤l.length→s<1024→
    Tot (fun k=>jW.l0 k (s:Int) l (l.length:Int) (i:Int)) (fun r=>r.2=if((l.drop i).any fun x=>hasI s x)=true∨dupOf (l.drop i)=true then 6 else 0):=by
  intro d
  induction d with
  |zero=>
    intro i s hd hi hs;refine Tot.step (fun k=>by rw[jW.l0]) ?_;rw[List.drop_eq_nil_of_le (by omega)];exact Tot.neg (by omega) (Tot.now (by simp[dupOf]))
  |succ d ih=>
    intro i s hd hi hs;have hlt:i<l.length:=by omega
    obtain⟨h0,h10⟩:=hr _ (List.getElem_mem hlt);refine Tot.step (fun k=>by rw[jW.l0]) ?_;refine Tot.pos (by omega) (Tot.pos (by omega) (Tot.pos (by omega) ?_));rw[rd_get hlt];refine Tot.neg (by omega) ?_;refine Tot.step (fun k=>by rw[jW.j1]) ?_;refine Tot.neg (by simp;omega) ?_;refine Tot.bindP (P:=fun b=>b=hasI s l[i]) ⟨_,rfl,ref_has_nat hs _⟩ ?_;rintro _ rfl;rw[List.drop_eq_getElem_cons hlt];by_cases hb:hasI s l[i]=true
    · refine Tot.pos hb (Tot.now ?_);rw[if_pos];left;rw[List.any_cons,hb];rfl
    · refine Tot.neg hb (Tot.pos h0 ?_);rw[shl_oneI h0 (by omega),bits_or_nat (lt1024 hs) (lt1024 (pow_lt1024 (by omega))),succ64 (by omega)];have hs':s|||2^l[i].toNat<1024:=Nat.or_lt_two_pow (n:=10) hs (pow_lt1024 (by omega))
      refine(ih (i+1) _ (by omega) (by omega) hs').mono fun r h=> ?_
      rw[h];have e:((l.drop (i+1)).any fun x=>hasI (s|||2^l[i].toNat) x)=(((l.drop (i+1)).any fun x=>hasI s x)||(l.drop (i+1)).contains l[i]):=by
        rw[Bool.eq_iff_iff,Bool.or_eq_true,List.any_eq_true,List.any_eq_true,List.contains_iff_mem];constructor
        · rintro⟨x,hx,h⟩;rw[hasI_or h0,Bool.or_eq_true,decide_eq_true_eq] at h;rcases h with h|h
          · exact .inl ⟨x,hx,h⟩
          · exact .inr (h ▸ hx)
        · rintro(⟨x,hx,h⟩|h)
          · exact⟨x,hx,by rw[hasI_or h0,h];rfl⟩
          · exact⟨_,h,by rw[hasI_or h0];simp⟩
      have e2:dupOf (l[i]::l.drop (i+1))=((l.drop (i+1)).contains l[i]||dupOf (l.drop (i+1))):=rfl;have e3:((l[i]::l.drop (i+1)).any fun x=>hasI s x)=((l.drop (i+1)).any fun x=>hasI s x):=by rw[List.any_cons,Bool.eq_false_iff.2 hb,Bool.false_or]
      rw[e,e2,e3];simp only[Bool.or_eq_true,or_assoc]
theorem of_ev {l:List Int} (hn:l.length≤1099511627776) (hr:∀k∈l,0≤k∧k<10):Tot (fun k=>jW.f k l) (fun r=>r.2=if dupOf l=true then 6 else 0):=by
  unfold jW.f;refine(of_ev_l hn hr l.length 0 0 (by omega) (by omega) (by decide)).mono fun r h=> ?_
  rw[h,List.drop_zero];have:(l.any fun x=>hasI 0 x)=false:=by
    rw[Bool.eq_false_iff];intro h;rw[List.any_eq_true] at h;obtain⟨x,_,h⟩:=h;simp[hasI] at h
  simp[this]
theorem check_l1_ev {xs:List S56} (hn:xs.length≤1099511627776) (hx:∀x∈xs,Ev (fun k=>zG.f k x.f0 x.f1 x.f2) (checkT x)):∀(d i:Nat),xs.length - i=d→i≤xs.length→
    Ev (fun k=>zG.l1 k xs (xs.length:Int) (i:Int)) (checkL (xs.drop i)):=by
  intro d
  induction d with
  |zero=>
    intro i hd hi;refine Ev.step (fun k=>by rw[zG.l1]) ?_;rw[List.drop_eq_nil_of_le (by omega)];exact Ev.neg (by omega) (Ev.eq (by rw[checkL]))
  |succ d ih=>
    intro i hd hi;have hlt:i<xs.length:=by omega
    refine Ev.step (fun k=>by rw[zG.l1]) ?_;refine Ev.pos (by omega) (Ev.pos (by omega) (Ev.pos (by omega) ?_));rw[rdT_get hlt];refine Ev.bind (hx _ (List.getElem_mem hlt)) ?_;rw[List.drop_eq_getElem_cons hlt,checkL];by_cases h:checkT xs[i]=0
    · rw[if_pos h];refine Ev.pos h ?_;rw[succ64 (by omega)];exact ih (i+1) (by omega) (by omega)
    · rw[if_neg h];exact Ev.neg h (Ev.now _)
theorem check_l0_ev {ns:List Int} (inner:List S56) (th:Int) (r:Int) (hn:ns.length≤1099511627776) (h1:Ev (fun k=>zG.l1 k inner (inner.length:Int) 0) r):∀(d i:Nat),ns.length - i=d→i≤ns.length→(∀k∈ns.take i,0≤k∧k<10)→
    Ev (fun k=>zG.l0 k ns (ns.length:Int) (i:Int) th ns inner) (if(ns.drop i).any (fun k=>decide (k<0)||decide (k≥10))=true then 5 else if dupOf ns=true then 6 else r):=by
  intro d
  induction d with
  |zero=>
    intro i hd hi hp;refine Ev.step (fun k=>by rw[zG.l0]) ?_;rw[List.drop_eq_nil_of_le (by omega),if_neg (by simp)];refine Ev.neg (by omega) ?_;rw[List.take_of_length_le (by omega)] at hp;obtain⟨a,h2,h3⟩:=of_ev hn hp;refine Ev.bind h3 ?_;by_cases hdup:dupOf ns=true
    · rw[if_pos hdup] at h2 ⊢;rw[h2];exact Ev.neg (by decide) (Ev.now _)
    · rw[if_neg hdup] at h2 ⊢;exact Ev.pos h2 h1
  |succ d ih=>
    intro i hd hi hp;have hlt:i<ns.length:=by omega
    refine Ev.step (fun k=>by rw[zG.l0]) ?_;refine Ev.pos (by omega) (Ev.pos (by omega) (Ev.pos (by omega) ?_));rw[rd_get hlt,List.drop_eq_getElem_cons hlt,List.any_cons];by_cases h0:ns[i]<0
    · rw[if_pos (by simp[h0])];exact Ev.pos h0 (Ev.now _)
    · refine Ev.neg h0 ?_;by_cases h10:ns[i]≥10
      · rw[if_pos (by simp[h10])];exact Ev.pos h10 (Ev.now _)
      · refine Ev.neg h10 ?_;rw[succ64 (by omega)];have e:(decide (ns[i]<0)||decide (ns[i]≥10))=false:=by simp[h0];omega
        rw[e,Bool.false_or];refine ih (i+1) (by omega) (by omega) fun k hk=> ?_
        rw[List.take_succ_eq_append_getElem hlt] at hk;rcases List.mem_append.1 hk with hk|hk
        · exact hp k hk
        · rw[List.mem_singleton.1 hk];omega
mutual
theorem check_ev:∀t:S56,sizeT t≤1099511627776→Ev (fun k=>zG.f k t.f0 t.f1 t.f2) (checkT t)
  |⟨th,ns,inner⟩,h=>by
    rw[sizeT] at h;refine Ev.step (fun k=>by rw[zG.f]) ?_;have hj:∀b:Bool,Ev (fun k=>zG.j0 k b th ns inner) (if b=true then 4 else if ns.any (fun k=>decide (k<0)||decide (k≥10))=true then 5 else if dupOf ns=true then 6 else checkL inner):=by
      intro b;refine Ev.step (fun k=>by rw[zG.j0]) ?_
      cases b with
      |true=>exact Ev.pos rfl (Ev.now _)
      |false=>
        refine Ev.neg (by simp) ?_;have h1:=check_l1_ev (xs:=inner) (by omega) (check_evL inner (by omega)) inner.length 0 (by omega) (by omega);have:=check_l0_ev inner th (checkL inner) (ns:=ns) (by omega) (by simpa using h1) ns.length 0 (by omega) (by omega) (by simp);simpa using this
    rw[checkT];by_cases h1:th<1
    · rw[if_pos (.inl h1)];exact Ev.pos h1 (hj true)
    · refine Ev.neg h1 ?_;show Ev (fun k=>zG.j0 k (decide (th>wrap64 ((ns.length:Int)+(inner.length:Int)))) th ns inner) _
      rw[wrap64_id (by omega) (by omega)];by_cases h2:th>(ns.length:Int)+(inner.length:Int)
      · rw[if_pos (.inr h2)];have:=hj true;simpa[h2] using this
      · rw[if_neg (by omega)];have:=hj false;simpa[h2] using this
theorem check_evL:∀xs:List S56,sizeL xs≤1099511627776→∀x∈xs,Ev (fun k=>zG.f k x.f0 x.f1 x.f2) (checkT x)
  |[],_,x,hx=>by cases hx
  |y::ys,h,x,hx=>by
    rw[sizeL] at h;rcases List.mem_cons.1 hx with e|hx
    · rw[e];exact check_ev y (by omega)
    · exact check_evL ys (by omega) x hx
end
theorem ref_validT_ev {t:S56} (h:sizeT t≤1099511627776):Ev (fun k=>uC.f k t.f0 t.f1 t.f2) (validT t):=by
  unfold uC.f validT;refine Ev.bind (depth_ev t h) ?_;by_cases h1:depthT t>4
  · rw[if_pos h1];exact Ev.pos (by omega) (Ev.now _)
  · rw[if_neg h1];refine Ev.neg (by omega) ?_;refine Ev.bind (size_ev t h) ?_;by_cases h2:sizeT t>200
    · rw[if_pos h2];exact Ev.pos (by omega) (Ev.now _)
    · rw[if_neg h2];refine Ev.neg (by omega) ?_;exact Ev.bind (check_ev t h) (Ev.now _)
end Go.Proofs.Ytkkbdimegpdbgaa.P
