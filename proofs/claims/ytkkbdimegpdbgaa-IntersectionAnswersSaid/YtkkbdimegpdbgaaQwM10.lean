/- The reference's check of a configuration comes to the same pure answer; conditions: no more than 2^40 entries a trust. -/
import Derived.Test.YtkkbdimegpdbgaaQwM7
import Derived.Test.YtkkbdimegpdbgaaQwPx21
namespace Go.Proofs.Ytkkbdimegpdbgaa.P
open Go.RowKit Go.Proofs.YtkkbdimegpdbgaaW.PrintWords Go.Proofs.YtkkbdimegpdbgaaW.PrintLast Go.Proofs.YtkkbdimegpdbgaaW.PrintMore
set_option linter.unusedVariables false
set_option linter.unusedSimpArgs false
theorem ref_uses_l0_ev {ns:List Int} (hn:ns.length≤1099511627776) (th:Int) (ns':List Int) (inner:List S56) (r:Nat→Int) (hl:∀a:Nat,a<1024→Ev (fun k=>zQ.l1 k (a:Int) inner (inner.length:Int) 0) (r a)):∀(d i a:Nat),ns.length - i=d→i≤ns.length→a<1024→
    Ev (fun k=>zQ.l0 k (a:Int) ns (ns.length:Int) (i:Int) th ns' inner) (r (usesI (ns.drop i) a)):=by
  intro d
  induction d with
  |zero=>
    intro i a hd hi ha;refine Ev.step (fun k=>by rw[zQ.l0]) ?_;rw[List.drop_eq_nil_of_le (by omega)];exact Ev.neg (by omega) (hl a ha)
  |succ d ih=>
    intro i a hd hi ha;have hlt:i<ns.length:=by omega
    refine Ev.step (fun k=>by rw[zQ.l0]) ?_;refine Ev.pos (by omega) (Ev.pos (by omega) (Ev.pos (by omega) ?_));rw[rd_get hlt,List.drop_eq_getElem_cons hlt];have he:∀a,usesI (ns[i]::ns.drop (i+1)) a=usesI (ns.drop (i+1)) (if 0≤ns[i]∧ns[i]<10 then a|||2^ns[i].toNat else a):=fun a=>rfl
    rw[he];rw[succ64 (by omega)];by_cases h0:0≤ns[i]
    · refine Ev.pos (by omega) ?_;by_cases h1:ns[i]<10
      · rw[if_pos ⟨h0,h1⟩];refine Ev.pos h1 (Ev.pos h0 ?_);rw[shl_oneI h0 (by omega),bits_or_nat (lt1024 ha) (lt1024 (pow_lt1024 (by omega)))];exact ih (i+1) _ (by omega) (by omega) (Nat.or_lt_two_pow (n:=10) ha (pow_lt1024 (by omega)))
      · rw[if_neg (by omega)];exact Ev.neg h1 (ih (i+1) _ (by omega) (by omega) ha)
    · rw[if_neg (by omega)];exact Ev.neg (by omega) (ih (i+1) _ (by omega) (by omega) ha)
theorem ref_uses_l1_ev {xs:List S56} (hn:xs.length≤1099511627776) (hx:∀x∈xs,Ev (fun k=>zQ.f k x.f0 x.f1 x.f2) (usesT x:Int)):∀(d i a:Nat),xs.length - i=d→i≤xs.length→a<1024→
    Ev (fun k=>zQ.l1 k (a:Int) xs (xs.length:Int) (i:Int)) (usesL (xs.drop i) a:Int):=by
  intro d
  induction d with
  |zero=>
    intro i a hd hi ha;refine Ev.step (fun k=>by rw[zQ.l1]) ?_;rw[List.drop_eq_nil_of_le (by omega)];exact Ev.neg (by omega) (Ev.eq (by rw[usesL]))
  |succ d ih=>
    intro i a hd hi ha;have hlt:i<xs.length:=by omega
    refine Ev.step (fun k=>by rw[zQ.l1]) ?_;refine Ev.pos (by omega) (Ev.pos (by omega) (Ev.pos (by omega) ?_));rw[rdT_get hlt];refine Ev.bind (hx _ (List.getElem_mem hlt)) ?_;rw[List.drop_eq_getElem_cons hlt,usesL,succ64 (by omega),bits_or_nat (lt1024 ha) (lt1024 (usesT_lt10 _))];exact ih (i+1) _ (by omega) (by omega) (Nat.or_lt_two_pow (n:=10) ha (usesT_lt10 _))
mutual
theorem ref_uses_ev:∀t:S56,sizeT t≤1099511627776→Ev (fun k=>zQ.f k t.f0 t.f1 t.f2) (usesT t:Int)
  |⟨th,ns,inner⟩,h=>by
    rw[sizeT] at h;refine Ev.step (fun k=>by rw[zQ.f]) ?_;have:=ref_uses_l0_ev (ns:=ns) (by omega) th ns inner (fun a=>(usesL inner a:Int)) (fun a ha=> ?_) ns.length 0 0 (by omega) (by omega) (by decide)
    · rw[usesT];simpa using this
    · have:=ref_uses_l1_ev (xs:=inner) (by omega) (ref_uses_evL inner (by omega)) inner.length 0 a (by omega) (by omega) ha;simpa using this
theorem ref_uses_evL:∀xs:List S56,sizeL xs≤1099511627776→∀x∈xs,Ev (fun k=>zQ.f k x.f0 x.f1 x.f2) (usesT x:Int)
  |[],_,x,hx=>by cases hx
  |y::ys,h,x,hx=>by
    rw[sizeL] at h;rcases List.mem_cons.1 hx with e|hx
    · rw[e];exact ref_uses_ev y (by omega)
    · exact ref_uses_evL ys (by omega) x hx
end
theorem ref_blank_ev (t:S56) (h:sizeT t≤1099511627776):Ev (fun k=>zI.f k t.f0 t.f1 t.f2 0 ([]:List Int) ([]:List S56)) (blankT t):=by
  obtain⟨th,ns,inner⟩:=t;have no (b:Bool) (hb:b=true):Ev (fun k=>zI.j0 k b th ns inner 0 ([]:List Int) ([]:List S56)) false:=by
    refine Ev.step (fun k=>by rw[zI.j0]) ?_;exact Ev.pos hb (Ev.now _)
  refine Ev.step (fun k=>by rw[zI.f]) ?_;unfold blankT;simp only;by_cases h1:th=0
  · refine Ev.pos h1 ?_;have hn:Ev (fun k=>vW.f k ns ([]:List Int)) ns.isEmpty:=by
      unfold vW.f
      cases ns with
      |nil=>
        refine Ev.pos rfl ?_;refine Ev.step (fun k=>by rw[vW.l0]) ?_;exact Ev.neg (by simp) (Ev.now _)
      |cons y ys=>exact Ev.neg (by simp;omega) (Ev.now _)
    refine Ev.bind hn ?_
    cases ns with
    |cons y ys=>exact Ev.neg (by simp) (by simpa[h1] using no true rfl)
    |nil=>
      refine Ev.pos rfl ?_
      cases inner with
      |cons y ys=>
        have:=no (((y::ys).length:Int) != (([]:List S56).length:Int)) (by simp;omega);simpa[h1] using this
      |nil=>
        refine Ev.step (fun k=>by rw[zI.j0]) ?_;refine Ev.neg (by simp) ?_;refine Ev.step (fun k=>by rw[zI.l0]) ?_;exact Ev.neg (by simp) (Ev.eq (by simp[h1]))
  · exact Ev.neg h1 (by simpa[h1] using no true rfl)
theorem ref_validC_l0_ev {ms:List S58} (hs:SizedC ms) (hl:ms.length≤10):∀(d i:Nat),ms.length - i=d→i≤ms.length→Ev (fun k=>zF.l0 k ms (ms.length:Int) (i:Int) ms) (memL ms.length (ms.drop i)):=by
  intro d
  induction d with
  |zero=>
    intro i hd hi;refine Ev.step (fun k=>by rw[zF.l0]) ?_;rw[List.drop_eq_nil_of_le (by omega)];exact Ev.neg (by omega) (Ev.eq (by rw[memL]))
  |succ d ih=>
    intro i hd hi;have hlt:i<ms.length:=by omega
    have hsz:=hs _ (List.getElem_mem hlt);have next:=ih (i+1) (by omega) (by omega);refine Ev.step (fun k=>by rw[zF.l0]) ?_;refine Ev.pos (by omega) (Ev.pos (by omega) (Ev.pos (by omega) ?_));rw[rdM_get hlt,List.drop_eq_getElem_cons hlt,memL,succ64 (by omega)];generalize ms[i]=m at hsz
    unfold memE;by_cases h0:m.f0=true
    · rw[if_pos h0];refine Ev.pos h0 ?_;refine Ev.bind (ref_validT_ev hsz) ?_;by_cases h1:validT m.f1=0
      · rw[if_pos h1];refine Ev.pos h1 ?_;refine Ev.bind (ref_uses_ev _ hsz) ?_;rw[shl_one (by omega)];by_cases h2:usesT m.f1≥2^ms.length
        · rw[if_pos h2,if_neg (by decide)];exact Ev.pos (by omega) (Ev.now _)
        · rw[if_neg h2,if_pos rfl];exact Ev.neg (by omega) next
      · rw[if_neg h1,if_neg h1];exact Ev.neg h1 (Ev.now _)
    · rw[if_neg h0];refine Ev.neg h0 ?_;refine Ev.bind (ref_blank_ev _ hsz) ?_;by_cases h1:blankT m.f1=true
      · rw[if_pos h1,if_pos rfl];exact Ev.pos h1 next
      · rw[if_neg h1,if_neg (by decide)];exact Ev.neg h1 (Ev.now _)
theorem ref_validC_ev {ms:List S58} (hs:SizedC ms) (hl:ms.length≤1099511627776):Ev (fun k=>zF.f k ms) (validC ms):=by
  unfold zF.f validC;by_cases h:ms.length>10
  · rw[if_pos h];exact Ev.pos (by omega) (Ev.now _)
  · rw[if_neg h];refine Ev.neg (by omega) ?_;have:=ref_validC_l0_ev hs (by omega) ms.length 0 (by omega) (by omega);simpa using this
end Go.Proofs.Ytkkbdimegpdbgaa.P
