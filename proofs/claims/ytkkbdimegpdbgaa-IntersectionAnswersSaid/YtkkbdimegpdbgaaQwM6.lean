/- The reference's nodes, declared members and satisfied trusts come to the pure answers; conditions: sets below 1024, trusts whose lists are no longer than 2^40. -/
import Derived.Test.YtkkbdimegpdbgaaQwM5
import Derived.Test.YtkkbdimegpdbgaaQwPx17
namespace Go.Proofs.Ytkkbdimegpdbgaa.P
open Go.RowKit Go.Proofs.YtkkbdimegpdbgaaW.PrintWords Go.Proofs.YtkkbdimegpdbgaaW.PrintLast Go.Proofs.YtkkbdimegpdbgaaW.PrintMore
set_option linter.unusedVariables false
set_option linter.unusedSimpArgs false
theorem add_of_and_zero {a b:Nat} (h:a&&& b=0):a|||b=a+b:=by
  have h1:∀(n a b:Nat),a<2^n→a&&& b=0→a|||b=a+b:=by
    intro n
    induction n with
    | zero => intro a b ha _; obtain rfl : a = 0 := by simpa using ha
              simp
    |succ n ih=>
      intro a b ha h;have e1:(a|||b) / 2=a / 2|||b / 2:=Nat.or_div_two
      have e2:(a&&& b) / 2=a / 2&&& b / 2:=Nat.and_div_two;have e3:=ih (a / 2) (b / 2) (by rw[Nat.pow_succ] at ha;omega) (by rw[← e2,h]);have e4:(a|||b).testBit 0=(a.testBit 0||b.testBit 0):=Nat.testBit_or ..;have e5:(a&&& b).testBit 0=(a.testBit 0&&b.testBit 0):=Nat.testBit_and ..;rw[h,Nat.zero_testBit] at e5;simp only[Nat.testBit_zero] at e4 e5;have e6:=Nat.div_add_mod (a|||b) 2;have e7:=Nat.div_add_mod a 2;have e8:=Nat.div_add_mod b 2;rw[e1,e3] at e6;rcases Nat.mod_two_eq_zero_or_one a with ha2|ha2 <;> rcases Nat.mod_two_eq_zero_or_one b with hb2|hb2 <;> rcases Nat.mod_two_eq_zero_or_one (a|||b) with hc2|hc2 <;> simp[ha2,hb2,hc2] at e4 e5 <;> omega
  exact h1 a a b Nat.lt_two_pow_self h
theorem ref_decl_l0_ev {ms:List S58} (hm:ms.length≤1099511627776):∀(d i a:Nat),ms.length - i=d→i≤ms.length→(∀j,a.testBit j=(decide (j<i)&&isDecl ms j))→
    Ev (fun k=>zW.l0 k (a:Int) ms (ms.length:Int) (i:Int)) (declN ms:Int):=by
  intro d
  induction d with
  |zero=>
    intro i a hd hi ha;refine Ev.step (fun k=>by rw[zW.l0]) ?_;refine Ev.neg (by omega) (Ev.eq ?_);congr 1;refine Nat.eq_of_testBit_eq fun j=> ?_
    rw[ha,declN_bit];unfold isDecl;by_cases h:j<ms.length
    · have:j<i:=by omega
      simp[h,this]
    · simp[h]
  |succ d ih=>
    intro i a hd hi ha;have hlt:i<ms.length:=by omega
    have ha10:a<1024:=by
      apply Nat.lt_pow_two_of_testBit (n:=10);intro j hj;rw[ha];unfold isDecl;have:¬j<10:=by omega
      simp[this]
    have next (a':Nat) (h:∀j,a'.testBit j=(decide (j<i+1)&&isDecl ms j)):Ev (fun k=>zW.l0 k (a':Int) ms (ms.length:Int) (wrap64 ((i:Int)+1))) (declN ms:Int):=by
      rw[succ64 (by omega)];exact ih (i+1) a' (by omega) (by omega) h
    have keep (hn:isDecl ms i=false):∀j,a.testBit j=(decide (j<i+1)&&isDecl ms j):=by
      intro j;rw[ha];by_cases e:j=i
      · subst e;simp[hn]
      · have:(j<i)↔(j<i+1):=by omega
        simp[this]
    refine Ev.step (fun k=>by rw[zW.l0]) ?_;refine Ev.pos (by omega) (Ev.pos (by omega) (Ev.pos (by omega) ?_));rw[rdM_nat];by_cases h10:i<10
    · refine Ev.pos (by omega) ?_;by_cases hf:(ms.getD i z58).f0=true
      · refine Ev.pos hf ?_;rw[shl_one (by omega),bits_or_nat (lt1024 ha10) (lt1024 (pow_lt1024 h10))];refine next _ fun j=> ?_
        rw[or_pow_bit,ha];by_cases e:j=i
        · subst e;unfold isDecl;rw[hf];simp[h10,hlt]
        · have:(j<i)↔(j<i+1):=by omega
          simp[this,e]
      · refine Ev.neg hf ?_;exact next _ (keep (by unfold isDecl;rw[Bool.eq_false_iff.2 hf];simp))
    · refine Ev.neg (by omega) ?_;exact next _ (keep (by simp[isDecl,h10]))
theorem ref_decl_ev {ms:List S58} (h:ms.length≤1099511627776):Ev (fun k=>zW.f k ms) (declN ms:Int):=by
  unfold zW.f;exact ref_decl_l0_ev h ms.length 0 0 (by omega) (by omega) (fun j=>by simp)
theorem ref_nodes_l0_ev {s:Nat} (hs:s<1024):∀(d i:Nat) (acc:List Int),10 - i=d→i≤10→acc.length≤i→Ev (fun k=>vG.l0 k (s:Int) acc (i:Int)) (acc++casts ((List.range' i d).filter s.testBit)):=by
  intro d
  induction d with
  |zero=>
    intro i acc hd hi ha;refine Ev.step (fun k=>by rw[vG.l0]) ?_;exact Ev.neg (by omega) (Ev.eq (by simp[casts]))
  |succ d ih=>
    intro i acc hd hi ha;refine Ev.step (fun k=>by rw[vG.l0]) ?_;refine Ev.pos (by omega) ?_;refine Ev.bindP (ref_has_nat hs _) ?_;rw[hasI_nat,List.range'_succ,List.filter_cons];by_cases hb:s.testBit i=true
    · refine Ev.pos hb (Ev.pos (by omega) ?_);rw[if_pos hb,succ64 (by omega)];have:=ih (i+1) (acc++[(i:Int)]) (by omega) (by omega) (by simp;omega);simpa[casts] using this
    · refine Ev.neg hb ?_;rw[if_neg hb,succ64 (by omega)];exact ih (i+1) acc (by omega) (by omega) (by omega)
theorem ref_nodes_ev {s:Nat} (hs:s<1024):Ev (fun k=>vG.f k (s:Int)) (casts (nodesL s)):=by
  unfold vG.f nodesL;have:=ref_nodes_l0_ev hs 10 0 [] (by omega) (by omega) (by simp);rw[List.range_eq_range'];simpa using this
theorem ref_sat_l0_ev {s:Nat} (hs:s<1024) (ns:List Int) (th:Int) (ns':List Int) (inner:List S56) (r:Int→Bool) (hn:ns.length≤1099511627776)
    (hl1:∀c:Nat,c≤1099511627776→Ev (fun k=>qY.l1 k (s:Int) (c:Int) inner (inner.length:Int) 0 th ns' inner) (r c)):
    ∀(d i c:Nat),ns.length - i=d→i≤ns.length→c≤i→Ev (fun k=>qY.l0 k (s:Int) (c:Int) ns (ns.length:Int) (i:Int) th ns' inner) (r ((c+((ns.drop i).filter (hasI s)).length:Nat):Int)):=by
  intro d
  induction d with
  |zero=>
    intro i c hd hi hc;refine Ev.step (fun k=>by rw[qY.l0]) ?_;refine Ev.neg (by omega) ?_;rw[List.drop_eq_nil_of_le (by omega)];exact hl1 c (by omega)
  |succ d ih=>
    intro i c hd hi hc;have hlt:i<ns.length:=by omega
    refine Ev.step (fun k=>by rw[qY.l0]) ?_;refine Ev.pos (by omega) (Ev.pos (by omega) (Ev.pos (by omega) ?_));refine Ev.bindP (ref_has_nat hs _) ?_;rw[rd_get hlt,List.drop_eq_getElem_cons hlt,List.filter_cons];by_cases hb:hasI s ns[i]=true
    · refine Ev.pos hb ?_;rw[if_pos hb,succ64 (by omega),succ64 (by omega),List.length_cons];have:=ih (i+1) (c+1) (by omega) (by omega) (by omega);rwa [show c+(((ns.drop (i+1)).filter (hasI s)).length+1)=c+1+((ns.drop (i+1)).filter (hasI s)).length by omega]
    · refine Ev.neg hb ?_;rw[if_neg hb,succ64 (by omega)];exact ih (i+1) c (by omega) (by omega) (by omega)
theorem ref_sat_l1_ev {s:Nat} (xs:List S56) (th:Int) (ns':List Int) (inner':List S56) (hn:xs.length≤1099511627776)
    (hx:∀x∈xs,Ev (fun k=>qY.f k x.f0 x.f1 x.f2 (s:Int)) (satT s x)):
    ∀(d i c:Nat),xs.length - i=d→i≤xs.length→c≤1099511627776+i→Ev (fun k=>qY.l1 k (s:Int) (c:Int) xs (xs.length:Int) (i:Int) th ns' inner') (decide (th≤((c+satL s (xs.drop i):Nat):Int))):=by
  intro d
  induction d with
  |zero=>
    intro i c hd hi hc;refine Ev.step (fun k=>by rw[qY.l1]) ?_;refine Ev.neg (by omega) ?_;rw[List.drop_eq_nil_of_le (by omega)];exact Ev.eq (by simp only[satL,Nat.add_zero];exact decide_eq_decide.2 Iff.rfl)
  |succ d ih=>
    intro i c hd hi hc;have hlt:i<xs.length:=by omega
    refine Ev.step (fun k=>by rw[qY.l1]) ?_;refine Ev.pos (by omega) (Ev.pos (by omega) (Ev.pos (by omega) ?_));rw[rdT_get hlt];refine Ev.bind (hx _ (List.getElem_mem hlt)) ?_;rw[List.drop_eq_getElem_cons hlt,satL];by_cases hb:satT s xs[i]=true
    · refine Ev.pos hb ?_;rw[if_pos hb,succ64 (by omega),succ64 (by omega)];have:=ih (i+1) (c+1) (by omega) (by omega) (by omega);rwa [show c+(1+satL s (xs.drop (i+1)))=c+1+satL s (xs.drop (i+1)) by omega]
    · refine Ev.neg hb ?_;rw[if_neg hb,succ64 (by omega),show c+(0+satL s (xs.drop (i+1)))=c+satL s (xs.drop (i+1)) by omega];exact ih (i+1) c (by omega) (by omega) (by omega)
theorem ref_sat_ev {s:Nat} (hs:s<1024) {t:S56} (h:SmallT t):Ev (fun k=>qY.f k t.f0 t.f1 t.f2 (s:Int)) (satT s t):=by
  induction h with
  |mk th ns inner h1 h2 _ ih=>
    refine Ev.step (fun k=>by rw[qY.f]) ?_;refine Ev.bindP (ref_valid_nat hs) (Ev.pos rfl ?_);have:=ref_sat_l0_ev hs ns th ns inner (fun c=>decide (th≤c+(satL s inner:Int))) h1 (fun c hc=> ?_) ns.length 0 0 (by omega) (by omega) (by omega)
    · rw[satT];simpa using this
    · have:=ref_sat_l1_ev inner th ns inner h2 ih inner.length 0 c (by omega) (by omega) (by omega);simpa using this
end Go.Proofs.Ytkkbdimegpdbgaa.P
