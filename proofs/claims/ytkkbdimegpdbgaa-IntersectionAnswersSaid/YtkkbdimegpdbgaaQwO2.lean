/- How an argument that is a configuration reads, with a bound on the lengths of its lists, which the row's sizes give; conditions: none. -/
import Derived.Test.YtkkbdimegpdbgaaQwO1
namespace Go.Proofs.Ytkkbdimegpdbgaa.P
open Go.RowKit Go.Proofs.YtkkbdimegpdbgaaW.PrintWords Go.Proofs.YtkkbdimegpdbgaaW.PrintLast Go.Proofs.YtkkbdimegpdbgaaW.PrintMore
open Go.WideShapes
set_option linter.unusedVariables false
set_option linter.unusedSimpArgs false
inductive BoundT:S56→Prop
  |mk (th:Int) (ns:List Int) (inner:List S56):ns.length≤140737488355328→(∀t∈inner,BoundT t)→BoundT ⟨th,ns,inner⟩
section
variable {H : Type} {enc : TypeId × Value → H} {w : World} {base : Nat} {spare : Nat → Bool} {held : Bool}
theorem weights_all {P:Program} {e:TypeId} {n:Nat} {d:DataW H} (hn:n∈d.weights P e):∀{l:List (DataW H)},d∈l→n∈DataW.weightsAll P e l
  |x::l,h=>by
    simp only[DataW.weightsAll,List.mem_append];rcases List.mem_cons.1 h with rfl|h
    · exact .inl hn
    · exact .inr (weights_all hn h)
theorem row_openS {P:Program} {α:Type} (d:Kd α) {Q:α→Prop} {t e:TypeId} {fuel:Nat} {cs:List Value} {x:DataW H × List MemPlace} (ht:P.underlying t=some (.slice e)) (hc:P.cellsOf e=d.sz)
    (each:∀n,n<fuel→∀cs y,DataW.trod enc P w base spare held n e cs=some y→(∀v∈y.1.weights P e,v≤reachBytes)→∃z:α,d.K w z cs∧Q z)
    (h:DataW.trod enc P w base spare held fuel t cs=some x) (hw:∀v∈x.1.weights P t,v≤reachBytes):
    ∃(A:Option Addr) (c:Nat) (xs:List α),cs=[.slice A xs.length c]∧xs.length≤c∧d.C w A xs.length xs∧(∀z∈xs,Q z)∧xs.length*P.bytesOf e≤reachBytes:=by
  rcases DataW.trod_slice ht h with⟨rfl,_⟩|⟨a,len,cap,elems,rest,n,rfl,rfl,rfl,_,hl,hm,hlen,hel,_,_⟩
  · exact⟨none,0,[],rfl,Nat.le_refl _,Kd.C_nil d w,by simp,by simp⟩
  · have hw1:(elems.length+rest.length)*P.bytesOf e≤reachBytes:=by
      have:=hw ((elems.length+rest.length)*P.bytesOf e) (by simp[DataW.weights,ht]);exact this
    have hw2:∀y∈elems,∀v∈y.1.weights P e,v≤reachBytes:=by
      intro y hy v hv;refine hw v ?_;simp only[DataW.weights,ht,List.mem_cons,List.mem_append];exact .inr (.inl (weights_all hv (List.mem_map_of_mem hy)))
    have pre:∀m,m≤len→∃xs:List α,xs.length=m∧(∀z∈xs,Q z)∧∀j p,xs[j]? =some p→∃c,c.length=d.sz∧d.K w p c∧∀i u,c[i]? =some u→w.cell? (a.add (j*d.sz+i))=some u:=by
      intro m
      induction m with
      |zero=>intro _;exact⟨[],rfl,by simp,fun j p h=>by simp at h⟩
      |succ m ih=>
        intro hm';obtain⟨xs,hxl,hxq,hx⟩:=ih (by omega);have h1:=hel m (by omega);rw[List.getElem?_eq_getElem (by omega),Option.bind_eq_some_iff] at h1;obtain⟨cs',hcs,ht'⟩:=h1;obtain⟨z,hz,hq⟩:=each n (Nat.lt_succ_self _) cs' _ ht' (hw2 _ (List.getElem_mem _));obtain⟨_,hcl,hcc⟩:=World.cells?_some hcs;refine⟨xs++[z],by simp[hxl],fun y hy=> ?_,fun j p hj=> ?_⟩
        · rcases List.mem_append.1 hy with hy|hy
          · exact hxq y hy
          · rw[List.mem_singleton.1 hy];exact hq
        by_cases e:j<xs.length
        · rw[List.getElem?_append_left e] at hj;exact hx j p hj
        · have he:j=m:=by have:=(List.getElem?_eq_some_iff.1 hj).1;simp at this;omega
          subst he;rw[List.getElem?_append_right (by omega),hxl,Nat.sub_self] at hj;simp only[List.getElem?_cons_zero,Option.some.injEq] at hj;subst hj;refine⟨cs',hcl.trans hc,hz,fun i u hu=> ?_⟩;have:=hcc i (by have:=(List.getElem?_eq_some_iff.1 hu).1;omega);rw[hu,add_add',hc] at this;exact this
    obtain⟨xs,hxl,hxq,hx⟩:=pre len (Nat.le_refl _);subst hxl;exact⟨some a,cap,xs,rfl,hl,⟨rfl,by unfold maxLen at hm;omega,fun _=>⟨a,rfl,hx⟩⟩,hxq,Nat.le_trans (Nat.mul_le_mul_right _ (by omega)) hw1⟩
set_option maxRecDepth 100000 in
theorem trust_eachS:∀(fuel:Nat) (cs:List Value) (x:DataW H × List MemPlace),DataW.trod enc Try.prog w base spare held fuel 56 cs=some x→(∀v∈x.1.weights Try.prog 56,v≤reachBytes)→∃z:S56,k56.K w z cs∧BoundT z:=by
  intro fuel
  induction fuel using Nat.strongRecOn with
  |_ fuel ih=>
    intro cs x h hw;obtain⟨ys,n,rfl,hx,hl,hlen,hf⟩:=DataW.trod_struct Try.underlying56 h;obtain⟨a,b,c,rfl⟩:=list3 (hl.trans (by kernel_rfl));have hlen:ys.length=3:=hlen;obtain⟨y0,y1,y2,rfl⟩:∃y0 y1 y2,ys=[y0,y1,y2]:=by
      match ys,hlen with
      |[y0,y1,y2],_=>exact⟨y0,y1,y2,rfl⟩
    have h0:=hf 0 _ rfl;have h1:=hf 1 _ rfl;have h2:=hf 2 _ rfl;have h0:DataW.trod enc Try.prog w base spare held n 3 [a]=some y0:=h0;have h1:DataW.trod enc Try.prog w base spare held n 22 [b]=some y1:=h1;have h2:DataW.trod enc Try.prog w base spare held n 54 [c]=some y2:=h2;rw[hx] at hw;have hw1:∀v∈y1.1.weights Try.prog 22,v≤reachBytes:=fun v hv=>hw v (by
      simp only[DataW.weights,Try.underlying56];exact DataW.weights_mem_each (j:=1) (t:=22) (d:=y1.1) rfl rfl v hv)
    have hw2:∀v∈y2.1.weights Try.prog 54,v≤reachBytes:=fun v hv=>hw v (by
      simp only[DataW.weights,Try.underlying56];exact DataW.weights_mem_each (j:=2) (t:=54) (d:=y2.1) rfl rfl v hv)
    obtain⟨v,hv,_⟩:=DataW.trod_int Try.underlying3 h0;injection hv with hv;subst hv
    obtain⟨A1,c1,l1,hv1,hl1,hC1,_,hb1⟩:=row_openS (Q:=fun _=>True) (Kd.int .i64) Try.underlying22 (by kernel_rfl) (fun _ _ _ _ h _=>(int_each h).imp fun _ h=>⟨h,trivial⟩) h1 hw1;injection hv1 with hv1;subst hv1
    obtain⟨A2,c2,l2,hv2,hl2,hC2,hq2,_⟩:=row_openS (Q:=BoundT) k56 Try.underlying54 (by kernel_rfl) (fun m hm cs y h hw=>ih m (by omega) cs y h hw) h2 hw2;injection hv2 with hv2;subst hv2
    rw[show Try.prog.bytesOf 3=8 from by kernel_rfl] at hb1;exact⟨⟨v,l1,l2⟩,k56_mk w ⟨v,l1,l2⟩ hl1 hC1 hl2 hC2,.mk _ _ _ (by unfold reachBytes at hb1;omega) hq2⟩
set_option maxRecDepth 100000 in
theorem member_eachS (fuel:Nat) (cs:List Value) (x:DataW H × List MemPlace) (h:DataW.trod enc Try.prog w base spare held fuel 58 cs=some x) (hw:∀v∈x.1.weights Try.prog 58,v≤reachBytes):∃z:S58,k58.K w z cs∧BoundT z.f1:=by
  obtain⟨ys,n,rfl,hx,hl,hlen,hf⟩:=DataW.trod_struct Try.underlying58 h;obtain⟨a,b,c,d,rfl⟩:=list4 (hl.trans (by kernel_rfl));have hlen:ys.length=2:=hlen;obtain⟨y0,y1,rfl⟩:∃y0 y1,ys=[y0,y1]:=by
    match ys,hlen with
    |[y0,y1],_=>exact⟨y0,y1,rfl⟩
  have h0:=hf 0 _ rfl;have h1:=hf 1 _ rfl;have h0:DataW.trod enc Try.prog w base spare held n 4 [a]=some y0:=h0;have h1:DataW.trod enc Try.prog w base spare held n 56 [b,c,d]=some y1:=h1;rw[hx] at hw;have hw1:∀v∈y1.1.weights Try.prog 56,v≤reachBytes:=fun v hv=>hw v (by
    simp only[DataW.weights,Try.underlying58];exact DataW.weights_mem_each (j:=1) (t:=56) (d:=y1.1) rfl rfl v hv)
  obtain⟨v,rfl⟩:=bool_each h0;obtain⟨z,hz,hq⟩:=trust_eachS n _ _ h1 hw1;exact⟨⟨v,z⟩,⟨[.bool v],[b,c,d],rfl,rfl,hz⟩,hq⟩
set_option maxRecDepth 100000 in
theorem config_argS {b0:Nat} {v:Value} {d:DataW H} {p:List MemPlace} (hv:Value.okWide Try.prog w .any b0 25 v) (h:DataW.Trod enc Try.prog w base spare held 25 v d p) (hw:∀v∈d.weights Try.prog 25,v≤reachBytes):
    ∃(A:Option Addr) (c:Nat) (xs:List S58),v=.agg #[.slice A xs.length c]∧xs.length≤c∧k58.C w A xs.length xs∧∀m∈xs,BoundT m.f1:=by
  obtain⟨cs,rfl,hsz⟩:=okWide_struct Try.underlying25 hv;obtain⟨fuel,h⟩:=h;have h:DataW.trod enc Try.prog w base spare held fuel 25 cs.toList=some (d,p):=h;obtain⟨ys,n,rfl,hx,hl,hlen,hf⟩:=DataW.trod_struct Try.underlying25 h;obtain⟨a,ha⟩:=list1 (hl.trans (by kernel_rfl));rw[ha] at hf;have hlen:ys.length=1:=hlen;obtain⟨y0,rfl⟩:∃y0,ys=[y0]:=by
    match ys,hlen with
    |[y0],_=>exact⟨y0,rfl⟩
  have h0:=hf 0 _ rfl;have h0:DataW.trod enc Try.prog w base spare held n 23 [a]=some y0:=h0;injection hx with hx _
  rw[hx] at hw;have hw1:∀v∈y0.1.weights Try.prog 23,v≤reachBytes:=fun v hv=>hw v (by
    simp only[DataW.weights,Try.underlying25];exact DataW.weights_mem_each (j:=0) (t:=23) (d:=y0.1) rfl rfl v hv)
  obtain⟨A,c,xs,hv,hl,hC,hq,_⟩:=row_openS (Q:=fun m:S58=>BoundT m.f1) k58 Try.underlying23 (by kernel_rfl) (fun m _ cs y h hw=>member_eachS m cs y h hw) h0 hw1;injection hv with hv;subst hv
  exact⟨A,c,xs,by rw[show cs= #[Value.slice A xs.length c] from Array.ext' ha],hl,hC,hq⟩
end
end Go.Proofs.Ytkkbdimegpdbgaa.P
