/- How an argument that is a trust, a member, a configuration or a search tree reads: out of the reading that the row gives, the row of the printed walks; conditions: none. -/
import Derived.Test.YtkkbdimegpdbgaaQwPx0
import Derived.ChangeArms
import Derived.DataReads
import Derived.WideShapes
namespace Go.Proofs.Ytkkbdimegpdbgaa.P
open Go.RowKit Go.Proofs.YtkkbdimegpdbgaaW.PrintWords Go.Proofs.YtkkbdimegpdbgaaW.PrintLast Go.Proofs.YtkkbdimegpdbgaaW.PrintMore
open Go.WideShapes
set_option linter.unusedVariables false
set_option linter.unusedSimpArgs false
section
variable {H : Type} {enc : TypeId × Value → H} {w : World} {base : Nat} {spare : Nat → Bool} {held : Bool}
theorem add_add' (a:Addr) (i j:Nat):(a.add i).add j=a.add (i+j):=by
  obtain⟨b,o,r⟩:=a;unfold Addr.add;by_cases hi:i=0
  · subst hi;simp
  · by_cases hj:j=0
    · subst hj;simp[hi]
    · simp[hi,hj,Nat.add_assoc]
theorem row_open {P:Program} {α:Type} (d:Kd α) {t e:TypeId} {fuel:Nat} {cs:List Value} {x:DataW H × List MemPlace} (ht:P.underlying t=some (.slice e)) (hc:P.cellsOf e=d.sz)
    (each:∀n,n<fuel→∀cs y,DataW.trod enc P w base spare held n e cs=some y→∃z:α,d.K w z cs)
    (h:DataW.trod enc P w base spare held fuel t cs=some x):
    ∃(A:Option Addr) (c:Nat) (xs:List α),cs=[.slice A xs.length c]∧xs.length≤c∧d.C w A xs.length xs:=by
  rcases DataW.trod_slice ht h with⟨rfl,_⟩|⟨a,len,cap,elems,rest,n,rfl,rfl,_,_,hl,hm,hlen,hel,_,_⟩
  · exact⟨none,0,[],rfl,Nat.le_refl _,Kd.C_nil d w⟩
  · have pre:∀m,m≤len→∃xs:List α,xs.length=m∧∀j p,xs[j]? =some p→∃c,c.length=d.sz∧d.K w p c∧∀i u,c[i]? =some u→w.cell? (a.add (j*d.sz+i))=some u:=by
      intro m
      induction m with
      |zero=>intro _;exact⟨[],rfl,fun j p h=>by simp at h⟩
      |succ m ih=>
        intro hm';obtain⟨xs,hxl,hx⟩:=ih (by omega);have h1:=hel m (by omega);rw[List.getElem?_eq_getElem (by omega),Option.bind_eq_some_iff] at h1;obtain⟨cs',hcs,ht'⟩:=h1;obtain⟨z,hz⟩:=each n (Nat.lt_succ_self _) cs' _ ht';obtain⟨_,hcl,hcc⟩:=World.cells?_some hcs;refine⟨xs++[z],by simp[hxl],fun j p hj=> ?_⟩;by_cases e:j<xs.length
        · rw[List.getElem?_append_left e] at hj;exact hx j p hj
        · have he:j=m:=by have:=(List.getElem?_eq_some_iff.1 hj).1;simp at this;omega
          subst he;rw[List.getElem?_append_right (by omega),hxl,Nat.sub_self] at hj;simp only[List.getElem?_cons_zero,Option.some.injEq] at hj;subst hj;refine⟨cs',hcl.trans hc,hz,fun i u hu=> ?_⟩;have:=hcc i (by have:=(List.getElem?_eq_some_iff.1 hu).1;omega);rw[hu,add_add',hc] at this;exact this
    obtain⟨xs,hxl,hx⟩:=pre len (Nat.le_refl _);subst hxl;exact⟨some a,cap,xs,rfl,hl,rfl,by unfold maxLen at hm;omega,fun _=>⟨a,rfl,hx⟩⟩
theorem int_each {n:Nat} {cs:List Value} {y:DataW H × List MemPlace} (h:DataW.trod enc Try.prog w base spare held n 3 cs=some y):∃z:Int,(Kd.int .i64).K w z cs:=by
  obtain⟨m,rfl,_⟩:=DataW.trod_int Try.underlying3 h;exact⟨m,rfl⟩
theorem get_some {α:Type} {l:List α} {i n:Nat} (hl:l.length=n) (h:i<n):∃y,l[i]? =some y:=⟨_,List.getElem?_eq_getElem (hl ▸ h)⟩
theorem list3 {l:List Value} (h:l.length=3):∃a b c,l=[a,b,c]:=by
  match l,h with
  |[a,b,c],_=>exact⟨a,b,c,rfl⟩
theorem list4 {l:List Value} (h:l.length=4):∃a b c d,l=[a,b,c,d]:=by
  match l,h with
  |[a,b,c,d],_=>exact⟨a,b,c,d,rfl⟩
theorem list1 {l:List Value} (h:l.length=1):∃a,l=[a]:=by
  match l,h with
  |[a],_=>exact⟨a,rfl⟩
set_option maxRecDepth 100000 in
theorem bool_each {n:Nat} {a:Value} {y:DataW H × List MemPlace} (h:DataW.trod enc Try.prog w base spare held n 4 [a]=some y):∃b:Bool,a=.bool b:=by
  cases n with
  |zero=>simp[DataW.trod] at h
  |succ n=>
    unfold DataW.trod at h;rw[Try.underlying4] at h;split at h <;> simp_all
end
section
variable {H : Type} {enc : TypeId × Value → H} {w : World} {base : Nat} {spare : Nat → Bool} {held : Bool}
set_option maxRecDepth 100000 in
theorem trace_each:∀(fuel:Nat) (cs:List Value) (x:DataW H × List MemPlace),DataW.trod enc Try.prog w base spare held fuel 28 cs=some x→∃z:S28,k28.K w z cs:=by
  intro fuel
  induction fuel using Nat.strongRecOn with
  |_ fuel ih=>
    intro cs x h;obtain⟨ys,n,rfl,_,hl,hlen,hf⟩:=DataW.trod_struct Try.underlying28 h;obtain⟨a,b,c,rfl⟩:=list3 (hl.trans (by kernel_rfl));have hlen:ys.length=3:=hlen;obtain⟨y0,e0⟩:=get_some hlen (show 0<3 by decide);obtain⟨y1,e1⟩:=get_some hlen (show 1<3 by decide);obtain⟨y2,e2⟩:=get_some hlen (show 2<3 by decide);have h0:=hf 0 _ rfl;have h1:=hf 1 _ rfl;have h2:=hf 2 _ rfl;rw[e0] at h0;rw[e1] at h1;rw[e2] at h2;have h0:DataW.trod enc Try.prog w base spare held n 3 [a]=some y0:=h0;have h1:DataW.trod enc Try.prog w base spare held n 3 [b]=some y1:=h1;have h2:DataW.trod enc Try.prog w base spare held n 26 [c]=some y2:=h2;obtain⟨v,hv,_⟩:=DataW.trod_int Try.underlying3 h0;injection hv with hv;subst hv
    obtain⟨u,hu,_⟩:=DataW.trod_int Try.underlying3 h1;injection hu with hu;subst hu
    obtain⟨A2,c2,l2,hv2,hl2,hC2⟩:=row_open k28 Try.underlying26 (by kernel_rfl) (fun m hm cs y h=>ih m (by omega) cs y h) h2;injection hv2 with hv2;subst hv2
    exact⟨⟨v,u,l2⟩,k28_mk w ⟨v,u,l2⟩ hl2 hC2⟩
set_option maxRecDepth 100000 in
theorem trace_arg {b0:Nat} {v:Value} {d:DataW H} {p:List MemPlace} (hv:Value.okWide Try.prog w .any b0 28 v) (h:DataW.Trod enc Try.prog w base spare held 28 v d p):
    ∃(x:S28) (A:Option Addr) (c:Nat),v=.agg #[.int .i64 x.f0,.int .i64 x.f1,.slice A x.f2.length c]∧x.f2.length≤c∧k28.C w A x.f2.length x.f2:=by
  obtain⟨cs,rfl,hsz⟩:=okWide_struct Try.underlying28 hv;obtain⟨fuel,h⟩:=h;have h:DataW.trod enc Try.prog w base spare held fuel 28 cs.toList=some (d,p):=h;obtain⟨x,hx⟩:=trace_each fuel _ _ h;obtain⟨A,c,he,hl,hC⟩:=k28_open hx;exact⟨x,A,c,by rw[show cs= #[.int .i64 x.f0,.int .i64 x.f1,.slice A x.f2.length c] from Array.ext' he],hl,hC⟩
theorem heap28:Kd.Heap k28:=Kd.heap_fix (fun d hd=>Kd.heap_iso _ (Kd.heap_pair (Kd.heap_int _) (Kd.heap_pair (Kd.heap_int _) (Kd.heap_slice 28 hd))))
end
theorem heap56:Kd.Heap k56:=Kd.heap_fix (fun d hd=>Kd.heap_iso _ (Kd.heap_pair (Kd.heap_int _) (Kd.heap_pair (Kd.heap_slice 3 (Kd.heap_int _)) (Kd.heap_slice 56 hd))))
theorem heap58:Kd.Heap k58:=Kd.heap_iso _ (Kd.heap_pair Kd.heap_bool heap56)
end Go.Proofs.Ytkkbdimegpdbgaa.P
