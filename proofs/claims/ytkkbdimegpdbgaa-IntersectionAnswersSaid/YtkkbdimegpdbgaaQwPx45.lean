/- Walks: the calls answer as Lean functions say; conditions: each theorem's own. -/
import Derived.Test.YtkkbdimegpdbgaaQwPx0
namespace Go.Proofs.Ytkkbdimegpdbgaa.P
open Go.RowKit Go.Proofs.YtkkbdimegpdbgaaW.PrintWords Go.Proofs.YtkkbdimegpdbgaaW.PrintLast Go.Proofs.YtkkbdimegpdbgaaW.PrintMore
attribute [local go_sem] kK kM Qa Qb uV uU kN kL
set_option linter.unusedVariables false
set_option linter.unusedSimpArgs false
structure S25 where
 f0:(List S58)
def z25:S25:=⟨([]:List S58)⟩
def k25:Kd S25:=Kd.iso (Kd.slice 58 k58) (fun x:S25=>x.f0)
theorem k25_open {w:World} {x:S25} {cs:List Value} (h:k25.K w x cs):∃A0 c0,cs=[.slice A0 x.f0.length c0]∧x.f0.length≤c0∧k58.C w A0 x.f0.length x.f0:=by
 obtain⟨A0,c0,rfl,l0,g0⟩:=h;exact⟨A0,c0,rfl,l0,g0⟩
theorem k25_mk (w:World) (x:S25) {A0:Option Addr} {c0:Nat} (l0:x.f0.length≤c0) (g0:k58.C w A0 x.f0.length x.f0):k25.K w x [.slice A0 x.f0.length c0]:=⟨A0,c0,rfl,l0,g0⟩
theorem k25_openF {W:World} {ok:Nat→Prop} {x:S25} {cs:List Value} (h:Kd.FK k25 W ok x cs):∃A0 c0,cs=[.slice A0 x.f0.length c0]∧x.f0.length≤c0∧Kd.F k58 W ok A0 x.f0.length x.f0:=by
 obtain⟨A0,c0,rfl,l0,_⟩:=k25_open (Kd.Ji h);exact⟨A0,c0,rfl,l0,(fun W' hW=>by obtain⟨p,r,he,z,s⟩:=k25_open (h W' hW);injection(Option.some.inj (show some (Value.slice A0 x.f0.length c0)=some (Value.slice p x.f0.length r) from congrArg (fun l=>l[0]?) he)) with ha_ _ _;rw[ha_];exact s)⟩
theorem k25_mkF (W:World) (ok:Nat→Prop) (x:S25) {A0:Option Addr} {c0:Nat} (l0:x.f0.length≤c0) (g0:Kd.F k58 W ok A0 x.f0.length x.f0):Kd.FK k25 W ok x [.slice A0 x.f0.length c0]:=fun W2 hW=>k25_mk W2 x l0 (g0 W2 hW)
def rd_T25 (xs:List S25) (i:Int):S25:=xs.getD i.toNat z25
theorem at_T25 {w:World} {A:Option Addr} {n:Nat} {xs:List S25} (h:Kd.C k25 w A n xs) (i:Int) (h0:0≤i) (h1:i<n):∃ad A0 c0,A=some ad∧w.cell? (ad.add i.toNat)=some (.slice A0 (rd_T25 xs i).f0.length c0)∧(rd_T25 xs i).f0.length≤c0∧k58.C w A0 (rd_T25 xs i).f0.length (rd_T25 xs i).f0:=by
 obtain⟨ad,c,e,_,hK,p⟩:=Kd.C_get h z25 i h0 h1;have hc:∀j u,c[j]? =some u→w.cell? (ad.add (i.toNat*1+j))=some u:=p;obtain⟨A0,c0,rfl,l0,g0⟩:=k25_open hK;exact⟨ad,A0,c0,e,by have hq:=hc 0 _ rfl;rwa [Nat.mul_one,Nat.add_zero] at hq,l0,g0⟩
end Go.Proofs.Ytkkbdimegpdbgaa.P
