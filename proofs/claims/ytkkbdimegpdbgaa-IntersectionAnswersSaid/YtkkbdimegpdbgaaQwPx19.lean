/- Walks: the calls answer as Lean functions say; conditions: each theorem's own. -/
import Derived.Test.YtkkbdimegpdbgaaQwPx0
namespace Go.Proofs.Ytkkbdimegpdbgaa.P
open Go.RowKit Go.Proofs.YtkkbdimegpdbgaaW.PrintWords Go.Proofs.YtkkbdimegpdbgaaW.PrintLast Go.Proofs.YtkkbdimegpdbgaaW.PrintMore
attribute [local go_sem] kK kM Qa Qb uV uU kN kL
set_option linter.unusedVariables false
set_option linter.unusedSimpArgs false
def vW.l0:Nat→List Int→List Int→Int→Int→Option (Bool)
 |0,_,_,_,_=>none
 |k+1,x0,x1,r,p=>if p<r then(if 0≤p then(if p<(x0.length:Int) then(if p<(x1.length:Int) then(if(rd x0 p)=(rd x1 p) then(vW.l0 k x0 x1 r (wrap64 (p+1))) else(some false)) else(none)) else(none)) else(none)) else(some true)
def vW.f (k:Nat) (l0:List Int) (l1:List Int):Option (Bool):=if(l0.length:Int)=(l1.length:Int) then(vW.l0 k l0 l1 (l0.length:Int) 0) else(some false)
set_option maxHeartbeats 8000000 in
set_option maxRecDepth 100000 in
theorem vW.calls (k:Nat) (A0:Option Addr) (c0:Nat) (l0:List Int) (A1:Option Addr) (c1:Nat) (l1:List Int) (r:Bool) (w:World) (M:Kd.C (Kd.int .i64) w A0 l0.length l0) (O:l0.length≤c0) (T:Kd.C (Kd.int .i64) w A1 l1.length l1) (U:l1.length≤c1) (h:vW.f k l0 l1=some r):
  Calls Try.prog 77 #[.slice A0 l0.length c0,.slice A1 l1.length c1] w fun e w'=>e=.returned (.bool r)∧Qs w w':=by
 have X:=qA.mk M;have aG:=qA.mk O;clear M O;have Y:=qA.mk T;have aH:=qA.mk U;clear T U;unfold vW.f at h;have H:=h;clear h;by_cases c3:(l0.length:Int)=(l1.length:Int)
 ·rw[if_pos c3] at H;obtain⟨Z,a7⟩:=eqT c3;have a8:(l0.length==l1.length)=true:=by first|simpa using c3|(simp at c3 ⊢;omega)
  clear c3;have H':=qA.mk H;clear H;go_enter Try.func77,Try.ntmps77;go_wp2;repeat(go_quiet (fail);try go_wp2)
  go_loopg [13] k (fun kq aC w'=>∃(p:Int),aC=.int .i64 p∧qA (vW.l0 kq l0 l1 (l0.length:Int) p=some r)∧qA (kq≤k)∧Qs w w');case atStart=>exact⟨(0),byaf,H',⟨Nat.le_refl _⟩,byam⟩
  case round=>
   clear H';obtain⟨p,rfl,HA,HK1,⟨m1,rfl⟩⟩:=hrel
   cases gk with
   |zero=>exact absurd HA.out (by simp[vW.l0])
   |succ k1=>
    have H:=HA.out;clear HA;simp only[vW.l0] at H;by_cases c4:p<(l0.length:Int)
    ·rw[if_pos c4] at H;have a9:=decide_eq_true c4;clear c4;by_cases c5:0≤p
     ·rw[if_pos c5] at H;have aD:=decide_eq_true c5;clear c5;by_cases c6:p<(l0.length:Int)
      ·rw[if_pos c6] at H;have aE:=decide_eq_true c6;clear c6;by_cases c7:p<(l1.length:Int)
       ·rw[if_pos c7] at H;have aF:=decide_eq_true c7;clear c7;by_cases c8:(rd l0 p)=(rd l1 p)
        ·rw[if_pos c8] at H;obtain⟨aA,aB⟩:=eqT c8;clear c8;have H':=qA.mk H;clear H;have s:0≤(p:Int):=of_decide_eq_true byag;have z:p<(l0.length:Int):=of_decide_eq_true byag;obtain⟨K,D,G⟩:=Kd.Qp X.out p s z
         cases D
         replace s:=eq_true s;replace z:=eq_true z;have A:0≤(p:Int):=of_decide_eq_true byag;have B:p<(l1.length:Int):=of_decide_eq_true byag;obtain⟨L,I,J⟩:=Kd.Qp Y.out p A B
         cases I
         replace A:=eq_true A;replace B:=eq_true B;go_wp2;repeat(go_quiet (fail);try go_wp2)
         go_roundg k1;case measure=>have:=HK1.out;omega
         case rel=>exact⟨(wrap64 (p+1)),byaf,H',⟨byai⟩,byam⟩
        ·rw[if_neg c8] at H;obtain⟨aA,aB⟩:=eqF c8;obtain rfl:=Option.some.inj H;have s:0≤(p:Int):=of_decide_eq_true byag;have z:p<(l0.length:Int):=of_decide_eq_true byag;obtain⟨K,D,G⟩:=Kd.Qp X.out p s z
         cases D
         replace s:=eq_true s;replace z:=eq_true z;have A:0≤(p:Int):=of_decide_eq_true byag;have B:p<(l1.length:Int):=of_decide_eq_true byag;obtain⟨L,I,J⟩:=Kd.Qp Y.out p A B
         cases I
         replace A:=eq_true A;replace B:=eq_true B;go_wp2;repeat(go_quiet (fail);try go_wp2)
         go_ret;exact⟨byaf,byam⟩
       ·rw[if_neg c7] at H;exact absurd H (by simp)
      ·rw[if_neg c6] at H;exact absurd H (by simp)
     ·rw[if_neg c5] at H;exact absurd H (by simp)
    ·rw[if_neg c4] at H;have a9:=decide_eq_false c4;clear c4;obtain rfl:=Option.some.inj H;go_wp2;repeat(go_quiet (fail);try go_wp2)
     go_ret;exact⟨byaf,byam⟩
 ·rw[if_neg c3] at H;obtain⟨Z,a7⟩:=eqF c3;have a8:(l0.length==l1.length)=false:=by first|simpa using c3|(simp at c3 ⊢;omega)
  obtain rfl:=Option.some.inj H;go_enter Try.func77,Try.ntmps77;go_wp2;repeat(go_quiet (fail);try go_wp2)
  go_ret;exact⟨byaf,byam⟩
end Go.Proofs.Ytkkbdimegpdbgaa.P
