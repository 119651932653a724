import Derived.Test.YtkkbdimegpdbgaaQwPx0
namespace Go.Proofs.Ytkkbdimegpdbgaa.P
open Go.RowKit Go.Proofs.YtkkbdimegpdbgaaW.PrintWords Go.Proofs.YtkkbdimegpdbgaaW.PrintLast Go.Proofs.YtkkbdimegpdbgaaW.PrintMore
set_option linter.unusedVariables false
set_option linter.unusedSimpArgs false
def badNode (k:Int):Bool:= !decide (0≤k)|| !decide (k<10)
theorem level1.calls (k:Int) (w:World):Calls Try.prog 89 #[.int .i64 k] w fun e w'=>e=.returned (.bool (badNode k))∧w'=w:=by
  have hnode:∀w:World,Calls Try.prog 84 #[.int .i64 k] w fun e w'=>e=.returned (.bool (decide (0≤k)&&decide (k<10)))∧w'=w:=by
    intro w;go_enter Try.func84,Try.ntmps84;by_cases h0:0≤k
    · have h0':decide (0≤k)=true:=decide_eq_true h0;go_wp2;go_ret;exact⟨by simp[h0],rfl⟩
    · have h0':decide (0≤k)=false:=decide_eq_false h0;go_wp2;go_ret;exact⟨by simp[h0],rfl⟩
  go_enter Try.func89,Try.ntmps89;go_wp2_with (go_at_call 84;refine(hnode _).mono ?_;rintro e w' ⟨rfl,rfl⟩);go_ret;exact⟨rfl,rfl⟩
theorem level1.is (k:Int) (b:Bool) (h:badNode k=b) (w:World):Calls Try.prog 89 #[.int .i64 k] w fun e w'=>e=.returned (.bool b)∧w=w':=by
  subst h;exact(level1.calls k w).mono fun _ _ h=>⟨h.1,h.2.symm⟩
set_option maxHeartbeats 1000000 in
theorem indexBad.calls (A0:Option Addr) (c0:Nat) (l0:List Int) (w:World) (hr0:Kd.C (Kd.int .i64) w A0 l0.length l0):
    Calls Try.prog 94 #[.slice A0 l0.length c0,.func (.func 89) #[] #[]] w fun e w'=>∃i:Int,e=.returned (.int .i64 i)∧decide (i≥0)=l0.any badNode∧w=w':=by
  have hmax:l0.length≤9223372036854775807:=hr0.2.1;have HR:=qA.mk hr0;clear hr0;go_enter Try.func94,Try.ntmps94;go_wp2;go_loop [5,8] (fun _ v8=>∃j:Nat,j≤l0.length∧v8=.int .i64 j∧qA (∀i,i<j→badNode (l0.getD i 0)=false)) (fun _ v8=>l0.length - (intOf v8).toNat);case atStart=>exact⟨0,Nat.zero_le _,rfl,⟨fun i hi=>absurd hi (by omega)⟩⟩
  case round=>
    obtain⟨j,hj,rfl,HB⟩:=hrel;by_cases hlt:j<l0.length
    · obtain⟨ad,e,hx⟩:=Kd.Qp HR.out (j:Int) (by omega) (by omega)
      cases e
      rw[Int.toNat_natCast] at hx;obtain⟨x,Hx⟩:∃x,qA (l0.getD j 0=x):=⟨_,⟨rfl⟩⟩;have hrd:rd l0 (j:Int)=x:=by rw[← Hx.out];unfold rd;rw[Int.toNat_natCast]
      rw[hrd] at hx;clear hrd
      cases hbad:badNode x with
      |true=>
        have HBad:=qA.mk hbad;clear hbad;go_wp2_with (go_at_call 89;refine(level1.is _ _ HBad.out _).mono ?_;rintro e w' ⟨rfl,rfl⟩);go_ret;refine⟨_,rfl, ?_,rfl⟩;have hany:l0.any badNode=true:=List.any_eq_true.2 ⟨x,by rw[← Hx.out,List.getD_eq_getElem?_getD,List.getElem?_eq_getElem hlt];exact List.getElem_mem hlt,HBad.out⟩;rw[hany];exact decide_eq_true (by omega)
      |false=>
        have HBad:=qA.mk hbad;clear hbad;go_wp2_with (go_at_call 89;refine(level1.is _ _ HBad.out _).mono ?_;rintro e w' ⟨rfl,rfl⟩);go_round;case rel=>
          refine⟨j+1,by omega,by go_num,⟨fun i hi=> ?_⟩⟩;by_cases e:i=j
          · rw[e,Hx.out];exact HBad.out
          · exact HB.out i (by omega)
        case measure=>simp[intOf];omega
    · go_wp2;go_ret;refine⟨_,rfl, ?_,rfl⟩;have hany:l0.any badNode=false:=by
        rw[Bool.eq_false_iff];intro h;obtain⟨y,hy,hb⟩:=List.any_eq_true.1 h;obtain⟨i,hi,rfl⟩:=List.getElem_of_mem hy;have:=HB.out i (by omega);rw[List.getD_eq_getElem?_getD,List.getElem?_eq_getElem hi] at this;simp only[Option.getD_some] at this;rw[hb] at this;cases this
      rw[hany];rfl
def threshold_bad.f (l0:List Int):Option Bool:=some (l0.any badNode)
theorem threshold_bad.calls (A0:Option Addr) (c0:Nat) (l0:List Int) (r:Bool) (w:World) (hr0:Kd.C (Kd.int .i64) w A0 l0.length l0) (hc0:l0.length≤c0) (h:threshold_bad.f l0=some r):
    Calls Try.prog 88 #[.slice A0 l0.length c0,.func (.func 89) #[] #[]] w fun e w'=>e=.returned (.bool r)∧Qs w w':=by
  have HR:=qA.mk hr0;clear hr0 hc0;have H:=qA.mk (Option.some.inj h);clear h;go_enter Try.func88,Try.ntmps88;go_wp2_with (go_at_call 94;refine(indexBad.calls _ _ _ _ HR.out).mono ?_;rintro e w' ⟨i,rfl,h,rfl⟩;have HI:=qA.mk (h.trans H.out);clear h);go_ret;exact⟨by rw[← HI.out];rfl,Qs.refl _⟩
end Go.Proofs.Ytkkbdimegpdbgaa.P
