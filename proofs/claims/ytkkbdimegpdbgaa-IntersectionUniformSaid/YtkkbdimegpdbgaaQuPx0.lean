/- Functions of the program as Lean functions, and the walks that show that the calls answer so; written by a program of this session (a changed print) and by hand. -/
import Derived.Test.YtkkbdimegpdbgaaProg
import Derived.Below
import Derived.Deep.Draws
import Derived.Deep.AppendLies
import Derived.Maps.AppendAt
import Derived.OwnWalk
import Derived.Laws.BytesArg
import Derived.Laws.MakeOwn
import Derived.Laws.OwnMore
import Derived.Deep.OwnRows
import Derived.Tactics
import Derived.Lib.ConvBytes
import Derived.Laws.Slices
import Derived.WalkKit
import Derived.KernelRfl
import Derived.RowKit3
import Derived.Deep.LoopGhost
import Derived.Deep.QuietTactic
import Derived.BigQuiet
import Derived.WideLaws
import Derived.Deep.DeepCutAuto
import Derived.Deep.CutBlock
import Derived.Deep.RegionHeld3
import Derived.Laws.Rows
import Derived.Lib.AppendStr
import Derived.ArgAppend
import Derived.Laws.IdiomCopy
import Derived.OrdersHeld
import Derived.Laws.BitsLemmas
import Derived.RowKit
import Derived.Test.YtkkbdimegpdbgaaQuWWords
import Derived.Test.YtkkbdimegpdbgaaQuWLast
import Derived.Test.YtkkbdimegpdbgaaQuWTab
import Derived.Test.YtkkbdimegpdbgaaQuWFour
import Derived.Test.YtkkbdimegpdbgaaQuWQPut
import Derived.Test.YtkkbdimegpdbgaaQuWApart
import Derived.Test.YtkkbdimegpdbgaaQuWArr
import Derived.Test.YtkkbdimegpdbgaaQuWZeros
import Derived.Test.YtkkbdimegpdbgaaQuWFoot
import Derived.Test.YtkkbdimegpdbgaaQuWKept
import Derived.Test.YtkkbdimegpdbgaaQuWShare
import Derived.Test.YtkkbdimegpdbgaaQuWN
import Derived.Test.YtkkbdimegpdbgaaQuWFootNe
import Derived.Test.YtkkbdimegpdbgaaQuWAt
import Derived.Test.YtkkbdimegpdbgaaQuWEqStruct
import Derived.Test.YtkkbdimegpdbgaaQuWRepsOne
import Derived.Test.YtkkbdimegpdbgaaQuWInv
import Derived.Test.YtkkbdimegpdbgaaQuWInvWords
import Derived.Test.YtkkbdimegpdbgaaQuWGuard
import Derived.Test.YtkkbdimegpdbgaaQuWNEv
import Derived.Test.YtkkbdimegpdbgaaQuWMore
namespace Go.Proofs.Ytkkbdimegpdbgaa.P
open Go.RowKit Go.Proofs.YtkkbdimegpdbgaaW.PrintWords Go.Proofs.YtkkbdimegpdbgaaW.PrintLast Go.Proofs.YtkkbdimegpdbgaaW.PrintMore
attribute [local go_sem] vE vB vO vP j4 j3 vC vF
set_option linter.unusedVariables false
set_option linter.unusedSimpArgs false
def errW : Option Int→Value
 | none=>.nilIface
 | some c=>.iface 0 (.int .i64 c)
theorem qQ : errW none = .nilIface:=rfl
theorem qP (c : Int) : errW (some c) = .iface 0 (.int .i64 c):=rfl
theorem info3 : (Try.prog.info? 3).map (fun i=>(i.zero,i.size,i.bytes)) = some (some (.int .i64 0),1,8):=by kernel_rfl
theorem info58 : (Try.prog.info? 58).map (fun i=>(i.zero,i.size,i.bytes)) = some (some (.agg #[(.bool false),(.int .i64 0),(.slice none 0 0),(.slice none 0 0)]),4,64):=by kernel_rfl
structure S56 where
 f0 : Int
 f1 : (List Int)
 f2 : (List S56)
def z56 : S56:=⟨(0 : Int),([] : List Int),([] : List S56)⟩
def F56 (d : Kd S56) : Kd S56:=Kd.iso (Kd.pair (Kd.int .i64) (Kd.pair (Kd.slice 3 (Kd.int .i64)) (Kd.slice 56 d))) (fun x : S56=>(x.f0,x.f1,x.f2))
theorem mono56 : Kd.Mono F56:=Kd.mono_iso _ (Kd.mono_pair (Kd.mono_const _) (Kd.mono_pair (Kd.mono_const _) (Kd.mono_slice 56 Kd.mono_id)))
theorem sub56 : Kd.Sub F56 [3,56]:=Kd.sub_iso _ (Kd.sub_pair (Kd.sub_const _ (by decide)) (Kd.sub_pair (Kd.sub_const _ (by decide)) (Kd.sub_slice 56 (by decide) Kd.sub_id)))
theorem sz56 : ∀ n,(Kd.upto F56 3 [3,56] n).sz = 3:=Kd.upto_sz (fun _=>rfl)
def k56 : Kd S56:=Kd.fix F56 3 [3,56] sz56 (Kd.upto_E sub56)
theorem k56_open {w : World} {x : S56} {cs : List Value} (h : k56.K w x cs) : ∃ A1 c1 A2 c2,cs = [.int .i64 x.f0,.slice A1 x.f1.length c1,.slice A2 x.f2.length c2]∧x.f1.length ≤ c1∧(Kd.int .i64).C w A1 x.f1.length x.f1∧x.f2.length ≤ c2∧k56.C w A2 x.f2.length x.f2:=by
 obtain ⟨n,h⟩:=h
 cases n with
 | zero=>exact h.elim
 | succ n =>
  obtain ⟨_,_,rfl,rfl,⟨_,_,rfl,⟨A1,c1,rfl,l1,g1⟩,⟨A2,c2,rfl,l2,g2⟩⟩⟩:=h
  exact ⟨A1,c1,A2,c2,rfl,l1,g1,l2,Kd.fix_C g2⟩
theorem k56_mkM (w : World) (base : Nat) (ok : Nat→Prop) (x : S56) {v1 : Value} (g1 : (Kd.int .i64).R 3 w base ok v1 x.f1) {v2 : Value} (g2 : k56.R 56 w base ok v2 x.f2) : k56.M w base ok x [.int .i64 x.f0,v1,v2]:=by
 obtain ⟨n2,q2⟩:=Kd.fix_R_back mono56 g2
 have r2:=Kd.upto_R_le mono56 sz56 (show n2 ≤ n2 by omega) q2
 exact ⟨n2 + 1,⟨[.int .i64 x.f0],[v1,v2],rfl,rfl,⟨[v1],[v2],rfl,⟨v1,rfl,g1⟩,⟨v2,rfl,r2⟩⟩⟩⟩
def zS (xs : List S56) (i : Int) : S56:=xs.getD i.toNat z56
theorem at_T56 {w : World} {A : Option Addr} {n : Nat} {xs : List S56} (h : Kd.C k56 w A n xs) (i : Int) (h0 : 0 ≤ i) (h1 : i < n) : ∃ ad A1 c1 A2 c2,A = some ad∧w.cell? (ad.add (i.toNat * 3)) = some (.int .i64 (zS xs i).f0)∧w.cell? ⟨(ad.add (i.toNat * 3)).block,(ad.add (i.toNat * 3)).off + 1,none⟩ = some (.slice A1 (zS xs i).f1.length c1)∧w.cell? ⟨(ad.add (i.toNat * 3)).block,(ad.add (i.toNat * 3)).off + 2,none⟩ = some (.slice A2 (zS xs i).f2.length c2)∧(zS xs i).f1.length ≤ c1∧(Kd.int .i64).C w A1 (zS xs i).f1.length (zS xs i).f1∧(zS xs i).f2.length ≤ c2∧k56.C w A2 (zS xs i).f2.length (zS xs i).f2:=by
 obtain ⟨ad,c,e,_,hK,hc0⟩:=Kd.C_get h z56 i h0 h1
 have hc : ∀ j u,c[j]? = some u→w.cell? (ad.add (i.toNat * 3 + j)) = some u:=hc0
 obtain ⟨A1,c1,A2,c2,rfl,l1,g1,l2,g2⟩:=k56_open hK
 exact ⟨ad,A1,c1,A2,c2,e,hc 0 _ rfl,by rw [← add_field _ _ 1 (by omega)];exact hc 1 _ rfl,by rw [← add_field _ _ 2 (by omega)];exact hc 2 _ rfl,l1,g1,l2,g2⟩
structure S58 where
 f0 : Bool
 f1 : S56
def z58 : S58:=⟨false,z56⟩
def k58 : Kd S58:=Kd.iso (Kd.pair Kd.bool k56) (fun x : S58=>(x.f0,x.f1))
theorem k58_open {w : World} {x : S58} {cs : List Value} (h : k58.K w x cs) : ∃ A2 c2 A3 c3,cs = [.bool x.f0,.int .i64 x.f1.f0,.slice A2 x.f1.f1.length c2,.slice A3 x.f1.f2.length c3]∧x.f1.f1.length ≤ c2∧(Kd.int .i64).C w A2 x.f1.f1.length x.f1.f1∧x.f1.f2.length ≤ c3∧k56.C w A3 x.f1.f2.length x.f1.f2:=by
 obtain ⟨_,_,rfl,rfl,s1⟩:=h
 obtain ⟨A2,c2,A3,c3,rfl,l2,g2,l3,g3⟩:=k56_open s1
 exact ⟨A2,c2,A3,c3,rfl,l2,g2,l3,g3⟩
theorem k58_mkM (w : World) (base : Nat) (ok : Nat→Prop) (x : S58) {v2 : Value} (g2 : (Kd.int .i64).R 3 w base ok v2 x.f1.f1) {v3 : Value} (g3 : k56.R 56 w base ok v3 x.f1.f2) : k58.M w base ok x [.bool x.f0,.int .i64 x.f1.f0,v2,v3]:=⟨[.bool x.f0],[.int .i64 x.f1.f0,v2,v3],rfl,rfl,(k56_mkM w base ok x.f1 g2 g3)⟩
def jF (xs : List S58) (i : Int) : S58:=xs.getD i.toNat z58
theorem at_T58 {w : World} {A : Option Addr} {n : Nat} {xs : List S58} (h : Kd.C k58 w A n xs) (i : Int) (h0 : 0 ≤ i) (h1 : i < n) : ∃ ad A2 c2 A3 c3,A = some ad∧w.cell? (ad.add (i.toNat * 4)) = some (.bool (jF xs i).f0)∧w.cell? ⟨(ad.add (i.toNat * 4)).block,(ad.add (i.toNat * 4)).off + 1,none⟩ = some (.int .i64 (jF xs i).f1.f0)∧w.cell? ⟨(ad.add (i.toNat * 4)).block,(ad.add (i.toNat * 4)).off + 2,none⟩ = some (.slice A2 (jF xs i).f1.f1.length c2)∧w.cell? ⟨(ad.add (i.toNat * 4)).block,(ad.add (i.toNat * 4)).off + 3,none⟩ = some (.slice A3 (jF xs i).f1.f2.length c3)∧(jF xs i).f1.f1.length ≤ c2∧(Kd.int .i64).C w A2 (jF xs i).f1.f1.length (jF xs i).f1.f1∧(jF xs i).f1.f2.length ≤ c3∧k56.C w A3 (jF xs i).f1.f2.length (jF xs i).f1.f2:=by
 obtain ⟨ad,c,e,_,hK,hc0⟩:=Kd.C_get h z58 i h0 h1
 have hc : ∀ j u,c[j]? = some u→w.cell? (ad.add (i.toNat * 4 + j)) = some u:=hc0
 obtain ⟨A2,c2,A3,c3,rfl,l2,g2,l3,g3⟩:=k58_open hK
 exact ⟨ad,A2,c2,A3,c3,e,hc 0 _ rfl,by rw [← add_field _ _ 1 (by omega)];exact hc 1 _ rfl,by rw [← add_field _ _ 2 (by omega)];exact hc 2 _ rfl,by rw [← add_field _ _ 3 (by omega)];exact hc 3 _ rfl,l2,g2,l3,g3⟩
structure S28 where
 f0 : Int
 f1 : Int
 f2 : (List S28)
def z28 : S28:=⟨(0 : Int),(0 : Int),([] : List S28)⟩
def F28 (d : Kd S28) : Kd S28:=Kd.iso (Kd.pair (Kd.int .i64) (Kd.pair (Kd.int .i64) (Kd.slice 28 d))) (fun x : S28=>(x.f0,x.f1,x.f2))
theorem mono28 : Kd.Mono F28:=Kd.mono_iso _ (Kd.mono_pair (Kd.mono_const _) (Kd.mono_pair (Kd.mono_const _) (Kd.mono_slice 28 Kd.mono_id)))
theorem sub28 : Kd.Sub F28 [28]:=Kd.sub_iso _ (Kd.sub_pair (Kd.sub_const _ (by decide)) (Kd.sub_pair (Kd.sub_const _ (by decide)) (Kd.sub_slice 28 (by decide) Kd.sub_id)))
theorem sz28 : ∀ n,(Kd.upto F28 3 [28] n).sz = 3:=Kd.upto_sz (fun _=>rfl)
def k28 : Kd S28:=Kd.fix F28 3 [28] sz28 (Kd.upto_E sub28)
theorem k28_open {w : World} {x : S28} {cs : List Value} (h : k28.K w x cs) : ∃ A2 c2,cs = [.int .i64 x.f0,.int .i64 x.f1,.slice A2 x.f2.length c2]∧x.f2.length ≤ c2∧k28.C w A2 x.f2.length x.f2:=by
 obtain ⟨n,h⟩:=h
 cases n with
 | zero=>exact h.elim
 | succ n =>
  obtain ⟨_,_,rfl,rfl,⟨_,_,rfl,rfl,⟨A2,c2,rfl,l2,g2⟩⟩⟩:=h
  exact ⟨A2,c2,rfl,l2,Kd.fix_C g2⟩
theorem k28_mk (w : World) (x : S28) {A2 : Option Addr} {c2 : Nat} (l2 : x.f2.length ≤ c2) (g2 : k28.C w A2 x.f2.length x.f2) : k28.K w x [.int .i64 x.f0,.int .i64 x.f1,.slice A2 x.f2.length c2]:=by
 obtain ⟨n2,q2⟩:=Kd.fix_C_back mono28 g2
 have r2:=Kd.upto_C_le mono28 sz28 (show n2 ≤ n2 by omega) q2
 exact ⟨n2 + 1,⟨[.int .i64 x.f0],[.int .i64 x.f1,.slice A2 x.f2.length c2],rfl,rfl,⟨[.int .i64 x.f1],[.slice A2 x.f2.length c2],rfl,rfl,⟨A2,c2,rfl,l2,r2⟩⟩⟩⟩
theorem k28_mkF (W : World) (ok : Nat→Prop) (x : S28) {A2 : Option Addr} {c2 : Nat} (l2 : x.f2.length ≤ c2) (g2 : Kd.F k28 W ok A2 x.f2.length x.f2) : Kd.FK k28 W ok x [.int .i64 x.f0,.int .i64 x.f1,.slice A2 x.f2.length c2]:=fun W2 hW=>k28_mk W2 x l2 (g2 W2 hW)
def jC (xs : List S28) (i : Int) : S28:=xs.getD i.toNat z28
theorem at_T28 {w : World} {A : Option Addr} {n : Nat} {xs : List S28} (h : Kd.C k28 w A n xs) (i : Int) (h0 : 0 ≤ i) (h1 : i < n) : ∃ ad A2 c2,A = some ad∧w.cell? (ad.add (i.toNat * 3)) = some (.int .i64 (jC xs i).f0)∧w.cell? ⟨(ad.add (i.toNat * 3)).block,(ad.add (i.toNat * 3)).off + 1,none⟩ = some (.int .i64 (jC xs i).f1)∧w.cell? ⟨(ad.add (i.toNat * 3)).block,(ad.add (i.toNat * 3)).off + 2,none⟩ = some (.slice A2 (jC xs i).f2.length c2)∧(jC xs i).f2.length ≤ c2∧k28.C w A2 (jC xs i).f2.length (jC xs i).f2:=by
 obtain ⟨ad,c,e,_,hK,hc0⟩:=Kd.C_get h z28 i h0 h1
 have hc : ∀ j u,c[j]? = some u→w.cell? (ad.add (i.toNat * 3 + j)) = some u:=hc0
 obtain ⟨A2,c2,rfl,l2,g2⟩:=k28_open hK
 exact ⟨ad,A2,c2,e,hc 0 _ rfl,by rw [← add_field _ _ 1 (by omega)];exact hc 1 _ rfl,by rw [← add_field _ _ 2 (by omega)];exact hc 2 _ rfl,l2,g2⟩
end Go.Proofs.Ytkkbdimegpdbgaa.P
