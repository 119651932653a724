/- Functions of the program as Lean functions, and the walks that show that the calls answer so; written by a program of this session (a changed print) and by hand. -/
import Derived.Test.YtoofabolcbbjnaaProg
import Derived.Below
import Derived.Deep.Draws
import Derived.Deep.AppendLies
import Derived.Maps.AppendAt
import Derived.OwnWalk
import Derived.Laws.BytesArg
import Derived.Laws.MakeOwn
import Derived.Laws.OwnMore
import Derived.Deep.OwnRows
import Derived.Tactics
import Derived.Lib.ConvBytes
import Derived.Laws.Slices
import Derived.WalkKit
import Derived.KernelRfl
import Derived.RowKit3
import Derived.Deep.LoopGhost
import Derived.Deep.QuietTactic
import Derived.BigQuiet
import Derived.WideLaws
import Derived.Deep.DeepCutAuto
import Derived.Deep.CutBlock
import Derived.Deep.RegionHeld3
import Derived.Laws.Rows
import Derived.Lib.AppendStr
import Derived.ArgAppend
import Derived.Laws.IdiomCopy
import Derived.OrdersHeld
import Derived.Laws.BitsLemmas
import Derived.RowKit
import Derived.Test.YtoofabolcbbjnaaQrWWords
import Derived.Test.YtoofabolcbbjnaaQrWLast
import Derived.Test.YtoofabolcbbjnaaQrWTab
import Derived.Test.YtoofabolcbbjnaaQrWFour
import Derived.Test.YtoofabolcbbjnaaQrWQPut
import Derived.Test.YtoofabolcbbjnaaQrWApart
import Derived.Test.YtoofabolcbbjnaaQrWArr
import Derived.Test.YtoofabolcbbjnaaQrWZeros
import Derived.Test.YtoofabolcbbjnaaQrWFoot
import Derived.Test.YtoofabolcbbjnaaQrWKept
import Derived.Test.YtoofabolcbbjnaaQrWShare
import Derived.Test.YtoofabolcbbjnaaQrWN
import Derived.Test.YtoofabolcbbjnaaQrWFootNe
import Derived.Test.YtoofabolcbbjnaaQrWAt
import Derived.Test.YtoofabolcbbjnaaQrWEqStruct
import Derived.Test.YtoofabolcbbjnaaQrWRepsOne
import Derived.Test.YtoofabolcbbjnaaQrWInv
import Derived.Test.YtoofabolcbbjnaaQrWInvWords
import Derived.Test.YtoofabolcbbjnaaQrWGuard
import Derived.Test.YtoofabolcbbjnaaQrWNEv
import Derived.Test.YtoofabolcbbjnaaQrWMore
namespace Go.Proofs.Ytoofabolcbbjnaa.P
open Go.RowKit Go.Proofs.YtoofabolcbbjnaaW.PrintWords Go.Proofs.YtoofabolcbbjnaaW.PrintLast Go.Proofs.YtoofabolcbbjnaaW.PrintMore
attribute [local go_sem] kH kJ kQ kR uS uR kF kG
set_option linter.unusedVariables false
set_option linter.unusedSimpArgs false
def errW : Option Int→Value
 | none=>.nilIface
 | some c=>.iface 0 (.int .i64 c)
theorem zK : errW none = .nilIface:=rfl
theorem zJ (c : Int) : errW (some c) = .iface 0 (.int .i64 c):=rfl
theorem info3 : (Try.prog.info? 3).map (fun i=>(i.zero,i.size,i.bytes)) = some (some (.int .i64 0),1,8):=by kernel_rfl
theorem info49 : (Try.prog.info? 49).map (fun i=>(i.zero,i.size,i.bytes)) = some (some (.agg #[(.int .i64 0),(.slice none 0 0),(.slice none 0 0)]),3,56):=by kernel_rfl
theorem info51 : (Try.prog.info? 51).map (fun i=>(i.zero,i.size,i.bytes)) = some (some (.agg #[(.bool false),(.int .i64 0),(.slice none 0 0),(.slice none 0 0)]),4,64):=by kernel_rfl
structure S49 where
 f0 : Int
 f1 : (List Int)
 f2 : (List S49)
def z49 : S49:=⟨(0 : Int),([] : List Int),([] : List S49)⟩
def F49 (d : Kd S49) : Kd S49:=Kd.iso (Kd.pair (Kd.int .i64) (Kd.pair (Kd.slice 3 (Kd.int .i64)) (Kd.slice 49 d))) (fun x : S49=>(x.f0,x.f1,x.f2))
theorem mono49 : Kd.Mono F49:=Kd.mono_iso _ (Kd.mono_pair (Kd.mono_const _) (Kd.mono_pair (Kd.mono_const _) (Kd.mono_slice 49 Kd.mono_id)))
theorem sub49 : Kd.Sub F49 [3,49]:=Kd.sub_iso _ (Kd.sub_pair (Kd.sub_const _ (by decide)) (Kd.sub_pair (Kd.sub_const _ (by decide)) (Kd.sub_slice 49 (by decide) Kd.sub_id)))
theorem sz49 : ∀ n,(Kd.upto F49 3 [3,49] n).sz = 3:=Kd.upto_sz (fun _=>rfl)
def k49 : Kd S49:=Kd.fix F49 3 [3,49] sz49 (Kd.upto_E sub49)
theorem k49_open {w : World} {x : S49} {cs : List Value} (h : k49.K w x cs) : ∃ A1 c1 A2 c2,cs = [.int .i64 x.f0,.slice A1 x.f1.length c1,.slice A2 x.f2.length c2]∧x.f1.length ≤ c1∧(Kd.int .i64).C w A1 x.f1.length x.f1∧x.f2.length ≤ c2∧k49.C w A2 x.f2.length x.f2:=by
 obtain ⟨n,h⟩:=h
 cases n with
 | zero=>exact h.elim
 | succ n =>
  obtain ⟨_,_,rfl,rfl,⟨_,_,rfl,⟨A1,c1,rfl,l1,g1⟩,⟨A2,c2,rfl,l2,g2⟩⟩⟩:=h
  exact ⟨A1,c1,A2,c2,rfl,l1,g1,l2,Kd.fix_C g2⟩
theorem k49_openM {w : World} {base : Nat} {ok : Nat→Prop} {x : S49} {cs : List Value} (h : k49.M w base ok x cs) : ∃ v1 v2,cs = [.int .i64 x.f0,v1,v2]∧(Kd.int .i64).R 3 w base ok v1 x.f1∧k49.R 49 w base ok v2 x.f2:=by
 obtain ⟨n,h⟩:=h
 cases n with
 | zero=>exact h.elim
 | succ n =>
  obtain ⟨_,_,rfl,rfl,⟨_,_,rfl,⟨v1,rfl,g1⟩,⟨v2,rfl,g2⟩⟩⟩:=h
  exact ⟨v1,v2,rfl,g1,Kd.fix_R g2⟩
theorem k49_mk (w : World) (x : S49) {A1 : Option Addr} {c1 : Nat} (l1 : x.f1.length ≤ c1) (g1 : (Kd.int .i64).C w A1 x.f1.length x.f1) {A2 : Option Addr} {c2 : Nat} (l2 : x.f2.length ≤ c2) (g2 : k49.C w A2 x.f2.length x.f2) : k49.K w x [.int .i64 x.f0,.slice A1 x.f1.length c1,.slice A2 x.f2.length c2]:=by
 obtain ⟨n2,q2⟩:=Kd.fix_C_back mono49 g2
 have r2:=Kd.upto_C_le mono49 sz49 (show n2 ≤ n2 by omega) q2
 exact ⟨n2 + 1,⟨[.int .i64 x.f0],[.slice A1 x.f1.length c1,.slice A2 x.f2.length c2],rfl,rfl,⟨[.slice A1 x.f1.length c1],[.slice A2 x.f2.length c2],rfl,⟨A1,c1,rfl,l1,g1⟩,⟨A2,c2,rfl,l2,r2⟩⟩⟩⟩
theorem k49_mkM (w : World) (base : Nat) (ok : Nat→Prop) (x : S49) {v1 : Value} (g1 : (Kd.int .i64).R 3 w base ok v1 x.f1) {v2 : Value} (g2 : k49.R 49 w base ok v2 x.f2) : k49.M w base ok x [.int .i64 x.f0,v1,v2]:=by
 obtain ⟨n2,q2⟩:=Kd.fix_R_back mono49 g2
 have r2:=Kd.upto_R_le mono49 sz49 (show n2 ≤ n2 by omega) q2
 exact ⟨n2 + 1,⟨[.int .i64 x.f0],[v1,v2],rfl,rfl,⟨[v1],[v2],rfl,⟨v1,rfl,g1⟩,⟨v2,rfl,r2⟩⟩⟩⟩
def jI (xs : List S49) (i : Int) : S49:=xs.getD i.toNat z49
theorem at_T49 {w : World} {A : Option Addr} {n : Nat} {xs : List S49} (h : Kd.C k49 w A n xs) (i : Int) (h0 : 0 ≤ i) (h1 : i < n) : ∃ ad A1 c1 A2 c2,A = some ad∧w.cell? (ad.add (i.toNat * 3)) = some (.int .i64 (jI xs i).f0)∧w.cell? ⟨(ad.add (i.toNat * 3)).block,(ad.add (i.toNat * 3)).off + 1,none⟩ = some (.slice A1 (jI xs i).f1.length c1)∧w.cell? ⟨(ad.add (i.toNat * 3)).block,(ad.add (i.toNat * 3)).off + 2,none⟩ = some (.slice A2 (jI xs i).f2.length c2)∧(jI xs i).f1.length ≤ c1∧(Kd.int .i64).C w A1 (jI xs i).f1.length (jI xs i).f1∧(jI xs i).f2.length ≤ c2∧k49.C w A2 (jI xs i).f2.length (jI xs i).f2:=by
 obtain ⟨ad,c,e,_,hK,hc0⟩:=Kd.C_get h z49 i h0 h1
 have hc : ∀ j u,c[j]? = some u→w.cell? (ad.add (i.toNat * 3 + j)) = some u:=hc0
 obtain ⟨A1,c1,A2,c2,rfl,l1,g1,l2,g2⟩:=k49_open hK
 exact ⟨ad,A1,c1,A2,c2,e,hc 0 _ rfl,by rw [← uC _ _ 1 (by omega)];exact hc 1 _ rfl,by rw [← uC _ _ 2 (by omega)];exact hc 2 _ rfl,l1,g1,l2,g2⟩
structure S51 where
 f0 : Bool
 f1 : S49
def z51 : S51:=⟨false,z49⟩
def k51 : Kd S51:=Kd.iso (Kd.pair Kd.bool k49) (fun x : S51=>(x.f0,x.f1))
theorem k51_open {w : World} {x : S51} {cs : List Value} (h : k51.K w x cs) : ∃ A2 c2 A3 c3,cs = [.bool x.f0,.int .i64 x.f1.f0,.slice A2 x.f1.f1.length c2,.slice A3 x.f1.f2.length c3]∧x.f1.f1.length ≤ c2∧(Kd.int .i64).C w A2 x.f1.f1.length x.f1.f1∧x.f1.f2.length ≤ c3∧k49.C w A3 x.f1.f2.length x.f1.f2:=by
 obtain ⟨_,_,rfl,rfl,s1⟩:=h
 obtain ⟨A2,c2,A3,c3,rfl,l2,g2,l3,g3⟩:=k49_open s1
 exact ⟨A2,c2,A3,c3,rfl,l2,g2,l3,g3⟩
theorem k51_mk (w : World) (x : S51) {A2 : Option Addr} {c2 : Nat} (l2 : x.f1.f1.length ≤ c2) (g2 : (Kd.int .i64).C w A2 x.f1.f1.length x.f1.f1) {A3 : Option Addr} {c3 : Nat} (l3 : x.f1.f2.length ≤ c3) (g3 : k49.C w A3 x.f1.f2.length x.f1.f2) : k51.K w x [.bool x.f0,.int .i64 x.f1.f0,.slice A2 x.f1.f1.length c2,.slice A3 x.f1.f2.length c3]:=⟨[.bool x.f0],[.int .i64 x.f1.f0,.slice A2 x.f1.f1.length c2,.slice A3 x.f1.f2.length c3],rfl,rfl,(k49_mk w x.f1 l2 g2 l3 g3)⟩
theorem k51_mkM (w : World) (base : Nat) (ok : Nat→Prop) (x : S51) {v2 : Value} (g2 : (Kd.int .i64).R 3 w base ok v2 x.f1.f1) {v3 : Value} (g3 : k49.R 49 w base ok v3 x.f1.f2) : k51.M w base ok x [.bool x.f0,.int .i64 x.f1.f0,v2,v3]:=⟨[.bool x.f0],[.int .i64 x.f1.f0,v2,v3],rfl,rfl,(k49_mkM w base ok x.f1 g2 g3)⟩
theorem k51_openF {W : World} {ok : Nat→Prop} {x : S51} {cs : List Value} (h : Kd.FK k51 W ok x cs) : ∃ A2 c2 A3 c3,cs = [.bool x.f0,.int .i64 x.f1.f0,.slice A2 x.f1.f1.length c2,.slice A3 x.f1.f2.length c3]∧x.f1.f1.length ≤ c2∧Kd.F (Kd.int .i64) W ok A2 x.f1.f1.length x.f1.f1∧x.f1.f2.length ≤ c3∧Kd.F k49 W ok A3 x.f1.f2.length x.f1.f2:=by
 obtain ⟨A2,c2,A3,c3,rfl,l2,_,l3,_⟩:=k51_open (Kd.FK_now h)
 exact ⟨A2,c2,A3,c3,rfl,l2,(fun W' hW=>by obtain ⟨A2_,c2_,A3_,c3_,he,l2_,g2_,l3_,g3_⟩:=k51_open (h W' hW);injection (Option.some.inj (show some (Value.slice A2 x.f1.f1.length c2) = some (Value.slice A2_ x.f1.f1.length c2_) from congrArg (fun l=>l[2]?) he)) with ha_ _ _;rw [ha_];exact g2_),l3,(fun W' hW=>by obtain ⟨A2_,c2_,A3_,c3_,he,l2_,g2_,l3_,g3_⟩:=k51_open (h W' hW);injection (Option.some.inj (show some (Value.slice A3 x.f1.f2.length c3) = some (Value.slice A3_ x.f1.f2.length c3_) from congrArg (fun l=>l[3]?) he)) with ha_ _ _;rw [ha_];exact g3_)⟩
theorem k51_mkF (W : World) (ok : Nat→Prop) (x : S51) {A2 : Option Addr} {c2 : Nat} (l2 : x.f1.f1.length ≤ c2) (g2 : Kd.F (Kd.int .i64) W ok A2 x.f1.f1.length x.f1.f1) {A3 : Option Addr} {c3 : Nat} (l3 : x.f1.f2.length ≤ c3) (g3 : Kd.F k49 W ok A3 x.f1.f2.length x.f1.f2) : Kd.FK k51 W ok x [.bool x.f0,.int .i64 x.f1.f0,.slice A2 x.f1.f1.length c2,.slice A3 x.f1.f2.length c3]:=fun W2 hW=>k51_mk W2 x l2 (g2 W2 hW) l3 (g3 W2 hW)
def jO (xs : List S51) (i : Int) : S51:=xs.getD i.toNat z51
theorem at_T51 {w : World} {A : Option Addr} {n : Nat} {xs : List S51} (h : Kd.C k51 w A n xs) (i : Int) (h0 : 0 ≤ i) (h1 : i < n) : ∃ ad A2 c2 A3 c3,A = some ad∧w.cell? (ad.add (i.toNat * 4)) = some (.bool (jO xs i).f0)∧w.cell? ⟨(ad.add (i.toNat * 4)).block,(ad.add (i.toNat * 4)).off + 1,none⟩ = some (.int .i64 (jO xs i).f1.f0)∧w.cell? ⟨(ad.add (i.toNat * 4)).block,(ad.add (i.toNat * 4)).off + 2,none⟩ = some (.slice A2 (jO xs i).f1.f1.length c2)∧w.cell? ⟨(ad.add (i.toNat * 4)).block,(ad.add (i.toNat * 4)).off + 3,none⟩ = some (.slice A3 (jO xs i).f1.f2.length c3)∧(jO xs i).f1.f1.length ≤ c2∧(Kd.int .i64).C w A2 (jO xs i).f1.f1.length (jO xs i).f1.f1∧(jO xs i).f1.f2.length ≤ c3∧k49.C w A3 (jO xs i).f1.f2.length (jO xs i).f1.f2:=by
 obtain ⟨ad,c,e,_,hK,hc0⟩:=Kd.C_get h z51 i h0 h1
 have hc : ∀ j u,c[j]? = some u→w.cell? (ad.add (i.toNat * 4 + j)) = some u:=hc0
 obtain ⟨A2,c2,A3,c3,rfl,l2,g2,l3,g3⟩:=k51_open hK
 exact ⟨ad,A2,c2,A3,c3,e,hc 0 _ rfl,by rw [← uC _ _ 1 (by omega)];exact hc 1 _ rfl,by rw [← uC _ _ 2 (by omega)];exact hc 2 _ rfl,by rw [← uC _ _ 3 (by omega)];exact hc 3 _ rfl,l2,g2,l3,g3⟩
end Go.Proofs.Ytoofabolcbbjnaa.P
