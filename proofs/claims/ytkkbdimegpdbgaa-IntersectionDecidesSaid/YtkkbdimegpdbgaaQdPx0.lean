/- Functions of the program as Lean functions, and the walks that show that the calls answer so; written by a program of this session (a changed print) and by hand. -/
import Derived.Test.YtkkbdimegpdbgaaProg
import Derived.Below
import Derived.Deep.Draws
import Derived.Deep.AppendLies
import Derived.Maps.AppendAt
import Derived.OwnWalk
import Derived.Laws.BytesArg
import Derived.Laws.MakeOwn
import Derived.Laws.OwnMore
import Derived.Deep.OwnRows
import Derived.Tactics
import Derived.Lib.ConvBytes
import Derived.Laws.Slices
import Derived.WalkKit
import Derived.KernelRfl
import Derived.RowKit3
import Derived.Deep.LoopGhost
import Derived.Deep.QuietTactic
import Derived.BigQuiet
import Derived.WideLaws
import Derived.Deep.DeepCutAuto
import Derived.Deep.CutBlock
import Derived.Deep.RegionHeld3
import Derived.Laws.Rows
import Derived.Lib.AppendStr
import Derived.ArgAppend
import Derived.Laws.IdiomCopy
import Derived.OrdersHeld
import Derived.Laws.BitsLemmas
import Derived.RowKit
import Derived.Test.YtkkbdimegpdbgaaQdWWords
import Derived.Test.YtkkbdimegpdbgaaQdWLast
import Derived.Test.YtkkbdimegpdbgaaQdWTab
import Derived.Test.YtkkbdimegpdbgaaQdWFour
import Derived.Test.YtkkbdimegpdbgaaQdWQPut
import Derived.Test.YtkkbdimegpdbgaaQdWApart
import Derived.Test.YtkkbdimegpdbgaaQdWArr
import Derived.Test.YtkkbdimegpdbgaaQdWZeros
import Derived.Test.YtkkbdimegpdbgaaQdWFoot
import Derived.Test.YtkkbdimegpdbgaaQdWKept
import Derived.Test.YtkkbdimegpdbgaaQdWShare
import Derived.Test.YtkkbdimegpdbgaaQdWN
import Derived.Test.YtkkbdimegpdbgaaQdWFootNe
import Derived.Test.YtkkbdimegpdbgaaQdWAt
import Derived.Test.YtkkbdimegpdbgaaQdWEqStruct
import Derived.Test.YtkkbdimegpdbgaaQdWRepsOne
import Derived.Test.YtkkbdimegpdbgaaQdWInv
import Derived.Test.YtkkbdimegpdbgaaQdWInvWords
import Derived.Test.YtkkbdimegpdbgaaQdWGuard
import Derived.Test.YtkkbdimegpdbgaaQdWNEv
import Derived.Test.YtkkbdimegpdbgaaQdWMore
namespace Go.Proofs.Ytkkbdimegpdbgaa.P
open Go.RowKit Go.Proofs.YtkkbdimegpdbgaaW.PrintWords Go.Proofs.YtkkbdimegpdbgaaW.PrintLast Go.Proofs.YtkkbdimegpdbgaaW.PrintMore
attribute [local go_sem] uH uI uQ uR vW vV uF uG
set_option linter.unusedVariables false
set_option linter.unusedSimpArgs false
theorem byaa {P : Prop} (h : P:=by first|(go_simp;done)|(go_simp;rfl)) : P:=h
theorem byab {P : Prop} (h : P:=by repeat (first|(with_reducible first|exact HB.out|apply vN|apply vM|apply jY)|exact HB.out)) : P:=h
theorem byac {P : Prop} (h : P:=by first|rfl|(simp [vD,vC]<;>rfl)|(simp [*,vD,vC]<;>rfl)) : P:=h
theorem byad {P Q0 : Prop} (a0 : Q0) (h : Q0→P:=by intro a0_;repeat (first|(with_reducible first|exact HB.out|apply vN|apply vM|apply jY|refine vT ?_ a0_)|exact HB.out)) : P:=h a0
theorem byae {P : Prop} (h : P:=by first|rfl|(simp;done)|(simp [*];done)) : P:=h
theorem byaf {P Q0 : Prop} (a0 : Q0) (h : Q0→P:=by intro a0_;(with_reducible repeat (first|refine qG ?_ _|refine qJ ?_|refine qF ?_ _));exact a0_) : P:=h a0
theorem byag {P : Prop} (h : P:=by first|(with_reducible assumption)|assumption) : P:=h
theorem byah {P : Prop} (h : P:=by (try simp only [List.map_toArray,List.map_cons,List.map_nil]);first|done|rfl|(simp only [List.length_drop,List.length_take];rfl)|(simp only [List.length_nil,Int.natCast_zero,Int.zero_add,Int.ofNat_zero];rfl)) : P:=h
theorem byai {P : Prop} (h : P:=by have:=HK1.out;omega) : P:=h
theorem byaj {P Q0 Q1 : Prop} (a0 : Q0) (a1 : Q1) (h : Q0→Q1→P:=by intro a0_ a1_;repeat (first|(with_reducible first|exact HB.out|apply vN|apply vM|apply jY|refine vT ?_ a0_|refine vT ?_ a1_)|exact HB.out)) : P:=h a0 a1
theorem byak {P Q0 Q1 : Prop} (a0 : Q0) (a1 : Q1) (h : Q0→Q1→P:=by intro a0_ a1_;(with_reducible repeat (first|refine qG ?_ _|refine qJ ?_|refine qF ?_ _));refine kI ?_ a0_ _;(with_reducible repeat (first|refine qG ?_ _|refine qJ ?_|refine qF ?_ _));refine kI ?_ a0_ _;(with_reducible repeat (first|refine qG ?_ _|refine qJ ?_|refine qF ?_ _));refine kI ?_ a0_ _;(with_reducible repeat (first|refine qG ?_ _|refine qJ ?_|refine qF ?_ _));exact a1_) : P:=h a0 a1
theorem byal {P : Prop} (h : P:=by first|rfl|(simp;done)|(simp only [← hji8]<;>(first|rfl|simp))|(simp [*];done)) : P:=h
theorem byam {P : Prop} (h : P:=by repeat (first|exact uC.refl _|apply uC.step)) : P:=h
theorem byan {P : Prop} (h : P:=by have:=HK1.out;first|omega|exact Nat.le_refl _) : P:=h
theorem byao {P : Prop} (h : P:=by first|rfl|(simp;done)|(simp only [← hji11]<;>(first|rfl|simp))|(simp [*];done)) : P:=h
theorem byap {P : Prop} (h : P:=by first|omega|exact Nat.le_refl _) : P:=h
theorem byaq {P Q0 : Prop} (a0 : Q0) (h : Q0→P:=by intro a0_;repeat (first|exact (Kd.vK a0_ HB.out)|(with_reducible refine Kd.C_alloc ?_ _)|(with_reducible refine Kd.C_drewN ?_ _)|(with_reducible refine Kd.C_drew ?_))) : P:=h a0
theorem byar {P : Prop} (h : P:=by have:=HK1.out;have:=HK2.out;omega) : P:=h
theorem byas {P : Prop} (h : P:=by first|rfl|(simp [vD,vC]<;>rfl)|(simp only [← hji8];first|rfl|(simp [vD,vC]<;>rfl))|(simp [*,vD,vC]<;>rfl)) : P:=h
theorem byat {P Q0 Q1 : Prop} (a0 : Q0) (a1 : Q1) (h : Q0→Q1→P:=by intro a0_ a1_;(with_reducible repeat (first|refine qG ?_ _|refine qJ ?_|refine qF ?_ _));refine kI ?_ a0_ _;(with_reducible repeat (first|refine qG ?_ _|refine qJ ?_|refine qF ?_ _));refine kI ?_ a0_ _;(with_reducible repeat (first|refine qG ?_ _|refine qJ ?_|refine qF ?_ _));refine kI ?_ a0_ _;(with_reducible repeat (first|refine qG ?_ _|refine qJ ?_|refine qF ?_ _));refine kI ?_ a0_ _;(with_reducible repeat (first|refine qG ?_ _|refine qJ ?_|refine qF ?_ _));exact a1_) : P:=h a0 a1
theorem byau {P : Prop} (h : P:=by first|exact Kd.R_nil _ _ _ _ _|exact Kd.N_nil _ _ _ _ _|exact Kd.V_nil _ _ _ _ _|exact Kd.Q_nil _ _ _ _ _|exact Kd.S_nil _ _ _ _ _) : P:=h
theorem byav {P Q0 : Prop} (a0 : Q0) (h : Q0→P:=by intro a0_;(with_reducible repeat (first|apply Kd.jI|apply Kd.jJ|apply Kd.jM));exact a0_) : P:=h a0
theorem byaw {P : Prop} (h : P:=by (try simp only [List.map_toArray,List.map_cons,List.map_nil]);first|done|(simp only [hji27];rfl)|rfl|(simp only [List.length_drop,List.length_take];rfl)) : P:=h
theorem byax {P Q0 : Prop} (a0 : Q0) (h : Q0→P:=by intro a0_;(with_reducible repeat (first|apply Kd.N_alloc|apply Kd.N_drewN|apply Kd.N_drew));exact a0_) : P:=h a0
theorem byay {P Q0 : Prop} (a0 : Q0) (h : Q0→P:=by intro a0_;(with_reducible repeat (first|refine qG ?_ _|refine qJ ?_|refine qF ?_ _));refine zJ (cs:=#[.int .i64 0,.int .i64 0,.slice none 0 0]) ?_ 2 _ rfl;(with_reducible repeat (first|refine qG ?_ _|refine qJ ?_|refine qF ?_ _));refine zJ (cs:=#[.int .i64 0,.int .i64 0,.slice none 0 0]) ?_ 1 _ rfl;(with_reducible repeat (first|refine qG ?_ _|refine qJ ?_|refine qF ?_ _));refine zJ (cs:=#[.int .i64 0,.int .i64 0,.slice none 0 0]) ?_ 0 _ rfl;(with_reducible repeat (first|refine qG ?_ _|refine qJ ?_|refine qF ?_ _));exact a0_) : P:=h a0
theorem byaz {P : Prop} (h : P:=by (try simp only [List.map_toArray,List.map_cons,List.map_nil]);first|done|(simp only [hji44];rfl)|rfl|(simp only [List.length_drop,List.length_take];rfl)) : P:=h
theorem byba {P : Prop} (h : P:=by first|rfl|(simp [vD,vC]<;>rfl)|(simp only [← hji44];first|rfl|(simp [vD,vC]<;>rfl))|(simp [*,vD,vC]<;>rfl)) : P:=h
theorem bybb {P Q0 Q1 : Prop} (a0 : Q0) (a1 : Q1) (h : Q0→Q1→P:=by intro a0_ a1_;(with_reducible repeat (first|refine qG ?_ _|refine qJ ?_|refine qF ?_ _));refine kI ?_ a0_ _;(with_reducible repeat (first|refine qG ?_ _|refine qJ ?_|refine qF ?_ _));exact a1_) : P:=h a0 a1
theorem bybc {P Q0 Q1 Q2 : Prop} (a0 : Q0) (a1 : Q1) (a2 : Q2) (h : Q0→Q1→Q2→P:=by intro a0_ a1_ a2_;repeat (first|(with_reducible first|exact HB.out|apply vN|apply vM|apply jY|refine vT ?_ a0_|refine vT ?_ a1_|refine vT ?_ a2_)|exact HB.out)) : P:=h a0 a1 a2
theorem bybd {P Q0 : Prop} (a0 : Q0) (h : Q0→P:=by intro a0_;(with_reducible repeat (first|refine qG ?_ _|refine qJ ?_|refine qF ?_ _));refine zJ (cs:=#[.slice none 0 0]) ?_ 0 _ rfl;(with_reducible repeat (first|refine qG ?_ _|refine qJ ?_|refine qF ?_ _));exact a0_) : P:=h a0
theorem bybe {P Q0 : Prop} (a0 : Q0) (h : Q0→P:=by intro a0_;repeat (first|exact (Kd.kQ a0_).2.2|(with_reducible refine Kd.C_alloc ?_ _)|(with_reducible refine Kd.C_drewN ?_ _)|(with_reducible refine Kd.C_drew ?_))) : P:=h a0
theorem bybf {P Q0 : Prop} (a0 : Q0) (h : Q0→P:=by intro a0_;repeat (first|(with_reducible first|exact a0_|apply qD.alloc|apply qD.drewN|apply qD.drew|apply qD.jR)|exact a0_)) : P:=h a0
theorem bybg {P Q0 : Prop} (a0 : Q0) (h : Q0→P:=by intro a0_;repeat (first|(with_reducible first|exact HB.out|apply vN|apply vM|apply jY|refine vT ?_ (qD.ge a0_))|exact HB.out)) : P:=h a0
theorem bybh {P : Prop} (h : P:=by repeat (first|(with_reducible first|exact HK.out|apply qK.set_|apply keep_drewN|apply kM|apply keep_alloc)|exact HK.out)) : P:=h
theorem bybi {P Q0 Q1 : Prop} (a0 : Q0) (a1 : Q1) (h : Q0→Q1→P:=by intro a0_ a1_;repeat (first|(with_reducible first|exact a0_|apply qD.alloc|apply qD.drewN|apply qD.drew|apply qD.jR|refine qD.far ?_ a1_ _)|exact a0_)) : P:=h a0 a1
theorem bybj {P Q0 : Prop} (a0 : Q0) (h : Q0→P:=by intro a0_;repeat (first|(with_reducible first|exact HK.out|apply qK.set_|apply keep_drewN|apply kM|apply keep_alloc|refine keep_far ?_ a0_ _)|exact HK.out)) : P:=h a0
theorem bybk {P Q0 Q1 : Prop} (a0 : Q0) (a1 : Q1) (h : Q0→Q1→P:=by intro a0_ a1_;repeat (first|(with_reducible first|exact HB.out|apply vN|apply vM|apply jY|refine vT ?_ (qD.ge a0_)|refine vT ?_ a1_)|exact HB.out)) : P:=h a0 a1
theorem bybl {P Q0 Q1 Q2 : Prop} (a0 : Q0) (a1 : Q1) (a2 : Q2) (h : Q0→Q1→Q2→P:=by intro a0_ a1_ a2_;repeat (first|(with_reducible first|exact a0_|apply qD.alloc|apply qD.drewN|apply qD.drew|apply qD.jR|refine qD.far ?_ a1_ _|refine qD.far ?_ a2_ _)|exact a0_)) : P:=h a0 a1 a2
theorem bybm {P Q0 Q1 Q2 : Prop} (a0 : Q0) (a1 : Q1) (a2 : Q2) (h : Q0→Q1→Q2→P:=by intro a0_ a1_ a2_;repeat (first|(with_reducible first|exact HB.out|apply vN|apply vM|apply jY|refine vT ?_ (qD.ge a0_)|refine vT ?_ a1_|refine vT ?_ a2_)|exact HB.out)) : P:=h a0 a1 a2
theorem bybn {P Q0 Q1 : Prop} (a0 : Q0) (a1 : Q1) (h : Q0→Q1→P:=by intro a0_ a1_;repeat (first|(with_reducible first|exact HK.out|apply qK.set_|apply keep_drewN|apply kM|apply keep_alloc|refine keep_far ?_ a0_ _|refine keep_far ?_ a1_ _)|exact HK.out)) : P:=h a0 a1
theorem bybo {P Q0 : Prop} (a0 : Q0) (h : Q0→P:=by intro a0_;repeat (first|exact (Kd.vX a0_).2.2|(with_reducible refine Kd.C_alloc ?_ _)|(with_reducible refine Kd.C_drewN ?_ _)|(with_reducible refine Kd.C_drew ?_))) : P:=h a0
theorem bybp {P Q0 : Prop} (a0 : Q0) (h : Q0→P:=by intro a0_;exact (Kd.vX a0_).2.1) : P:=h a0
theorem bybq {P : Prop} (h : P:=by first|rfl|(simp [vD,vC]<;>rfl)|(simp only [← hji5];first|rfl|(simp [vD,vC]<;>rfl))|(simp [*,vD,vC]<;>rfl)) : P:=h
theorem bybr {P Q0 Q1 Q2 Q3 : Prop} (a0 : Q0) (a1 : Q1) (a2 : Q2) (a3 : Q3) (h : Q0→Q1→Q2→Q3→P:=by intro a0_ a1_ a2_ a3_;repeat (first|(with_reducible first|exact a0_|apply qD.alloc|apply qD.drewN|apply qD.drew|apply qD.jR|refine qD.far ?_ a1_ _|refine qD.far ?_ a2_ _|refine qD.far ?_ a3_ _)|exact a0_)) : P:=h a0 a1 a2 a3
theorem bybs {P Q0 Q1 Q2 Q3 : Prop} (a0 : Q0) (a1 : Q1) (a2 : Q2) (a3 : Q3) (h : Q0→Q1→Q2→Q3→P:=by intro a0_ a1_ a2_ a3_;repeat (first|(with_reducible first|exact HB.out|apply vN|apply vM|apply jY|refine vT ?_ (qD.ge a0_)|refine vT ?_ a1_|refine vT ?_ a2_|refine vT ?_ a3_)|exact HB.out)) : P:=h a0 a1 a2 a3
theorem bybt {P Q0 Q1 Q2 : Prop} (a0 : Q0) (a1 : Q1) (a2 : Q2) (h : Q0→Q1→Q2→P:=by intro a0_ a1_ a2_;repeat (first|(with_reducible first|exact HK.out|apply qK.set_|apply keep_drewN|apply kM|apply keep_alloc|refine keep_far ?_ a0_ _|refine keep_far ?_ a1_ _|refine keep_far ?_ a2_ _)|exact HK.out)) : P:=h a0 a1 a2
theorem bybu {P Q0 : Prop} (a0 : Q0) (h : Q0→P:=by intro a0_;(with_reducible repeat (first|apply Kd.jI|apply Kd.jJ|apply Kd.jM));exact Kd.zG a0_ (fun _ hk=>⟨hk.1.2,⟨hk.2,hk.1.1.2⟩⟩)) : P:=h a0
theorem bybv {P Q0 : Prop} (a0 : Q0) (h : Q0→P:=by intro a0_;(with_reducible repeat (first|apply Kd.jI|apply Kd.jJ|apply Kd.jM));exact Kd.zG a0_ (fun _ hk=>hk.1.1.2)) : P:=h a0
theorem bybw {P : Prop} (h : P:=by have:=HJ5.out;first|omega|exact Nat.le_refl _) : P:=h
theorem bybx {P : Prop} (h : P:=by have:=HJ5.out;have:=HJ19.out;have:=HK3.out;have:=HK4.out;omega) : P:=h
theorem byby {P : Prop} (h : P:=by rw [hg];exact (j3 (byab))) : P:=h
theorem bybz {P Q0 : Prop} (a0 : Q0) (h : Q0→P:=by intro a0_;rw [hg];exact (j3 (byad a0_))) : P:=h a0
theorem byca {P Q0 Q1 : Prop} (a0 : Q0) (a1 : Q1) (h : Q0→Q1→P:=by intro a0_ a1_;repeat (first|exact (Kd.vK a0_ (byad a1_))|(with_reducible refine Kd.C_alloc ?_ _)|(with_reducible refine Kd.C_drewN ?_ _)|(with_reducible refine Kd.C_drew ?_))) : P:=h a0 a1
theorem bycb {P : Prop} (h : P:=by rw [hg];exact (j3 (by repeat (first|(with_reducible first|exact HBW.out|apply vN|apply vM|apply jY)|exact HBW.out)))) : P:=h
theorem bycc {P : Prop} (h : P:=by rw [hg];exact (jV (w:=w) (g:=g) (row:=none) (bybh))) : P:=h
theorem bycd {P Q0 : Prop} (a0 : Q0) (h : Q0→P:=by intro a0_;rw [hg];exact (jV (w:=w) (g:=g) (row:=none) (bybj a0_))) : P:=h a0
theorem byce {P Q0 Q1 : Prop} (a0 : Q0) (a1 : Q1) (h : Q0→Q1→P:=by intro a0_ a1_;rw [hg];exact (jV (w:=w) (g:=g) (row:=none) (bybn a0_ a1_))) : P:=h a0 a1
def errW : Option Int→Value
 | none=>.nilIface
 | some c=>.iface 0 (.int .i64 c)
theorem vD : errW none = .nilIface:=rfl
theorem vC (c : Int) : errW (some c) = .iface 0 (.int .i64 c):=rfl
theorem info3 : (Try.prog.info? 3).map (fun i=>(i.zero,i.size,i.bytes)) = some (some (.int .i64 0),1,8):=by kernel_rfl
theorem info56 : (Try.prog.info? 56).map (fun i=>(i.zero,i.size,i.bytes)) = some (some (.agg #[(.int .i64 0),(.slice none 0 0),(.slice none 0 0)]),3,56):=by kernel_rfl
theorem info58 : (Try.prog.info? 58).map (fun i=>(i.zero,i.size,i.bytes)) = some (some (.agg #[(.bool false),(.int .i64 0),(.slice none 0 0),(.slice none 0 0)]),4,64):=by kernel_rfl
structure S56 where
 f0 : Int
 f1 : (List Int)
 f2 : (List S56)
def z56 : S56:=⟨(0 : Int),([] : List Int),([] : List S56)⟩
def F56 (d : Kd S56) : Kd S56:=Kd.iso (Kd.pair (Kd.int .i64) (Kd.pair (Kd.slice 3 (Kd.int .i64)) (Kd.slice 56 d))) (fun x : S56=>(x.f0,x.f1,x.f2))
theorem mono56 : Kd.Mono F56:=Kd.mono_iso _ (Kd.mono_pair (Kd.mono_const _) (Kd.mono_pair (Kd.mono_const _) (Kd.mono_slice 56 Kd.mono_id)))
theorem sub56 : Kd.Sub F56 [3,56]:=Kd.sub_iso _ (Kd.sub_pair (Kd.sub_const _ (by decide)) (Kd.sub_pair (Kd.sub_const _ (by decide)) (Kd.sub_slice 56 (by decide) Kd.sub_id)))
theorem sz56 : ∀ n,(Kd.upto F56 3 [3,56] n).sz = 3:=Kd.upto_sz (fun _=>rfl)
def k56 : Kd S56:=Kd.fix F56 3 [3,56] sz56 (Kd.upto_E sub56)
theorem k56_open {w : World} {x : S56} {cs : List Value} (h : k56.K w x cs) : ∃ A1 c1 A2 c2,cs = [.int .i64 x.f0,.slice A1 x.f1.length c1,.slice A2 x.f2.length c2]∧x.f1.length ≤ c1∧(Kd.int .i64).C w A1 x.f1.length x.f1∧x.f2.length ≤ c2∧k56.C w A2 x.f2.length x.f2:=by
 obtain ⟨n,h⟩:=h
 cases n with
 | zero=>exact h.elim
 | succ n =>
  obtain ⟨_,_,rfl,rfl,⟨_,_,rfl,⟨A1,c1,rfl,l1,g1⟩,⟨A2,c2,rfl,l2,g2⟩⟩⟩:=h
  exact ⟨A1,c1,A2,c2,rfl,l1,g1,l2,Kd.fix_C g2⟩
theorem k56_openM {w : World} {base : Nat} {ok : Nat→Prop} {x : S56} {cs : List Value} (h : k56.M w base ok x cs) : ∃ v1 v2,cs = [.int .i64 x.f0,v1,v2]∧(Kd.int .i64).R 3 w base ok v1 x.f1∧k56.R 56 w base ok v2 x.f2:=by
 obtain ⟨n,h⟩:=h
 cases n with
 | zero=>exact h.elim
 | succ n =>
  obtain ⟨_,_,rfl,rfl,⟨_,_,rfl,⟨v1,rfl,g1⟩,⟨v2,rfl,g2⟩⟩⟩:=h
  exact ⟨v1,v2,rfl,g1,Kd.fix_R g2⟩
theorem k56_mkM (w : World) (base : Nat) (ok : Nat→Prop) (x : S56) {v1 : Value} (g1 : (Kd.int .i64).R 3 w base ok v1 x.f1) {v2 : Value} (g2 : k56.R 56 w base ok v2 x.f2) : k56.M w base ok x [.int .i64 x.f0,v1,v2]:=by
 obtain ⟨n2,q2⟩:=Kd.fix_R_back mono56 g2
 have r2:=Kd.upto_R_le mono56 sz56 (show n2 ≤ n2 by omega) q2
 exact ⟨n2 + 1,⟨[.int .i64 x.f0],[v1,v2],rfl,rfl,⟨[v1],[v2],rfl,⟨v1,rfl,g1⟩,⟨v2,rfl,r2⟩⟩⟩⟩
def qX (xs : List S56) (i : Int) : S56:=xs.getD i.toNat z56
theorem kW {w : World} {A : Option Addr} {n : Nat} {xs : List S56} (h : Kd.C k56 w A n xs) (i : Int) (h0 : 0 ≤ i) (h1 : i < n) : ∃ ad A1 c1 A2 c2,A = some ad∧w.cell? (ad.add (i.toNat * 3)) = some (.int .i64 (qX xs i).f0)∧w.cell? ⟨(ad.add (i.toNat * 3)).block,(ad.add (i.toNat * 3)).off + 1,none⟩ = some (.slice A1 (qX xs i).f1.length c1)∧w.cell? ⟨(ad.add (i.toNat * 3)).block,(ad.add (i.toNat * 3)).off + 2,none⟩ = some (.slice A2 (qX xs i).f2.length c2)∧(qX xs i).f1.length ≤ c1∧(Kd.int .i64).C w A1 (qX xs i).f1.length (qX xs i).f1∧(qX xs i).f2.length ≤ c2∧k56.C w A2 (qX xs i).f2.length (qX xs i).f2:=by
 obtain ⟨ad,c,e,_,hK,hc0⟩:=Kd.C_get h z56 i h0 h1
 have hc : ∀ j u,c[j]? = some u→w.cell? (ad.add (i.toNat * 3 + j)) = some u:=hc0
 obtain ⟨A1,c1,A2,c2,rfl,l1,g1,l2,g2⟩:=k56_open hK
 exact ⟨ad,A1,c1,A2,c2,e,hc 0 _ rfl,by rw [← kN _ _ 1 (by omega)];exact hc 1 _ rfl,by rw [← kN _ _ 2 (by omega)];exact hc 2 _ rfl,l1,g1,l2,g2⟩
structure S58 where
 f0 : Bool
 f1 : S56
def z58 : S58:=⟨false,z56⟩
def k58 : Kd S58:=Kd.iso (Kd.pair Kd.bool k56) (fun x : S58=>(x.f0,x.f1))
theorem k58_open {w : World} {x : S58} {cs : List Value} (h : k58.K w x cs) : ∃ A2 c2 A3 c3,cs = [.bool x.f0,.int .i64 x.f1.f0,.slice A2 x.f1.f1.length c2,.slice A3 x.f1.f2.length c3]∧x.f1.f1.length ≤ c2∧(Kd.int .i64).C w A2 x.f1.f1.length x.f1.f1∧x.f1.f2.length ≤ c3∧k56.C w A3 x.f1.f2.length x.f1.f2:=by
 obtain ⟨_,_,rfl,rfl,s1⟩:=h
 obtain ⟨A2,c2,A3,c3,rfl,l2,g2,l3,g3⟩:=k56_open s1
 exact ⟨A2,c2,A3,c3,rfl,l2,g2,l3,g3⟩
theorem k58_mkM (w : World) (base : Nat) (ok : Nat→Prop) (x : S58) {v2 : Value} (g2 : (Kd.int .i64).R 3 w base ok v2 x.f1.f1) {v3 : Value} (g3 : k56.R 56 w base ok v3 x.f1.f2) : k58.M w base ok x [.bool x.f0,.int .i64 x.f1.f0,v2,v3]:=⟨[.bool x.f0],[.int .i64 x.f1.f0,v2,v3],rfl,rfl,(k56_mkM w base ok x.f1 g2 g3)⟩
def jO (xs : List S58) (i : Int) : S58:=xs.getD i.toNat z58
theorem at_T58 {w : World} {A : Option Addr} {n : Nat} {xs : List S58} (h : Kd.C k58 w A n xs) (i : Int) (h0 : 0 ≤ i) (h1 : i < n) : ∃ ad A2 c2 A3 c3,A = some ad∧w.cell? (ad.add (i.toNat * 4)) = some (.bool (jO xs i).f0)∧w.cell? ⟨(ad.add (i.toNat * 4)).block,(ad.add (i.toNat * 4)).off + 1,none⟩ = some (.int .i64 (jO xs i).f1.f0)∧w.cell? ⟨(ad.add (i.toNat * 4)).block,(ad.add (i.toNat * 4)).off + 2,none⟩ = some (.slice A2 (jO xs i).f1.f1.length c2)∧w.cell? ⟨(ad.add (i.toNat * 4)).block,(ad.add (i.toNat * 4)).off + 3,none⟩ = some (.slice A3 (jO xs i).f1.f2.length c3)∧(jO xs i).f1.f1.length ≤ c2∧(Kd.int .i64).C w A2 (jO xs i).f1.f1.length (jO xs i).f1.f1∧(jO xs i).f1.f2.length ≤ c3∧k56.C w A3 (jO xs i).f1.f2.length (jO xs i).f1.f2:=by
 obtain ⟨ad,c,e,_,hK,hc0⟩:=Kd.C_get h z58 i h0 h1
 have hc : ∀ j u,c[j]? = some u→w.cell? (ad.add (i.toNat * 4 + j)) = some u:=hc0
 obtain ⟨A2,c2,A3,c3,rfl,l2,g2,l3,g3⟩:=k58_open hK
 exact ⟨ad,A2,c2,A3,c3,e,hc 0 _ rfl,by rw [← kN _ _ 1 (by omega)];exact hc 1 _ rfl,by rw [← kN _ _ 2 (by omega)];exact hc 2 _ rfl,by rw [← kN _ _ 3 (by omega)];exact hc 3 _ rfl,l2,g2,l3,g3⟩
structure S28 where
 f0 : Int
 f1 : Int
 f2 : (List S28)
def z28 : S28:=⟨(0 : Int),(0 : Int),([] : List S28)⟩
def F28 (d : Kd S28) : Kd S28:=Kd.iso (Kd.pair (Kd.int .i64) (Kd.pair (Kd.int .i64) (Kd.slice 28 d))) (fun x : S28=>(x.f0,x.f1,x.f2))
theorem mono28 : Kd.Mono F28:=Kd.mono_iso _ (Kd.mono_pair (Kd.mono_const _) (Kd.mono_pair (Kd.mono_const _) (Kd.mono_slice 28 Kd.mono_id)))
theorem sub28 : Kd.Sub F28 [28]:=Kd.sub_iso _ (Kd.sub_pair (Kd.sub_const _ (by decide)) (Kd.sub_pair (Kd.sub_const _ (by decide)) (Kd.sub_slice 28 (by decide) Kd.sub_id)))
theorem sz28 : ∀ n,(Kd.upto F28 3 [28] n).sz = 3:=Kd.upto_sz (fun _=>rfl)
def k28 : Kd S28:=Kd.fix F28 3 [28] sz28 (Kd.upto_E sub28)
theorem k28_open {w : World} {x : S28} {cs : List Value} (h : k28.K w x cs) : ∃ A2 c2,cs = [.int .i64 x.f0,.int .i64 x.f1,.slice A2 x.f2.length c2]∧x.f2.length ≤ c2∧k28.C w A2 x.f2.length x.f2:=by
 obtain ⟨n,h⟩:=h
 cases n with
 | zero=>exact h.elim
 | succ n =>
  obtain ⟨_,_,rfl,rfl,⟨_,_,rfl,rfl,⟨A2,c2,rfl,l2,g2⟩⟩⟩:=h
  exact ⟨A2,c2,rfl,l2,Kd.fix_C g2⟩
theorem k28_mk (w : World) (x : S28) {A2 : Option Addr} {c2 : Nat} (l2 : x.f2.length ≤ c2) (g2 : k28.C w A2 x.f2.length x.f2) : k28.K w x [.int .i64 x.f0,.int .i64 x.f1,.slice A2 x.f2.length c2]:=by
 obtain ⟨n2,q2⟩:=Kd.fix_C_back mono28 g2
 have r2:=Kd.upto_C_le mono28 sz28 (show n2 ≤ n2 by omega) q2
 exact ⟨n2 + 1,⟨[.int .i64 x.f0],[.int .i64 x.f1,.slice A2 x.f2.length c2],rfl,rfl,⟨[.int .i64 x.f1],[.slice A2 x.f2.length c2],rfl,rfl,⟨A2,c2,rfl,l2,r2⟩⟩⟩⟩
theorem k28_mkF (W : World) (ok : Nat→Prop) (x : S28) {A2 : Option Addr} {c2 : Nat} (l2 : x.f2.length ≤ c2) (g2 : Kd.F k28 W ok A2 x.f2.length x.f2) : Kd.FK k28 W ok x [.int .i64 x.f0,.int .i64 x.f1,.slice A2 x.f2.length c2]:=fun W2 hW=>k28_mk W2 x l2 (g2 W2 hW)
def jS (xs : List S28) (i : Int) : S28:=xs.getD i.toNat z28
theorem at_T28 {w : World} {A : Option Addr} {n : Nat} {xs : List S28} (h : Kd.C k28 w A n xs) (i : Int) (h0 : 0 ≤ i) (h1 : i < n) : ∃ ad A2 c2,A = some ad∧w.cell? (ad.add (i.toNat * 3)) = some (.int .i64 (jS xs i).f0)∧w.cell? ⟨(ad.add (i.toNat * 3)).block,(ad.add (i.toNat * 3)).off + 1,none⟩ = some (.int .i64 (jS xs i).f1)∧w.cell? ⟨(ad.add (i.toNat * 3)).block,(ad.add (i.toNat * 3)).off + 2,none⟩ = some (.slice A2 (jS xs i).f2.length c2)∧(jS xs i).f2.length ≤ c2∧k28.C w A2 (jS xs i).f2.length (jS xs i).f2:=by
 obtain ⟨ad,c,e,_,hK,hc0⟩:=Kd.C_get h z28 i h0 h1
 have hc : ∀ j u,c[j]? = some u→w.cell? (ad.add (i.toNat * 3 + j)) = some u:=hc0
 obtain ⟨A2,c2,rfl,l2,g2⟩:=k28_open hK
 exact ⟨ad,A2,c2,e,hc 0 _ rfl,by rw [← kN _ _ 1 (by omega)];exact hc 1 _ rfl,by rw [← kN _ _ 2 (by omega)];exact hc 2 _ rfl,l2,g2⟩
end Go.Proofs.Ytkkbdimegpdbgaa.P
