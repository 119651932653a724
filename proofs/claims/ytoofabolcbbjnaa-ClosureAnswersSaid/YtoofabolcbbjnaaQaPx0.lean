/- Functions of the program as Lean functions, and the walks that show that the calls answer so; written by a program of this session (a changed print) and by hand. -/
import Derived.Test.YtoofabolcbbjnaaProg
import Derived.Below
import Derived.Deep.Draws
import Derived.Deep.AppendLies
import Derived.Maps.AppendAt
import Derived.OwnWalk
import Derived.Laws.BytesArg
import Derived.Laws.MakeOwn
import Derived.Laws.OwnMore
import Derived.Deep.OwnRows
import Derived.Tactics
import Derived.Lib.ConvBytes
import Derived.Laws.Slices
import Derived.WalkKit
import Derived.KernelRfl
import Derived.RowKit3
import Derived.Deep.LoopGhost
import Derived.Deep.QuietTactic
import Derived.BigQuiet
import Derived.WideLaws
import Derived.Deep.DeepCutAuto
import Derived.Deep.CutBlock
import Derived.Deep.RegionHeld3
import Derived.Laws.Rows
import Derived.Lib.AppendStr
import Derived.ArgAppend
import Derived.Laws.IdiomCopy
import Derived.OrdersHeld
import Derived.Laws.BitsLemmas
import Derived.RowKit
import Derived.Test.YtoofabolcbbjnaaQaWAll
namespace Go.Proofs.Ytoofabolcbbjnaa.P
open Go.RowKit Go.Proofs.YtoofabolcbbjnaaW.PrintWords Go.Proofs.YtoofabolcbbjnaaW.PrintLast Go.Proofs.YtoofabolcbbjnaaW.PrintMore
attribute [local go_sem] kR kP Qa Qc kE kD kQ kN
set_option linter.unusedVariables false
set_option linter.unusedSimpArgs false
theorem qI {w0 W w1 : World} {g : Nat} {o : Obj} (a0 : w0.heap[g]? = some o) (hb : Below W.heap.size W w1) (h : w0.heap[g]? = some o→W.heap[g]? = some o:=by intro a0_;(with_reducible repeat (first|refine qH ?_ _|refine qJ ?_|refine qG ?_ _));exact a0_) : w1.heap[g]? = some o:=uA (h a0) hb
theorem vH {w0 W : World} {g : Nat} {o : Obj} (a0 : w0.heap[g]? = some o) (h : w0.heap[g]? = some o→W.heap[g]? = some o:=by intro a0_;(with_reducible repeat (first|refine qH ?_ _|refine qJ ?_|refine qG ?_ _));exact a0_) : g < W.heap.size:=blk_lt (h a0)
theorem qC.blkB {w0 W w1 : World} {g g' : Nat} {row : Option Nat} {o : Obj} (hk : qC W w1 g row) (a0 : w0.heap[g']? = some o) (hg : g'≠g) (hr : some g'≠row) (h : w0.heap[g']? = some o→W.heap[g']? = some o:=by intro a0_;(with_reducible repeat (first|refine qH ?_ _|refine qJ ?_|refine qG ?_ _));exact a0_) : w1.heap[g']? = some o:=hk.blk (h a0) hg hr
theorem ns {a b : Nat} (h : qA (a≠b)) : qA (b≠a):=⟨h.out.symm⟩
theorem eqT {a b : Int} (h : a = b) : (a == b) = true∧(a != b) = false:=⟨beq_iff_eq.mpr h,bne_eq_false_iff_eq.mpr h⟩
theorem eqF {a b : Int} (h : ¬ a = b) : (a == b) = false∧(a != b) = true:=⟨beq_eq_false_iff_ne.mpr h,bne_iff_ne.mpr h⟩
theorem jiA {y j : Int} (h : shl .i64 1 y = j) : (IntKind.i64.wrap (1 * 2 ^ min y.toNat 64)) = j∧(y ≤ 64→(IntKind.i64.wrap (1 * 2 ^ y.toNat)) = j)∧(IntKind.i64.wrap (2 ^ min y.toNat 64)) = j∧(y ≤ 64→(IntKind.i64.wrap (2 ^ y.toNat)) = j)∧(wrap64 (1 * 2 ^ min y.toNat 64)) = j∧(y ≤ 64→(wrap64 (1 * 2 ^ y.toNat)) = j):=by have a : (IntKind.i64.wrap (1 * 2 ^ min y.toNat 64)) = j:=h;have b : y ≤ 64→(IntKind.i64.wrap (1 * 2 ^ y.toNat)) = j:=shl_small h;have e:=a;have f:=b;rw [Int.one_mul] at e f;rw [i64_w] at a;exact ⟨h,b,e,f,a,fun k=>(i64_w _).symm.trans (b k)⟩
theorem jiB {n : Nat} {j : Int} (h : shl .i64 1 (n : Int) = j) : (IntKind.i64.wrap (1 * 2 ^ min (n : Int).toNat 64)) = j∧((n : Int) ≤ 64→(IntKind.i64.wrap (1 * 2 ^ (n : Int).toNat)) = j)∧(IntKind.i64.wrap (1 * 2 ^ min n 64)) = j∧((n : Int) ≤ 64→(IntKind.i64.wrap (1 * 2 ^ n)) = j)∧(IntKind.i64.wrap (2 ^ min n 64)) = j∧((n : Int) ≤ 64→(IntKind.i64.wrap (2 ^ n)) = j)∧(IntKind.i64.wrap (2 ^ min (n : Int).toNat 64)) = j∧((n : Int) ≤ 64→(IntKind.i64.wrap (2 ^ (n : Int).toNat)) = j)∧(wrap64 (1 * 2 ^ min (n : Int).toNat 64)) = j∧((n : Int) ≤ 64→(wrap64 (1 * 2 ^ (n : Int).toNat)) = j):=by obtain ⟨a,b,c,d,e,f⟩:=jiA h;exact ⟨a,b,a,b,c,d,c,d,e,f⟩
theorem box_ev {P : Program} {ops : Array Oper} {rest : List Oper} {o : Oper} {a : Act} {Q : Exit→Act→World→Prop} {W : World} {N : Tmp} {cs : Array Value} {t : TypeId} (h : ∀ g,g = W.heap.size→∀ w1,w1.heap[g]? = some (.cells cs t (0,0))→Below W.heap.size W w1→wpList P ops Q rest (a.put o.dst (.pointer (some ⟨g,0,none⟩))) w1) (hg : o.guard = none:=by rfl) (hd : o.dst = some N:=by rfl) (hr : (execOp a.eval o).run P W = .ok (.value (.pointer (some ⟨W.heap.size,0,none⟩))) (W.alloc (.cells cs t (0,0))):=by first|(go_simp;done)|(go_simp;rfl)) : wpList P ops Q (o :: rest) a W:=zD hg (N:=N) hd hr h
theorem cz1 {w : World} {g : Nat} {t : TypeId} {x0 : Value} (h : w.heap[g]? = some (.cells #[x0] t (0,0))) : w.cell? ⟨g,0,none⟩ = some x0∧w.frozen? ⟨g,0,none⟩ = false:=⟨(vF h 0).trans rfl,uZ h 0⟩
theorem cz3 {w : World} {g : Nat} {t : TypeId} {x0 x1 x2 : Value} (h : w.heap[g]? = some (.cells #[x0,x1,x2] t (0,0))) : w.cell? ⟨g,0,none⟩ = some x0∧w.cell? ⟨g,1,none⟩ = some x1∧w.cell? ⟨g,2,none⟩ = some x2∧w.frozen? ⟨g,0,none⟩ = false∧w.frozen? ⟨g,1,none⟩ = false∧w.frozen? ⟨g,2,none⟩ = false:=⟨(vF h 0).trans rfl,(vF h 1).trans rfl,(vF h 2).trans rfl,uZ h 0,uZ h 1,uZ h 2⟩
theorem cv3 {w : World} {g : Nat} {t : TypeId} {x0 x1 x2 : Value} (h : w.heap[g]? = some (.cells #[x0,x1,x2] t (0,0))) : w.cell? ⟨g,0,none⟩ = some x0∧w.cell? ⟨g,1,none⟩ = some x1∧w.cell? ⟨g,2,none⟩ = some x2:=⟨(vF h 0).trans rfl,(vF h 1).trans rfl,(vF h 2).trans rfl⟩
theorem cz4 {w : World} {g : Nat} {t : TypeId} {x0 x1 x2 x3 : Value} (h : w.heap[g]? = some (.cells #[x0,x1,x2,x3] t (0,0))) : w.cell? ⟨g,0,none⟩ = some x0∧w.cell? ⟨g,1,none⟩ = some x1∧w.cell? ⟨g,2,none⟩ = some x2∧w.cell? ⟨g,3,none⟩ = some x3∧w.frozen? ⟨g,0,none⟩ = false∧w.frozen? ⟨g,1,none⟩ = false∧w.frozen? ⟨g,2,none⟩ = false∧w.frozen? ⟨g,3,none⟩ = false:=⟨(vF h 0).trans rfl,(vF h 1).trans rfl,(vF h 2).trans rfl,(vF h 3).trans rfl,uZ h 0,uZ h 1,uZ h 2,uZ h 3⟩
theorem byaa {P : Prop} (h : P:=by repeat (first|exact kY.refl _|apply kY.step)) : P:=h
theorem byab {P : Prop} (h : P:=by first|rfl|(simp;done)|(simp [*];done)) : P:=h
theorem byac {P : Prop} (h : P:=by (try simp only [List.map_toArray,List.map_cons,List.map_nil]);first|done|rfl|(simp only [List.length_drop,List.length_take];rfl)|(simp only [List.length_nil,Int.natCast_zero,Int.zero_add,Int.ofNat_zero];rfl)) : P:=h
theorem byad {P : Prop} (h : P:=by first|(go_simp;done)|(go_simp;rfl)) : P:=h
theorem byae {P : Prop} (h : P:=by repeat (first|(with_reducible first|exact HB.out|apply vZ|apply vY|apply vU)|exact HB.out)) : P:=h
theorem byaf {P Q0 : Prop} (a0 : Q0) (h : Q0→P:=by intro a0_;(with_reducible repeat (first|refine qH ?_ _|refine qJ ?_|refine qG ?_ _));exact a0_) : P:=h a0
theorem byag {P Q0 : Prop} (a0 : Q0) (h : Q0→P:=by intro a0_;repeat (first|(with_reducible first|exact HB.out|apply vZ|apply vY|apply vU|refine vV ?_ a0_)|exact HB.out)) : P:=h a0
theorem byah {P : Prop} (h : P:=by first|(with_reducible assumption)|assumption) : P:=h
theorem byai {P : Prop} (h : P:=by first|rfl|(simp;done)|(simp only [← hji11]<;>(first|rfl|simp))|(simp [*];done)) : P:=h
theorem byaj {P : Prop} (h : P:=by have:=HK1.out;omega) : P:=h
theorem byak {P Q0 Q1 : Prop} (a0 : Q0) (a1 : Q1) (h : Q0→Q1→P:=by intro a0_ a1_;(with_reducible repeat (first|refine qH ?_ _|refine qJ ?_|refine qG ?_ _));refine uT ?_ a0_ _;(with_reducible repeat (first|refine qH ?_ _|refine qJ ?_|refine qG ?_ _));refine uT ?_ a0_ _;(with_reducible repeat (first|refine qH ?_ _|refine qJ ?_|refine qG ?_ _));refine uT ?_ a0_ _;(with_reducible repeat (first|refine qH ?_ _|refine qJ ?_|refine qG ?_ _));refine uT ?_ a0_ _;(with_reducible repeat (first|refine qH ?_ _|refine qJ ?_|refine qG ?_ _));exact a1_) : P:=h a0 a1
theorem byal {P Q0 Q1 : Prop} (a0 : Q0) (a1 : Q1) (h : Q0→Q1→P:=by intro a0_ a1_;repeat (first|(with_reducible first|exact HB.out|apply vZ|apply vY|apply vU|refine vV ?_ a0_|refine vV ?_ a1_)|exact HB.out)) : P:=h a0 a1
theorem byam {P : Prop} (h : P:=by first|rfl|(simp [uP,uQ]<;>rfl)|(simp [*,uP,uQ]<;>rfl)) : P:=h
theorem byan {P Q0 : Prop} (a0 : Q0) (h : Q0→P:=by intro a0_;repeat (first|exact (Kd.uX a0_ HB.out)|(with_reducible refine Kd.C_alloc ?_ _)|(with_reducible refine Kd.C_drewN ?_ _)|(with_reducible refine Kd.C_drew ?_))) : P:=h a0
theorem byao {P : Prop} (h : P:=by first|rfl|(simp;done)|(simp only [← hji8]<;>(first|rfl|simp))|(simp [*];done)) : P:=h
theorem byap {P : Prop} (h : P:=by have:=HK1.out;have:=HK2.out;omega) : P:=h
theorem byaq {P Q0 Q1 : Prop} (a0 : Q0) (a1 : Q1) (h : Q0→Q1→P:=by intro a0_ a1_;(with_reducible repeat (first|refine qH ?_ _|refine qJ ?_|refine qG ?_ _));refine uT ?_ a0_ _;(with_reducible repeat (first|refine qH ?_ _|refine qJ ?_|refine qG ?_ _));refine uT ?_ a0_ _;(with_reducible repeat (first|refine qH ?_ _|refine qJ ?_|refine qG ?_ _));refine uT ?_ a0_ _;(with_reducible repeat (first|refine qH ?_ _|refine qJ ?_|refine qG ?_ _));exact a1_) : P:=h a0 a1
theorem byar {P : Prop} (h : P:=by first|exact Kd.R_nil _ _ _ _ _|exact Kd.N_nil _ _ _ _ _|exact Kd.V_nil _ _ _ _ _|exact Kd.Q_nil _ _ _ _ _|exact Kd.S_nil _ _ _ _ _) : P:=h
theorem byas {P Q0 : Prop} (a0 : Q0) (h : Q0→P:=by intro a0_;(with_reducible repeat (first|apply Kd.jF|apply Kd.jG|apply Kd.jM));exact a0_) : P:=h a0
theorem byat {P Q0 : Prop} (a0 : Q0) (h : Q0→P:=by intro a0_;(with_reducible repeat (first|refine qH ?_ _|refine qJ ?_|refine qG ?_ _));refine zG (cs:=#[.slice none 0 0]) ?_ 0 _ rfl;(with_reducible repeat (first|refine qH ?_ _|refine qJ ?_|refine qG ?_ _));exact a0_) : P:=h a0
theorem byau {P Q0 : Prop} (a0 : Q0) (h : Q0→P:=by intro a0_;(with_reducible repeat (first|apply Kd.uJ|apply Kd.uI|apply Kd.uM));exact a0_) : P:=h a0
theorem byav {P Q0 : Prop} (a0 : Q0) (h : Q0→P:=by intro a0_;repeat (first|exact (Kd.uN a0_).2.2|(with_reducible refine Kd.C_alloc ?_ _)|(with_reducible refine Kd.C_drewN ?_ _)|(with_reducible refine Kd.C_drew ?_))) : P:=h a0
theorem byaw {P Q0 : Prop} (a0 : Q0) (h : Q0→P:=by intro a0_;exact (Kd.uN a0_).2.1) : P:=h a0
theorem byax {P Q0 : Prop} (a0 : Q0) (h : Q0→P:=by intro a0_;repeat (first|exact (Kd.vS a0_).2.2|(with_reducible refine Kd.C_alloc ?_ _)|(with_reducible refine Kd.C_drewN ?_ _)|(with_reducible refine Kd.C_drew ?_))) : P:=h a0
theorem byay {P Q0 : Prop} (a0 : Q0) (h : Q0→P:=by intro a0_;exact (Kd.vS a0_).2.1) : P:=h a0
theorem byaz {P Q0 : Prop} (a0 : Q0) (h : Q0→P:=by intro a0_;repeat (first|(with_reducible first|exact a0_|apply qB.alloc|apply qB.drewN|apply qB.drew|apply qB.jO)|exact a0_)) : P:=h a0
theorem byba {P Q0 : Prop} (a0 : Q0) (h : Q0→P:=by intro a0_;repeat (first|(with_reducible first|exact HB.out|apply vZ|apply vY|apply vU|refine vV ?_ (qB.ge a0_))|exact HB.out)) : P:=h a0
theorem bybb {P : Prop} (h : P:=by repeat (first|(with_reducible first|exact HK.out|apply qC.set_|apply keep_drewN|apply kC|apply keep_alloc)|exact HK.out)) : P:=h
theorem bybc {P Q0 Q1 : Prop} (a0 : Q0) (a1 : Q1) (h : Q0→Q1→P:=by intro a0_ a1_;repeat (first|(with_reducible first|exact a0_|apply qB.alloc|apply qB.drewN|apply qB.drew|apply qB.jO|refine qB.far ?_ a1_ _)|exact a0_)) : P:=h a0 a1
theorem bybd {P Q0 : Prop} (a0 : Q0) (h : Q0→P:=by intro a0_;repeat (first|(with_reducible first|exact HK.out|apply qC.set_|apply keep_drewN|apply kC|apply keep_alloc|refine Qd ?_ a0_ _)|exact HK.out)) : P:=h a0
theorem bybe {P Q0 Q1 : Prop} (a0 : Q0) (a1 : Q1) (h : Q0→Q1→P:=by intro a0_ a1_;repeat (first|(with_reducible first|exact HB.out|apply vZ|apply vY|apply vU|refine vV ?_ (qB.ge a0_)|refine vV ?_ a1_)|exact HB.out)) : P:=h a0 a1
theorem bybf {P Q0 Q1 Q2 : Prop} (a0 : Q0) (a1 : Q1) (a2 : Q2) (h : Q0→Q1→Q2→P:=by intro a0_ a1_ a2_;repeat (first|(with_reducible first|exact a0_|apply qB.alloc|apply qB.drewN|apply qB.drew|apply qB.jO|refine qB.far ?_ a1_ _|refine qB.far ?_ a2_ _)|exact a0_)) : P:=h a0 a1 a2
theorem bybg {P Q0 Q1 Q2 : Prop} (a0 : Q0) (a1 : Q1) (a2 : Q2) (h : Q0→Q1→Q2→P:=by intro a0_ a1_ a2_;repeat (first|(with_reducible first|exact HB.out|apply vZ|apply vY|apply vU|refine vV ?_ (qB.ge a0_)|refine vV ?_ a1_|refine vV ?_ a2_)|exact HB.out)) : P:=h a0 a1 a2
theorem bybh {P Q0 Q1 : Prop} (a0 : Q0) (a1 : Q1) (h : Q0→Q1→P:=by intro a0_ a1_;repeat (first|(with_reducible first|exact HK.out|apply qC.set_|apply keep_drewN|apply kC|apply keep_alloc|refine Qd ?_ a0_ _|refine Qd ?_ a1_ _)|exact HK.out)) : P:=h a0 a1
theorem bybi {P Q0 Q1 : Prop} (a0 : Q0) (a1 : Q1) (h : Q0→Q1→P:=by intro a0_ a1_;(with_reducible repeat (first|refine qH ?_ _|refine qJ ?_|refine qG ?_ _));refine uT ?_ a0_ _;(with_reducible repeat (first|refine qH ?_ _|refine qJ ?_|refine qG ?_ _));exact a1_) : P:=h a0 a1
theorem bybj {P Q0 : Prop} (a0 : Q0) (h : Q0→P:=by intro a0_;(with_reducible repeat (first|apply Kd.jF|apply Kd.jG|apply Kd.jM));exact Kd.qV a0_ (fun _ hk=>trivial)) : P:=h a0
theorem bybk {P : Prop} (h : P:=by first|rfl|(simp [uP,uQ]<;>rfl)|(simp only [← hji5];first|rfl|(simp [uP,uQ]<;>rfl))|(simp [*,uP,uQ]<;>rfl)) : P:=h
theorem bybl {P : Prop} (h : P:=by first|omega|exact Nat.le_refl _) : P:=h
theorem bybm {P Q0 : Prop} (a0 : Q0) (h : Q0→P:=by intro a0_;(with_reducible repeat (first|apply Kd.jF|apply Kd.jG|apply Kd.jM));exact Kd.qV a0_ (fun _ hk=>hk.1)) : P:=h a0
theorem bybn {P Q0 Q1 Q2 Q3 : Prop} (a0 : Q0) (a1 : Q1) (a2 : Q2) (a3 : Q3) (h : Q0→Q1→Q2→Q3→P:=by intro a0_ a1_ a2_ a3_;repeat (first|(with_reducible first|exact a0_|apply qB.alloc|apply qB.drewN|apply qB.drew|apply qB.jO|refine qB.far ?_ a1_ _|refine qB.far ?_ a2_ _|refine qB.far ?_ a3_ _)|exact a0_)) : P:=h a0 a1 a2 a3
theorem bybo {P Q0 Q1 Q2 Q3 : Prop} (a0 : Q0) (a1 : Q1) (a2 : Q2) (a3 : Q3) (h : Q0→Q1→Q2→Q3→P:=by intro a0_ a1_ a2_ a3_;repeat (first|(with_reducible first|exact HB.out|apply vZ|apply vY|apply vU|refine vV ?_ (qB.ge a0_)|refine vV ?_ a1_|refine vV ?_ a2_|refine vV ?_ a3_)|exact HB.out)) : P:=h a0 a1 a2 a3
theorem bybp {P Q0 Q1 Q2 : Prop} (a0 : Q0) (a1 : Q1) (a2 : Q2) (h : Q0→Q1→Q2→P:=by intro a0_ a1_ a2_;repeat (first|(with_reducible first|exact HK.out|apply qC.set_|apply keep_drewN|apply kC|apply keep_alloc|refine Qd ?_ a0_ _|refine Qd ?_ a1_ _|refine Qd ?_ a2_ _)|exact HK.out)) : P:=h a0 a1 a2
theorem bybq {P Q0 : Prop} (a0 : Q0) (h : Q0→P:=by intro a0_;(with_reducible repeat (first|apply Kd.jF|apply Kd.jG|apply Kd.jM));exact Kd.qV a0_ (fun _ hk=>⟨hk.1.2,⟨hk.2,hk.1.1.2⟩⟩)) : P:=h a0
theorem bybr {P Q0 : Prop} (a0 : Q0) (h : Q0→P:=by intro a0_;(with_reducible repeat (first|apply Kd.jF|apply Kd.jG|apply Kd.jM));exact Kd.qV a0_ (fun _ hk=>hk.1.1.2)) : P:=h a0
theorem bybs {P Q0 : Prop} (a0 : Q0) (h : Q0→P:=by intro a0_;(with_reducible repeat (first|apply Kd.jR|apply Kd.jQ|apply Kd.jT));exact a0_) : P:=h a0
theorem bybt {P Q0 : Prop} (a0 : Q0) (h : Q0→P:=by intro a0_;(with_reducible repeat (first|apply Kd.jR|apply Kd.jQ|apply Kd.jT));exact Kd.qM a0_ (fun _ hk=>⟨hk.1.1.1,⟨hk.1.2,⟨hk.2,hk.1.1.2⟩⟩⟩)) : P:=h a0
theorem bybu {P Q0 : Prop} (a0 : Q0) (h : Q0→P:=by intro a0_;(with_reducible repeat (first|apply Kd.jR|apply Kd.jQ|apply Kd.jT));exact Kd.qM a0_ (fun _ hk=>⟨⟨hk.1.1.1,⟨hk.2,⟨hk.1.1.2.1,⟨hk.1.1.2.2.1,hk.1.1.2.2.2⟩⟩⟩⟩,hk.1.2⟩)) : P:=h a0
theorem bybv {P Q0 : Prop} (a0 : Q0) (h : Q0→P:=by intro a0_;(with_reducible repeat (first|apply Kd.jR|apply Kd.jQ|apply Kd.jT));exact Kd.qM a0_ (fun _ hk=>⟨hk.1.1,⟨hk.1.2.1,⟨hk.1.2.2.1,⟨hk.2,hk.1.2.2.2⟩⟩⟩⟩)) : P:=h a0
theorem bybw {P Q0 : Prop} (a0 : Q0) (h : Q0→P:=by intro a0_;(with_reducible repeat (first|apply Kd.jR|apply Kd.jQ|apply Kd.jT));exact Kd.qM a0_ (fun _ hk=>⟨⟨hk.1.1,⟨hk.2,⟨hk.1.2.2.1,⟨hk.1.2.2.2.1,hk.1.2.2.2.2⟩⟩⟩⟩,hk.1.2.1⟩)) : P:=h a0
theorem bybx {P Q0 : Prop} (a0 : Q0) (h : Q0→P:=by intro a0_;(with_reducible repeat (first|apply Kd.jR|apply Kd.jQ|apply Kd.jT));exact Kd.qM a0_ (fun _ hk=>⟨⟨hk.1.1.1.1,⟨hk.1.1.1.2,⟨hk.1.1.2,hk.1.2⟩⟩⟩,hk.2⟩)) : P:=h a0
theorem byby {P Q0 : Prop} (a0 : Q0) (h : Q0→P:=by intro a0_;(with_reducible repeat (first|apply Kd.jR|apply Kd.jQ|apply Kd.jT));exact Kd.qM a0_ (fun _ hk=>⟨⟨hk.1,⟨hk.2.2.1,⟨hk.2.2.2.1,⟨hk.2.2.2.2.1,hk.2.2.2.2.2⟩⟩⟩⟩,hk.2.1⟩)) : P:=h a0
theorem bybz {P : Prop} (h : P:=by rw [hw];exact vV (vV (vV (HB.out) (Nat.le_trans HL.out GB34.out)) (Nat.le_trans HL.out GB34.out)) (Nat.le_trans HL.out GB34.out)) : P:=h
theorem byca {P Q0 : Prop} (a0 : Q0) (h : Q0→P:=by intro a0_;repeat (first|exact (Kd.uK a0_).2.2|(with_reducible refine Kd.C_alloc ?_ _)|(with_reducible refine Kd.C_drewN ?_ _)|(with_reducible refine Kd.C_drew ?_))) : P:=h a0
theorem bycb {P : Prop} (h : P:=by (with_reducible repeat (first|apply Kd.jR|apply Kd.jQ|apply Kd.jT));exact HL695_0.out) : P:=h
theorem bycc {P Q0 : Prop} (a0 : Q0) (h : Q0→P:=by intro a0_;repeat (first|(with_reducible exact a0_)|(with_reducible refine Kd.C_alloc ?_ _)|(with_reducible refine Kd.C_drewN ?_ _)|(with_reducible refine Kd.C_drew ?_)|exact a0_)) : P:=h a0
theorem bycd {P Q0 : Prop} (a0 : Q0) (h : Q0→P:=by intro a0_;(with_reducible repeat (first|apply Kd.jR|apply Kd.jQ|apply Kd.jT));exact Kd.qM a0_ (fun _ hk=>⟨hk.1.1.1,⟨hk.1.1.2.1,⟨hk.2,⟨hk.1.1.2.2.1,⟨hk.1.1.2.2.2.1,⟨hk.1.2,hk.1.1.2.2.2.2⟩⟩⟩⟩⟩⟩)) : P:=h a0
theorem byce {P Q0 : Prop} (a0 : Q0) (h : Q0→P:=by intro a0_;(with_reducible repeat (first|apply Kd.jR|apply Kd.jQ|apply Kd.jT));exact Kd.qM a0_ (fun _ hk=>⟨⟨hk.1.1.1.1.1,⟨hk.1.1.1.1.2.1,⟨hk.1.1.1.1.2.2.1,⟨hk.1.1.1.2,⟨hk.1.1.2,⟨hk.1.2,⟨hk.1.1.1.1.2.2.2.1,⟨hk.1.1.1.1.2.2.2.2.1,⟨hk.1.1.1.1.2.2.2.2.2.1,hk.1.1.1.1.2.2.2.2.2.2⟩⟩⟩⟩⟩⟩⟩⟩⟩,hk.2⟩)) : P:=h a0
theorem bycf {P Q0 : Prop} (a0 : Q0) (h : Q0→P:=by intro a0_;(with_reducible repeat (first|apply Kd.jF|apply Kd.jG|apply Kd.jM));exact Kd.qV a0_ (fun _ hk=>⟨⟨hk.1.1.1.1.1,⟨hk.1.1.1.2,⟨hk.1.1.2,hk.1.2⟩⟩⟩,hk.2⟩)) : P:=h a0
theorem bycg {P Q0 : Prop} (a0 : Q0) (h : Q0→P:=by intro a0_;(with_reducible repeat (first|apply Kd.jR|apply Kd.jQ|apply Kd.jT));exact Kd.qM a0_ (fun _ hk=>⟨hk.1.1.1,⟨hk.1.1.2.1,⟨hk.1.1.2.2.1,⟨hk.2,⟨hk.1.1.2.2.2.2.2.2.1,⟨hk.1.1.2.2.2.2.2.2.2.1,⟨hk.1.1.2.2.2.2.2.2.2.2.1,hk.1.1.2.2.2.2.2.2.2.2.2⟩⟩⟩⟩⟩⟩⟩)) : P:=h a0
theorem bych {P : Prop} (h : P:=by repeat (first|exact (Kd.uK HL734_0.out).2.2|(with_reducible refine Kd.C_alloc ?_ _)|(with_reducible refine Kd.C_drewN ?_ _)|(with_reducible refine Kd.C_drew ?_))) : P:=h
theorem byci {P Q0 : Prop} (a0 : Q0) (h : Q0→P:=by intro a0_;(with_reducible repeat (first|apply Kd.jR|apply Kd.jQ|apply Kd.jT));exact Kd.qM a0_ (fun _ hk=>⟨hk.1,⟨hk.2.1,⟨hk.2.2.1,⟨hk.2.2.2.2.1,⟨hk.2.2.2.2.2.1,⟨hk.2.2.2.2.2.2.1,hk.2.2.2.2.2.2.2⟩⟩⟩⟩⟩⟩)) : P:=h a0
theorem bycj {P Q0 : Prop} (a0 : Q0) (h : Q0→P:=by intro a0_;(with_reducible repeat (first|apply Kd.jR|apply Kd.jQ|apply Kd.jT));exact Kd.qM a0_ (fun _ hk=>⟨hk.1,⟨hk.2.1,⟨hk.2.2.2.1,⟨hk.2.2.2.2.1,hk.2.2.2.2.2.2⟩⟩⟩⟩)) : P:=h a0
theorem byck {P : Prop} (h : P:=by rw [hg];exact (zJ (byae))) : P:=h
theorem bycl {P Q0 : Prop} (a0 : Q0) (h : Q0→P:=by intro a0_;rw [hg];exact (zJ (byag a0_))) : P:=h a0
theorem bycm {P Q0 Q1 : Prop} (a0 : Q0) (a1 : Q1) (h : Q0→Q1→P:=by intro a0_ a1_;repeat (first|exact (Kd.uX a0_ (byag a1_))|(with_reducible refine Kd.C_alloc ?_ _)|(with_reducible refine Kd.C_drewN ?_ _)|(with_reducible refine Kd.C_drew ?_))) : P:=h a0 a1
theorem bycn {P : Prop} (h : P:=by rw [hg];exact (zJ (by repeat (first|(with_reducible first|exact HBW.out|apply vZ|apply vY|apply vU)|exact HBW.out)))) : P:=h
theorem byco {P : Prop} (h : P:=by rw [hg];exact (qY (w:=w) (g:=g) (row:=none) (bybb))) : P:=h
theorem bycp {P Q0 : Prop} (a0 : Q0) (h : Q0→P:=by intro a0_;rw [hg];exact (qY (w:=w) (g:=g) (row:=none) (bybd a0_))) : P:=h a0
theorem bycq {P Q0 Q1 : Prop} (a0 : Q0) (a1 : Q1) (h : Q0→Q1→P:=by intro a0_ a1_;rw [hg];exact (qY (w:=w) (g:=g) (row:=none) (bybh a0_ a1_))) : P:=h a0 a1
theorem bycr {P Q0 Q1 : Prop} (a0 : Q0) (a1 : Q1) (h : Q0→Q1→P:=by intro a0_ a1_;first|(rw [add_block];exact Kd.own_blk (qB.kS a0_ a1_ (by decide)))|(show (Addr.add _ _).block≠_;rw [add_block];exact Kd.own_blk (qB.kS a0_ a1_ (by decide)))|exact Kd.own_blk (qB.kS a0_ a1_ (by decide))) : P:=h a0 a1
theorem bycs {P Q0 : Prop} (a0 : Q0) (h : Q0→P:=by intro a0_;(with_reducible repeat (first|apply Kd.jR|apply Kd.jQ|apply Kd.jT));exact Kd.qM a0_ (fun _ hk=>⟨hk.1.1,⟨(by simp [Value.ownBlock]),⟨hk.1.2.1,⟨hk.1.2.2.1,hk.1.2.2.2⟩⟩⟩⟩)) : P:=h a0
theorem byct {P Q0 Q1 : Prop} (a0 : Q0) (a1 : Q1) (h : Q0→Q1→P:=by intro a0_ a1_;(with_reducible repeat (first|apply Kd.jR|apply Kd.jQ|apply Kd.jT));exact Kd.qM a0_ (fun _ hk=>⟨.inl (.inl hk.1.1.1),⟨hk.2,⟨hk.1.1.2.1,⟨hk.1.1.2.2,(fun e_=>absurd hk.1.1.1 (Nat.not_lt.2 (by rw [e_];exact qB.ge a1_)))⟩⟩⟩⟩)) : P:=h a0 a1
theorem q_2 {P0 P1 : Prop} (h0 : P0) (h1 : P1) : qA P0∧qA P1:=⟨⟨h0⟩,⟨h1⟩⟩
theorem q_3 {P0 P1 P2 : Prop} (h0 : P0) (h1 : P1) (h2 : P2) : qA P0∧qA P1∧qA P2:=⟨⟨h0⟩,⟨h1⟩,⟨h2⟩⟩
theorem q_4 {P0 P1 P2 P3 : Prop} (h0 : P0) (h1 : P1) (h2 : P2) (h3 : P3) : qA P0∧qA P1∧qA P2∧qA P3:=⟨⟨h0⟩,⟨h1⟩,⟨h2⟩,⟨h3⟩⟩
theorem q_5 {P0 P1 P2 P3 P4 : Prop} (h0 : P0) (h1 : P1) (h2 : P2) (h3 : P3) (h4 : P4) : qA P0∧qA P1∧qA P2∧qA P3∧qA P4:=⟨⟨h0⟩,⟨h1⟩,⟨h2⟩,⟨h3⟩,⟨h4⟩⟩
theorem q_6 {P0 P1 P2 P3 P4 P5 : Prop} (h0 : P0) (h1 : P1) (h2 : P2) (h3 : P3) (h4 : P4) (h5 : P5) : qA P0∧qA P1∧qA P2∧qA P3∧qA P4∧qA P5:=⟨⟨h0⟩,⟨h1⟩,⟨h2⟩,⟨h3⟩,⟨h4⟩,⟨h5⟩⟩
theorem q_7 {P0 P1 P2 P3 P4 P5 P6 : Prop} (h0 : P0) (h1 : P1) (h2 : P2) (h3 : P3) (h4 : P4) (h5 : P5) (h6 : P6) : qA P0∧qA P1∧qA P2∧qA P3∧qA P4∧qA P5∧qA P6:=⟨⟨h0⟩,⟨h1⟩,⟨h2⟩,⟨h3⟩,⟨h4⟩,⟨h5⟩,⟨h6⟩⟩
theorem q_8 {P0 P1 P2 P3 P4 P5 P6 P7 : Prop} (h0 : P0) (h1 : P1) (h2 : P2) (h3 : P3) (h4 : P4) (h5 : P5) (h6 : P6) (h7 : P7) : qA P0∧qA P1∧qA P2∧qA P3∧qA P4∧qA P5∧qA P6∧qA P7:=⟨⟨h0⟩,⟨h1⟩,⟨h2⟩,⟨h3⟩,⟨h4⟩,⟨h5⟩,⟨h6⟩,⟨h7⟩⟩
theorem q_9 {P0 P1 P2 P3 P4 P5 P6 P7 P8 : Prop} (h0 : P0) (h1 : P1) (h2 : P2) (h3 : P3) (h4 : P4) (h5 : P5) (h6 : P6) (h7 : P7) (h8 : P8) : qA P0∧qA P1∧qA P2∧qA P3∧qA P4∧qA P5∧qA P6∧qA P7∧qA P8:=⟨⟨h0⟩,⟨h1⟩,⟨h2⟩,⟨h3⟩,⟨h4⟩,⟨h5⟩,⟨h6⟩,⟨h7⟩,⟨h8⟩⟩
theorem q_10 {P0 P1 P2 P3 P4 P5 P6 P7 P8 P9 : Prop} (h0 : P0) (h1 : P1) (h2 : P2) (h3 : P3) (h4 : P4) (h5 : P5) (h6 : P6) (h7 : P7) (h8 : P8) (h9 : P9) : qA P0∧qA P1∧qA P2∧qA P3∧qA P4∧qA P5∧qA P6∧qA P7∧qA P8∧qA P9:=⟨⟨h0⟩,⟨h1⟩,⟨h2⟩,⟨h3⟩,⟨h4⟩,⟨h5⟩,⟨h6⟩,⟨h7⟩,⟨h8⟩,⟨h9⟩⟩
theorem q_11 {P0 P1 P2 P3 P4 P5 P6 P7 P8 P9 P10 : Prop} (h0 : P0) (h1 : P1) (h2 : P2) (h3 : P3) (h4 : P4) (h5 : P5) (h6 : P6) (h7 : P7) (h8 : P8) (h9 : P9) (h10 : P10) : qA P0∧qA P1∧qA P2∧qA P3∧qA P4∧qA P5∧qA P6∧qA P7∧qA P8∧qA P9∧qA P10:=⟨⟨h0⟩,⟨h1⟩,⟨h2⟩,⟨h3⟩,⟨h4⟩,⟨h5⟩,⟨h6⟩,⟨h7⟩,⟨h8⟩,⟨h9⟩,⟨h10⟩⟩
theorem q_12 {P0 P1 P2 P3 P4 P5 P6 P7 P8 P9 P10 P11 : Prop} (h0 : P0) (h1 : P1) (h2 : P2) (h3 : P3) (h4 : P4) (h5 : P5) (h6 : P6) (h7 : P7) (h8 : P8) (h9 : P9) (h10 : P10) (h11 : P11) : qA P0∧qA P1∧qA P2∧qA P3∧qA P4∧qA P5∧qA P6∧qA P7∧qA P8∧qA P9∧qA P10∧qA P11:=⟨⟨h0⟩,⟨h1⟩,⟨h2⟩,⟨h3⟩,⟨h4⟩,⟨h5⟩,⟨h6⟩,⟨h7⟩,⟨h8⟩,⟨h9⟩,⟨h10⟩,⟨h11⟩⟩
theorem q_13 {P0 P1 P2 P3 P4 P5 P6 P7 P8 P9 P10 P11 P12 : Prop} (h0 : P0) (h1 : P1) (h2 : P2) (h3 : P3) (h4 : P4) (h5 : P5) (h6 : P6) (h7 : P7) (h8 : P8) (h9 : P9) (h10 : P10) (h11 : P11) (h12 : P12) : qA P0∧qA P1∧qA P2∧qA P3∧qA P4∧qA P5∧qA P6∧qA P7∧qA P8∧qA P9∧qA P10∧qA P11∧qA P12:=⟨⟨h0⟩,⟨h1⟩,⟨h2⟩,⟨h3⟩,⟨h4⟩,⟨h5⟩,⟨h6⟩,⟨h7⟩,⟨h8⟩,⟨h9⟩,⟨h10⟩,⟨h11⟩,⟨h12⟩⟩
theorem q_14 {P0 P1 P2 P3 P4 P5 P6 P7 P8 P9 P10 P11 P12 P13 : Prop} (h0 : P0) (h1 : P1) (h2 : P2) (h3 : P3) (h4 : P4) (h5 : P5) (h6 : P6) (h7 : P7) (h8 : P8) (h9 : P9) (h10 : P10) (h11 : P11) (h12 : P12) (h13 : P13) : qA P0∧qA P1∧qA P2∧qA P3∧qA P4∧qA P5∧qA P6∧qA P7∧qA P8∧qA P9∧qA P10∧qA P11∧qA P12∧qA P13:=⟨⟨h0⟩,⟨h1⟩,⟨h2⟩,⟨h3⟩,⟨h4⟩,⟨h5⟩,⟨h6⟩,⟨h7⟩,⟨h8⟩,⟨h9⟩,⟨h10⟩,⟨h11⟩,⟨h12⟩,⟨h13⟩⟩
theorem q_15 {P0 P1 P2 P3 P4 P5 P6 P7 P8 P9 P10 P11 P12 P13 P14 : Prop} (h0 : P0) (h1 : P1) (h2 : P2) (h3 : P3) (h4 : P4) (h5 : P5) (h6 : P6) (h7 : P7) (h8 : P8) (h9 : P9) (h10 : P10) (h11 : P11) (h12 : P12) (h13 : P13) (h14 : P14) : qA P0∧qA P1∧qA P2∧qA P3∧qA P4∧qA P5∧qA P6∧qA P7∧qA P8∧qA P9∧qA P10∧qA P11∧qA P12∧qA P13∧qA P14:=⟨⟨h0⟩,⟨h1⟩,⟨h2⟩,⟨h3⟩,⟨h4⟩,⟨h5⟩,⟨h6⟩,⟨h7⟩,⟨h8⟩,⟨h9⟩,⟨h10⟩,⟨h11⟩,⟨h12⟩,⟨h13⟩,⟨h14⟩⟩
theorem q_16 {P0 P1 P2 P3 P4 P5 P6 P7 P8 P9 P10 P11 P12 P13 P14 P15 : Prop} (h0 : P0) (h1 : P1) (h2 : P2) (h3 : P3) (h4 : P4) (h5 : P5) (h6 : P6) (h7 : P7) (h8 : P8) (h9 : P9) (h10 : P10) (h11 : P11) (h12 : P12) (h13 : P13) (h14 : P14) (h15 : P15) : qA P0∧qA P1∧qA P2∧qA P3∧qA P4∧qA P5∧qA P6∧qA P7∧qA P8∧qA P9∧qA P10∧qA P11∧qA P12∧qA P13∧qA P14∧qA P15:=⟨⟨h0⟩,⟨h1⟩,⟨h2⟩,⟨h3⟩,⟨h4⟩,⟨h5⟩,⟨h6⟩,⟨h7⟩,⟨h8⟩,⟨h9⟩,⟨h10⟩,⟨h11⟩,⟨h12⟩,⟨h13⟩,⟨h14⟩,⟨h15⟩⟩
theorem q_19 {P0 P1 P2 P3 P4 P5 P6 P7 P8 P9 P10 P11 P12 P13 P14 P15 P16 P17 P18 : Prop} (h0 : P0) (h1 : P1) (h2 : P2) (h3 : P3) (h4 : P4) (h5 : P5) (h6 : P6) (h7 : P7) (h8 : P8) (h9 : P9) (h10 : P10) (h11 : P11) (h12 : P12) (h13 : P13) (h14 : P14) (h15 : P15) (h16 : P16) (h17 : P17) (h18 : P18) : qA P0∧qA P1∧qA P2∧qA P3∧qA P4∧qA P5∧qA P6∧qA P7∧qA P8∧qA P9∧qA P10∧qA P11∧qA P12∧qA P13∧qA P14∧qA P15∧qA P16∧qA P17∧qA P18:=⟨⟨h0⟩,⟨h1⟩,⟨h2⟩,⟨h3⟩,⟨h4⟩,⟨h5⟩,⟨h6⟩,⟨h7⟩,⟨h8⟩,⟨h9⟩,⟨h10⟩,⟨h11⟩,⟨h12⟩,⟨h13⟩,⟨h14⟩,⟨h15⟩,⟨h16⟩,⟨h17⟩,⟨h18⟩⟩
def bb (n m : Nat) : Array Bool:=((List.range n).map m.testBit).toArray
theorem Qp {P : Program} {ops : Array Oper} {Q : Exit→Act→World→Prop} {md : Region.Mode} {S : World→Prop} {ds : List Nat} {fuel : Nat} {l : Array Bool} {a0 a' : Act} {N : Option Tmp} {v : Value} {w : World} (h : jZ P md ops Q S ds fuel l a' w) (ha : a0.put N v = a':=by simp only [Act.put,List.setIfInBounds_toArray,List.set_cons_zero,List.set_cons_succ,i64_w,i32_w];rfl) : jZ P md ops Q S ds fuel l (a0.put N v) w:=norm_ ha h
theorem jK {P : Program} {ops : Array Oper} {Q : Exit→Act→World→Prop} {md : Region.Mode} {S : World→Prop} {ds : List Nat} {i : Nat} {N : Option Tmp} {oi : Oper} {v : Value} {fuel : Nat} {l : Array Bool} {a : Act} {w : World} (l' : Array Bool) {a' : Act} (h : jZ P md ops Q S ds fuel l' a' w) (hi : ops[i]? = some oi:=by rfl) (hN : oi.dst = N:=by rfl) (hc : anyB md ops l l' i = true:=by exact (any_of HT_.out (by kernel_rfl))) (hQ : ∀ c a w,Q (.panic c) (a.put oi.dst v) w→Q (.panic c) a w:=by exact fun _ _ _ h=>h) (hy : Yields P ops oi v a:=by refine Or.inl ⟨by rfl,?_⟩;intro w';go_simp;with_reducible rfl) (ha : a.put N v = a':=by simp only [Act.put,List.setIfInBounds_toArray,List.set_cons_zero,List.set_cons_succ,i64_w,i32_w];rfl) : jZ P md ops Q S ds (fuel + 1) l a w:=pure_ l' hi hN hc hQ hy ha h
theorem takeZA {P : Program} {ops : Array Oper} {Q : Exit→Act→World→Prop} {md : Region.Mode} {S : World→Prop} {ds : List Nat} {i : Nat} {N : Option Tmp} {oi : Oper} {v : Value} {fuel : Nat} {l : Array Bool} {a : Act} {w : World} (l' : Array Bool) (hS : S w) {a' : Act} (h : jZ P md ops Q S ds fuel l' a' w) (hi : ops[i]? = some oi:=by rfl) (hN : oi.dst = N:=by rfl) (hc : takeB md ops ds l l' i = true:=by exact (take_ofW HT_.out HW_.out (by kernel_rfl))) (hQ : ∀ c a w,Q (.panic c) (a.put oi.dst v) w→Q (.panic c) a w:=by exact fun _ _ _ h=>h) (hy : YieldsIf P ops S oi v a:=by refine Or.inl ⟨by rfl,?_⟩;rintro w' ⟨s0,s1⟩;go_simp;with_reducible rfl) (ha : a.put N v = a':=by simp only [Act.put,List.setIfInBounds_toArray,List.set_cons_zero,List.set_cons_succ,i64_w,i32_w];rfl) : jZ P md ops Q S ds (fuel + 1) l a w:=take_ l' hi hN hc hQ hy hS ha h
theorem takeZB {P : Program} {ops : Array Oper} {Q : Exit→Act→World→Prop} {md : Region.Mode} {S : World→Prop} {ds : List Nat} {i : Nat} {N : Option Tmp} {oi : Oper} {v : Value} {fuel : Nat} {l : Array Bool} {a : Act} {w : World} (l' : Array Bool) (hS : S w) {a' : Act} (h : jZ P md ops Q S ds fuel l' a' w) (hi : ops[i]? = some oi:=by rfl) (hN : oi.dst = N:=by rfl) (hc : takeB md ops ds l l' i = true:=by exact (take_ofW HT_.out HW_.out (by kernel_rfl))) (hQ : ∀ c a w,Q (.panic c) (a.put oi.dst v) w→Q (.panic c) a w:=by exact fun _ _ _ h=>h) (hy : YieldsIf P ops S oi v a:=by refine Or.inl ⟨by rfl,?_⟩;rintro w' ⟨s0,s1,s2⟩;go_simp;with_reducible rfl) (ha : a.put N v = a':=by simp only [Act.put,List.setIfInBounds_toArray,List.set_cons_zero,List.set_cons_succ,i64_w,i32_w];rfl) : jZ P md ops Q S ds (fuel + 1) l a w:=take_ l' hi hN hc hQ hy hS ha h
theorem takeZC {P : Program} {ops : Array Oper} {Q : Exit→Act→World→Prop} {md : Region.Mode} {S : World→Prop} {ds : List Nat} {i : Nat} {N : Option Tmp} {oi : Oper} {v : Value} {fuel : Nat} {l : Array Bool} {a : Act} {w : World} (l' : Array Bool) (hS : S w) {a' : Act} (h : jZ P md ops Q S ds fuel l' a' w) (hi : ops[i]? = some oi:=by rfl) (hN : oi.dst = N:=by rfl) (hc : takeB md ops ds l l' i = true:=by exact (take_ofW HT_.out HW_.out (by kernel_rfl))) (hQ : ∀ c a w,Q (.panic c) (a.put oi.dst v) w→Q (.panic c) a w:=by exact fun _ _ _ h=>h) (hy : YieldsIf P ops S oi v a:=by refine Or.inl ⟨by rfl,?_⟩;rintro w' ⟨s0,s1,s2,s3,s4,s5⟩;go_simp;with_reducible rfl) (ha : a.put N v = a':=by simp only [Act.put,List.setIfInBounds_toArray,List.set_cons_zero,List.set_cons_succ,i64_w,i32_w];rfl) : jZ P md ops Q S ds (fuel + 1) l a w:=take_ l' hi hN hc hQ hy hS ha h
theorem Qs {P : Program} {ops : Array Oper} {Q : Exit→Act→World→Prop} {md : Region.Mode} {S : World→Prop} {ds : List Nat} {i : Nat} {N : Option Tmp} {oi : Oper} {v : Value} {fuel : Nat} {l : Array Bool} {a : Act} {w : World} (l' : Array Bool) (hS : S w) {a' : Act} (h : jZ P md ops Q S ds fuel l' a' w) (hi : ops[i]? = some oi:=by rfl) (hN : oi.dst = N:=by rfl) (hc : takeB md ops ds l l' i = true:=by exact (take_ofW HT_.out HW_.out (by kernel_rfl))) (hQ : ∀ c a w,Q (.panic c) (a.put oi.dst v) w→Q (.panic c) a w:=by exact fun _ _ _ h=>h) (hy : YieldsIf P ops S oi v a:=by refine Or.inl ⟨by rfl,?_⟩;intro w' s0;go_simp;with_reducible rfl) (ha : a.put N v = a':=by simp only [Act.put,List.setIfInBounds_toArray,List.set_cons_zero,List.set_cons_succ,i64_w,i32_w];rfl) : jZ P md ops Q S ds (fuel + 1) l a w:=take_ l' hi hN hc hQ hy hS ha h
def errW : Option Int→Value
 | none=>.nilIface
 | some c=>.iface 0 (.int .i64 c)
theorem uP : errW none = .nilIface:=rfl
theorem uQ (c : Int) : errW (some c) = .iface 0 (.int .i64 c):=rfl
theorem info3 : (Try.prog.info? 3).map (fun i=>(i.zero,i.size,i.bytes)) = some (some (.int .i64 0),1,8):=by kernel_rfl
theorem info49 : (Try.prog.info? 49).map (fun i=>(i.zero,i.size,i.bytes)) = some (some (.agg #[(.int .i64 0),(.slice none 0 0),(.slice none 0 0)]),3,56):=by kernel_rfl
theorem Qu : (Try.prog.info? 51).map (fun i=>(i.zero,i.size,i.bytes)) = some (some (.agg #[(.bool false),(.int .i64 0),(.slice none 0 0),(.slice none 0 0)]),4,64):=by kernel_rfl
def rd_L2 (xs : List (List Int)) (i : Int) : (List Int):=xs.getD i.toNat ([] : List Int)
theorem at_L2 {w : World} {A : Option Addr} {n : Nat} {xs : List (List Int)} (h : Kd.C (Kd.slice 3 (Kd.int .i64)) w A n xs) (i : Int) (h0 : 0 ≤ i) (h1 : i < n) : ∃ ad A0 c0,A = some ad∧w.cell? (ad.add i.toNat) = some (.slice A0 (rd_L2 xs i).length c0)∧(rd_L2 xs i).length ≤ c0∧(Kd.int .i64).C w A0 (rd_L2 xs i).length (rd_L2 xs i):=by
 obtain ⟨ad,c,e,_,hK,hc0⟩:=Kd.C_get h ([] : List Int) i h0 h1
 have hc : ∀ j u,c[j]? = some u→w.cell? (ad.add (i.toNat * 1 + j)) = some u:=hc0
 obtain ⟨A0,c0,rfl,l0,g0⟩:=hK
 exact ⟨ad,A0,c0,e,by have hq:=hc 0 _ rfl;rwa [Nat.mul_one,Nat.add_zero] at hq,l0,g0⟩
structure S49 where
 f0 : Int
 f1 : (List Int)
 f2 : (List S49)
def z49 : S49:=⟨(0 : Int),([] : List Int),([] : List S49)⟩
def F49 (d : Kd S49) : Kd S49:=Kd.iso (Kd.pair (Kd.int .i64) (Kd.pair (Kd.slice 3 (Kd.int .i64)) (Kd.slice 49 d))) (fun x : S49=>(x.f0,x.f1,x.f2))
theorem mono49 : Kd.Mono F49:=Kd.mono_iso _ (Kd.mono_pair (Kd.mono_const _) (Kd.mono_pair (Kd.mono_const _) (Kd.mono_slice 49 Kd.mono_id)))
theorem sub49 : Kd.Sub F49 [3,49]:=Kd.sub_iso _ (Kd.sub_pair (Kd.sub_const _ (by decide)) (Kd.sub_pair (Kd.sub_const _ (by decide)) (Kd.sub_slice 49 (by decide) Kd.sub_id)))
theorem sz49 : ∀ n,(Kd.upto F49 3 [3,49] n).sz = 3:=Kd.upto_sz (fun _=>rfl)
def k49 : Kd S49:=Kd.fix F49 3 [3,49] sz49 (Kd.upto_E sub49)
theorem k49_open {w : World} {x : S49} {cs : List Value} (h : k49.K w x cs) : ∃ A1 c1 A2 c2,cs = [.int .i64 x.f0,.slice A1 x.f1.length c1,.slice A2 x.f2.length c2]∧x.f1.length ≤ c1∧(Kd.int .i64).C w A1 x.f1.length x.f1∧x.f2.length ≤ c2∧k49.C w A2 x.f2.length x.f2:=by
 obtain ⟨n,h⟩:=h
 cases n with
 | zero=>exact h.elim
 | succ n =>
  obtain ⟨_,_,rfl,rfl,⟨_,_,rfl,⟨A1,c1,rfl,l1,g1⟩,⟨A2,c2,rfl,l2,g2⟩⟩⟩:=h
  exact ⟨A1,c1,A2,c2,rfl,l1,g1,l2,Kd.fix_C g2⟩
theorem k49_openM {w : World} {base : Nat} {ok : Nat→Prop} {x : S49} {cs : List Value} (h : k49.M w base ok x cs) : ∃ v1 v2,cs = [.int .i64 x.f0,v1,v2]∧(Kd.int .i64).R 3 w base ok v1 x.f1∧k49.R 49 w base ok v2 x.f2:=by
 obtain ⟨n,h⟩:=h
 cases n with
 | zero=>exact h.elim
 | succ n =>
  obtain ⟨_,_,rfl,rfl,⟨_,_,rfl,⟨v1,rfl,g1⟩,⟨v2,rfl,g2⟩⟩⟩:=h
  exact ⟨v1,v2,rfl,g1,Kd.fix_R g2⟩
theorem k49_mk (w : World) (x : S49) {A1 : Option Addr} {c1 : Nat} (l1 : x.f1.length ≤ c1) (g1 : (Kd.int .i64).C w A1 x.f1.length x.f1) {A2 : Option Addr} {c2 : Nat} (l2 : x.f2.length ≤ c2) (g2 : k49.C w A2 x.f2.length x.f2) : k49.K w x [.int .i64 x.f0,.slice A1 x.f1.length c1,.slice A2 x.f2.length c2]:=by
 obtain ⟨n2,q2⟩:=Kd.fix_C_back mono49 g2
 have r2:=Kd.upto_C_le mono49 sz49 (show n2 ≤ n2 by omega) q2
 exact ⟨n2 + 1,⟨[.int .i64 x.f0],[.slice A1 x.f1.length c1,.slice A2 x.f2.length c2],rfl,rfl,⟨[.slice A1 x.f1.length c1],[.slice A2 x.f2.length c2],rfl,⟨A1,c1,rfl,l1,g1⟩,⟨A2,c2,rfl,l2,r2⟩⟩⟩⟩
theorem k49_mkM (w : World) (base : Nat) (ok : Nat→Prop) (x : S49) {v1 : Value} (g1 : (Kd.int .i64).R 3 w base ok v1 x.f1) {v2 : Value} (g2 : k49.R 49 w base ok v2 x.f2) : k49.M w base ok x [.int .i64 x.f0,v1,v2]:=by
 obtain ⟨n2,q2⟩:=Kd.fix_R_back mono49 g2
 have r2:=Kd.upto_R_le mono49 sz49 (show n2 ≤ n2 by omega) q2
 exact ⟨n2 + 1,⟨[.int .i64 x.f0],[v1,v2],rfl,rfl,⟨[v1],[v2],rfl,⟨v1,rfl,g1⟩,⟨v2,rfl,r2⟩⟩⟩⟩
theorem k49_openF {W : World} {ok : Nat→Prop} {x : S49} {cs : List Value} (h : Kd.FK k49 W ok x cs) : ∃ A1 c1 A2 c2,cs = [.int .i64 x.f0,.slice A1 x.f1.length c1,.slice A2 x.f2.length c2]∧x.f1.length ≤ c1∧Kd.F (Kd.int .i64) W ok A1 x.f1.length x.f1∧x.f2.length ≤ c2∧Kd.F k49 W ok A2 x.f2.length x.f2:=by
 obtain ⟨A1,c1,A2,c2,rfl,l1,_,l2,_⟩:=k49_open (Kd.Qv h)
 exact ⟨A1,c1,A2,c2,rfl,l1,(fun W' hW=>by obtain ⟨A1_,c1_,A2_,c2_,he,l1_,g1_,l2_,g2_⟩:=k49_open (h W' hW);injection (Option.some.inj (show some (Value.slice A1 x.f1.length c1) = some (Value.slice A1_ x.f1.length c1_) from congrArg (fun l=>l[1]?) he)) with ha_ _ _;rw [ha_];exact g1_),l2,(fun W' hW=>by obtain ⟨A1_,c1_,A2_,c2_,he,l1_,g1_,l2_,g2_⟩:=k49_open (h W' hW);injection (Option.some.inj (show some (Value.slice A2 x.f2.length c2) = some (Value.slice A2_ x.f2.length c2_) from congrArg (fun l=>l[2]?) he)) with ha_ _ _;rw [ha_];exact g2_)⟩
theorem k49_mkF (W : World) (ok : Nat→Prop) (x : S49) {A1 : Option Addr} {c1 : Nat} (l1 : x.f1.length ≤ c1) (g1 : Kd.F (Kd.int .i64) W ok A1 x.f1.length x.f1) {A2 : Option Addr} {c2 : Nat} (l2 : x.f2.length ≤ c2) (g2 : Kd.F k49 W ok A2 x.f2.length x.f2) : Kd.FK k49 W ok x [.int .i64 x.f0,.slice A1 x.f1.length c1,.slice A2 x.f2.length c2]:=fun W2 hW=>k49_mk W2 x l1 (g1 W2 hW) l2 (g2 W2 hW)
def zB (xs : List S49) (i : Int) : S49:=xs.getD i.toNat z49
theorem at_T49 {w : World} {A : Option Addr} {n : Nat} {xs : List S49} (h : Kd.C k49 w A n xs) (i : Int) (h0 : 0 ≤ i) (h1 : i < n) : ∃ ad A1 c1 A2 c2,A = some ad∧w.cell? (ad.add (i.toNat * 3)) = some (.int .i64 (zB xs i).f0)∧w.cell? ⟨(ad.add (i.toNat * 3)).block,(ad.add (i.toNat * 3)).off + 1,none⟩ = some (.slice A1 (zB xs i).f1.length c1)∧w.cell? ⟨(ad.add (i.toNat * 3)).block,(ad.add (i.toNat * 3)).off + 2,none⟩ = some (.slice A2 (zB xs i).f2.length c2)∧(zB xs i).f1.length ≤ c1∧(Kd.int .i64).C w A1 (zB xs i).f1.length (zB xs i).f1∧(zB xs i).f2.length ≤ c2∧k49.C w A2 (zB xs i).f2.length (zB xs i).f2:=by
 obtain ⟨ad,c,e,_,hK,hc0⟩:=Kd.C_get h z49 i h0 h1
 have hc : ∀ j u,c[j]? = some u→w.cell? (ad.add (i.toNat * 3 + j)) = some u:=hc0
 obtain ⟨A1,c1,A2,c2,rfl,l1,g1,l2,g2⟩:=k49_open hK
 exact ⟨ad,A1,c1,A2,c2,e,hc 0 _ rfl,by rw [← kU _ _ 1 (by omega)];exact hc 1 _ rfl,by rw [← kU _ _ 2 (by omega)];exact hc 2 _ rfl,l1,g1,l2,g2⟩
structure S51 where
 f0 : Bool
 f1 : S49
def z51 : S51:=⟨false,z49⟩
def k51 : Kd S51:=Kd.iso (Kd.pair Kd.bool k49) (fun x : S51=>(x.f0,x.f1))
theorem k51_open {w : World} {x : S51} {cs : List Value} (h : k51.K w x cs) : ∃ A2 c2 A3 c3,cs = [.bool x.f0,.int .i64 x.f1.f0,.slice A2 x.f1.f1.length c2,.slice A3 x.f1.f2.length c3]∧x.f1.f1.length ≤ c2∧(Kd.int .i64).C w A2 x.f1.f1.length x.f1.f1∧x.f1.f2.length ≤ c3∧k49.C w A3 x.f1.f2.length x.f1.f2:=by
 obtain ⟨_,_,rfl,rfl,s1⟩:=h
 obtain ⟨A2,c2,A3,c3,rfl,l2,g2,l3,g3⟩:=k49_open s1
 exact ⟨A2,c2,A3,c3,rfl,l2,g2,l3,g3⟩
theorem k51_mk (w : World) (x : S51) {A2 : Option Addr} {c2 : Nat} (l2 : x.f1.f1.length ≤ c2) (g2 : (Kd.int .i64).C w A2 x.f1.f1.length x.f1.f1) {A3 : Option Addr} {c3 : Nat} (l3 : x.f1.f2.length ≤ c3) (g3 : k49.C w A3 x.f1.f2.length x.f1.f2) : k51.K w x [.bool x.f0,.int .i64 x.f1.f0,.slice A2 x.f1.f1.length c2,.slice A3 x.f1.f2.length c3]:=⟨[.bool x.f0],[.int .i64 x.f1.f0,.slice A2 x.f1.f1.length c2,.slice A3 x.f1.f2.length c3],rfl,rfl,(k49_mk w x.f1 l2 g2 l3 g3)⟩
theorem k51_mkM (w : World) (base : Nat) (ok : Nat→Prop) (x : S51) {v2 : Value} (g2 : (Kd.int .i64).R 3 w base ok v2 x.f1.f1) {v3 : Value} (g3 : k49.R 49 w base ok v3 x.f1.f2) : k51.M w base ok x [.bool x.f0,.int .i64 x.f1.f0,v2,v3]:=⟨[.bool x.f0],[.int .i64 x.f1.f0,v2,v3],rfl,rfl,(k49_mkM w base ok x.f1 g2 g3)⟩
theorem kT {W : World} {ok : Nat→Prop} {x : S51} {cs : List Value} (h : Kd.FK k51 W ok x cs) : ∃ A2 c2 A3 c3,cs = [.bool x.f0,.int .i64 x.f1.f0,.slice A2 x.f1.f1.length c2,.slice A3 x.f1.f2.length c3]∧x.f1.f1.length ≤ c2∧Kd.F (Kd.int .i64) W ok A2 x.f1.f1.length x.f1.f1∧x.f1.f2.length ≤ c3∧Kd.F k49 W ok A3 x.f1.f2.length x.f1.f2:=by
 obtain ⟨A2,c2,A3,c3,rfl,l2,_,l3,_⟩:=k51_open (Kd.Qv h)
 exact ⟨A2,c2,A3,c3,rfl,l2,(fun W' hW=>by obtain ⟨A2_,c2_,A3_,c3_,he,l2_,g2_,l3_,g3_⟩:=k51_open (h W' hW);injection (Option.some.inj (show some (Value.slice A2 x.f1.f1.length c2) = some (Value.slice A2_ x.f1.f1.length c2_) from congrArg (fun l=>l[2]?) he)) with ha_ _ _;rw [ha_];exact g2_),l3,(fun W' hW=>by obtain ⟨A2_,c2_,A3_,c3_,he,l2_,g2_,l3_,g3_⟩:=k51_open (h W' hW);injection (Option.some.inj (show some (Value.slice A3 x.f1.f2.length c3) = some (Value.slice A3_ x.f1.f2.length c3_) from congrArg (fun l=>l[3]?) he)) with ha_ _ _;rw [ha_];exact g3_)⟩
theorem k51_mkF (W : World) (ok : Nat→Prop) (x : S51) {A2 : Option Addr} {c2 : Nat} (l2 : x.f1.f1.length ≤ c2) (g2 : Kd.F (Kd.int .i64) W ok A2 x.f1.f1.length x.f1.f1) {A3 : Option Addr} {c3 : Nat} (l3 : x.f1.f2.length ≤ c3) (g3 : Kd.F k49 W ok A3 x.f1.f2.length x.f1.f2) : Kd.FK k51 W ok x [.bool x.f0,.int .i64 x.f1.f0,.slice A2 x.f1.f1.length c2,.slice A3 x.f1.f2.length c3]:=fun W2 hW=>k51_mk W2 x l2 (g2 W2 hW) l3 (g3 W2 hW)
def zF (xs : List S51) (i : Int) : S51:=xs.getD i.toNat z51
theorem Qm {w : World} {A : Option Addr} {n : Nat} {xs : List S51} (h : Kd.C k51 w A n xs) (i : Int) (h0 : 0 ≤ i) (h1 : i < n) : ∃ ad A2 c2 A3 c3,A = some ad∧w.cell? (ad.add (i.toNat * 4)) = some (.bool (zF xs i).f0)∧w.cell? ⟨(ad.add (i.toNat * 4)).block,(ad.add (i.toNat * 4)).off + 1,none⟩ = some (.int .i64 (zF xs i).f1.f0)∧w.cell? ⟨(ad.add (i.toNat * 4)).block,(ad.add (i.toNat * 4)).off + 2,none⟩ = some (.slice A2 (zF xs i).f1.f1.length c2)∧w.cell? ⟨(ad.add (i.toNat * 4)).block,(ad.add (i.toNat * 4)).off + 3,none⟩ = some (.slice A3 (zF xs i).f1.f2.length c3)∧(zF xs i).f1.f1.length ≤ c2∧(Kd.int .i64).C w A2 (zF xs i).f1.f1.length (zF xs i).f1.f1∧(zF xs i).f1.f2.length ≤ c3∧k49.C w A3 (zF xs i).f1.f2.length (zF xs i).f1.f2:=by
 obtain ⟨ad,c,e,_,hK,hc0⟩:=Kd.C_get h z51 i h0 h1
 have hc : ∀ j u,c[j]? = some u→w.cell? (ad.add (i.toNat * 4 + j)) = some u:=hc0
 obtain ⟨A2,c2,A3,c3,rfl,l2,g2,l3,g3⟩:=k51_open hK
 exact ⟨ad,A2,c2,A3,c3,e,hc 0 _ rfl,by rw [← kU _ _ 1 (by omega)];exact hc 1 _ rfl,by rw [← kU _ _ 2 (by omega)];exact hc 2 _ rfl,by rw [← kU _ _ 3 (by omega)];exact hc 3 _ rfl,l2,g2,l3,g3⟩
structure S25 where
 f0 : (List S51)
def z25 : S25:=⟨([] : List S51)⟩
def k25 : Kd S25:=Kd.iso (Kd.slice 51 k51) (fun x : S25=>x.f0)
theorem k25_open {w : World} {x : S25} {cs : List Value} (h : k25.K w x cs) : ∃ A0 c0,cs = [.slice A0 x.f0.length c0]∧x.f0.length ≤ c0∧k51.C w A0 x.f0.length x.f0:=by
 obtain ⟨A0,c0,rfl,l0,g0⟩:=h
 exact ⟨A0,c0,rfl,l0,g0⟩
theorem k25_mk (w : World) (x : S25) {A0 : Option Addr} {c0 : Nat} (l0 : x.f0.length ≤ c0) (g0 : k51.C w A0 x.f0.length x.f0) : k25.K w x [.slice A0 x.f0.length c0]:=⟨A0,c0,rfl,l0,g0⟩
theorem k25_openF {W : World} {ok : Nat→Prop} {x : S25} {cs : List Value} (h : Kd.FK k25 W ok x cs) : ∃ A0 c0,cs = [.slice A0 x.f0.length c0]∧x.f0.length ≤ c0∧Kd.F k51 W ok A0 x.f0.length x.f0:=by
 obtain ⟨A0,c0,rfl,l0,_⟩:=k25_open (Kd.Qv h)
 exact ⟨A0,c0,rfl,l0,(fun W' hW=>by obtain ⟨A0_,c0_,he,l0_,g0_⟩:=k25_open (h W' hW);injection (Option.some.inj (show some (Value.slice A0 x.f0.length c0) = some (Value.slice A0_ x.f0.length c0_) from congrArg (fun l=>l[0]?) he)) with ha_ _ _;rw [ha_];exact g0_)⟩
theorem k25_mkF (W : World) (ok : Nat→Prop) (x : S25) {A0 : Option Addr} {c0 : Nat} (l0 : x.f0.length ≤ c0) (g0 : Kd.F k51 W ok A0 x.f0.length x.f0) : Kd.FK k25 W ok x [.slice A0 x.f0.length c0]:=fun W2 hW=>k25_mk W2 x l0 (g0 W2 hW)
def rd_T25 (xs : List S25) (i : Int) : S25:=xs.getD i.toNat z25
theorem at_T25 {w : World} {A : Option Addr} {n : Nat} {xs : List S25} (h : Kd.C k25 w A n xs) (i : Int) (h0 : 0 ≤ i) (h1 : i < n) : ∃ ad A0 c0,A = some ad∧w.cell? (ad.add i.toNat) = some (.slice A0 (rd_T25 xs i).f0.length c0)∧(rd_T25 xs i).f0.length ≤ c0∧k51.C w A0 (rd_T25 xs i).f0.length (rd_T25 xs i).f0:=by
 obtain ⟨ad,c,e,_,hK,hc0⟩:=Kd.C_get h z25 i h0 h1
 have hc : ∀ j u,c[j]? = some u→w.cell? (ad.add (i.toNat * 1 + j)) = some u:=hc0
 obtain ⟨A0,c0,rfl,l0,g0⟩:=k25_open hK
 exact ⟨ad,A0,c0,e,by have hq:=hc 0 _ rfl;rwa [Nat.mul_one,Nat.add_zero] at hq,l0,g0⟩
end Go.Proofs.Ytoofabolcbbjnaa.P
