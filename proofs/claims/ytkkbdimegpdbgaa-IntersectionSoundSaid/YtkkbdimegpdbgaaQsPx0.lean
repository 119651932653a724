/- Functions of the program as Lean functions, and the walks that show that the calls answer so; written by a program of this session (a changed print) and by hand. -/
import Derived.Test.YtkkbdimegpdbgaaProg
import Derived.Below
import Derived.Deep.Draws
import Derived.Deep.AppendLies
import Derived.Maps.AppendAt
import Derived.OwnWalk
import Derived.Laws.BytesArg
import Derived.Laws.MakeOwn
import Derived.Laws.OwnMore
import Derived.Deep.OwnRows
import Derived.Tactics
import Derived.Lib.ConvBytes
import Derived.Laws.Slices
import Derived.WalkKit
import Derived.KernelRfl
import Derived.RowKit3
import Derived.Deep.LoopGhost
import Derived.Deep.QuietTactic
import Derived.BigQuiet
import Derived.WideLaws
import Derived.Deep.DeepCutAuto
import Derived.Deep.CutBlock
import Derived.Deep.RegionHeld3
import Derived.Laws.Rows
import Derived.Lib.AppendStr
import Derived.ArgAppend
import Derived.Laws.IdiomCopy
import Derived.OrdersHeld
import Derived.Laws.BitsLemmas
import Derived.RowKit
import Derived.Test.YtkkbdimegpdbgaaQsWAll
namespace Go.Proofs.Ytkkbdimegpdbgaa.P
open Go.RowKit Go.Proofs.YtkkbdimegpdbgaaW.PrintWords Go.Proofs.YtkkbdimegpdbgaaW.PrintLast Go.Proofs.YtkkbdimegpdbgaaW.PrintMore
attribute [local go_sem] kF kD kV kU uJ uK kG kE
set_option linter.unusedVariables false
set_option linter.unusedSimpArgs false
theorem qH {w0 W w1 : World} {g : Nat} {o : Obj} (a0 : w0.heap[g]? = some o) (hb : Below W.heap.size W w1) (h : w0.heap[g]? = some o→W.heap[g]? = some o:=by intro a0_;(with_reducible repeat (first|refine qF ?_ _|refine qG ?_|refine qE ?_ _));exact a0_) : w1.heap[g]? = some o:=jQ (h a0) hb
theorem vF {w0 W : World} {g : Nat} {o : Obj} (a0 : w0.heap[g]? = some o) (h : w0.heap[g]? = some o→W.heap[g]? = some o:=by intro a0_;(with_reducible repeat (first|refine qF ?_ _|refine qG ?_|refine qE ?_ _));exact a0_) : g < W.heap.size:=blk_lt (h a0)
theorem qJ.blkB {w0 W w1 : World} {g g' : Nat} {row : Option Nat} {o : Obj} (hk : qJ W w1 g row) (a0 : w0.heap[g']? = some o) (hg : g'≠g) (hr : some g'≠row) (h : w0.heap[g']? = some o→W.heap[g']? = some o:=by intro a0_;(with_reducible repeat (first|refine qF ?_ _|refine qG ?_|refine qE ?_ _));exact a0_) : w1.heap[g']? = some o:=hk.blk (h a0) hg hr
theorem ns {a b : Nat} (h : qA (a≠b)) : qA (b≠a):=⟨h.out.symm⟩
theorem eqT {a b : Int} (h : a = b) : (a == b) = true∧(a != b) = false:=⟨beq_iff_eq.mpr h,bne_eq_false_iff_eq.mpr h⟩
theorem eqF {a b : Int} (h : ¬ a = b) : (a == b) = false∧(a != b) = true:=⟨beq_eq_false_iff_ne.mpr h,bne_iff_ne.mpr h⟩
theorem jiA {y j : Int} (h : shl .i64 1 y = j) : (IntKind.i64.wrap (1 * 2 ^ min y.toNat 64)) = j∧(y ≤ 64→(IntKind.i64.wrap (1 * 2 ^ y.toNat)) = j)∧(IntKind.i64.wrap (2 ^ min y.toNat 64)) = j∧(y ≤ 64→(IntKind.i64.wrap (2 ^ y.toNat)) = j)∧(wrap64 (1 * 2 ^ min y.toNat 64)) = j∧(y ≤ 64→(wrap64 (1 * 2 ^ y.toNat)) = j):=by have a : (IntKind.i64.wrap (1 * 2 ^ min y.toNat 64)) = j:=h;have b : y ≤ 64→(IntKind.i64.wrap (1 * 2 ^ y.toNat)) = j:=shl_small h;have e:=a;have f:=b;rw [Int.one_mul] at e f;rw [Qe] at a;exact ⟨h,b,e,f,a,fun k=>(Qe _).symm.trans (b k)⟩
theorem jiB {n : Nat} {j : Int} (h : shl .i64 1 (n : Int) = j) : (IntKind.i64.wrap (1 * 2 ^ min (n : Int).toNat 64)) = j∧((n : Int) ≤ 64→(IntKind.i64.wrap (1 * 2 ^ (n : Int).toNat)) = j)∧(IntKind.i64.wrap (1 * 2 ^ min n 64)) = j∧((n : Int) ≤ 64→(IntKind.i64.wrap (1 * 2 ^ n)) = j)∧(IntKind.i64.wrap (2 ^ min n 64)) = j∧((n : Int) ≤ 64→(IntKind.i64.wrap (2 ^ n)) = j)∧(IntKind.i64.wrap (2 ^ min (n : Int).toNat 64)) = j∧((n : Int) ≤ 64→(IntKind.i64.wrap (2 ^ (n : Int).toNat)) = j)∧(wrap64 (1 * 2 ^ min (n : Int).toNat 64)) = j∧((n : Int) ≤ 64→(wrap64 (1 * 2 ^ (n : Int).toNat)) = j):=by obtain ⟨a,b,c,d,e,f⟩:=jiA h;exact ⟨a,b,a,b,c,d,c,d,e,f⟩
theorem zV {P : Program} {ops : Array Oper} {rest : List Oper} {o : Oper} {a : Act} {Q : Exit→Act→World→Prop} {W : World} {N : Tmp} {cs : Array Value} {t : TypeId} (h : ∀ g,g = W.heap.size→∀ w1,w1.heap[g]? = some (.cells cs t (0,0))→Below W.heap.size W w1→wpList P ops Q rest (a.put o.dst (.pointer (some ⟨g,0,none⟩))) w1) (hg : o.guard = none:=by rfl) (hd : o.dst = some N:=by rfl) (hr : (execOp a.eval o).run P W = .ok (.value (.pointer (some ⟨W.heap.size,0,none⟩))) (W.alloc (.cells cs t (0,0))):=by first|(go_simp;done)|(go_simp;rfl)) : wpList P ops Q (o :: rest) a W:=box_event hg (N:=N) hd hr h
theorem cz1 {w : World} {g : Nat} {t : TypeId} {x0 : Value} (h : w.heap[g]? = some (.cells #[x0] t (0,0))) : w.cell? ⟨g,0,none⟩ = some x0∧w.frozen? ⟨g,0,none⟩ = false:=⟨(qN h 0).trans rfl,kJ h 0⟩
theorem cz3 {w : World} {g : Nat} {t : TypeId} {x0 x1 x2 : Value} (h : w.heap[g]? = some (.cells #[x0,x1,x2] t (0,0))) : w.cell? ⟨g,0,none⟩ = some x0∧w.cell? ⟨g,1,none⟩ = some x1∧w.cell? ⟨g,2,none⟩ = some x2∧w.frozen? ⟨g,0,none⟩ = false∧w.frozen? ⟨g,1,none⟩ = false∧w.frozen? ⟨g,2,none⟩ = false:=⟨(qN h 0).trans rfl,(qN h 1).trans rfl,(qN h 2).trans rfl,kJ h 0,kJ h 1,kJ h 2⟩
theorem cv3 {w : World} {g : Nat} {t : TypeId} {x0 x1 x2 : Value} (h : w.heap[g]? = some (.cells #[x0,x1,x2] t (0,0))) : w.cell? ⟨g,0,none⟩ = some x0∧w.cell? ⟨g,1,none⟩ = some x1∧w.cell? ⟨g,2,none⟩ = some x2:=⟨(qN h 0).trans rfl,(qN h 1).trans rfl,(qN h 2).trans rfl⟩
theorem cz4 {w : World} {g : Nat} {t : TypeId} {x0 x1 x2 x3 : Value} (h : w.heap[g]? = some (.cells #[x0,x1,x2,x3] t (0,0))) : w.cell? ⟨g,0,none⟩ = some x0∧w.cell? ⟨g,1,none⟩ = some x1∧w.cell? ⟨g,2,none⟩ = some x2∧w.cell? ⟨g,3,none⟩ = some x3∧w.frozen? ⟨g,0,none⟩ = false∧w.frozen? ⟨g,1,none⟩ = false∧w.frozen? ⟨g,2,none⟩ = false∧w.frozen? ⟨g,3,none⟩ = false:=⟨(qN h 0).trans rfl,(qN h 1).trans rfl,(qN h 2).trans rfl,(qN h 3).trans rfl,kJ h 0,kJ h 1,kJ h 2,kJ h 3⟩
theorem cv4 {w : World} {g : Nat} {t : TypeId} {x0 x1 x2 x3 : Value} (h : w.heap[g]? = some (.cells #[x0,x1,x2,x3] t (0,0))) : w.cell? ⟨g,0,none⟩ = some x0∧w.cell? ⟨g,1,none⟩ = some x1∧w.cell? ⟨g,2,none⟩ = some x2∧w.cell? ⟨g,3,none⟩ = some x3:=⟨(qN h 0).trans rfl,(qN h 1).trans rfl,(qN h 2).trans rfl,(qN h 3).trans rfl⟩
theorem q_10 {P0 P1 P2 P3 P4 P5 P6 P7 P8 P9 : Prop} (h0 : P0) (h1 : P1) (h2 : P2) (h3 : P3) (h4 : P4) (h5 : P5) (h6 : P6) (h7 : P7) (h8 : P8) (h9 : P9) : qA P0∧qA P1∧qA P2∧qA P3∧qA P4∧qA P5∧qA P6∧qA P7∧qA P8∧qA P9:=⟨⟨h0⟩,⟨h1⟩,⟨h2⟩,⟨h3⟩,⟨h4⟩,⟨h5⟩,⟨h6⟩,⟨h7⟩,⟨h8⟩,⟨h9⟩⟩
theorem byaa {P : Prop} (h : P:=by first|(go_simp;done)|(go_simp;rfl)) : P:=h
theorem byab {P : Prop} (h : P:=by repeat (first|(with_reducible first|exact HB.out|apply uY|apply uQ|apply vI)|exact HB.out)) : P:=h
theorem byac {P : Prop} (h : P:=by first|rfl|(simp [uC,uD]<;>rfl)|(simp [*,uC,uD]<;>rfl)) : P:=h
theorem byad {P Q0 : Prop} (a0 : Q0) (h : Q0→P:=by intro a0_;repeat (first|(with_reducible first|exact HB.out|apply uY|apply uQ|apply vI|refine kX ?_ a0_)|exact HB.out)) : P:=h a0
theorem byae {P : Prop} (h : P:=by first|rfl|(simp;done)|(simp [*];done)) : P:=h
theorem byaf {P Q0 : Prop} (a0 : Q0) (h : Q0→P:=by intro a0_;(with_reducible repeat (first|refine qF ?_ _|refine qG ?_|refine qE ?_ _));exact a0_) : P:=h a0
theorem byag {P : Prop} (h : P:=by first|(with_reducible assumption)|assumption) : P:=h
theorem byah {P : Prop} (h : P:=by (try simp only [List.map_toArray,List.map_cons,List.map_nil]);first|done|rfl|(simp only [List.length_drop,List.length_take];rfl)|(simp only [List.length_nil,Int.natCast_zero,Int.zero_add,Int.ofNat_zero];rfl)) : P:=h
theorem byai {P : Prop} (h : P:=by have:=HK1.out;omega) : P:=h
theorem byaj {P Q0 Q1 : Prop} (a0 : Q0) (a1 : Q1) (h : Q0→Q1→P:=by intro a0_ a1_;repeat (first|(with_reducible first|exact HB.out|apply uY|apply uQ|apply vI|refine kX ?_ a0_|refine kX ?_ a1_)|exact HB.out)) : P:=h a0 a1
theorem byak {P Q0 Q1 : Prop} (a0 : Q0) (a1 : Q1) (h : Q0→Q1→P:=by intro a0_ a1_;(with_reducible repeat (first|refine qF ?_ _|refine qG ?_|refine qE ?_ _));refine Zd ?_ a0_ _;(with_reducible repeat (first|refine qF ?_ _|refine qG ?_|refine qE ?_ _));refine Zd ?_ a0_ _;(with_reducible repeat (first|refine qF ?_ _|refine qG ?_|refine qE ?_ _));refine Zd ?_ a0_ _;(with_reducible repeat (first|refine qF ?_ _|refine qG ?_|refine qE ?_ _));exact a1_) : P:=h a0 a1
theorem byal {P : Prop} (h : P:=by first|rfl|(simp;done)|(simp only [← hji8]<;>(first|rfl|simp))|(simp [*];done)) : P:=h
theorem byam {P : Prop} (h : P:=by repeat (first|exact kZ.refl _|apply kZ.step)) : P:=h
theorem byan {P : Prop} (h : P:=by have:=HK1.out;first|omega|exact Nat.le_refl _) : P:=h
theorem byao {P : Prop} (h : P:=by first|rfl|(simp;done)|(simp only [← hji11]<;>(first|rfl|simp))|(simp [*];done)) : P:=h
theorem byap {P : Prop} (h : P:=by first|omega|exact Nat.le_refl _) : P:=h
theorem byaq {P Q0 : Prop} (a0 : Q0) (h : Q0→P:=by intro a0_;repeat (first|exact (Kd.vU a0_ HB.out)|(with_reducible refine Kd.C_alloc ?_ _)|(with_reducible refine Kd.C_drewN ?_ _)|(with_reducible refine Kd.C_drew ?_))) : P:=h a0
theorem byar {P : Prop} (h : P:=by have:=HK1.out;have:=HK2.out;omega) : P:=h
theorem byas {P : Prop} (h : P:=by first|rfl|(simp [uC,uD]<;>rfl)|(simp only [← hji8];first|rfl|(simp [uC,uD]<;>rfl))|(simp [*,uC,uD]<;>rfl)) : P:=h
theorem byat {P Q0 Q1 : Prop} (a0 : Q0) (a1 : Q1) (h : Q0→Q1→P:=by intro a0_ a1_;(with_reducible repeat (first|refine qF ?_ _|refine qG ?_|refine qE ?_ _));refine Zd ?_ a0_ _;(with_reducible repeat (first|refine qF ?_ _|refine qG ?_|refine qE ?_ _));refine Zd ?_ a0_ _;(with_reducible repeat (first|refine qF ?_ _|refine qG ?_|refine qE ?_ _));refine Zd ?_ a0_ _;(with_reducible repeat (first|refine qF ?_ _|refine qG ?_|refine qE ?_ _));refine Zd ?_ a0_ _;(with_reducible repeat (first|refine qF ?_ _|refine qG ?_|refine qE ?_ _));exact a1_) : P:=h a0 a1
theorem byau {P : Prop} (h : P:=by first|exact Kd.R_nil _ _ _ _ _|exact Kd.N_nil _ _ _ _ _|exact Kd.V_nil _ _ _ _ _|exact Kd.Q_nil _ _ _ _ _|exact Kd.S_nil _ _ _ _ _) : P:=h
theorem byav {P Q0 : Prop} (a0 : Q0) (h : Q0→P:=by intro a0_;(with_reducible repeat (first|apply Kd.jP|apply Kd.jO|apply Kd.jZ));exact a0_) : P:=h a0
theorem byaw {P : Prop} (h : P:=by first|rfl|(simp [uC,uD]<;>rfl)|(simp only [← hji2];first|rfl|(simp [uC,uD]<;>rfl))|(simp [*,uC,uD]<;>rfl)) : P:=h
theorem byax {P Q0 : Prop} (a0 : Q0) (h : Q0→P:=by intro a0_;(with_reducible repeat (first|refine qF ?_ _|refine qG ?_|refine qE ?_ _));refine qO (cs:=#[.int .i64 1,.int .i64 0,.slice none 0 0]) ?_ 2 _ rfl;(with_reducible repeat (first|refine qF ?_ _|refine qG ?_|refine qE ?_ _));refine qO (cs:=#[.int .i64 1,.int .i64 0,.slice none 0 0]) ?_ 1 _ rfl;(with_reducible repeat (first|refine qF ?_ _|refine qG ?_|refine qE ?_ _));refine qO (cs:=#[.int .i64 0,.int .i64 0,.slice none 0 0]) ?_ 0 _ rfl;(with_reducible repeat (first|refine qF ?_ _|refine qG ?_|refine qE ?_ _));exact a0_) : P:=h a0
theorem byay {P Q0 : Prop} (a0 : Q0) (h : Q0→P:=by intro a0_;(with_reducible repeat (first|refine qF ?_ _|refine qG ?_|refine qE ?_ _));refine qO (cs:=#[.int .i64 2,.int .i64 0,.slice none 0 0]) ?_ 2 _ rfl;(with_reducible repeat (first|refine qF ?_ _|refine qG ?_|refine qE ?_ _));refine qO (cs:=#[.int .i64 2,.int .i64 0,.slice none 0 0]) ?_ 1 _ rfl;(with_reducible repeat (first|refine qF ?_ _|refine qG ?_|refine qE ?_ _));refine qO (cs:=#[.int .i64 0,.int .i64 0,.slice none 0 0]) ?_ 0 _ rfl;(with_reducible repeat (first|refine qF ?_ _|refine qG ?_|refine qE ?_ _));exact a0_) : P:=h a0
theorem byaz {P : Prop} (h : P:=by (try simp only [List.map_toArray,List.map_cons,List.map_nil]);first|done|(simp only [hji27];rfl)|rfl|(simp only [List.length_drop,List.length_take];rfl)) : P:=h
theorem byba {P Q0 : Prop} (a0 : Q0) (h : Q0→P:=by intro a0_;(with_reducible repeat (first|apply Kd.Qq|apply Kd.Qo|apply Kd.Qs));exact a0_) : P:=h a0
theorem bybb {P Q0 : Prop} (a0 : Q0) (h : Q0→P:=by intro a0_;(with_reducible repeat (first|refine qF ?_ _|refine qG ?_|refine qE ?_ _));refine qO (cs:=#[.int .i64 0,.int .i64 0,.slice none 0 0]) ?_ 2 _ rfl;(with_reducible repeat (first|refine qF ?_ _|refine qG ?_|refine qE ?_ _));refine qO (cs:=#[.int .i64 0,.int .i64 0,.slice none 0 0]) ?_ 1 _ rfl;(with_reducible repeat (first|refine qF ?_ _|refine qG ?_|refine qE ?_ _));refine qO (cs:=#[.int .i64 0,.int .i64 0,.slice none 0 0]) ?_ 0 _ rfl;(with_reducible repeat (first|refine qF ?_ _|refine qG ?_|refine qE ?_ _));exact a0_) : P:=h a0
theorem bybc {P : Prop} (h : P:=by (try simp only [List.map_toArray,List.map_cons,List.map_nil]);first|done|(simp only [hji44];rfl)|rfl|(simp only [List.length_drop,List.length_take];rfl)) : P:=h
theorem bybd {P : Prop} (h : P:=by first|rfl|(simp [uC,uD]<;>rfl)|(simp only [← hji44];first|rfl|(simp [uC,uD]<;>rfl))|(simp [*,uC,uD]<;>rfl)) : P:=h
theorem bybe {P Q0 Q1 : Prop} (a0 : Q0) (a1 : Q1) (h : Q0→Q1→P:=by intro a0_ a1_;(with_reducible repeat (first|refine qF ?_ _|refine qG ?_|refine qE ?_ _));refine Zd ?_ a0_ _;(with_reducible repeat (first|refine qF ?_ _|refine qG ?_|refine qE ?_ _));exact a1_) : P:=h a0 a1
theorem bybf {P Q0 Q1 Q2 : Prop} (a0 : Q0) (a1 : Q1) (a2 : Q2) (h : Q0→Q1→Q2→P:=by intro a0_ a1_ a2_;repeat (first|(with_reducible first|exact HB.out|apply uY|apply uQ|apply vI|refine kX ?_ a0_|refine kX ?_ a1_|refine kX ?_ a2_)|exact HB.out)) : P:=h a0 a1 a2
theorem bybg {P Q0 : Prop} (a0 : Q0) (h : Q0→P:=by intro a0_;(with_reducible repeat (first|refine qF ?_ _|refine qG ?_|refine qE ?_ _));refine qO (cs:=#[.slice none 0 0]) ?_ 0 _ rfl;(with_reducible repeat (first|refine qF ?_ _|refine qG ?_|refine qE ?_ _));exact a0_) : P:=h a0
theorem bybh {P Q0 : Prop} (a0 : Q0) (h : Q0→P:=by intro a0_;repeat (first|exact (Kd.Qj a0_).2.2|(with_reducible refine Kd.C_alloc ?_ _)|(with_reducible refine Kd.C_drewN ?_ _)|(with_reducible refine Kd.C_drew ?_))) : P:=h a0
theorem bybi {P Q0 : Prop} (a0 : Q0) (h : Q0→P:=by intro a0_;exact (Kd.Qj a0_).2.1) : P:=h a0
theorem bybj {P Q0 : Prop} (a0 : Q0) (h : Q0→P:=by intro a0_;repeat (first|(with_reducible first|exact a0_|apply qB.alloc|apply qB.drewN|apply qB.drew|apply qB.vZ)|exact a0_)) : P:=h a0
theorem bybk {P Q0 : Prop} (a0 : Q0) (h : Q0→P:=by intro a0_;repeat (first|(with_reducible first|exact HB.out|apply uY|apply uQ|apply vI|refine kX ?_ (qB.ge a0_))|exact HB.out)) : P:=h a0
theorem bybl {P : Prop} (h : P:=by repeat (first|(with_reducible first|exact HK.out|apply qJ.set_|apply keep_drewN|apply Zg|apply keep_alloc)|exact HK.out)) : P:=h
theorem bybm {P Q0 Q1 : Prop} (a0 : Q0) (a1 : Q1) (h : Q0→Q1→P:=by intro a0_ a1_;repeat (first|(with_reducible first|exact a0_|apply qB.alloc|apply qB.drewN|apply qB.drew|apply qB.vZ|refine qB.far ?_ a1_ _)|exact a0_)) : P:=h a0 a1
theorem bybn {P Q0 : Prop} (a0 : Q0) (h : Q0→P:=by intro a0_;repeat (first|(with_reducible first|exact HK.out|apply qJ.set_|apply keep_drewN|apply Zg|apply keep_alloc|refine keep_far ?_ a0_ _)|exact HK.out)) : P:=h a0
theorem bybo {P Q0 Q1 : Prop} (a0 : Q0) (a1 : Q1) (h : Q0→Q1→P:=by intro a0_ a1_;repeat (first|(with_reducible first|exact HB.out|apply uY|apply uQ|apply vI|refine kX ?_ (qB.ge a0_)|refine kX ?_ a1_)|exact HB.out)) : P:=h a0 a1
theorem bybp {P Q0 Q1 Q2 : Prop} (a0 : Q0) (a1 : Q1) (a2 : Q2) (h : Q0→Q1→Q2→P:=by intro a0_ a1_ a2_;repeat (first|(with_reducible first|exact a0_|apply qB.alloc|apply qB.drewN|apply qB.drew|apply qB.vZ|refine qB.far ?_ a1_ _|refine qB.far ?_ a2_ _)|exact a0_)) : P:=h a0 a1 a2
theorem bybq {P Q0 Q1 Q2 : Prop} (a0 : Q0) (a1 : Q1) (a2 : Q2) (h : Q0→Q1→Q2→P:=by intro a0_ a1_ a2_;repeat (first|(with_reducible first|exact HB.out|apply uY|apply uQ|apply vI|refine kX ?_ (qB.ge a0_)|refine kX ?_ a1_|refine kX ?_ a2_)|exact HB.out)) : P:=h a0 a1 a2
theorem bybr {P Q0 Q1 : Prop} (a0 : Q0) (a1 : Q1) (h : Q0→Q1→P:=by intro a0_ a1_;repeat (first|(with_reducible first|exact HK.out|apply qJ.set_|apply keep_drewN|apply Zg|apply keep_alloc|refine keep_far ?_ a0_ _|refine keep_far ?_ a1_ _)|exact HK.out)) : P:=h a0 a1
theorem bybs {P : Prop} (h : P:=by simp [Value.ownBlock]) : P:=h
theorem bybt {P Q0 : Prop} (a0 : Q0) (h : Q0→P:=by intro a0_;repeat (first|exact (Kd.uM a0_).2.2|(with_reducible refine Kd.C_alloc ?_ _)|(with_reducible refine Kd.C_drewN ?_ _)|(with_reducible refine Kd.C_drew ?_))) : P:=h a0
theorem bybu {P Q0 : Prop} (a0 : Q0) (h : Q0→P:=by intro a0_;(with_reducible repeat (first|apply Kd.jP|apply Kd.jO|apply Kd.jZ));exact Kd.zB a0_ (fun _ hk=>trivial)) : P:=h a0
theorem bybv {P : Prop} (h : P:=by first|rfl|(simp [uC,uD]<;>rfl)|(simp only [← hji5];first|rfl|(simp [uC,uD]<;>rfl))|(simp [*,uC,uD]<;>rfl)) : P:=h
theorem bybw {P Q0 Q1 Q2 Q3 : Prop} (a0 : Q0) (a1 : Q1) (a2 : Q2) (a3 : Q3) (h : Q0→Q1→Q2→Q3→P:=by intro a0_ a1_ a2_ a3_;repeat (first|(with_reducible first|exact a0_|apply qB.alloc|apply qB.drewN|apply qB.drew|apply qB.vZ|refine qB.far ?_ a1_ _|refine qB.far ?_ a2_ _|refine qB.far ?_ a3_ _)|exact a0_)) : P:=h a0 a1 a2 a3
theorem bybx {P Q0 Q1 Q2 Q3 : Prop} (a0 : Q0) (a1 : Q1) (a2 : Q2) (a3 : Q3) (h : Q0→Q1→Q2→Q3→P:=by intro a0_ a1_ a2_ a3_;repeat (first|(with_reducible first|exact HB.out|apply uY|apply uQ|apply vI|refine kX ?_ (qB.ge a0_)|refine kX ?_ a1_|refine kX ?_ a2_|refine kX ?_ a3_)|exact HB.out)) : P:=h a0 a1 a2 a3
theorem byby {P Q0 Q1 Q2 : Prop} (a0 : Q0) (a1 : Q1) (a2 : Q2) (h : Q0→Q1→Q2→P:=by intro a0_ a1_ a2_;repeat (first|(with_reducible first|exact HK.out|apply qJ.set_|apply keep_drewN|apply Zg|apply keep_alloc|refine keep_far ?_ a0_ _|refine keep_far ?_ a1_ _|refine keep_far ?_ a2_ _)|exact HK.out)) : P:=h a0 a1 a2
theorem bybz {P Q0 : Prop} (a0 : Q0) (h : Q0→P:=by intro a0_;(with_reducible repeat (first|apply Kd.jP|apply Kd.jO|apply Kd.jZ));exact Kd.zB a0_ (fun _ hk=>⟨hk.1.2,⟨hk.2,hk.1.1.2⟩⟩)) : P:=h a0
theorem byca {P Q0 : Prop} (a0 : Q0) (h : Q0→P:=by intro a0_;(with_reducible repeat (first|apply Kd.jP|apply Kd.jO|apply Kd.jZ));exact Kd.zB a0_ (fun _ hk=>hk.1.1.2)) : P:=h a0
theorem bycb {P : Prop} (h : P:=by have:=HK1.out;have:=HJ1.out;have:=HK3.out;omega) : P:=h
theorem bycc {P : Prop} (h : P:=by first|rfl|(simp [uC,uD]<;>rfl)|(simp only [← hji6];first|rfl|(simp [uC,uD]<;>rfl))|(simp [*,uC,uD]<;>rfl)) : P:=h
theorem bycd {P : Prop} (h : P:=by (try simp only [List.map_toArray,List.map_cons,List.map_nil]);first|done|(simp only [hji6];rfl)|rfl|(simp only [List.length_drop,List.length_take];rfl)) : P:=h
theorem byce {P : Prop} (h : P:=by (try simp only [List.map_toArray,List.map_cons,List.map_nil]);first|done|(simp only [hji63];rfl)|rfl|(simp only [List.length_drop,List.length_take];rfl)) : P:=h
theorem bycf {P Q0 : Prop} (a0 : Q0) (h : Q0→P:=by intro a0_;(with_reducible repeat (first|apply Kd.Q7|apply Kd.Q8|apply Kd.Zi));exact a0_) : P:=h a0
theorem bycg {P : Prop} (h : P:=by (try simp only [List.map_toArray,List.map_cons,List.map_nil]);first|done|rfl|(simp only [List.length_drop,List.length_take];rfl)) : P:=h
theorem bych {P : Prop} (h : P:=by (with_reducible repeat (first|apply Kd.Q7|apply Kd.Q8|apply Kd.Zi));exact HL638_2.out) : P:=h
theorem byci {P Q0 : Prop} (a0 : Q0) (h : Q0→P:=by intro a0_;repeat (first|(with_reducible exact a0_)|(with_reducible refine Kd.C_alloc ?_ _)|(with_reducible refine Kd.C_drewN ?_ _)|(with_reducible refine Kd.C_drew ?_)|exact a0_)) : P:=h a0
theorem bycj {P Q0 : Prop} (a0 : Q0) (h : Q0→P:=by intro a0_;(with_reducible repeat (first|apply Kd.Qq|apply Kd.Qo|apply Kd.Qs));exact Kd.vX a0_ (fun _ hk=>⟨hk.1.1,⟨hk.1.2.1,⟨hk.1.2.2.1,hk.1.2.2.2⟩⟩⟩)) : P:=h a0
theorem byck {P : Prop} (h : P:=by rw [hg];exact (jX (byab))) : P:=h
theorem bycl {P Q0 : Prop} (a0 : Q0) (h : Q0→P:=by intro a0_;rw [hg];exact (jX (byad a0_))) : P:=h a0
theorem bycm {P Q0 Q1 : Prop} (a0 : Q0) (a1 : Q1) (h : Q0→Q1→P:=by intro a0_ a1_;repeat (first|exact (Kd.vU a0_ (byad a1_))|(with_reducible refine Kd.C_alloc ?_ _)|(with_reducible refine Kd.C_drewN ?_ _)|(with_reducible refine Kd.C_drew ?_))) : P:=h a0 a1
theorem bycn {P : Prop} (h : P:=by rw [hg];exact (jX (by repeat (first|(with_reducible first|exact HBW.out|apply uY|apply uQ|apply vI)|exact HBW.out)))) : P:=h
theorem byco {P : Prop} (h : P:=by rw [hg];exact (vM (w:=w) (g:=g) (row:=none) (bybl))) : P:=h
theorem bycp {P Q0 : Prop} (a0 : Q0) (h : Q0→P:=by intro a0_;rw [hg];exact (vM (w:=w) (g:=g) (row:=none) (bybn a0_))) : P:=h a0
theorem bycq {P Q0 Q1 : Prop} (a0 : Q0) (a1 : Q1) (h : Q0→Q1→P:=by intro a0_ a1_;rw [hg];exact (vM (w:=w) (g:=g) (row:=none) (bybr a0_ a1_))) : P:=h a0 a1
theorem q_2 {P0 P1 : Prop} (h0 : P0) (h1 : P1) : qA P0∧qA P1:=⟨⟨h0⟩,⟨h1⟩⟩
theorem q_3 {P0 P1 P2 : Prop} (h0 : P0) (h1 : P1) (h2 : P2) : qA P0∧qA P1∧qA P2:=⟨⟨h0⟩,⟨h1⟩,⟨h2⟩⟩
theorem q_4 {P0 P1 P2 P3 : Prop} (h0 : P0) (h1 : P1) (h2 : P2) (h3 : P3) : qA P0∧qA P1∧qA P2∧qA P3:=⟨⟨h0⟩,⟨h1⟩,⟨h2⟩,⟨h3⟩⟩
theorem q_5 {P0 P1 P2 P3 P4 : Prop} (h0 : P0) (h1 : P1) (h2 : P2) (h3 : P3) (h4 : P4) : qA P0∧qA P1∧qA P2∧qA P3∧qA P4:=⟨⟨h0⟩,⟨h1⟩,⟨h2⟩,⟨h3⟩,⟨h4⟩⟩
theorem q_6 {P0 P1 P2 P3 P4 P5 : Prop} (h0 : P0) (h1 : P1) (h2 : P2) (h3 : P3) (h4 : P4) (h5 : P5) : qA P0∧qA P1∧qA P2∧qA P3∧qA P4∧qA P5:=⟨⟨h0⟩,⟨h1⟩,⟨h2⟩,⟨h3⟩,⟨h4⟩,⟨h5⟩⟩
theorem q_7 {P0 P1 P2 P3 P4 P5 P6 : Prop} (h0 : P0) (h1 : P1) (h2 : P2) (h3 : P3) (h4 : P4) (h5 : P5) (h6 : P6) : qA P0∧qA P1∧qA P2∧qA P3∧qA P4∧qA P5∧qA P6:=⟨⟨h0⟩,⟨h1⟩,⟨h2⟩,⟨h3⟩,⟨h4⟩,⟨h5⟩,⟨h6⟩⟩
theorem q_8 {P0 P1 P2 P3 P4 P5 P6 P7 : Prop} (h0 : P0) (h1 : P1) (h2 : P2) (h3 : P3) (h4 : P4) (h5 : P5) (h6 : P6) (h7 : P7) : qA P0∧qA P1∧qA P2∧qA P3∧qA P4∧qA P5∧qA P6∧qA P7:=⟨⟨h0⟩,⟨h1⟩,⟨h2⟩,⟨h3⟩,⟨h4⟩,⟨h5⟩,⟨h6⟩,⟨h7⟩⟩
theorem q_9 {P0 P1 P2 P3 P4 P5 P6 P7 P8 : Prop} (h0 : P0) (h1 : P1) (h2 : P2) (h3 : P3) (h4 : P4) (h5 : P5) (h6 : P6) (h7 : P7) (h8 : P8) : qA P0∧qA P1∧qA P2∧qA P3∧qA P4∧qA P5∧qA P6∧qA P7∧qA P8:=⟨⟨h0⟩,⟨h1⟩,⟨h2⟩,⟨h3⟩,⟨h4⟩,⟨h5⟩,⟨h6⟩,⟨h7⟩,⟨h8⟩⟩
theorem q_11 {P0 P1 P2 P3 P4 P5 P6 P7 P8 P9 P10 : Prop} (h0 : P0) (h1 : P1) (h2 : P2) (h3 : P3) (h4 : P4) (h5 : P5) (h6 : P6) (h7 : P7) (h8 : P8) (h9 : P9) (h10 : P10) : qA P0∧qA P1∧qA P2∧qA P3∧qA P4∧qA P5∧qA P6∧qA P7∧qA P8∧qA P9∧qA P10:=⟨⟨h0⟩,⟨h1⟩,⟨h2⟩,⟨h3⟩,⟨h4⟩,⟨h5⟩,⟨h6⟩,⟨h7⟩,⟨h8⟩,⟨h9⟩,⟨h10⟩⟩
theorem q_12 {P0 P1 P2 P3 P4 P5 P6 P7 P8 P9 P10 P11 : Prop} (h0 : P0) (h1 : P1) (h2 : P2) (h3 : P3) (h4 : P4) (h5 : P5) (h6 : P6) (h7 : P7) (h8 : P8) (h9 : P9) (h10 : P10) (h11 : P11) : qA P0∧qA P1∧qA P2∧qA P3∧qA P4∧qA P5∧qA P6∧qA P7∧qA P8∧qA P9∧qA P10∧qA P11:=⟨⟨h0⟩,⟨h1⟩,⟨h2⟩,⟨h3⟩,⟨h4⟩,⟨h5⟩,⟨h6⟩,⟨h7⟩,⟨h8⟩,⟨h9⟩,⟨h10⟩,⟨h11⟩⟩
theorem q_13 {P0 P1 P2 P3 P4 P5 P6 P7 P8 P9 P10 P11 P12 : Prop} (h0 : P0) (h1 : P1) (h2 : P2) (h3 : P3) (h4 : P4) (h5 : P5) (h6 : P6) (h7 : P7) (h8 : P8) (h9 : P9) (h10 : P10) (h11 : P11) (h12 : P12) : qA P0∧qA P1∧qA P2∧qA P3∧qA P4∧qA P5∧qA P6∧qA P7∧qA P8∧qA P9∧qA P10∧qA P11∧qA P12:=⟨⟨h0⟩,⟨h1⟩,⟨h2⟩,⟨h3⟩,⟨h4⟩,⟨h5⟩,⟨h6⟩,⟨h7⟩,⟨h8⟩,⟨h9⟩,⟨h10⟩,⟨h11⟩,⟨h12⟩⟩
theorem q_14 {P0 P1 P2 P3 P4 P5 P6 P7 P8 P9 P10 P11 P12 P13 : Prop} (h0 : P0) (h1 : P1) (h2 : P2) (h3 : P3) (h4 : P4) (h5 : P5) (h6 : P6) (h7 : P7) (h8 : P8) (h9 : P9) (h10 : P10) (h11 : P11) (h12 : P12) (h13 : P13) : qA P0∧qA P1∧qA P2∧qA P3∧qA P4∧qA P5∧qA P6∧qA P7∧qA P8∧qA P9∧qA P10∧qA P11∧qA P12∧qA P13:=⟨⟨h0⟩,⟨h1⟩,⟨h2⟩,⟨h3⟩,⟨h4⟩,⟨h5⟩,⟨h6⟩,⟨h7⟩,⟨h8⟩,⟨h9⟩,⟨h10⟩,⟨h11⟩,⟨h12⟩,⟨h13⟩⟩
theorem q_15 {P0 P1 P2 P3 P4 P5 P6 P7 P8 P9 P10 P11 P12 P13 P14 : Prop} (h0 : P0) (h1 : P1) (h2 : P2) (h3 : P3) (h4 : P4) (h5 : P5) (h6 : P6) (h7 : P7) (h8 : P8) (h9 : P9) (h10 : P10) (h11 : P11) (h12 : P12) (h13 : P13) (h14 : P14) : qA P0∧qA P1∧qA P2∧qA P3∧qA P4∧qA P5∧qA P6∧qA P7∧qA P8∧qA P9∧qA P10∧qA P11∧qA P12∧qA P13∧qA P14:=⟨⟨h0⟩,⟨h1⟩,⟨h2⟩,⟨h3⟩,⟨h4⟩,⟨h5⟩,⟨h6⟩,⟨h7⟩,⟨h8⟩,⟨h9⟩,⟨h10⟩,⟨h11⟩,⟨h12⟩,⟨h13⟩,⟨h14⟩⟩
def bb (n m : Nat) : Array Bool:=((List.range n).map m.testBit).toArray
theorem kN {P : Program} {ops : Array Oper} {Q : Exit→Act→World→Prop} {md : Region.Mode} {S : World→Prop} {ds : List Nat} {fuel : Nat} {l : Array Bool} {a0 a' : Act} {N : Option Tmp} {v : Value} {w : World} (h : jV P md ops Q S ds fuel l a' w) (ha : a0.put N v = a':=by simp only [Act.put,List.setIfInBounds_toArray,List.set_cons_zero,List.set_cons_succ,Qe,Qh];rfl) : jV P md ops Q S ds fuel l (a0.put N v) w:=norm_ ha h
theorem Qr {P : Program} {ops : Array Oper} {Q : Exit→Act→World→Prop} {md : Region.Mode} {S : World→Prop} {ds : List Nat} {i : Nat} {N : Option Tmp} {oi : Oper} {v : Value} {fuel : Nat} {l : Array Bool} {a : Act} {w : World} (l' : Array Bool) {a' : Act} (h : jV P md ops Q S ds fuel l' a' w) (hi : ops[i]? = some oi:=by rfl) (hN : oi.dst = N:=by rfl) (hc : anyB md ops l l' i = true:=by kernel_rfl) (hQ : ∀ c a w,Q (.panic c) (a.put oi.dst v) w→Q (.panic c) a w:=by exact fun _ _ _ h=>h) (hy : Yields P ops oi v a:=by refine Or.inl ⟨by rfl,?_⟩;intro w';go_simp;with_reducible rfl) (ha : a.put N v = a':=by simp only [Act.put,List.setIfInBounds_toArray,List.set_cons_zero,List.set_cons_succ,Qe,Qh];rfl) : jV P md ops Q S ds (fuel + 1) l a w:=pure_ l' hi hN hc hQ hy ha h
theorem takeZA {P : Program} {ops : Array Oper} {Q : Exit→Act→World→Prop} {md : Region.Mode} {S : World→Prop} {ds : List Nat} {i : Nat} {N : Option Tmp} {oi : Oper} {v : Value} {fuel : Nat} {l : Array Bool} {a : Act} {w : World} (l' : Array Bool) (hS : S w) {a' : Act} (h : jV P md ops Q S ds fuel l' a' w) (hi : ops[i]? = some oi:=by rfl) (hN : oi.dst = N:=by rfl) (hc : takeB md ops ds l l' i = true:=by kernel_rfl) (hQ : ∀ c a w,Q (.panic c) (a.put oi.dst v) w→Q (.panic c) a w:=by exact fun _ _ _ h=>h) (hy : YieldsIf P ops S oi v a:=by refine Or.inl ⟨by rfl,?_⟩;rintro w' ⟨s0,s1,s2,s3⟩;go_simp;with_reducible rfl) (ha : a.put N v = a':=by simp only [Act.put,List.setIfInBounds_toArray,List.set_cons_zero,List.set_cons_succ,Qe,Qh];rfl) : jV P md ops Q S ds (fuel + 1) l a w:=take_ l' hi hN hc hQ hy hS ha h
theorem takeZB {P : Program} {ops : Array Oper} {Q : Exit→Act→World→Prop} {md : Region.Mode} {S : World→Prop} {ds : List Nat} {i : Nat} {N : Option Tmp} {oi : Oper} {v : Value} {fuel : Nat} {l : Array Bool} {a : Act} {w : World} (l' : Array Bool) (hS : S w) {a' : Act} (h : jV P md ops Q S ds fuel l' a' w) (hi : ops[i]? = some oi:=by rfl) (hN : oi.dst = N:=by rfl) (hc : takeB md ops ds l l' i = true:=by kernel_rfl) (hQ : ∀ c a w,Q (.panic c) (a.put oi.dst v) w→Q (.panic c) a w:=by exact fun _ _ _ h=>h) (hy : YieldsIf P ops S oi v a:=by refine Or.inl ⟨by rfl,?_⟩;intro w' s0;go_simp;with_reducible rfl) (ha : a.put N v = a':=by simp only [Act.put,List.setIfInBounds_toArray,List.set_cons_zero,List.set_cons_succ,Qe,Qh];rfl) : jV P md ops Q S ds (fuel + 1) l a w:=take_ l' hi hN hc hQ hy hS ha h
theorem zH {P : Program} {ops : Array Oper} {Q : Exit→Act→World→Prop} {md : Region.Mode} {S : World→Prop} {ds : List Nat} {i : Nat} {N : Option Tmp} {oi : Oper} {v : Value} {fuel : Nat} {l : Array Bool} {a : Act} {w : World} (l' : Array Bool) {a' : Act} (h : jV P md ops Q S ds fuel l' a' w) (hi : ops[i]? = some oi:=by rfl) (hN : oi.dst = N:=by rfl) (hc : anyB md ops l l' i = true:=by exact (any_of HT_.out (by kernel_rfl))) (hQ : ∀ c a w,Q (.panic c) (a.put oi.dst v) w→Q (.panic c) a w:=by exact fun _ _ _ h=>h) (hy : Yields P ops oi v a:=by refine Or.inl ⟨by rfl,?_⟩;intro w';go_simp;with_reducible rfl) (ha : a.put N v = a':=by simp only [Act.put,List.setIfInBounds_toArray,List.set_cons_zero,List.set_cons_succ,Qe,Qh];rfl) : jV P md ops Q S ds (fuel + 1) l a w:=pure_ l' hi hN hc hQ hy ha h
theorem takeZC {P : Program} {ops : Array Oper} {Q : Exit→Act→World→Prop} {md : Region.Mode} {S : World→Prop} {ds : List Nat} {i : Nat} {N : Option Tmp} {oi : Oper} {v : Value} {fuel : Nat} {l : Array Bool} {a : Act} {w : World} (l' : Array Bool) (hS : S w) {a' : Act} (h : jV P md ops Q S ds fuel l' a' w) (hi : ops[i]? = some oi:=by rfl) (hN : oi.dst = N:=by rfl) (hc : takeB md ops ds l l' i = true:=by exact (take_ofW HT_.out HW_.out (by kernel_rfl))) (hQ : ∀ c a w,Q (.panic c) (a.put oi.dst v) w→Q (.panic c) a w:=by exact fun _ _ _ h=>h) (hy : YieldsIf P ops S oi v a:=by refine Or.inl ⟨by rfl,?_⟩;intro w' s0;go_simp;with_reducible rfl) (ha : a.put N v = a':=by simp only [Act.put,List.setIfInBounds_toArray,List.set_cons_zero,List.set_cons_succ,Qe,Qh];rfl) : jV P md ops Q S ds (fuel + 1) l a w:=take_ l' hi hN hc hQ hy hS ha h
theorem takeZD {P : Program} {ops : Array Oper} {Q : Exit→Act→World→Prop} {md : Region.Mode} {S : World→Prop} {ds : List Nat} {i : Nat} {N : Option Tmp} {oi : Oper} {v : Value} {fuel : Nat} {l : Array Bool} {a : Act} {w : World} (l' : Array Bool) (hS : S w) {a' : Act} (h : jV P md ops Q S ds fuel l' a' w) (hi : ops[i]? = some oi:=by rfl) (hN : oi.dst = N:=by rfl) (hc : takeB md ops ds l l' i = true:=by exact (take_ofW HT_.out HW_.out (by kernel_rfl))) (hQ : ∀ c a w,Q (.panic c) (a.put oi.dst v) w→Q (.panic c) a w:=by exact fun _ _ _ h=>h) (hy : YieldsIf P ops S oi v a:=by refine Or.inl ⟨by rfl,?_⟩;rintro w' ⟨s0,s1,s2,s3⟩;go_simp;with_reducible rfl) (ha : a.put N v = a':=by simp only [Act.put,List.setIfInBounds_toArray,List.set_cons_zero,List.set_cons_succ,Qe,Qh];rfl) : jV P md ops Q S ds (fuel + 1) l a w:=take_ l' hi hN hc hQ hy hS ha h
theorem takeZE {P : Program} {ops : Array Oper} {Q : Exit→Act→World→Prop} {md : Region.Mode} {S : World→Prop} {ds : List Nat} {i : Nat} {N : Option Tmp} {oi : Oper} {v : Value} {fuel : Nat} {l : Array Bool} {a : Act} {w : World} (l' : Array Bool) (hS : S w) {a' : Act} (h : jV P md ops Q S ds fuel l' a' w) (hi : ops[i]? = some oi:=by rfl) (hN : oi.dst = N:=by rfl) (hc : takeB md ops ds l l' i = true:=by exact (take_ofW HT_.out HW_.out (by kernel_rfl))) (hQ : ∀ c a w,Q (.panic c) (a.put oi.dst v) w→Q (.panic c) a w:=by exact fun _ _ _ h=>h) (hy : YieldsIf P ops S oi v a:=by refine Or.inl ⟨by rfl,?_⟩;rintro w' ⟨s0,s1,s2⟩;go_simp;with_reducible rfl) (ha : a.put N v = a':=by simp only [Act.put,List.setIfInBounds_toArray,List.set_cons_zero,List.set_cons_succ,Qe,Qh];rfl) : jV P md ops Q S ds (fuel + 1) l a w:=take_ l' hi hN hc hQ hy hS ha h
theorem takeZF {P : Program} {ops : Array Oper} {Q : Exit→Act→World→Prop} {md : Region.Mode} {S : World→Prop} {ds : List Nat} {i : Nat} {N : Option Tmp} {oi : Oper} {v : Value} {fuel : Nat} {l : Array Bool} {a : Act} {w : World} (l' : Array Bool) (hS : S w) {a' : Act} (h : jV P md ops Q S ds fuel l' a' w) (hi : ops[i]? = some oi:=by rfl) (hN : oi.dst = N:=by rfl) (hc : takeB md ops ds l l' i = true:=by exact (take_ofW HT_.out HW_.out (by kernel_rfl))) (hQ : ∀ c a w,Q (.panic c) (a.put oi.dst v) w→Q (.panic c) a w:=by exact fun _ _ _ h=>h) (hy : YieldsIf P ops S oi v a:=by refine Or.inl ⟨by rfl,?_⟩;rintro w' ⟨s0,s1,s2,s3,s4,s5,s6,s7,s8,s9⟩;go_simp;with_reducible rfl) (ha : a.put N v = a':=by simp only [Act.put,List.setIfInBounds_toArray,List.set_cons_zero,List.set_cons_succ,Qe,Qh];rfl) : jV P md ops Q S ds (fuel + 1) l a w:=take_ l' hi hN hc hQ hy hS ha h
theorem takeZG {P : Program} {ops : Array Oper} {Q : Exit→Act→World→Prop} {md : Region.Mode} {S : World→Prop} {ds : List Nat} {i : Nat} {N : Option Tmp} {oi : Oper} {v : Value} {fuel : Nat} {l : Array Bool} {a : Act} {w : World} (l' : Array Bool) (hS : S w) {a' : Act} (h : jV P md ops Q S ds fuel l' a' w) (hi : ops[i]? = some oi:=by rfl) (hN : oi.dst = N:=by rfl) (hc : takeB md ops ds l l' i = true:=by exact (take_ofW HT_.out HW_.out (by kernel_rfl))) (hQ : ∀ c a w,Q (.panic c) (a.put oi.dst v) w→Q (.panic c) a w:=by exact fun _ _ _ h=>h) (hy : YieldsIf P ops S oi v a:=by refine Or.inl ⟨by rfl,?_⟩;rintro w' ⟨s0,s1,s2,s3,s4,s5,s6⟩;go_simp;with_reducible rfl) (ha : a.put N v = a':=by simp only [Act.put,List.setIfInBounds_toArray,List.set_cons_zero,List.set_cons_succ,Qe,Qh];rfl) : jV P md ops Q S ds (fuel + 1) l a w:=take_ l' hi hN hc hQ hy hS ha h
theorem Q9 {P : Program} {ops : Array Oper} {Q : Exit→Act→World→Prop} {md : Region.Mode} {S : World→Prop} {ds : List Nat} {i : Nat} {N : Option Tmp} {oi : Oper} {fuel : Nat} {l : Array Bool} {a : Act} {w : World} (l' : Array Bool) {a' : Act} (h : jV P md ops Q S ds fuel l' a' w) (hi : ops[i]? = some oi:=by rfl) (hN : oi.dst = N:=by rfl) (hc : anyB md ops l l' i = true:=by exact (any_of HT_.out (by kernel_rfl))) (hQ : ∀ c a w,Q (.panic c) (a.put oi.dst undef) w→Q (.panic c) a w:=by exact fun _ _ _ h=>h) (hy : Yields P ops oi undef a:=by exact Or.inr ⟨by rfl,rfl⟩) (ha : a.put N undef = a':=by simp only [Act.put,List.setIfInBounds_toArray,List.set_cons_zero,List.set_cons_succ,Qe,Qh];rfl) : jV P md ops Q S ds (fuel + 1) l a w:=pure_ l' hi hN hc hQ hy ha h
theorem takeZH {P : Program} {ops : Array Oper} {Q : Exit→Act→World→Prop} {md : Region.Mode} {S : World→Prop} {ds : List Nat} {i : Nat} {N : Option Tmp} {oi : Oper} {v : Value} {fuel : Nat} {l : Array Bool} {a : Act} {w : World} (l' : Array Bool) (hS : S w) {a' : Act} (h : jV P md ops Q S ds fuel l' a' w) (hi : ops[i]? = some oi:=by rfl) (hN : oi.dst = N:=by rfl) (hc : takeB md ops ds l l' i = true:=by exact (take_ofW HT_.out HW_.out (by kernel_rfl))) (hQ : ∀ c a w,Q (.panic c) (a.put oi.dst v) w→Q (.panic c) a w:=by exact fun _ _ _ h=>h) (hy : YieldsIf P ops S oi v a:=by refine Or.inl ⟨by rfl,?_⟩;rintro w' ⟨s0,s1⟩;go_simp;with_reducible rfl) (ha : a.put N v = a':=by simp only [Act.put,List.setIfInBounds_toArray,List.set_cons_zero,List.set_cons_succ,Qe,Qh];rfl) : jV P md ops Q S ds (fuel + 1) l a w:=take_ l' hi hN hc hQ hy hS ha h
theorem takeZI {P : Program} {ops : Array Oper} {Q : Exit→Act→World→Prop} {md : Region.Mode} {S : World→Prop} {ds : List Nat} {i : Nat} {N : Option Tmp} {oi : Oper} {v : Value} {fuel : Nat} {l : Array Bool} {a : Act} {w : World} (l' : Array Bool) (hS : S w) {a' : Act} (h : jV P md ops Q S ds fuel l' a' w) (hi : ops[i]? = some oi:=by rfl) (hN : oi.dst = N:=by rfl) (hc : takeB md ops ds l l' i = true:=by exact (take_ofW HT_.out HW_.out (by kernel_rfl))) (hQ : ∀ c a w,Q (.panic c) (a.put oi.dst v) w→Q (.panic c) a w:=by exact fun _ _ _ h=>h) (hy : YieldsIf P ops S oi v a:=by refine Or.inl ⟨by rfl,?_⟩;rintro w' ⟨s0,s1,s2,s3,s4,s5,s6,s7,s8,s9,s10,s11⟩;go_simp;with_reducible rfl) (ha : a.put N v = a':=by simp only [Act.put,List.setIfInBounds_toArray,List.set_cons_zero,List.set_cons_succ,Qe,Qh];rfl) : jV P md ops Q S ds (fuel + 1) l a w:=take_ l' hi hN hc hQ hy hS ha h
theorem takeZJ {P : Program} {ops : Array Oper} {Q : Exit→Act→World→Prop} {md : Region.Mode} {S : World→Prop} {ds : List Nat} {i : Nat} {N : Option Tmp} {oi : Oper} {v : Value} {fuel : Nat} {l : Array Bool} {a : Act} {w : World} (l' : Array Bool) (hS : S w) {a' : Act} (h : jV P md ops Q S ds fuel l' a' w) (hi : ops[i]? = some oi:=by rfl) (hN : oi.dst = N:=by rfl) (hc : takeB md ops ds l l' i = true:=by exact (take_ofW HT_.out HW_.out (by kernel_rfl))) (hQ : ∀ c a w,Q (.panic c) (a.put oi.dst v) w→Q (.panic c) a w:=by exact fun _ _ _ h=>h) (hy : YieldsIf P ops S oi v a:=by refine Or.inl ⟨by rfl,?_⟩;rintro w' ⟨s0,s1,s2,s3,s4⟩;go_simp;with_reducible rfl) (ha : a.put N v = a':=by simp only [Act.put,List.setIfInBounds_toArray,List.set_cons_zero,List.set_cons_succ,Qe,Qh];rfl) : jV P md ops Q S ds (fuel + 1) l a w:=take_ l' hi hN hc hQ hy hS ha h
def errW : Option Int→Value
 | none=>.nilIface
 | some c=>.iface 0 (.int .i64 c)
theorem uC : errW none = .nilIface:=rfl
theorem uD (c : Int) : errW (some c) = .iface 0 (.int .i64 c):=rfl
theorem info3 : (Try.prog.info? 3).map (fun i=>(i.zero,i.size,i.bytes)) = some (some (.int .i64 0),1,8):=by kernel_rfl
theorem info28 : (Try.prog.info? 28).map (fun i=>(i.zero,i.size,i.bytes)) = some (some (.agg #[(.int .i64 0),(.int .i64 0),(.slice none 0 0)]),3,40):=by kernel_rfl
theorem info56 : (Try.prog.info? 56).map (fun i=>(i.zero,i.size,i.bytes)) = some (some (.agg #[(.int .i64 0),(.slice none 0 0),(.slice none 0 0)]),3,56):=by kernel_rfl
theorem info58 : (Try.prog.info? 58).map (fun i=>(i.zero,i.size,i.bytes)) = some (some (.agg #[(.bool false),(.int .i64 0),(.slice none 0 0),(.slice none 0 0)]),4,64):=by kernel_rfl
structure S56 where
 f0 : Int
 f1 : (List Int)
 f2 : (List S56)
def z56 : S56:=⟨(0 : Int),([] : List Int),([] : List S56)⟩
def F56 (d : Kd S56) : Kd S56:=Kd.iso (Kd.pair (Kd.int .i64) (Kd.pair (Kd.slice 3 (Kd.int .i64)) (Kd.slice 56 d))) (fun x : S56=>(x.f0,x.f1,x.f2))
theorem mono56 : Kd.Mono F56:=Kd.mono_iso _ (Kd.mono_pair (Kd.mono_const _) (Kd.mono_pair (Kd.mono_const _) (Kd.mono_slice 56 Kd.mono_id)))
theorem sub56 : Kd.Sub F56 [3,56]:=Kd.sub_iso _ (Kd.sub_pair (Kd.sub_const _ (by decide)) (Kd.sub_pair (Kd.sub_const _ (by decide)) (Kd.sub_slice 56 (by decide) Kd.sub_id)))
theorem sz56 : ∀ n,(Kd.upto F56 3 [3,56] n).sz = 3:=Kd.upto_sz (fun _=>rfl)
def k56 : Kd S56:=Kd.fix F56 3 [3,56] sz56 (Kd.upto_E sub56)
theorem k56_open {w : World} {x : S56} {cs : List Value} (h : k56.K w x cs) : ∃ A1 c1 A2 c2,cs = [.int .i64 x.f0,.slice A1 x.f1.length c1,.slice A2 x.f2.length c2]∧x.f1.length ≤ c1∧(Kd.int .i64).C w A1 x.f1.length x.f1∧x.f2.length ≤ c2∧k56.C w A2 x.f2.length x.f2:=by
 obtain ⟨n,h⟩:=h
 cases n with
 | zero=>exact h.elim
 | succ n =>
  obtain ⟨_,_,rfl,rfl,⟨_,_,rfl,⟨A1,c1,rfl,l1,g1⟩,⟨A2,c2,rfl,l2,g2⟩⟩⟩:=h
  exact ⟨A1,c1,A2,c2,rfl,l1,g1,l2,Kd.fix_C g2⟩
theorem k56_openM {w : World} {base : Nat} {ok : Nat→Prop} {x : S56} {cs : List Value} (h : k56.M w base ok x cs) : ∃ v1 v2,cs = [.int .i64 x.f0,v1,v2]∧(Kd.int .i64).R 3 w base ok v1 x.f1∧k56.R 56 w base ok v2 x.f2:=by
 obtain ⟨n,h⟩:=h
 cases n with
 | zero=>exact h.elim
 | succ n =>
  obtain ⟨_,_,rfl,rfl,⟨_,_,rfl,⟨v1,rfl,g1⟩,⟨v2,rfl,g2⟩⟩⟩:=h
  exact ⟨v1,v2,rfl,g1,Kd.fix_R g2⟩
theorem k56_mkM (w : World) (base : Nat) (ok : Nat→Prop) (x : S56) {v1 : Value} (g1 : (Kd.int .i64).R 3 w base ok v1 x.f1) {v2 : Value} (g2 : k56.R 56 w base ok v2 x.f2) : k56.M w base ok x [.int .i64 x.f0,v1,v2]:=by
 obtain ⟨n2,q2⟩:=Kd.fix_R_back mono56 g2
 have r2:=Kd.upto_R_le mono56 sz56 (show n2 ≤ n2 by omega) q2
 exact ⟨n2 + 1,⟨[.int .i64 x.f0],[v1,v2],rfl,rfl,⟨[v1],[v2],rfl,⟨v1,rfl,g1⟩,⟨v2,rfl,r2⟩⟩⟩⟩
def qM (xs : List S56) (i : Int) : S56:=xs.getD i.toNat z56
theorem Zj {w : World} {A : Option Addr} {n : Nat} {xs : List S56} (h : Kd.C k56 w A n xs) (i : Int) (h0 : 0 ≤ i) (h1 : i < n) : ∃ ad A1 c1 A2 c2,A = some ad∧w.cell? (ad.add (i.toNat * 3)) = some (.int .i64 (qM xs i).f0)∧w.cell? ⟨(ad.add (i.toNat * 3)).block,(ad.add (i.toNat * 3)).off + 1,none⟩ = some (.slice A1 (qM xs i).f1.length c1)∧w.cell? ⟨(ad.add (i.toNat * 3)).block,(ad.add (i.toNat * 3)).off + 2,none⟩ = some (.slice A2 (qM xs i).f2.length c2)∧(qM xs i).f1.length ≤ c1∧(Kd.int .i64).C w A1 (qM xs i).f1.length (qM xs i).f1∧(qM xs i).f2.length ≤ c2∧k56.C w A2 (qM xs i).f2.length (qM xs i).f2:=by
 obtain ⟨ad,c,e,_,hK,hc0⟩:=Kd.C_get h z56 i h0 h1
 have hc : ∀ j u,c[j]? = some u→w.cell? (ad.add (i.toNat * 3 + j)) = some u:=hc0
 obtain ⟨A1,c1,A2,c2,rfl,l1,g1,l2,g2⟩:=k56_open hK
 exact ⟨ad,A1,c1,A2,c2,e,hc 0 _ rfl,by rw [← Za _ _ 1 (by omega)];exact hc 1 _ rfl,by rw [← Za _ _ 2 (by omega)];exact hc 2 _ rfl,l1,g1,l2,g2⟩
structure S58 where
 f0 : Bool
 f1 : S56
def z58 : S58:=⟨false,z56⟩
def k58 : Kd S58:=Kd.iso (Kd.pair Kd.bool k56) (fun x : S58=>(x.f0,x.f1))
theorem k58_open {w : World} {x : S58} {cs : List Value} (h : k58.K w x cs) : ∃ A2 c2 A3 c3,cs = [.bool x.f0,.int .i64 x.f1.f0,.slice A2 x.f1.f1.length c2,.slice A3 x.f1.f2.length c3]∧x.f1.f1.length ≤ c2∧(Kd.int .i64).C w A2 x.f1.f1.length x.f1.f1∧x.f1.f2.length ≤ c3∧k56.C w A3 x.f1.f2.length x.f1.f2:=by
 obtain ⟨_,_,rfl,rfl,s1⟩:=h
 obtain ⟨A2,c2,A3,c3,rfl,l2,g2,l3,g3⟩:=k56_open s1
 exact ⟨A2,c2,A3,c3,rfl,l2,g2,l3,g3⟩
theorem k58_mkM (w : World) (base : Nat) (ok : Nat→Prop) (x : S58) {v2 : Value} (g2 : (Kd.int .i64).R 3 w base ok v2 x.f1.f1) {v3 : Value} (g3 : k56.R 56 w base ok v3 x.f1.f2) : k58.M w base ok x [.bool x.f0,.int .i64 x.f1.f0,v2,v3]:=⟨[.bool x.f0],[.int .i64 x.f1.f0,v2,v3],rfl,rfl,(k56_mkM w base ok x.f1 g2 g3)⟩
def zD (xs : List S58) (i : Int) : S58:=xs.getD i.toNat z58
theorem Zm {w : World} {A : Option Addr} {n : Nat} {xs : List S58} (h : Kd.C k58 w A n xs) (i : Int) (h0 : 0 ≤ i) (h1 : i < n) : ∃ ad A2 c2 A3 c3,A = some ad∧w.cell? (ad.add (i.toNat * 4)) = some (.bool (zD xs i).f0)∧w.cell? ⟨(ad.add (i.toNat * 4)).block,(ad.add (i.toNat * 4)).off + 1,none⟩ = some (.int .i64 (zD xs i).f1.f0)∧w.cell? ⟨(ad.add (i.toNat * 4)).block,(ad.add (i.toNat * 4)).off + 2,none⟩ = some (.slice A2 (zD xs i).f1.f1.length c2)∧w.cell? ⟨(ad.add (i.toNat * 4)).block,(ad.add (i.toNat * 4)).off + 3,none⟩ = some (.slice A3 (zD xs i).f1.f2.length c3)∧(zD xs i).f1.f1.length ≤ c2∧(Kd.int .i64).C w A2 (zD xs i).f1.f1.length (zD xs i).f1.f1∧(zD xs i).f1.f2.length ≤ c3∧k56.C w A3 (zD xs i).f1.f2.length (zD xs i).f1.f2:=by
 obtain ⟨ad,c,e,_,hK,hc0⟩:=Kd.C_get h z58 i h0 h1
 have hc : ∀ j u,c[j]? = some u→w.cell? (ad.add (i.toNat * 4 + j)) = some u:=hc0
 obtain ⟨A2,c2,A3,c3,rfl,l2,g2,l3,g3⟩:=k58_open hK
 exact ⟨ad,A2,c2,A3,c3,e,hc 0 _ rfl,by rw [← Za _ _ 1 (by omega)];exact hc 1 _ rfl,by rw [← Za _ _ 2 (by omega)];exact hc 2 _ rfl,by rw [← Za _ _ 3 (by omega)];exact hc 3 _ rfl,l2,g2,l3,g3⟩
structure S28 where
 f0 : Int
 f1 : Int
 f2 : (List S28)
def z28 : S28:=⟨(0 : Int),(0 : Int),([] : List S28)⟩
def F28 (d : Kd S28) : Kd S28:=Kd.iso (Kd.pair (Kd.int .i64) (Kd.pair (Kd.int .i64) (Kd.slice 28 d))) (fun x : S28=>(x.f0,x.f1,x.f2))
theorem mono28 : Kd.Mono F28:=Kd.mono_iso _ (Kd.mono_pair (Kd.mono_const _) (Kd.mono_pair (Kd.mono_const _) (Kd.mono_slice 28 Kd.mono_id)))
theorem sub28 : Kd.Sub F28 [28]:=Kd.sub_iso _ (Kd.sub_pair (Kd.sub_const _ (by decide)) (Kd.sub_pair (Kd.sub_const _ (by decide)) (Kd.sub_slice 28 (by decide) Kd.sub_id)))
theorem sz28 : ∀ n,(Kd.upto F28 3 [28] n).sz = 3:=Kd.upto_sz (fun _=>rfl)
def k28 : Kd S28:=Kd.fix F28 3 [28] sz28 (Kd.upto_E sub28)
theorem k28_open {w : World} {x : S28} {cs : List Value} (h : k28.K w x cs) : ∃ A2 c2,cs = [.int .i64 x.f0,.int .i64 x.f1,.slice A2 x.f2.length c2]∧x.f2.length ≤ c2∧k28.C w A2 x.f2.length x.f2:=by
 obtain ⟨n,h⟩:=h
 cases n with
 | zero=>exact h.elim
 | succ n =>
  obtain ⟨_,_,rfl,rfl,⟨_,_,rfl,rfl,⟨A2,c2,rfl,l2,g2⟩⟩⟩:=h
  exact ⟨A2,c2,rfl,l2,Kd.fix_C g2⟩
theorem k28_mk (w : World) (x : S28) {A2 : Option Addr} {c2 : Nat} (l2 : x.f2.length ≤ c2) (g2 : k28.C w A2 x.f2.length x.f2) : k28.K w x [.int .i64 x.f0,.int .i64 x.f1,.slice A2 x.f2.length c2]:=by
 obtain ⟨n2,q2⟩:=Kd.fix_C_back mono28 g2
 have r2:=Kd.upto_C_le mono28 sz28 (show n2 ≤ n2 by omega) q2
 exact ⟨n2 + 1,⟨[.int .i64 x.f0],[.int .i64 x.f1,.slice A2 x.f2.length c2],rfl,rfl,⟨[.int .i64 x.f1],[.slice A2 x.f2.length c2],rfl,rfl,⟨A2,c2,rfl,l2,r2⟩⟩⟩⟩
theorem k28_mkM (w : World) (base : Nat) (ok : Nat→Prop) (x : S28) {v2 : Value} (g2 : k28.R 28 w base ok v2 x.f2) : k28.M w base ok x [.int .i64 x.f0,.int .i64 x.f1,v2]:=by
 obtain ⟨n2,q2⟩:=Kd.fix_R_back mono28 g2
 have r2:=Kd.upto_R_le mono28 sz28 (show n2 ≤ n2 by omega) q2
 exact ⟨n2 + 1,⟨[.int .i64 x.f0],[.int .i64 x.f1,v2],rfl,rfl,⟨[.int .i64 x.f1],[v2],rfl,rfl,⟨v2,rfl,r2⟩⟩⟩⟩
theorem k28_openF {W : World} {ok : Nat→Prop} {x : S28} {cs : List Value} (h : Kd.FK k28 W ok x cs) : ∃ A2 c2,cs = [.int .i64 x.f0,.int .i64 x.f1,.slice A2 x.f2.length c2]∧x.f2.length ≤ c2∧Kd.F k28 W ok A2 x.f2.length x.f2:=by
 obtain ⟨A2,c2,rfl,l2,_⟩:=k28_open (Kd.FK_now h)
 exact ⟨A2,c2,rfl,l2,(fun W' hW=>by obtain ⟨A2_,c2_,he,l2_,g2_⟩:=k28_open (h W' hW);injection (Option.some.inj (show some (Value.slice A2 x.f2.length c2) = some (Value.slice A2_ x.f2.length c2_) from congrArg (fun l=>l[2]?) he)) with ha_ _ _;rw [ha_];exact g2_)⟩
theorem k28_mkF (W : World) (ok : Nat→Prop) (x : S28) {A2 : Option Addr} {c2 : Nat} (l2 : x.f2.length ≤ c2) (g2 : Kd.F k28 W ok A2 x.f2.length x.f2) : Kd.FK k28 W ok x [.int .i64 x.f0,.int .i64 x.f1,.slice A2 x.f2.length c2]:=fun W2 hW=>k28_mk W2 x l2 (g2 W2 hW)
def zJ (xs : List S28) (i : Int) : S28:=xs.getD i.toNat z28
theorem at_T28 {w : World} {A : Option Addr} {n : Nat} {xs : List S28} (h : Kd.C k28 w A n xs) (i : Int) (h0 : 0 ≤ i) (h1 : i < n) : ∃ ad A2 c2,A = some ad∧w.cell? (ad.add (i.toNat * 3)) = some (.int .i64 (zJ xs i).f0)∧w.cell? ⟨(ad.add (i.toNat * 3)).block,(ad.add (i.toNat * 3)).off + 1,none⟩ = some (.int .i64 (zJ xs i).f1)∧w.cell? ⟨(ad.add (i.toNat * 3)).block,(ad.add (i.toNat * 3)).off + 2,none⟩ = some (.slice A2 (zJ xs i).f2.length c2)∧(zJ xs i).f2.length ≤ c2∧k28.C w A2 (zJ xs i).f2.length (zJ xs i).f2:=by
 obtain ⟨ad,c,e,_,hK,hc0⟩:=Kd.C_get h z28 i h0 h1
 have hc : ∀ j u,c[j]? = some u→w.cell? (ad.add (i.toNat * 3 + j)) = some u:=hc0
 obtain ⟨A2,c2,rfl,l2,g2⟩:=k28_open hK
 exact ⟨ad,A2,c2,e,hc 0 _ rfl,by rw [← Za _ _ 1 (by omega)];exact hc 1 _ rfl,by rw [← Za _ _ 2 (by omega)];exact hc 2 _ rfl,l2,g2⟩
end Go.Proofs.Ytkkbdimegpdbgaa.P
