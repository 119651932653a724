/- Functions of the program as Lean functions, and the walks that show that the calls answer so; written by a program of this session (a changed print) and by hand. -/
import Derived.Test.YtkkbdimegpdbgaaQuPx0
import Derived.Test.YtkkbdimegpdbgaaQuPx5
import Derived.Test.YtkkbdimegpdbgaaQuPx9
import Derived.Test.YtkkbdimegpdbgaaQuPx10
namespace Go.Proofs.Ytkkbdimegpdbgaa.P
open Go.RowKit Go.Proofs.YtkkbdimegpdbgaaW.PrintWords Go.Proofs.YtkkbdimegpdbgaaW.PrintLast Go.Proofs.YtkkbdimegpdbgaaW.PrintMore
attribute [local go_sem] vE vB vO vP j4 j3 vC vF
set_option linter.unusedVariables false
set_option linter.unusedSimpArgs false
def trustquorumlaw12_IntersectionUniform.f (k : Nat) (a0 : Int) (a1 : Int) : Option (Bool):=if (wrap64 (1 + (Int.tmod (wrap64 (a0)) 9))) = 0 then (none) else ((trustquorumlaw12_same.f k (wrap64 (1 + (Int.tmod (wrap64 (a0)) 9))) (wrap64 (1 + (Int.tmod (wrap64 (a1)) (wrap64 (1 + (Int.tmod (wrap64 (a0)) 9))))))).bind fun t298=>((zU.f k t298).bind fun bt301=>(if bt301.2 = 0 then (if (bt301.1 == (decide ((wrap64 (2 * (wrap64 (1 + (Int.tmod (wrap64 (a1)) (wrap64 (1 + (Int.tmod (wrap64 (a0)) 9)))))))) > (wrap64 (1 + (Int.tmod (wrap64 (a0)) 9)))))) = true then ((zA.f k).bind fun t303=>(some t303)) else (some false)) else (some false))))
set_option maxHeartbeats 8000000 in
set_option maxRecDepth 100000 in
theorem trustquorumlaw12_IntersectionUniform.calls (k : Nat) (a0 : Int) (a1 : Int) (r : Bool) (w : World) (hr_ : qB (r = true)) (h : trustquorumlaw12_IntersectionUniform.f k a0 a1 = some r) :
  Calls Try.prog 7 #[.int .u8 a0,.int .u8 a1] w fun e w'=>e = .returned (.bool r)∧Below w.heap.size w w':=by
 have HB:=qB.mk (Below.refl w.heap.size w)
 have H : (if (wrap64 (1 + (Int.tmod (wrap64 (a0)) 9))) = 0 then (none) else ((trustquorumlaw12_same.f k (wrap64 (1 + (Int.tmod (wrap64 (a0)) 9))) (wrap64 (1 + (Int.tmod (wrap64 (a1)) (wrap64 (1 + (Int.tmod (wrap64 (a0)) 9))))))).bind fun t298=>((zU.f k t298).bind fun bt301=>(if bt301.2 = 0 then (if (bt301.1 == (decide ((wrap64 (2 * (wrap64 (1 + (Int.tmod (wrap64 (a1)) (wrap64 (1 + (Int.tmod (wrap64 (a0)) 9)))))))) > (wrap64 (1 + (Int.tmod (wrap64 (a0)) 9)))))) = true then ((zA.f k).bind fun t303=>(some t303)) else (some false)) else (some false))))) = some r:=h
 clear h
 by_cases c3 : (wrap64 (1 + (Int.tmod (wrap64 (a0)) 9))) = 0
 ·rw [if_pos c3] at H
  exact absurd H (by simp)
 ·rw [if_neg c3] at H
  have c3b0 : ((wrap64 (1 + (Int.tmod (wrap64 (a0)) 9))) == 0) = false:=beq_eq_false_iff_ne.mpr c3
  have c3b1 : ((wrap64 (1 + (Int.tmod (wrap64 (a0)) 9))) != 0) = true:=bne_iff_ne.mpr c3
  replace H:=Option.bind_eq_some_iff.mp H
  obtain ⟨t298,A40,H⟩:=H
  replace H : ((zU.f k t298).bind fun bt301=>(if bt301.2 = 0 then (if (bt301.1 == (decide ((wrap64 (2 * (wrap64 (1 + (Int.tmod (wrap64 (a1)) (wrap64 (1 + (Int.tmod (wrap64 (a0)) 9)))))))) > (wrap64 (1 + (Int.tmod (wrap64 (a0)) 9)))))) = true then ((zA.f k).bind fun t303=>(some t303)) else (some false)) else (some false))) = some r:=H
  have A4:=qB.mk A40
  clear A40
  replace H:=Option.bind_eq_some_iff.mp H
  obtain ⟨⟨t301,t302⟩,A50,H⟩:=H
  replace H : (if t302 = 0 then (if (t301 == (decide ((wrap64 (2 * (wrap64 (1 + (Int.tmod (wrap64 (a1)) (wrap64 (1 + (Int.tmod (wrap64 (a0)) 9)))))))) > (wrap64 (1 + (Int.tmod (wrap64 (a0)) 9)))))) = true then ((zA.f k).bind fun t303=>(some t303)) else (some false)) else (some false)) = some r:=H
  have A5:=qB.mk A50
  clear A50
  by_cases c6 : t302 = 0
  ·rw [if_pos c6] at H
   have c6b0 : (t302 == 0) = true:=beq_iff_eq.mpr c6
   have c6b1 : (t302 != 0) = false:=bne_eq_false_iff_eq.mpr c6
   clear c6
   by_cases c7 : (t301 == (decide ((wrap64 (2 * (wrap64 (1 + (Int.tmod (wrap64 (a1)) (wrap64 (1 + (Int.tmod (wrap64 (a0)) 9)))))))) > (wrap64 (1 + (Int.tmod (wrap64 (a0)) 9)))))) = true
   ·rw [if_pos c7] at H
    have c7b0 : (t301 == (decide ((wrap64 (2 * (wrap64 (1 + (Int.tmod (wrap64 (a1)) (wrap64 (1 + (Int.tmod (wrap64 (a0)) 9)))))))) > (wrap64 (1 + (Int.tmod (wrap64 (a0)) 9)))))) = true:=c7
    (try (have c7b1 : decide (t301 = (decide ((wrap64 (2 * (wrap64 (1 + (Int.tmod (wrap64 (a1)) (wrap64 (1 + (Int.tmod (wrap64 (a0)) 9)))))))) > (wrap64 (1 + (Int.tmod (wrap64 (a0)) 9)))))) = true:=by simpa using c7))
    (try (have c7b2 : (t301 == (decide ((wrap64 (2 * (wrap64 (1 + (Int.tmod (wrap64 (a1)) (wrap64 (1 + (Int.tmod (wrap64 (a0)) 9)))))))) > (wrap64 (1 + (Int.tmod (wrap64 (a0)) 9)))))) = true:=by simpa using c7))
    clear c7
    replace H:=Option.bind_eq_some_iff.mp H
    obtain ⟨t303,A80,H⟩:=H
    replace H : (some t303) = some r:=H
    have A8:=qB.mk A80
    clear A80
    obtain rfl:=Option.some.inj H
    go_enter Try.func7,Try.ntmps7
    go_wp2_with (first|((with_reducible refine qV (f:=25) rfl ?_);refine zX (some 21) rfl rfl Try.func25 (by kernel_rfl) rfl #[.int .i64 (wrap64 (1 + (Int.tmod (wrap64 (a0)) 9))),.int .i64 (wrap64 (1 + (Int.tmod (wrap64 (a1)) (wrap64 (1 + (Int.tmod (wrap64 (a0)) 9))))))] rfl (by (try simp only [List.map_toArray,List.map_cons,List.map_nil]);first|done|rfl|(simp only [List.length_drop,List.length_take];rfl)|(simp only [List.length_nil,Int.natCast_zero,Int.zero_add,Int.ofNat_zero];rfl)) ?_;(with_reducible refine (trustquorumlaw12_same.calls k (wrap64 (1 + (Int.tmod (wrap64 (a0)) 9))) (wrap64 (1 + (Int.tmod (wrap64 (a1)) (wrap64 (1 + (Int.tmod (wrap64 (a0)) 9)))))) t298 _ A4.out).mono ?_);rintro e w9 ⟨v299,rfl,ho0,hb⟩;refine ⟨_,rfl,?_⟩;have n0_:=qB.mk (Kd.R_lower ho0 (qK (by repeat (first|(with_reducible first|exact HB.out|apply qD|apply qA|apply qC)|exact HB.out))));have n1_:=qB.mk (qL (by repeat (first|(with_reducible first|exact HB.out|apply qD|apply qA|apply qC)|exact HB.out)) hb);clear HB;have HO300:=n0_;have HB:=n1_;clear n0_ n1_;(try clear hb);(try clear hb2);(try clear hk);(try clear hi);(try clear ho0);obtain ⟨Ao10,co10,eo10⟩:=Kd.R_slice HO300.out;subst eo10)|((with_reducible refine qV (f:=14) rfl ?_);refine zX (some 22) rfl rfl Try.func14 (by kernel_rfl) rfl #[.agg #[.slice Ao10 t298.length co10]] rfl (by (try simp only [List.map_toArray,List.map_cons,List.map_nil]);first|done|rfl|(simp only [List.length_drop,List.length_take];rfl)|(simp only [List.length_nil,Int.natCast_zero,Int.zero_add,Int.ofNat_zero];rfl)) ?_;(with_reducible refine (zU.calls k _ _ t298 t301 t302 _ ?side1 ?side2 A5.out).mono ?_);(case side1=>repeat (first|exact (Kd.R_reads' HO300.out).2.2|(with_reducible refine Kd.zO ?_ _)|(with_reducible refine Kd.zN ?_ _)|(with_reducible refine Kd.zW ?_)));(case side2=>exact (Kd.R_reads' HO300.out).2.1);rintro e w11 ⟨rfl,hb⟩;refine ⟨_,rfl,?_⟩;have n0_:=qB.mk (Kd.vZ (by (with_reducible repeat (first|apply Kd.jV|apply Kd.jW|apply Kd.jZ));exact HO300.out) hb);have n1_:=qB.mk (qL (by repeat (first|(with_reducible first|exact HB.out|apply qD|apply qA|apply qC)|exact HB.out)) hb);clear HO300;clear HB;have HO300:=n0_;have HB:=n1_;clear n0_ n1_;(try clear hb);(try clear hb2);(try clear hk);(try clear hi))|(go_at_call 10;(with_reducible refine (zA.calls k  t303 _ A8.out).mono ?_);rintro e w12 ⟨rfl,hb⟩;have n0_:=qB.mk (Kd.vZ (by (with_reducible repeat (first|apply Kd.jV|apply Kd.jW|apply Kd.jZ));exact HO300.out) hb);have n1_:=qB.mk (qL (by repeat (first|(with_reducible first|exact HB.out|apply qD|apply qA|apply qC)|exact HB.out)) hb);clear HO300;clear HB;have HO300:=n0_;have HB:=n1_;clear n0_ n1_;(try clear hb);(try clear hb2);(try clear hk);(try clear hi)))
    go_ret
    exact ⟨by first|rfl|(simp [qQ,qP]<;>rfl)|(simp [*,qQ,qP]<;>rfl),by repeat (first|(with_reducible first|exact HB.out|apply qD|apply qA|apply qC)|exact HB.out)⟩
   ·rw [if_neg c7] at H
    have c7b0 : (t301 == (decide ((wrap64 (2 * (wrap64 (1 + (Int.tmod (wrap64 (a1)) (wrap64 (1 + (Int.tmod (wrap64 (a0)) 9)))))))) > (wrap64 (1 + (Int.tmod (wrap64 (a0)) 9)))))) = false:=by simpa using c7
    (try (have c7b1 : decide (t301 = (decide ((wrap64 (2 * (wrap64 (1 + (Int.tmod (wrap64 (a1)) (wrap64 (1 + (Int.tmod (wrap64 (a0)) 9)))))))) > (wrap64 (1 + (Int.tmod (wrap64 (a0)) 9)))))) = false:=by simpa using c7))
    (try (have c7b2 : (t301 == (decide ((wrap64 (2 * (wrap64 (1 + (Int.tmod (wrap64 (a1)) (wrap64 (1 + (Int.tmod (wrap64 (a0)) 9)))))))) > (wrap64 (1 + (Int.tmod (wrap64 (a0)) 9)))))) = false:=by simpa using c7))
    (try (have c7b3 : ¬ (t301 = (decide ((wrap64 (2 * (wrap64 (1 + (Int.tmod (wrap64 (a1)) (wrap64 (1 + (Int.tmod (wrap64 (a0)) 9)))))))) > (wrap64 (1 + (Int.tmod (wrap64 (a0)) 9)))))):=by simpa using c7))
    clear c7
    exfalso;rw [hr_.out] at H;simp at H
  ·rw [if_neg c6] at H
   have c6b0 : (t302 == 0) = false:=beq_eq_false_iff_ne.mpr c6
   have c6b1 : (t302 != 0) = true:=bne_iff_ne.mpr c6
   exfalso;rw [hr_.out] at H;simp at H
def trustquorumlaw12_IntersectionUniform.Pure : Prop:=∀ (a0 : Int) (a1 : Int),(Lit.int .u8 a0).wf = true→(Lit.int .u8 a1).wf = true→∃ k,trustquorumlaw12_IntersectionUniform.f k a0 a1 = some true
theorem trustquorumlaw12_IntersectionUniform.walk (P : trustquorumlaw12_IntersectionUniform.Pure) (a0 : Int) (a1 : Int) (w : World) (w0 : (Lit.int .u8 a0).wf = true) (w1 : (Lit.int .u8 a1).wf = true) :
  Calls Try.prog 7 #[.int .u8 a0,.int .u8 a1] w fun e w'=>e = .returned (.bool true)∧Below w.heap.size w w':=by
 obtain ⟨k,h⟩:=P a0 a1 w0 w1
 refine (trustquorumlaw12_IntersectionUniform.calls k a0 a1 true w ⟨rfl⟩ h).mono ?_
 rintro e w' ⟨rfl,hd⟩
 exact ⟨rfl,hd⟩
def vQ (w0 W : World) (g : Nat) (f0 : List Int) (f1 : Int) : Prop:=∃ A0 c0,W.heap[g]? = some (.cells #[.slice A0 f0.length c0,.int .i64 f1] 61 (0,0))∧w0.heap.size ≤ g∧Kd.C (Kd.int .i64) w0 A0 f0.length f0
theorem vQ.grown {w0 W : World} {g : Nat} {f0 : List Int} {f1 : Int} {W1 : World} {row : Option Nat} (h : vQ w0 W g f0 f1) (hw : W.grownBy W1 row) (hne : some g≠row) : vQ w0 W1 g f0 f1:=by
 obtain ⟨A0,c0,hb,hg,hr0⟩:=h
 exact ⟨A0,c0,blk_grown hb hw hne,hg,hr0⟩
theorem vQ.kept {w0 W : World} {g : Nat} {f0 : List Int} {f1 : Int} {W1 : World} {S : Nat→Prop} (h : vQ w0 W g f0 f1) (hk : Kept W W1 S) (hne : ¬ S g) : vQ w0 W1 g f0 f1:=by
 obtain ⟨A0,c0,hb,hg,hr0⟩:=h
 exact ⟨A0,c0,blk_kept hb hk hne,hg,hr0⟩
theorem vQ.below {w0 W : World} {g : Nat} {f0 : List Int} {f1 : Int} {W1 : World} (h : vQ w0 W g f0 f1) (hw : Below W.heap.size W W1) : vQ w0 W1 g f0 f1:=h.grown (grown_of_below hw none) (by simp)
theorem vQ.alloc {w0 W : World} {g : Nat} {f0 : List Int} {f1 : Int} (h : vQ w0 W g f0 f1) (o : Obj) : vQ w0 (W.alloc o) g f0 f1:=h.below (qD (Below.refl _ _) o)
theorem vQ.drewN {w0 W : World} {g : Nat} {f0 : List Int} {f1 : Int} (h : vQ w0 W g f0 f1) (m : Nat) : vQ w0 (W.drewN m) g f0 f1:=h
theorem vQ.drew {w0 W : World} {g : Nat} {f0 : List Int} {f1 : Int} (h : vQ w0 W g f0 f1) : vQ w0 W.drew g f0 f1:=h
theorem vQ.at_ {w0 W : World} {g : Nat} {f0 : List Int} {f1 : Int} {w' : World} {m : Nat} (hq : W.drewN m = w') (h : vQ w0 W g f0 f1) : vQ w0 w' g f0 f1:=by subst hq;exact vQ.drewN h m
theorem vQ.apart {w0 W : World} {g : Nat} {f0 : List Int} {f1 : Int} {α : Type} {d : Kd α} {e : Nat} {base : Nat} {ok : Nat→Prop} {v : Value} {xs : List α} (h : vQ w0 W g f0 f1) (ho : d.R e W base ok v xs) (ht : ∀ q,q ∈ e :: d.E→q≠61) : d.R e W base (fun k=>ok k∧k≠g) v xs:=by
 obtain ⟨A0,c0,hb,hg,hr0⟩:=h
 exact Kd.R_types ho hb ht
theorem vQ.own_ne {w0 W : World} {g : Nat} {f0 : List Int} {f1 : Int} {α : Type} {d : Kd α} {e : Nat} {base : Nat} {ok : Nat→Prop} {v : Value} {xs : List α} (h : vQ w0 W g f0 f1) (ho : d.R e W base ok v xs) (ht : e≠61) : some g≠v.ownBlock:=by
 obtain ⟨A0,c0,hb,hg,hr0⟩:=h
 exact Kd.R_ne ho hb ht
theorem vQ.lt {w0 W : World} {g : Nat} {f0 : List Int} {f1 : Int} (h : vQ w0 W g f0 f1) : g < W.heap.size:=by
 obtain ⟨A0,c0,hb,hg,hr0⟩:=h
 exact jI hb
def jT.T10 : Bool × List (List Nat × List Nat):=(true,[([],[]),([],[]),([],[]),([],[]),([],[]),([],[]),([4,5],[4,5]),([6],[6]),([],[]),([],[]),([8,9],[8,9]),([10],[10]),([0,1,0,1,4,5,6,7,11],[0,1]),([12,7,0,1,4,5,6,7,11],[7,12]),([2,3,0,1,2,3,4,5,6,7,8,9,10,11,12,13],[2,3]),([14,11,13,0,1,2,3,4,5,6,7,8,9,10,11,12,13],[11,14])])
def jT.B10 : List Nat:=[0,0,0,0,0,0,48,112,0,0,768,1792,4083,8179,16383,32767]
theorem jT.tab10 : rtab .any (opsOf Try.f64 10) = jT.T10:=by kernel_rfl
theorem jT.bits10 : uE jT.T10.2 jT.B10 = true:=by kernel_rfl
end Go.Proofs.Ytkkbdimegpdbgaa.P
