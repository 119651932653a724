/- Functions of the program as Lean functions, and the walks that show that the calls answer so; written by a program of this session (a changed print) and by hand. -/
import Derived.Test.YtkkbdimegpdbgaaQsPx0
import Derived.Test.YtkkbdimegpdbgaaQsPx5
import Derived.Test.YtkkbdimegpdbgaaQsPx9
import Derived.Test.YtkkbdimegpdbgaaQsPx10
namespace Go.Proofs.Ytkkbdimegpdbgaa.P
open Go.RowKit Go.Proofs.YtkkbdimegpdbgaaW.PrintWords Go.Proofs.YtkkbdimegpdbgaaW.PrintLast Go.Proofs.YtkkbdimegpdbgaaW.PrintMore
attribute [local go_sem] kF kD kV kU uJ uK kG kE
set_option linter.unusedVariables false
set_option linter.unusedSimpArgs false
def qB (w0 W : World) (g : Nat) (f0 : List Int) (f1 : Int) : Prop:=∃ A0 c0,W.heap[g]? = some (.cells #[.slice A0 f0.length c0,.int .i64 f1] 61 (0,0))∧w0.heap.size ≤ g∧Kd.C (Kd.int .i64) w0 A0 f0.length f0
theorem qB.grown {w0 W : World} {g : Nat} {f0 : List Int} {f1 : Int} {W1 : World} {row : Option Nat} (h : qB w0 W g f0 f1) (hw : W.grownBy W1 row) (hne : some g≠row) : qB w0 W1 g f0 f1:=by
 obtain ⟨A0,c0,hb,hg,hr0⟩:=h
 exact ⟨A0,c0,vP hb hw hne,hg,hr0⟩
theorem qB.fresh {w0 W : World} {g : Nat} {f0 : List Int} {f1 : Int} (h : qB w0 W g f0 f1) : ∀ k,W.heap.size ≤ k→k≠g:=by
 obtain ⟨A0,c0,hb,hg,hr0⟩:=h
 exact Kd.Qd hb
theorem qB.kept {w0 W : World} {g : Nat} {f0 : List Int} {f1 : Int} {W1 : World} {S : Nat→Prop} (h : qB w0 W g f0 f1) (hk : Kept W W1 S) (hne : ¬ S g) : qB w0 W1 g f0 f1:=by
 obtain ⟨A0,c0,hb,hg,hr0⟩:=h
 exact ⟨A0,c0,blk_kept hb hk hne,hg,hr0⟩
theorem qB.below {w0 W : World} {g : Nat} {f0 : List Int} {f1 : Int} {W1 : World} (h : qB w0 W g f0 f1) (hw : Below W.heap.size W W1) : qB w0 W1 g f0 f1:=h.grown (grown_of_below hw none) (by simp)
theorem qB.alloc {w0 W : World} {g : Nat} {f0 : List Int} {f1 : Int} (h : qB w0 W g f0 f1) (o : Obj) : qB w0 (W.alloc o) g f0 f1:=h.below (uY (Below.refl _ _) o)
theorem qB.drewN {w0 W : World} {g : Nat} {f0 : List Int} {f1 : Int} (h : qB w0 W g f0 f1) (m : Nat) : qB w0 (W.drewN m) g f0 f1:=h
theorem qB.drew {w0 W : World} {g : Nat} {f0 : List Int} {f1 : Int} (h : qB w0 W g f0 f1) : qB w0 W.drew g f0 f1:=h
theorem qB.at_ {w0 W : World} {g : Nat} {f0 : List Int} {f1 : Int} {w' : World} {m : Nat} (hq : W.drewN m = w') (h : qB w0 W g f0 f1) : qB w0 w' g f0 f1:=by subst hq;exact qB.drewN h m
theorem qB.apart {w0 W : World} {g : Nat} {f0 : List Int} {f1 : Int} {α : Type} {d : Kd α} {e : Nat} {base : Nat} {ok : Nat→Prop} {v : Value} {xs : List α} (h : qB w0 W g f0 f1) (ho : d.R e W base ok v xs) (ht : ∀ q,q ∈ e :: d.E→q≠61) : d.R e W base (fun k=>ok k∧k≠g) v xs:=by
 obtain ⟨A0,c0,hb,hg,hr0⟩:=h
 exact Kd.uB ho hb ht
theorem qB.own_ne {w0 W : World} {g : Nat} {f0 : List Int} {f1 : Int} {α : Type} {d : Kd α} {e : Nat} {base : Nat} {ok : Nat→Prop} {v : Value} {xs : List α} (h : qB w0 W g f0 f1) (ho : d.R e W base ok v xs) (ht : e≠61) : some g≠v.ownBlock:=by
 obtain ⟨A0,c0,hb,hg,hr0⟩:=h
 exact Kd.R_ne ho hb ht
theorem qB.lt {w0 W : World} {g : Nat} {f0 : List Int} {f1 : Int} (h : qB w0 W g f0 f1) : g < W.heap.size:=by
 obtain ⟨A0,c0,hb,hg,hr0⟩:=h
 exact blk_lt hb
theorem qB.ge {w0 W : World} {g : Nat} {f0 : List Int} {f1 : Int} (h : qB w0 W g f0 f1) : w0.heap.size ≤ g:=by
 obtain ⟨A0,c0,hb,hg,hr0⟩:=h
 exact hg
theorem qB.ne_blk {w0 W : World} {g : Nat} {f0 : List Int} {f1 : Int} {a : Nat} {cs : Array Value} {t : TypeId} {fr : Nat × Nat} (h : qB w0 W g f0 f1) (hb2 : W.heap[a]? = some (.cells cs t fr)) (ht : t≠61) : g≠a:=by
 obtain ⟨A0,c0,hb,hg,hr0⟩:=h
 rintro rfl
 rw [hb] at hb2
 injection hb2 with hb2
 injection hb2 with _ ht2
 exact ht ht2.symm
theorem qB.far {w0 W : World} {g : Nat} {f0 : List Int} {f1 : Int} {p : Addr} (h : qB w0 W g f0 f1) (hne : g≠p.block) (u : Value) : qB w0 (W.setCell p u) g f0 f1:=by
 obtain ⟨A0,c0,hb,hg,hr0⟩:=h
 exact ⟨A0,c0,Zd hb hne u,hg,hr0⟩
theorem cellS61_0 {W : World} {g : Nat} {A0 : Option Addr} {c0 : Nat} {f0 : List Int} {f1 : Int} (h : W.heap[g]? = some (.cells #[.slice A0 f0.length c0,.int .i64 f1] 61 (0,0))) : W.cell? ⟨g,0,none⟩ = some (.slice A0 f0.length c0):=(qN h 0).trans rfl
theorem cellS61_1 {W : World} {g : Nat} {A0 : Option Addr} {c0 : Nat} {f0 : List Int} {f1 : Int} (h : W.heap[g]? = some (.cells #[.slice A0 f0.length c0,.int .i64 f1] 61 (0,0))) : W.cell? ⟨g,1,none⟩ = some (.int .i64 f1):=(qN h 1).trans rfl
theorem qB.vZ {w0 W : World} {g : Nat} {f0 : List Int} {f1 : Int} (h : qB w0 W g f0 f1) (x : Int) : qB w0 (W.setCell ⟨g,1,none⟩ (.int .i64 x)) g f0 x:=by
 obtain ⟨A0,c0,hb,hg,hr0⟩:=h
 exact ⟨A0,c0,by simpa using blk_set hb 1 (.int .i64 x),hg,hr0⟩
def Qc.f (l0 : List Int) : Option (List Int × Int):=if 0 ≤ (mn (l0.length : Int) 400) then (if (mn (l0.length : Int) 400) ≤ (l0.length : Int) then (some (l0.take ((mn (l0.length : Int) 400) : Int).toNat,0)) else (none)) else (none)
set_option maxHeartbeats 8000000 in
set_option maxRecDepth 100000 in
theorem Qc.calls (A0 : Option Addr) (c0 : Nat) (l0 : List Int) (r1 : List Int) (r2 : Int) (w0 w : World) (hB : Below w0.heap.size w0 w) (hr0 : Kd.C (Kd.int .i64) w0 A0 l0.length l0) (hc0 : l0.length ≤ c0) (h : Qc.f l0 = some (r1,r2)) :
  Calls Try.prog 11 #[.slice A0 l0.length c0] w fun e w'=>∃ g_ : Nat,e = .returned (.pointer (some ⟨g_,0,none⟩))∧qB w0 w' g_ r1 r2∧Below w0.heap.size w0 w'∧Below w.heap.size w w':=by
 have hu61:=Try.underlying61
 have HR0:=qA.mk hr0
 have HC0:=qA.mk hc0
 clear hr0 hc0
 have HBW:=qA.mk (Below.refl w.heap.size w)
 have HW0:=qA.mk hB.size
 have HB:=qA.mk hB
 clear hB
 unfold Qc.f at h
 have H:=h
 clear h
 obtain ⟨ji2,hji2⟩ : ∃ j_ : Int,(mn (l0.length : Int) 400) = j_:=⟨_,rfl⟩
 (first|rw [hji2] at H|(simp only [hji2] at H))
 (try (have hji2h : ji2 ≤ 400:=by (rw [← hji2];unfold mn;(repeat' split)<;>omega)))
 (try (have hji2g : ji2 ≤ 64:=by omega))
 (try (have hji2l : 0 ≤ ji2:=by (rw [← hji2];unfold mn;(repeat' split)<;>omega)))
 (try (have hji2m : 0 ≤ ji2:=by omega))
 have hji2_ : (if 400 < (l0.length : Int) then 400 else (l0.length : Int)) = ji2:=hji2
 by_cases c3 : 0 ≤ (ji2)
 ·rw [if_pos c3] at H
  have c3b0:=eq_true c3
  have c3b1:=decide_eq_true c3
  clear c3
  by_cases c4 : (ji2) ≤ (l0.length : Int)
  ·rw [if_pos c4] at H
   have c4b0:=eq_true c4
   have c4b1:=decide_eq_true c4
   clear c4
   simp only [Option.some.injEq,Prod.mk.injEq] at H
   obtain ⟨rfl,rfl⟩:=H
   obtain ⟨i05,hi05,_,hsz5,_⟩:=info_parts info3
   obtain ⟨hcut5,hA5,hC5⟩:=print_take_of (P:=Try.prog) (Value.int .i64) 0 22 3 .i64 Try.underlying22 hi05 hsz5 A0 c0 l0 (ji2) (of_decide_eq_true byag) (of_decide_eq_true byag) HC0.out
   have HR304:=qA.mk (Kd.C_of_reads (h1:=fun _=>rfl) (hA5 _ (Kd.reads_of_C HR0.out)))
   have HC304:=qA.mk hC5
   clear hA5 hC5 hi05 hsz5
   go_enter Try.func11,Try.ntmps11
   go_wp2_with (first|((with_reducible refine qP (N:=9) rfl ?_);refine zV (N:=9) (cs:=#[.slice A0 (l0.take ((ji2) : Int).toNat).length c0,.int .i64 0]) (t:=61) ?_;intro gb305 hg w6 hbox hb;have n_:=q_5 (qC HBW.out hb) (qC byab hb) (hbox) ((bycn : w.heap.size ≤ gb305)) ((Nat.le_trans HW0.out (bycn : w.heap.size ≤ gb305) : w0.heap.size ≤ gb305));clear HBW HB;obtain ⟨HBW,HB,BK305,GW305,GE305⟩:=n_;clear hb hbox hg))
   go_ret
   exact ⟨_,rfl,(show qB w0 _ gb305 (l0.take ((ji2) : Int).toNat) 0 from ⟨_,_,byaf BK305.out,GE305.out,HR304.out⟩),byad GE305.out,by repeat (first|(with_reducible first|exact HBW.out|apply uY|apply uQ|apply vI|refine kX ?_ GW305.out)|exact HBW.out)⟩
  ·rw [if_neg c4] at H
   exact absurd H (by simp)
 ·rw [if_neg c3] at H
  exact absurd H (by simp)
def qZ.f (s0_0 : List Int) (s0_1 : Int) (a1 : Int) : Option (Int × Int):=if s0_1 ≥ (s0_0.length : Int) then (some (0,s0_1)) else (if 0 ≤ s0_1 then (if s0_1 < (s0_0.length : Int) then (if a1 = 0 then (none) else (if (Int.tmod (rd s0_0 s0_1) a1) < 0 then (some (wrap64 ((Int.tmod (rd s0_0 s0_1) a1) + a1),wrap64 (s0_1 + 1))) else (some (Int.tmod (rd s0_0 s0_1) a1,wrap64 (s0_1 + 1))))) else (none)) else (none))
set_option maxHeartbeats 8000000 in
set_option maxRecDepth 100000 in
theorem qZ.calls (g : Nat) (s0_0 : List Int) (s0_1 : Int) (a1 : Int) (r1 : Int) (r2 : Int) (w0 w : World) (hI : qB w0 w g s0_0 s0_1) (hB : Below w0.heap.size w0 w) (h : qZ.f s0_0 s0_1 a1 = some (r1,r2)) :
  Calls Try.prog 29 #[.pointer (some ⟨g,0,none⟩),.int .i64 a1] w fun e w'=>e = .returned (.int .i64 r1)∧qB w0 w' g s0_0 r2∧Below w0.heap.size w0 w'∧qJ w w' g none:=by
 have HI0:=qA.mk hI
 have HK:=qA.mk (qJ.refl w g none)
 have HL:=qA.mk hB.size
 clear hI
 have HW0:=qA.mk hB.size
 have HB:=qA.mk hB
 clear hB
 unfold qZ.f at h
 have H:=h
 clear h
 by_cases c3 : s0_1 ≥ (s0_0.length : Int)
 ·rw [if_pos c3] at H
  have c3b0:=decide_eq_true c3
  clear c3
  simp only [Option.some.injEq,Prod.mk.injEq] at H
  obtain ⟨rfl,rfl⟩:=H
  obtain ⟨ASz4_0,cSz4_0,HGz4,hgz4,HSz4_0⟩:=HI0.out
  have hcz4_0:=cellS61_0 HGz4
  have hcz4_1:=cellS61_1 HGz4
  have hfz4_1:=kJ HGz4 1
  clear HGz4 hgz4
  go_enter Try.func29,Try.ntmps29
  go_wp2
  repeat (go_quiet (fail);try go_wp2)
  go_ret
  exact ⟨byac,bybj HI0.out,bybk HI0.out,bybl⟩
 ·rw [if_neg c3] at H
  have c3b0:=decide_eq_false c3
  clear c3
  by_cases c5 : 0 ≤ s0_1
  ·rw [if_pos c5] at H
   have c5b0:=decide_eq_true c5
   clear c5
   by_cases c6 : s0_1 < (s0_0.length : Int)
   ·rw [if_pos c6] at H
    have c6b0:=decide_eq_true c6
    clear c6
    by_cases c7 : a1 = 0
    ·rw [if_pos c7] at H
     exact absurd H (by simp)
    ·rw [if_neg c7] at H
     obtain ⟨c7b0,c7b1⟩:=eqF c7
     by_cases c8 : (Int.tmod (rd s0_0 s0_1) a1) < 0
     ·rw [if_pos c8] at H
      have c8b0:=decide_eq_true c8
      clear c8
      simp only [Option.some.injEq,Prod.mk.injEq] at H
      obtain ⟨rfl,rfl⟩:=H
      obtain ⟨ASz9_0,cSz9_0,HGz9,hgz9,HSz9_0⟩:=HI0.out
      have hcz9_0:=cellS61_0 HGz9
      have hcz9_1:=cellS61_1 HGz9
      have hfz9_1:=kJ HGz9 1
      clear HGz9 hgz9
      have p306 : 0 ≤ (s0_1 : Int):=of_decide_eq_true byag
      have q306 : s0_1 < (s0_0.length : Int):=of_decide_eq_true byag
      obtain ⟨ad306,e306,hx306_0⟩:=Kd.kW HSz9_0 s0_1 p306 q306
      cases e306
      replace hx306_0:=Zu HB.out hx306_0
      replace p306:=eq_true p306
      replace q306:=eq_true q306
      go_enter Try.func29,Try.ntmps29
      go_wp2
      repeat (go_quiet (fail);try go_wp2)
      go_ret
      exact ⟨byac,bybj HI0.out,bybk HI0.out,bybl⟩
     ·rw [if_neg c8] at H
      have c8b0:=decide_eq_false c8
      clear c8
      simp only [Option.some.injEq,Prod.mk.injEq] at H
      obtain ⟨rfl,rfl⟩:=H
      obtain ⟨ASz10_0,cSz10_0,HGz10,hgz10,HSz10_0⟩:=HI0.out
      have hcz10_0:=cellS61_0 HGz10
      have hcz10_1:=cellS61_1 HGz10
      have hfz10_1:=kJ HGz10 1
      clear HGz10 hgz10
      have p306 : 0 ≤ (s0_1 : Int):=of_decide_eq_true byag
      have q306 : s0_1 < (s0_0.length : Int):=of_decide_eq_true byag
      obtain ⟨ad306,e306,hx306_0⟩:=Kd.kW HSz10_0 s0_1 p306 q306
      cases e306
      replace hx306_0:=Zu HB.out hx306_0
      replace p306:=eq_true p306
      replace q306:=eq_true q306
      go_enter Try.func29,Try.ntmps29
      go_wp2
      repeat (go_quiet (fail);try go_wp2)
      go_ret
      exact ⟨byac,bybj HI0.out,bybk HI0.out,bybl⟩
   ·rw [if_neg c6] at H
    exact absurd H (by simp)
  ·rw [if_neg c5] at H
   exact absurd H (by simp)
def zS.f (s0_0 : List Int) (s0_1 : Int) (a1 : Int) (a2 : Int) : Option (Int × Int):=(qZ.f s0_0 s0_1 (wrap64 ((wrap64 (a2 - a1)) + 1))).bind fun bt307=>(some (wrap64 (a1 + bt307.1),bt307.2))
set_option maxHeartbeats 8000000 in
set_option maxRecDepth 100000 in
theorem zS.calls (g : Nat) (s0_0 : List Int) (s0_1 : Int) (a1 : Int) (a2 : Int) (r1 : Int) (r2 : Int) (w0 w : World) (hI : qB w0 w g s0_0 s0_1) (hB : Below w0.heap.size w0 w) (h : zS.f s0_0 s0_1 a1 a2 = some (r1,r2)) :
  Calls Try.prog 28 #[.pointer (some ⟨g,0,none⟩),.int .i64 a1,.int .i64 a2] w fun e w'=>e = .returned (.int .i64 r1)∧qB w0 w' g s0_0 r2∧Below w0.heap.size w0 w'∧qJ w w' g none:=by
 have HI0:=qA.mk hI
 have HK:=qA.mk (qJ.refl w g none)
 have HL:=qA.mk hB.size
 clear hI
 have HW0:=qA.mk hB.size
 have HB:=qA.mk hB
 clear hB
 unfold zS.f at h
 have H:=h
 clear h
 replace H:=Option.bind_eq_some_iff.mp H
 obtain ⟨⟨t307,t308⟩,A40,H⟩:=H
 try dsimp only at H
 have A4:=qA.mk A40
 clear A40
 simp only [Option.some.injEq,Prod.mk.injEq] at H
 obtain ⟨rfl,rfl⟩:=H
 go_enter Try.func28,Try.ntmps28
 go_wp2_with (first|((with_reducible refine qI (f:=29) rfl ?_);refine qY (some 13) rfl rfl Try.func29 (by kernel_rfl) rfl #[.pointer (some ⟨g,0,none⟩),.int .i64 (wrap64 ((wrap64 (a2 - a1)) + 1))] rfl byah ?_;(with_reducible refine (qZ.calls g s0_0 s0_1 (wrap64 ((wrap64 (a2 - a1)) + 1)) t307 t308 w0 _ ?side1 ?side2 A4.out).mono ?_);(case side1=>exact bybj HI0.out);(case side2=>exact bybk HI0.out);rintro e w5 ⟨rfl,hi,hb,hk⟩;refine ⟨_,rfl,?_⟩;have n_:=q_3 (qJ.trans bybl hk (.inl rfl)) (hb) (hi);clear HK HB HI0;obtain ⟨HK,HB,HI0⟩:=n_;clear hb hk hi))
 go_ret
 exact ⟨byac,bybj HI0.out,bybk HI0.out,bybl⟩
def jY.f (s0_0 : List Int) (s0_1 : Int) (l1 : List Int) : Option (Int × Int):=(qZ.f s0_0 s0_1 (l1.length : Int)).bind fun bt309=>(if 0 ≤ bt309.1 then (if bt309.1 < (l1.length : Int) then (some (rd l1 bt309.1,bt309.2)) else (none)) else (none))
set_option maxHeartbeats 8000000 in
set_option maxRecDepth 100000 in
theorem jY.calls (g : Nat) (s0_0 : List Int) (s0_1 : Int) (A1 : Option Addr) (c1 : Nat) (l1 : List Int) (r1 : Int) (r2 : Int) (w0 w : World) (hI : qB w0 w g s0_0 s0_1) (hB : Below w0.heap.size w0 w) (hr1 : Kd.C (Kd.int .i64) w A1 l1.length l1) (hc1 : l1.length ≤ c1) (hf1 : ∀ ad,A1 = some ad→0 < l1.length→ad.block≠g) (h : jY.f s0_0 s0_1 l1 = some (r1,r2)) :
  Calls Try.prog 33 #[.pointer (some ⟨g,0,none⟩),.slice A1 l1.length c1] w fun e w'=>e = .returned (.int .i64 r1)∧qB w0 w' g s0_0 r2∧Below w0.heap.size w0 w'∧qJ w w' g none:=by
 have HR1:=qA.mk hr1
 have HC1:=qA.mk hc1
 clear hr1 hc1
 have HI0:=qA.mk hI
 have HK:=qA.mk (qJ.refl w g none)
 have HL:=qA.mk hB.size
 clear hI
 have HW0:=qA.mk hB.size
 have HB:=qA.mk hB
 clear hB
 unfold jY.f at h
 have H:=h
 clear h
 replace H:=Option.bind_eq_some_iff.mp H
 obtain ⟨⟨t309,t310⟩,A30,H⟩:=H
 try dsimp only at H
 have A3:=qA.mk A30
 clear A30
 by_cases c4 : 0 ≤ t309
 ·rw [if_pos c4] at H
  have c4b0:=decide_eq_true c4
  clear c4
  by_cases c5 : t309 < (l1.length : Int)
  ·rw [if_pos c5] at H
   have c5b0:=decide_eq_true c5
   clear c5
   simp only [Option.some.injEq,Prod.mk.injEq] at H
   obtain ⟨rfl,rfl⟩:=H
   go_enter Try.func33,Try.ntmps33
   go_wp2_with (first|((with_reducible refine qI (f:=29) rfl ?_);refine qY (some 9) rfl rfl Try.func29 (by kernel_rfl) rfl #[.pointer (some ⟨g,0,none⟩),.int .i64 (l1.length : Int)] rfl byah ?_;(with_reducible refine (qZ.calls g s0_0 s0_1 (l1.length : Int) t309 t310 w0 _ ?side1 ?side2 A3.out).mono ?_);(case side1=>exact bybj HI0.out);(case side2=>exact bybk HI0.out);rintro e w6 ⟨rfl,hi,hb,hk⟩;refine ⟨_,rfl,?_⟩;have n_:=q_3 (qJ.trans bybl hk (.inl rfl)) (hb) (hi);clear HK HB HI0;obtain ⟨HK,HB,HI0⟩:=n_;clear hb hk hi;have p311 : 0 ≤ (t309 : Int):=of_decide_eq_true byag;have q311 : t309 < (l1.length : Int):=of_decide_eq_true byag;obtain ⟨ad311,e311,hx311_0⟩:=Kd.kW HR1.out t309 p311 q311;cases e311;replace hx311_0:=keep_cell HK.out hx311_0 (by first|(rw [add_block];exact hf1 _ rfl (by omega))|exact hf1 _ rfl (by omega)|exact hf1 ad311 rfl (by omega));replace p311:=eq_true p311;replace q311:=eq_true q311))
   go_ret
   exact ⟨byac,bybj HI0.out,bybk HI0.out,bybl⟩
  ·rw [if_neg c5] at H
   exact absurd H (by simp)
 ·rw [if_neg c4] at H
  exact absurd H (by simp)
mutual
def qQ.l0 : Nat→Int→List Int→Int→List Int→Int→Option (List Int × Int)
 | 0,_,_,_,_,_=>none
 | k + 1,x1,x5,x6,x1000,x1001=>if x6 < x1 then (if x5.length < 17592186044416 then (qQ.l0 k x1 (x5 ++ [x6]) (wrap64 (x6 + 1)) x1000 x1001) else (none)) else (qQ.l1 k x5 (wrap64 (x1 - 1)) x1000 x1001)
def qQ.l1 : Nat→List Int→Int→List Int→Int→Option (List Int × Int)
 | 0,_,_,_,_=>none
 | k + 1,x5,x7,x1000,x1001=>if x7 > 0 then ((qZ.f x1000 x1001 (wrap64 (x7 + 1))).bind fun bt315=>(if 0 ≤ bt315.1 then (if bt315.1 < (x5.length : Int) then (if 0 ≤ x7 then (if x7 < (x5.length : Int) then (qQ.l1 k ((x5.set (x7 : Int).toNat (rd x5 bt315.1)).set (bt315.1 : Int).toNat (rd x5 x7)) (wrap64 (x7 - 1)) x1000 bt315.2) else (none)) else (none)) else (none)) else (none))) else (some (x5,x1001))
end
def qQ.f (k : Nat) (s0_0 : List Int) (s0_1 : Int) (a1 : Int) : Option (List Int × Int):=qQ.l0 k a1 ([] : List Int) 0 s0_0 s0_1
def qQ.T10 : Bool × List (List Nat × List Nat):=(true,[([],[]),([],[]),([],[]),([],[]),([],[]),([],[]),([4,5],[4,5]),([6],[6]),([],[]),([],[]),([8,9],[8,9]),([10],[10]),([0,1,0,1,4,5,6,7,11],[0,1]),([12,7,0,1,4,5,6,7,11],[7,12]),([2,3,0,1,2,3,4,5,6,7,8,9,10,11,12,13],[2,3]),([14,11,13,0,1,2,3,4,5,6,7,8,9,10,11,12,13],[11,14])])
def qQ.B10 : List Nat:=[0,0,0,0,0,0,48,112,0,0,768,1792,4083,8179,16383,32767]
theorem qQ.tab10 : rtab .any (opsOf Try.f64 10) = qQ.T10:=by kernel_rfl
theorem qQ.bits10 : Qv qQ.T10.2 qQ.B10 = true:=by kernel_rfl
set_option maxHeartbeats 8000000 in
set_option maxRecDepth 100000 in
theorem qQ.calls (k : Nat) (g : Nat) (s0_0 : List Int) (s0_1 : Int) (a1 : Int) (r1 : List Int) (r2 : Int) (w0 w : World) (hI : qB w0 w g s0_0 s0_1) (hB : Below w0.heap.size w0 w) (h : qQ.f k s0_0 s0_1 a1 = some (r1,r2)) :
  Calls Try.prog 64 #[.pointer (some ⟨g,0,none⟩),.int .i64 a1] w fun e w'=>∃ v0_ : Value,e = .returned (v0_)∧Kd.R (Kd.int .i64) 3 w' w.heap.size (fun _=>True) v0_ r1∧qB w0 w' g s0_0 r2∧Below w0.heap.size w0 w'∧qJ w w' g none:=by
 have HI0:=qA.mk hI
 have HK:=qA.mk (qJ.refl w g none)
 have HL:=qA.mk hB.size
 clear hI
 have HW0:=qA.mk hB.size
 have HB:=qA.mk hB
 clear hB
 unfold qQ.f at h
 have H:=h
 clear h
 have H':=qA.mk H
 clear H
 go_enter Try.func64,Try.ntmps64
 go_wp2
 go_loopg [5,6] k (fun kq v5 v6 w'=>∃ (x5_1 : List Int) (x6_1 : Int),v6 = .int .i64 x6_1∧qA (qQ.l0 kq a1 x5_1 x6_1 s0_0 s0_1 = some (r1,r2))∧qA (kq ≤ k)∧qA (Kd.R (Kd.int .i64) 3 w' w.heap.size (fun _=>True) v5 x5_1)∧qA (qB w0 w' g s0_0 s0_1)∧qA (qJ w w' g none)∧qA (Below w0.heap.size w0 w'))
 case atStart=>exact ⟨(([] : List Int)),(0),byae,H',⟨Nat.le_refl _⟩,⟨byau⟩,⟨bybj HI0.out⟩,⟨bybl⟩,⟨bybk HI0.out⟩⟩
 case round =>
  clear H'
  obtain ⟨x5_1,x6_1,rfl,HA,HK1,HO_5,HI0,HK,HB⟩:=hrel
  cases gk with
  | zero=>exact absurd HA.out (by simp [qQ.l0])
  | succ k1 =>
   have H:=HA.out
   clear HA
   simp only [qQ.l0] at H
   by_cases c3 : x6_1 < a1
   ·rw [if_pos c3] at H
    have c3b0:=decide_eq_true c3
    clear c3
    by_cases c4 : x5_1.length < 17592186044416
    ·rw [if_pos c4] at H
     have LMc4:=qA.mk c4
     clear c4
     obtain ⟨y312,hy312⟩ : ∃ y_ : List Int,y_ = (x5_1 ++ [x6_1]):=⟨_,rfl⟩
     replace H : (qQ.l0 k1 a1 y312 (wrap64 (x6_1 + 1)) s0_0 s0_1) = some (r1,r2):=by first|(rw [hy312];with_reducible exact H)|(have H2_:=(Option.bind_some _ _).symm.trans H;rw [hy312];with_reducible exact H2_)|(have H2_:=(Option.bind_some _ _).symm.trans H;with_reducible exact H2_)|with_reducible exact H|(rw [hy312];exact H)|exact H
     have Ny312:=qA.mk hy312
     clear hy312
     have H':=qA.mk H
     clear H
     go_wp2_with (first|((with_reducible refine uU (b:=.append) (xs:=#[.tmp 14,.tmp 16]) rfl ?_);at_builtin;refine Kd.Qk (Kd.int .i64) w.heap.size rfl (.tmp 14) (.tmp 16) 22 3 (.int .i64 0) 8 rfl Try.underlying22 info3 rfl (by decide) (by omega) u5 x5_1 x6_1 [.int .i64 x6_1] (fun _=>True) (fun _=>False) rfl rfl ?aP (fun _ hk=>hk.elim) ?aF ?aO (Below.refl _ _) ?aS ?aL ?_;(case aP=>exact rfl);(case aF=>exact (fun _ _=>trivial));(case aO=>exact (byav HO_5.out));(case aS=>exact (vM (w:=w) (g:=g) (row:=none) bybl));(case aL=>have:=LMc4.out;omega);intro v313 w5 ho hb hg hat;rw [← Ny312.out] at ho;have n_:=q_4 (qB.grown (bybj HI0.out) hg (qB.own_ne HI0.out HO_5.out (by decide))) (kT (bybk HI0.out) HL.out hb) (qJ.trans bybl (qJ.Qx hg g) (Kd.Zq HO_5.out)) (ho);clear HI0 HB HK HO_5;obtain ⟨HI0,HB,HK,HO314⟩:=n_;clear ho hb hg hat))
     go_roundg k1
     case measure=>have:=HK1.out;omega
     case rel=>exact ⟨(y312),(wrap64 (x6_1 + 1)),byae,H',⟨byai⟩,⟨byav HO314.out⟩,⟨bybj HI0.out⟩,⟨bybl⟩,⟨bybk HI0.out⟩⟩
    ·rw [if_neg c4] at H
     exact absurd H (by simp)
   ·rw [if_neg c3] at H
    have c3b0:=decide_eq_false c3
    clear c3
    have H':=qA.mk H
    clear H
    go_wp2
    go_loopg [7] k1 (fun kq v7 w'=>∃ (x5_2 : List Int) (x7_2 : Int) (x1001_2 : Int),v7 = .int .i64 x7_2∧qA (qQ.l1 kq x5_2 x7_2 s0_0 x1001_2 = some (r1,r2))∧qA (kq ≤ k1)∧qA (Kd.R (Kd.int .i64) 3 w' w.heap.size (fun _=>True) u5 x5_2)∧qA (qB w0 w' g s0_0 x1001_2)∧qA (qJ w w' g none)∧qA (Below w0.heap.size w0 w'))
    case atStart=>exact ⟨(x5_1),(wrap64 (a1 - 1)),(s0_1),byae,H',⟨Nat.le_refl _⟩,⟨byav HO_5.out⟩,⟨bybj HI0.out⟩,⟨bybl⟩,⟨bybk HI0.out⟩⟩
    case round =>
     clear H'
     obtain ⟨x5_2,x7_2,x1001_2,rfl,HA,HK2,HO_5,HI0,HK,HB⟩:=hrel
     cases gk with
     | zero=>exact absurd HA.out (by simp [qQ.l1])
     | succ k2 =>
      have H:=HA.out
      clear HA
      simp only [qQ.l1] at H
      by_cases c6 : x7_2 > 0
      ·rw [if_pos c6] at H
       have c6b0:=decide_eq_true c6
       clear c6
       replace H:=Option.bind_eq_some_iff.mp H
       obtain ⟨⟨t315,t316⟩,A70,H⟩:=H
       try dsimp only at H
       have A7:=qA.mk A70
       clear A70
       by_cases c8 : 0 ≤ t315
       ·rw [if_pos c8] at H
        have c8b0:=decide_eq_true c8
        clear c8
        by_cases c9 : t315 < (x5_2.length : Int)
        ·rw [if_pos c9] at H
         have c9b0:=decide_eq_true c9
         clear c9
         by_cases c10 : 0 ≤ x7_2
         ·rw [if_pos c10] at H
          have c10b0:=decide_eq_true c10
          clear c10
          by_cases c11 : x7_2 < (x5_2.length : Int)
          ·rw [if_pos c11] at H
           have c11b0:=decide_eq_true c11
           clear c11
           obtain ⟨y319,hy319⟩ : ∃ y_ : List Int,y_ = (x5_2.set (x7_2 : Int).toNat (rd x5_2 t315)):=⟨_,rfl⟩
           replace H : (qQ.l1 k2 (y319.set (t315 : Int).toNat (rd x5_2 x7_2)) (wrap64 (x7_2 - 1)) s0_0 t316) = some (r1,r2):=by first|(rw [hy319];with_reducible exact H)|(have H2_:=(Option.bind_some _ _).symm.trans H;rw [hy319];with_reducible exact H2_)|(have H2_:=(Option.bind_some _ _).symm.trans H;with_reducible exact H2_)|with_reducible exact H|(rw [hy319];exact H)|exact H
           have Ny319:=qA.mk hy319
           clear hy319
           obtain ⟨y320,hy320⟩ : ∃ y_ : List Int,y_ = (y319.set (t315 : Int).toNat (rd x5_2 x7_2)):=⟨_,rfl⟩
           replace H : (qQ.l1 k2 y320 (wrap64 (x7_2 - 1)) s0_0 t316) = some (r1,r2):=by first|(rw [hy320];with_reducible exact H)|(have H2_:=(Option.bind_some _ _).symm.trans H;rw [hy320];with_reducible exact H2_)|(have H2_:=(Option.bind_some _ _).symm.trans H;with_reducible exact H2_)|with_reducible exact H|(rw [hy320];exact H)|exact H
           have Ny320:=qA.mk hy320
           clear hy320
           have H':=qA.mk H
           clear H
           try go_wp2_with (first|((with_reducible refine qI (f:=29) rfl ?_);refine qY (some 27) rfl rfl Try.func29 (by kernel_rfl) rfl #[.pointer (some ⟨g,0,none⟩),.int .i64 (wrap64 (x7_2 + 1))] rfl byah ?_;(with_reducible refine (qZ.calls g s0_0 x1001_2 (wrap64 (x7_2 + 1)) t315 t316 w0 _ ?side1 ?side2 A7.out).mono ?_);(case side1=>exact bybj HI0.out);(case side2=>exact bybk HI0.out);rintro e w14 ⟨rfl,hi,hb,hk⟩;refine ⟨_,rfl,?_⟩;have n_:=q_4 (Kd.zB (Kd.uO (qB.apart (show qB w0 _ g s0_0 x1001_2 from by repeat (first|(with_reducible first|exact HI0.out|apply qB.alloc|apply qB.drewN|apply qB.drew|apply qB.vZ)|exact HI0.out)) (byav HO_5.out) (by decide)) hk (fun _ h=>h.2)) (fun _ h=>h.1)) (qJ.trans bybl hk (.inl rfl)) (hb) (hi);clear HO_5 HK HB HI0;obtain ⟨HO_5,HK,HB,HI0⟩:=n_;clear hb hk hi))
           have n_:=q_4 (Kd.jZ HO_5.out) (qB.drew HI0.out) (Zg HK.out) (vI HB.out)
           clear HO_5 HI0 HK HB
           obtain ⟨HO_5,HI0,HK,HB⟩:=n_
           obtain ⟨Ao16,co16,eo16⟩:=Kd.vJ HO_5.out
           (first|subst eo16|(injection eo16 with f1_ f2_ f3_;have f4_:=f1_.symm;have f5_:=f3_.symm;clear f1_ f2_ f3_;subst f4_;subst f5_))
           have p317 : 0 ≤ (t315 : Int):=of_decide_eq_true byag
           have q317 : t315 < (x5_2.length : Int):=of_decide_eq_true byag
           obtain ⟨ad317,e317,hx317_0⟩:=Kd.kW (Kd.uM HO_5.out).2.2 t315 p317 q317
           cases e317
           replace p317:=eq_true p317
           replace q317:=eq_true q317
           have p318 : 0 ≤ (x7_2 : Int):=of_decide_eq_true byag
           have q318 : x7_2 < (x5_2.length : Int):=of_decide_eq_true byag
           obtain ⟨ad318,e318,hx318_0⟩:=Kd.kW (Kd.uM HO_5.out).2.2 x7_2 p318 q318
           obtain rfl : ad317 = ad318:=(by injection e318)
           replace p318:=eq_true p318
           replace q318:=eq_true q318
           have p12 : 0 ≤ (x7_2 : Int):=of_decide_eq_true byag
           have q12 : (x7_2 : Int) < ((x5_2.length : Int) : Int):=of_decide_eq_true byag
           obtain ⟨go12,co12,eo12,gb12,gl12,cl12,HG12⟩:=Kd.R_form HO_5.out (by omega)
           (first|cases eo12|(injection eo12 with ea_ en_ ec_;(first|subst ea_|(injection ea_ with ea_;subst ea_));subst ec_;clear en_))
           have GB12:=qA.mk gb12
           have GG12:=qA.mk HG12
           clear gb12 gl12 HG12
           (first|simp only [add_plain] at hx317_0|skip)
           (first|simp only [add_plain] at hx318_0|skip)
           obtain ⟨hx12_0,hf12_0⟩:=Kd.R_celln 0 HO_5.out (x7_2 : Int) p12 q12
           replace p12:=eq_true p12
           replace q12:=eq_true q12
           have HN0_go12:=qA.mk (show g≠go12 from by have h_:=qB.own_ne HI0.out HO_5.out (by decide);intro e_;exact h_ (by rw [e_];rfl))
           have HP17:=Kd.R_putn HO_5.out (x7_2 : Int) (rd x5_2 t315)
           rw [← Ny319.out] at HP17
           have HQ17:=qA.mk HP17
           clear HP17
           have p13 : 0 ≤ (t315 : Int):=of_decide_eq_true byag
           have q13 : (t315 : Int) < ((x5_2.length : Int) : Int):=of_decide_eq_true byag
           obtain ⟨hx13_0,hf13_0⟩:=Kd.R_celln 0 HQ17.out (t315 : Int) p13 q13
           replace p13:=eq_true p13
           replace q13:=eq_true q13
           have HN0_go12:=qA.mk (show g≠go12 from by have h_:=qB.own_ne HI0.out HO_5.out (by decide);intro e_;exact h_ (by rw [e_];rfl))
           have HP18:=Kd.R_putn HQ17.out (t315 : Int) (rd x5_2 x7_2)
           rw [← Ny320.out] at HP18
           have HQ18:=qA.mk HP18
           clear HP18
           refine Qm (n:=16) (S:=fun w'=>w'.cell? ⟨go12,(t315).toNat,none⟩ = some (.int .i64 (rd x5_2 t315))∧w'.cell? ⟨go12,(x7_2).toNat,none⟩ = some (.int .i64 (rd x5_2 x7_2))) (ds:=[13,15]) (bb 16 0) (by kernel_rfl) rfl rfl ⟨hx317_0,hx318_0⟩ (fun hHeld=>?_);refine Qb qQ.tab10 qQ.bits10 (fun HT_ HW_=>?_)
           generalize w14.drew = w15 at HO_5 HI0 HK HB GG12 HQ17 HQ18 hf12_0 hf13_0 hx12_0 hx13_0 hx317_0 hx318_0 hHeld ⊢
           refine zH (i:=0) (N:=some 28) (bb 16 1) ?_
           refine zH (i:=1) (N:=some 29) (bb 16 3) ?_
           refine zH (i:=2) (N:=some 30) (bb 16 7) ?_
           refine zH (i:=3) (N:=some 31) (bb 16 15) ?_
           refine zH (i:=4) (N:=some 32) (bb 16 31) ?_
           refine zH (i:=5) (N:=some 33) (bb 16 63) ?_
           refine zH (i:=6) (N:=some 34) (bb 16 127) ?_
           refine zH (i:=8) (N:=some 36) (bb 16 383) ?_
           refine zH (i:=9) (N:=some 37) (bb 16 895) ?_
           refine zH (i:=10) (N:=some 38) (bb 16 1919) ?_
           refine takeZH (i:=7) (N:=some 35) (bb 16 2047) hHeld ?_
           refine takeZH (i:=11) (N:=some 39) (bb 16 4095) hHeld ?_
           refine zH (i:=12) (N:=some 40) (bb 16 8191) ?_
           refine last_ (i:=13) (N:=none) (bb 16 16383) rfl rfl (kC HT_.out (by kernel_rfl)) (by decide) (fun K hK=>?_)
           refine skip_ (w1:=?_) (by rfl) rfl ?_ ?_
           rotate_left
           ·go_simp
            rfl
           refine hK.out _ _ ?_
           clear hK K
           refine zH (i:=14) (N:=some 41) (bb 16 32767) ?_
           refine last_ (i:=15) (N:=none) (bb 16 65535) rfl rfl (kC HT_.out (by kernel_rfl)) (by decide) (fun K hK=>?_)
           refine skip_ (w1:=?_) (by rfl) rfl ?_ ?_
           rotate_left
           ·go_simp
            rfl
           refine hK.out _ _ ?_
           clear hK K
           refine Ze (Qz HT_.out (by kernel_rfl)) ?_
           try go_wp2
           go_roundg k2
           case measure=>have:=HK1.out;have:=HK2.out;omega
           case rel=>exact ⟨(y320),(wrap64 (x7_2 - 1)),(t316),byae,H',⟨byar⟩,⟨by (with_reducible repeat (first|apply Kd.jP|apply Kd.jO|apply Kd.jZ));exact HQ18.out⟩,⟨by repeat (first|(with_reducible first|exact HI0.out|apply qB.alloc|apply qB.drewN|apply qB.drew|apply qB.vZ|refine qB.far ?_ HN0_go12.out _|refine qB.far ?_ HN0_go12.out _)|exact HI0.out)⟩,⟨by repeat (first|(with_reducible first|exact HK.out|apply qJ.set_|apply keep_drewN|apply Zg|apply keep_alloc|refine keep_far ?_ GB12.out _|refine keep_far ?_ GB12.out _)|exact HK.out)⟩,⟨by repeat (first|(with_reducible first|exact HB.out|apply uY|apply uQ|apply vI|refine kX ?_ (Nat.le_trans HL.out GB12.out)|refine kX ?_ (Nat.le_trans HL.out GB12.out)|refine kX ?_ (qB.ge HI0.out))|exact HB.out)⟩⟩
          ·rw [if_neg c11] at H
           exact absurd H (by simp)
         ·rw [if_neg c10] at H
          exact absurd H (by simp)
        ·rw [if_neg c9] at H
         exact absurd H (by simp)
       ·rw [if_neg c8] at H
        exact absurd H (by simp)
      ·rw [if_neg c6] at H
       have c6b0:=decide_eq_false c6
       clear c6
       simp only [Option.some.injEq,Prod.mk.injEq] at H
       obtain ⟨rfl,rfl⟩:=H
       go_wp2
       go_ret
       exact ⟨_,byac,byav HO_5.out,bybj HI0.out,bybk HI0.out,bybl⟩
end Go.Proofs.Ytkkbdimegpdbgaa.P
