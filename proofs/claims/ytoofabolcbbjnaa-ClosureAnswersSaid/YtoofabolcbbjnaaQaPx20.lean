/- Functions of the program as Lean functions, and the walks that show that the calls answer so; written by a program of this session (a changed print) and by hand. -/
import Derived.Test.YtoofabolcbbjnaaQaPx0
import Derived.Test.YtoofabolcbbjnaaQaO2
import Derived.Test.YtoofabolcbbjnaaQaPx2
import Derived.Test.YtoofabolcbbjnaaQaPx3
import Derived.Test.YtoofabolcbbjnaaQaPx8
import Derived.Test.YtoofabolcbbjnaaQaPx15
import Derived.Test.YtoofabolcbbjnaaQaPx17
import Derived.Test.YtoofabolcbbjnaaQaPx18
import Derived.Test.YtoofabolcbbjnaaQaPx19
namespace Go.Proofs.Ytoofabolcbbjnaa.P
open Go.RowKit Go.Proofs.YtoofabolcbbjnaaW.PrintWords Go.Proofs.YtoofabolcbbjnaaW.PrintLast Go.Proofs.YtoofabolcbbjnaaW.PrintMore
attribute [local go_sem] kR kP Qa Qc kE kD kQ kN
set_option linter.unusedVariables false
set_option linter.unusedSimpArgs false
mutual
def trustquorumlaw09_ClosureAnswers.l0 : Nat→Int→List Int→List (S25)→Int→Int→List Int→Int→Option (Bool)
 | 0,_,_,_,_,_,_,_=>none
 | k + 1,x2,x3,x40,x41,x42,x683000,x683001=>if x42 < x41 then (if 0 ≤ x42 then (if x42 < (x40.length : Int) then ((qK.f x683000 x683001 1024).bind fun bt697=>((qK.f x683000 bt697.2 1024).bind fun bt699=>((some (([x2,bt697.1,bt699.1,1023] : List Int) : List Int)).bind fun y701=>(trustquorumlaw09_ClosureAnswers.l1 k x2 x3 x40 x41 x42 y701 (y701.length : Int) 0 x683000 bt699.2 ((rd_T25 x40 x42).f0))))) else (none)) else (none)) else ((jV.f k).bind fun t739=>(some t739))
def trustquorumlaw09_ClosureAnswers.l1 : Nat→Int→List Int→List (S25)→Int→Int→List Int→Int→Int→List Int→Int→List (S51)→Option (Bool)
 | 0,_,_,_,_,_,_,_,_,_,_,_=>none
 | k + 1,x2,x3,x40,x41,x42,x51,x52,x53,x683000,x683001,x697000=>if x53 < x52 then (if 0 ≤ x53 then (if x53 < (x51.length : Int) then ((trustquorumref09_Elimination.f k x697000 (rd x51 x53)).bind fun t705=>((closure_Quorum.f k x697000 (rd x51 x53)).bind fun t708=>((trustquorumref09_Quorum.f k x697000 (rd x51 x53)).bind fun t709=>(if (t708 != t709) = true then (some false) else ((closure_Greatest.f k x697000 (rd x51 x53)).bind fun t710=>((trustquorumref09_Greatest.f k x697000 (rd x51 x53)).bind fun t711=>(if t710 = t711 then ((closure_Elimination.f k x697000 (rd x51 x53)).bind fun t712=>((zH.f k t712 t705).bind fun t715=>(if t715 = true then ((qN.f k x683000 x683001 (t705.length : Int)).bind fun bt716=>((some (([] : List Int) : List Int)).bind fun y720=>(if y720.length + t705.length < 17592186044416 then ((some (y720 ++ t705 : List Int)).bind fun y723=>((qK.f x683000 bt716.2 10).bind fun bt726=>(if y723.length < 17592186044416 then ((some (([x3,t705,bt716.1,(y723 ++ [bt726.1])] : List (List Int)) : List (List Int))).bind fun y731=>(trustquorumlaw09_ClosureAnswers.l2 k x2 x3 (rd x51 x53) x40 x41 x42 x51 x52 x53 y731 (y731.length : Int) 0 x683000 bt726.2 x697000)) else (none)))) else (none)))) else (some false)))) else (some false)))))))) else (none)) else (none)) else (trustquorumlaw09_ClosureAnswers.l0 k x2 x3 x40 x41 (wrap64 (x42 + 1)) x683000 x683001)
def trustquorumlaw09_ClosureAnswers.l2 : Nat→Int→List Int→Int→List (S25)→Int→Int→List Int→Int→Int→List (List Int)→Int→Int→List Int→Int→List (S51)→Option (Bool)
 | 0,_,_,_,_,_,_,_,_,_,_,_,_,_,_,_=>none
 | k + 1,x2,x3,x14,x40,x41,x42,x51,x52,x53,x97,x98,x99,x683000,x683001,x697000=>if x99 < x98 then (if 0 ≤ x99 then (if x99 < (x97.length : Int) then ((closure_Check.f k x697000 x14 (rd_L2 x97 x99)).bind fun bt735=>((trustquorumref09_Check.f k x697000 x14 (rd_L2 x97 x99)).bind fun bt737=>(if bt735.1 = bt737.1 then (if bt735.2 = bt737.2 then (trustquorumlaw09_ClosureAnswers.l2 k x2 x3 x14 x40 x41 x42 x51 x52 x53 x97 x98 (wrap64 (x99 + 1)) x683000 x683001 x697000) else (some false)) else (some false)))) else (none)) else (none)) else (trustquorumlaw09_ClosureAnswers.l1 k x2 x3 x40 x41 x42 x51 x52 (wrap64 (x53 + 1)) x683000 x683001 x697000)
end
def trustquorumlaw09_ClosureAnswers.f (k : Nat) (l0 : List Int) (l1_0 : List (S51)) (a2 : Int) (l3 : List Int) : Option (Bool):=(zZ.f k l1_0).bind fun t678=>(if t678 = true then (if (l3.length : Int) > 40 then ((jV.f k).bind fun t679=>(some t679)) else ((uU.f l0).bind fun bt680=>((zM.f k bt680.1 bt680.2 10).bind fun bt683=>((qR.f k bt680.1 bt683.2 bt683.1).bind fun bt688=>((some (([(⟨bt683.1⟩ : S25),(⟨bt688.1⟩ : S25),(⟨l1_0⟩ : S25)] : List (S25)) : List (S25))).bind fun y692=>(trustquorumlaw09_ClosureAnswers.l0 k a2 l3 y692 (y692.length : Int) 0 bt680.1 bt688.2)))))) else ((jV.f k).bind fun t740=>(some t740)))
def trustquorumlaw09_ClosureAnswers.T5 : Bool × List (List Nat × List Nat):=(true,[([],[]),([],[]),([],[]),([1,2],[1,2]),([],[]),([0,3,4],[0,3,4]),([5],[5]),([],[])])
def trustquorumlaw09_ClosureAnswers.B5 : List Nat:=[0,0,0,6,0,31,63,0]
theorem trustquorumlaw09_ClosureAnswers.tab5 : rtab .any (opsOf Try.f3 5) = trustquorumlaw09_ClosureAnswers.T5:=by kernel_rfl
theorem trustquorumlaw09_ClosureAnswers.bits5 : Qy trustquorumlaw09_ClosureAnswers.T5.2 trustquorumlaw09_ClosureAnswers.B5 = true:=by kernel_rfl
def trustquorumlaw09_ClosureAnswers.T12 : Bool × List (List Nat × List Nat):=(true,[([],[]),([],[]),([0,1],[0,1]),([],[]),([],[]),([3,4,2],[3,4]),([2,5],[2,5]),([6,5],[6]),([7],[7]),([7],[7]),([8,9,7,7],[7,8,9]),([7],[7]),([7],[7]),([11,12,10,7],[7,11,12]),([10,13,7],[7,10,13]),([7,14],[7,14]),([15,13],[15]),([16],[16]),([16],[16]),([17,18,16,16],[16,17,18]),([16],[16]),([19,20,19,16],[16,19,20]),([21,16],[16,21]),([16,22],[16,22])])
def trustquorumlaw09_ClosureAnswers.B12 : List Nat:=[0,0,3,0,0,31,63,127,255,255,1023,255,255,8191,16383,32767,65535,131071,131071,524287,131071,2097151,4194303,8388607]
theorem trustquorumlaw09_ClosureAnswers.tab12 : rtab .any (opsOf Try.f3 12) = trustquorumlaw09_ClosureAnswers.T12:=by kernel_rfl
theorem trustquorumlaw09_ClosureAnswers.bits12 : Qy trustquorumlaw09_ClosureAnswers.T12.2 trustquorumlaw09_ClosureAnswers.B12 = true:=by kernel_rfl
set_option maxHeartbeats 8000000 in
set_option maxRecDepth 100000 in
theorem trustquorumlaw09_ClosureAnswers.calls (k : Nat) (A0 : Option Addr) (c0 : Nat) (l0 : List Int) (A1_0 : Option Addr) (c1_0 : Nat) (l1_0 : List (S51)) (a2 : Int) (A3 : Option Addr) (c3 : Nat) (l3 : List Int) (r : Bool) (w : World) (hr0 : Kd.C (Kd.int .i64) w A0 l0.length l0) (hc0 : l0.length ≤ c0) (hs1_0 : Kd.V k51 51 w w.heap.size (fun k_=>k_ < w.heap.size) (.slice A1_0 l1_0.length c1_0) l1_0) (hs3 : Kd.V (Kd.int .i64) 3 w w.heap.size (fun k_=>k_ < w.heap.size) (.slice A3 l3.length c3) l3) (hr_ : qA (r = true)) (h : trustquorumlaw09_ClosureAnswers.f k l0 l1_0 a2 l3 = some r) :
  Calls Try.prog 3 #[.slice A0 l0.length c0,.agg #[.slice A1_0 l1_0.length c1_0],.int .i64 a2,.slice A3 l3.length c3] w fun e w'=>e = .returned (.bool r)∧Below w.heap.size w w':=by
 have hu25:=Try.underlying25
 have HR0:=qA.mk hr0
 have HC0:=qA.mk hc0
 clear hr0 hc0
 have HO1_0:=qA.mk (show Kd.V k51 51 w w.heap.size (fun k_=>k_ < w.heap.size) (.slice A1_0 l1_0.length c1_0) l1_0 from Kd.qM hs1_0 (fun k_ hk=>hk))
 have HO3:=qA.mk (show Kd.V (Kd.int .i64) 3 w w.heap.size (fun k_=>k_ < w.heap.size) (.slice A3 l3.length c3) l3 from Kd.qM hs3 (fun k_ hk=>hk))
 have HB:=qA.mk (Below.refl w.heap.size w)
 unfold trustquorumlaw09_ClosureAnswers.f at h
 have H:=h
 clear h
 replace H:=Option.bind_eq_some_iff.mp H
 obtain ⟨t678,A50,H⟩:=H
 try dsimp only at H
 have A5:=qA.mk A50
 clear A50
 by_cases c6 : t678 = true
 ·subst c6
  rw [if_pos rfl] at H
  by_cases c7 : (l3.length : Int) > 40
  ·rw [if_pos c7] at H
   have c7b0:=decide_eq_true c7
   have c7b1 : decide (40 < l3.length) = true:=decide_eq_true (by omega)
   clear c7
   replace H:=Option.bind_eq_some_iff.mp H
   obtain ⟨t679,A80,H⟩:=H
   try dsimp only at H
   have A8:=qA.mk A80
   clear A80
   obtain rfl:=Option.some.inj H
   go_enter Try.func3,Try.ntmps3
   go_wp2_with (first|((with_reducible refine qX (N:=5) rfl ?_);(try (refine uB (by rfl) ?_;dsimp only));refine zD ?hg (N:=5) ?hd (cs:=#[.slice A1_0 l1_0.length c1_0]) (t:=25) ?hr ?_;(case hd=>rfl);(case hg=>rfl);(case hr=>exact byad);intro gb677 hg w9 hbox hb;have n_:=q_6 (Kd.jJ (Kd.vO (bybs HO1_0.out) gb677 (Nat.le_of_eq hg.symm)) hb) (Kd.jJ (Kd.vO (bybs HO3.out) gb677 (Nat.le_of_eq hg.symm)) hb) (qE byae hb) (hbox) ((byck : w.heap.size ≤ gb677)) ((byck : w.heap.size ≤ gb677));clear HO1_0 HO3 HB;obtain ⟨HO1_0,HO3,HB,BK677,GW677,GE677⟩:=n_;clear hb hbox hg;obtain ⟨hcz10_0,hfz10_0⟩:=cz1 BK677.out)|((with_reducible refine qF (f:=8) rfl ?_);refine zC (some 23) rfl rfl Try.func8 (by kernel_rfl) rfl #[.agg #[.slice A1_0 l1_0.length c1_0]] rfl byac ?_;(with_reducible refine (zZ.calls k _ _ l1_0 true _ ?side1 ?side2 A5.out).mono ?_);(case side1=>exact byca HO1_0.out);(case side2=>exact (Kd.uK HO1_0.out).2.1);rintro e w11 ⟨rfl,hb⟩;refine ⟨_,rfl,?_⟩;have n_:=q_4 (Kd.jJ (bybs HO1_0.out) hb) (Kd.jJ (bybs HO3.out) hb) (qI BK677.out hb) (qE (byag GE677.out) hb);clear HO1_0 HO3 BK677 HB;obtain ⟨HO1_0,HO3,BK677,HB⟩:=n_;clear hb)|((with_reducible refine qF (f:=9) rfl ?_);refine zC (some 30) rfl rfl Try.func9 (by kernel_rfl) rfl #[] rfl byac ?_;(with_reducible refine (jV.calls k  t679 _ A8.out).mono ?_);rintro e w12 ⟨rfl,hb⟩;refine ⟨_,rfl,?_⟩;have n_:=q_4 (Kd.jJ (bybs HO1_0.out) hb) (Kd.jJ (bybs HO3.out) hb) (qI BK677.out hb) (qE (byag GE677.out) hb);clear HO1_0 HO3 BK677 HB;obtain ⟨HO1_0,HO3,BK677,HB⟩:=n_;clear hb))
   go_ret
   exact ⟨byam,byag GE677.out⟩
  ·rw [if_neg c7] at H
   have c7b0:=decide_eq_false c7
   have c7b1 : decide (40 < l3.length) = false:=decide_eq_false (by omega)
   clear c7
   replace H:=Option.bind_eq_some_iff.mp H
   obtain ⟨⟨t680,t681⟩,A130,H⟩:=H
   try dsimp only at H
   have A13:=qA.mk A130
   clear A130
   replace H:=Option.bind_eq_some_iff.mp H
   obtain ⟨⟨t683,t686⟩,A140,H⟩:=H
   try dsimp only at H
   have A14:=qA.mk A140
   clear A140
   replace H:=Option.bind_eq_some_iff.mp H
   obtain ⟨⟨t688,t691⟩,A150,H⟩:=H
   try dsimp only at H
   have A15:=qA.mk A150
   clear A150
   obtain ⟨y692,hy692⟩ : ∃ y_ : List (S25),y_ = (([(⟨t683⟩ : S25),(⟨t688⟩ : S25),(⟨l1_0⟩ : S25)] : List (S25))):=⟨_,rfl⟩
   replace H : (trustquorumlaw09_ClosureAnswers.l0 k a2 l3 y692 (y692.length : Int) 0 t680 t691) = some r:=by first|(rw [hy692];with_reducible exact H)|(have H2_:=(Option.bind_some _ _).symm.trans H;rw [hy692];with_reducible exact H2_)|(have H2_:=(Option.bind_some _ _).symm.trans H;with_reducible exact H2_)|with_reducible exact H|(rw [hy692];exact H)|exact H
   have Ny692:=qA.mk hy692
   clear hy692
   have H':=qA.mk H
   clear H
   go_enter Try.func3,Try.ntmps3
   try go_wp2_with (first|((with_reducible refine qX (N:=5) rfl ?_);(try (refine uB (by rfl) ?_;dsimp only));refine zD ?hg (N:=5) ?hd (cs:=#[.slice A1_0 l1_0.length c1_0]) (t:=25) ?hr ?_;(case hd=>rfl);(case hg=>rfl);(case hr=>exact byad);intro gb677 hg w16 hbox hb;have n_:=q_6 (Kd.jJ (Kd.vO (bybs HO1_0.out) gb677 (Nat.le_of_eq hg.symm)) hb) (Kd.jJ (Kd.vO (bybs HO3.out) gb677 (Nat.le_of_eq hg.symm)) hb) (qE byae hb) (hbox) ((byck : w.heap.size ≤ gb677)) ((byck : w.heap.size ≤ gb677));clear HO1_0 HO3 HB;obtain ⟨HO1_0,HO3,HB,BK677,GW677,GE677⟩:=n_;clear hb hbox hg;obtain ⟨hcz17_0,hfz17_0⟩:=cz1 BK677.out)|((with_reducible refine qF (f:=8) rfl ?_);refine zC (some 23) rfl rfl Try.func8 (by kernel_rfl) rfl #[.agg #[.slice A1_0 l1_0.length c1_0]] rfl byac ?_;(with_reducible refine (zZ.calls k _ _ l1_0 true _ ?side1 ?side2 A5.out).mono ?_);(case side1=>exact byca HO1_0.out);(case side2=>exact (Kd.uK HO1_0.out).2.1);rintro e w18 ⟨rfl,hb⟩;refine ⟨_,rfl,?_⟩;have n_:=q_4 (Kd.jJ (bybs HO1_0.out) hb) (Kd.jJ (bybs HO3.out) hb) (qI BK677.out hb) (qE (byag GE677.out) hb);clear HO1_0 HO3 BK677 HB;obtain ⟨HO1_0,HO3,BK677,HB⟩:=n_;clear hb)|((with_reducible refine qF (f:=10) rfl ?_);refine zC (some 32) rfl rfl Try.func10 (by kernel_rfl) rfl #[.slice A0 l0.length c0] rfl byac ?_;(with_reducible refine (uU.calls _ _ l0 t680 t681 w _ ?side1 ?side2 ?side3 A13.out).mono ?_);(case side1=>exact byag GE677.out);(case side2=>exact HR0.out);(case side3=>exact HC0.out);rintro e w19 ⟨g682,rfl,hi,hb,hb2⟩;refine ⟨_,rfl,?_⟩;have n_:=q_7 (Kd.jJ (bybs HO1_0.out) hb2) (Kd.jJ (bybs HO3.out) hb2) (qI BK677.out hb2) (hb) (hi) (qB.ne_blk hi (qI BK677.out hb2) (by decide)) (Ne.symm (qB.ne_blk hi (qI BK677.out hb2) (by decide)));clear HO1_0 HO3 BK677 HB;obtain ⟨HO1_0,HO3,BK677,HB,HI682,NB682_677,NB677_682⟩:=n_;clear hb hb2 hi)|((with_reducible refine qF (f:=11) rfl ?_);refine zC (some 34) rfl rfl Try.func11 (by kernel_rfl) rfl #[.pointer (some ⟨g682,0,none⟩),.int .i64 10] rfl byac ?_;(with_reducible refine (zM.calls k g682 t680 t681 10 t683 t686 w _ ?side1 ?side2 A14.out).mono ?_);(case side1=>exact bybc HI682.out NB682_677.out);(case side2=>exact bybe HI682.out GE677.out);rintro e w20 ⟨v684,rfl,ho0,hi,hb,hk⟩;refine ⟨_,rfl,?_⟩;have n_:=q_6 (Kd.qM (Kd.vP (Kd.qM (ok:=fun k_=>(((k_ < w.heap.size))∧k_≠gb677)) (bybs HO1_0.out) (fun k_ hk_=>(⟨hk_,(fun e_=>absurd hk_.1 (Nat.not_lt.2 (by rw [e_];exact qB.ge HI682.out)))⟩ : _∧k_≠g682))) hk (fun _ h=>h.2)) (fun _ h=>h.1)) (Kd.qM (Kd.vP (Kd.qM (ok:=fun k_=>(((k_ < w.heap.size))∧k_≠gb677)) (bybs HO3.out) (fun k_ hk_=>(⟨hk_,(fun e_=>absurd hk_.1 (Nat.not_lt.2 (by rw [e_];exact qB.ge HI682.out)))⟩ : _∧k_≠g682))) hk (fun _ h=>h.2)) (fun _ h=>h.1)) (qC.blkB hk BK677.out NB677_682.out (by simp)) (Kd.V_lower (Kd.qM (ok':=fun k_=>((k_ < w.heap.size∨k_ < w.heap.size)∨w.heap.size ≤ k_)∧k_≠gb677∧k_≠g682) (Kd.R_V (Kd.Ql ho0)) (fun k_ hk_=>⟨(.inr (Nat.le_trans (zJ (bybe HI682.out GE677.out)) hk_.2.1)),(Kd.jW (g:=gb677) (o:=.cells #[.slice A1_0 l1_0.length c1_0] 25 (0,0)) (byaf BK677.out) k_ hk_.2.1),(qB.fresh (bybc HI682.out NB682_677.out) k_ hk_.2.1)⟩)) (zJ (bybe HI682.out GE677.out))) (hb) (hi);clear HO1_0 HO3 BK677 HB HI682;obtain ⟨HO1_0,HO3,BK677,HO685,HB,HI682⟩:=n_;clear hb hk hi;(try clear ho0))|((with_reducible refine qX (N:=10) rfl ?_);(try (refine uB (by rfl) ?_;dsimp only));refine zD ?hg (N:=10) ?hd (cs:=#[.slice none 0 0]) (t:=25) ?hr ?_;(case hd=>rfl);(case hg=>rfl);(case hr=>exact byad);intro gb687 hg w21 hbox hb;have n_:=q_11 (Kd.jJ (Kd.vO (bybs HO1_0.out) gb687 (Nat.le_of_eq hg.symm)) hb) (Kd.jJ (Kd.vO (bybs HO3.out) gb687 (Nat.le_of_eq hg.symm)) hb) (Kd.jJ (Kd.vO (bybs HO685.out) gb687 (Nat.le_of_eq hg.symm)) hb) (qI BK677.out hb) (qB.below (bybc HI682.out NB682_677.out) hb) (qE (bybe HI682.out GE677.out) hb) (hbox) ((by rw [hg];exact (zJ (bybe HI682.out GE677.out)) : w.heap.size ≤ gb687)) ((by rw [hg];exact (zJ (bybe HI682.out GE677.out)) : w.heap.size ≤ gb687)) ((by rw [hg];exact Nat.ne_of_lt (vH BK677.out) : gb677≠gb687)) ((by rw [hg];exact Nat.ne_of_lt (qB.lt (show qB w _ g682 t680 t686 from by repeat (first|(with_reducible first|exact HI682.out|apply qB.alloc|apply qB.drewN|apply qB.drew|apply qB.jO|refine qB.far ?_ NB682_677.out _)|exact HI682.out))) : g682≠gb687));clear HO1_0 HO3 HO685 BK677 HI682 HB;obtain ⟨HO1_0,HO3,HO685,BK677,HI682,HB,BK687,GW687,GE687,NB677_687,NB682_687⟩:=n_;have NB687_677:=ns NB677_687;have NB687_682:=ns NB682_687;clear hb hbox hg;obtain ⟨Ao22,co22,eo22⟩:=Kd.V_slice HO685.out;subst eo22;have hnb23:=NB687_677.out;have hnc23:=NB677_687.out;have hnb24:=NB687_682.out;have hnc24:=NB682_687.out;obtain ⟨hcz25_0,hfz25_0⟩:=cz1 BK687.out))
   have n0_ : qA (Kd.V k51 51 (w21.setCell ⟨gb687,0,none⟩ (.slice Ao22 t683.length co22)) w.heap.size (fun k_=>(k_ < w.heap.size)∧k_≠gb677∧k_≠gb687) (.slice A1_0 l1_0.length c1_0) l1_0):=⟨by (with_reducible repeat (first|apply Kd.jR|apply Kd.jQ|apply Kd.jT));exact Kd.qM (Kd.vM (p:=⟨gb687,0,none⟩) (Kd.qM HO1_0.out (fun k_ hk=>(⟨hk,hk.2⟩ : _∧k_≠gb687))) (fun _ hk=>hk.2) (.slice Ao22 t683.length co22)) (fun _ hk=>⟨hk.1.1.1,⟨hk.1.1.2,hk.1.2⟩⟩)⟩
   have n1_ : qA (Kd.V (Kd.int .i64) 3 (w21.setCell ⟨gb687,0,none⟩ (.slice Ao22 t683.length co22)) w.heap.size (fun k_=>(k_ < w.heap.size)∧k_≠gb677∧k_≠gb687) (.slice A3 l3.length c3) l3):=⟨by (with_reducible repeat (first|apply Kd.jR|apply Kd.jQ|apply Kd.jT));exact Kd.qM (Kd.vM (p:=⟨gb687,0,none⟩) (Kd.qM HO3.out (fun k_ hk=>(⟨hk,hk.2⟩ : _∧k_≠gb687))) (fun _ hk=>hk.2) (.slice Ao22 t683.length co22)) (fun _ hk=>⟨hk.1.1.1,⟨hk.1.1.2,hk.1.2⟩⟩)⟩
   have n2_ : qA (Kd.V k51 51 (w21.setCell ⟨gb687,0,none⟩ (.slice Ao22 t683.length co22)) w.heap.size (fun k_=>((k_ < w.heap.size∨k_ < w.heap.size)∨w.heap.size ≤ k_)∧k_≠gb677∧k_≠g682∧k_≠gb687) (.slice Ao22 t683.length co22) t683):=⟨by (with_reducible repeat (first|apply Kd.jR|apply Kd.jQ|apply Kd.jT));exact Kd.qM (Kd.vM (p:=⟨gb687,0,none⟩) (Kd.qM HO685.out (fun k_ hk=>(⟨hk,hk.2⟩ : _∧k_≠gb687))) (fun _ hk=>hk.2) (.slice Ao22 t683.length co22)) (fun _ hk=>⟨hk.1.1.1,⟨hk.1.1.2.1,⟨hk.1.1.2.2,hk.1.2⟩⟩⟩)⟩
   have n3_ : qA ((w21.setCell ⟨gb687,0,none⟩ (.slice Ao22 t683.length co22)).heap[gb677]? = some (.cells #[.slice A1_0 l1_0.length c1_0] 25 (0,0))):=⟨bybi NB677_687.out BK677.out⟩
   have n4_ : qA ((w21.setCell ⟨gb687,0,none⟩ (.slice Ao22 t683.length co22)).heap[gb687]? = some (.cells #[.slice Ao22 t683.length co22] 25 (0,0))):=⟨byat BK687.out⟩
   have n5_ : qA (qB w (w21.setCell ⟨gb687,0,none⟩ (.slice Ao22 t683.length co22)) g682 t680 t686):=⟨bybf HI682.out NB682_677.out NB682_687.out⟩
   have n6_ : qA (Below w.heap.size w (w21.setCell ⟨gb687,0,none⟩ (.slice Ao22 t683.length co22))):=⟨bybg HI682.out GE677.out GE687.out⟩
   (try clear HO1_0)
   (try clear HO3)
   (try clear HO685)
   (try clear BK677)
   (try clear BK687)
   (try clear HI682)
   (try clear HB)
   generalize (w21.setCell ⟨gb687,0,none⟩ (.slice Ao22 t683.length co22)) = w26 at n0_ n1_ n2_ n3_ n4_ n5_ n6_ ⊢
   have HO1_0:=n0_
   have HO3:=n1_
   have HO685:=n2_
   have BK677:=n3_
   have BK687:=n4_
   have HI682:=n5_
   have HB:=n6_
   clear n0_ n1_ n2_ n3_ n4_ n5_ n6_
   have n_:=q_7 (Kd.jT HO1_0.out) (Kd.jT HO3.out) (Kd.jT HO685.out) (qJ BK677.out) (qJ BK687.out) (qB.drew HI682.out) (vU HB.out)
   clear HO1_0 HO3 HO685 BK677 BK687 HI682 HB
   obtain ⟨HO1_0,HO3,HO685,BK677,BK687,HI682,HB⟩:=n_
   refine start_ (n:=8) (S:=fun w'=>w'.cell? ⟨gb687,0,none⟩ = some (.slice Ao22 t683.length co22)∧w'.cell? ⟨gb677,0,none⟩ = some (.slice A1_0 l1_0.length c1_0)) (ds:=[]) (bb 8 0) (by kernel_rfl) rfl rfl ⟨(vF BK687.out 0).trans rfl,(vF BK677.out 0).trans rfl⟩ (fun hHeld=>?_);refine kX trustquorumlaw09_ClosureAnswers.tab5 trustquorumlaw09_ClosureAnswers.bits5 (fun HT_ HW_=>?_)
   generalize w26.drew = w27 at HO1_0 HO3 HO685 BK677 BK687 HI682 HB hHeld ⊢
   refine jK (i:=1) (N:=some 36) (bb 8 2) ?_
   refine jK (i:=7) (N:=some 42) (bb 8 130) ?_
   refine takeZA (i:=0) (N:=some 35) (bb 8 131) hHeld ?_
   refine takeZA (i:=2) (N:=some 37) (bb 8 135) hHeld ?_
   refine takeZA (i:=4) (N:=some 39) (bb 8 151) hHeld ?_
   refine one_ (i:=3) (N:=some 38) (bb 8 159) rfl rfl (kJ HT_.out (by kernel_rfl)) (by decide) (fun K hK=>?_)
   refine goes_ Try.func12 (by kernel_rfl) rfl #[.pointer (some ⟨g682,0,none⟩),.agg #[.slice Ao22 t683.length co22]] (by rfl) rfl rfl byac ?_
   with_reducible refine (qR.calls k g682 t680 t686 (fun k_=>(((k_ < w.heap.size∨k_ < w.heap.size)∨w.heap.size ≤ k_)∧(k_≠gb677∧(k_≠g682∧k_≠gb687)))) _ _ t683 t688 t691 w _ ?side1 ?side2 ?side3 A15.out).mono ?_
   (case side1=>exact bybf HI682.out NB682_677.out NB682_687.out)
   (case side2=>exact bybg HI682.out GE677.out GE687.out)
   (case side3=>exact Kd.qM (HO685.out) (fun k_ hk_=>⟨hk_,hk_.2.2.1⟩))
   rintro e w28 ⟨v689,rfl,ho0,hi,hb,hk⟩
   refine ⟨_,rfl,?_⟩
   have n_:=q_8 (Kd.qM (Kd.V_told (Kd.V_oldK (Kd.qM (ok:=fun k_=>(((k_ < w.heap.size))∧(k_≠gb677∧k_≠gb687))) (bybs HO1_0.out) (fun k_ hk_=>(⟨hk_,(fun e_=>absurd hk_.1 (Nat.not_lt.2 (by rw [e_];exact qB.ge HI682.out)))⟩ : _∧k_≠g682))) hk) (Kd.vI ho0)) (fun _ h_=>h_.1)) (Kd.qM (Kd.V_told (Kd.V_oldK (Kd.qM (ok:=fun k_=>(((k_ < w.heap.size))∧(k_≠gb677∧k_≠gb687))) (bybs HO3.out) (fun k_ hk_=>(⟨hk_,(fun e_=>absurd hk_.1 (Nat.not_lt.2 (by rw [e_];exact qB.ge HI682.out)))⟩ : _∧k_≠g682))) hk) (Kd.vI ho0)) (fun _ h_=>h_.1)) (qC.blkB hk BK677.out NB677_682.out (by simp)) (Kd.qM (Kd.V_told (Kd.V_oldK (Kd.qM (ok:=fun k_=>((((k_ < w.heap.size∨k_ < w.heap.size)∨w.heap.size ≤ k_))∧(k_≠gb677∧(k_≠g682∧k_≠gb687)))) (bybs HO685.out) (fun k_ hk_=>(⟨hk_,hk_.2.2.1⟩ : _∧k_≠g682))) hk) (Kd.vI ho0)) (fun _ h_=>h_.1)) (qC.blkB hk BK687.out NB687_682.out (by simp)) (Kd.vW (Kd.zV (ok':=fun k_=>((k_ < w.heap.size∨k_ < w.heap.size)∨w.heap.size ≤ k_)∧k_≠gb677∧k_≠gb687∧k_≠g682) ho0 (fun k_ hk_=>⟨Or.elim hk_ (fun hs_=>hs_.1) (fun hn_=>(.inr (Nat.le_trans (zJ (bybg HI682.out GE677.out GE687.out)) hn_))),Or.elim hk_ (fun hs_=>hs_.2.1) (fun hn_=>(Kd.jW (g:=gb677) (o:=.cells #[.slice A1_0 l1_0.length c1_0] 25 (0,0)) (byaf BK677.out) k_ hn_)),Or.elim hk_ (fun hs_=>hs_.2.2.2) (fun hn_=>(Kd.jW (g:=gb687) (o:=.cells #[.slice Ao22 t683.length co22] 25 (0,0)) (byaf BK687.out) k_ hn_)),Or.elim hk_ (fun hs_=>hs_.2.2.1) (fun hn_=>(qB.fresh (bybf HI682.out NB682_677.out NB682_687.out) k_ hn_))⟩)) (zJ (bybg HI682.out GE677.out GE687.out))) (hb) (hi)
   clear HO1_0 HO3 BK677 HO685 BK687 HB HI682
   obtain ⟨HO1_0,HO3,BK677,HO685,BK687,HO690,HB,HI682⟩:=n_
   (try clear hb)
   (try clear hb2)
   (try clear hk)
   (try clear hi)
   (try clear ho0)
   obtain ⟨Ao29,co29,eo29⟩:=Kd.vT HO690.out
   (first|subst eo29|(injection eo29 with f1_ f2_ f3_;have f4_:=f1_.symm;have f5_:=f3_.symm;clear f1_ f2_ f3_;subst f4_;subst f5_))
   refine hK.out _ _ ⟨(vF BK687.out 0).trans rfl,(vF BK677.out 0).trans rfl⟩ (fun hHeld=>?_)
   clear hK K
   refine Qp (N:=some 38) ?_
   refine one_ (i:=5) (N:=some 40) (bb 8 191) rfl rfl (kJ HT_.out (by kernel_rfl)) (by decide) (fun K hK=>?_)
   refine Kd.N_lit_step k25 _ 25 ?hg (N':=40) ?hd (xs:=([(⟨t683⟩ : S25),(⟨t688⟩ : S25),(⟨l1_0⟩ : S25)] : List (S25))) (inner:=[.slice Ao22 t683.length co22,.slice Ao29 t688.length co29,.slice A1_0 l1_0.length c1_0]) (ok:=(fun k_=>((k_ < w.heap.size∨k_ < w.heap.size)∨w.heap.size ≤ k_)∧k_≠gb677∧k_≠gb687∧k_≠g682)) (okp:=(fun k_=>((k_ < w.heap.size∨k_ < w.heap.size)∨w.heap.size ≤ k_)∧k_≠gb677∧k_≠gb687∧k_≠g682)) ?hr ?hp (fun _ hk=>hk) ((show ∀ k_,w28.heap.size ≤ k_→(fun k_=>((k_ < w.heap.size∨k_ < w.heap.size)∨w.heap.size ≤ k_)∧k_≠gb677∧k_≠gb687∧k_≠g682) k_ from fun k_ hk=>⟨(.inr (Nat.le_trans (zJ (bybg HI682.out GE677.out GE687.out)) hk)),Kd.jW (g:=gb677) (o:=.cells #[.slice A1_0 l1_0.length c1_0] 25 (0,0)) (byaf BK677.out) k_ hk,Kd.jW (g:=gb687) (o:=.cells #[.slice Ao22 t683.length co22] 25 (0,0)) (byaf BK687.out) k_ hk,qB.fresh (bybf HI682.out NB682_677.out NB682_687.out) k_ hk⟩) _ (Nat.le_refl _)) (Below.refl _ _) (Nat.le_refl _) (by simp) ?_;(case hd=>rfl);(case hg=>rfl);(case hr=>exact byad);(case hp=>exact (Reps.one (show Kd.FK k25 _ _ (⟨t683⟩ : S25) [.slice Ao22 t683.length co22] from (k25_mkF _ _ (⟨t683⟩ : S25) (Kd.uK (Kd.qM (ok':=(fun k_=>((k_ < w.heap.size∨k_ < w.heap.size)∨w.heap.size ≤ k_)∧k_≠gb677∧k_≠gb687∧k_≠g682)) (HO685.out) (fun k_ hk=>⟨hk.1.1,⟨hk.1.2.1,⟨hk.1.2.2.2,hk.1.2.2.1⟩⟩⟩))).2.1 (Kd.V_F (Kd.qM (ok':=(fun k_=>((k_ < w.heap.size∨k_ < w.heap.size)∨w.heap.size ≤ k_)∧k_≠gb677∧k_≠gb687∧k_≠g682)) (HO685.out) (fun k_ hk=>⟨hk.1.1,⟨hk.1.2.1,⟨hk.1.2.2.2,hk.1.2.2.1⟩⟩⟩))))) (Reps.one (show Kd.FK k25 _ _ (⟨t688⟩ : S25) [.slice Ao29 t688.length co29] from (k25_mkF _ _ (⟨t688⟩ : S25) (Kd.uN (Kd.zV (ok':=(fun k_=>((k_ < w.heap.size∨k_ < w.heap.size)∨w.heap.size ≤ k_)∧k_≠gb677∧k_≠gb687∧k_≠g682)) (HO690.out) (fun k_ hk=>⟨hk.1,⟨hk.2.1,⟨hk.2.2.1,hk.2.2.2⟩⟩⟩))).2.1 (Kd.N_F (Kd.zV (ok':=(fun k_=>((k_ < w.heap.size∨k_ < w.heap.size)∨w.heap.size ≤ k_)∧k_≠gb677∧k_≠gb687∧k_≠g682)) (HO690.out) (fun k_ hk=>⟨hk.1,⟨hk.2.1,⟨hk.2.2.1,hk.2.2.2⟩⟩⟩))))) (Reps.one (show Kd.FK k25 _ _ (⟨l1_0⟩ : S25) [.slice A1_0 l1_0.length c1_0] from (k25_mkF _ _ (⟨l1_0⟩ : S25) (Kd.uK (Kd.qM (ok':=(fun k_=>((k_ < w.heap.size∨k_ < w.heap.size)∨w.heap.size ≤ k_)∧k_≠gb677∧k_≠gb687∧k_≠g682)) ((Kd.qM (HO1_0.out) (fun k_ hk=>(⟨hk,(fun e_=>absurd hk.1.1 (Nat.not_lt.2 (by rw [e_];exact qB.ge HI682.out)))⟩ : _∧k_≠g682)))) (fun k_ hk=>⟨.inl (.inl hk.1.1.1),⟨hk.1.1.2.1,⟨hk.1.1.2.2,hk.2⟩⟩⟩))).2.1 (Kd.V_F (Kd.qM (ok':=(fun k_=>((k_ < w.heap.size∨k_ < w.heap.size)∨w.heap.size ≤ k_)∧k_≠gb677∧k_≠gb687∧k_≠g682)) ((Kd.qM (HO1_0.out) (fun k_ hk=>(⟨hk,(fun e_=>absurd hk.1.1 (Nat.not_lt.2 (by rw [e_];exact qB.ge HI682.out)))⟩ : _∧k_≠g682)))) (fun k_ hk=>⟨.inl (.inl hk.1.1.1),⟨hk.1.1.2.1,⟨hk.1.1.2.2,hk.2⟩⟩⟩))))) (Reps.none _ _)))))
   intro v693 w30 ho31 hb hg_ hnew_
   clear hg_ hnew_
   (first|rw [← Ny692.out] at ho31|(simp only [Int.reduceToNat] at ho31;rw [← Ny692.out] at ho31))
   have n_:=q_8 (Kd.jY (bybs HO1_0.out) (Kd.vI ho31) hb) (Kd.jY (bybs HO3.out) (Kd.vI ho31) hb) (Kd.jY (bybs HO685.out) (Kd.vI ho31) hb) (Kd.vW ho31 (zJ (bybg HI682.out GE677.out GE687.out))) (qI BK677.out hb) (qB.below (bybf HI682.out NB682_677.out NB682_687.out) hb) (qI BK687.out hb) (qE (bybg HI682.out GE677.out GE687.out) hb)
   clear HO1_0 HO3 HO685 BK677 HI682 BK687 HB HO690
   obtain ⟨HO1_0,HO3,HO685,HO694,BK677,HI682,BK687,HB⟩:=n_
   clear hb ho31
   obtain ⟨Ao32,co32,eo32⟩:=Kd.vT HO694.out
   (first|subst eo32|(injection eo32 with f1_ f2_ f3_;have f4_:=f1_.symm;have f5_:=f3_.symm;clear f1_ f2_ f3_;subst f4_;subst f5_))
   refine hK.out _ _ ⟨(vF BK687.out 0).trans rfl,(vF BK677.out 0).trans rfl⟩ (fun hHeld=>?_)
   clear hK K
   refine Qp (N:=some 40) ?_
   refine jK (i:=6) (N:=some 41) (bb 8 255) ?_
   refine done_ (Qr HT_.out (by kernel_rfl)) ?_
   try go_wp2
   go_loopg [42] k (fun kq v42 w'=>∃ (x42_1 : Int) (x683001_1 : Int),v42 = .int .i64 x42_1∧qA (trustquorumlaw09_ClosureAnswers.l0 kq a2 l3 y692 (y692.length : Int) x42_1 t680 x683001_1 = some r)∧qA (kq ≤ k)∧qA (Kd.V (Kd.int .i64) 3 w' w.heap.size (fun k_=>((k_ < w.heap.size∨k_ < w.heap.size)∨w.heap.size ≤ k_)∧some k_≠((.slice Ao32 y692.length co32) : Value).ownBlock∧k_≠gb677∧k_≠gb687∧k_≠g682) (.slice A3 l3.length c3) l3)∧qA (Kd.N k25 25 w' w.heap.size (fun k_=>((k_ < w.heap.size∨k_ < w.heap.size)∨w.heap.size ≤ k_)∧k_≠gb677∧k_≠gb687∧k_≠g682) (.slice Ao32 y692.length co32) y692)∧qA (Kd.V k51 51 w' w.heap.size (fun k_=>((k_ < w.heap.size∨k_ < w.heap.size)∨w.heap.size ≤ k_)∧some k_≠((.slice Ao32 y692.length co32) : Value).ownBlock∧k_≠gb677∧k_≠gb687∧k_≠g682) (.slice A1_0 l1_0.length c1_0) l1_0)∧qA (Kd.V k51 51 w' w.heap.size (fun k_=>((k_ < w.heap.size∨k_ < w.heap.size)∨w.heap.size ≤ k_)∧some k_≠((.slice Ao32 y692.length co32) : Value).ownBlock∧k_≠gb677∧k_≠gb687∧k_≠g682) (.slice Ao22 t683.length co22) t683)∧qA (w'.heap[gb677]? = some (.cells #[(.slice A1_0 l1_0.length c1_0)] 25 (0,0)))∧qA (w'.heap[gb687]? = some (.cells #[(.slice Ao22 t683.length co22)] 25 (0,0)))∧qA (qB w w' g682 t680 x683001_1)∧qA (Below w.heap.size w w'))
   case atStart=>exact ⟨(0),(t691),byab,H',⟨Nat.le_refl _⟩,⟨byct HO3.out HI682.out⟩,⟨byau HO694.out⟩,⟨byct HO1_0.out HI682.out⟩,⟨by (with_reducible repeat (first|apply Kd.jR|apply Kd.jQ|apply Kd.jT));exact Kd.qM HO685.out (fun _ hk=>⟨hk.1.1.1,⟨hk.2,⟨hk.1.1.2.1,⟨hk.1.1.2.2.2,hk.1.1.2.2.1⟩⟩⟩⟩)⟩,⟨byaf BK677.out⟩,⟨byaf BK687.out⟩,⟨bybf HI682.out NB682_677.out NB682_687.out⟩,⟨bybg HI682.out GE677.out GE687.out⟩⟩
   case round =>
    clear H'
    obtain ⟨x42_1,x683001_1,rfl,HA,HK1,HO_3,HO_40,HO_678000,HO_688000,BK677,BK687,HI682,HB⟩:=hrel
    cases gk with
    | zero=>exact absurd HA.out (by simp [trustquorumlaw09_ClosureAnswers.l0])
    | succ k1 =>
     have H:=HA.out
     clear HA
     simp only [trustquorumlaw09_ClosureAnswers.l0] at H
     by_cases c33 : x42_1 < (y692.length : Int)
     ·rw [if_pos c33] at H
      have c33b0:=decide_eq_true c33
      clear c33
      by_cases c34 : 0 ≤ x42_1
      ·rw [if_pos c34] at H
       have c34b0:=decide_eq_true c34
       clear c34
       by_cases c35 : x42_1 < (y692.length : Int)
       ·rw [if_pos c35] at H
        have c35b0:=decide_eq_true c35
        clear c35
        replace H:=Option.bind_eq_some_iff.mp H
        obtain ⟨⟨t697,t698⟩,A360,H⟩:=H
        try dsimp only at H
        have A36:=qA.mk A360
        clear A360
        replace H:=Option.bind_eq_some_iff.mp H
        obtain ⟨⟨t699,t700⟩,A370,H⟩:=H
        try dsimp only at H
        have A37:=qA.mk A370
        clear A370
        obtain ⟨y701,hy701⟩ : ∃ y_ : List Int,y_ = (([a2,t697,t699,1023] : List Int)):=⟨_,rfl⟩
        replace H : (trustquorumlaw09_ClosureAnswers.l1 k1 a2 l3 y692 (y692.length : Int) x42_1 y701 (y701.length : Int) 0 t680 t700 ((rd_T25 y692 x42_1).f0)) = some r:=by first|(rw [hy701];with_reducible exact H)|(have H2_:=(Option.bind_some _ _).symm.trans H;rw [hy701];with_reducible exact H2_)|(have H2_:=(Option.bind_some _ _).symm.trans H;with_reducible exact H2_)|with_reducible exact H|(rw [hy701];exact H)|exact H
        have Ny701:=qA.mk hy701
        clear hy701
        have H':=qA.mk H
        clear H
        have p695 : 0 ≤ (x42_1 : Int):=of_decide_eq_true byah
        have q695 : x42_1 < (y692.length : Int):=of_decide_eq_true byah
        obtain ⟨ad695,A695_0,c695_0,e695,hx695_0,hl695_0,hi695_0⟩:=at_T25 (Kd.uN HO_40.out).2.2 x42_1 p695 q695
        cases e695
        obtain ⟨ce695,hce695,hMe695,hcc695⟩:=Kd.N_get HO_40.out z25 x42_1 p695 (by first|exact q695|exact of_decide_eq_true byah|(have e_:=(Kd.uN HO_40.out).1;omega))
        obtain ⟨ua695_0,uc695_0,rfl,ul695_0,ge695_0⟩:=k25_openF hMe695
        have hv695_0:=hcc695 0 _ rfl
        rw [Nat.add_zero,show (k25).sz = 1 from rfl,Nat.mul_one] at hv695_0
        replace hv695_0:=Option.some.inj (hv695_0.symm.trans hx695_0)
        injection hv695_0 with hva_ hvn_ hvc_
        rw [hva_] at ge695_0
        rw [hvc_] at ul695_0
        have HL695_0:=qA.mk (show Kd.V k51 51 _ w.heap.size _ _ ((rd_T25 y692 x42_1).f0) from Kd.V_mk ul695_0 ge695_0)
        clear hva_ hvn_ hvc_ ge695_0 ul695_0
        clear hcc695 hce695
        have HR695_0:=qA.mk hi695_0
        have HC695_0:=qA.mk hl695_0
        clear hi695_0 hl695_0
        replace p695:=eq_true p695
        replace q695:=eq_true q695
        go_wp2_with (first|((with_reducible refine qX (N:=12) rfl ?_);(try (refine uB (by rfl) ?_;dsimp only));refine zD ?hg (N:=12) ?hd (cs:=#[.slice none 0 0]) (t:=25) ?hr ?_;(case hd=>rfl);(case hg=>rfl);(case hr=>exact byad);intro gb696 hg w38 hbox hb;have n_:=q_16 (Kd.jJ (Kd.vO (bybs HO_3.out) gb696 (Nat.le_of_eq hg.symm)) hb) (Kd.jP (Kd.N_elderB (byau HO_40.out) gb696 (Nat.le_of_eq hg.symm)) hb) (Kd.jJ (Kd.vO (bybs HO_678000.out) gb696 (Nat.le_of_eq hg.symm)) hb) (Kd.jJ (Kd.vO (bybs HO_688000.out) gb696 (Nat.le_of_eq hg.symm)) hb) (Kd.jJ (Kd.vO bycb gb696 (Nat.le_of_eq hg.symm)) hb) (qI BK677.out hb) (qI BK687.out hb) (qB.below (bybf HI682.out NB682_677.out NB682_687.out) hb) (Kd.uX (bycc HR695_0.out) hb) (qE (bybg HI682.out GE677.out GE687.out) hb) (hbox) ((by rw [hg];exact (zJ (bybg HI682.out GE677.out GE687.out)) : w.heap.size ≤ gb696)) ((by rw [hg];exact (zJ (bybg HI682.out GE677.out GE687.out)) : w.heap.size ≤ gb696)) ((by rw [hg];exact Nat.ne_of_lt (vH BK677.out) : gb677≠gb696)) ((by rw [hg];exact Nat.ne_of_lt (vH BK687.out) : gb687≠gb696)) ((by rw [hg];exact Nat.ne_of_lt (qB.lt (show qB w _ g682 t680 x683001_1 from by repeat (first|(with_reducible first|exact HI682.out|apply qB.alloc|apply qB.drewN|apply qB.drew|apply qB.jO|refine qB.far ?_ NB682_677.out _|refine qB.far ?_ NB682_687.out _)|exact HI682.out))) : g682≠gb696));clear HO_3 HO_40 HO_678000 HO_688000 HL695_0 BK677 BK687 HI682 HR695_0 HB;obtain ⟨HO_3,HO_40,HO_678000,HO_688000,HL695_0,BK677,BK687,HI682,HR695_0,HB,BK696,GW696,GE696,NB677_696,NB687_696,NB682_696⟩:=n_;have NB696_677:=ns NB677_696;have NB696_687:=ns NB687_696;have NB696_682:=ns NB682_696;clear hb hbox hg;have hnb39:=NB696_677.out;have hnc39:=NB677_696.out;have hnb40:=NB696_687.out;have hnc40:=NB687_696.out;have hnb41:=NB696_682.out;have hnc41:=NB682_696.out;obtain ⟨hcz42_0,hfz42_0⟩:=cz1 BK696.out)|((with_reducible refine qF (f:=13) rfl ?_);refine zC (some 48) rfl rfl Try.func13 (by kernel_rfl) rfl #[.pointer (some ⟨g682,0,none⟩),.int .i64 1024] rfl byac ?_;(with_reducible refine (qK.calls g682 t680 x683001_1 1024 t697 t698 w _ ?side1 ?side2 A36.out).mono ?_);(case side1=>exact bybn HI682.out NB682_677.out NB682_687.out NB682_696.out);(case side2=>exact bybo HI682.out GE677.out GE687.out GE696.out);rintro e w43 ⟨rfl,hi,hb,hk⟩;refine ⟨_,rfl,?_⟩;have n_:=q_10 (Kd.qM (Kd.vP (Kd.qM (ok:=fun k_=>(((((k_ < w.heap.size∨k_ < w.heap.size)∨w.heap.size ≤ k_))∧(some k_≠(.slice (some ad695) y692.length co32 : Value).ownBlock∧(k_≠gb677∧(k_≠gb687∧k_≠g682))))∧k_≠gb696)) (by (with_reducible repeat (first|apply Kd.jR|apply Kd.jQ|apply Kd.jT));exact (Kd.qM (Kd.vM (p:=⟨gb696,0,none⟩) (Kd.qM HO_3.out (fun k_ hk=>(⟨hk,hk.2⟩ : _∧k_≠gb696))) (fun _ hk=>hk.2) (.slice A695_0 ((rd_T25 y692 x42_1).f0).length c695_0)) (fun _ h_=>h_.1))) (fun k_ hk_=>(⟨hk_,hk_.1.2.2.2.2⟩ : _∧k_≠g682))) hk (fun _ h=>h.2)) (fun _ h=>h.1)) (Kd.zV (Kd.Qj (Kd.zV (ok:=fun k_=>(((((k_ < w.heap.size∨k_ < w.heap.size)∨w.heap.size ≤ k_))∧(k_≠gb677∧(k_≠gb687∧k_≠g682)))∧k_≠gb696)) (by (with_reducible repeat (first|apply Kd.uJ|apply Kd.uI|apply Kd.uM));exact (Kd.zV (Kd.kW (p:=⟨gb696,0,none⟩) (Kd.zV HO_40.out (fun k_ hk=>(⟨hk,hk.2⟩ : _∧k_≠gb696))) (fun _ hk=>hk.2) (.slice A695_0 ((rd_T25 y692 x42_1).f0).length c695_0)) (fun _ h_=>h_.1))) (fun k_ hk_=>(⟨hk_,hk_.1.2.2.2⟩ : _∧k_≠g682))) hk (fun _ h=>h.2)) (fun _ h=>h.1)) (Kd.qM (Kd.vP (Kd.qM (ok:=fun k_=>(((((k_ < w.heap.size∨k_ < w.heap.size)∨w.heap.size ≤ k_))∧(some k_≠(.slice (some ad695) y692.length co32 : Value).ownBlock∧(k_≠gb677∧(k_≠gb687∧k_≠g682))))∧k_≠gb696)) (by (with_reducible repeat (first|apply Kd.jR|apply Kd.jQ|apply Kd.jT));exact (Kd.qM (Kd.vM (p:=⟨gb696,0,none⟩) (Kd.qM HO_678000.out (fun k_ hk=>(⟨hk,hk.2⟩ : _∧k_≠gb696))) (fun _ hk=>hk.2) (.slice A695_0 ((rd_T25 y692 x42_1).f0).length c695_0)) (fun _ h_=>h_.1))) (fun k_ hk_=>(⟨hk_,hk_.1.2.2.2.2⟩ : _∧k_≠g682))) hk (fun _ h=>h.2)) (fun _ h=>h.1)) (Kd.qM (Kd.vP (Kd.qM (ok:=fun k_=>(((((k_ < w.heap.size∨k_ < w.heap.size)∨w.heap.size ≤ k_))∧(some k_≠(.slice (some ad695) y692.length co32 : Value).ownBlock∧(k_≠gb677∧(k_≠gb687∧k_≠g682))))∧k_≠gb696)) (by (with_reducible repeat (first|apply Kd.jR|apply Kd.jQ|apply Kd.jT));exact (Kd.qM (Kd.vM (p:=⟨gb696,0,none⟩) (Kd.qM HO_688000.out (fun k_ hk=>(⟨hk,hk.2⟩ : _∧k_≠gb696))) (fun _ hk=>hk.2) (.slice A695_0 ((rd_T25 y692 x42_1).f0).length c695_0)) (fun _ h_=>h_.1))) (fun k_ hk_=>(⟨hk_,hk_.1.2.2.2.2⟩ : _∧k_≠g682))) hk (fun _ h=>h.2)) (fun _ h=>h.1)) (qC.blk hk (g':=gb677) (o:=.cells #[.slice A1_0 l1_0.length c1_0] 25 (0,0)) (bybi NB677_696.out BK677.out) NB677_682.out (by simp)) (qC.blk hk (g':=gb687) (o:=.cells #[.slice Ao22 t683.length co22] 25 (0,0)) (bybi NB687_696.out BK687.out) NB687_682.out (by simp)) (Kd.qM (Kd.vP (Kd.qM (ok:=fun k_=>((((((k_ < w.heap.size∨k_ < w.heap.size)∨w.heap.size ≤ k_))∧(k_≠gb677∧(k_≠gb687∧k_≠g682)))∧some k_≠(.slice (some ad695) y692.length co32 : Value).ownBlock)∧k_≠gb696)) (by (with_reducible repeat (first|apply Kd.jR|apply Kd.jQ|apply Kd.jT));exact (Kd.qM (Kd.vM (p:=⟨gb696,0,none⟩) (Kd.qM HL695_0.out (fun k_ hk=>(⟨hk,hk.2⟩ : _∧k_≠gb696))) (fun _ hk=>hk.2) (.slice A695_0 ((rd_T25 y692 x42_1).f0).length c695_0)) (fun _ h_=>h_.1))) (fun k_ hk_=>(⟨hk_,hk_.1.1.2.2.2⟩ : _∧k_≠g682))) hk (fun _ h=>h.2)) (fun _ h=>h.1)) (qC.blk hk (g':=gb696) (o:=.cells #[.slice A695_0 ((rd_T25 y692 x42_1).f0).length c695_0] 25 (0,0)) (byat BK696.out) NB696_682.out (by simp)) (hb) (hi);clear HO_3 HO_40 HO_678000 HO_688000 BK677 BK687 HL695_0 BK696 HB HI682;obtain ⟨HO_3,HO_40,HO_678000,HO_688000,BK677,BK687,HL695_0,BK696,HB,HI682⟩:=n_;clear hb hk hi)|((with_reducible refine qF (f:=13) rfl ?_);refine zC (some 50) rfl rfl Try.func13 (by kernel_rfl) rfl #[.pointer (some ⟨g682,0,none⟩),.int .i64 1024] rfl byac ?_;(with_reducible refine (qK.calls g682 t680 t698 1024 t699 t700 w _ ?side1 ?side2 A37.out).mono ?_);(case side1=>exact bybn HI682.out NB682_677.out NB682_687.out NB682_696.out);(case side2=>exact bybo HI682.out GE677.out GE687.out GE696.out);rintro e w44 ⟨rfl,hi,hb,hk⟩;refine ⟨_,rfl,?_⟩;have n_:=q_10 (Kd.qM (Kd.vP (Kd.qM (ok:=fun k_=>(((((k_ < w.heap.size∨k_ < w.heap.size)∨w.heap.size ≤ k_))∧(some k_≠(.slice (some ad695) y692.length co32 : Value).ownBlock∧(k_≠gb677∧(k_≠gb687∧k_≠g682))))∧k_≠gb696)) (bybs HO_3.out) (fun k_ hk_=>(⟨hk_,hk_.1.2.2.2.2⟩ : _∧k_≠g682))) hk (fun _ h=>h.2)) (fun _ h=>h.1)) (Kd.zV (Kd.Qj (Kd.zV (ok:=fun k_=>(((((k_ < w.heap.size∨k_ < w.heap.size)∨w.heap.size ≤ k_))∧(k_≠gb677∧(k_≠gb687∧k_≠g682)))∧k_≠gb696)) (byau HO_40.out) (fun k_ hk_=>(⟨hk_,hk_.1.2.2.2⟩ : _∧k_≠g682))) hk (fun _ h=>h.2)) (fun _ h=>h.1)) (Kd.qM (Kd.vP (Kd.qM (ok:=fun k_=>(((((k_ < w.heap.size∨k_ < w.heap.size)∨w.heap.size ≤ k_))∧(some k_≠(.slice (some ad695) y692.length co32 : Value).ownBlock∧(k_≠gb677∧(k_≠gb687∧k_≠g682))))∧k_≠gb696)) (bybs HO_678000.out) (fun k_ hk_=>(⟨hk_,hk_.1.2.2.2.2⟩ : _∧k_≠g682))) hk (fun _ h=>h.2)) (fun _ h=>h.1)) (Kd.qM (Kd.vP (Kd.qM (ok:=fun k_=>(((((k_ < w.heap.size∨k_ < w.heap.size)∨w.heap.size ≤ k_))∧(some k_≠(.slice (some ad695) y692.length co32 : Value).ownBlock∧(k_≠gb677∧(k_≠gb687∧k_≠g682))))∧k_≠gb696)) (bybs HO_688000.out) (fun k_ hk_=>(⟨hk_,hk_.1.2.2.2.2⟩ : _∧k_≠g682))) hk (fun _ h=>h.2)) (fun _ h=>h.1)) (qC.blkB hk BK677.out NB677_682.out (by simp)) (qC.blkB hk BK687.out NB687_682.out (by simp)) (Kd.qM (Kd.vP (Kd.qM (ok:=fun k_=>((((((k_ < w.heap.size∨k_ < w.heap.size)∨w.heap.size ≤ k_))∧(k_≠gb677∧(k_≠gb687∧k_≠g682)))∧some k_≠(.slice (some ad695) y692.length co32 : Value).ownBlock)∧k_≠gb696)) bycb (fun k_ hk_=>(⟨hk_,hk_.1.1.2.2.2⟩ : _∧k_≠g682))) hk (fun _ h=>h.2)) (fun _ h=>h.1)) (qC.blkB hk BK696.out NB696_682.out (by simp)) (hb) (hi);clear HO_3 HO_40 HO_678000 HO_688000 BK677 BK687 HL695_0 BK696 HB HI682;obtain ⟨HO_3,HO_40,HO_678000,HO_688000,BK677,BK687,HL695_0,BK696,HB,HI682⟩:=n_;clear hb hk hi)|((with_reducible refine qX (N:=51) rfl ?_);(try (refine uB (by rfl) ?_;dsimp only));refine Kd.Qk (Kd.int .i64) _ 3 ?hg (N:=51) ?hd (xs:=([a2,t697,t699,1023] : List Int)) (inner:=[.int .i64 a2,.int .i64 t697,.int .i64 t699,.int .i64 1023]) (ok:=fun _=>True) (okp:=fun _=>True) ?hr ?hp (fun _ hk=>hk) trivial (Below.refl _ _) (Nat.le_refl _) (by simp) ?_;(case hd=>rfl);(case hg=>rfl);(case hr=>exact byad);(case hp=>exact (Reps.one (show Kd.M (Kd.int .i64) _ _ _ a2 [.int .i64 a2] from rfl) (Reps.one (show Kd.M (Kd.int .i64) _ _ _ t697 [.int .i64 t697] from rfl) (Reps.one (show Kd.M (Kd.int .i64) _ _ _ t699 [.int .i64 t699] from rfl) (Reps.one (show Kd.M (Kd.int .i64) _ _ _ 1023 [.int .i64 1023] from rfl) (Reps.none _ _))))));intro v702 w45 ho46 hb hg_ hnew_;clear hg_ hnew_;(first|rw [← Ny701.out] at ho46|(simp only [Int.reduceToNat] at ho46;rw [← Ny701.out] at ho46));have n_:=q_11 (Kd.jY (bybs HO_3.out) (Kd.zW ho46) hb) (Kd.zU (byau HO_40.out) (Kd.zW ho46) hb) (Kd.jY (bybs HO_678000.out) (Kd.zW ho46) hb) (Kd.jY (bybs HO_688000.out) (Kd.zW ho46) hb) (Kd.jY bycb (Kd.zW ho46) hb) (Kd.vG (Kd.R_newM (M:=fun k_=>(w.heap.size ≤ k_)) ho46 (zJ (bybo HI682.out GE677.out GE687.out GE696.out)) (fun k_ h_=>h_)) (zJ (bybo HI682.out GE677.out GE687.out GE696.out))) (qI BK677.out hb) (qI BK687.out hb) (qB.below (bybn HI682.out NB682_677.out NB682_687.out NB682_696.out) hb) (qI BK696.out hb) (qE (bybo HI682.out GE677.out GE687.out GE696.out) hb);clear HO_3 HO_40 HO_678000 HO_688000 HL695_0 BK677 BK687 HI682 BK696 HB;obtain ⟨HO_3,HO_40,HO_678000,HO_688000,HL695_0,HO703,BK677,BK687,HI682,BK696,HB⟩:=n_;clear hb ho46;obtain ⟨Ao47,co47,eo47⟩:=Kd.jI HO703.out;subst eo47))
        go_loopg [53] k1 (fun kq v53 w'=>∃ (x53_2 : Int) (x683001_2 : Int),v53 = .int .i64 x53_2∧qA (trustquorumlaw09_ClosureAnswers.l1 kq a2 l3 y692 (y692.length : Int) x42_1 y701 (y701.length : Int) x53_2 t680 x683001_2 ((rd_T25 y692 x42_1).f0) = some r)∧qA (kq ≤ k1)∧qA (Kd.V (Kd.int .i64) 3 w' w.heap.size (fun k_=>((k_ < w.heap.size∨k_ < w.heap.size)∨w.heap.size ≤ k_)∧some k_≠((.slice (some ad695) y692.length co32) : Value).ownBlock∧some k_≠((.slice Ao47 y701.length co47) : Value).ownBlock∧k_≠gb677∧k_≠gb687∧k_≠gb696∧k_≠g682) (.slice A3 l3.length c3) l3)∧qA (Kd.N k25 25 w' w.heap.size (fun k_=>((k_ < w.heap.size∨k_ < w.heap.size)∨w.heap.size ≤ k_)∧some k_≠((.slice Ao47 y701.length co47) : Value).ownBlock∧k_≠gb677∧k_≠gb687∧k_≠gb696∧k_≠g682) (.slice (some ad695) y692.length co32) y692)∧qA (Kd.R (Kd.int .i64) 3 w' w.heap.size (fun k_=>(w.heap.size ≤ k_)) (.slice Ao47 y701.length co47) y701)∧qA (Kd.V k51 51 w' w.heap.size (fun k_=>((k_ < w.heap.size∨k_ < w.heap.size)∨w.heap.size ≤ k_)∧some k_≠((.slice (some ad695) y692.length co32) : Value).ownBlock∧some k_≠((.slice Ao47 y701.length co47) : Value).ownBlock∧k_≠gb677∧k_≠gb687∧k_≠gb696∧k_≠g682) (.slice A1_0 l1_0.length c1_0) l1_0)∧qA (Kd.V k51 51 w' w.heap.size (fun k_=>((k_ < w.heap.size∨k_ < w.heap.size)∨w.heap.size ≤ k_)∧some k_≠((.slice (some ad695) y692.length co32) : Value).ownBlock∧some k_≠((.slice Ao47 y701.length co47) : Value).ownBlock∧k_≠gb677∧k_≠gb687∧k_≠gb696∧k_≠g682) (.slice Ao22 t683.length co22) t683)∧qA (Kd.V k51 51 w' w.heap.size (fun k_=>((k_ < w.heap.size∨k_ < w.heap.size)∨w.heap.size ≤ k_)∧some k_≠((.slice (some ad695) y692.length co32) : Value).ownBlock∧some k_≠((.slice Ao47 y701.length co47) : Value).ownBlock∧k_≠gb677∧k_≠gb687∧k_≠gb696∧k_≠g682) (.slice A695_0 ((rd_T25 y692 x42_1).f0).length c695_0) ((rd_T25 y692 x42_1).f0))∧qA (w'.heap[gb677]? = some (.cells #[(.slice A1_0 l1_0.length c1_0)] 25 (0,0)))∧qA (w'.heap[gb687]? = some (.cells #[(.slice Ao22 t683.length co22)] 25 (0,0)))∧qA (w'.heap[gb696]? = some (.cells #[(.slice A695_0 ((rd_T25 y692 x42_1).f0).length c695_0)] 25 (0,0)))∧qA (qB w w' g682 t680 x683001_2)∧qA (Below w.heap.size w w'))
        case atStart=>exact ⟨(0),(t700),byab,H',⟨Nat.le_refl _⟩,⟨bycd HO_3.out⟩,⟨by (with_reducible repeat (first|apply Kd.uJ|apply Kd.uI|apply Kd.uM));exact Kd.zV HO_40.out (fun _ hk=>⟨hk.1.1.1,⟨hk.2,⟨hk.1.1.2.1,⟨hk.1.1.2.2.1,⟨hk.1.2,hk.1.1.2.2.2⟩⟩⟩⟩⟩)⟩,⟨bybm HO703.out⟩,⟨bycd HO_678000.out⟩,⟨bycd HO_688000.out⟩,⟨by (with_reducible repeat (first|apply Kd.jR|apply Kd.jQ|apply Kd.jT));exact Kd.qM HL695_0.out (fun _ hk=>⟨hk.1.1.1.1,⟨hk.1.1.2,⟨hk.2,⟨hk.1.1.1.2.1,⟨hk.1.1.1.2.2.1,⟨hk.1.2,hk.1.1.1.2.2.2⟩⟩⟩⟩⟩⟩)⟩,⟨byaf BK677.out⟩,⟨byaf BK687.out⟩,⟨byaf BK696.out⟩,⟨bybn HI682.out NB682_677.out NB682_687.out NB682_696.out⟩,⟨bybo HI682.out GE677.out GE687.out GE696.out⟩⟩
        case round =>
         clear H'
         try clear hx6
         try clear hx695_0
         obtain ⟨x53_2,x683001_2,rfl,HA,HK2,HO_3,HO_40,HO_51,HO_678000,HO_688000,HO_697000,BK677,BK687,BK696,HI682,HB⟩:=hrel
         cases gk with
         | zero=>exact absurd HA.out (by simp [trustquorumlaw09_ClosureAnswers.l1])
         | succ k2 =>
          have H:=HA.out
          clear HA
          simp only [trustquorumlaw09_ClosureAnswers.l1] at H
          by_cases c48 : x53_2 < (y701.length : Int)
          ·rw [if_pos c48] at H
           have c48b0:=decide_eq_true c48
           clear c48
           by_cases c49 : 0 ≤ x53_2
           ·rw [if_pos c49] at H
            have c49b0:=decide_eq_true c49
            clear c49
            by_cases c50 : x53_2 < (y701.length : Int)
            ·rw [if_pos c50] at H
             have c50b0:=decide_eq_true c50
             clear c50
             replace H:=Option.bind_eq_some_iff.mp H
             obtain ⟨t705,A510,H⟩:=H
             try dsimp only at H
             have A51:=qA.mk A510
             clear A510
             replace H:=Option.bind_eq_some_iff.mp H
             obtain ⟨t708,A520,H⟩:=H
             try dsimp only at H
             have A52:=qA.mk A520
             clear A520
             replace H:=Option.bind_eq_some_iff.mp H
             obtain ⟨t709,A530,H⟩:=H
             try dsimp only at H
             have A53:=qA.mk A530
             clear A530
             by_cases c54 : (t708 != t709) = true
             ·rw [if_pos c54] at H
              have c54b0 : (t708 != t709) = true:=c54
              (try (have c54b1 : decide (t708 = t709) = false:=by simpa using c54))
              (try (have c54b2 : (t708 == t709) = false:=by simpa using c54))
              (try (have c54b3 : ¬ (t708 = t709):=by simpa using c54))
              clear c54
              exfalso;rw [hr_.out] at H;simp at H
             ·rw [if_neg c54] at H
              have c54b0 : (t708 != t709) = false:=by simpa using c54
              (try (have c54b1 : decide (t708 = t709) = true:=by simpa using c54))
              (try (have c54b2 : (t708 == t709) = true:=by simpa using c54))
              clear c54
              replace H:=Option.bind_eq_some_iff.mp H
              obtain ⟨t710,A630,H⟩:=H
              try dsimp only at H
              have A63:=qA.mk A630
              clear A630
              replace H:=Option.bind_eq_some_iff.mp H
              obtain ⟨t711,A640,H⟩:=H
              try dsimp only at H
              have A64:=qA.mk A640
              clear A640
              by_cases c65 : t710 = t711
              ·rw [if_pos c65] at H
               obtain ⟨c65b0,c65b1⟩:=eqT c65
               clear c65
               replace H:=Option.bind_eq_some_iff.mp H
               obtain ⟨t712,A660,H⟩:=H
               try dsimp only at H
               have A66:=qA.mk A660
               clear A660
               replace H:=Option.bind_eq_some_iff.mp H
               obtain ⟨t715,A670,H⟩:=H
               try dsimp only at H
               have A67:=qA.mk A670
               clear A670
               by_cases c68 : t715 = true
               ·subst c68
                rw [if_pos rfl] at H
                replace H:=Option.bind_eq_some_iff.mp H
                obtain ⟨⟨t716,t719⟩,A690,H⟩:=H
                try dsimp only at H
                have A69:=qA.mk A690
                clear A690
                obtain ⟨y720,hy720⟩ : ∃ y_ : List Int,y_ = (([] : List Int)):=⟨_,rfl⟩
                replace H : (if y720.length + t705.length < 17592186044416 then ((some (y720 ++ t705 : List Int)).bind fun y723=>((qK.f t680 t719 10).bind fun bt726=>(if y723.length < 17592186044416 then ((some (([l3,t705,t716,(y723 ++ [bt726.1])] : List (List Int)) : List (List Int))).bind fun y731=>(trustquorumlaw09_ClosureAnswers.l2 k2 a2 l3 (rd y701 x53_2) y692 (y692.length : Int) x42_1 y701 (y701.length : Int) x53_2 y731 (y731.length : Int) 0 t680 bt726.2 ((rd_T25 y692 x42_1).f0))) else (none)))) else (none)) = some r:=by first|(rw [hy720];with_reducible exact H)|(have H2_:=(Option.bind_some _ _).symm.trans H;rw [hy720];with_reducible exact H2_)|(have H2_:=(Option.bind_some _ _).symm.trans H;with_reducible exact H2_)|with_reducible exact H|(rw [hy720];exact H)|exact H
                have Ny720:=qA.mk hy720
                clear hy720
                by_cases c70 : y720.length + t705.length < 17592186044416
                ·rw [if_pos c70] at H
                 have LMc70:=qA.mk c70
                 clear c70
                 obtain ⟨y723,hy723⟩ : ∃ y_ : List Int,y_ = (y720 ++ t705):=⟨_,rfl⟩
                 replace H : ((qK.f t680 t719 10).bind fun bt726=>(if y723.length < 17592186044416 then ((some (([l3,t705,t716,(y723 ++ [bt726.1])] : List (List Int)) : List (List Int))).bind fun y731=>(trustquorumlaw09_ClosureAnswers.l2 k2 a2 l3 (rd y701 x53_2) y692 (y692.length : Int) x42_1 y701 (y701.length : Int) x53_2 y731 (y731.length : Int) 0 t680 bt726.2 ((rd_T25 y692 x42_1).f0))) else (none))) = some r:=by first|(rw [hy723];with_reducible exact H)|(have H2_:=(Option.bind_some _ _).symm.trans H;rw [hy723];with_reducible exact H2_)|(have H2_:=(Option.bind_some _ _).symm.trans H;with_reducible exact H2_)|with_reducible exact H|(rw [hy723];exact H)|exact H
                 have Ny723:=qA.mk hy723
                 clear hy723
                 replace H:=Option.bind_eq_some_iff.mp H
                 obtain ⟨⟨t726,t727⟩,A710,H⟩:=H
                 try dsimp only at H
                 have A71:=qA.mk A710
                 clear A710
                 by_cases c72 : y723.length < 17592186044416
                 ·rw [if_pos c72] at H
                  have LMc72:=qA.mk c72
                  clear c72
                  obtain ⟨y728,hy728⟩ : ∃ y_ : List Int,y_ = (y723 ++ [t726]):=⟨_,rfl⟩
                  replace H : ((some (([l3,t705,t716,y728] : List (List Int)) : List (List Int))).bind fun y731=>(trustquorumlaw09_ClosureAnswers.l2 k2 a2 l3 (rd y701 x53_2) y692 (y692.length : Int) x42_1 y701 (y701.length : Int) x53_2 y731 (y731.length : Int) 0 t680 t727 ((rd_T25 y692 x42_1).f0))) = some r:=by first|(rw [hy728];with_reducible exact H)|(have H2_:=(Option.bind_some _ _).symm.trans H;rw [hy728];with_reducible exact H2_)|(have H2_:=(Option.bind_some _ _).symm.trans H;with_reducible exact H2_)|with_reducible exact H|(rw [hy728];exact H)|exact H
                  have Ny728:=qA.mk hy728
                  clear hy728
                  obtain ⟨y731,hy731⟩ : ∃ y_ : List (List Int),y_ = (([l3,t705,t716,y728] : List (List Int))):=⟨_,rfl⟩
                  replace H : (trustquorumlaw09_ClosureAnswers.l2 k2 a2 l3 (rd y701 x53_2) y692 (y692.length : Int) x42_1 y701 (y701.length : Int) x53_2 y731 (y731.length : Int) 0 t680 t727 ((rd_T25 y692 x42_1).f0)) = some r:=by first|(rw [hy731];with_reducible exact H)|(have H2_:=(Option.bind_some _ _).symm.trans H;rw [hy731];with_reducible exact H2_)|(have H2_:=(Option.bind_some _ _).symm.trans H;with_reducible exact H2_)|with_reducible exact H|(rw [hy731];exact H)|exact H
                  have Ny731:=qA.mk hy731
                  clear hy731
                  have H':=qA.mk H
                  clear H
                  have p704 : 0 ≤ (x53_2 : Int):=of_decide_eq_true byah
                  have q704 : x53_2 < (y701.length : Int):=of_decide_eq_true byah
                  obtain ⟨ad704,e704,hx704_0⟩:=Kd.uV (Kd.vS HO_51.out).2.2 x53_2 p704 q704
                  cases e704
                  replace p704:=eq_true p704
                  replace q704:=eq_true q704
                  have hnb73:=NB696_677.out
                  have hnc73:=NB677_696.out
                  have hnb74:=NB696_687.out
                  have hnc74:=NB687_696.out
                  have hnb75:=NB696_682.out
                  have hnc75:=NB682_696.out
                  obtain ⟨hcz76_0,hfz76_0⟩:=cz1 BK696.out
                  try go_wp2_with (first|((with_reducible refine qF (f:=14) rfl ?_);refine zC (some 59) rfl rfl Try.func14 (by kernel_rfl) rfl #[.agg #[.slice A695_0 ((rd_T25 y692 x42_1).f0).length c695_0],.int .i64 (rd y701 x53_2)] rfl byac ?_;(with_reducible refine (trustquorumref09_Elimination.calls k2 _ _ ((rd_T25 y692 x42_1).f0) (rd y701 x53_2) t705 _ ?side1 ?side2 A51.out).mono ?_);(case side1=>exact byca HO_697000.out);(case side2=>exact (Kd.uK HO_697000.out).2.1);rintro e w77 ⟨v706,rfl,ho0,hb⟩;refine ⟨_,rfl,?_⟩;have n_:=q_12 (Kd.jY (bybs HO_3.out) (Kd.zW ho0) hb) (Kd.zU (byau HO_40.out) (Kd.zW ho0) hb) (Kd.uH (byas HO_51.out) (Kd.zW ho0) hb) (Kd.jY (bybs HO_678000.out) (Kd.zW ho0) hb) (Kd.jY (bybs HO_688000.out) (Kd.zW ho0) hb) (Kd.jY (bybs HO_697000.out) (Kd.zW ho0) hb) (Kd.vG (Kd.uY (Kd.R_newM (M:=fun k_=>(w.heap.size ≤ k_)) ho0 (zJ (bybo HI682.out GE677.out GE687.out GE696.out)) (fun k_ h_=>h_)) (Kd.R_lt (byas HO_51.out))) (zJ (bybo HI682.out GE677.out GE687.out GE696.out))) (qI BK677.out hb) (qI BK687.out hb) (qI BK696.out hb) (qB.below (bybn HI682.out NB682_677.out NB682_687.out NB682_696.out) hb) (qE (bybo HI682.out GE677.out GE687.out GE696.out) hb);clear HO_3 HO_40 HO_51 HO_678000 HO_688000 HO_697000 BK677 BK687 BK696 HI682 HB;obtain ⟨HO_3,HO_40,HO_51,HO_678000,HO_688000,HO_697000,HO707,BK677,BK687,BK696,HI682,HB⟩:=n_;clear hb;(try clear ho0)))
                  have n_:=q_12 (Kd.jT HO_3.out) (Kd.uM HO_40.out) (Kd.jM HO_51.out) (Kd.jT HO_678000.out) (Kd.jT HO_688000.out) (Kd.jT HO_697000.out) (Kd.jM HO707.out) (qJ BK677.out) (qJ BK687.out) (qJ BK696.out) (qB.drew HI682.out) (vU HB.out)
                  clear HO_3 HO_40 HO_51 HO_678000 HO_688000 HO_697000 HO707 BK677 BK687 BK696 HI682 HB
                  obtain ⟨HO_3,HO_40,HO_51,HO_678000,HO_688000,HO_697000,HO707,BK677,BK687,BK696,HI682,HB⟩:=n_
                  refine start_ (n:=24) (S:=fun w'=>w'.cell? ⟨gb696,0,none⟩ = some (.slice A695_0 ((rd_T25 y692 x42_1).f0).length c695_0)) (ds:=[]) (bb 24 0) (by kernel_rfl) rfl rfl ((vF BK696.out 0).trans rfl) (fun hHeld=>?_);refine kX trustquorumlaw09_ClosureAnswers.tab12 trustquorumlaw09_ClosureAnswers.bits12 (fun HT_ HW_=>?_)
                  generalize w77.drew = w78 at HO_3 HO_40 HO_51 HO_678000 HO_688000 HO_697000 HO707 BK677 BK687 BK696 HI682 HB hHeld ⊢
                  refine jK (i:=1) (N:=some 61) (bb 24 2) ?_
                  refine jK (i:=4) (N:=some 64) (bb 24 18) ?_
                  refine Qs (i:=0) (N:=some 60) (bb 24 19) hHeld ?_
                  refine Qs (i:=3) (N:=some 63) (bb 24 27) hHeld ?_
                  refine one_ (i:=2) (N:=some 62) (bb 24 31) rfl rfl (kJ HT_.out (by kernel_rfl)) (by decide) (fun K hK=>?_)
                  refine goes_ Try.func15 (by kernel_rfl) rfl #[.agg #[.slice A695_0 ((rd_T25 y692 x42_1).f0).length c695_0],.int .i64 (rd y701 x53_2)] (by rfl) rfl rfl byac ?_
                  with_reducible refine (closure_Quorum.calls k2 _ _ ((rd_T25 y692 x42_1).f0) (rd y701 x53_2) t708 _ ?side1 ?side2 A52.out).mono ?_
                  (case side1=>exact byca HO_697000.out)
                  (case side2=>exact (Kd.uK HO_697000.out).2.1)
                  rintro e w79 ⟨rfl,hb⟩
                  refine ⟨_,rfl,?_⟩
                  have n_:=q_12 (Kd.jJ (bybs HO_3.out) hb) (Kd.jP (byau HO_40.out) hb) (Kd.jH (byas HO_51.out) hb) (Kd.jJ (bybs HO_678000.out) hb) (Kd.jJ (bybs HO_688000.out) hb) (Kd.jJ (bybs HO_697000.out) hb) (Kd.jH (byas HO707.out) hb) (qI BK677.out hb) (qI BK687.out hb) (qI BK696.out hb) (qB.below (bybn HI682.out NB682_677.out NB682_687.out NB682_696.out) hb) (qE (bybo HI682.out GE677.out GE687.out GE696.out) hb)
                  clear HO_3 HO_40 HO_51 HO_678000 HO_688000 HO_697000 HO707 BK677 BK687 BK696 HI682 HB
                  obtain ⟨HO_3,HO_40,HO_51,HO_678000,HO_688000,HO_697000,HO707,BK677,BK687,BK696,HI682,HB⟩:=n_
                  (try clear hb)
                  (try clear hb2)
                  (try clear hk)
                  (try clear hi)
                  refine hK.out _ _ ((vF BK696.out 0).trans rfl) (fun hHeld=>?_)
                  clear hK K
                  refine Qp (N:=some 62) ?_
                  refine one_ (i:=5) (N:=some 65) (bb 24 63) rfl rfl (kJ HT_.out (by kernel_rfl)) (by decide) (fun K hK=>?_)
                  refine goes_ Try.func16 (by kernel_rfl) rfl #[.agg #[.slice A695_0 ((rd_T25 y692 x42_1).f0).length c695_0],.int .i64 (rd y701 x53_2)] (by rfl) rfl rfl byac ?_
                  with_reducible refine (trustquorumref09_Quorum.calls k2 _ _ ((rd_T25 y692 x42_1).f0) (rd y701 x53_2) t709 _ ?side1 ?side2 A53.out).mono ?_
                  (case side1=>exact byca HO_697000.out)
                  (case side2=>exact (Kd.uK HO_697000.out).2.1)
                  rintro e w80 ⟨rfl,hb⟩
                  refine ⟨_,rfl,?_⟩
                  have n_:=q_12 (Kd.jJ (bybs HO_3.out) hb) (Kd.jP (byau HO_40.out) hb) (Kd.jH (byas HO_51.out) hb) (Kd.jJ (bybs HO_678000.out) hb) (Kd.jJ (bybs HO_688000.out) hb) (Kd.jJ (bybs HO_697000.out) hb) (Kd.jH (byas HO707.out) hb) (qI BK677.out hb) (qI BK687.out hb) (qI BK696.out hb) (qB.below (bybn HI682.out NB682_677.out NB682_687.out NB682_696.out) hb) (qE (bybo HI682.out GE677.out GE687.out GE696.out) hb)
                  clear HO_3 HO_40 HO_51 HO_678000 HO_688000 HO_697000 HO707 BK677 BK687 BK696 HI682 HB
                  obtain ⟨HO_3,HO_40,HO_51,HO_678000,HO_688000,HO_697000,HO707,BK677,BK687,BK696,HI682,HB⟩:=n_
                  (try clear hb)
                  (try clear hb2)
                  (try clear hk)
                  (try clear hi)
                  refine hK.out _ _ ((vF BK696.out 0).trans rfl) (fun hHeld=>?_)
                  clear hK K
                  refine Qp (N:=some 65) ?_
                  refine jK (i:=6) (N:=some 66) (bb 24 127) ?_
                  refine jK (i:=7) (N:=some 67) (bb 24 255) ?_
                  refine jK (i:=9) (N:=some 69) (bb 24 767) ?_
                  refine jK (i:=12) (N:=some 72) (bb 24 4863) ?_
                  refine Qs (i:=8) (N:=some 68) (bb 24 5119) hHeld ?_
                  refine Qs (i:=11) (N:=some 71) (bb 24 7167) hHeld ?_
                  refine one_ (i:=10) (N:=some 70) (bb 24 8191) rfl rfl (kJ HT_.out (by kernel_rfl)) (by decide) (fun K hK=>?_)
                  refine goes_ Try.func17 (by kernel_rfl) rfl #[.agg #[.slice A695_0 ((rd_T25 y692 x42_1).f0).length c695_0],.int .i64 (rd y701 x53_2)] (by rfl) rfl rfl byac ?_
                  with_reducible refine (closure_Greatest.calls k2 _ _ ((rd_T25 y692 x42_1).f0) (rd y701 x53_2) t710 _ ?side1 ?side2 A63.out).mono ?_
                  (case side1=>exact byca HO_697000.out)
                  (case side2=>exact (Kd.uK HO_697000.out).2.1)
                  rintro e w81 ⟨rfl,hb⟩
                  refine ⟨_,rfl,?_⟩
                  have n_:=q_12 (Kd.jJ (bybs HO_3.out) hb) (Kd.jP (byau HO_40.out) hb) (Kd.jH (byas HO_51.out) hb) (Kd.jJ (bybs HO_678000.out) hb) (Kd.jJ (bybs HO_688000.out) hb) (Kd.jJ (bybs HO_697000.out) hb) (Kd.jH (byas HO707.out) hb) (qI BK677.out hb) (qI BK687.out hb) (qI BK696.out hb) (qB.below (bybn HI682.out NB682_677.out NB682_687.out NB682_696.out) hb) (qE (bybo HI682.out GE677.out GE687.out GE696.out) hb)
                  clear HO_3 HO_40 HO_51 HO_678000 HO_688000 HO_697000 HO707 BK677 BK687 BK696 HI682 HB
                  obtain ⟨HO_3,HO_40,HO_51,HO_678000,HO_688000,HO_697000,HO707,BK677,BK687,BK696,HI682,HB⟩:=n_
                  (try clear hb)
                  (try clear hb2)
                  (try clear hk)
                  (try clear hi)
                  refine hK.out _ _ ((vF BK696.out 0).trans rfl) (fun hHeld=>?_)
                  clear hK K
                  refine Qp (N:=some 70) ?_
                  refine one_ (i:=13) (N:=some 73) (bb 24 16383) rfl rfl (kJ HT_.out (by kernel_rfl)) (by decide) (fun K hK=>?_)
                  refine goes_ Try.func18 (by kernel_rfl) rfl #[.agg #[.slice A695_0 ((rd_T25 y692 x42_1).f0).length c695_0],.int .i64 (rd y701 x53_2)] (by rfl) rfl rfl byac ?_
                  with_reducible refine (trustquorumref09_Greatest.calls k2 _ _ ((rd_T25 y692 x42_1).f0) (rd y701 x53_2) t711 _ ?side1 ?side2 A64.out).mono ?_
                  (case side1=>exact byca HO_697000.out)
                  (case side2=>exact (Kd.uK HO_697000.out).2.1)
                  rintro e w82 ⟨rfl,hb⟩
                  refine ⟨_,rfl,?_⟩
                  have n_:=q_12 (Kd.jJ (bybs HO_3.out) hb) (Kd.jP (byau HO_40.out) hb) (Kd.jH (byas HO_51.out) hb) (Kd.jJ (bybs HO_678000.out) hb) (Kd.jJ (bybs HO_688000.out) hb) (Kd.jJ (bybs HO_697000.out) hb) (Kd.jH (byas HO707.out) hb) (qI BK677.out hb) (qI BK687.out hb) (qI BK696.out hb) (qB.below (bybn HI682.out NB682_677.out NB682_687.out NB682_696.out) hb) (qE (bybo HI682.out GE677.out GE687.out GE696.out) hb)
                  clear HO_3 HO_40 HO_51 HO_678000 HO_688000 HO_697000 HO707 BK677 BK687 BK696 HI682 HB
                  obtain ⟨HO_3,HO_40,HO_51,HO_678000,HO_688000,HO_697000,HO707,BK677,BK687,BK696,HI682,HB⟩:=n_
                  (try clear hb)
                  (try clear hb2)
                  (try clear hk)
                  (try clear hi)
                  refine hK.out _ _ ((vF BK696.out 0).trans rfl) (fun hHeld=>?_)
                  clear hK K
                  refine Qp (N:=some 73) ?_
                  refine jK (i:=14) (N:=some 74) (bb 24 32767) ?_
                  refine jK (i:=15) (N:=some 75) (bb 24 65535) ?_
                  refine jK (i:=16) (N:=some 76) (bb 24 131071) ?_
                  refine jK (i:=18) (N:=some 78) (bb 24 393215) ?_
                  refine jK (i:=20) (N:=some 80) (bb 24 1441791) ?_
                  refine Qs (i:=17) (N:=some 77) (bb 24 1572863) hHeld ?_
                  refine one_ (i:=19) (N:=some 79) (bb 24 2097151) rfl rfl (kJ HT_.out (by kernel_rfl)) (by decide) (fun K hK=>?_)
                  refine goes_ Try.func20 (by kernel_rfl) rfl #[.agg #[.slice A695_0 ((rd_T25 y692 x42_1).f0).length c695_0],.int .i64 (rd y701 x53_2)] (by rfl) rfl rfl byac ?_
                  with_reducible refine (closure_Elimination.calls k2 _ _ ((rd_T25 y692 x42_1).f0) (rd y701 x53_2) t712 _ ?side1 ?side2 A66.out).mono ?_
                  (case side1=>exact byca HO_697000.out)
                  (case side2=>exact (Kd.uK HO_697000.out).2.1)
                  rintro e w83 ⟨v713,rfl,ho0,hb⟩
                  refine ⟨_,rfl,?_⟩
                  have n_:=q_13 (Kd.jY (bybs HO_3.out) (Kd.zW ho0) hb) (Kd.zU (byau HO_40.out) (Kd.zW ho0) hb) (Kd.uH (byas HO_51.out) (Kd.zW ho0) hb) (Kd.jY (bybs HO_678000.out) (Kd.zW ho0) hb) (Kd.jY (bybs HO_688000.out) (Kd.zW ho0) hb) (Kd.jY (bybs HO_697000.out) (Kd.zW ho0) hb) (Kd.uH (byas HO707.out) (Kd.zW ho0) hb) (Kd.vG (Kd.uY (Kd.uY (Kd.R_newM (M:=fun k_=>(w.heap.size ≤ k_)) ho0 (zJ (bybo HI682.out GE677.out GE687.out GE696.out)) (fun k_ h_=>h_)) (Kd.R_lt (byas HO_51.out))) (Kd.R_lt (byas HO707.out))) (zJ (bybo HI682.out GE677.out GE687.out GE696.out))) (qI BK677.out hb) (qI BK687.out hb) (qI BK696.out hb) (qB.below (bybn HI682.out NB682_677.out NB682_687.out NB682_696.out) hb) (qE (bybo HI682.out GE677.out GE687.out GE696.out) hb)
                  clear HO_3 HO_40 HO_51 HO_678000 HO_688000 HO_697000 HO707 BK677 BK687 BK696 HI682 HB
                  obtain ⟨HO_3,HO_40,HO_51,HO_678000,HO_688000,HO_697000,HO707,HO714,BK677,BK687,BK696,HI682,HB⟩:=n_
                  (try clear hb)
                  (try clear hb2)
                  (try clear hk)
                  (try clear hi)
                  (try clear ho0)
                  obtain ⟨Ao84,co84,eo84⟩:=Kd.jI HO714.out
                  (first|subst eo84|(injection eo84 with f1_ f2_ f3_;have f4_:=f1_.symm;have f5_:=f3_.symm;clear f1_ f2_ f3_;subst f4_;subst f5_))
                  obtain ⟨Ao85,co85,eo85⟩:=Kd.jI HO707.out
                  (first|subst eo85|(injection eo85 with f1_ f2_ f3_;have f4_:=f1_.symm;have f5_:=f3_.symm;clear f1_ f2_ f3_;subst f4_;subst f5_))
                  refine hK.out _ _ ((vF BK696.out 0).trans rfl) (fun hHeld=>?_)
                  clear hK K
                  refine Qp (N:=some 79) ?_
                  refine one_ (i:=21) (N:=some 81) (bb 24 4194303) rfl rfl (kJ HT_.out (by kernel_rfl)) (by decide) (fun K hK=>?_)
                  refine goes_ Try.func19 (by kernel_rfl) rfl #[.slice Ao84 t712.length co84,.slice Ao85 t705.length co85] (by rfl) rfl rfl byac ?_
                  with_reducible refine (zH.calls k2 _ _ t712 _ _ t705 true _ ?side1 ?side2 ?side3 ?side4 A67.out).mono ?_
                  (case side1=>exact byax HO714.out)
                  (case side2=>exact byay HO714.out)
                  (case side3=>exact byax HO707.out)
                  (case side4=>exact byay HO707.out)
                  rintro e w' ⟨rfl,⟨nd,rfl⟩⟩
                  refine ⟨_,rfl,?_⟩
                  refine hK.out _ _ ((vF BK696.out 0).trans rfl) (fun hHeld=>?_)
                  clear hK K
                  refine Qp (N:=some 81) ?_
                  refine jK (i:=22) (N:=some 82) (bb 24 8388607) ?_
                  refine jK (i:=23) (N:=some 83) (bb 24 16777215) ?_
                  refine done_ (Qr HT_.out (by kernel_rfl)) ?_
                  try go_wp2_with (first|((with_reducible refine qF (f:=21) rfl ?_);refine zC (some 89) rfl rfl Try.func21 (by kernel_rfl) rfl #[.pointer (some ⟨g682,0,none⟩),.int .i64 (t705.length : Int)] rfl byac ?_;(with_reducible refine (qN.calls k2 g682 t680 x683001_2 (t705.length : Int) t716 t719 w _ ?side1 ?side2 A69.out).mono ?_);(case side1=>exact bybn HI682.out NB682_677.out NB682_687.out NB682_696.out);(case side2=>exact bybo HI682.out GE677.out GE687.out GE696.out);rintro e w86 ⟨v717,rfl,ho0,hi,hb,hk⟩;refine ⟨_,rfl,?_⟩;have n_:=q_14 (Kd.qM (Kd.V_told (Kd.V_oldK (Kd.qM (ok:=fun k_=>((((((k_ < w.heap.size∨k_ < w.heap.size)∨w.heap.size ≤ k_))∧(some k_≠(.slice (some ad695) y692.length co32 : Value).ownBlock∧(some k_≠(.slice (some ad704) y701.length co47 : Value).ownBlock∧(k_≠gb677∧(k_≠gb687∧(k_≠gb696∧k_≠g682))))))∧some k_≠(.slice Ao85 t705.length co85 : Value).ownBlock)∧some k_≠(.slice Ao84 t712.length co84 : Value).ownBlock)) (bybs HO_3.out) (fun k_ hk_=>(⟨hk_,hk_.1.1.2.2.2.2.2.2⟩ : _∧k_≠g682))) hk) (Kd.zW ho0)) (fun _ h_=>h_.1)) (Kd.zV (Kd.N_told (Kd.N_oldK (Kd.zV (ok:=fun k_=>((((((k_ < w.heap.size∨k_ < w.heap.size)∨w.heap.size ≤ k_))∧(some k_≠(.slice (some ad704) y701.length co47 : Value).ownBlock∧(k_≠gb677∧(k_≠gb687∧(k_≠gb696∧k_≠g682)))))∧some k_≠(.slice Ao85 t705.length co85 : Value).ownBlock)∧some k_≠(.slice Ao84 t712.length co84 : Value).ownBlock)) (byau HO_40.out) (fun k_ hk_=>(⟨hk_,hk_.1.1.2.2.2.2.2⟩ : _∧k_≠g682))) hk) (Kd.zW ho0)) (fun _ h_=>h_.1)) (Kd.qV (Kd.Qi (Kd.R_oldK (qB.apart (show qB w _ g682 t680 x683001_2 from by repeat (first|(with_reducible first|exact HI682.out|apply qB.alloc|apply qB.drewN|apply qB.drew|apply qB.jO|refine qB.far ?_ NB682_677.out _|refine qB.far ?_ NB682_687.out _|refine qB.far ?_ NB682_696.out _)|exact HI682.out)) (byas HO_51.out) (by decide)) hk) (Kd.zW ho0)) (fun _ h_=>h_.1)) (Kd.qM (Kd.V_told (Kd.V_oldK (Kd.qM (ok:=fun k_=>((((((k_ < w.heap.size∨k_ < w.heap.size)∨w.heap.size ≤ k_))∧(some k_≠(.slice (some ad695) y692.length co32 : Value).ownBlock∧(some k_≠(.slice (some ad704) y701.length co47 : Value).ownBlock∧(k_≠gb677∧(k_≠gb687∧(k_≠gb696∧k_≠g682))))))∧some k_≠(.slice Ao85 t705.length co85 : Value).ownBlock)∧some k_≠(.slice Ao84 t712.length co84 : Value).ownBlock)) (bybs HO_678000.out) (fun k_ hk_=>(⟨hk_,hk_.1.1.2.2.2.2.2.2⟩ : _∧k_≠g682))) hk) (Kd.zW ho0)) (fun _ h_=>h_.1)) (Kd.qM (Kd.V_told (Kd.V_oldK (Kd.qM (ok:=fun k_=>((((((k_ < w.heap.size∨k_ < w.heap.size)∨w.heap.size ≤ k_))∧(some k_≠(.slice (some ad695) y692.length co32 : Value).ownBlock∧(some k_≠(.slice (some ad704) y701.length co47 : Value).ownBlock∧(k_≠gb677∧(k_≠gb687∧(k_≠gb696∧k_≠g682))))))∧some k_≠(.slice Ao85 t705.length co85 : Value).ownBlock)∧some k_≠(.slice Ao84 t712.length co84 : Value).ownBlock)) (bybs HO_688000.out) (fun k_ hk_=>(⟨hk_,hk_.1.1.2.2.2.2.2.2⟩ : _∧k_≠g682))) hk) (Kd.zW ho0)) (fun _ h_=>h_.1)) (Kd.qM (Kd.V_told (Kd.V_oldK (Kd.qM (ok:=fun k_=>((((((k_ < w.heap.size∨k_ < w.heap.size)∨w.heap.size ≤ k_))∧(some k_≠(.slice (some ad695) y692.length co32 : Value).ownBlock∧(some k_≠(.slice (some ad704) y701.length co47 : Value).ownBlock∧(k_≠gb677∧(k_≠gb687∧(k_≠gb696∧k_≠g682))))))∧some k_≠(.slice Ao85 t705.length co85 : Value).ownBlock)∧some k_≠(.slice Ao84 t712.length co84 : Value).ownBlock)) (bybs HO_697000.out) (fun k_ hk_=>(⟨hk_,hk_.1.1.2.2.2.2.2.2⟩ : _∧k_≠g682))) hk) (Kd.zW ho0)) (fun _ h_=>h_.1)) (qC.blkB hk BK677.out NB677_682.out (by simp)) (qC.blkB hk BK687.out NB687_682.out (by simp)) (qC.blkB hk BK696.out NB696_682.out (by simp)) (Kd.qV (Kd.Qi (Kd.R_oldK (qB.apart (show qB w _ g682 t680 x683001_2 from by repeat (first|(with_reducible first|exact HI682.out|apply qB.alloc|apply qB.drewN|apply qB.drew|apply qB.jO|refine qB.far ?_ NB682_677.out _|refine qB.far ?_ NB682_687.out _|refine qB.far ?_ NB682_696.out _)|exact HI682.out)) (byas HO707.out) (by decide)) hk) (Kd.zW ho0)) (fun _ h_=>h_.1)) (Kd.qV (Kd.Qi (Kd.R_oldK (qB.apart (show qB w _ g682 t680 x683001_2 from by repeat (first|(with_reducible first|exact HI682.out|apply qB.alloc|apply qB.drewN|apply qB.drew|apply qB.jO|refine qB.far ?_ NB682_677.out _|refine qB.far ?_ NB682_687.out _|refine qB.far ?_ NB682_696.out _)|exact HI682.out)) (byas HO714.out) (by decide)) hk) (Kd.zW ho0)) (fun _ h_=>h_.1)) (Kd.vG (Kd.uY (Kd.uY (Kd.uY (Kd.R_newM (M:=fun k_=>(w.heap.size ≤ k_)) ho0 (zJ (bybo HI682.out GE677.out GE687.out GE696.out)) (fun k_ h_=>h_)) (Kd.R_lt (byas HO_51.out))) (Kd.R_lt (byas HO707.out))) (Kd.R_lt (byas HO714.out))) (zJ (bybo HI682.out GE677.out GE687.out GE696.out))) (hb) (hi);clear HO_3 HO_40 HO_51 HO_678000 HO_688000 HO_697000 BK677 BK687 BK696 HO707 HO714 HB HI682;obtain ⟨HO_3,HO_40,HO_51,HO_678000,HO_688000,HO_697000,BK677,BK687,BK696,HO707,HO714,HO718,HB,HI682⟩:=n_;clear hb hk hi;(try clear ho0))|((with_reducible refine qX (N:=90) rfl ?_);(try (refine uB (by rfl) ?_;dsimp only));refine Kd.Qk (Kd.int .i64) _ 3 ?hg (N:=90) ?hd (xs:=([] : List Int)) (inner:=[]) (ok:=fun _=>True) (okp:=fun _=>True) ?hr ?hp (fun _ hk=>hk) trivial (Below.refl _ _) (Nat.le_refl _) (by simp) ?_;(case hd=>rfl);(case hg=>rfl);(case hr=>exact byad);(case hp=>exact (Reps.none _ _));intro v721 w87 ho88 hb hg_ hnew_;clear hg_ hnew_;(first|rw [← Ny720.out] at ho88|(simp only [Int.reduceToNat] at ho88;rw [← Ny720.out] at ho88));have n_:=q_15 (Kd.jY (bybs HO_3.out) (Kd.zW ho88) hb) (Kd.zU (byau HO_40.out) (Kd.zW ho88) hb) (Kd.uH (byas HO_51.out) (Kd.zW ho88) hb) (Kd.jY (bybs HO_678000.out) (Kd.zW ho88) hb) (Kd.jY (bybs HO_688000.out) (Kd.zW ho88) hb) (Kd.jY (bybs HO_697000.out) (Kd.zW ho88) hb) (Kd.uH (byas HO707.out) (Kd.zW ho88) hb) (Kd.uH (byas HO714.out) (Kd.zW ho88) hb) (Kd.uH (byas HO718.out) (Kd.zW ho88) hb) (Kd.vG (Kd.uY (Kd.uY (Kd.uY (Kd.uY (Kd.R_newM (M:=fun k_=>(w.heap.size ≤ k_)) ho88 (zJ (bybo HI682.out GE677.out GE687.out GE696.out)) (fun k_ h_=>h_)) (Kd.R_lt (byas HO_51.out))) (Kd.R_lt (byas HO707.out))) (Kd.R_lt (byas HO714.out))) (Kd.R_lt (byas HO718.out))) (zJ (bybo HI682.out GE677.out GE687.out GE696.out))) (qI BK677.out hb) (qI BK687.out hb) (qI BK696.out hb) (qB.below (bybn HI682.out NB682_677.out NB682_687.out NB682_696.out) hb) (qE (bybo HI682.out GE677.out GE687.out GE696.out) hb);clear HO_3 HO_40 HO_51 HO_678000 HO_688000 HO_697000 HO707 HO714 HO718 BK677 BK687 BK696 HI682 HB;obtain ⟨HO_3,HO_40,HO_51,HO_678000,HO_688000,HO_697000,HO707,HO714,HO718,HO722,BK677,BK687,BK696,HI682,HB⟩:=n_;clear hb ho88)|((with_reducible refine jU (b:=.append) (xs:=#[.tmp 90,.tmp 91]) rfl ?_);(try (refine uB (by rfl) ?_;dsimp only));at_builtin;refine Kd.R_append_rows (Kd.int .i64) (w0:=w) w.heap.size rfl (.tmp 90) (.tmp 91) 22 3 (.int .i64 0) 8 rfl Try.underlying22 info3 rfl (by decide) (by omega) v721 y720 t705 _ _ _ (fun k_=>(w.heap.size ≤ k_)∧some k_≠(.slice (some ad704) y701.length co47 : Value).ownBlock∧some k_≠(.slice Ao85 t705.length co85 : Value).ownBlock∧some k_≠(.slice Ao84 t712.length co84 : Value).ownBlock∧some k_≠(v717 : Value).ownBlock) (fun _=>False) rfl rfl ?aO ?aR (fun _ _ h=>h) (fun _ h=>h.elim) ?aF ?aB ?aS ?aL ?_;(case aR=>repeat (first|exact (Kd.vS HO707.out).2.2|(with_reducible refine Kd.C_alloc ?_ _)|(with_reducible refine Kd.C_drewN ?_ _)|(with_reducible refine Kd.C_drew ?_)));(case aB=>exact (bybo HI682.out GE677.out GE687.out GE696.out));(case aF=>exact (fun k_ hk=>⟨(Nat.le_trans (zJ (bybo HI682.out GE677.out GE687.out GE696.out)) hk),Kd.fresh' (Kd.R_lt (byas HO_51.out)) k_ hk,Kd.fresh' (Kd.R_lt (byas HO707.out)) k_ hk,Kd.fresh' (Kd.R_lt (byas HO714.out)) k_ hk,Kd.fresh' (Kd.R_lt (byas HO718.out)) k_ hk⟩));(case aO=>exact (by (with_reducible repeat (first|apply Kd.jF|apply Kd.jG|apply Kd.jM));exact Kd.qV HO722.out (fun _ hk=>⟨hk.1.1.1.1.1,⟨hk.1.1.1.2,⟨hk.1.1.2,⟨hk.1.2,hk.2⟩⟩⟩⟩)));(case aS=>exact (zJ (bybo HI682.out GE677.out GE687.out GE696.out)));(case aL=>have:=LMc70.out;omega);intro v724 w89 ho hb hg hat;rw [← Ny723.out] at ho;have n_:=q_15 (Kd.vN (ok:=(fun k_=>((k_ < w.heap.size∨k_ < w.heap.size)∨w.heap.size ≤ k_)∧some k_≠(.slice (some ad695) y692.length co32 : Value).ownBlock∧some k_≠(.slice (some ad704) y701.length co47 : Value).ownBlock∧some k_≠(.slice Ao85 t705.length co85 : Value).ownBlock∧some k_≠(.slice Ao84 t712.length co84 : Value).ownBlock∧some k_≠(v717 : Value).ownBlock∧k_≠gb677∧k_≠gb687∧k_≠gb696∧k_≠g682)) (byce HO_3.out) hg hat) (Kd.N_afterv (ok:=(fun k_=>((k_ < w.heap.size∨k_ < w.heap.size)∨w.heap.size ≤ k_)∧some k_≠(.slice (some ad704) y701.length co47 : Value).ownBlock∧some k_≠(.slice Ao85 t705.length co85 : Value).ownBlock∧some k_≠(.slice Ao84 t712.length co84 : Value).ownBlock∧some k_≠(v717 : Value).ownBlock∧k_≠gb677∧k_≠gb687∧k_≠gb696∧k_≠g682)) (by (with_reducible repeat (first|apply Kd.uJ|apply Kd.uI|apply Kd.uM));exact Kd.zV HO_40.out (fun _ hk=>⟨⟨hk.1.1.1.1.1,⟨hk.1.1.1.1.2.1,⟨hk.1.1.1.2,⟨hk.1.1.2,⟨hk.1.2,⟨hk.1.1.1.1.2.2.1,⟨hk.1.1.1.1.2.2.2.1,⟨hk.1.1.1.1.2.2.2.2.1,hk.1.1.1.1.2.2.2.2.2⟩⟩⟩⟩⟩⟩⟩⟩,hk.2⟩)) hg hat) (Kd.Qq (ok:=(fun k_=>(w.heap.size ≤ k_)∧some k_≠(.slice Ao85 t705.length co85 : Value).ownBlock∧some k_≠(.slice Ao84 t712.length co84 : Value).ownBlock∧some k_≠(v717 : Value).ownBlock)) (by (with_reducible repeat (first|apply Kd.jF|apply Kd.jG|apply Kd.jM));exact Kd.qV HO_51.out (fun _ hk=>⟨⟨hk.1.1.1.1,⟨hk.1.1.1.2,⟨hk.1.1.2,hk.1.2⟩⟩⟩,hk.2⟩)) hg hat) (Kd.vN (ok:=(fun k_=>((k_ < w.heap.size∨k_ < w.heap.size)∨w.heap.size ≤ k_)∧some k_≠(.slice (some ad695) y692.length co32 : Value).ownBlock∧some k_≠(.slice (some ad704) y701.length co47 : Value).ownBlock∧some k_≠(.slice Ao85 t705.length co85 : Value).ownBlock∧some k_≠(.slice Ao84 t712.length co84 : Value).ownBlock∧some k_≠(v717 : Value).ownBlock∧k_≠gb677∧k_≠gb687∧k_≠gb696∧k_≠g682)) (byce HO_678000.out) hg hat) (Kd.vN (ok:=(fun k_=>((k_ < w.heap.size∨k_ < w.heap.size)∨w.heap.size ≤ k_)∧some k_≠(.slice (some ad695) y692.length co32 : Value).ownBlock∧some k_≠(.slice (some ad704) y701.length co47 : Value).ownBlock∧some k_≠(.slice Ao85 t705.length co85 : Value).ownBlock∧some k_≠(.slice Ao84 t712.length co84 : Value).ownBlock∧some k_≠(v717 : Value).ownBlock∧k_≠gb677∧k_≠gb687∧k_≠gb696∧k_≠g682)) (byce HO_688000.out) hg hat) (Kd.vN (ok:=(fun k_=>((k_ < w.heap.size∨k_ < w.heap.size)∨w.heap.size ≤ k_)∧some k_≠(.slice (some ad695) y692.length co32 : Value).ownBlock∧some k_≠(.slice (some ad704) y701.length co47 : Value).ownBlock∧some k_≠(.slice Ao85 t705.length co85 : Value).ownBlock∧some k_≠(.slice Ao84 t712.length co84 : Value).ownBlock∧some k_≠(v717 : Value).ownBlock∧k_≠gb677∧k_≠gb687∧k_≠gb696∧k_≠g682)) (byce HO_697000.out) hg hat) (zS (g:=gb677) (o:=.cells #[.slice A1_0 l1_0.length c1_0] 25 (0,0)) (byaf BK677.out) hg (Kd.R_ne HO722.out BK677.out (by decide))) (zS (g:=gb687) (o:=.cells #[.slice Ao22 t683.length co22] 25 (0,0)) (byaf BK687.out) hg (Kd.R_ne HO722.out BK687.out (by decide))) (zS (g:=gb696) (o:=.cells #[.slice A695_0 ((rd_T25 y692 x42_1).f0).length c695_0] 25 (0,0)) (byaf BK696.out) hg (Kd.R_ne HO722.out BK696.out (by decide))) (qB.grown (bybn HI682.out NB682_677.out NB682_687.out NB682_696.out) hg (qB.own_ne HI682.out HO722.out (by decide))) (Kd.Qq (ok:=(fun k_=>(w.heap.size ≤ k_)∧some k_≠(.slice (some ad704) y701.length co47 : Value).ownBlock∧some k_≠(.slice Ao84 t712.length co84 : Value).ownBlock∧some k_≠(v717 : Value).ownBlock)) (bycf HO707.out) hg hat) (Kd.Qq (ok:=(fun k_=>(w.heap.size ≤ k_)∧some k_≠(.slice (some ad704) y701.length co47 : Value).ownBlock∧some k_≠(.slice Ao85 t705.length co85 : Value).ownBlock∧some k_≠(v717 : Value).ownBlock)) (bycf HO714.out) hg hat) (Kd.Qq (ok:=(fun k_=>(w.heap.size ≤ k_)∧some k_≠(.slice (some ad704) y701.length co47 : Value).ownBlock∧some k_≠(.slice Ao85 t705.length co85 : Value).ownBlock∧some k_≠(.slice Ao84 t712.length co84 : Value).ownBlock)) (bycf HO718.out) hg hat) (hb) (ho);clear HO_3 HO_40 HO_51 HO_678000 HO_688000 HO_697000 BK677 BK687 BK696 HI682 HO707 HO714 HO718 HB HO722;obtain ⟨HO_3,HO_40,HO_51,HO_678000,HO_688000,HO_697000,BK677,BK687,BK696,HI682,HO707,HO714,HO718,HB,HO725⟩:=n_;clear ho hb hg hat)|((with_reducible refine qF (f:=13) rfl ?_);refine zC (some 94) rfl rfl Try.func13 (by kernel_rfl) rfl #[.pointer (some ⟨g682,0,none⟩),.int .i64 10] rfl byac ?_;(with_reducible refine (qK.calls g682 t680 t719 10 t726 t727 w _ ?side1 ?side2 A71.out).mono ?_);(case side1=>exact bybn HI682.out NB682_677.out NB682_687.out NB682_696.out);(case side2=>exact bybo HI682.out GE677.out GE687.out GE696.out);rintro e w90 ⟨rfl,hi,hb,hk⟩;refine ⟨_,rfl,?_⟩;have n_:=q_15 (Kd.qM (Kd.vP (Kd.qM (ok:=fun k_=>(((((k_ < w.heap.size∨k_ < w.heap.size)∨w.heap.size ≤ k_))∧(some k_≠(.slice (some ad695) y692.length co32 : Value).ownBlock∧(some k_≠(.slice (some ad704) y701.length co47 : Value).ownBlock∧(some k_≠(.slice Ao85 t705.length co85 : Value).ownBlock∧(some k_≠(.slice Ao84 t712.length co84 : Value).ownBlock∧(some k_≠(v717 : Value).ownBlock∧(k_≠gb677∧(k_≠gb687∧(k_≠gb696∧k_≠g682)))))))))∧some k_≠(v724 : Value).ownBlock)) (bybs HO_3.out) (fun k_ hk_=>(⟨hk_,hk_.1.2.2.2.2.2.2.2.2.2⟩ : _∧k_≠g682))) hk (fun _ h=>h.2)) (fun _ h=>h.1)) (Kd.zV (Kd.Qj (Kd.zV (ok:=fun k_=>(((((k_ < w.heap.size∨k_ < w.heap.size)∨w.heap.size ≤ k_))∧(some k_≠(.slice (some ad704) y701.length co47 : Value).ownBlock∧(some k_≠(.slice Ao85 t705.length co85 : Value).ownBlock∧(some k_≠(.slice Ao84 t712.length co84 : Value).ownBlock∧(some k_≠(v717 : Value).ownBlock∧(k_≠gb677∧(k_≠gb687∧(k_≠gb696∧k_≠g682))))))))∧some k_≠(v724 : Value).ownBlock)) (byau HO_40.out) (fun k_ hk_=>(⟨hk_,hk_.1.2.2.2.2.2.2.2.2⟩ : _∧k_≠g682))) hk (fun _ h=>h.2)) (fun _ h=>h.1)) (Kd.qV (Kd.vK (qB.apart (show qB w _ g682 t680 t719 from by repeat (first|(with_reducible first|exact HI682.out|apply qB.alloc|apply qB.drewN|apply qB.drew|apply qB.jO|refine qB.far ?_ NB682_677.out _|refine qB.far ?_ NB682_687.out _|refine qB.far ?_ NB682_696.out _)|exact HI682.out)) (byas HO_51.out) (by decide)) hk (fun _ h=>h.2)) (fun _ h=>h.1)) (Kd.qM (Kd.vP (Kd.qM (ok:=fun k_=>(((((k_ < w.heap.size∨k_ < w.heap.size)∨w.heap.size ≤ k_))∧(some k_≠(.slice (some ad695) y692.length co32 : Value).ownBlock∧(some k_≠(.slice (some ad704) y701.length co47 : Value).ownBlock∧(some k_≠(.slice Ao85 t705.length co85 : Value).ownBlock∧(some k_≠(.slice Ao84 t712.length co84 : Value).ownBlock∧(some k_≠(v717 : Value).ownBlock∧(k_≠gb677∧(k_≠gb687∧(k_≠gb696∧k_≠g682)))))))))∧some k_≠(v724 : Value).ownBlock)) (bybs HO_678000.out) (fun k_ hk_=>(⟨hk_,hk_.1.2.2.2.2.2.2.2.2.2⟩ : _∧k_≠g682))) hk (fun _ h=>h.2)) (fun _ h=>h.1)) (Kd.qM (Kd.vP (Kd.qM (ok:=fun k_=>(((((k_ < w.heap.size∨k_ < w.heap.size)∨w.heap.size ≤ k_))∧(some k_≠(.slice (some ad695) y692.length co32 : Value).ownBlock∧(some k_≠(.slice (some ad704) y701.length co47 : Value).ownBlock∧(some k_≠(.slice Ao85 t705.length co85 : Value).ownBlock∧(some k_≠(.slice Ao84 t712.length co84 : Value).ownBlock∧(some k_≠(v717 : Value).ownBlock∧(k_≠gb677∧(k_≠gb687∧(k_≠gb696∧k_≠g682)))))))))∧some k_≠(v724 : Value).ownBlock)) (bybs HO_688000.out) (fun k_ hk_=>(⟨hk_,hk_.1.2.2.2.2.2.2.2.2.2⟩ : _∧k_≠g682))) hk (fun _ h=>h.2)) (fun _ h=>h.1)) (Kd.qM (Kd.vP (Kd.qM (ok:=fun k_=>(((((k_ < w.heap.size∨k_ < w.heap.size)∨w.heap.size ≤ k_))∧(some k_≠(.slice (some ad695) y692.length co32 : Value).ownBlock∧(some k_≠(.slice (some ad704) y701.length co47 : Value).ownBlock∧(some k_≠(.slice Ao85 t705.length co85 : Value).ownBlock∧(some k_≠(.slice Ao84 t712.length co84 : Value).ownBlock∧(some k_≠(v717 : Value).ownBlock∧(k_≠gb677∧(k_≠gb687∧(k_≠gb696∧k_≠g682)))))))))∧some k_≠(v724 : Value).ownBlock)) (bybs HO_697000.out) (fun k_ hk_=>(⟨hk_,hk_.1.2.2.2.2.2.2.2.2.2⟩ : _∧k_≠g682))) hk (fun _ h=>h.2)) (fun _ h=>h.1)) (qC.blkB hk BK677.out NB677_682.out (by simp)) (qC.blkB hk BK687.out NB687_682.out (by simp)) (qC.blkB hk BK696.out NB696_682.out (by simp)) (Kd.qV (Kd.vK (qB.apart (show qB w _ g682 t680 t719 from by repeat (first|(with_reducible first|exact HI682.out|apply qB.alloc|apply qB.drewN|apply qB.drew|apply qB.jO|refine qB.far ?_ NB682_677.out _|refine qB.far ?_ NB682_687.out _|refine qB.far ?_ NB682_696.out _)|exact HI682.out)) (byas HO707.out) (by decide)) hk (fun _ h=>h.2)) (fun _ h=>h.1)) (Kd.qV (Kd.vK (qB.apart (show qB w _ g682 t680 t719 from by repeat (first|(with_reducible first|exact HI682.out|apply qB.alloc|apply qB.drewN|apply qB.drew|apply qB.jO|refine qB.far ?_ NB682_677.out _|refine qB.far ?_ NB682_687.out _|refine qB.far ?_ NB682_696.out _)|exact HI682.out)) (byas HO714.out) (by decide)) hk (fun _ h=>h.2)) (fun _ h=>h.1)) (Kd.qV (Kd.vK (qB.apart (show qB w _ g682 t680 t719 from by repeat (first|(with_reducible first|exact HI682.out|apply qB.alloc|apply qB.drewN|apply qB.drew|apply qB.jO|refine qB.far ?_ NB682_677.out _|refine qB.far ?_ NB682_687.out _|refine qB.far ?_ NB682_696.out _)|exact HI682.out)) (byas HO718.out) (by decide)) hk (fun _ h=>h.2)) (fun _ h=>h.1)) (Kd.qV (Kd.vK (qB.apart (show qB w _ g682 t680 t719 from by repeat (first|(with_reducible first|exact HI682.out|apply qB.alloc|apply qB.drewN|apply qB.drew|apply qB.jO|refine qB.far ?_ NB682_677.out _|refine qB.far ?_ NB682_687.out _|refine qB.far ?_ NB682_696.out _)|exact HI682.out)) (byas HO725.out) (by decide)) hk (fun _ h=>h.2)) (fun _ h=>h.1)) (hb) (hi);clear HO_3 HO_40 HO_51 HO_678000 HO_688000 HO_697000 BK677 BK687 BK696 HO707 HO714 HO718 HO725 HB HI682;obtain ⟨HO_3,HO_40,HO_51,HO_678000,HO_688000,HO_697000,BK677,BK687,BK696,HO707,HO714,HO718,HO725,HB,HI682⟩:=n_;clear hb hk hi)|((with_reducible refine jU (b:=.append) (xs:=#[.tmp 92,.tmp 95]) rfl ?_);(try (refine uB (by rfl) ?_;dsimp only));at_builtin;refine Kd.kF (Kd.int .i64) (w0:=w) w.heap.size rfl (.tmp 92) (.tmp 95) 22 3 (.int .i64 0) 8 rfl Try.underlying22 info3 rfl (by decide) (by omega) v724 y723 t726 [.int .i64 t726] (fun k_=>(w.heap.size ≤ k_)∧some k_≠(.slice (some ad704) y701.length co47 : Value).ownBlock∧some k_≠(.slice Ao85 t705.length co85 : Value).ownBlock∧some k_≠(.slice Ao84 t712.length co84 : Value).ownBlock∧some k_≠(v717 : Value).ownBlock) (fun _=>False) rfl rfl ?aP (fun _ hk=>hk.elim) ?aF ?aO ?aB ?aS ?aL ?_;(case aP=>exact rfl);(case aB=>exact (bybo HI682.out GE677.out GE687.out GE696.out));(case aF=>exact (fun k_ hk=>⟨(Nat.le_trans (zJ (bybo HI682.out GE677.out GE687.out GE696.out)) hk),Kd.fresh' (Kd.R_lt (byas HO_51.out)) k_ hk,Kd.fresh' (Kd.R_lt (byas HO707.out)) k_ hk,Kd.fresh' (Kd.R_lt (byas HO714.out)) k_ hk,Kd.fresh' (Kd.R_lt (byas HO718.out)) k_ hk⟩));(case aO=>exact (byas HO725.out));(case aS=>exact (zJ (bybo HI682.out GE677.out GE687.out GE696.out)));(case aL=>have:=LMc72.out;omega);intro v729 w91 ho hb hg hat;rw [← Ny728.out] at ho;have n_:=q_15 (Kd.vN (ok:=(fun k_=>((k_ < w.heap.size∨k_ < w.heap.size)∨w.heap.size ≤ k_)∧some k_≠(.slice (some ad695) y692.length co32 : Value).ownBlock∧some k_≠(.slice (some ad704) y701.length co47 : Value).ownBlock∧some k_≠(.slice Ao85 t705.length co85 : Value).ownBlock∧some k_≠(.slice Ao84 t712.length co84 : Value).ownBlock∧some k_≠(v717 : Value).ownBlock∧k_≠gb677∧k_≠gb687∧k_≠gb696∧k_≠g682)) (bybs HO_3.out) hg hat) (Kd.N_afterv (ok:=(fun k_=>((k_ < w.heap.size∨k_ < w.heap.size)∨w.heap.size ≤ k_)∧some k_≠(.slice (some ad704) y701.length co47 : Value).ownBlock∧some k_≠(.slice Ao85 t705.length co85 : Value).ownBlock∧some k_≠(.slice Ao84 t712.length co84 : Value).ownBlock∧some k_≠(v717 : Value).ownBlock∧k_≠gb677∧k_≠gb687∧k_≠gb696∧k_≠g682)) (byau HO_40.out) hg hat) (Kd.Qq (ok:=(fun k_=>(w.heap.size ≤ k_)∧some k_≠(.slice Ao85 t705.length co85 : Value).ownBlock∧some k_≠(.slice Ao84 t712.length co84 : Value).ownBlock∧some k_≠(v717 : Value).ownBlock)) (byas HO_51.out) hg hat) (Kd.vN (ok:=(fun k_=>((k_ < w.heap.size∨k_ < w.heap.size)∨w.heap.size ≤ k_)∧some k_≠(.slice (some ad695) y692.length co32 : Value).ownBlock∧some k_≠(.slice (some ad704) y701.length co47 : Value).ownBlock∧some k_≠(.slice Ao85 t705.length co85 : Value).ownBlock∧some k_≠(.slice Ao84 t712.length co84 : Value).ownBlock∧some k_≠(v717 : Value).ownBlock∧k_≠gb677∧k_≠gb687∧k_≠gb696∧k_≠g682)) (bybs HO_678000.out) hg hat) (Kd.vN (ok:=(fun k_=>((k_ < w.heap.size∨k_ < w.heap.size)∨w.heap.size ≤ k_)∧some k_≠(.slice (some ad695) y692.length co32 : Value).ownBlock∧some k_≠(.slice (some ad704) y701.length co47 : Value).ownBlock∧some k_≠(.slice Ao85 t705.length co85 : Value).ownBlock∧some k_≠(.slice Ao84 t712.length co84 : Value).ownBlock∧some k_≠(v717 : Value).ownBlock∧k_≠gb677∧k_≠gb687∧k_≠gb696∧k_≠g682)) (bybs HO_688000.out) hg hat) (Kd.vN (ok:=(fun k_=>((k_ < w.heap.size∨k_ < w.heap.size)∨w.heap.size ≤ k_)∧some k_≠(.slice (some ad695) y692.length co32 : Value).ownBlock∧some k_≠(.slice (some ad704) y701.length co47 : Value).ownBlock∧some k_≠(.slice Ao85 t705.length co85 : Value).ownBlock∧some k_≠(.slice Ao84 t712.length co84 : Value).ownBlock∧some k_≠(v717 : Value).ownBlock∧k_≠gb677∧k_≠gb687∧k_≠gb696∧k_≠g682)) (bybs HO_697000.out) hg hat) (zS (g:=gb677) (o:=.cells #[.slice A1_0 l1_0.length c1_0] 25 (0,0)) (byaf BK677.out) hg (Kd.R_ne HO725.out BK677.out (by decide))) (zS (g:=gb687) (o:=.cells #[.slice Ao22 t683.length co22] 25 (0,0)) (byaf BK687.out) hg (Kd.R_ne HO725.out BK687.out (by decide))) (zS (g:=gb696) (o:=.cells #[.slice A695_0 ((rd_T25 y692 x42_1).f0).length c695_0] 25 (0,0)) (byaf BK696.out) hg (Kd.R_ne HO725.out BK696.out (by decide))) (qB.grown (bybn HI682.out NB682_677.out NB682_687.out NB682_696.out) hg (qB.own_ne HI682.out HO725.out (by decide))) (Kd.Qq (ok:=(fun k_=>(w.heap.size ≤ k_)∧some k_≠(.slice (some ad704) y701.length co47 : Value).ownBlock∧some k_≠(.slice Ao84 t712.length co84 : Value).ownBlock∧some k_≠(v717 : Value).ownBlock)) (byas HO707.out) hg hat) (Kd.Qq (ok:=(fun k_=>(w.heap.size ≤ k_)∧some k_≠(.slice (some ad704) y701.length co47 : Value).ownBlock∧some k_≠(.slice Ao85 t705.length co85 : Value).ownBlock∧some k_≠(v717 : Value).ownBlock)) (byas HO714.out) hg hat) (Kd.Qq (ok:=(fun k_=>(w.heap.size ≤ k_)∧some k_≠(.slice (some ad704) y701.length co47 : Value).ownBlock∧some k_≠(.slice Ao85 t705.length co85 : Value).ownBlock∧some k_≠(.slice Ao84 t712.length co84 : Value).ownBlock)) (byas HO718.out) hg hat) (hb) (ho);clear HO_3 HO_40 HO_51 HO_678000 HO_688000 HO_697000 BK677 BK687 BK696 HI682 HO707 HO714 HO718 HB HO725;obtain ⟨HO_3,HO_40,HO_51,HO_678000,HO_688000,HO_697000,BK677,BK687,BK696,HI682,HO707,HO714,HO718,HB,HO730⟩:=n_;clear ho hb hg hat;obtain ⟨Ao92,co92,eo92⟩:=Kd.jI HO718.out;subst eo92;obtain ⟨Ao93,co93,eo93⟩:=Kd.jI HO730.out;subst eo93)|((with_reducible refine qX (N:=97) rfl ?_);(try (refine uB (by rfl) ?_;dsimp only));refine Kd.N_lit (Kd.slice 3 (Kd.int .i64)) _ 22 ?hg (N':=97) ?hd (xs:=([l3,t705,t716,y728] : List (List Int))) (inner:=[.slice A3 l3.length c3,.slice Ao85 t705.length co85,.slice Ao92 t716.length co92,.slice Ao93 y728.length co93]) (ok:=(fun k_=>((k_ < w.heap.size∨k_ < w.heap.size)∨w.heap.size ≤ k_)∧some k_≠(.slice (some ad695) y692.length co32 : Value).ownBlock∧some k_≠(.slice (some ad704) y701.length co47 : Value).ownBlock∧some k_≠(.slice Ao84 t712.length co84 : Value).ownBlock∧k_≠gb677∧k_≠gb687∧k_≠gb696∧k_≠g682)) (okp:=(fun k_=>((k_ < w.heap.size∨k_ < w.heap.size)∨w.heap.size ≤ k_)∧some k_≠(.slice (some ad695) y692.length co32 : Value).ownBlock∧some k_≠(.slice (some ad704) y701.length co47 : Value).ownBlock∧some k_≠(.slice Ao84 t712.length co84 : Value).ownBlock∧k_≠gb677∧k_≠gb687∧k_≠gb696∧k_≠g682)) ?hr ?hp (fun _ hk=>hk) ((show ∀ k_,w91.heap.size ≤ k_→(fun k_=>((k_ < w.heap.size∨k_ < w.heap.size)∨w.heap.size ≤ k_)∧some k_≠(.slice (some ad695) y692.length co32 : Value).ownBlock∧some k_≠(.slice (some ad704) y701.length co47 : Value).ownBlock∧some k_≠(.slice Ao84 t712.length co84 : Value).ownBlock∧k_≠gb677∧k_≠gb687∧k_≠gb696∧k_≠g682) k_ from fun k_ hk=>⟨(.inr (Nat.le_trans (zJ (bybo HI682.out GE677.out GE687.out GE696.out)) hk)),Kd.fresh' (Kd.N_lt (byau HO_40.out)) k_ hk,Kd.fresh' (Kd.R_lt (byas HO_51.out)) k_ hk,Kd.fresh' (Kd.R_lt (byas HO714.out)) k_ hk,Kd.jW (g:=gb677) (o:=.cells #[.slice A1_0 l1_0.length c1_0] 25 (0,0)) (byaf BK677.out) k_ hk,Kd.jW (g:=gb687) (o:=.cells #[.slice Ao22 t683.length co22] 25 (0,0)) (byaf BK687.out) k_ hk,Kd.jW (g:=gb696) (o:=.cells #[.slice A695_0 ((rd_T25 y692 x42_1).f0).length c695_0] 25 (0,0)) (byaf BK696.out) k_ hk,qB.fresh (bybn HI682.out NB682_677.out NB682_687.out NB682_696.out) k_ hk⟩) _ (Nat.le_refl _)) (Below.refl _ _) (Nat.le_refl _) (by simp) ?_;(case hd=>rfl);(case hg=>rfl);(case hr=>exact byad);(case hp=>exact (Reps.one (show Kd.FK (Kd.slice 3 (Kd.int .i64)) _ _ l3 [.slice A3 l3.length c3] from (Kd.FK_slice_mk (Kd.uK (Kd.qM (ok':=(fun k_=>((k_ < w.heap.size∨k_ < w.heap.size)∨w.heap.size ≤ k_)∧some k_≠(.slice (some ad695) y692.length co32 : Value).ownBlock∧some k_≠(.slice (some ad704) y701.length co47 : Value).ownBlock∧some k_≠(.slice Ao84 t712.length co84 : Value).ownBlock∧k_≠gb677∧k_≠gb687∧k_≠gb696∧k_≠g682)) (HO_3.out) (fun k_ hk=>⟨hk.1.1,⟨hk.1.2.1,⟨hk.1.2.2.1,⟨hk.1.2.2.2.2.1,⟨hk.1.2.2.2.2.2.2.1,⟨hk.1.2.2.2.2.2.2.2.1,⟨hk.1.2.2.2.2.2.2.2.2.1,hk.1.2.2.2.2.2.2.2.2.2⟩⟩⟩⟩⟩⟩⟩))).2.1 (Kd.V_F (Kd.qM (ok':=(fun k_=>((k_ < w.heap.size∨k_ < w.heap.size)∨w.heap.size ≤ k_)∧some k_≠(.slice (some ad695) y692.length co32 : Value).ownBlock∧some k_≠(.slice (some ad704) y701.length co47 : Value).ownBlock∧some k_≠(.slice Ao84 t712.length co84 : Value).ownBlock∧k_≠gb677∧k_≠gb687∧k_≠gb696∧k_≠g682)) (HO_3.out) (fun k_ hk=>⟨hk.1.1,⟨hk.1.2.1,⟨hk.1.2.2.1,⟨hk.1.2.2.2.2.1,⟨hk.1.2.2.2.2.2.2.1,⟨hk.1.2.2.2.2.2.2.2.1,⟨hk.1.2.2.2.2.2.2.2.2.1,hk.1.2.2.2.2.2.2.2.2.2⟩⟩⟩⟩⟩⟩⟩))))) (Reps.one (show Kd.FK (Kd.slice 3 (Kd.int .i64)) _ _ t705 [.slice Ao85 t705.length co85] from (Kd.FK_slice_mk (Kd.vS (Kd.qV (ok':=(fun k_=>((k_ < w.heap.size∨k_ < w.heap.size)∨w.heap.size ≤ k_)∧some k_≠(.slice (some ad695) y692.length co32 : Value).ownBlock∧some k_≠(.slice (some ad704) y701.length co47 : Value).ownBlock∧some k_≠(.slice Ao84 t712.length co84 : Value).ownBlock∧k_≠gb677∧k_≠gb687∧k_≠gb696∧k_≠g682)) (qB.apart HI682.out (Kd.zX (Kd.zX (Kd.zX (Kd.kH (HO707.out) (Kd.N_typed HO_40.out) (by decide)) BK677.out (by decide)) BK687.out (by decide)) BK696.out (by decide)) (by decide)) (fun k_ hk=>⟨(.inr (hk.1.1.1.1.1.1.1)),⟨hk.1.1.1.1.2,⟨hk.1.1.1.1.1.1.2.1,⟨hk.1.1.1.1.1.1.2.2.1,⟨hk.1.1.1.2,⟨hk.1.1.2,⟨hk.1.2,hk.2⟩⟩⟩⟩⟩⟩⟩))).2.1 (Kd.R_F (Kd.qV (ok':=(fun k_=>((k_ < w.heap.size∨k_ < w.heap.size)∨w.heap.size ≤ k_)∧some k_≠(.slice (some ad695) y692.length co32 : Value).ownBlock∧some k_≠(.slice (some ad704) y701.length co47 : Value).ownBlock∧some k_≠(.slice Ao84 t712.length co84 : Value).ownBlock∧k_≠gb677∧k_≠gb687∧k_≠gb696∧k_≠g682)) (qB.apart HI682.out (Kd.zX (Kd.zX (Kd.zX (Kd.kH (HO707.out) (Kd.N_typed HO_40.out) (by decide)) BK677.out (by decide)) BK687.out (by decide)) BK696.out (by decide)) (by decide)) (fun k_ hk=>⟨(.inr (hk.1.1.1.1.1.1.1)),⟨hk.1.1.1.1.2,⟨hk.1.1.1.1.1.1.2.1,⟨hk.1.1.1.1.1.1.2.2.1,⟨hk.1.1.1.2,⟨hk.1.1.2,⟨hk.1.2,hk.2⟩⟩⟩⟩⟩⟩⟩))))) (Reps.one (show Kd.FK (Kd.slice 3 (Kd.int .i64)) _ _ t716 [.slice Ao92 t716.length co92] from (Kd.FK_slice_mk (Kd.vS (Kd.qV (ok':=(fun k_=>((k_ < w.heap.size∨k_ < w.heap.size)∨w.heap.size ≤ k_)∧some k_≠(.slice (some ad695) y692.length co32 : Value).ownBlock∧some k_≠(.slice (some ad704) y701.length co47 : Value).ownBlock∧some k_≠(.slice Ao84 t712.length co84 : Value).ownBlock∧k_≠gb677∧k_≠gb687∧k_≠gb696∧k_≠g682)) (qB.apart HI682.out (Kd.zX (Kd.zX (Kd.zX (Kd.kH (HO718.out) (Kd.N_typed HO_40.out) (by decide)) BK677.out (by decide)) BK687.out (by decide)) BK696.out (by decide)) (by decide)) (fun k_ hk=>⟨(.inr (hk.1.1.1.1.1.1.1)),⟨hk.1.1.1.1.2,⟨hk.1.1.1.1.1.1.2.1,⟨hk.1.1.1.1.1.1.2.2.2,⟨hk.1.1.1.2,⟨hk.1.1.2,⟨hk.1.2,hk.2⟩⟩⟩⟩⟩⟩⟩))).2.1 (Kd.R_F (Kd.qV (ok':=(fun k_=>((k_ < w.heap.size∨k_ < w.heap.size)∨w.heap.size ≤ k_)∧some k_≠(.slice (some ad695) y692.length co32 : Value).ownBlock∧some k_≠(.slice (some ad704) y701.length co47 : Value).ownBlock∧some k_≠(.slice Ao84 t712.length co84 : Value).ownBlock∧k_≠gb677∧k_≠gb687∧k_≠gb696∧k_≠g682)) (qB.apart HI682.out (Kd.zX (Kd.zX (Kd.zX (Kd.kH (HO718.out) (Kd.N_typed HO_40.out) (by decide)) BK677.out (by decide)) BK687.out (by decide)) BK696.out (by decide)) (by decide)) (fun k_ hk=>⟨(.inr (hk.1.1.1.1.1.1.1)),⟨hk.1.1.1.1.2,⟨hk.1.1.1.1.1.1.2.1,⟨hk.1.1.1.1.1.1.2.2.2,⟨hk.1.1.1.2,⟨hk.1.1.2,⟨hk.1.2,hk.2⟩⟩⟩⟩⟩⟩⟩))))) (Reps.one (show Kd.FK (Kd.slice 3 (Kd.int .i64)) _ _ y728 [.slice Ao93 y728.length co93] from (Kd.FK_slice_mk (Kd.vS (Kd.qV (ok':=(fun k_=>((k_ < w.heap.size∨k_ < w.heap.size)∨w.heap.size ≤ k_)∧some k_≠(.slice (some ad695) y692.length co32 : Value).ownBlock∧some k_≠(.slice (some ad704) y701.length co47 : Value).ownBlock∧some k_≠(.slice Ao84 t712.length co84 : Value).ownBlock∧k_≠gb677∧k_≠gb687∧k_≠gb696∧k_≠g682)) (qB.apart HI682.out (Kd.zX (Kd.zX (Kd.zX (Kd.kH (HO730.out) (Kd.N_typed HO_40.out) (by decide)) BK677.out (by decide)) BK687.out (by decide)) BK696.out (by decide)) (by decide)) (fun k_ hk=>⟨(.inr (hk.1.1.1.1.1.1)),⟨hk.1.1.1.1.2,⟨hk.1.1.1.1.1.2.1,⟨hk.1.1.1.1.1.2.2.2.1,⟨hk.1.1.1.2,⟨hk.1.1.2,⟨hk.1.2,hk.2⟩⟩⟩⟩⟩⟩⟩))).2.1 (Kd.R_F (Kd.qV (ok':=(fun k_=>((k_ < w.heap.size∨k_ < w.heap.size)∨w.heap.size ≤ k_)∧some k_≠(.slice (some ad695) y692.length co32 : Value).ownBlock∧some k_≠(.slice (some ad704) y701.length co47 : Value).ownBlock∧some k_≠(.slice Ao84 t712.length co84 : Value).ownBlock∧k_≠gb677∧k_≠gb687∧k_≠gb696∧k_≠g682)) (qB.apart HI682.out (Kd.zX (Kd.zX (Kd.zX (Kd.kH (HO730.out) (Kd.N_typed HO_40.out) (by decide)) BK677.out (by decide)) BK687.out (by decide)) BK696.out (by decide)) (by decide)) (fun k_ hk=>⟨(.inr (hk.1.1.1.1.1.1)),⟨hk.1.1.1.1.2,⟨hk.1.1.1.1.1.2.1,⟨hk.1.1.1.1.1.2.2.2.1,⟨hk.1.1.1.2,⟨hk.1.1.2,⟨hk.1.2,hk.2⟩⟩⟩⟩⟩⟩⟩))))) (Reps.none _ _))))));intro v732 w94 ho95 hb hg_ hnew_;clear hg_ hnew_;(first|rw [← Ny731.out] at ho95|(simp only [Int.reduceToNat] at ho95;rw [← Ny731.out] at ho95));have n_:=q_13 (Kd.jY (bybs HO_3.out) (Kd.vI ho95) hb) (Kd.zU (byau HO_40.out) (Kd.vI ho95) hb) (Kd.jH (byas HO_51.out) hb) (Kd.jY (bybs HO_678000.out) (Kd.vI ho95) hb) (Kd.jY (bybs HO_688000.out) (Kd.vI ho95) hb) (Kd.jY (bybs HO_697000.out) (Kd.vI ho95) hb) (Kd.jH (byas HO714.out) hb) (Kd.vW ho95 (zJ (bybo HI682.out GE677.out GE687.out GE696.out))) (qI BK677.out hb) (qI BK687.out hb) (qI BK696.out hb) (qB.below (bybn HI682.out NB682_677.out NB682_687.out NB682_696.out) hb) (qE (bybo HI682.out GE677.out GE687.out GE696.out) hb);clear HO_3 HO_40 HO_51 HO_678000 HO_688000 HO_697000 HO714 BK677 BK687 BK696 HI682 HB HO707 HO718 HO730;obtain ⟨HO_3,HO_40,HO_51,HO_678000,HO_688000,HO_697000,HO714,HO733,BK677,BK687,BK696,HI682,HB⟩:=n_;clear hb ho95;obtain ⟨Ao96,co96,eo96⟩:=Kd.vT HO733.out;subst eo96))
                  go_loopg [99] k2 (fun kq v99 w'=>∃ (x99_3 : Int),v99 = .int .i64 x99_3∧qA (trustquorumlaw09_ClosureAnswers.l2 kq a2 l3 (rd y701 x53_2) y692 (y692.length : Int) x42_1 y701 (y701.length : Int) x53_2 y731 (y731.length : Int) x99_3 t680 t727 ((rd_T25 y692 x42_1).f0) = some r)∧qA (kq ≤ k2)∧qA (Kd.V (Kd.int .i64) 3 w' w.heap.size (fun k_=>((k_ < w.heap.size∨k_ < w.heap.size)∨w.heap.size ≤ k_)∧some k_≠((.slice (some ad695) y692.length co32) : Value).ownBlock∧some k_≠((.slice (some ad704) y701.length co47) : Value).ownBlock∧some k_≠((.slice Ao96 y731.length co96) : Value).ownBlock∧k_≠gb677∧k_≠gb687∧k_≠gb696∧k_≠g682) (.slice A3 l3.length c3) l3)∧qA (Kd.N k25 25 w' w.heap.size (fun k_=>((k_ < w.heap.size∨k_ < w.heap.size)∨w.heap.size ≤ k_)∧some k_≠((.slice (some ad704) y701.length co47) : Value).ownBlock∧some k_≠((.slice Ao96 y731.length co96) : Value).ownBlock∧k_≠gb677∧k_≠gb687∧k_≠gb696∧k_≠g682) (.slice (some ad695) y692.length co32) y692)∧qA (Kd.R (Kd.int .i64) 3 w' w.heap.size (fun k_=>(w.heap.size ≤ k_)) (.slice (some ad704) y701.length co47) y701)∧qA (Kd.N (Kd.slice 3 (Kd.int .i64)) 22 w' w.heap.size (fun k_=>((k_ < w.heap.size∨k_ < w.heap.size)∨w.heap.size ≤ k_)∧some k_≠((.slice (some ad695) y692.length co32) : Value).ownBlock∧some k_≠((.slice (some ad704) y701.length co47) : Value).ownBlock∧k_≠gb677∧k_≠gb687∧k_≠gb696∧k_≠g682) (.slice Ao96 y731.length co96) y731)∧qA (Kd.V k51 51 w' w.heap.size (fun k_=>((k_ < w.heap.size∨k_ < w.heap.size)∨w.heap.size ≤ k_)∧some k_≠((.slice (some ad695) y692.length co32) : Value).ownBlock∧some k_≠((.slice (some ad704) y701.length co47) : Value).ownBlock∧some k_≠((.slice Ao96 y731.length co96) : Value).ownBlock∧k_≠gb677∧k_≠gb687∧k_≠gb696∧k_≠g682) (.slice A1_0 l1_0.length c1_0) l1_0)∧qA (Kd.V k51 51 w' w.heap.size (fun k_=>((k_ < w.heap.size∨k_ < w.heap.size)∨w.heap.size ≤ k_)∧some k_≠((.slice (some ad695) y692.length co32) : Value).ownBlock∧some k_≠((.slice (some ad704) y701.length co47) : Value).ownBlock∧some k_≠((.slice Ao96 y731.length co96) : Value).ownBlock∧k_≠gb677∧k_≠gb687∧k_≠gb696∧k_≠g682) (.slice Ao22 t683.length co22) t683)∧qA (Kd.V k51 51 w' w.heap.size (fun k_=>((k_ < w.heap.size∨k_ < w.heap.size)∨w.heap.size ≤ k_)∧some k_≠((.slice (some ad695) y692.length co32) : Value).ownBlock∧some k_≠((.slice (some ad704) y701.length co47) : Value).ownBlock∧some k_≠((.slice Ao96 y731.length co96) : Value).ownBlock∧k_≠gb677∧k_≠gb687∧k_≠gb696∧k_≠g682) (.slice A695_0 ((rd_T25 y692 x42_1).f0).length c695_0) ((rd_T25 y692 x42_1).f0))∧qA (w'.heap[gb677]? = some (.cells #[(.slice A1_0 l1_0.length c1_0)] 25 (0,0)))∧qA (w'.heap[gb687]? = some (.cells #[(.slice Ao22 t683.length co22)] 25 (0,0)))∧qA (w'.heap[gb696]? = some (.cells #[(.slice A695_0 ((rd_T25 y692 x42_1).f0).length c695_0)] 25 (0,0)))∧qA (qB w w' g682 t680 t727)∧qA (Below w.heap.size w w'))
                  case atStart=>exact ⟨(0),byab,H',⟨Nat.le_refl _⟩,⟨bycg HO_3.out⟩,⟨by (with_reducible repeat (first|apply Kd.uJ|apply Kd.uI|apply Kd.uM));exact Kd.zV HO_40.out (fun _ hk=>⟨hk.1.1.1,⟨hk.1.1.2.1,⟨hk.2,⟨hk.1.1.2.2.2.2.2.1,⟨hk.1.1.2.2.2.2.2.2.1,⟨hk.1.1.2.2.2.2.2.2.2.1,hk.1.1.2.2.2.2.2.2.2.2⟩⟩⟩⟩⟩⟩)⟩,⟨by (with_reducible repeat (first|apply Kd.jF|apply Kd.jG|apply Kd.jM));exact Kd.qV HO_51.out (fun _ hk=>hk.1.1)⟩,⟨by (with_reducible repeat (first|apply Kd.uJ|apply Kd.uI|apply Kd.uM));exact Kd.zV HO733.out (fun _ hk=>⟨hk.1,⟨hk.2.1,⟨hk.2.2.1,⟨hk.2.2.2.2.1,⟨hk.2.2.2.2.2.1,⟨hk.2.2.2.2.2.2.1,hk.2.2.2.2.2.2.2⟩⟩⟩⟩⟩⟩)⟩,⟨bycg HO_678000.out⟩,⟨bycg HO_688000.out⟩,⟨bycg HO_697000.out⟩,⟨byaf BK677.out⟩,⟨byaf BK687.out⟩,⟨byaf BK696.out⟩,⟨bybn HI682.out NB682_677.out NB682_687.out NB682_696.out⟩,⟨bybo HI682.out GE677.out GE687.out GE696.out⟩⟩
                  case round =>
                   clear H'
                   try clear hx7
                   try clear hx70
                   try clear hx704_0
                   obtain ⟨x99_3,rfl,HA,HK3,HO_3,HO_40,HO_51,HO_97,HO_678000,HO_688000,HO_697000,BK677,BK687,BK696,HI682,HB⟩:=hrel
                   cases gk with
                   | zero=>exact absurd HA.out (by simp [trustquorumlaw09_ClosureAnswers.l2])
                   | succ k3 =>
                    have H:=HA.out
                    clear HA
                    simp only [trustquorumlaw09_ClosureAnswers.l2] at H
                    by_cases c97 : x99_3 < (y731.length : Int)
                    ·rw [if_pos c97] at H
                     have c97b0:=decide_eq_true c97
                     clear c97
                     by_cases c98 : 0 ≤ x99_3
                     ·rw [if_pos c98] at H
                      have c98b0:=decide_eq_true c98
                      clear c98
                      by_cases c99 : x99_3 < (y731.length : Int)
                      ·rw [if_pos c99] at H
                       have c99b0:=decide_eq_true c99
                       clear c99
                       replace H:=Option.bind_eq_some_iff.mp H
                       obtain ⟨⟨t735,t736⟩,A1000,H⟩:=H
                       try dsimp only at H
                       have A100:=qA.mk A1000
                       clear A1000
                       replace H:=Option.bind_eq_some_iff.mp H
                       obtain ⟨⟨t737,t738⟩,A1010,H⟩:=H
                       try dsimp only at H
                       have A101:=qA.mk A1010
                       clear A1010
                       by_cases c102 : t735 = t737
                       ·rw [if_pos c102] at H
                        obtain ⟨c102b0,c102b1⟩:=eqT c102
                        clear c102
                        by_cases c103 : t736 = t738
                        ·rw [if_pos c103] at H
                         obtain ⟨c103b0,c103b1⟩:=eqT c103
                         clear c103
                         have H':=qA.mk H
                         clear H
                         have p734 : 0 ≤ (x99_3 : Int):=of_decide_eq_true byah
                         have q734 : x99_3 < (y731.length : Int):=of_decide_eq_true byah
                         obtain ⟨ad734,A734_0,c734_0,e734,hx734_0,hl734_0,hi734_0⟩:=at_L2 (Kd.uN HO_97.out).2.2 x99_3 p734 q734
                         cases e734
                         obtain ⟨ce734,hce734,hMe734,hcc734⟩:=Kd.N_get HO_97.out [] x99_3 p734 (by first|exact q734|exact of_decide_eq_true byah|(have e_:=(Kd.uN HO_97.out).1;omega))
                         obtain ⟨ua734_0,uc734_0,rfl,ul734_0,ge734_0⟩:=Kd.FK_slice_open hMe734
                         have hv734_0:=hcc734 0 _ rfl
                         rw [Nat.add_zero,show ((Kd.slice 3 (Kd.int .i64))).sz = 1 from rfl,Nat.mul_one] at hv734_0
                         replace hv734_0:=Option.some.inj (hv734_0.symm.trans hx734_0)
                         injection hv734_0 with hva_ hvn_ hvc_
                         rw [hva_] at ge734_0
                         rw [hvc_] at ul734_0
                         have HL734_0:=qA.mk (show Kd.V (Kd.int .i64) 3 _ w.heap.size _ _ (rd_L2 y731 x99_3) from Kd.V_mk ul734_0 ge734_0)
                         clear hva_ hvn_ hvc_ ge734_0 ul734_0
                         clear hcc734 hce734
                         have HR734_0:=qA.mk hi734_0
                         have HC734_0:=qA.mk hl734_0
                         clear hi734_0 hl734_0
                         replace p734:=eq_true p734
                         replace q734:=eq_true q734
                         have hnb104:=NB696_677.out
                         have hnc104:=NB677_696.out
                         have hnb105:=NB696_687.out
                         have hnc105:=NB687_696.out
                         have hnb106:=NB696_682.out
                         have hnc106:=NB682_696.out
                         obtain ⟨hcz107_0,hfz107_0⟩:=cz1 BK696.out
                         go_wp2_with (first|((with_reducible refine qF (f:=22) rfl ?_);refine zC (some 107) rfl rfl Try.func22 (by kernel_rfl) rfl #[.agg #[.slice A695_0 ((rd_T25 y692 x42_1).f0).length c695_0],.int .i64 (rd y701 x53_2),.slice A734_0 (rd_L2 y731 x99_3).length c734_0] rfl byac ?_;(with_reducible refine (closure_Check.calls k3 _ _ ((rd_T25 y692 x42_1).f0) (rd y701 x53_2) _ _ (rd_L2 y731 x99_3) t735 t736 _ ?side1 ?side2 ?side3 ?side4 A100.out).mono ?_);(case side1=>exact byca HO_697000.out);(case side2=>exact (Kd.uK HO_697000.out).2.1);(case side3=>exact bych);(case side4=>exact (Kd.uK HL734_0.out).2.1);rintro e w108 ⟨rfl,hb⟩;refine ⟨_,rfl,?_⟩;have n_:=q_14 (Kd.jJ (bybs HO_3.out) hb) (Kd.jP (byau HO_40.out) hb) (Kd.jH (byas HO_51.out) hb) (Kd.jP (byau HO_97.out) hb) (Kd.jJ (bybs HO_678000.out) hb) (Kd.jJ (bybs HO_688000.out) hb) (Kd.jJ (bybs HO_697000.out) hb) (Kd.jJ (by (with_reducible repeat (first|apply Kd.jR|apply Kd.jQ|apply Kd.jT));exact HL734_0.out) hb) (qI BK677.out hb) (qI BK687.out hb) (qI BK696.out hb) (qB.below (bybn HI682.out NB682_677.out NB682_687.out NB682_696.out) hb) (Kd.uX (bycc HR734_0.out) hb) (qE (bybo HI682.out GE677.out GE687.out GE696.out) hb);clear HO_3 HO_40 HO_51 HO_97 HO_678000 HO_688000 HO_697000 HL734_0 BK677 BK687 BK696 HI682 HR734_0 HB;obtain ⟨HO_3,HO_40,HO_51,HO_97,HO_678000,HO_688000,HO_697000,HL734_0,BK677,BK687,BK696,HI682,HR734_0,HB⟩:=n_;clear hb;obtain ⟨hcz109_0,hfz109_0⟩:=cz1 BK696.out)|((with_reducible refine qF (f:=23) rfl ?_);refine zC (some 114) rfl rfl Try.func23 (by kernel_rfl) rfl #[.agg #[.slice A695_0 ((rd_T25 y692 x42_1).f0).length c695_0],.int .i64 (rd y701 x53_2),.slice A734_0 (rd_L2 y731 x99_3).length c734_0] rfl byac ?_;(with_reducible refine (trustquorumref09_Check.calls k3 _ _ ((rd_T25 y692 x42_1).f0) (rd y701 x53_2) _ _ (rd_L2 y731 x99_3) t737 t738 _ ?side1 ?side2 ?side3 ?side4 A101.out).mono ?_);(case side1=>exact byca HO_697000.out);(case side2=>exact (Kd.uK HO_697000.out).2.1);(case side3=>exact bych);(case side4=>exact (Kd.uK HL734_0.out).2.1);rintro e w110 ⟨rfl,hb⟩;refine ⟨_,rfl,?_⟩;have n_:=q_14 (Kd.jJ (bybs HO_3.out) hb) (Kd.jP (byau HO_40.out) hb) (Kd.jH (byas HO_51.out) hb) (Kd.jP (byau HO_97.out) hb) (Kd.jJ (bybs HO_678000.out) hb) (Kd.jJ (bybs HO_688000.out) hb) (Kd.jJ (bybs HO_697000.out) hb) (Kd.jJ (by (with_reducible repeat (first|apply Kd.jR|apply Kd.jQ|apply Kd.jT));exact HL734_0.out) hb) (qI BK677.out hb) (qI BK687.out hb) (qI BK696.out hb) (qB.below (bybn HI682.out NB682_677.out NB682_687.out NB682_696.out) hb) (Kd.uX (bycc HR734_0.out) hb) (qE (bybo HI682.out GE677.out GE687.out GE696.out) hb);clear HO_3 HO_40 HO_51 HO_97 HO_678000 HO_688000 HO_697000 HL734_0 BK677 BK687 BK696 HI682 HR734_0 HB;obtain ⟨HO_3,HO_40,HO_51,HO_97,HO_678000,HO_688000,HO_697000,HL734_0,BK677,BK687,BK696,HI682,HR734_0,HB⟩:=n_;clear hb))
                         go_roundg k3
                         case measure=>have:=HK1.out;have:=HK2.out;have:=HK3.out;omega
                         case rel=>exact ⟨(wrap64 (x99_3 + 1)),byab,H',⟨by have:=HK1.out;have:=HK2.out;have:=HK3.out;omega⟩,⟨bybs HO_3.out⟩,⟨byau HO_40.out⟩,⟨byas HO_51.out⟩,⟨byau HO_97.out⟩,⟨bybs HO_678000.out⟩,⟨bybs HO_688000.out⟩,⟨bybs HO_697000.out⟩,⟨byaf BK677.out⟩,⟨byaf BK687.out⟩,⟨byaf BK696.out⟩,⟨bybn HI682.out NB682_677.out NB682_687.out NB682_696.out⟩,⟨bybo HI682.out GE677.out GE687.out GE696.out⟩⟩
                        ·rw [if_neg c103] at H
                         obtain ⟨c103b0,c103b1⟩:=eqF c103
                         exfalso;rw [hr_.out] at H;simp at H
                       ·rw [if_neg c102] at H
                        obtain ⟨c102b0,c102b1⟩:=eqF c102
                        exfalso;rw [hr_.out] at H;simp at H
                      ·rw [if_neg c99] at H
                       exact absurd H (by simp)
                     ·rw [if_neg c98] at H
                      exact absurd H (by simp)
                    ·rw [if_neg c97] at H
                     have c97b0:=decide_eq_false c97
                     clear c97
                     have H':=qA.mk H
                     clear H
                     go_wp2
                     go_roundg k3
                     case measure=>have:=HK1.out;have:=HK2.out;have:=HK3.out;omega
                     case rel=>exact ⟨(wrap64 (x53_2 + 1)),(t727),byab,H',⟨by have:=HK1.out;have:=HK2.out;have:=HK3.out;omega⟩,⟨byci HO_3.out⟩,⟨by (with_reducible repeat (first|apply Kd.uJ|apply Kd.uI|apply Kd.uM));exact Kd.zV HO_40.out (fun _ hk=>⟨hk.1,⟨hk.2.1,⟨hk.2.2.2.1,⟨hk.2.2.2.2.1,⟨hk.2.2.2.2.2.1,hk.2.2.2.2.2.2⟩⟩⟩⟩⟩)⟩,⟨byas HO_51.out⟩,⟨byci HO_678000.out⟩,⟨byci HO_688000.out⟩,⟨byci HO_697000.out⟩,⟨byaf BK677.out⟩,⟨byaf BK687.out⟩,⟨byaf BK696.out⟩,⟨bybn HI682.out NB682_677.out NB682_687.out NB682_696.out⟩,⟨bybo HI682.out GE677.out GE687.out GE696.out⟩⟩
                 ·rw [if_neg c72] at H
                  exact absurd H (by simp)
                ·rw [if_neg c70] at H
                 exact absurd H (by simp)
               ·replace c68:=Bool.eq_false_iff.mpr c68
                subst c68
                rw [if_neg (show ¬ (false = true) by decide)] at H
                exfalso;rw [hr_.out] at H;simp at H
              ·rw [if_neg c65] at H
               obtain ⟨c65b0,c65b1⟩:=eqF c65
               exfalso;rw [hr_.out] at H;simp at H
            ·rw [if_neg c50] at H
             exact absurd H (by simp)
           ·rw [if_neg c49] at H
            exact absurd H (by simp)
          ·rw [if_neg c48] at H
           have c48b0:=decide_eq_false c48
           clear c48
           have H':=qA.mk H
           clear H
           go_wp2
           go_roundg k2
           case measure=>have:=HK1.out;have:=HK2.out;omega
           case rel=>exact ⟨(wrap64 (x42_1 + 1)),(x683001_2),byab,H',⟨byap⟩,⟨bycj HO_3.out⟩,⟨by (with_reducible repeat (first|apply Kd.uJ|apply Kd.uI|apply Kd.uM));exact Kd.zV HO_40.out (fun _ hk=>⟨hk.1,⟨hk.2.2.1,⟨hk.2.2.2.1,hk.2.2.2.2.2⟩⟩⟩)⟩,⟨bycj HO_678000.out⟩,⟨bycj HO_688000.out⟩,⟨byaf BK677.out⟩,⟨byaf BK687.out⟩,⟨bybn HI682.out NB682_677.out NB682_687.out NB682_696.out⟩,⟨bybo HI682.out GE677.out GE687.out GE696.out⟩⟩
       ·rw [if_neg c35] at H
        exact absurd H (by simp)
      ·rw [if_neg c34] at H
       exact absurd H (by simp)
     ·rw [if_neg c33] at H
      have c33b0:=decide_eq_false c33
      clear c33
      replace H:=Option.bind_eq_some_iff.mp H
      obtain ⟨t739,A1480,H⟩:=H
      try dsimp only at H
      have A148:=qA.mk A1480
      clear A1480
      obtain rfl:=Option.some.inj H
      go_wp2_with (first|((with_reducible refine qF (f:=9) rfl ?_);refine zC (some 128) rfl rfl Try.func9 (by kernel_rfl) rfl #[] rfl byac ?_;(with_reducible refine (jV.calls k1  t739 _ A148.out).mono ?_);rintro e w149 ⟨rfl,hb⟩;refine ⟨_,rfl,?_⟩;have n_:=q_8 (Kd.jJ (bybs HO_3.out) hb) (Kd.jP (byau HO_40.out) hb) (Kd.jJ (bybs HO_678000.out) hb) (Kd.jJ (bybs HO_688000.out) hb) (qI BK677.out hb) (qI BK687.out hb) (qB.below (bybf HI682.out NB682_677.out NB682_687.out) hb) (qE (bybg HI682.out GE677.out GE687.out) hb);clear HO_3 HO_40 HO_678000 HO_688000 BK677 BK687 HI682 HB;obtain ⟨HO_3,HO_40,HO_678000,HO_688000,BK677,BK687,HI682,HB⟩:=n_;clear hb))
      go_ret
      exact ⟨byam,bybg HI682.out GE677.out GE687.out⟩
 ·replace c6:=Bool.eq_false_iff.mpr c6
  subst c6
  rw [if_neg (show ¬ (false = true) by decide)] at H
  replace H:=Option.bind_eq_some_iff.mp H
  obtain ⟨t740,A1500,H⟩:=H
  try dsimp only at H
  have A150:=qA.mk A1500
  clear A1500
  obtain rfl:=Option.some.inj H
  go_enter Try.func3,Try.ntmps3
  go_wp2_with (first|((with_reducible refine qX (N:=5) rfl ?_);(try (refine uB (by rfl) ?_;dsimp only));refine zD ?hg (N:=5) ?hd (cs:=#[.slice A1_0 l1_0.length c1_0]) (t:=25) ?hr ?_;(case hd=>rfl);(case hg=>rfl);(case hr=>exact byad);intro gb677 hg w151 hbox hb;have n_:=q_6 (Kd.jJ (Kd.vO (bybs HO1_0.out) gb677 (Nat.le_of_eq hg.symm)) hb) (Kd.jJ (Kd.vO (bybs HO3.out) gb677 (Nat.le_of_eq hg.symm)) hb) (qE byae hb) (hbox) ((byck : w.heap.size ≤ gb677)) ((byck : w.heap.size ≤ gb677));clear HO1_0 HO3 HB;obtain ⟨HO1_0,HO3,HB,BK677,GW677,GE677⟩:=n_;clear hb hbox hg;obtain ⟨hcz152_0,hfz152_0⟩:=cz1 BK677.out)|((with_reducible refine qF (f:=8) rfl ?_);refine zC (some 23) rfl rfl Try.func8 (by kernel_rfl) rfl #[.agg #[.slice A1_0 l1_0.length c1_0]] rfl byac ?_;(with_reducible refine (zZ.calls k _ _ l1_0 false _ ?side1 ?side2 A5.out).mono ?_);(case side1=>exact byca HO1_0.out);(case side2=>exact (Kd.uK HO1_0.out).2.1);rintro e w153 ⟨rfl,hb⟩;refine ⟨_,rfl,?_⟩;have n_:=q_4 (Kd.jJ (bybs HO1_0.out) hb) (Kd.jJ (bybs HO3.out) hb) (qI BK677.out hb) (qE (byag GE677.out) hb);clear HO1_0 HO3 BK677 HB;obtain ⟨HO1_0,HO3,BK677,HB⟩:=n_;clear hb)|((with_reducible refine qF (f:=9) rfl ?_);refine zC (some 30) rfl rfl Try.func9 (by kernel_rfl) rfl #[] rfl byac ?_;(with_reducible refine (jV.calls k  t740 _ A150.out).mono ?_);rintro e w154 ⟨rfl,hb⟩;refine ⟨_,rfl,?_⟩;have n_:=q_4 (Kd.jJ (bybs HO1_0.out) hb) (Kd.jJ (bybs HO3.out) hb) (qI BK677.out hb) (qE (byag GE677.out) hb);clear HO1_0 HO3 BK677 HB;obtain ⟨HO1_0,HO3,BK677,HB⟩:=n_;clear hb))
  go_ret
  exact ⟨byam,byag GE677.out⟩
def trustquorumlaw09_ClosureAnswers.Pure : Prop:=∀ (l0 : List Int) (ms : List S51) (x : Int) (l3 : List Int),l0.length ≤ maxLen→l0.length * 8 ≤ 140737488351232→(∀ y ∈ l0,(Lit.int .i64 y).wf = true)→ms.length ≤ maxLen→(∀ m ∈ ms,BoundT m.f1)→∃ k,trustquorumlaw09_ClosureAnswers.f k l0 ms x l3 = some true
theorem trustquorumlaw09_ClosureAnswers.walk (hh : Kd.Heap k51) (P : trustquorumlaw09_ClosureAnswers.Pure) (a0 : Option Addr) (len0 cap0 : Nat) (z0 : List Int) (ms : List S51) (A : Option Addr) (c : Nat) (x : Int) (a3 : Option Addr) (len3 cap3 : Nat) (z3 : List Int) (w : World) (w0 : (a0 = none∧len0 = 0∧cap0 = 0∧z0 = [])∨∃ x,a0 = some x∧len0 ≤ cap0∧cap0 ≤ maxLen∧z0.length = cap0∧(∀ i,i < z0.length→w.cell? (x.add i) = some (.int .i64 (z0.getD i 0)))∧∀ n ∈ z0,(Lit.int .i64 n).wf = true) (w3 : (a3 = none∧len3 = 0∧cap3 = 0∧z3 = [])∨∃ x,a3 = some x∧len3 ≤ cap3∧cap3 ≤ maxLen∧z3.length = cap3∧(∀ i,i < z3.length→w.cell? (x.add i) = some (.int .i64 (z3.getD i 0)))∧∀ n ∈ z3,(Lit.int .i64 n).wf = true) (y0 : len0 * 8 ≤ 140737488351232) (hx : ms.length ≤ c) (hC : Kd.C k51 w A ms.length ms) (hbt : ∀ m ∈ ms,BoundT m.f1) :
  Calls Try.prog 3 #[.slice a0 len0 cap0,.agg #[.slice A ms.length c],.int .i64 x,.slice a3 len3 cap3] w fun e w'=>e = .returned (.bool true)∧Below w.heap.size w w':=by
 obtain ⟨l0,rfl,hr0,hm0,hw0,hc0⟩:=uO.ofRowC w0
 obtain ⟨l3,rfl,hr3,hm3,hw3,hc3⟩:=uO.ofRowC w3
 obtain ⟨k,h⟩:=P l0 ms x l3 hm0 y0 hw0 (by have:=hC.2.1;unfold maxLen;omega) hbt
 refine (trustquorumlaw09_ClosureAnswers.calls k _ _ l0 A c ms x _ _ l3 true w (Kd.C_of_reads (d:=(0 : Int)) (h1:=fun _=>rfl) hr0) hc0 (Kd.V_mk hx (Kd.C_F hh hC)) (Kd.V_mk hc3 (Kd.C_F (Kd.heap_int _) (Kd.C_of_reads (d:=(0 : Int)) (h1:=fun _=>rfl) hr3))) ⟨rfl⟩ h).mono ?_
 rintro e w' ⟨rfl,hd⟩
 exact ⟨rfl,hd⟩
end Go.Proofs.Ytoofabolcbbjnaa.P
