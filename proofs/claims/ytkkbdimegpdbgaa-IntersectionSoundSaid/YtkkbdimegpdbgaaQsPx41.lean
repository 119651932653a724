/- Functions of the program as Lean functions, and the walks that show that the calls answer so; written by a program of this session (a changed print) and by hand. -/
import Derived.Test.YtkkbdimegpdbgaaQsPx0
import Derived.Test.YtkkbdimegpdbgaaQsPx9
import Derived.Test.YtkkbdimegpdbgaaQsPx10
import Derived.Test.YtkkbdimegpdbgaaQsPx11
import Derived.Test.YtkkbdimegpdbgaaQsPx16
import Derived.Test.YtkkbdimegpdbgaaQsPx18
import Derived.Test.YtkkbdimegpdbgaaQsPx23
import Derived.Test.YtkkbdimegpdbgaaQsPx25
namespace Go.Proofs.Ytkkbdimegpdbgaa.P
open Go.RowKit Go.Proofs.YtkkbdimegpdbgaaW.PrintWords Go.Proofs.YtkkbdimegpdbgaaW.PrintLast Go.Proofs.YtkkbdimegpdbgaaW.PrintMore
attribute [local go_sem] kF kD kV kU uJ uK kG kE
set_option linter.unusedVariables false
set_option linter.unusedSimpArgs false
def trustquorumlaw12_IntersectionSound.l0 : Nat→Bool→List (S28)→Int→Int→List (S58)→Option (Bool)
 | 0,_,_,_,_,_=>none
 | k + 1,x7,x33,x34,x35,x621000=>if x35 < x34 then (if 0 ≤ x35 then (if x35 < (x33.length : Int) then ((vT.f k x621000 ((zJ x33 x35).f0) ((zJ x33 x35).f1) ((zJ x33 x35).f2)).bind fun t640=>(if t640 = true then (if x7 = true then (trustquorumlaw12_IntersectionSound.l0 k x7 x33 x34 (wrap64 (x35 + 1)) x621000) else (some false)) else (trustquorumlaw12_IntersectionSound.l0 k x7 x33 x34 (wrap64 (x35 + 1)) x621000))) else (none)) else (none)) else ((zM.f k).bind fun t641=>(some t641))
def trustquorumlaw12_IntersectionSound.f (k : Nat) (l0 : List Int) (a1_0 : Int) (a1_1 : Int) (l1_2 : List (S28)) : Option (Bool):=(uI.f k a1_0 a1_1 l1_2).bind fun t611=>(if t611 = true then ((Qc.f l0).bind fun bt613=>((zY.f k bt613.1 bt613.2 7).bind fun bt616=>((kM.f k bt616.1).bind fun bt621=>((uX.f k bt613.1 bt616.2 bt616.1 true).bind fun bt623=>((uX.f k bt613.1 bt623.2.2.2 bt616.1 true).bind fun bt629=>((some (([(⟨bt623.1,bt623.2.1,bt623.2.2.1⟩ : S28),(⟨bt629.1,bt629.2.1,bt629.2.2.1⟩ : S28),(⟨a1_0,a1_1,l1_2⟩ : S28),(⟨1,0,([] : List (S28))⟩ : S28),(⟨2,0,([] : List (S28))⟩ : S28)] : List (S28)) : List (S28))).bind fun y635=>(trustquorumlaw12_IntersectionSound.l0 k bt621.1 y635 (y635.length : Int) 0 bt616.1))))))) else ((zM.f k).bind fun t612=>(some t612)))
def trustquorumlaw12_IntersectionSound.T6 : Bool × List (List Nat × List Nat):=(true,[([],[]),([],[]),([0,1],[0,1]),([],[]),([],[]),([3,4,2],[3,4]),([],[]),([],[]),([],[]),([2,5,6,7,8],[2,5,6,7,8]),([9],[9]),([],[])])
def trustquorumlaw12_IntersectionSound.B6 : List Nat:=[0,0,3,0,0,31,0,0,0,511,1023,0]
theorem trustquorumlaw12_IntersectionSound.tab6 : rtab .any (opsOf Try.f6 6) = trustquorumlaw12_IntersectionSound.T6:=by kernel_rfl
theorem trustquorumlaw12_IntersectionSound.bits6 : Qv trustquorumlaw12_IntersectionSound.T6.2 trustquorumlaw12_IntersectionSound.B6 = true:=by kernel_rfl
set_option maxHeartbeats 8000000 in
set_option maxRecDepth 100000 in
theorem trustquorumlaw12_IntersectionSound.calls (k : Nat) (A0 : Option Addr) (c0 : Nat) (l0 : List Int) (a1_0 : Int) (a1_1 : Int) (A1_2 : Option Addr) (c1_2 : Nat) (l1_2 : List (S28)) (r : Bool) (w : World) (hr0 : Kd.C (Kd.int .i64) w A0 l0.length l0) (hc0 : l0.length ≤ c0) (hs1_2 : Kd.V k28 28 w w.heap.size (fun k_=>k_ < w.heap.size) (.slice A1_2 l1_2.length c1_2) l1_2) (h : trustquorumlaw12_IntersectionSound.f k l0 a1_0 a1_1 l1_2 = some r) :
  Calls Try.prog 6 #[.slice A0 l0.length c0,.agg #[.int .i64 a1_0,.int .i64 a1_1,.slice A1_2 l1_2.length c1_2]] w fun e w'=>e = .returned (.bool r)∧Below w.heap.size w w':=by
 have hu28:=Try.underlying28
 have hu25:=Try.underlying25
 have HR0:=qA.mk hr0
 have HC0:=qA.mk hc0
 clear hr0 hc0
 have HO1_2:=qA.mk (show Kd.V k28 28 w w.heap.size (fun k_=>k_ < w.heap.size) (.slice A1_2 l1_2.length c1_2) l1_2 from Kd.kK hs1_2 (fun k_ hk=>hk))
 have HB:=qA.mk (Below.refl w.heap.size w)
 unfold trustquorumlaw12_IntersectionSound.f at h
 have H:=h
 clear h
 replace H:=Option.bind_eq_some_iff.mp H
 obtain ⟨t611,A30,H⟩:=H
 try dsimp only at H
 have A3:=qA.mk A30
 clear A30
 by_cases c4 : t611 = true
 ·subst c4
  rw [if_pos rfl] at H
  replace H:=Option.bind_eq_some_iff.mp H
  obtain ⟨⟨t613,t614⟩,A50,H⟩:=H
  try dsimp only at H
  have A5:=qA.mk A50
  clear A50
  replace H:=Option.bind_eq_some_iff.mp H
  obtain ⟨⟨t616,t619⟩,A60,H⟩:=H
  try dsimp only at H
  have A6:=qA.mk A60
  clear A60
  replace H:=Option.bind_eq_some_iff.mp H
  obtain ⟨⟨t621,t622⟩,A70,H⟩:=H
  try dsimp only at H
  have A7:=qA.mk A70
  clear A70
  replace H:=Option.bind_eq_some_iff.mp H
  obtain ⟨⟨t623,t624,t625,t628⟩,A80,H⟩:=H
  try dsimp only at H
  have A8:=qA.mk A80
  clear A80
  replace H:=Option.bind_eq_some_iff.mp H
  obtain ⟨⟨t629,t630,t631,t634⟩,A90,H⟩:=H
  try dsimp only at H
  have A9:=qA.mk A90
  clear A90
  obtain ⟨y635,hy635⟩ : ∃ y_ : List (S28),y_ = (([(⟨t623,t624,t625⟩ : S28),(⟨t629,t630,t631⟩ : S28),(⟨a1_0,a1_1,l1_2⟩ : S28),(⟨1,0,([] : List (S28))⟩ : S28),(⟨2,0,([] : List (S28))⟩ : S28)] : List (S28))):=⟨_,rfl⟩
  replace H : (trustquorumlaw12_IntersectionSound.l0 k t621 y635 (y635.length : Int) 0 t616) = some r:=by first|(rw [hy635];with_reducible exact H)|(have H2_:=(Option.bind_some _ _).symm.trans H;rw [hy635];with_reducible exact H2_)|(have H2_:=(Option.bind_some _ _).symm.trans H;with_reducible exact H2_)|with_reducible exact H|(rw [hy635];exact H)|exact H
  have Ny635:=qA.mk hy635
  clear hy635
  have H':=qA.mk H
  clear H
  go_enter Try.func6,Try.ntmps6
  try go_wp2_with (first|((with_reducible refine qP (N:=3) rfl ?_);refine zV (N:=3) (cs:=#[.int .i64 a1_0,.int .i64 a1_1,.slice A1_2 l1_2.length c1_2]) (t:=28) ?_;intro gb610 hg w10 hbox hb;have n_:=q_5 (Kd.Qp (Kd.Z4 (bycf HO1_2.out) gb610 (Nat.le_of_eq hg.symm)) hb) (qC byab hb) (hbox) ((byck : w.heap.size ≤ gb610)) ((byck : w.heap.size ≤ gb610));clear HO1_2 HB;obtain ⟨HO1_2,HB,BK610,GW610,GE610⟩:=n_;clear hb hbox hg;obtain ⟨hcz11_0,hcz11_1,hcz11_2,hfz11_0,hfz11_1,hfz11_2⟩:=cz3 BK610.out)|((with_reducible refine qI (f:=9) rfl ?_);refine qY (some 12) rfl rfl Try.func9 (by kernel_rfl) rfl #[.agg #[.int .i64 a1_0,.int .i64 a1_1,.slice A1_2 l1_2.length c1_2]] rfl bycg ?_;(with_reducible refine (uI.calls k a1_0 a1_1 _ _ l1_2 true _ ?side1 ?side2 A3.out).mono ?_);(case side1=>repeat (first|exact (Kd.Zl HO1_2.out).2.2|(with_reducible refine Kd.C_alloc ?_ _)|(with_reducible refine Kd.C_drewN ?_ _)|(with_reducible refine Kd.C_drew ?_)));(case side2=>exact (Kd.Zl HO1_2.out).2.1);rintro e w12 ⟨rfl,hb⟩;refine ⟨_,rfl,?_⟩;have n_:=q_3 (Kd.Qp (bycf HO1_2.out) hb) (qH BK610.out hb) (qC (byad GE610.out) hb);clear HO1_2 BK610 HB;obtain ⟨HO1_2,BK610,HB⟩:=n_;clear hb)|((with_reducible refine qI (f:=11) rfl ?_);refine qY (some 16) rfl rfl Try.func11 (by kernel_rfl) rfl #[.slice A0 l0.length c0] rfl bycg ?_;(with_reducible refine (Qc.calls _ _ l0 t613 t614 w _ ?side1 ?side2 ?side3 A5.out).mono ?_);(case side1=>exact byad GE610.out);(case side2=>exact HR0.out);(case side3=>exact HC0.out);rintro e w13 ⟨g615,rfl,hi,hb,hb2⟩;refine ⟨_,rfl,?_⟩;have n_:=q_6 (Kd.Qp (bycf HO1_2.out) hb2) (qH BK610.out hb2) (hb) (hi) (qB.ne_blk hi (qH BK610.out hb2) (by decide)) (Ne.symm (qB.ne_blk hi (qH BK610.out hb2) (by decide)));clear HO1_2 BK610 HB;obtain ⟨HO1_2,BK610,HB,HI615,NB615_610,NB610_615⟩:=n_;clear hb hb2 hi)|((with_reducible refine qI (f:=12) rfl ?_);refine qY (some 18) rfl rfl Try.func12 (by kernel_rfl) rfl #[.pointer (some ⟨g615,0,none⟩),.int .i64 7] rfl bycg ?_;(with_reducible refine (zY.calls k g615 t613 t614 7 t616 t619 w _ ?side1 ?side2 A6.out).mono ?_);(case side1=>exact bybm HI615.out NB615_610.out);(case side2=>exact bybo HI615.out GE610.out);rintro e w14 ⟨v617,rfl,ho0,hi,hb,hk⟩;refine ⟨_,rfl,?_⟩;have n_:=q_5 (Kd.kK (Kd.V_told (Kd.V_oldK (Kd.kK (ok:=fun k_=>(((k_ < w.heap.size))∧k_≠gb610)) (bycf HO1_2.out) (fun k_ hk_=>(⟨hk_,(fun e_=>absurd hk_.1 (Nat.not_lt.2 (by rw [e_];exact qB.ge HI615.out)))⟩ : _∧k_≠g615))) hk) (Kd.kL ho0)) (fun _ h_=>h_.1)) (qJ.blkB hk BK610.out NB610_615.out (by simp)) (Kd.Zr (Kd.vX (ok':=fun k_=>(k_ < w.heap.size∨w.heap.size ≤ k_)∧k_≠gb610∧k_≠g615) (Kd.R_N (Kd.Qy ho0)) (fun k_ hk_=>⟨(.inr (Nat.le_trans (jX (bybo HI615.out GE610.out)) hk_.2.1)),(Kd.Qd (g:=gb610) (o:=.cells #[.int .i64 a1_0,.int .i64 a1_1,.slice A1_2 l1_2.length c1_2] 28 (0,0)) (byaf BK610.out) k_ hk_.2.1),(qB.fresh (bybm HI615.out NB615_610.out) k_ hk_.2.1)⟩)) (jX (bybo HI615.out GE610.out))) (hb) (hi);clear HO1_2 BK610 HB HI615;obtain ⟨HO1_2,BK610,HO618,HB,HI615⟩:=n_;clear hb hk hi;(try clear ho0))|((with_reducible refine qP (N:=6) rfl ?_);refine zV (N:=6) (cs:=#[.slice none 0 0]) (t:=25) ?_;intro gb620 hg w15 hbox hb;have n_:=q_10 (Kd.Qp (Kd.Z4 (bycf HO1_2.out) gb620 (Nat.le_of_eq hg.symm)) hb) (Kd.uV (Kd.Zo (byba HO618.out) gb620 (Nat.le_of_eq hg.symm)) hb) (qH BK610.out hb) (qB.below (bybm HI615.out NB615_610.out) hb) (qC (bybo HI615.out GE610.out) hb) (hbox) ((by rw [hg];exact (jX (bybo HI615.out GE610.out)) : w.heap.size ≤ gb620)) ((by rw [hg];exact (jX (bybo HI615.out GE610.out)) : w.heap.size ≤ gb620)) ((by rw [hg];exact Nat.ne_of_lt (vF BK610.out) : gb610≠gb620)) ((by rw [hg];exact Nat.ne_of_lt (qB.lt (show qB w _ g615 t613 t619 from by repeat (first|(with_reducible first|exact HI615.out|apply qB.alloc|apply qB.drewN|apply qB.drew|apply qB.vZ|refine qB.far ?_ NB615_610.out _)|exact HI615.out))) : g615≠gb620));clear HO1_2 HO618 BK610 HI615 HB;obtain ⟨HO1_2,HO618,BK610,HI615,HB,BK620,GW620,GE620,NB610_620,NB615_620⟩:=n_;have NB620_610:=ns NB610_620;have NB620_615:=ns NB615_620;clear hb hbox hg;obtain ⟨Ao16,co16,eo16⟩:=Kd.Zn HO618.out;subst eo16;have hnb17:=NB620_610.out;have hnc17:=NB610_620.out;have hnb18:=NB620_615.out;have hnc18:=NB615_620.out;obtain ⟨hcz19_0,hfz19_0⟩:=cz1 BK620.out)|((with_reducible refine qI (f:=15) rfl ?_);refine qY (some 21) rfl rfl Try.func15 (by kernel_rfl) rfl #[.agg #[.slice Ao16 t616.length co16]] rfl bycg ?_;(with_reducible refine (kM.calls k _ _ t616 t621 t622 _ ?side1 ?side2 A7.out).mono ?_);(case side1=>refine (Kd.Qj (e:=58) (base:=w.heap.size) (ok:=fun k_=>(((k_ < w.heap.size∨w.heap.size ≤ k_)∧(k_≠gb610∧k_≠g615))∧k_≠gb620)) (n:=t616.length) (c:=co16) ?_).2.2;exact (by (with_reducible repeat (first|apply Kd.Qq|apply Kd.Qo|apply Kd.Qs));exact (Kd.vX (Kd.kY (p:=⟨gb620,0,none⟩) (Kd.vX HO618.out (fun k_ hk=>(⟨hk,hk.2⟩ : _∧k_≠gb620))) (fun _ hk=>hk.2) (.slice Ao16 t616.length co16)) (fun _ h_=>h_.1))));(case side2=>exact bybi HO618.out);rintro e w20 ⟨rfl,hb⟩;refine ⟨_,rfl,?_⟩;have n_:=q_6 (Kd.Qp (by (with_reducible repeat (first|apply Kd.Q7|apply Kd.Q8|apply Kd.Zi));exact (Kd.kK (Kd.Qi (p:=⟨gb620,0,none⟩) (Kd.kK HO1_2.out (fun k_ hk=>(⟨hk,hk.2⟩ : _∧k_≠gb620))) (fun _ hk=>hk.2) (.slice Ao16 t616.length co16)) (fun _ h_=>h_.1))) hb) (Kd.uV (by (with_reducible repeat (first|apply Kd.Qq|apply Kd.Qo|apply Kd.Qs));exact (Kd.vX (Kd.kY (p:=⟨gb620,0,none⟩) (Kd.vX HO618.out (fun k_ hk=>(⟨hk,hk.2⟩ : _∧k_≠gb620))) (fun _ hk=>hk.2) (.slice Ao16 t616.length co16)) (fun _ h_=>h_.1))) hb) (jQ (g:=gb610) (o:=.cells #[.int .i64 a1_0,.int .i64 a1_1,.slice A1_2 l1_2.length c1_2] 28 (0,0)) (bybe NB610_620.out BK610.out) hb) (qB.below (show qB w (w15.setCell ⟨gb620,0,none⟩ (.slice Ao16 t616.length co16)) g615 t613 t619 from by repeat (first|(with_reducible first|exact HI615.out|apply qB.alloc|apply qB.drewN|apply qB.drew|apply qB.vZ|refine qB.far ?_ NB615_610.out _|refine qB.far ?_ NB615_620.out _)|exact HI615.out)) hb) (jQ (g:=gb620) (o:=.cells #[.slice Ao16 t616.length co16] 25 (0,0)) (bybg BK620.out) hb) (qC (bybq HI615.out GE610.out GE620.out) hb);clear HO1_2 HO618 BK610 HI615 BK620 HB;obtain ⟨HO1_2,HO618,BK610,HI615,BK620,HB⟩:=n_;clear hb))
  have n_:=q_6 (Kd.Zi HO1_2.out) (Kd.Qs HO618.out) (qG BK610.out) (qG BK620.out) (qB.drew HI615.out) (vI HB.out)
  clear HO1_2 HO618 BK610 BK620 HI615 HB
  obtain ⟨HO1_2,HO618,BK610,BK620,HI615,HB⟩:=n_
  refine Qm (n:=12) (S:=fun w'=>w'.cell? ⟨gb620,0,none⟩ = some (.slice Ao16 t616.length co16)∧w'.cell? ⟨gb610,0,none⟩ = some (.int .i64 a1_0)∧w'.cell? ⟨gb610,1,none⟩ = some (.int .i64 a1_1)∧w'.cell? ⟨gb610,2,none⟩ = some (.slice A1_2 l1_2.length c1_2)) (ds:=[]) (bb 12 0) (by kernel_rfl) rfl rfl ⟨(qN BK620.out 0).trans rfl,(qN BK610.out 0).trans rfl,(qN BK610.out 1).trans rfl,(qN BK610.out 2).trans rfl⟩ (fun hHeld=>?_);refine Qb trustquorumlaw12_IntersectionSound.tab6 trustquorumlaw12_IntersectionSound.bits6 (fun HT_ HW_=>?_)
  generalize w20.drew = w21 at HO1_2 HO618 BK610 BK620 HI615 HB hHeld ⊢
  refine zH (i:=0) (N:=some 24) (bb 12 1) ?_
  refine zH (i:=3) (N:=some 27) (bb 12 9) ?_
  refine zH (i:=7) (N:=some 31) (bb 12 137) ?_
  refine zH (i:=8) (N:=some 32) (bb 12 393) ?_
  refine zH (i:=11) (N:=some 35) (bb 12 2441) ?_
  refine takeZD (i:=1) (N:=some 25) (bb 12 2443) hHeld ?_
  refine takeZD (i:=4) (N:=some 28) (bb 12 2459) hHeld ?_
  refine takeZD (i:=6) (N:=some 30) (bb 12 2523) hHeld ?_
  refine one_ (i:=2) (N:=some 26) (bb 12 2527) rfl rfl (kC HT_.out (by kernel_rfl)) (by decide) (fun K hK=>?_)
  refine Qg Try.func19 (by kernel_rfl) rfl #[.pointer (some ⟨g615,0,none⟩),.agg #[.slice Ao16 t616.length co16],.bool true] (by rfl) rfl rfl bycg ?_
  with_reducible refine (uX.calls k g615 t613 t619 _ _ t616 true t623 t624 t625 t628 w _ ?side1 ?side2 ?side3 ?side4 A8.out).mono ?_
  (case side1=>exact bybp HI615.out NB615_610.out NB615_620.out)
  (case side2=>exact bybq HI615.out GE610.out GE620.out)
  (case side3=>exact Kd.C_foot_ownV (base:=0) (Kd.N_V (Kd.vX (ok:=fun k_=>((((k_ < w.heap.size∨w.heap.size ≤ k_))∧(k_≠gb610∧k_≠g615))∧k_≠gb620)) (byba HO618.out) (fun k_ hk_=>(⟨hk_,hk_.1.2.2⟩ : _∧k_≠g615)))) (fun _ h_=>h_.2))
  (case side4=>exact bybi HO618.out)
  rintro e w22 ⟨v626,rfl,ho0,hi,hb,hk⟩
  refine ⟨_,rfl,?_⟩
  have n_:=q_7 (Kd.kK (Kd.V_told (Kd.V_oldK (Kd.kK (ok:=fun k_=>(((((k_ < w.heap.size))∧k_≠gb610)∧some k_≠(.slice Ao16 t616.length co16 : Value).ownBlock)∧k_≠gb620)) (bycf HO1_2.out) (fun k_ hk_=>(⟨hk_,(fun e_=>absurd hk_.1.1.1 (Nat.not_lt.2 (by rw [e_];exact qB.ge HI615.out)))⟩ : _∧k_≠g615))) hk) (Kd.kL ho0)) (fun _ h_=>h_.1)) (qJ.blkB hk BK610.out NB610_615.out (by simp)) (Kd.vX (Kd.N_told (Kd.N_oldK (Kd.vX (ok:=fun k_=>((((k_ < w.heap.size∨w.heap.size ≤ k_))∧(k_≠gb610∧k_≠g615))∧k_≠gb620)) (byba HO618.out) (fun k_ hk_=>(⟨hk_,hk_.1.2.2⟩ : _∧k_≠g615))) hk) (Kd.kL ho0)) (fun _ h_=>h_.1)) (qJ.blkB hk BK620.out NB620_615.out (by simp)) (Kd.Zr (Kd.vX (ok':=fun k_=>(k_ < w.heap.size∨w.heap.size ≤ k_)∧some k_≠(.slice Ao16 t616.length co16 : Value).ownBlock∧k_≠gb610∧k_≠gb620∧k_≠g615) (Kd.R_N (Kd.Qy ho0)) (fun k_ hk_=>⟨(.inr (Nat.le_trans (jX (bybq HI615.out GE610.out GE620.out)) hk_.2.1)),(Kd.fresh' (Kd.N_lt (byba HO618.out)) k_ hk_.2.1),(Kd.Qd (g:=gb610) (o:=.cells #[.int .i64 a1_0,.int .i64 a1_1,.slice A1_2 l1_2.length c1_2] 28 (0,0)) (byaf BK610.out) k_ hk_.2.1),(Kd.Qd (g:=gb620) (o:=.cells #[.slice Ao16 t616.length co16] 25 (0,0)) (byaf BK620.out) k_ hk_.2.1),(qB.fresh (bybp HI615.out NB615_610.out NB615_620.out) k_ hk_.2.1)⟩)) (jX (bybq HI615.out GE610.out GE620.out))) (hb) (hi)
  clear HO1_2 BK610 HO618 BK620 HB HI615
  obtain ⟨HO1_2,BK610,HO618,BK620,HO627,HB,HI615⟩:=n_
  (try clear hb)
  (try clear hb2)
  (try clear hk)
  (try clear hi)
  (try clear ho0)
  refine hK.out _ _ ⟨(qN BK620.out 0).trans rfl,(qN BK610.out 0).trans rfl,(qN BK610.out 1).trans rfl,(qN BK610.out 2).trans rfl⟩ (fun hHeld=>?_)
  clear hK K
  refine kN (N:=some 26) ?_
  refine one_ (i:=5) (N:=some 29) (bb 12 2559) rfl rfl (kC HT_.out (by kernel_rfl)) (by decide) (fun K hK=>?_)
  refine Qg Try.func19 (by kernel_rfl) rfl #[.pointer (some ⟨g615,0,none⟩),.agg #[.slice Ao16 t616.length co16],.bool true] (by rfl) rfl rfl bycg ?_
  with_reducible refine (uX.calls k g615 t613 t628 _ _ t616 true t629 t630 t631 t634 w _ ?side1 ?side2 ?side3 ?side4 A9.out).mono ?_
  (case side1=>exact bybp HI615.out NB615_610.out NB615_620.out)
  (case side2=>exact bybq HI615.out GE610.out GE620.out)
  (case side3=>exact Kd.C_foot_ownV (base:=0) (Kd.N_V (Kd.vX (ok:=fun k_=>(((((k_ < w.heap.size∨w.heap.size ≤ k_))∧(k_≠gb610∧k_≠g615))∧k_≠gb620)∧some k_≠(v626 : Value).ownBlock)) (byba HO618.out) (fun k_ hk_=>(⟨hk_,hk_.1.1.2.2⟩ : _∧k_≠g615)))) (fun _ h_=>h_.2))
  (case side4=>exact bybi HO618.out)
  rintro e w23 ⟨v632,rfl,ho0,hi,hb,hk⟩
  refine ⟨_,rfl,?_⟩
  have n_:=q_8 (Kd.kK (Kd.V_told (Kd.V_oldK (Kd.kK (ok:=fun k_=>((((((k_ < w.heap.size))∧k_≠gb610)∧some k_≠(.slice Ao16 t616.length co16 : Value).ownBlock)∧k_≠gb620)∧some k_≠(v626 : Value).ownBlock)) (bycf HO1_2.out) (fun k_ hk_=>(⟨hk_,(fun e_=>absurd hk_.1.1.1.1 (Nat.not_lt.2 (by rw [e_];exact qB.ge HI615.out)))⟩ : _∧k_≠g615))) hk) (Kd.kL ho0)) (fun _ h_=>h_.1)) (qJ.blkB hk BK610.out NB610_615.out (by simp)) (Kd.vX (Kd.N_told (Kd.N_oldK (Kd.vX (ok:=fun k_=>(((((k_ < w.heap.size∨w.heap.size ≤ k_))∧(k_≠gb610∧k_≠g615))∧k_≠gb620)∧some k_≠(v626 : Value).ownBlock)) (byba HO618.out) (fun k_ hk_=>(⟨hk_,hk_.1.1.2.2⟩ : _∧k_≠g615))) hk) (Kd.kL ho0)) (fun _ h_=>h_.1)) (qJ.blkB hk BK620.out NB620_615.out (by simp)) (Kd.vX (Kd.N_told (Kd.N_oldK (Kd.vX (ok:=fun k_=>(((k_ < w.heap.size∨w.heap.size ≤ k_))∧(some k_≠(.slice Ao16 t616.length co16 : Value).ownBlock∧(k_≠gb610∧(k_≠gb620∧k_≠g615))))) (byba HO627.out) (fun k_ hk_=>(⟨hk_,hk_.2.2.2.2⟩ : _∧k_≠g615))) hk) (Kd.kL ho0)) (fun _ h_=>h_.1)) (Kd.Zr (Kd.vX (ok':=fun k_=>(k_ < w.heap.size∨w.heap.size ≤ k_)∧some k_≠(.slice Ao16 t616.length co16 : Value).ownBlock∧some k_≠(v626 : Value).ownBlock∧k_≠gb610∧k_≠gb620∧k_≠g615) (Kd.R_N (Kd.Qy ho0)) (fun k_ hk_=>⟨(.inr (Nat.le_trans (jX (bybq HI615.out GE610.out GE620.out)) hk_.2.1)),(Kd.fresh' (Kd.N_lt (byba HO618.out)) k_ hk_.2.1),(Kd.fresh' (Kd.N_lt (byba HO627.out)) k_ hk_.2.1),(Kd.Qd (g:=gb610) (o:=.cells #[.int .i64 a1_0,.int .i64 a1_1,.slice A1_2 l1_2.length c1_2] 28 (0,0)) (byaf BK610.out) k_ hk_.2.1),(Kd.Qd (g:=gb620) (o:=.cells #[.slice Ao16 t616.length co16] 25 (0,0)) (byaf BK620.out) k_ hk_.2.1),(qB.fresh (bybp HI615.out NB615_610.out NB615_620.out) k_ hk_.2.1)⟩)) (jX (bybq HI615.out GE610.out GE620.out))) (hb) (hi)
  clear HO1_2 BK610 HO618 BK620 HO627 HB HI615
  obtain ⟨HO1_2,BK610,HO618,BK620,HO627,HO633,HB,HI615⟩:=n_
  (try clear hb)
  (try clear hb2)
  (try clear hk)
  (try clear hi)
  (try clear ho0)
  obtain ⟨Ao24,co24,eo24⟩:=Kd.Zn HO627.out
  (first|subst eo24|(injection eo24 with f1_ f2_ f3_;have f4_:=f1_.symm;have f5_:=f3_.symm;clear f1_ f2_ f3_;subst f4_;subst f5_))
  obtain ⟨Ao25,co25,eo25⟩:=Kd.Zn HO633.out
  (first|subst eo25|(injection eo25 with f1_ f2_ f3_;have f4_:=f1_.symm;have f5_:=f3_.symm;clear f1_ f2_ f3_;subst f4_;subst f5_))
  refine hK.out _ _ ⟨(qN BK620.out 0).trans rfl,(qN BK610.out 0).trans rfl,(qN BK610.out 1).trans rfl,(qN BK610.out 2).trans rfl⟩ (fun hHeld=>?_)
  clear hK K
  refine kN (N:=some 29) ?_
  refine one_ (i:=9) (N:=some 33) (bb 12 3071) rfl rfl (kC HT_.out (by kernel_rfl)) (by decide) (fun K hK=>?_)
  refine Kd.N_lit_step k28 _ 28 ?hg (N':=33) ?hd (xs:=([(⟨t623,t624,t625⟩ : S28),(⟨t629,t630,t631⟩ : S28),(⟨a1_0,a1_1,l1_2⟩ : S28),(⟨1,0,([] : List (S28))⟩ : S28),(⟨2,0,([] : List (S28))⟩ : S28)] : List (S28))) (inner:=[.int .i64 t623,.int .i64 t624,.slice Ao24 t625.length co24,.int .i64 t629,.int .i64 t630,.slice Ao25 t631.length co25,.int .i64 a1_0,.int .i64 a1_1,.slice A1_2 l1_2.length c1_2,.int .i64 1,.int .i64 0,.slice none 0 0,.int .i64 2,.int .i64 0,.slice none 0 0]) (ok:=(fun k_=>(k_ < w.heap.size∨w.heap.size ≤ k_)∧some k_≠(.slice Ao16 t616.length co16 : Value).ownBlock∧k_≠gb610∧k_≠gb620∧k_≠g615)) (okp:=(fun k_=>(k_ < w.heap.size∨w.heap.size ≤ k_)∧some k_≠(.slice Ao16 t616.length co16 : Value).ownBlock∧k_≠gb610∧k_≠gb620∧k_≠g615)) ?hr ?hp (fun _ hk=>hk) ((show ∀ k_,w23.heap.size ≤ k_→(fun k_=>(k_ < w.heap.size∨w.heap.size ≤ k_)∧some k_≠(.slice Ao16 t616.length co16 : Value).ownBlock∧k_≠gb610∧k_≠gb620∧k_≠g615) k_ from fun k_ hk=>⟨(.inr (Nat.le_trans (jX (bybq HI615.out GE610.out GE620.out)) hk)),Kd.fresh' (Kd.N_lt (byba HO618.out)) k_ hk,Kd.Qd (g:=gb610) (o:=.cells #[.int .i64 a1_0,.int .i64 a1_1,.slice A1_2 l1_2.length c1_2] 28 (0,0)) (byaf BK610.out) k_ hk,Kd.Qd (g:=gb620) (o:=.cells #[.slice Ao16 t616.length co16] 25 (0,0)) (byaf BK620.out) k_ hk,qB.fresh (bybp HI615.out NB615_610.out NB615_620.out) k_ hk⟩) _ (Nat.le_refl _)) (Below.refl _ _) (Nat.le_refl _) (by simp) ?_;(case hd=>rfl);(case hg=>rfl);(case hr=>exact byaa);(case hp=>exact (Reps.c3 (show Kd.FK k28 _ _ (⟨t623,t624,t625⟩ : S28) [.int .i64 t623,.int .i64 t624,.slice Ao24 t625.length co24] from (k28_mkF _ _ (⟨t623,t624,t625⟩ : S28) (Kd.Qj (Kd.vX (ok':=(fun k_=>(k_ < w.heap.size∨w.heap.size ≤ k_)∧some k_≠(.slice Ao16 t616.length co16 : Value).ownBlock∧k_≠gb610∧k_≠gb620∧k_≠g615)) (HO627.out) (fun k_ hk=>⟨hk.1.1,⟨hk.1.2.1,⟨hk.1.2.2.1,⟨hk.1.2.2.2.1,hk.1.2.2.2.2⟩⟩⟩⟩))).2.1 (Kd.N_F (Kd.vX (ok':=(fun k_=>(k_ < w.heap.size∨w.heap.size ≤ k_)∧some k_≠(.slice Ao16 t616.length co16 : Value).ownBlock∧k_≠gb610∧k_≠gb620∧k_≠g615)) (HO627.out) (fun k_ hk=>⟨hk.1.1,⟨hk.1.2.1,⟨hk.1.2.2.1,⟨hk.1.2.2.2.1,hk.1.2.2.2.2⟩⟩⟩⟩))))) (Reps.c3 (show Kd.FK k28 _ _ (⟨t629,t630,t631⟩ : S28) [.int .i64 t629,.int .i64 t630,.slice Ao25 t631.length co25] from (k28_mkF _ _ (⟨t629,t630,t631⟩ : S28) (Kd.Qj (Kd.vX (ok':=(fun k_=>(k_ < w.heap.size∨w.heap.size ≤ k_)∧some k_≠(.slice Ao16 t616.length co16 : Value).ownBlock∧k_≠gb610∧k_≠gb620∧k_≠g615)) (HO633.out) (fun k_ hk=>⟨hk.1,⟨hk.2.1,⟨hk.2.2.2.1,⟨hk.2.2.2.2.1,hk.2.2.2.2.2⟩⟩⟩⟩))).2.1 (Kd.N_F (Kd.vX (ok':=(fun k_=>(k_ < w.heap.size∨w.heap.size ≤ k_)∧some k_≠(.slice Ao16 t616.length co16 : Value).ownBlock∧k_≠gb610∧k_≠gb620∧k_≠g615)) (HO633.out) (fun k_ hk=>⟨hk.1,⟨hk.2.1,⟨hk.2.2.2.1,⟨hk.2.2.2.2.1,hk.2.2.2.2.2⟩⟩⟩⟩))))) (Reps.c3 (show Kd.FK k28 _ _ (⟨a1_0,a1_1,l1_2⟩ : S28) [.int .i64 a1_0,.int .i64 a1_1,.slice A1_2 l1_2.length c1_2] from (k28_mkF _ _ (⟨a1_0,a1_1,l1_2⟩ : S28) (Kd.Zl (Kd.kK (ok':=(fun k_=>(k_ < w.heap.size∨w.heap.size ≤ k_)∧some k_≠(.slice Ao16 t616.length co16 : Value).ownBlock∧k_≠gb610∧k_≠gb620∧k_≠g615)) ((Kd.kK (HO1_2.out) (fun k_ hk=>(⟨hk,(fun e_=>absurd hk.1.1.1.1.1 (Nat.not_lt.2 (by rw [e_];exact qB.ge HI615.out)))⟩ : _∧k_≠g615)))) (fun k_ hk=>⟨.inl hk.1.1.1.1.1.1,⟨hk.1.1.1.1.2,⟨hk.1.1.1.1.1.2,⟨hk.1.1.1.2,hk.2⟩⟩⟩⟩))).2.1 (Kd.V_F (Kd.kK (ok':=(fun k_=>(k_ < w.heap.size∨w.heap.size ≤ k_)∧some k_≠(.slice Ao16 t616.length co16 : Value).ownBlock∧k_≠gb610∧k_≠gb620∧k_≠g615)) ((Kd.kK (HO1_2.out) (fun k_ hk=>(⟨hk,(fun e_=>absurd hk.1.1.1.1.1 (Nat.not_lt.2 (by rw [e_];exact qB.ge HI615.out)))⟩ : _∧k_≠g615)))) (fun k_ hk=>⟨.inl hk.1.1.1.1.1.1,⟨hk.1.1.1.1.2,⟨hk.1.1.1.1.1.2,⟨hk.1.1.1.2,hk.2⟩⟩⟩⟩))))) (Reps.c3 (show Kd.FK k28 _ _ (⟨1,0,([] : List (S28))⟩ : S28) [.int .i64 1,.int .i64 0,.slice none 0 0] from (k28_mkF _ _ (⟨1,0,([] : List (S28))⟩ : S28) (Nat.le_refl _) (Kd.F_nil _ _ _))) (Reps.c3 (show Kd.FK k28 _ _ (⟨2,0,([] : List (S28))⟩ : S28) [.int .i64 2,.int .i64 0,.slice none 0 0] from (k28_mkF _ _ (⟨2,0,([] : List (S28))⟩ : S28) (Nat.le_refl _) (Kd.F_nil _ _ _))) (Reps.none _ _)))))))
  intro v636 w26 ho27 hb hg_ hnew_
  clear hg_ hnew_
  (first|rw [← Ny635.out] at ho27|(simp only [Int.reduceToNat] at ho27;rw [← Ny635.out] at ho27))
  have n_:=q_7 (Kd.V_elder' (bycf HO1_2.out) (Kd.N_base ho27) hb) (Kd.Zk (byba HO618.out) (Kd.N_base ho27) hb) (Kd.Zr ho27 (jX (bybq HI615.out GE610.out GE620.out))) (qH BK610.out hb) (qB.below (bybp HI615.out NB615_610.out NB615_620.out) hb) (qH BK620.out hb) (qC (bybq HI615.out GE610.out GE620.out) hb)
  clear HO1_2 HO618 BK610 HI615 BK620 HB HO627 HO633
  obtain ⟨HO1_2,HO618,HO637,BK610,HI615,BK620,HB⟩:=n_
  clear hb ho27
  obtain ⟨Ao28,co28,eo28⟩:=Kd.Zn HO637.out
  (first|subst eo28|(injection eo28 with f1_ f2_ f3_;have f4_:=f1_.symm;have f5_:=f3_.symm;clear f1_ f2_ f3_;subst f4_;subst f5_))
  refine hK.out _ _ ⟨(qN BK620.out 0).trans rfl,(qN BK610.out 0).trans rfl,(qN BK610.out 1).trans rfl,(qN BK610.out 2).trans rfl⟩ (fun hHeld=>?_)
  clear hK K
  refine kN (N:=some 33) ?_
  refine zH (i:=10) (N:=some 34) (bb 12 4095) ?_
  refine Ze (Qz HT_.out (by kernel_rfl)) ?_
  try go_wp2
  go_loopg [35] k (fun kq v35 w'=>∃ (x35_1 : Int),v35 = .int .i64 x35_1∧qA (trustquorumlaw12_IntersectionSound.l0 kq t621 y635 (y635.length : Int) x35_1 t616 = some r)∧qA (kq ≤ k)∧qA (Kd.N k28 28 w' w.heap.size (fun k_=>(k_ < w.heap.size∨w.heap.size ≤ k_)∧some k_≠((.slice Ao16 t616.length co16) : Value).ownBlock∧k_≠gb610∧k_≠gb620) (.slice Ao28 y635.length co28) y635)∧qA (Kd.V k28 28 w' w.heap.size (fun k_=>k_ < w.heap.size∧some k_≠((.slice Ao28 y635.length co28) : Value).ownBlock∧some k_≠((.slice Ao16 t616.length co16) : Value).ownBlock∧k_≠gb610∧k_≠gb620) (.slice A1_2 l1_2.length c1_2) l1_2)∧qA (Kd.N k58 58 w' w.heap.size (fun k_=>(k_ < w.heap.size∨w.heap.size ≤ k_)∧some k_≠((.slice Ao28 y635.length co28) : Value).ownBlock∧k_≠gb610∧k_≠gb620) (.slice Ao16 t616.length co16) t616)∧qA (w'.heap[gb610]? = some (.cells #[.int .i64 a1_0,.int .i64 a1_1,(.slice A1_2 l1_2.length c1_2)] 28 (0,0)))∧qA (w'.heap[gb620]? = some (.cells #[(.slice Ao16 t616.length co16)] 25 (0,0)))∧qA (Below w.heap.size w w'))
  case atStart=>exact ⟨(0),byae,H',⟨Nat.le_refl _⟩,⟨by (with_reducible repeat (first|apply Kd.Qq|apply Kd.Qo|apply Kd.Qs));exact Kd.vX HO637.out (fun _ hk=>⟨hk.1,⟨hk.2.1,⟨hk.2.2.1,hk.2.2.2.1⟩⟩⟩)⟩,⟨by (with_reducible repeat (first|apply Kd.Q7|apply Kd.Q8|apply Kd.Zi));exact Kd.kK HO1_2.out (fun _ hk=>⟨hk.1.1.1.1.1.1,⟨hk.2,⟨hk.1.1.1.1.2,⟨hk.1.1.1.1.1.2,hk.1.1.1.2⟩⟩⟩⟩)⟩,⟨by (with_reducible repeat (first|apply Kd.Qq|apply Kd.Qo|apply Kd.Qs));exact Kd.vX HO618.out (fun _ hk=>⟨hk.1.1.1.1.1,⟨hk.2,⟨hk.1.1.1.1.2.1,hk.1.1.1.2⟩⟩⟩)⟩,⟨byaf BK610.out⟩,⟨byaf BK620.out⟩,⟨bybq HI615.out GE610.out GE620.out⟩⟩
  case round =>
   clear H'
   obtain ⟨x35_1,rfl,HA,HK1,HO_33,HO_611002,HO_621000,BK610,BK620,HB⟩:=hrel
   cases gk with
   | zero=>exact absurd HA.out (by simp [trustquorumlaw12_IntersectionSound.l0])
   | succ k1 =>
    have H:=HA.out
    clear HA
    simp only [trustquorumlaw12_IntersectionSound.l0] at H
    by_cases c29 : x35_1 < (y635.length : Int)
    ·rw [if_pos c29] at H
     have c29b0:=decide_eq_true c29
     clear c29
     by_cases c30 : 0 ≤ x35_1
     ·rw [if_pos c30] at H
      have c30b0:=decide_eq_true c30
      clear c30
      by_cases c31 : x35_1 < (y635.length : Int)
      ·rw [if_pos c31] at H
       have c31b0:=decide_eq_true c31
       clear c31
       replace H:=Option.bind_eq_some_iff.mp H
       obtain ⟨t640,A320,H⟩:=H
       try dsimp only at H
       have A32:=qA.mk A320
       clear A320
       by_cases c33 : t640 = true
       ·subst c33
        rw [if_pos rfl] at H
        by_cases c34 : t621 = true
        ·subst c34
         rw [if_pos rfl] at H
         have H':=qA.mk H
         clear H
         have p638 : 0 ≤ (x35_1 : Int):=of_decide_eq_true byag
         have q638 : x35_1 < (y635.length : Int):=of_decide_eq_true byag
         obtain ⟨ad638,A638_2,c638_2,e638,hx638_0,hx638_1,hx638_2,hl638_2,hi638_2⟩:=at_T28 (Kd.Qj HO_33.out).2.2 x35_1 p638 q638
         cases e638
         obtain ⟨ce638,hce638,hMe638,hcc638⟩:=Kd.N_get HO_33.out z28 x35_1 p638 (by first|exact q638|exact of_decide_eq_true byag|(have e_:=(Kd.Qj HO_33.out).1;omega))
         obtain ⟨ua638_2,uc638_2,rfl,ul638_2,ge638_2⟩:=k28_openF hMe638
         have hv638_2:=hcc638 2 _ rfl
         rw [Za _ _ 2 (by omega)] at hv638_2
         replace hv638_2:=Option.some.inj (hv638_2.symm.trans hx638_2)
         injection hv638_2 with hva_ hvn_ hvc_
         rw [hva_] at ge638_2
         rw [hvc_] at ul638_2
         have HL638_2:=qA.mk (show Kd.V k28 28 _ w.heap.size _ _ ((zJ y635 x35_1).f2) from Kd.V_mk ul638_2 ge638_2)
         clear hva_ hvn_ hvc_ ge638_2 ul638_2
         clear hcc638 hce638
         have HR638_2:=qA.mk hi638_2
         have HC638_2:=qA.mk hl638_2
         clear hi638_2 hl638_2
         replace p638:=eq_true p638
         replace q638:=eq_true q638
         go_wp2_with (first|((with_reducible refine qP (N:=10) rfl ?_);refine zV (N:=10) (cs:=#[.int .i64 0,.int .i64 0,.slice none 0 0]) (t:=28) ?_;intro gb639 hg w35 hbox hb;have n_:=q_13 (Kd.uV (Kd.Zo (byba HO_33.out) gb639 (Nat.le_of_eq hg.symm)) hb) (Kd.Qp (Kd.Z4 (bycf HO_611002.out) gb639 (Nat.le_of_eq hg.symm)) hb) (Kd.uV (Kd.Zo (byba HO_621000.out) gb639 (Nat.le_of_eq hg.symm)) hb) (Kd.Qp (Kd.Z4 bych gb639 (Nat.le_of_eq hg.symm)) hb) (qH BK610.out hb) (qH BK620.out hb) (Kd.vU (byci HR638_2.out) hb) (qC (byaj GE610.out GE620.out) hb) (hbox) ((by rw [hg];exact (jX (byaj GE610.out GE620.out)) : w.heap.size ≤ gb639)) ((by rw [hg];exact (jX (byaj GE610.out GE620.out)) : w.heap.size ≤ gb639)) ((by rw [hg];exact Nat.ne_of_lt (vF BK610.out) : gb610≠gb639)) ((by rw [hg];exact Nat.ne_of_lt (vF BK620.out) : gb620≠gb639));clear HO_33 HO_611002 HO_621000 HL638_2 BK610 BK620 HR638_2 HB;obtain ⟨HO_33,HO_611002,HO_621000,HL638_2,BK610,BK620,HR638_2,HB,BK639,GW639,GE639,NB610_639,NB620_639⟩:=n_;have NB639_610:=ns NB610_639;have NB639_620:=ns NB620_639;clear hb hbox hg;have hnb36:=NB639_610.out;have hnc36:=NB610_639.out;have hnb37:=NB639_620.out;have hnc37:=NB620_639.out;obtain ⟨hcz38_0,hcz38_1,hcz38_2,hfz38_0,hfz38_1,hfz38_2⟩:=cz3 BK639.out;have hnb39:=NB620_610.out;have hnc39:=NB610_620.out;obtain ⟨hcz40_0,hfz40_0⟩:=cz1 BK620.out)|((with_reducible refine qI (f:=20) rfl ?_);refine qY (some 41) rfl rfl Try.func20 (by kernel_rfl) rfl #[.agg #[.slice Ao16 t616.length co16],.agg #[.int .i64 ((zJ y635 x35_1).f0),.int .i64 ((zJ y635 x35_1).f1),.slice A638_2 ((zJ y635 x35_1).f2).length c638_2]] rfl bycg ?_;(with_reducible refine (vT.calls k1 _ _ t616 ((zJ y635 x35_1).f0) ((zJ y635 x35_1).f1) _ _ ((zJ y635 x35_1).f2) true _ ?side1 ?side2 ?side3 ?side4 A32.out).mono ?_);(case side1=>refine (Kd.Qj (e:=58) (base:=w.heap.size) (ok:=fun k_=>(((k_ < w.heap.size∨w.heap.size ≤ k_)∧(some k_≠(.slice (some ad638) y635.length co28 : Value).ownBlock∧(k_≠gb610∧k_≠gb620)))∧k_≠gb639)) (n:=t616.length) (c:=co16) ?_).2.2;exact (by (with_reducible repeat (first|apply Kd.Qq|apply Kd.Qo|apply Kd.Qs));exact (Kd.vX (Kd.kY (p:=⟨gb639,2,none⟩) (Kd.kY (p:=⟨gb639,1,none⟩) (Kd.kY (p:=⟨gb639,0,none⟩) (Kd.vX HO_621000.out (fun k_ hk=>(⟨hk,hk.2⟩ : _∧k_≠gb639))) (fun _ hk=>hk.2) (.int .i64 ((zJ y635 x35_1).f0))) (fun _ hk=>hk.2) (.int .i64 ((zJ y635 x35_1).f1))) (fun _ hk=>hk.2) (.slice A638_2 ((zJ y635 x35_1).f2).length c638_2)) (fun _ h_=>h_.1))));(case side2=>exact bybi HO_621000.out);(case side3=>repeat (first|exact ((Kd.Zl (by (with_reducible repeat (first|apply Kd.Q7|apply Kd.Q8|apply Kd.Zi));exact (Kd.kK (Kd.Qi (p:=⟨gb639,2,none⟩) (Kd.Qi (p:=⟨gb639,1,none⟩) (Kd.Qi (p:=⟨gb639,0,none⟩) (Kd.kK HL638_2.out (fun k_ hk=>(⟨hk,hk.2⟩ : _∧k_≠gb639))) (fun _ hk=>hk.2) (.int .i64 ((zJ y635 x35_1).f0))) (fun _ hk=>hk.2) (.int .i64 ((zJ y635 x35_1).f1))) (fun _ hk=>hk.2) (.slice A638_2 ((zJ y635 x35_1).f2).length c638_2)) (fun _ h_=>h_.1)))).2.2)|(with_reducible refine Kd.C_alloc ?_ _)|(with_reducible refine Kd.C_drewN ?_ _)|(with_reducible refine Kd.C_drew ?_)));(case side4=>exact HC638_2.out);rintro e w41 ⟨rfl,hb⟩;refine ⟨_,rfl,?_⟩;have n_:=q_9 (Kd.uV (by (with_reducible repeat (first|apply Kd.Qq|apply Kd.Qo|apply Kd.Qs));exact (Kd.vX (Kd.kY (p:=⟨gb639,2,none⟩) (Kd.kY (p:=⟨gb639,1,none⟩) (Kd.kY (p:=⟨gb639,0,none⟩) (Kd.vX HO_33.out (fun k_ hk=>(⟨hk,hk.2⟩ : _∧k_≠gb639))) (fun _ hk=>hk.2) (.int .i64 ((zJ y635 x35_1).f0))) (fun _ hk=>hk.2) (.int .i64 ((zJ y635 x35_1).f1))) (fun _ hk=>hk.2) (.slice A638_2 ((zJ y635 x35_1).f2).length c638_2)) (fun _ h_=>h_.1))) hb) (Kd.Qp (by (with_reducible repeat (first|apply Kd.Q7|apply Kd.Q8|apply Kd.Zi));exact (Kd.kK (Kd.Qi (p:=⟨gb639,2,none⟩) (Kd.Qi (p:=⟨gb639,1,none⟩) (Kd.Qi (p:=⟨gb639,0,none⟩) (Kd.kK HO_611002.out (fun k_ hk=>(⟨hk,hk.2⟩ : _∧k_≠gb639))) (fun _ hk=>hk.2) (.int .i64 ((zJ y635 x35_1).f0))) (fun _ hk=>hk.2) (.int .i64 ((zJ y635 x35_1).f1))) (fun _ hk=>hk.2) (.slice A638_2 ((zJ y635 x35_1).f2).length c638_2)) (fun _ h_=>h_.1))) hb) (Kd.uV (by (with_reducible repeat (first|apply Kd.Qq|apply Kd.Qo|apply Kd.Qs));exact (Kd.vX (Kd.kY (p:=⟨gb639,2,none⟩) (Kd.kY (p:=⟨gb639,1,none⟩) (Kd.kY (p:=⟨gb639,0,none⟩) (Kd.vX HO_621000.out (fun k_ hk=>(⟨hk,hk.2⟩ : _∧k_≠gb639))) (fun _ hk=>hk.2) (.int .i64 ((zJ y635 x35_1).f0))) (fun _ hk=>hk.2) (.int .i64 ((zJ y635 x35_1).f1))) (fun _ hk=>hk.2) (.slice A638_2 ((zJ y635 x35_1).f2).length c638_2)) (fun _ h_=>h_.1))) hb) (Kd.Qp (by (with_reducible repeat (first|apply Kd.Q7|apply Kd.Q8|apply Kd.Zi));exact (Kd.kK (Kd.Qi (p:=⟨gb639,2,none⟩) (Kd.Qi (p:=⟨gb639,1,none⟩) (Kd.Qi (p:=⟨gb639,0,none⟩) (Kd.kK HL638_2.out (fun k_ hk=>(⟨hk,hk.2⟩ : _∧k_≠gb639))) (fun _ hk=>hk.2) (.int .i64 ((zJ y635 x35_1).f0))) (fun _ hk=>hk.2) (.int .i64 ((zJ y635 x35_1).f1))) (fun _ hk=>hk.2) (.slice A638_2 ((zJ y635 x35_1).f2).length c638_2)) (fun _ h_=>h_.1))) hb) (jQ (g:=gb610) (o:=.cells #[.int .i64 a1_0,.int .i64 a1_1,.slice A1_2 l1_2.length c1_2] 28 (0,0)) (byak NB610_639.out BK610.out) hb) (jQ (g:=gb620) (o:=.cells #[.slice Ao16 t616.length co16] 25 (0,0)) (byak NB620_639.out BK620.out) hb) (Kd.vU ((Kd.Zl (by (with_reducible repeat (first|apply Kd.Q7|apply Kd.Q8|apply Kd.Zi));exact (Kd.kK (Kd.Qi (p:=⟨gb639,2,none⟩) (Kd.Qi (p:=⟨gb639,1,none⟩) (Kd.Qi (p:=⟨gb639,0,none⟩) (Kd.kK HL638_2.out (fun k_ hk=>(⟨hk,hk.2⟩ : _∧k_≠gb639))) (fun _ hk=>hk.2) (.int .i64 ((zJ y635 x35_1).f0))) (fun _ hk=>hk.2) (.int .i64 ((zJ y635 x35_1).f1))) (fun _ hk=>hk.2) (.slice A638_2 ((zJ y635 x35_1).f2).length c638_2)) (fun _ h_=>h_.1)))).2.2) hb) (jQ (g:=gb639) (o:=.cells #[.int .i64 ((zJ y635 x35_1).f0),.int .i64 ((zJ y635 x35_1).f1),.slice A638_2 ((zJ y635 x35_1).f2).length c638_2] 28 (0,0)) (by (with_reducible repeat (first|refine qF ?_ _|refine qG ?_|refine qE ?_ _));refine qO (cs:=#[.int .i64 ((zJ y635 x35_1).f0),.int .i64 ((zJ y635 x35_1).f1),.slice none 0 0]) ?_ 2 _ rfl;(with_reducible repeat (first|refine qF ?_ _|refine qG ?_|refine qE ?_ _));refine qO (cs:=#[.int .i64 ((zJ y635 x35_1).f0),.int .i64 0,.slice none 0 0]) ?_ 1 _ rfl;(with_reducible repeat (first|refine qF ?_ _|refine qG ?_|refine qE ?_ _));refine qO (cs:=#[.int .i64 0,.int .i64 0,.slice none 0 0]) ?_ 0 _ rfl;(with_reducible repeat (first|refine qF ?_ _|refine qG ?_|refine qE ?_ _));exact BK639.out) hb) (qC (bybf GE610.out GE620.out GE639.out) hb);clear HO_33 HO_611002 HO_621000 HL638_2 BK610 BK620 HR638_2 BK639 HB;obtain ⟨HO_33,HO_611002,HO_621000,HL638_2,BK610,BK620,HR638_2,BK639,HB⟩:=n_;clear hb))
         go_roundg k1
         case measure=>have:=HK1.out;omega
         case rel=>exact ⟨(wrap64 (x35_1 + 1)),byae,H',⟨byai⟩,⟨bycj HO_33.out⟩,⟨by (with_reducible repeat (first|apply Kd.Q7|apply Kd.Q8|apply Kd.Zi));exact Kd.kK HO_611002.out (fun _ hk=>⟨hk.1.1,⟨hk.1.2.1,⟨hk.1.2.2.1,⟨hk.1.2.2.2.1,hk.1.2.2.2.2⟩⟩⟩⟩)⟩,⟨bycj HO_621000.out⟩,⟨byaf BK610.out⟩,⟨byaf BK620.out⟩,⟨bybf GE610.out GE620.out GE639.out⟩⟩
        ·replace c34:=Bool.eq_false_iff.mpr c34
         subst c34
         rw [if_neg (show ¬ (false = true) by decide)] at H
         obtain rfl:=Option.some.inj H
         have p638 : 0 ≤ (x35_1 : Int):=of_decide_eq_true byag
         have q638 : x35_1 < (y635.length : Int):=of_decide_eq_true byag
         obtain ⟨ad638,A638_2,c638_2,e638,hx638_0,hx638_1,hx638_2,hl638_2,hi638_2⟩:=at_T28 (Kd.Qj HO_33.out).2.2 x35_1 p638 q638
         cases e638
         obtain ⟨ce638,hce638,hMe638,hcc638⟩:=Kd.N_get HO_33.out z28 x35_1 p638 (by first|exact q638|exact of_decide_eq_true byag|(have e_:=(Kd.Qj HO_33.out).1;omega))
         obtain ⟨ua638_2,uc638_2,rfl,ul638_2,ge638_2⟩:=k28_openF hMe638
         have hv638_2:=hcc638 2 _ rfl
         rw [Za _ _ 2 (by omega)] at hv638_2
         replace hv638_2:=Option.some.inj (hv638_2.symm.trans hx638_2)
         injection hv638_2 with hva_ hvn_ hvc_
         rw [hva_] at ge638_2
         rw [hvc_] at ul638_2
         have HL638_2:=qA.mk (show Kd.V k28 28 _ w.heap.size _ _ ((zJ y635 x35_1).f2) from Kd.V_mk ul638_2 ge638_2)
         clear hva_ hvn_ hvc_ ge638_2 ul638_2
         clear hcc638 hce638
         have HR638_2:=qA.mk hi638_2
         have HC638_2:=qA.mk hl638_2
         clear hi638_2 hl638_2
         replace p638:=eq_true p638
         replace q638:=eq_true q638
         go_wp2_with (first|((with_reducible refine qP (N:=10) rfl ?_);refine zV (N:=10) (cs:=#[.int .i64 0,.int .i64 0,.slice none 0 0]) (t:=28) ?_;intro gb639 hg w42 hbox hb;have n_:=q_13 (Kd.uV (Kd.Zo (byba HO_33.out) gb639 (Nat.le_of_eq hg.symm)) hb) (Kd.Qp (Kd.Z4 (bycf HO_611002.out) gb639 (Nat.le_of_eq hg.symm)) hb) (Kd.uV (Kd.Zo (byba HO_621000.out) gb639 (Nat.le_of_eq hg.symm)) hb) (Kd.Qp (Kd.Z4 bych gb639 (Nat.le_of_eq hg.symm)) hb) (qH BK610.out hb) (qH BK620.out hb) (Kd.vU (byci HR638_2.out) hb) (qC (byaj GE610.out GE620.out) hb) (hbox) ((by rw [hg];exact (jX (byaj GE610.out GE620.out)) : w.heap.size ≤ gb639)) ((by rw [hg];exact (jX (byaj GE610.out GE620.out)) : w.heap.size ≤ gb639)) ((by rw [hg];exact Nat.ne_of_lt (vF BK610.out) : gb610≠gb639)) ((by rw [hg];exact Nat.ne_of_lt (vF BK620.out) : gb620≠gb639));clear HO_33 HO_611002 HO_621000 HL638_2 BK610 BK620 HR638_2 HB;obtain ⟨HO_33,HO_611002,HO_621000,HL638_2,BK610,BK620,HR638_2,HB,BK639,GW639,GE639,NB610_639,NB620_639⟩:=n_;have NB639_610:=ns NB610_639;have NB639_620:=ns NB620_639;clear hb hbox hg;have hnb43:=NB639_610.out;have hnc43:=NB610_639.out;have hnb44:=NB639_620.out;have hnc44:=NB620_639.out;obtain ⟨hcz45_0,hcz45_1,hcz45_2,hfz45_0,hfz45_1,hfz45_2⟩:=cz3 BK639.out;have hnb46:=NB620_610.out;have hnc46:=NB610_620.out;obtain ⟨hcz47_0,hfz47_0⟩:=cz1 BK620.out)|((with_reducible refine qI (f:=20) rfl ?_);refine qY (some 41) rfl rfl Try.func20 (by kernel_rfl) rfl #[.agg #[.slice Ao16 t616.length co16],.agg #[.int .i64 ((zJ y635 x35_1).f0),.int .i64 ((zJ y635 x35_1).f1),.slice A638_2 ((zJ y635 x35_1).f2).length c638_2]] rfl bycg ?_;(with_reducible refine (vT.calls k1 _ _ t616 ((zJ y635 x35_1).f0) ((zJ y635 x35_1).f1) _ _ ((zJ y635 x35_1).f2) true _ ?side1 ?side2 ?side3 ?side4 A32.out).mono ?_);(case side1=>refine (Kd.Qj (e:=58) (base:=w.heap.size) (ok:=fun k_=>(((k_ < w.heap.size∨w.heap.size ≤ k_)∧(some k_≠(.slice (some ad638) y635.length co28 : Value).ownBlock∧(k_≠gb610∧k_≠gb620)))∧k_≠gb639)) (n:=t616.length) (c:=co16) ?_).2.2;exact (by (with_reducible repeat (first|apply Kd.Qq|apply Kd.Qo|apply Kd.Qs));exact (Kd.vX (Kd.kY (p:=⟨gb639,2,none⟩) (Kd.kY (p:=⟨gb639,1,none⟩) (Kd.kY (p:=⟨gb639,0,none⟩) (Kd.vX HO_621000.out (fun k_ hk=>(⟨hk,hk.2⟩ : _∧k_≠gb639))) (fun _ hk=>hk.2) (.int .i64 ((zJ y635 x35_1).f0))) (fun _ hk=>hk.2) (.int .i64 ((zJ y635 x35_1).f1))) (fun _ hk=>hk.2) (.slice A638_2 ((zJ y635 x35_1).f2).length c638_2)) (fun _ h_=>h_.1))));(case side2=>exact bybi HO_621000.out);(case side3=>repeat (first|exact ((Kd.Zl (by (with_reducible repeat (first|apply Kd.Q7|apply Kd.Q8|apply Kd.Zi));exact (Kd.kK (Kd.Qi (p:=⟨gb639,2,none⟩) (Kd.Qi (p:=⟨gb639,1,none⟩) (Kd.Qi (p:=⟨gb639,0,none⟩) (Kd.kK HL638_2.out (fun k_ hk=>(⟨hk,hk.2⟩ : _∧k_≠gb639))) (fun _ hk=>hk.2) (.int .i64 ((zJ y635 x35_1).f0))) (fun _ hk=>hk.2) (.int .i64 ((zJ y635 x35_1).f1))) (fun _ hk=>hk.2) (.slice A638_2 ((zJ y635 x35_1).f2).length c638_2)) (fun _ h_=>h_.1)))).2.2)|(with_reducible refine Kd.C_alloc ?_ _)|(with_reducible refine Kd.C_drewN ?_ _)|(with_reducible refine Kd.C_drew ?_)));(case side4=>exact HC638_2.out);rintro e w48 ⟨rfl,hb⟩;refine ⟨_,rfl,?_⟩;have n_:=q_9 (Kd.uV (by (with_reducible repeat (first|apply Kd.Qq|apply Kd.Qo|apply Kd.Qs));exact (Kd.vX (Kd.kY (p:=⟨gb639,2,none⟩) (Kd.kY (p:=⟨gb639,1,none⟩) (Kd.kY (p:=⟨gb639,0,none⟩) (Kd.vX HO_33.out (fun k_ hk=>(⟨hk,hk.2⟩ : _∧k_≠gb639))) (fun _ hk=>hk.2) (.int .i64 ((zJ y635 x35_1).f0))) (fun _ hk=>hk.2) (.int .i64 ((zJ y635 x35_1).f1))) (fun _ hk=>hk.2) (.slice A638_2 ((zJ y635 x35_1).f2).length c638_2)) (fun _ h_=>h_.1))) hb) (Kd.Qp (by (with_reducible repeat (first|apply Kd.Q7|apply Kd.Q8|apply Kd.Zi));exact (Kd.kK (Kd.Qi (p:=⟨gb639,2,none⟩) (Kd.Qi (p:=⟨gb639,1,none⟩) (Kd.Qi (p:=⟨gb639,0,none⟩) (Kd.kK HO_611002.out (fun k_ hk=>(⟨hk,hk.2⟩ : _∧k_≠gb639))) (fun _ hk=>hk.2) (.int .i64 ((zJ y635 x35_1).f0))) (fun _ hk=>hk.2) (.int .i64 ((zJ y635 x35_1).f1))) (fun _ hk=>hk.2) (.slice A638_2 ((zJ y635 x35_1).f2).length c638_2)) (fun _ h_=>h_.1))) hb) (Kd.uV (by (with_reducible repeat (first|apply Kd.Qq|apply Kd.Qo|apply Kd.Qs));exact (Kd.vX (Kd.kY (p:=⟨gb639,2,none⟩) (Kd.kY (p:=⟨gb639,1,none⟩) (Kd.kY (p:=⟨gb639,0,none⟩) (Kd.vX HO_621000.out (fun k_ hk=>(⟨hk,hk.2⟩ : _∧k_≠gb639))) (fun _ hk=>hk.2) (.int .i64 ((zJ y635 x35_1).f0))) (fun _ hk=>hk.2) (.int .i64 ((zJ y635 x35_1).f1))) (fun _ hk=>hk.2) (.slice A638_2 ((zJ y635 x35_1).f2).length c638_2)) (fun _ h_=>h_.1))) hb) (Kd.Qp (by (with_reducible repeat (first|apply Kd.Q7|apply Kd.Q8|apply Kd.Zi));exact (Kd.kK (Kd.Qi (p:=⟨gb639,2,none⟩) (Kd.Qi (p:=⟨gb639,1,none⟩) (Kd.Qi (p:=⟨gb639,0,none⟩) (Kd.kK HL638_2.out (fun k_ hk=>(⟨hk,hk.2⟩ : _∧k_≠gb639))) (fun _ hk=>hk.2) (.int .i64 ((zJ y635 x35_1).f0))) (fun _ hk=>hk.2) (.int .i64 ((zJ y635 x35_1).f1))) (fun _ hk=>hk.2) (.slice A638_2 ((zJ y635 x35_1).f2).length c638_2)) (fun _ h_=>h_.1))) hb) (jQ (g:=gb610) (o:=.cells #[.int .i64 a1_0,.int .i64 a1_1,.slice A1_2 l1_2.length c1_2] 28 (0,0)) (byak NB610_639.out BK610.out) hb) (jQ (g:=gb620) (o:=.cells #[.slice Ao16 t616.length co16] 25 (0,0)) (byak NB620_639.out BK620.out) hb) (Kd.vU ((Kd.Zl (by (with_reducible repeat (first|apply Kd.Q7|apply Kd.Q8|apply Kd.Zi));exact (Kd.kK (Kd.Qi (p:=⟨gb639,2,none⟩) (Kd.Qi (p:=⟨gb639,1,none⟩) (Kd.Qi (p:=⟨gb639,0,none⟩) (Kd.kK HL638_2.out (fun k_ hk=>(⟨hk,hk.2⟩ : _∧k_≠gb639))) (fun _ hk=>hk.2) (.int .i64 ((zJ y635 x35_1).f0))) (fun _ hk=>hk.2) (.int .i64 ((zJ y635 x35_1).f1))) (fun _ hk=>hk.2) (.slice A638_2 ((zJ y635 x35_1).f2).length c638_2)) (fun _ h_=>h_.1)))).2.2) hb) (jQ (g:=gb639) (o:=.cells #[.int .i64 ((zJ y635 x35_1).f0),.int .i64 ((zJ y635 x35_1).f1),.slice A638_2 ((zJ y635 x35_1).f2).length c638_2] 28 (0,0)) (by (with_reducible repeat (first|refine qF ?_ _|refine qG ?_|refine qE ?_ _));refine qO (cs:=#[.int .i64 ((zJ y635 x35_1).f0),.int .i64 ((zJ y635 x35_1).f1),.slice none 0 0]) ?_ 2 _ rfl;(with_reducible repeat (first|refine qF ?_ _|refine qG ?_|refine qE ?_ _));refine qO (cs:=#[.int .i64 ((zJ y635 x35_1).f0),.int .i64 0,.slice none 0 0]) ?_ 1 _ rfl;(with_reducible repeat (first|refine qF ?_ _|refine qG ?_|refine qE ?_ _));refine qO (cs:=#[.int .i64 0,.int .i64 0,.slice none 0 0]) ?_ 0 _ rfl;(with_reducible repeat (first|refine qF ?_ _|refine qG ?_|refine qE ?_ _));exact BK639.out) hb) (qC (bybf GE610.out GE620.out GE639.out) hb);clear HO_33 HO_611002 HO_621000 HL638_2 BK610 BK620 HR638_2 BK639 HB;obtain ⟨HO_33,HO_611002,HO_621000,HL638_2,BK610,BK620,HR638_2,BK639,HB⟩:=n_;clear hb))
         go_ret
         exact ⟨byac,bybf GE610.out GE620.out GE639.out⟩
       ·replace c33:=Bool.eq_false_iff.mpr c33
        subst c33
        rw [if_neg (show ¬ (false = true) by decide)] at H
        have H':=qA.mk H
        clear H
        have p638 : 0 ≤ (x35_1 : Int):=of_decide_eq_true byag
        have q638 : x35_1 < (y635.length : Int):=of_decide_eq_true byag
        obtain ⟨ad638,A638_2,c638_2,e638,hx638_0,hx638_1,hx638_2,hl638_2,hi638_2⟩:=at_T28 (Kd.Qj HO_33.out).2.2 x35_1 p638 q638
        cases e638
        obtain ⟨ce638,hce638,hMe638,hcc638⟩:=Kd.N_get HO_33.out z28 x35_1 p638 (by first|exact q638|exact of_decide_eq_true byag|(have e_:=(Kd.Qj HO_33.out).1;omega))
        obtain ⟨ua638_2,uc638_2,rfl,ul638_2,ge638_2⟩:=k28_openF hMe638
        have hv638_2:=hcc638 2 _ rfl
        rw [Za _ _ 2 (by omega)] at hv638_2
        replace hv638_2:=Option.some.inj (hv638_2.symm.trans hx638_2)
        injection hv638_2 with hva_ hvn_ hvc_
        rw [hva_] at ge638_2
        rw [hvc_] at ul638_2
        have HL638_2:=qA.mk (show Kd.V k28 28 _ w.heap.size _ _ ((zJ y635 x35_1).f2) from Kd.V_mk ul638_2 ge638_2)
        clear hva_ hvn_ hvc_ ge638_2 ul638_2
        clear hcc638 hce638
        have HR638_2:=qA.mk hi638_2
        have HC638_2:=qA.mk hl638_2
        clear hi638_2 hl638_2
        replace p638:=eq_true p638
        replace q638:=eq_true q638
        go_wp2_with (first|((with_reducible refine qP (N:=10) rfl ?_);refine zV (N:=10) (cs:=#[.int .i64 0,.int .i64 0,.slice none 0 0]) (t:=28) ?_;intro gb639 hg w49 hbox hb;have n_:=q_13 (Kd.uV (Kd.Zo (byba HO_33.out) gb639 (Nat.le_of_eq hg.symm)) hb) (Kd.Qp (Kd.Z4 (bycf HO_611002.out) gb639 (Nat.le_of_eq hg.symm)) hb) (Kd.uV (Kd.Zo (byba HO_621000.out) gb639 (Nat.le_of_eq hg.symm)) hb) (Kd.Qp (Kd.Z4 bych gb639 (Nat.le_of_eq hg.symm)) hb) (qH BK610.out hb) (qH BK620.out hb) (Kd.vU (byci HR638_2.out) hb) (qC (byaj GE610.out GE620.out) hb) (hbox) ((by rw [hg];exact (jX (byaj GE610.out GE620.out)) : w.heap.size ≤ gb639)) ((by rw [hg];exact (jX (byaj GE610.out GE620.out)) : w.heap.size ≤ gb639)) ((by rw [hg];exact Nat.ne_of_lt (vF BK610.out) : gb610≠gb639)) ((by rw [hg];exact Nat.ne_of_lt (vF BK620.out) : gb620≠gb639));clear HO_33 HO_611002 HO_621000 HL638_2 BK610 BK620 HR638_2 HB;obtain ⟨HO_33,HO_611002,HO_621000,HL638_2,BK610,BK620,HR638_2,HB,BK639,GW639,GE639,NB610_639,NB620_639⟩:=n_;have NB639_610:=ns NB610_639;have NB639_620:=ns NB620_639;clear hb hbox hg;have hnb50:=NB639_610.out;have hnc50:=NB610_639.out;have hnb51:=NB639_620.out;have hnc51:=NB620_639.out;obtain ⟨hcz52_0,hcz52_1,hcz52_2,hfz52_0,hfz52_1,hfz52_2⟩:=cz3 BK639.out;have hnb53:=NB620_610.out;have hnc53:=NB610_620.out;obtain ⟨hcz54_0,hfz54_0⟩:=cz1 BK620.out)|((with_reducible refine qI (f:=20) rfl ?_);refine qY (some 41) rfl rfl Try.func20 (by kernel_rfl) rfl #[.agg #[.slice Ao16 t616.length co16],.agg #[.int .i64 ((zJ y635 x35_1).f0),.int .i64 ((zJ y635 x35_1).f1),.slice A638_2 ((zJ y635 x35_1).f2).length c638_2]] rfl bycg ?_;(with_reducible refine (vT.calls k1 _ _ t616 ((zJ y635 x35_1).f0) ((zJ y635 x35_1).f1) _ _ ((zJ y635 x35_1).f2) false _ ?side1 ?side2 ?side3 ?side4 A32.out).mono ?_);(case side1=>refine (Kd.Qj (e:=58) (base:=w.heap.size) (ok:=fun k_=>(((k_ < w.heap.size∨w.heap.size ≤ k_)∧(some k_≠(.slice (some ad638) y635.length co28 : Value).ownBlock∧(k_≠gb610∧k_≠gb620)))∧k_≠gb639)) (n:=t616.length) (c:=co16) ?_).2.2;exact (by (with_reducible repeat (first|apply Kd.Qq|apply Kd.Qo|apply Kd.Qs));exact (Kd.vX (Kd.kY (p:=⟨gb639,2,none⟩) (Kd.kY (p:=⟨gb639,1,none⟩) (Kd.kY (p:=⟨gb639,0,none⟩) (Kd.vX HO_621000.out (fun k_ hk=>(⟨hk,hk.2⟩ : _∧k_≠gb639))) (fun _ hk=>hk.2) (.int .i64 ((zJ y635 x35_1).f0))) (fun _ hk=>hk.2) (.int .i64 ((zJ y635 x35_1).f1))) (fun _ hk=>hk.2) (.slice A638_2 ((zJ y635 x35_1).f2).length c638_2)) (fun _ h_=>h_.1))));(case side2=>exact bybi HO_621000.out);(case side3=>repeat (first|exact ((Kd.Zl (by (with_reducible repeat (first|apply Kd.Q7|apply Kd.Q8|apply Kd.Zi));exact (Kd.kK (Kd.Qi (p:=⟨gb639,2,none⟩) (Kd.Qi (p:=⟨gb639,1,none⟩) (Kd.Qi (p:=⟨gb639,0,none⟩) (Kd.kK HL638_2.out (fun k_ hk=>(⟨hk,hk.2⟩ : _∧k_≠gb639))) (fun _ hk=>hk.2) (.int .i64 ((zJ y635 x35_1).f0))) (fun _ hk=>hk.2) (.int .i64 ((zJ y635 x35_1).f1))) (fun _ hk=>hk.2) (.slice A638_2 ((zJ y635 x35_1).f2).length c638_2)) (fun _ h_=>h_.1)))).2.2)|(with_reducible refine Kd.C_alloc ?_ _)|(with_reducible refine Kd.C_drewN ?_ _)|(with_reducible refine Kd.C_drew ?_)));(case side4=>exact HC638_2.out);rintro e w55 ⟨rfl,hb⟩;refine ⟨_,rfl,?_⟩;have n_:=q_9 (Kd.uV (by (with_reducible repeat (first|apply Kd.Qq|apply Kd.Qo|apply Kd.Qs));exact (Kd.vX (Kd.kY (p:=⟨gb639,2,none⟩) (Kd.kY (p:=⟨gb639,1,none⟩) (Kd.kY (p:=⟨gb639,0,none⟩) (Kd.vX HO_33.out (fun k_ hk=>(⟨hk,hk.2⟩ : _∧k_≠gb639))) (fun _ hk=>hk.2) (.int .i64 ((zJ y635 x35_1).f0))) (fun _ hk=>hk.2) (.int .i64 ((zJ y635 x35_1).f1))) (fun _ hk=>hk.2) (.slice A638_2 ((zJ y635 x35_1).f2).length c638_2)) (fun _ h_=>h_.1))) hb) (Kd.Qp (by (with_reducible repeat (first|apply Kd.Q7|apply Kd.Q8|apply Kd.Zi));exact (Kd.kK (Kd.Qi (p:=⟨gb639,2,none⟩) (Kd.Qi (p:=⟨gb639,1,none⟩) (Kd.Qi (p:=⟨gb639,0,none⟩) (Kd.kK HO_611002.out (fun k_ hk=>(⟨hk,hk.2⟩ : _∧k_≠gb639))) (fun _ hk=>hk.2) (.int .i64 ((zJ y635 x35_1).f0))) (fun _ hk=>hk.2) (.int .i64 ((zJ y635 x35_1).f1))) (fun _ hk=>hk.2) (.slice A638_2 ((zJ y635 x35_1).f2).length c638_2)) (fun _ h_=>h_.1))) hb) (Kd.uV (by (with_reducible repeat (first|apply Kd.Qq|apply Kd.Qo|apply Kd.Qs));exact (Kd.vX (Kd.kY (p:=⟨gb639,2,none⟩) (Kd.kY (p:=⟨gb639,1,none⟩) (Kd.kY (p:=⟨gb639,0,none⟩) (Kd.vX HO_621000.out (fun k_ hk=>(⟨hk,hk.2⟩ : _∧k_≠gb639))) (fun _ hk=>hk.2) (.int .i64 ((zJ y635 x35_1).f0))) (fun _ hk=>hk.2) (.int .i64 ((zJ y635 x35_1).f1))) (fun _ hk=>hk.2) (.slice A638_2 ((zJ y635 x35_1).f2).length c638_2)) (fun _ h_=>h_.1))) hb) (Kd.Qp (by (with_reducible repeat (first|apply Kd.Q7|apply Kd.Q8|apply Kd.Zi));exact (Kd.kK (Kd.Qi (p:=⟨gb639,2,none⟩) (Kd.Qi (p:=⟨gb639,1,none⟩) (Kd.Qi (p:=⟨gb639,0,none⟩) (Kd.kK HL638_2.out (fun k_ hk=>(⟨hk,hk.2⟩ : _∧k_≠gb639))) (fun _ hk=>hk.2) (.int .i64 ((zJ y635 x35_1).f0))) (fun _ hk=>hk.2) (.int .i64 ((zJ y635 x35_1).f1))) (fun _ hk=>hk.2) (.slice A638_2 ((zJ y635 x35_1).f2).length c638_2)) (fun _ h_=>h_.1))) hb) (jQ (g:=gb610) (o:=.cells #[.int .i64 a1_0,.int .i64 a1_1,.slice A1_2 l1_2.length c1_2] 28 (0,0)) (byak NB610_639.out BK610.out) hb) (jQ (g:=gb620) (o:=.cells #[.slice Ao16 t616.length co16] 25 (0,0)) (byak NB620_639.out BK620.out) hb) (Kd.vU ((Kd.Zl (by (with_reducible repeat (first|apply Kd.Q7|apply Kd.Q8|apply Kd.Zi));exact (Kd.kK (Kd.Qi (p:=⟨gb639,2,none⟩) (Kd.Qi (p:=⟨gb639,1,none⟩) (Kd.Qi (p:=⟨gb639,0,none⟩) (Kd.kK HL638_2.out (fun k_ hk=>(⟨hk,hk.2⟩ : _∧k_≠gb639))) (fun _ hk=>hk.2) (.int .i64 ((zJ y635 x35_1).f0))) (fun _ hk=>hk.2) (.int .i64 ((zJ y635 x35_1).f1))) (fun _ hk=>hk.2) (.slice A638_2 ((zJ y635 x35_1).f2).length c638_2)) (fun _ h_=>h_.1)))).2.2) hb) (jQ (g:=gb639) (o:=.cells #[.int .i64 ((zJ y635 x35_1).f0),.int .i64 ((zJ y635 x35_1).f1),.slice A638_2 ((zJ y635 x35_1).f2).length c638_2] 28 (0,0)) (by (with_reducible repeat (first|refine qF ?_ _|refine qG ?_|refine qE ?_ _));refine qO (cs:=#[.int .i64 ((zJ y635 x35_1).f0),.int .i64 ((zJ y635 x35_1).f1),.slice none 0 0]) ?_ 2 _ rfl;(with_reducible repeat (first|refine qF ?_ _|refine qG ?_|refine qE ?_ _));refine qO (cs:=#[.int .i64 ((zJ y635 x35_1).f0),.int .i64 0,.slice none 0 0]) ?_ 1 _ rfl;(with_reducible repeat (first|refine qF ?_ _|refine qG ?_|refine qE ?_ _));refine qO (cs:=#[.int .i64 0,.int .i64 0,.slice none 0 0]) ?_ 0 _ rfl;(with_reducible repeat (first|refine qF ?_ _|refine qG ?_|refine qE ?_ _));exact BK639.out) hb) (qC (bybf GE610.out GE620.out GE639.out) hb);clear HO_33 HO_611002 HO_621000 HL638_2 BK610 BK620 HR638_2 BK639 HB;obtain ⟨HO_33,HO_611002,HO_621000,HL638_2,BK610,BK620,HR638_2,BK639,HB⟩:=n_;clear hb))
        go_roundg k1
        case measure=>have:=HK1.out;omega
        case rel=>exact ⟨(wrap64 (x35_1 + 1)),byae,H',⟨byai⟩,⟨bycj HO_33.out⟩,⟨by (with_reducible repeat (first|apply Kd.Q7|apply Kd.Q8|apply Kd.Zi));exact Kd.kK HO_611002.out (fun _ hk=>⟨hk.1.1,⟨hk.1.2.1,⟨hk.1.2.2.1,⟨hk.1.2.2.2.1,hk.1.2.2.2.2⟩⟩⟩⟩)⟩,⟨bycj HO_621000.out⟩,⟨byaf BK610.out⟩,⟨byaf BK620.out⟩,⟨bybf GE610.out GE620.out GE639.out⟩⟩
      ·rw [if_neg c31] at H
       exact absurd H (by simp)
     ·rw [if_neg c30] at H
      exact absurd H (by simp)
    ·rw [if_neg c29] at H
     have c29b0:=decide_eq_false c29
     clear c29
     replace H:=Option.bind_eq_some_iff.mp H
     obtain ⟨t641,A560,H⟩:=H
     try dsimp only at H
     have A56:=qA.mk A560
     clear A560
     obtain rfl:=Option.some.inj H
     go_wp2_with (first|((with_reducible refine qI (f:=10) rfl ?_);refine qY (some 47) rfl rfl Try.func10 (by kernel_rfl) rfl #[] rfl bycg ?_;(with_reducible refine (zM.calls k1  t641 _ A56.out).mono ?_);rintro e w57 ⟨rfl,hb⟩;refine ⟨_,rfl,?_⟩;have n_:=q_6 (Kd.uV (byba HO_33.out) hb) (Kd.Qp (bycf HO_611002.out) hb) (Kd.uV (byba HO_621000.out) hb) (qH BK610.out hb) (qH BK620.out hb) (qC (byaj GE610.out GE620.out) hb);clear HO_33 HO_611002 HO_621000 BK610 BK620 HB;obtain ⟨HO_33,HO_611002,HO_621000,BK610,BK620,HB⟩:=n_;clear hb))
     go_ret
     exact ⟨byac,byaj GE610.out GE620.out⟩
 ·replace c4:=Bool.eq_false_iff.mpr c4
  subst c4
  rw [if_neg (show ¬ (false = true) by decide)] at H
  replace H:=Option.bind_eq_some_iff.mp H
  obtain ⟨t612,A580,H⟩:=H
  try dsimp only at H
  have A58:=qA.mk A580
  clear A580
  obtain rfl:=Option.some.inj H
  go_enter Try.func6,Try.ntmps6
  go_wp2_with (first|((with_reducible refine qP (N:=3) rfl ?_);refine zV (N:=3) (cs:=#[.int .i64 a1_0,.int .i64 a1_1,.slice A1_2 l1_2.length c1_2]) (t:=28) ?_;intro gb610 hg w59 hbox hb;have n_:=q_5 (Kd.Qp (Kd.Z4 (bycf HO1_2.out) gb610 (Nat.le_of_eq hg.symm)) hb) (qC byab hb) (hbox) ((byck : w.heap.size ≤ gb610)) ((byck : w.heap.size ≤ gb610));clear HO1_2 HB;obtain ⟨HO1_2,HB,BK610,GW610,GE610⟩:=n_;clear hb hbox hg;obtain ⟨hcz60_0,hcz60_1,hcz60_2,hfz60_0,hfz60_1,hfz60_2⟩:=cz3 BK610.out)|((with_reducible refine qI (f:=9) rfl ?_);refine qY (some 12) rfl rfl Try.func9 (by kernel_rfl) rfl #[.agg #[.int .i64 a1_0,.int .i64 a1_1,.slice A1_2 l1_2.length c1_2]] rfl bycg ?_;(with_reducible refine (uI.calls k a1_0 a1_1 _ _ l1_2 false _ ?side1 ?side2 A3.out).mono ?_);(case side1=>repeat (first|exact (Kd.Zl HO1_2.out).2.2|(with_reducible refine Kd.C_alloc ?_ _)|(with_reducible refine Kd.C_drewN ?_ _)|(with_reducible refine Kd.C_drew ?_)));(case side2=>exact (Kd.Zl HO1_2.out).2.1);rintro e w61 ⟨rfl,hb⟩;refine ⟨_,rfl,?_⟩;have n_:=q_3 (Kd.Qp (bycf HO1_2.out) hb) (qH BK610.out hb) (qC (byad GE610.out) hb);clear HO1_2 BK610 HB;obtain ⟨HO1_2,BK610,HB⟩:=n_;clear hb)|((with_reducible refine qI (f:=10) rfl ?_);refine qY (some 14) rfl rfl Try.func10 (by kernel_rfl) rfl #[] rfl bycg ?_;(with_reducible refine (zM.calls k  t612 _ A58.out).mono ?_);rintro e w62 ⟨rfl,hb⟩;refine ⟨_,rfl,?_⟩;have n_:=q_3 (Kd.Qp (bycf HO1_2.out) hb) (qH BK610.out hb) (qC (byad GE610.out) hb);clear HO1_2 BK610 HB;obtain ⟨HO1_2,BK610,HB⟩:=n_;clear hb))
  go_ret
  exact ⟨byac,byad GE610.out⟩
def trustquorumlaw12_IntersectionSound.Pure : Prop:=∀ (l0 : List Int) (x : S28),l0.length ≤ maxLen→l0.length * 8 ≤ 140737488351232→(∀ y ∈ l0,(Lit.int .i64 y).wf = true)→∃ k,trustquorumlaw12_IntersectionSound.f k l0 x.f0 x.f1 x.f2 = some true
theorem trustquorumlaw12_IntersectionSound.walk (hh : Kd.Heap k28) (P : trustquorumlaw12_IntersectionSound.Pure) (a0 : Option Addr) (len0 cap0 : Nat) (z0 : List Int) (x : S28) (A : Option Addr) (c : Nat) (w : World) (w0 : (a0 = none∧len0 = 0∧cap0 = 0∧z0 = [])∨∃ x,a0 = some x∧len0 ≤ cap0∧cap0 ≤ maxLen∧z0.length = cap0∧(∀ i,i < z0.length→w.cell? (x.add i) = some (.int .i64 (z0.getD i 0)))∧∀ n ∈ z0,(Lit.int .i64 n).wf = true) (y0 : len0 * 8 ≤ 140737488351232) (hx : x.f2.length ≤ c) (hC : Kd.C k28 w A x.f2.length x.f2) :
  Calls Try.prog 6 #[.slice a0 len0 cap0,.agg #[.int .i64 x.f0,.int .i64 x.f1,.slice A x.f2.length c]] w fun e w'=>e = .returned (.bool true)∧Below w.heap.size w w':=by
 obtain ⟨l0,rfl,hr0,hm0,hw0,hc0⟩:=Qa.ofRowC w0
 obtain ⟨k,h⟩:=P l0 x hm0 y0 hw0
 refine (trustquorumlaw12_IntersectionSound.calls k _ _ l0 x.f0 x.f1 A c x.f2 true w (Kd.C_of_reads (d:=(0 : Int)) (h1:=fun _=>rfl) hr0) hc0 (Kd.V_mk hx (Kd.C_F hh hC)) h).mono ?_
 rintro e w' ⟨rfl,hd⟩
 exact ⟨rfl,hd⟩
end Go.Proofs.Ytkkbdimegpdbgaa.P
