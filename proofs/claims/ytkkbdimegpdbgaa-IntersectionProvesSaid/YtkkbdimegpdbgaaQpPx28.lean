/- Functions of the program as Lean functions, and the walks that show that the calls answer so; written by a program of this session (a changed print) and by hand. -/
import Derived.Test.YtkkbdimegpdbgaaQpPx0
import Derived.Test.YtkkbdimegpdbgaaQpPx7
import Derived.Test.YtkkbdimegpdbgaaQpPx9
import Derived.Test.YtkkbdimegpdbgaaQpPx10
import Derived.Test.YtkkbdimegpdbgaaQpPx11
import Derived.Test.YtkkbdimegpdbgaaQpPx16
import Derived.Test.YtkkbdimegpdbgaaQpPx23
import Derived.Test.YtkkbdimegpdbgaaQpPx25
import Derived.Test.YtkkbdimegpdbgaaQpPx27
namespace Go.Proofs.Ytkkbdimegpdbgaa.P
open Go.RowKit Go.Proofs.YtkkbdimegpdbgaaW.PrintWords Go.Proofs.YtkkbdimegpdbgaaW.PrintLast Go.Proofs.YtkkbdimegpdbgaaW.PrintMore
attribute [local go_sem] kK kM Qb Qc uV uU kL kN
set_option linter.unusedVariables false
set_option linter.unusedSimpArgs false
def trustquorumlaw12_IntersectionProves.f (k : Nat) (l0 : List Int) : Option (Bool):=(kU.f l0).bind fun bt678=>((zW.f k bt678.1 bt678.2 9).bind fun bt681=>((intersection_Prove.f k bt681.1).bind fun bt686=>((kF.f k bt681.1).bind fun bt693=>(if bt693.2 = 0 then (if bt693.1 = true then (if bt686.2.2.2 = 0 then ((kS.f k bt681.1 bt686.1 bt686.2.1 bt686.2.2.1).bind fun t710=>(if t710 = true then ((vM.f k bt681.1 bt686.1 bt686.2.1 bt686.2.2.1).bind fun t711=>(if t711 = true then ((uJ.f k bt678.1 bt681.2 bt681.1 false).bind fun bt712=>((vM.f k bt681.1 bt712.1 bt712.2.1 bt712.2.2.1).bind fun t718=>(if t718 = true then ((zS.f k).bind fun t719=>(some t719)) else (some false)))) else (some false))) else (some false))) else (some false)) else (if bt686.2.2.2 = 11 then ((uJ.f k bt678.1 bt681.2 bt681.1 false).bind fun bt695=>((vM.f k bt681.1 bt695.1 bt695.2.1 bt695.2.2.1).bind fun t701=>(if t701 = true then (some false) else ((uJ.f k bt678.1 bt695.2.2.2 bt681.1 true).bind fun bt702=>((vM.f k bt681.1 bt702.1 bt702.2.1 bt702.2.2.1).bind fun t708=>(if t708 = true then (some false) else ((zS.f k).bind fun t709=>(some t709)))))))) else (some false))) else (some false)))))
def trustquorumlaw12_IntersectionProves.T8 : Bool × List (List Nat × List Nat):=(true,[([],[]),([0],[0]),([1],[1]),([2],[2]),([2],[2]),([2],[2]),([4,5,2,2],[2,4,5]),([3,6,6,2],[2,3,6]),([7,2],[2,7]),([2,8],[2,8]),([9,7],[9]),([10],[10]),([10],[10]),([10],[10]),([12,13,10,10],[10,12,13]),([11,14,14,10],[10,11,14]),([15,10],[10,15]),([10,16],[10,16]),([17,15],[17]),([18,18],[18]),([18,19],[18,19]),([20,19,0,1,2,3,4,5,6,7,8,9,10,11,12,13,14,15,16,17,18,19,20],[20])])
def trustquorumlaw12_IntersectionProves.B8 : List Nat:=[0,1,3,7,7,7,55,127,255,511,1023,2047,2047,2047,14335,32767,65535,131071,262143,524287,1048575,2097151]
theorem trustquorumlaw12_IntersectionProves.tab8 : rtab .any (opsOf Try.f5 8) = trustquorumlaw12_IntersectionProves.T8:=by kernel_rfl
theorem trustquorumlaw12_IntersectionProves.bits8 : Qo trustquorumlaw12_IntersectionProves.T8.2 trustquorumlaw12_IntersectionProves.B8 = true:=by kernel_rfl
def trustquorumlaw12_IntersectionProves.T9 : Bool × List (List Nat × List Nat):=(true,[([],[]),([0],[0]),([1],[1]),([2],[2]),([2],[2]),([3,4,2,2],[2,3,4]),([2,5],[2,5]),([6,5],[6]),([7],[7]),([7],[7]),([8,9,7,7],[7,8,9]),([7,10],[7,10]),([11,10],[11]),([12],[12]),([12],[12]),([12],[12]),([14,15,12,12],[12,14,15]),([13,16,16,12],[12,13,16]),([12,17],[12,17]),([18,17],[18]),([19,19],[19]),([19,20],[19,20]),([21,20,0,1,2,3,4,5,6,7,8,9,10,11,12,13,14,15,16,17,18,19,20,21],[21])])
def trustquorumlaw12_IntersectionProves.B9 : List Nat:=[0,1,3,7,7,31,63,127,255,255,1023,2047,4095,8191,8191,8191,57343,131071,262143,524287,1048575,2097151,4194303]
theorem trustquorumlaw12_IntersectionProves.tab9 : rtab .any (opsOf Try.f5 9) = trustquorumlaw12_IntersectionProves.T9:=by kernel_rfl
theorem trustquorumlaw12_IntersectionProves.bits9 : Qo trustquorumlaw12_IntersectionProves.T9.2 trustquorumlaw12_IntersectionProves.B9 = true:=by kernel_rfl
set_option maxHeartbeats 8000000 in
set_option maxRecDepth 100000 in
theorem trustquorumlaw12_IntersectionProves.calls (k : Nat) (A0 : Option Addr) (c0 : Nat) (l0 : List Int) (r : Bool) (w : World) (hr0 : Kd.C (Kd.int .i64) w A0 l0.length l0) (hc0 : l0.length ≤ c0) (hr_ : qA (r = true)) (h : trustquorumlaw12_IntersectionProves.f k l0 = some r) :
  Calls Try.prog 5 #[.slice A0 l0.length c0] w fun e w'=>e = .returned (.bool r)∧Below w.heap.size w w':=by
 have hu25:=Try.underlying25
 have hu28:=Try.underlying28
 have HR0:=qA.mk hr0
 have HC0:=qA.mk hc0
 clear hr0 hc0
 have HB:=qA.mk (Below.refl w.heap.size w)
 unfold trustquorumlaw12_IntersectionProves.f at h
 have H:=h
 clear h
 replace H:=Option.bind_eq_some_iff.mp H
 obtain ⟨⟨t678,t679⟩,A20,H⟩:=H
 try dsimp only at H
 have A2:=qA.mk A20
 clear A20
 replace H:=Option.bind_eq_some_iff.mp H
 obtain ⟨⟨t681,t684⟩,A30,H⟩:=H
 try dsimp only at H
 have A3:=qA.mk A30
 clear A30
 replace H:=Option.bind_eq_some_iff.mp H
 obtain ⟨⟨t686,t687,t688,t691⟩,A40,H⟩:=H
 try dsimp only at H
 have A4:=qA.mk A40
 clear A40
 replace H:=Option.bind_eq_some_iff.mp H
 obtain ⟨⟨t693,t694⟩,A50,H⟩:=H
 try dsimp only at H
 have A5:=qA.mk A50
 clear A50
 by_cases c6 : t694 = 0
 ·rw [if_pos c6] at H
  obtain ⟨c6b0,c6b1⟩:=eqT c6
  clear c6
  by_cases c7 : t693 = true
  ·subst c7
   rw [if_pos rfl] at H
   by_cases c8 : t691 = 0
   ·rw [if_pos c8] at H
    obtain ⟨c8b0,c8b1⟩:=eqT c8
    clear c8
    replace H:=Option.bind_eq_some_iff.mp H
    obtain ⟨t710,A90,H⟩:=H
    try dsimp only at H
    have A9:=qA.mk A90
    clear A90
    by_cases c10 : t710 = true
    ·subst c10
     rw [if_pos rfl] at H
     replace H:=Option.bind_eq_some_iff.mp H
     obtain ⟨t711,A110,H⟩:=H
     try dsimp only at H
     have A11:=qA.mk A110
     clear A110
     by_cases c12 : t711 = true
     ·subst c12
      rw [if_pos rfl] at H
      replace H:=Option.bind_eq_some_iff.mp H
      obtain ⟨⟨t712,t713,t714,t717⟩,A130,H⟩:=H
      try dsimp only at H
      have A13:=qA.mk A130
      clear A130
      replace H:=Option.bind_eq_some_iff.mp H
      obtain ⟨t718,A140,H⟩:=H
      try dsimp only at H
      have A14:=qA.mk A140
      clear A140
      by_cases c15 : t718 = true
      ·subst c15
       rw [if_pos rfl] at H
       replace H:=Option.bind_eq_some_iff.mp H
       obtain ⟨t719,A160,H⟩:=H
       try dsimp only at H
       have A16:=qA.mk A160
       clear A160
       obtain rfl:=Option.some.inj H
       go_enter Try.func5,Try.ntmps5
       try go_wp2_with (first|((with_reducible refine qI (f:=11) rfl ?_);refine zA (some 10) rfl rfl Try.func11 (by kernel_rfl) rfl #[.slice A0 l0.length c0] rfl byah ?_;(with_reducible refine (kU.calls _ _ l0 t678 t679 w _ ?side1 ?side2 ?side3 A2.out).mono ?_);(case side1=>exact byab);(case side2=>exact HR0.out);(case side3=>exact HC0.out);rintro e w17 ⟨g680,rfl,hi,hb,hb2⟩;refine ⟨_,rfl,?_⟩;have n_:=q_2 (hb) (hi);clear HB;obtain ⟨HB,HI680⟩:=n_;clear hb hb2 hi)|((with_reducible refine qI (f:=12) rfl ?_);refine zA (some 12) rfl rfl Try.func12 (by kernel_rfl) rfl #[.pointer (some ⟨g680,0,none⟩),.int .i64 9] rfl byah ?_;(with_reducible refine (zW.calls k g680 t678 t679 9 t681 t684 w _ ?side1 ?side2 A3.out).mono ?_);(case side1=>exact bybj HI680.out);(case side2=>exact bybk HI680.out);rintro e w18 ⟨v682,rfl,ho0,hi,hb,hk⟩;refine ⟨_,rfl,?_⟩;have n_:=q_3 (Kd.Q8 (Kd.vT (ok':=fun k_=>k_≠g680) (Kd.R_N (Kd.Qp ho0)) (fun k_ hk_=>(qC.fresh (bybj HI680.out) k_ hk_.2.1))) (vF (bybk HI680.out))) (hb) (hi);clear HB HI680;obtain ⟨HO683,HB,HI680⟩:=n_;clear hb hk hi;(try clear ho0))|((with_reducible refine qO (N:=4) rfl ?_);refine zM (N:=4) (cs:=#[.slice none 0 0]) (t:=25) ?_;intro gb685 hg w19 hbox hb;have n_:=q_7 (Kd.uF (Kd.Zo (byba HO683.out) gb685 (Nat.le_of_eq hg.symm)) hb) (qC.below (bybj HI680.out) hb) (qB (bybk HI680.out) hb) (hbox) ((by rw [hg];exact (vF (bybk HI680.out)) : w.heap.size ≤ gb685)) ((by rw [hg];exact (vF (bybk HI680.out)) : w.heap.size ≤ gb685)) ((by rw [hg];exact Nat.ne_of_lt (qC.lt (show qC w _ g680 t678 t684 from by repeat (first|(with_reducible first|exact HI680.out|apply qC.alloc|apply qC.drewN|apply qC.drew|apply qC.vX)|exact HI680.out))) : g680≠gb685));clear HO683 HI680 HB;obtain ⟨HO683,HI680,HB,BK685,GW685,GE685,NB680_685⟩:=n_;have NB685_680:=ns NB680_685;clear hb hbox hg;obtain ⟨Ao20,co20,eo20⟩:=Kd.Q5 HO683.out;subst eo20;have hnb21:=NB685_680.out;have hnc21:=NB680_685.out;obtain ⟨hcz22_0,hfz22_0⟩:=cz1 BK685.out)|((with_reducible refine qI (f:=18) rfl ?_);refine zA (some 15) rfl rfl Try.func18 (by kernel_rfl) rfl #[.agg #[.slice Ao20 t681.length co20]] rfl byah ?_;(with_reducible refine (intersection_Prove.calls k _ _ t681 t686 t687 t688 t691 _ ?side1 ?side2 A4.out).mono ?_);(case side1=>refine (Kd.Zm (e:=58) (base:=w.heap.size) (ok:=fun k_=>(k_≠g680∧k_≠gb685)) (n:=t681.length) (c:=co20) ?_).2.2;exact (by (with_reducible repeat (first|apply Kd.Qw|apply Kd.Qx|apply Kd.Qn));exact (Kd.vT (Kd.Qj (p:=⟨gb685,0,none⟩) (Kd.vT HO683.out (fun k_ hk=>(⟨hk,hk.2⟩ : _∧k_≠gb685))) (fun _ hk=>hk.2) (.slice Ao20 t681.length co20)) (fun _ h_=>h_.1))));(case side2=>exact bybi HO683.out);rintro e w23 ⟨v689,rfl,ho0,hb⟩;refine ⟨_,rfl,?_⟩;have n_:=q_5 (Kd.Zb (by (with_reducible repeat (first|apply Kd.Qw|apply Kd.Qx|apply Kd.Qn));exact (Kd.vT (Kd.Qj (p:=⟨gb685,0,none⟩) (Kd.vT HO683.out (fun k_ hk=>(⟨hk,hk.2⟩ : _∧k_≠gb685))) (fun _ hk=>hk.2) (.slice Ao20 t681.length co20)) (fun _ h_=>h_.1))) (Kd.N_base ho0) hb) (Kd.Q8 (Kd.vT (ok':=fun k_=>some k_≠(.slice Ao20 t681.length co20 : Value).ownBlock∧k_≠gb685∧k_≠g680) ho0 (fun k_ hk_=>⟨(Kd.fresh' (Kd.N_lt (by (with_reducible repeat (first|apply Kd.Qw|apply Kd.Qx|apply Kd.Qn));exact (Kd.vT (Kd.Qj (p:=⟨gb685,0,none⟩) (Kd.vT HO683.out (fun k_ hk=>(⟨hk,hk.2⟩ : _∧k_≠gb685))) (fun _ hk=>hk.2) (.slice Ao20 t681.length co20)) (fun _ h_=>h_.1)))) k_ hk_),(Kd.Qg (g:=gb685) (o:=.cells #[.slice Ao20 t681.length co20] 25 (0,0)) (bybg BK685.out) k_ hk_),(qC.fresh (bybm HI680.out NB680_685.out) k_ hk_)⟩)) (vF (bybo HI680.out GE685.out))) (qC.below (show qC w (w19.setCell ⟨gb685,0,none⟩ (.slice Ao20 t681.length co20)) g680 t678 t684 from by repeat (first|(with_reducible first|exact HI680.out|apply qC.alloc|apply qC.drewN|apply qC.drew|apply qC.vX|refine qC.far ?_ NB680_685.out _)|exact HI680.out)) hb) (jY (g:=gb685) (o:=.cells #[.slice Ao20 t681.length co20] 25 (0,0)) (bybg BK685.out) hb) (qB (bybo HI680.out GE685.out) hb);clear HO683 HI680 BK685 HB;obtain ⟨HO683,HO690,HI680,BK685,HB⟩:=n_;clear hb;(try clear ho0))|((with_reducible refine qO (N:=5) rfl ?_);refine zM (N:=5) (cs:=#[.int .i64 0,.int .i64 0,.slice none 0 0]) (t:=28) ?_;intro gb692 hg w24 hbox hb;have n_:=q_10 (Kd.uF (Kd.Zo (byba HO683.out) gb692 (Nat.le_of_eq hg.symm)) hb) (Kd.uF (Kd.Zo (byba HO690.out) gb692 (Nat.le_of_eq hg.symm)) hb) (qC.below (bybm HI680.out NB680_685.out) hb) (qE BK685.out hb) (qB (bybo HI680.out GE685.out) hb) (hbox) ((by rw [hg];exact (vF (bybo HI680.out GE685.out)) : w.heap.size ≤ gb692)) ((by rw [hg];exact (vF (bybo HI680.out GE685.out)) : w.heap.size ≤ gb692)) ((by rw [hg];exact Nat.ne_of_lt (jZ BK685.out) : gb685≠gb692)) ((by rw [hg];exact Nat.ne_of_lt (qC.lt (show qC w _ g680 t678 t684 from by repeat (first|(with_reducible first|exact HI680.out|apply qC.alloc|apply qC.drewN|apply qC.drew|apply qC.vX|refine qC.far ?_ NB680_685.out _)|exact HI680.out))) : g680≠gb692));clear HO683 HO690 HI680 BK685 HB;obtain ⟨HO683,HO690,HI680,BK685,HB,BK692,GW692,GE692,NB685_692,NB680_692⟩:=n_;have NB692_685:=ns NB685_692;have NB692_680:=ns NB680_692;clear hb hbox hg;have hnb25:=NB692_685.out;have hnc25:=NB685_692.out;have hnb26:=NB692_680.out;have hnc26:=NB680_692.out;obtain ⟨hcz27_0,hcz27_1,hcz27_2,hfz27_0,hfz27_1,hfz27_2⟩:=cz3 BK692.out;obtain ⟨Ao28,co28,eo28⟩:=Kd.Q5 HO690.out;subst eo28;obtain ⟨hcz29_0,hfz29_0⟩:=cz1 BK685.out)|((with_reducible refine qI (f:=15) rfl ?_);refine zA (some 20) rfl rfl Try.func15 (by kernel_rfl) rfl #[.agg #[.slice Ao20 t681.length co20]] rfl byah ?_;(with_reducible refine (kF.calls k _ _ t681 true t694 _ ?side1 ?side2 A5.out).mono ?_);(case side1=>refine (Kd.Zm (e:=58) (base:=w.heap.size) (ok:=fun k_=>(((k_≠g680∧k_≠gb685)∧some k_≠(.slice Ao28 t688.length co28 : Value).ownBlock)∧k_≠gb692)) (n:=t681.length) (c:=co20) ?_).2.2;exact (by (with_reducible repeat (first|apply Kd.Qw|apply Kd.Qx|apply Kd.Qn));exact (Kd.vT (Kd.Qj (p:=⟨gb692,2,none⟩) (Kd.Qj (p:=⟨gb692,1,none⟩) (Kd.Qj (p:=⟨gb692,0,none⟩) (Kd.vT HO683.out (fun k_ hk=>(⟨hk,hk.2⟩ : _∧k_≠gb692))) (fun _ hk=>hk.2) (.int .i64 t686)) (fun _ hk=>hk.2) (.int .i64 t687)) (fun _ hk=>hk.2) (.slice Ao28 t688.length co28)) (fun _ h_=>h_.1))));(case side2=>exact bybi HO683.out);rintro e w30 ⟨rfl,hb⟩;refine ⟨_,rfl,?_⟩;have n_:=q_6 (Kd.uF (by (with_reducible repeat (first|apply Kd.Qw|apply Kd.Qx|apply Kd.Qn));exact (Kd.vT (Kd.Qj (p:=⟨gb692,2,none⟩) (Kd.Qj (p:=⟨gb692,1,none⟩) (Kd.Qj (p:=⟨gb692,0,none⟩) (Kd.vT HO683.out (fun k_ hk=>(⟨hk,hk.2⟩ : _∧k_≠gb692))) (fun _ hk=>hk.2) (.int .i64 t686)) (fun _ hk=>hk.2) (.int .i64 t687)) (fun _ hk=>hk.2) (.slice Ao28 t688.length co28)) (fun _ h_=>h_.1))) hb) (Kd.uF (by (with_reducible repeat (first|apply Kd.Qw|apply Kd.Qx|apply Kd.Qn));exact (Kd.vT (Kd.Qj (p:=⟨gb692,2,none⟩) (Kd.Qj (p:=⟨gb692,1,none⟩) (Kd.Qj (p:=⟨gb692,0,none⟩) (Kd.vT HO690.out (fun k_ hk=>(⟨hk,hk.2⟩ : _∧k_≠gb692))) (fun _ hk=>hk.2) (.int .i64 t686)) (fun _ hk=>hk.2) (.int .i64 t687)) (fun _ hk=>hk.2) (.slice Ao28 t688.length co28)) (fun _ h_=>h_.1))) hb) (qC.below (show qC w (((w24.setCell ⟨gb692,0,none⟩ (.int .i64 t686)).setCell ⟨gb692,1,none⟩ (.int .i64 t687)).setCell ⟨gb692,2,none⟩ (.slice Ao28 t688.length co28)) g680 t678 t684 from by repeat (first|(with_reducible first|exact HI680.out|apply qC.alloc|apply qC.drewN|apply qC.drew|apply qC.vX|refine qC.far ?_ NB680_685.out _|refine qC.far ?_ NB680_692.out _)|exact HI680.out)) hb) (jY (g:=gb685) (o:=.cells #[.slice Ao20 t681.length co20] 25 (0,0)) (byak NB685_692.out BK685.out) hb) (jY (g:=gb692) (o:=.cells #[.int .i64 t686,.int .i64 t687,.slice Ao28 t688.length co28] 28 (0,0)) (by (with_reducible repeat (first|refine qH ?_ _|refine qF ?_|refine qG ?_ _));refine qQ (cs:=#[.int .i64 t686,.int .i64 t687,.slice none 0 0]) ?_ 2 _ rfl;(with_reducible repeat (first|refine qH ?_ _|refine qF ?_|refine qG ?_ _));refine qQ (cs:=#[.int .i64 t686,.int .i64 0,.slice none 0 0]) ?_ 1 _ rfl;(with_reducible repeat (first|refine qH ?_ _|refine qF ?_|refine qG ?_ _));refine qQ (cs:=#[.int .i64 0,.int .i64 0,.slice none 0 0]) ?_ 0 _ rfl;(with_reducible repeat (first|refine qH ?_ _|refine qF ?_|refine qG ?_ _));exact BK692.out) hb) (qB (bybq HI680.out GE685.out GE692.out) hb);clear HO683 HO690 HI680 BK685 BK692 HB;obtain ⟨HO683,HO690,HI680,BK685,BK692,HB⟩:=n_;clear hb))
       have n_:=q_6 (Kd.Qn HO683.out) (Kd.Qn HO690.out) (qF BK685.out) (qF BK692.out) (qC.drew HI680.out) (jM HB.out)
       clear HO683 HO690 BK685 BK692 HI680 HB
       obtain ⟨HO683,HO690,BK685,BK692,HI680,HB⟩:=n_
       refine kX (n:=23) (S:=fun w'=>w'.cell? ⟨gb685,0,none⟩ = some (.slice Ao20 t681.length co20)∧w'.cell? ⟨gb692,0,none⟩ = some (.int .i64 t686)∧w'.cell? ⟨gb692,1,none⟩ = some (.int .i64 t687)∧w'.cell? ⟨gb692,2,none⟩ = some (.slice Ao28 t688.length co28)) (ds:=[]) (bb 23 0) (by kernel_rfl) rfl rfl ⟨(qK BK685.out 0).trans rfl,(qK BK692.out 0).trans rfl,(qK BK692.out 1).trans rfl,(qK BK692.out 2).trans rfl⟩ (fun hHeld=>?_);refine kD trustquorumlaw12_IntersectionProves.tab9 trustquorumlaw12_IntersectionProves.bits9 (fun HT_ HW_=>?_)
       generalize w30.drew = w31 at HO683 HO690 BK685 BK692 HI680 HB hHeld ⊢
       refine qP (i:=0) (N:=some 48) (bb 23 1) ?_
       refine qP (i:=1) (N:=some 49) (bb 23 3) ?_
       refine qP (i:=2) (N:=some 50) (bb 23 7) ?_
       refine Zg (i:=3) (N:=some 51) (bb 23 15) hHeld ?_
       refine Zg (i:=4) (N:=some 52) (bb 23 31) hHeld ?_
       refine one_ (i:=5) (N:=some 53) (bb 23 63) rfl rfl (uI HT_.out (by kernel_rfl)) (by decide) (fun K hK=>?_)
       refine uZ Try.func21 (by kernel_rfl) rfl #[.agg #[.slice Ao20 t681.length co20],.agg #[.int .i64 t686,.int .i64 t687,.slice Ao28 t688.length co28]] (by rfl) rfl rfl byah ?_
       with_reducible refine (kS.calls k _ _ t681 t686 t687 _ _ t688 true _ ?side1 ?side2 ?side3 ?side4 A9.out).mono ?_
       (case side1=>exact bybh HO683.out)
       (case side2=>exact bybi HO683.out)
       (case side3=>exact bybh HO690.out)
       (case side4=>exact bybi HO690.out)
       rintro e w32 ⟨rfl,hb⟩
       refine ⟨_,rfl,?_⟩
       have n_:=q_6 (Kd.uF (byba HO683.out) hb) (Kd.uF (byba HO690.out) hb) (qC.below (bybp HI680.out NB680_685.out NB680_692.out) hb) (qE BK685.out hb) (qE BK692.out hb) (qB (bybq HI680.out GE685.out GE692.out) hb)
       clear HO683 HO690 HI680 BK685 BK692 HB
       obtain ⟨HO683,HO690,HI680,BK685,BK692,HB⟩:=n_
       (try clear hb)
       (try clear hb2)
       (try clear hk)
       (try clear hi)
       refine hK.out _ _ ⟨(qK BK685.out 0).trans rfl,(qK BK692.out 0).trans rfl,(qK BK692.out 1).trans rfl,(qK BK692.out 2).trans rfl⟩ (fun hHeld=>?_)
       clear hK K
       refine uO (N:=some 53) ?_
       refine qP (i:=6) (N:=some 54) (bb 23 127) ?_
       refine qP (i:=7) (N:=some 55) (bb 23 255) ?_
       refine Zg (i:=8) (N:=some 56) (bb 23 511) hHeld ?_
       refine Zg (i:=9) (N:=some 57) (bb 23 1023) hHeld ?_
       refine one_ (i:=10) (N:=some 58) (bb 23 2047) rfl rfl (uI HT_.out (by kernel_rfl)) (by decide) (fun K hK=>?_)
       refine uZ Try.func20 (by kernel_rfl) rfl #[.agg #[.slice Ao20 t681.length co20],.agg #[.int .i64 t686,.int .i64 t687,.slice Ao28 t688.length co28]] (by rfl) rfl rfl byah ?_
       with_reducible refine (vM.calls k _ _ t681 t686 t687 _ _ t688 true _ ?side1 ?side2 ?side3 ?side4 A11.out).mono ?_
       (case side1=>exact bybh HO683.out)
       (case side2=>exact bybi HO683.out)
       (case side3=>exact bybh HO690.out)
       (case side4=>exact bybi HO690.out)
       rintro e w33 ⟨rfl,hb⟩
       refine ⟨_,rfl,?_⟩
       have n_:=q_6 (Kd.uF (byba HO683.out) hb) (Kd.uF (byba HO690.out) hb) (qC.below (bybp HI680.out NB680_685.out NB680_692.out) hb) (qE BK685.out hb) (qE BK692.out hb) (qB (bybq HI680.out GE685.out GE692.out) hb)
       clear HO683 HO690 HI680 BK685 BK692 HB
       obtain ⟨HO683,HO690,HI680,BK685,BK692,HB⟩:=n_
       (try clear hb)
       (try clear hb2)
       (try clear hk)
       (try clear hi)
       refine hK.out _ _ ⟨(qK BK685.out 0).trans rfl,(qK BK692.out 0).trans rfl,(qK BK692.out 1).trans rfl,(qK BK692.out 2).trans rfl⟩ (fun hHeld=>?_)
       clear hK K
       refine uO (N:=some 58) ?_
       refine qP (i:=11) (N:=some 59) (bb 23 4095) ?_
       refine qP (i:=12) (N:=some 60) (bb 23 8191) ?_
       refine qP (i:=14) (N:=some 62) (bb 23 24575) ?_
       refine Zg (i:=13) (N:=some 61) (bb 23 32767) hHeld ?_
       refine Zg (i:=15) (N:=some 63) (bb 23 65535) hHeld ?_
       refine one_ (i:=16) (N:=some 64) (bb 23 131071) rfl rfl (uI HT_.out (by kernel_rfl)) (by decide) (fun K hK=>?_)
       refine uZ Try.func19 (by kernel_rfl) rfl #[.pointer (some ⟨g680,0,none⟩),.agg #[.slice Ao20 t681.length co20],.bool false] (by rfl) rfl rfl byah ?_
       with_reducible refine (uJ.calls k g680 t678 t684 _ _ t681 false t712 t713 t714 t717 w _ ?side1 ?side2 ?side3 ?side4 A13.out).mono ?_
       (case side1=>exact bybp HI680.out NB680_685.out NB680_692.out)
       (case side2=>exact bybq HI680.out GE685.out GE692.out)
       (case side3=>exact Kd.C_foot_ownV (base:=0) (Kd.N_V (Kd.vT (ok:=fun k_=>(((k_≠g680∧k_≠gb685)∧some k_≠(.slice Ao28 t688.length co28 : Value).ownBlock)∧k_≠gb692)) (byba HO683.out) (fun k_ hk_=>(⟨hk_,hk_.1.1.1⟩ : _∧k_≠g680)))) (fun _ h_=>h_.2))
       (case side4=>exact bybi HO683.out)
       rintro e w34 ⟨v715,rfl,ho0,hi,hb,hk⟩
       refine ⟨_,rfl,?_⟩
       have n_:=q_7 (Kd.vT (Kd.N_told (Kd.N_oldK (Kd.vT (ok:=fun k_=>(((k_≠g680∧k_≠gb685)∧some k_≠(.slice Ao28 t688.length co28 : Value).ownBlock)∧k_≠gb692)) (byba HO683.out) (fun k_ hk_=>(⟨hk_,hk_.1.1.1⟩ : _∧k_≠g680))) hk) (Kd.kR ho0)) (fun _ h_=>h_.1)) (qJ.blkB hk BK685.out NB685_680.out (by simp)) (Kd.vT (Kd.N_told (Kd.N_oldK (Kd.vT (ok:=fun k_=>((some k_≠(.slice Ao20 t681.length co20 : Value).ownBlock∧(k_≠gb685∧k_≠g680))∧k_≠gb692)) (byba HO690.out) (fun k_ hk_=>(⟨hk_,hk_.1.2.2⟩ : _∧k_≠g680))) hk) (Kd.kR ho0)) (fun _ h_=>h_.1)) (qJ.blkB hk BK692.out NB692_680.out (by simp)) (Kd.Q8 (Kd.vT (ok':=fun k_=>some k_≠(.slice Ao20 t681.length co20 : Value).ownBlock∧some k_≠(.slice Ao28 t688.length co28 : Value).ownBlock∧k_≠gb685∧k_≠gb692∧k_≠g680) (Kd.R_N (Kd.Qp ho0)) (fun k_ hk_=>⟨(Kd.fresh' (Kd.N_lt (byba HO683.out)) k_ hk_.2.1),(Kd.fresh' (Kd.N_lt (byba HO690.out)) k_ hk_.2.1),(Kd.Qg (g:=gb685) (o:=.cells #[.slice Ao20 t681.length co20] 25 (0,0)) (byaf BK685.out) k_ hk_.2.1),(Kd.Qg (g:=gb692) (o:=.cells #[.int .i64 t686,.int .i64 t687,.slice Ao28 t688.length co28] 28 (0,0)) (byaf BK692.out) k_ hk_.2.1),(qC.fresh (bybp HI680.out NB680_685.out NB680_692.out) k_ hk_.2.1)⟩)) (vF (bybq HI680.out GE685.out GE692.out))) (hb) (hi)
       clear HO683 BK685 HO690 BK692 HB HI680
       obtain ⟨HO683,BK685,HO690,BK692,HO716,HB,HI680⟩:=n_
       (try clear hb)
       (try clear hb2)
       (try clear hk)
       (try clear hi)
       (try clear ho0)
       obtain ⟨Ao35,co35,eo35⟩:=Kd.Q5 HO716.out
       (first|subst eo35|(injection eo35 with f1_ f2_ f3_;have f4_:=f1_.symm;have f5_:=f3_.symm;clear f1_ f2_ f3_;subst f4_;subst f5_))
       refine hK.out _ _ ⟨(qK BK685.out 0).trans rfl,(qK BK692.out 0).trans rfl,(qK BK692.out 1).trans rfl,(qK BK692.out 2).trans rfl⟩ (fun hHeld=>?_)
       clear hK K
       refine uO (N:=some 64) ?_
       refine one_ (i:=17) (N:=some 65) (bb 23 262143) rfl rfl (uI HT_.out (by kernel_rfl)) (by decide) (fun K hK=>?_)
       refine uZ Try.func20 (by kernel_rfl) rfl #[.agg #[.slice Ao20 t681.length co20],.agg #[.int .i64 t712,.int .i64 t713,.slice Ao35 t714.length co35]] (by rfl) rfl rfl byah ?_
       with_reducible refine (vM.calls k _ _ t681 t712 t713 _ _ t714 true _ ?side1 ?side2 ?side3 ?side4 A14.out).mono ?_
       (case side1=>exact bybh HO683.out)
       (case side2=>exact bybi HO683.out)
       (case side3=>exact bybh HO716.out)
       (case side4=>exact bybi HO716.out)
       rintro e w36 ⟨rfl,hb⟩
       refine ⟨_,rfl,?_⟩
       have n_:=q_7 (Kd.uF (byba HO683.out) hb) (Kd.uF (byba HO690.out) hb) (Kd.uF (byba HO716.out) hb) (qC.below (bybp HI680.out NB680_685.out NB680_692.out) hb) (qE BK685.out hb) (qE BK692.out hb) (qB (bybq HI680.out GE685.out GE692.out) hb)
       clear HO683 HO690 HO716 HI680 BK685 BK692 HB
       obtain ⟨HO683,HO690,HO716,HI680,BK685,BK692,HB⟩:=n_
       (try clear hb)
       (try clear hb2)
       (try clear hk)
       (try clear hi)
       refine hK.out _ _ ⟨(qK BK685.out 0).trans rfl,(qK BK692.out 0).trans rfl,(qK BK692.out 1).trans rfl,(qK BK692.out 2).trans rfl⟩ (fun hHeld=>?_)
       clear hK K
       refine uO (N:=some 65) ?_
       refine qP (i:=18) (N:=some 66) (bb 23 524287) ?_
       refine qP (i:=19) (N:=some 67) (bb 23 1048575) ?_
       refine one_ (i:=20) (N:=some 68) (bb 23 2097151) rfl rfl (uI HT_.out (by kernel_rfl)) (by decide) (fun K hK=>?_)
       refine uZ Try.func10 (by kernel_rfl) rfl #[] (by rfl) rfl rfl byah ?_
       with_reducible refine (zS.calls k  t719 _ A16.out).mono ?_
       rintro e w37 ⟨rfl,hb⟩
       refine ⟨_,rfl,?_⟩
       have n_:=q_7 (Kd.uF (byba HO683.out) hb) (Kd.uF (byba HO690.out) hb) (Kd.uF (byba HO716.out) hb) (qC.below (bybp HI680.out NB680_685.out NB680_692.out) hb) (qE BK685.out hb) (qE BK692.out hb) (qB (bybq HI680.out GE685.out GE692.out) hb)
       clear HO683 HO690 HO716 HI680 BK685 BK692 HB
       obtain ⟨HO683,HO690,HO716,HI680,BK685,BK692,HB⟩:=n_
       (try clear hb)
       (try clear hb2)
       (try clear hk)
       (try clear hi)
       refine hK.out _ _ ⟨(qK BK685.out 0).trans rfl,(qK BK692.out 0).trans rfl,(qK BK692.out 1).trans rfl,(qK BK692.out 2).trans rfl⟩ (fun hHeld=>?_)
       clear hK K
       refine uO (N:=some 68) ?_
       refine qP (i:=21) (N:=some 69) (bb 23 4194303) ?_
       refine qP (i:=22) (N:=some 2) (bb 23 8388607) ?_
       refine Qm (Qi HT_.out (by kernel_rfl)) ?_
       try go_wp2
       go_ret
       exact ⟨byac,bybq HI680.out GE685.out GE692.out⟩
      ·replace c15:=Bool.eq_false_iff.mpr c15
       subst c15
       rw [if_neg (show ¬ (false = true) by decide)] at H
       exfalso;rw [hr_.out] at H;simp at H
     ·replace c12:=Bool.eq_false_iff.mpr c12
      subst c12
      rw [if_neg (show ¬ (false = true) by decide)] at H
      exfalso;rw [hr_.out] at H;simp at H
    ·replace c10:=Bool.eq_false_iff.mpr c10
     subst c10
     rw [if_neg (show ¬ (false = true) by decide)] at H
     exfalso;rw [hr_.out] at H;simp at H
   ·rw [if_neg c8] at H
    obtain ⟨c8b0,c8b1⟩:=eqF c8
    exfalso;rw [hr_.out] at H;simp at H
  ·replace c7:=Bool.eq_false_iff.mpr c7
   subst c7
   rw [if_neg (show ¬ (false = true) by decide)] at H
   by_cases c106 : t691 = 11
   ·rw [if_pos c106] at H
    obtain ⟨c106b0,c106b1⟩:=eqT c106
    clear c106
    replace H:=Option.bind_eq_some_iff.mp H
    obtain ⟨⟨t695,t696,t697,t700⟩,A1070,H⟩:=H
    try dsimp only at H
    have A107:=qA.mk A1070
    clear A1070
    replace H:=Option.bind_eq_some_iff.mp H
    obtain ⟨t701,A1080,H⟩:=H
    try dsimp only at H
    have A108:=qA.mk A1080
    clear A1080
    by_cases c109 : t701 = true
    ·subst c109
     rw [if_pos rfl] at H
     exfalso;rw [hr_.out] at H;simp at H
    ·replace c109:=Bool.eq_false_iff.mpr c109
     subst c109
     rw [if_neg (show ¬ (false = true) by decide)] at H
     replace H:=Option.bind_eq_some_iff.mp H
     obtain ⟨⟨t702,t703,t704,t707⟩,A1280,H⟩:=H
     try dsimp only at H
     have A128:=qA.mk A1280
     clear A1280
     replace H:=Option.bind_eq_some_iff.mp H
     obtain ⟨t708,A1290,H⟩:=H
     try dsimp only at H
     have A129:=qA.mk A1290
     clear A1290
     by_cases c130 : t708 = true
     ·subst c130
      rw [if_pos rfl] at H
      exfalso;rw [hr_.out] at H;simp at H
     ·replace c130:=Bool.eq_false_iff.mpr c130
      subst c130
      rw [if_neg (show ¬ (false = true) by decide)] at H
      replace H:=Option.bind_eq_some_iff.mp H
      obtain ⟨t709,A1520,H⟩:=H
      try dsimp only at H
      have A152:=qA.mk A1520
      clear A1520
      obtain rfl:=Option.some.inj H
      go_enter Try.func5,Try.ntmps5
      try go_wp2_with (first|((with_reducible refine qI (f:=11) rfl ?_);refine zA (some 10) rfl rfl Try.func11 (by kernel_rfl) rfl #[.slice A0 l0.length c0] rfl byah ?_;(with_reducible refine (kU.calls _ _ l0 t678 t679 w _ ?side1 ?side2 ?side3 A2.out).mono ?_);(case side1=>exact byab);(case side2=>exact HR0.out);(case side3=>exact HC0.out);rintro e w153 ⟨g680,rfl,hi,hb,hb2⟩;refine ⟨_,rfl,?_⟩;have n_:=q_2 (hb) (hi);clear HB;obtain ⟨HB,HI680⟩:=n_;clear hb hb2 hi)|((with_reducible refine qI (f:=12) rfl ?_);refine zA (some 12) rfl rfl Try.func12 (by kernel_rfl) rfl #[.pointer (some ⟨g680,0,none⟩),.int .i64 9] rfl byah ?_;(with_reducible refine (zW.calls k g680 t678 t679 9 t681 t684 w _ ?side1 ?side2 A3.out).mono ?_);(case side1=>exact bybj HI680.out);(case side2=>exact bybk HI680.out);rintro e w154 ⟨v682,rfl,ho0,hi,hb,hk⟩;refine ⟨_,rfl,?_⟩;have n_:=q_3 (Kd.Q8 (Kd.vT (ok':=fun k_=>k_≠g680) (Kd.R_N (Kd.Qp ho0)) (fun k_ hk_=>(qC.fresh (bybj HI680.out) k_ hk_.2.1))) (vF (bybk HI680.out))) (hb) (hi);clear HB HI680;obtain ⟨HO683,HB,HI680⟩:=n_;clear hb hk hi;(try clear ho0))|((with_reducible refine qO (N:=4) rfl ?_);refine zM (N:=4) (cs:=#[.slice none 0 0]) (t:=25) ?_;intro gb685 hg w155 hbox hb;have n_:=q_7 (Kd.uF (Kd.Zo (byba HO683.out) gb685 (Nat.le_of_eq hg.symm)) hb) (qC.below (bybj HI680.out) hb) (qB (bybk HI680.out) hb) (hbox) ((by rw [hg];exact (vF (bybk HI680.out)) : w.heap.size ≤ gb685)) ((by rw [hg];exact (vF (bybk HI680.out)) : w.heap.size ≤ gb685)) ((by rw [hg];exact Nat.ne_of_lt (qC.lt (show qC w _ g680 t678 t684 from by repeat (first|(with_reducible first|exact HI680.out|apply qC.alloc|apply qC.drewN|apply qC.drew|apply qC.vX)|exact HI680.out))) : g680≠gb685));clear HO683 HI680 HB;obtain ⟨HO683,HI680,HB,BK685,GW685,GE685,NB680_685⟩:=n_;have NB685_680:=ns NB680_685;clear hb hbox hg;obtain ⟨Ao156,co156,eo156⟩:=Kd.Q5 HO683.out;subst eo156;have hnb157:=NB685_680.out;have hnc157:=NB680_685.out;obtain ⟨hcz158_0,hfz158_0⟩:=cz1 BK685.out)|((with_reducible refine qI (f:=18) rfl ?_);refine zA (some 15) rfl rfl Try.func18 (by kernel_rfl) rfl #[.agg #[.slice Ao156 t681.length co156]] rfl byah ?_;(with_reducible refine (intersection_Prove.calls k _ _ t681 t686 t687 t688 t691 _ ?side1 ?side2 A4.out).mono ?_);(case side1=>refine (Kd.Zm (e:=58) (base:=w.heap.size) (ok:=fun k_=>(k_≠g680∧k_≠gb685)) (n:=t681.length) (c:=co156) ?_).2.2;exact (by (with_reducible repeat (first|apply Kd.Qw|apply Kd.Qx|apply Kd.Qn));exact (Kd.vT (Kd.Qj (p:=⟨gb685,0,none⟩) (Kd.vT HO683.out (fun k_ hk=>(⟨hk,hk.2⟩ : _∧k_≠gb685))) (fun _ hk=>hk.2) (.slice Ao156 t681.length co156)) (fun _ h_=>h_.1))));(case side2=>exact bybi HO683.out);rintro e w159 ⟨v689,rfl,ho0,hb⟩;refine ⟨_,rfl,?_⟩;have n_:=q_5 (Kd.Zb (by (with_reducible repeat (first|apply Kd.Qw|apply Kd.Qx|apply Kd.Qn));exact (Kd.vT (Kd.Qj (p:=⟨gb685,0,none⟩) (Kd.vT HO683.out (fun k_ hk=>(⟨hk,hk.2⟩ : _∧k_≠gb685))) (fun _ hk=>hk.2) (.slice Ao156 t681.length co156)) (fun _ h_=>h_.1))) (Kd.N_base ho0) hb) (Kd.Q8 (Kd.vT (ok':=fun k_=>some k_≠(.slice Ao156 t681.length co156 : Value).ownBlock∧k_≠gb685∧k_≠g680) ho0 (fun k_ hk_=>⟨(Kd.fresh' (Kd.N_lt (by (with_reducible repeat (first|apply Kd.Qw|apply Kd.Qx|apply Kd.Qn));exact (Kd.vT (Kd.Qj (p:=⟨gb685,0,none⟩) (Kd.vT HO683.out (fun k_ hk=>(⟨hk,hk.2⟩ : _∧k_≠gb685))) (fun _ hk=>hk.2) (.slice Ao156 t681.length co156)) (fun _ h_=>h_.1)))) k_ hk_),(Kd.Qg (g:=gb685) (o:=.cells #[.slice Ao156 t681.length co156] 25 (0,0)) (bybg BK685.out) k_ hk_),(qC.fresh (bybm HI680.out NB680_685.out) k_ hk_)⟩)) (vF (bybo HI680.out GE685.out))) (qC.below (show qC w (w155.setCell ⟨gb685,0,none⟩ (.slice Ao156 t681.length co156)) g680 t678 t684 from by repeat (first|(with_reducible first|exact HI680.out|apply qC.alloc|apply qC.drewN|apply qC.drew|apply qC.vX|refine qC.far ?_ NB680_685.out _)|exact HI680.out)) hb) (jY (g:=gb685) (o:=.cells #[.slice Ao156 t681.length co156] 25 (0,0)) (bybg BK685.out) hb) (qB (bybo HI680.out GE685.out) hb);clear HO683 HI680 BK685 HB;obtain ⟨HO683,HO690,HI680,BK685,HB⟩:=n_;clear hb;(try clear ho0))|((with_reducible refine qO (N:=5) rfl ?_);refine zM (N:=5) (cs:=#[.int .i64 0,.int .i64 0,.slice none 0 0]) (t:=28) ?_;intro gb692 hg w160 hbox hb;have n_:=q_10 (Kd.uF (Kd.Zo (byba HO683.out) gb692 (Nat.le_of_eq hg.symm)) hb) (Kd.uF (Kd.Zo (byba HO690.out) gb692 (Nat.le_of_eq hg.symm)) hb) (qC.below (bybm HI680.out NB680_685.out) hb) (qE BK685.out hb) (qB (bybo HI680.out GE685.out) hb) (hbox) ((by rw [hg];exact (vF (bybo HI680.out GE685.out)) : w.heap.size ≤ gb692)) ((by rw [hg];exact (vF (bybo HI680.out GE685.out)) : w.heap.size ≤ gb692)) ((by rw [hg];exact Nat.ne_of_lt (jZ BK685.out) : gb685≠gb692)) ((by rw [hg];exact Nat.ne_of_lt (qC.lt (show qC w _ g680 t678 t684 from by repeat (first|(with_reducible first|exact HI680.out|apply qC.alloc|apply qC.drewN|apply qC.drew|apply qC.vX|refine qC.far ?_ NB680_685.out _)|exact HI680.out))) : g680≠gb692));clear HO683 HO690 HI680 BK685 HB;obtain ⟨HO683,HO690,HI680,BK685,HB,BK692,GW692,GE692,NB685_692,NB680_692⟩:=n_;have NB692_685:=ns NB685_692;have NB692_680:=ns NB680_692;clear hb hbox hg;have hnb161:=NB692_685.out;have hnc161:=NB685_692.out;have hnb162:=NB692_680.out;have hnc162:=NB680_692.out;obtain ⟨hcz163_0,hcz163_1,hcz163_2,hfz163_0,hfz163_1,hfz163_2⟩:=cz3 BK692.out;obtain ⟨Ao164,co164,eo164⟩:=Kd.Q5 HO690.out;subst eo164;obtain ⟨hcz165_0,hfz165_0⟩:=cz1 BK685.out)|((with_reducible refine qI (f:=15) rfl ?_);refine zA (some 20) rfl rfl Try.func15 (by kernel_rfl) rfl #[.agg #[.slice Ao156 t681.length co156]] rfl byah ?_;(with_reducible refine (kF.calls k _ _ t681 false t694 _ ?side1 ?side2 A5.out).mono ?_);(case side1=>refine (Kd.Zm (e:=58) (base:=w.heap.size) (ok:=fun k_=>(((k_≠g680∧k_≠gb685)∧some k_≠(.slice Ao164 t688.length co164 : Value).ownBlock)∧k_≠gb692)) (n:=t681.length) (c:=co156) ?_).2.2;exact (by (with_reducible repeat (first|apply Kd.Qw|apply Kd.Qx|apply Kd.Qn));exact (Kd.vT (Kd.Qj (p:=⟨gb692,2,none⟩) (Kd.Qj (p:=⟨gb692,1,none⟩) (Kd.Qj (p:=⟨gb692,0,none⟩) (Kd.vT HO683.out (fun k_ hk=>(⟨hk,hk.2⟩ : _∧k_≠gb692))) (fun _ hk=>hk.2) (.int .i64 t686)) (fun _ hk=>hk.2) (.int .i64 t687)) (fun _ hk=>hk.2) (.slice Ao164 t688.length co164)) (fun _ h_=>h_.1))));(case side2=>exact bybi HO683.out);rintro e w166 ⟨rfl,hb⟩;refine ⟨_,rfl,?_⟩;have n_:=q_6 (Kd.uF (by (with_reducible repeat (first|apply Kd.Qw|apply Kd.Qx|apply Kd.Qn));exact (Kd.vT (Kd.Qj (p:=⟨gb692,2,none⟩) (Kd.Qj (p:=⟨gb692,1,none⟩) (Kd.Qj (p:=⟨gb692,0,none⟩) (Kd.vT HO683.out (fun k_ hk=>(⟨hk,hk.2⟩ : _∧k_≠gb692))) (fun _ hk=>hk.2) (.int .i64 t686)) (fun _ hk=>hk.2) (.int .i64 t687)) (fun _ hk=>hk.2) (.slice Ao164 t688.length co164)) (fun _ h_=>h_.1))) hb) (Kd.uF (by (with_reducible repeat (first|apply Kd.Qw|apply Kd.Qx|apply Kd.Qn));exact (Kd.vT (Kd.Qj (p:=⟨gb692,2,none⟩) (Kd.Qj (p:=⟨gb692,1,none⟩) (Kd.Qj (p:=⟨gb692,0,none⟩) (Kd.vT HO690.out (fun k_ hk=>(⟨hk,hk.2⟩ : _∧k_≠gb692))) (fun _ hk=>hk.2) (.int .i64 t686)) (fun _ hk=>hk.2) (.int .i64 t687)) (fun _ hk=>hk.2) (.slice Ao164 t688.length co164)) (fun _ h_=>h_.1))) hb) (qC.below (show qC w (((w160.setCell ⟨gb692,0,none⟩ (.int .i64 t686)).setCell ⟨gb692,1,none⟩ (.int .i64 t687)).setCell ⟨gb692,2,none⟩ (.slice Ao164 t688.length co164)) g680 t678 t684 from by repeat (first|(with_reducible first|exact HI680.out|apply qC.alloc|apply qC.drewN|apply qC.drew|apply qC.vX|refine qC.far ?_ NB680_685.out _|refine qC.far ?_ NB680_692.out _)|exact HI680.out)) hb) (jY (g:=gb685) (o:=.cells #[.slice Ao156 t681.length co156] 25 (0,0)) (byak NB685_692.out BK685.out) hb) (jY (g:=gb692) (o:=.cells #[.int .i64 t686,.int .i64 t687,.slice Ao164 t688.length co164] 28 (0,0)) (by (with_reducible repeat (first|refine qH ?_ _|refine qF ?_|refine qG ?_ _));refine qQ (cs:=#[.int .i64 t686,.int .i64 t687,.slice none 0 0]) ?_ 2 _ rfl;(with_reducible repeat (first|refine qH ?_ _|refine qF ?_|refine qG ?_ _));refine qQ (cs:=#[.int .i64 t686,.int .i64 0,.slice none 0 0]) ?_ 1 _ rfl;(with_reducible repeat (first|refine qH ?_ _|refine qF ?_|refine qG ?_ _));refine qQ (cs:=#[.int .i64 0,.int .i64 0,.slice none 0 0]) ?_ 0 _ rfl;(with_reducible repeat (first|refine qH ?_ _|refine qF ?_|refine qG ?_ _));exact BK692.out) hb) (qB (bybq HI680.out GE685.out GE692.out) hb);clear HO683 HO690 HI680 BK685 BK692 HB;obtain ⟨HO683,HO690,HI680,BK685,BK692,HB⟩:=n_;clear hb))
      have n_:=q_6 (Kd.Qn HO683.out) (Kd.Qn HO690.out) (qF BK685.out) (qF BK692.out) (qC.drew HI680.out) (jM HB.out)
      clear HO683 HO690 BK685 BK692 HI680 HB
      obtain ⟨HO683,HO690,BK685,BK692,HI680,HB⟩:=n_
      refine kX (n:=22) (S:=fun w'=>w'.cell? ⟨gb685,0,none⟩ = some (.slice Ao156 t681.length co156)) (ds:=[]) (bb 22 0) (by kernel_rfl) rfl rfl ((qK BK685.out 0).trans rfl) (fun hHeld=>?_);refine kD trustquorumlaw12_IntersectionProves.tab8 trustquorumlaw12_IntersectionProves.bits8 (fun HT_ HW_=>?_)
      generalize w166.drew = w167 at HO683 HO690 BK685 BK692 HI680 HB hHeld ⊢
      refine qP (i:=0) (N:=some 27) (bb 22 1) ?_
      refine qP (i:=1) (N:=some 28) (bb 22 3) ?_
      refine qP (i:=2) (N:=some 29) (bb 22 7) ?_
      refine qP (i:=4) (N:=some 31) (bb 22 23) ?_
      refine takeZC (i:=3) (N:=some 30) (bb 22 31) hHeld ?_
      refine takeZC (i:=5) (N:=some 32) (bb 22 63) hHeld ?_
      refine one_ (i:=6) (N:=some 33) (bb 22 127) rfl rfl (uI HT_.out (by kernel_rfl)) (by decide) (fun K hK=>?_)
      refine uZ Try.func19 (by kernel_rfl) rfl #[.pointer (some ⟨g680,0,none⟩),.agg #[.slice Ao156 t681.length co156],.bool false] (by rfl) rfl rfl byah ?_
      with_reducible refine (uJ.calls k g680 t678 t684 _ _ t681 false t695 t696 t697 t700 w _ ?side1 ?side2 ?side3 ?side4 A107.out).mono ?_
      (case side1=>exact bybp HI680.out NB680_685.out NB680_692.out)
      (case side2=>exact bybq HI680.out GE685.out GE692.out)
      (case side3=>exact Kd.C_foot_ownV (base:=0) (Kd.N_V (Kd.vT (ok:=fun k_=>(((k_≠g680∧k_≠gb685)∧some k_≠(.slice Ao164 t688.length co164 : Value).ownBlock)∧k_≠gb692)) (byba HO683.out) (fun k_ hk_=>(⟨hk_,hk_.1.1.1⟩ : _∧k_≠g680)))) (fun _ h_=>h_.2))
      (case side4=>exact bybi HO683.out)
      rintro e w168 ⟨v698,rfl,ho0,hi,hb,hk⟩
      refine ⟨_,rfl,?_⟩
      have n_:=q_7 (Kd.vT (Kd.N_told (Kd.N_oldK (Kd.vT (ok:=fun k_=>(((k_≠g680∧k_≠gb685)∧some k_≠(.slice Ao164 t688.length co164 : Value).ownBlock)∧k_≠gb692)) (byba HO683.out) (fun k_ hk_=>(⟨hk_,hk_.1.1.1⟩ : _∧k_≠g680))) hk) (Kd.kR ho0)) (fun _ h_=>h_.1)) (qJ.blkB hk BK685.out NB685_680.out (by simp)) (Kd.vT (Kd.N_told (Kd.N_oldK (Kd.vT (ok:=fun k_=>((some k_≠(.slice Ao156 t681.length co156 : Value).ownBlock∧(k_≠gb685∧k_≠g680))∧k_≠gb692)) (byba HO690.out) (fun k_ hk_=>(⟨hk_,hk_.1.2.2⟩ : _∧k_≠g680))) hk) (Kd.kR ho0)) (fun _ h_=>h_.1)) (qJ.blkB hk BK692.out NB692_680.out (by simp)) (Kd.Q8 (Kd.vT (ok':=fun k_=>some k_≠(.slice Ao156 t681.length co156 : Value).ownBlock∧some k_≠(.slice Ao164 t688.length co164 : Value).ownBlock∧k_≠gb685∧k_≠gb692∧k_≠g680) (Kd.R_N (Kd.Qp ho0)) (fun k_ hk_=>⟨(Kd.fresh' (Kd.N_lt (byba HO683.out)) k_ hk_.2.1),(Kd.fresh' (Kd.N_lt (byba HO690.out)) k_ hk_.2.1),(Kd.Qg (g:=gb685) (o:=.cells #[.slice Ao156 t681.length co156] 25 (0,0)) (byaf BK685.out) k_ hk_.2.1),(Kd.Qg (g:=gb692) (o:=.cells #[.int .i64 t686,.int .i64 t687,.slice Ao164 t688.length co164] 28 (0,0)) (byaf BK692.out) k_ hk_.2.1),(qC.fresh (bybp HI680.out NB680_685.out NB680_692.out) k_ hk_.2.1)⟩)) (vF (bybq HI680.out GE685.out GE692.out))) (hb) (hi)
      clear HO683 BK685 HO690 BK692 HB HI680
      obtain ⟨HO683,BK685,HO690,BK692,HO699,HB,HI680⟩:=n_
      (try clear hb)
      (try clear hb2)
      (try clear hk)
      (try clear hi)
      (try clear ho0)
      obtain ⟨Ao169,co169,eo169⟩:=Kd.Q5 HO699.out
      (first|subst eo169|(injection eo169 with f1_ f2_ f3_;have f4_:=f1_.symm;have f5_:=f3_.symm;clear f1_ f2_ f3_;subst f4_;subst f5_))
      refine hK.out _ _ ((qK BK685.out 0).trans rfl) (fun hHeld=>?_)
      clear hK K
      refine uO (N:=some 33) ?_
      refine one_ (i:=7) (N:=some 34) (bb 22 255) rfl rfl (uI HT_.out (by kernel_rfl)) (by decide) (fun K hK=>?_)
      refine uZ Try.func20 (by kernel_rfl) rfl #[.agg #[.slice Ao156 t681.length co156],.agg #[.int .i64 t695,.int .i64 t696,.slice Ao169 t697.length co169]] (by rfl) rfl rfl byah ?_
      with_reducible refine (vM.calls k _ _ t681 t695 t696 _ _ t697 false _ ?side1 ?side2 ?side3 ?side4 A108.out).mono ?_
      (case side1=>exact bybh HO683.out)
      (case side2=>exact bybi HO683.out)
      (case side3=>exact bybh HO699.out)
      (case side4=>exact bybi HO699.out)
      rintro e w170 ⟨rfl,hb⟩
      refine ⟨_,rfl,?_⟩
      have n_:=q_7 (Kd.uF (byba HO683.out) hb) (Kd.uF (byba HO690.out) hb) (Kd.uF (byba HO699.out) hb) (qC.below (bybp HI680.out NB680_685.out NB680_692.out) hb) (qE BK685.out hb) (qE BK692.out hb) (qB (bybq HI680.out GE685.out GE692.out) hb)
      clear HO683 HO690 HO699 HI680 BK685 BK692 HB
      obtain ⟨HO683,HO690,HO699,HI680,BK685,BK692,HB⟩:=n_
      (try clear hb)
      (try clear hb2)
      (try clear hk)
      (try clear hi)
      refine hK.out _ _ ((qK BK685.out 0).trans rfl) (fun hHeld=>?_)
      clear hK K
      refine uO (N:=some 34) ?_
      refine qP (i:=8) (N:=some 35) (bb 22 511) ?_
      refine qP (i:=9) (N:=some 36) (bb 22 1023) ?_
      refine qP (i:=10) (N:=some 37) (bb 22 2047) ?_
      refine qP (i:=12) (N:=some 39) (bb 22 6143) ?_
      refine takeZC (i:=11) (N:=some 38) (bb 22 8191) hHeld ?_
      refine takeZC (i:=13) (N:=some 40) (bb 22 16383) hHeld ?_
      refine one_ (i:=14) (N:=some 41) (bb 22 32767) rfl rfl (uI HT_.out (by kernel_rfl)) (by decide) (fun K hK=>?_)
      refine uZ Try.func19 (by kernel_rfl) rfl #[.pointer (some ⟨g680,0,none⟩),.agg #[.slice Ao156 t681.length co156],.bool true] (by rfl) rfl rfl byah ?_
      with_reducible refine (uJ.calls k g680 t678 t700 _ _ t681 true t702 t703 t704 t707 w _ ?side1 ?side2 ?side3 ?side4 A128.out).mono ?_
      (case side1=>exact bybp HI680.out NB680_685.out NB680_692.out)
      (case side2=>exact bybq HI680.out GE685.out GE692.out)
      (case side3=>exact Kd.C_foot_ownV (base:=0) (Kd.N_V (Kd.vT (ok:=fun k_=>((((k_≠g680∧k_≠gb685)∧some k_≠(.slice Ao164 t688.length co164 : Value).ownBlock)∧k_≠gb692)∧some k_≠(.slice Ao169 t697.length co169 : Value).ownBlock)) (byba HO683.out) (fun k_ hk_=>(⟨hk_,hk_.1.1.1.1⟩ : _∧k_≠g680)))) (fun _ h_=>h_.2))
      (case side4=>exact bybi HO683.out)
      rintro e w171 ⟨v705,rfl,ho0,hi,hb,hk⟩
      refine ⟨_,rfl,?_⟩
      have n_:=q_8 (Kd.vT (Kd.N_told (Kd.N_oldK (Kd.vT (ok:=fun k_=>((((k_≠g680∧k_≠gb685)∧some k_≠(.slice Ao164 t688.length co164 : Value).ownBlock)∧k_≠gb692)∧some k_≠(.slice Ao169 t697.length co169 : Value).ownBlock)) (byba HO683.out) (fun k_ hk_=>(⟨hk_,hk_.1.1.1.1⟩ : _∧k_≠g680))) hk) (Kd.kR ho0)) (fun _ h_=>h_.1)) (qJ.blkB hk BK685.out NB685_680.out (by simp)) (Kd.vT (Kd.N_told (Kd.N_oldK (Kd.vT (ok:=fun k_=>(((some k_≠(.slice Ao156 t681.length co156 : Value).ownBlock∧(k_≠gb685∧k_≠g680))∧k_≠gb692)∧some k_≠(.slice Ao169 t697.length co169 : Value).ownBlock)) (byba HO690.out) (fun k_ hk_=>(⟨hk_,hk_.1.1.2.2⟩ : _∧k_≠g680))) hk) (Kd.kR ho0)) (fun _ h_=>h_.1)) (qJ.blkB hk BK692.out NB692_680.out (by simp)) (Kd.vT (Kd.N_told (Kd.N_oldK (Kd.vT (ok:=fun k_=>(some k_≠(.slice Ao156 t681.length co156 : Value).ownBlock∧(some k_≠(.slice Ao164 t688.length co164 : Value).ownBlock∧(k_≠gb685∧(k_≠gb692∧k_≠g680))))) (byba HO699.out) (fun k_ hk_=>(⟨hk_,hk_.2.2.2.2⟩ : _∧k_≠g680))) hk) (Kd.kR ho0)) (fun _ h_=>h_.1)) (Kd.Q8 (Kd.vT (ok':=fun k_=>some k_≠(.slice Ao156 t681.length co156 : Value).ownBlock∧some k_≠(.slice Ao164 t688.length co164 : Value).ownBlock∧some k_≠(.slice Ao169 t697.length co169 : Value).ownBlock∧k_≠gb685∧k_≠gb692∧k_≠g680) (Kd.R_N (Kd.Qp ho0)) (fun k_ hk_=>⟨(Kd.fresh' (Kd.N_lt (byba HO683.out)) k_ hk_.2.1),(Kd.fresh' (Kd.N_lt (byba HO690.out)) k_ hk_.2.1),(Kd.fresh' (Kd.N_lt (byba HO699.out)) k_ hk_.2.1),(Kd.Qg (g:=gb685) (o:=.cells #[.slice Ao156 t681.length co156] 25 (0,0)) (byaf BK685.out) k_ hk_.2.1),(Kd.Qg (g:=gb692) (o:=.cells #[.int .i64 t686,.int .i64 t687,.slice Ao164 t688.length co164] 28 (0,0)) (byaf BK692.out) k_ hk_.2.1),(qC.fresh (bybp HI680.out NB680_685.out NB680_692.out) k_ hk_.2.1)⟩)) (vF (bybq HI680.out GE685.out GE692.out))) (hb) (hi)
      clear HO683 BK685 HO690 BK692 HO699 HB HI680
      obtain ⟨HO683,BK685,HO690,BK692,HO699,HO706,HB,HI680⟩:=n_
      (try clear hb)
      (try clear hb2)
      (try clear hk)
      (try clear hi)
      (try clear ho0)
      obtain ⟨Ao172,co172,eo172⟩:=Kd.Q5 HO706.out
      (first|subst eo172|(injection eo172 with f1_ f2_ f3_;have f4_:=f1_.symm;have f5_:=f3_.symm;clear f1_ f2_ f3_;subst f4_;subst f5_))
      refine hK.out _ _ ((qK BK685.out 0).trans rfl) (fun hHeld=>?_)
      clear hK K
      refine uO (N:=some 41) ?_
      refine one_ (i:=15) (N:=some 42) (bb 22 65535) rfl rfl (uI HT_.out (by kernel_rfl)) (by decide) (fun K hK=>?_)
      refine uZ Try.func20 (by kernel_rfl) rfl #[.agg #[.slice Ao156 t681.length co156],.agg #[.int .i64 t702,.int .i64 t703,.slice Ao172 t704.length co172]] (by rfl) rfl rfl byah ?_
      with_reducible refine (vM.calls k _ _ t681 t702 t703 _ _ t704 false _ ?side1 ?side2 ?side3 ?side4 A129.out).mono ?_
      (case side1=>exact bybh HO683.out)
      (case side2=>exact bybi HO683.out)
      (case side3=>exact bybh HO706.out)
      (case side4=>exact bybi HO706.out)
      rintro e w173 ⟨rfl,hb⟩
      refine ⟨_,rfl,?_⟩
      have n_:=q_8 (Kd.uF (byba HO683.out) hb) (Kd.uF (byba HO690.out) hb) (Kd.uF (byba HO699.out) hb) (Kd.uF (byba HO706.out) hb) (qC.below (bybp HI680.out NB680_685.out NB680_692.out) hb) (qE BK685.out hb) (qE BK692.out hb) (qB (bybq HI680.out GE685.out GE692.out) hb)
      clear HO683 HO690 HO699 HO706 HI680 BK685 BK692 HB
      obtain ⟨HO683,HO690,HO699,HO706,HI680,BK685,BK692,HB⟩:=n_
      (try clear hb)
      (try clear hb2)
      (try clear hk)
      (try clear hi)
      refine hK.out _ _ ((qK BK685.out 0).trans rfl) (fun hHeld=>?_)
      clear hK K
      refine uO (N:=some 42) ?_
      refine qP (i:=16) (N:=some 43) (bb 22 131071) ?_
      refine qP (i:=17) (N:=some 44) (bb 22 262143) ?_
      refine qP (i:=18) (N:=some 45) (bb 22 524287) ?_
      refine one_ (i:=19) (N:=some 46) (bb 22 1048575) rfl rfl (uI HT_.out (by kernel_rfl)) (by decide) (fun K hK=>?_)
      refine uZ Try.func10 (by kernel_rfl) rfl #[] (by rfl) rfl rfl byah ?_
      with_reducible refine (zS.calls k  t709 _ A152.out).mono ?_
      rintro e w174 ⟨rfl,hb⟩
      refine ⟨_,rfl,?_⟩
      have n_:=q_8 (Kd.uF (byba HO683.out) hb) (Kd.uF (byba HO690.out) hb) (Kd.uF (byba HO699.out) hb) (Kd.uF (byba HO706.out) hb) (qC.below (bybp HI680.out NB680_685.out NB680_692.out) hb) (qE BK685.out hb) (qE BK692.out hb) (qB (bybq HI680.out GE685.out GE692.out) hb)
      clear HO683 HO690 HO699 HO706 HI680 BK685 BK692 HB
      obtain ⟨HO683,HO690,HO699,HO706,HI680,BK685,BK692,HB⟩:=n_
      (try clear hb)
      (try clear hb2)
      (try clear hk)
      (try clear hi)
      refine hK.out _ _ ((qK BK685.out 0).trans rfl) (fun hHeld=>?_)
      clear hK K
      refine uO (N:=some 46) ?_
      refine qP (i:=20) (N:=some 47) (bb 22 2097151) ?_
      refine qP (i:=21) (N:=some 2) (bb 22 4194303) ?_
      refine Qm (Qi HT_.out (by kernel_rfl)) ?_
      try go_wp2
      go_ret
      exact ⟨byac,bybq HI680.out GE685.out GE692.out⟩
   ·rw [if_neg c106] at H
    obtain ⟨c106b0,c106b1⟩:=eqF c106
    exfalso;rw [hr_.out] at H;simp at H
 ·rw [if_neg c6] at H
  obtain ⟨c6b0,c6b1⟩:=eqF c6
  exfalso;rw [hr_.out] at H;simp at H
def trustquorumlaw12_IntersectionProves.Pure : Prop:=∀ (l0 : List Int),l0.length ≤ maxLen→l0.length * 8 ≤ 140737488351232→(∀ x ∈ l0,(Lit.int .i64 x).wf = true)→∃ k,trustquorumlaw12_IntersectionProves.f k l0 = some true
theorem trustquorumlaw12_IntersectionProves.walk (P : trustquorumlaw12_IntersectionProves.Pure) (a0 : Option Addr) (len0 cap0 : Nat) (z0 : List Int) (w : World) (w0 : (a0 = none∧len0 = 0∧cap0 = 0∧z0 = [])∨∃ x,a0 = some x∧len0 ≤ cap0∧cap0 ≤ maxLen∧z0.length = cap0∧(∀ i,i < z0.length→w.cell? (x.add i) = some (.int .i64 (z0.getD i 0)))∧∀ n ∈ z0,(Lit.int .i64 n).wf = true) (y0 : len0 * 8 ≤ 140737488351232) :
  Calls Try.prog 5 #[.slice a0 len0 cap0] w fun e w'=>e = .returned (.bool true)∧Below w.heap.size w w':=by
 obtain ⟨l0,rfl,hr0,hm0,hw0,hc0⟩:=Qd.ofRowC w0
 obtain ⟨k,h⟩:=P l0 hm0 y0 hw0
 refine (trustquorumlaw12_IntersectionProves.calls k _ _ l0 true w (Kd.C_of_reads (d:=(0 : Int)) (h1:=fun _=>rfl) hr0) hc0 ⟨rfl⟩ h).mono ?_
 rintro e w' ⟨rfl,hd⟩
 exact ⟨rfl,hd⟩
end Go.Proofs.Ytkkbdimegpdbgaa.P
