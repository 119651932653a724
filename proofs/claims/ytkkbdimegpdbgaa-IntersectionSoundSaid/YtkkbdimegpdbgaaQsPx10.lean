/- Functions of the program as Lean functions, and the walks that show that the calls answer so; written by a program of this session (a changed print) and by hand. -/
import Derived.Test.YtkkbdimegpdbgaaQsPx0
import Derived.Test.YtkkbdimegpdbgaaQsPx5
import Derived.Test.YtkkbdimegpdbgaaQsPx7
import Derived.Test.YtkkbdimegpdbgaaQsPx9
namespace Go.Proofs.Ytkkbdimegpdbgaa.P
open Go.RowKit Go.Proofs.YtkkbdimegpdbgaaW.PrintWords Go.Proofs.YtkkbdimegpdbgaaW.PrintLast Go.Proofs.YtkkbdimegpdbgaaW.PrintMore
attribute [local go_sem] kF kD kV kU uJ uK kG kE
set_option linter.unusedVariables false
set_option linter.unusedSimpArgs false
def zM.f (k : Nat)  : Option (Bool):=(zA.f k 3 2).bind fun t272=>((vS.f k t272).bind fun bt275=>((zA.f k 3 1).bind fun t277=>((uG.f k t277).bind fun bt280=>((zA.f k 3 2).bind fun t283=>((uT.f k t283).bind fun bt286=>(if bt275.2 = 0 then (if bt275.1 = true then (if bt280.2.2 = 0 then (if bt280.1 = 1 then (if bt280.2.1 = 6 then (if bt286.2.2.2 = 0 then ((zA.f k 3 2).bind fun t293=>((vT.f k t293 bt286.1 bt286.2.1 bt286.2.2.1).bind fun t296=>(if t296 = true then ((zQ.f k bt286.1 bt286.2.1 bt286.2.2.1).bind fun t297=>(some (decide (t297 > 1)))) else (some false)))) else (some false)) else (some false)) else (some false)) else (some false)) else (some false)) else (some false)))))))
theorem zM.mono : ∀ k,LeO (zM.f k ) (zM.f (k + 1) ):=by
 intro  k
 unfold zM.f
 repeat' first
   | (with_reducible exact vT.mono _ _ _ _ _)
   | (with_reducible exact uG.mono _ _)
   | (with_reducible exact vS.mono _ _)
   | (with_reducible exact uT.mono _ _)
   | (with_reducible exact zQ.mono _ _ _ _)
   | (with_reducible exact zA.mono _ _ _)
   | (with_reducible exact LeO.refl _)
   | (with_reducible exact LeO.none _)
   | (with_reducible refine LeO.ite ?_ ?_)
   | (with_reducible refine LeO.bind ?_ (fun _=>?_))
   | exact vT.mono _ _ _ _ _
   | exact uG.mono _ _
   | exact vS.mono _ _
   | exact uT.mono _ _
   | exact zQ.mono _ _ _ _
   | exact zA.mono _ _ _
   | exact LeO.none _
   | refine LeO.ite ?_ ?_
   | refine LeO.bind ?_ (fun _=>?_)
def zM.T4 : Bool × List (List Nat × List Nat):=(true,[([],[]),([0],[0]),([1],[1]),([2],[2]),([2,3],[2,3]),([4,2],[4]),([5],[5]),([6,5],[5,6]),([5,7],[5,7]),([8,5],[8]),([9],[9]),([10,9],[9,10]),([9,11],[9,11]),([12,9],[12]),([13],[13]),([14,13],[13,14]),([13,15],[13,15]),([16,13],[16]),([17],[17]),([18,17],[17,18]),([17,19],[17,19]),([20,17],[20]),([21,21],[21]),([21],[21]),([22,23,22,21],[21,22,23]),([21,24],[21,24]),([25,24],[25]),([26],[26]),([27,26,26],[26,27]),([28,26],[26,28]),([26,29],[26,29]),([30,28,0,1,2,3,4,5,6,7,8,9,10,11,12,13,14,15,16,17,18,19,20,21,22,23,24,25,26,27,28,29,30],[30])])
def zM.B4 : List Nat:=[0,1,3,7,15,31,63,127,255,511,1023,2047,4095,8191,16383,32767,65535,131071,262143,524287,1048575,2097151,4194303,4194303,16777215,33554431,67108863,134217727,268435455,536870911,1073741823,2147483647]
theorem zM.tab4 : rtab .any (opsOf Try.f10 4) = zM.T4:=by kernel_rfl
theorem zM.bits4 : Qv zM.T4.2 zM.B4 = true:=by kernel_rfl
set_option maxHeartbeats 8000000 in
set_option maxRecDepth 100000 in
theorem zM.calls1 (k : Nat)  (r : Bool) (w : World) (hr_ : qA (r = true)) (h : zM.f k  = some r) :
  Calls Try.prog 10 #[] w fun e w'=>e = .returned (.bool r)∧Below w.heap.size w w':=by
 have hu28:=Try.underlying28
 have HB:=qA.mk (Below.refl w.heap.size w)
 unfold zM.f at h
 have H:=h
 clear h
 replace H:=Option.bind_eq_some_iff.mp H
 obtain ⟨t272,A10,H⟩:=H
 try dsimp only at H
 have A1:=qA.mk A10
 clear A10
 replace H:=Option.bind_eq_some_iff.mp H
 obtain ⟨⟨t275,t276⟩,A20,H⟩:=H
 try dsimp only at H
 have A2:=qA.mk A20
 clear A20
 replace H:=Option.bind_eq_some_iff.mp H
 obtain ⟨t277,A30,H⟩:=H
 try dsimp only at H
 have A3:=qA.mk A30
 clear A30
 replace H:=Option.bind_eq_some_iff.mp H
 obtain ⟨⟨t280,t281,t282⟩,A40,H⟩:=H
 try dsimp only at H
 have A4:=qA.mk A40
 clear A40
 replace H:=Option.bind_eq_some_iff.mp H
 obtain ⟨t283,A50,H⟩:=H
 try dsimp only at H
 have A5:=qA.mk A50
 clear A50
 replace H:=Option.bind_eq_some_iff.mp H
 obtain ⟨⟨t286,t287,t288,t291⟩,A60,H⟩:=H
 try dsimp only at H
 have A6:=qA.mk A60
 clear A60
 by_cases c7 : t276 = 0
 ·rw [if_pos c7] at H
  obtain ⟨c7b0,c7b1⟩:=eqT c7
  clear c7
  by_cases c8 : t275 = true
  ·subst c8
   rw [if_pos rfl] at H
   by_cases c9 : t282 = 0
   ·rw [if_pos c9] at H
    obtain ⟨c9b0,c9b1⟩:=eqT c9
    clear c9
    by_cases c10 : t280 = 1
    ·rw [if_pos c10] at H
     obtain ⟨c10b0,c10b1⟩:=eqT c10
     clear c10
     by_cases c11 : t281 = 6
     ·rw [if_pos c11] at H
      obtain ⟨c11b0,c11b1⟩:=eqT c11
      clear c11
      by_cases c12 : t291 = 0
      ·rw [if_pos c12] at H
       obtain ⟨c12b0,c12b1⟩:=eqT c12
       clear c12
       replace H:=Option.bind_eq_some_iff.mp H
       obtain ⟨t293,A130,H⟩:=H
       try dsimp only at H
       have A13:=qA.mk A130
       clear A130
       replace H:=Option.bind_eq_some_iff.mp H
       obtain ⟨t296,A140,H⟩:=H
       try dsimp only at H
       have A14:=qA.mk A140
       clear A140
       by_cases c15 : t296 = true
       ·subst c15
        rw [if_pos rfl] at H
        replace H:=Option.bind_eq_some_iff.mp H
        obtain ⟨t297,A160,H⟩:=H
        try dsimp only at H
        have A16:=qA.mk A160
        clear A160
        obtain rfl:=Option.some.inj H
        go_enter Try.func10,Try.ntmps10
        try go_wp2_with (first|((with_reducible refine qI (f:=25) rfl ?_);refine qY (some 9) rfl rfl Try.func25 (by kernel_rfl) rfl #[.int .i64 3,.int .i64 2] rfl byah ?_;(with_reducible refine (zA.calls k 3 2 t272 _ A1.out).mono ?_);rintro e w17 ⟨v273,rfl,ho0,hb⟩;refine ⟨_,rfl,?_⟩;have n_:=q_2 (Kd.Zr (Kd.vX (ok':=fun k_=>True) (Kd.R_N (Kd.Qy ho0)) (fun k_ hk_=>trivial)) (jX byab)) (qC byab hb);clear HB;obtain ⟨HO274,HB⟩:=n_;clear hb;(try clear ho0);obtain ⟨Ao18,co18,eo18⟩:=Kd.Zn HO274.out;subst eo18)|((with_reducible refine qI (f:=14) rfl ?_);refine qY (some 10) rfl rfl Try.func14 (by kernel_rfl) rfl #[.agg #[.slice Ao18 t272.length co18]] rfl byah ?_;(with_reducible refine (vS.calls k _ _ t272 true t276 _ ?side1 ?side2 A2.out).mono ?_);(case side1=>exact bybh HO274.out);(case side2=>exact bybi HO274.out);rintro e w19 ⟨rfl,hb⟩;refine ⟨_,rfl,?_⟩;have n_:=q_2 (Kd.uV (byba HO274.out) hb) (qC byab hb);clear HO274 HB;obtain ⟨HO274,HB⟩:=n_;clear hb)|((with_reducible refine qI (f:=25) rfl ?_);refine qY (some 14) rfl rfl Try.func25 (by kernel_rfl) rfl #[.int .i64 3,.int .i64 1] rfl byah ?_;(with_reducible refine (zA.calls k 3 1 t277 _ A3.out).mono ?_);rintro e w20 ⟨v278,rfl,ho0,hb⟩;refine ⟨_,rfl,?_⟩;have n_:=q_3 (Kd.Zk (byba HO274.out) (Kd.kL ho0) hb) (Kd.Zr (Kd.vX (ok':=fun k_=>some k_≠(.slice Ao18 t272.length co18 : Value).ownBlock) (Kd.R_N (Kd.Qy ho0)) (fun k_ hk_=>(Kd.fresh' (Kd.N_lt (byba HO274.out)) k_ hk_.2.1))) (jX byab)) (qC byab hb);clear HO274 HB;obtain ⟨HO274,HO279,HB⟩:=n_;clear hb;(try clear ho0);obtain ⟨Ao21,co21,eo21⟩:=Kd.Zn HO279.out;subst eo21)|((with_reducible refine qI (f:=16) rfl ?_);refine qY (some 15) rfl rfl Try.func16 (by kernel_rfl) rfl #[.agg #[.slice Ao21 t277.length co21]] rfl byah ?_;(with_reducible refine (uG.calls k _ _ t277 t280 t281 t282 _ ?side1 ?side2 A4.out).mono ?_);(case side1=>exact bybh HO279.out);(case side2=>exact bybi HO279.out);rintro e w22 ⟨rfl,hb⟩;refine ⟨_,rfl,?_⟩;have n_:=q_3 (Kd.uV (byba HO274.out) hb) (Kd.uV (byba HO279.out) hb) (qC byab hb);clear HO274 HO279 HB;obtain ⟨HO274,HO279,HB⟩:=n_;clear hb)|((with_reducible refine qI (f:=25) rfl ?_);refine qY (some 20) rfl rfl Try.func25 (by kernel_rfl) rfl #[.int .i64 3,.int .i64 2] rfl byah ?_;(with_reducible refine (zA.calls k 3 2 t283 _ A5.out).mono ?_);rintro e w23 ⟨v284,rfl,ho0,hb⟩;refine ⟨_,rfl,?_⟩;have n_:=q_4 (Kd.Zk (byba HO274.out) (Kd.kL ho0) hb) (Kd.Zk (byba HO279.out) (Kd.kL ho0) hb) (Kd.Zr (Kd.vX (ok':=fun k_=>some k_≠(.slice Ao18 t272.length co18 : Value).ownBlock∧some k_≠(.slice Ao21 t277.length co21 : Value).ownBlock) (Kd.R_N (Kd.Qy ho0)) (fun k_ hk_=>⟨(Kd.fresh' (Kd.N_lt (byba HO274.out)) k_ hk_.2.1),(Kd.fresh' (Kd.N_lt (byba HO279.out)) k_ hk_.2.1)⟩)) (jX byab)) (qC byab hb);clear HO274 HO279 HB;obtain ⟨HO274,HO279,HO285,HB⟩:=n_;clear hb;(try clear ho0);obtain ⟨Ao24,co24,eo24⟩:=Kd.Zn HO285.out;subst eo24)|((with_reducible refine qI (f:=18) rfl ?_);refine qY (some 21) rfl rfl Try.func18 (by kernel_rfl) rfl #[.agg #[.slice Ao24 t283.length co24]] rfl byah ?_;(with_reducible refine (uT.calls k _ _ t283 t286 t287 t288 t291 _ ?side1 ?side2 A6.out).mono ?_);(case side1=>exact bybh HO285.out);(case side2=>exact bybi HO285.out);rintro e w25 ⟨v289,rfl,ho0,hb⟩;refine ⟨_,rfl,?_⟩;have n_:=q_5 (Kd.Zk (byba HO274.out) (Kd.N_base ho0) hb) (Kd.Zk (byba HO279.out) (Kd.N_base ho0) hb) (Kd.Zk (byba HO285.out) (Kd.N_base ho0) hb) (Kd.Zr (Kd.vX (ok':=fun k_=>some k_≠(.slice Ao18 t272.length co18 : Value).ownBlock∧some k_≠(.slice Ao21 t277.length co21 : Value).ownBlock∧some k_≠(.slice Ao24 t283.length co24 : Value).ownBlock) ho0 (fun k_ hk_=>⟨(Kd.fresh' (Kd.N_lt (byba HO274.out)) k_ hk_),(Kd.fresh' (Kd.N_lt (byba HO279.out)) k_ hk_),(Kd.fresh' (Kd.N_lt (byba HO285.out)) k_ hk_)⟩)) (jX byab)) (qC byab hb);clear HO274 HO279 HO285 HB;obtain ⟨HO274,HO279,HO285,HO290,HB⟩:=n_;clear hb;(try clear ho0))|((with_reducible refine qP (N:=6) rfl ?_);refine zV (N:=6) (cs:=#[.int .i64 0,.int .i64 0,.slice none 0 0]) (t:=28) ?_;intro gb292 hg w26 hbox hb;have n_:=q_8 (Kd.uV (Kd.Zo (byba HO274.out) gb292 (Nat.le_of_eq hg.symm)) hb) (Kd.uV (Kd.Zo (byba HO279.out) gb292 (Nat.le_of_eq hg.symm)) hb) (Kd.uV (Kd.Zo (byba HO285.out) gb292 (Nat.le_of_eq hg.symm)) hb) (Kd.uV (Kd.Zo (byba HO290.out) gb292 (Nat.le_of_eq hg.symm)) hb) (qC byab hb) (hbox) ((byck : w.heap.size ≤ gb292)) ((byck : w.heap.size ≤ gb292));clear HO274 HO279 HO285 HO290 HB;obtain ⟨HO274,HO279,HO285,HO290,HB,BK292,GW292,GE292⟩:=n_;clear hb hbox hg;obtain ⟨hcz27_0,hcz27_1,hcz27_2,hfz27_0,hfz27_1,hfz27_2⟩:=cz3 BK292.out;obtain ⟨Ao28,co28,eo28⟩:=Kd.Zn HO290.out;subst eo28))
        have n0_ : qA (Kd.N k58 58 (((w26.setCell ⟨gb292,0,none⟩ (.int .i64 t286)).setCell ⟨gb292,1,none⟩ (.int .i64 t287)).setCell ⟨gb292,2,none⟩ (.slice Ao28 t288.length co28)) w.heap.size (fun k_=>some k_≠(.slice Ao21 t277.length co21 : Value).ownBlock∧some k_≠(.slice Ao24 t283.length co24 : Value).ownBlock∧some k_≠(.slice Ao28 t288.length co28 : Value).ownBlock∧k_≠gb292) (.slice Ao18 t272.length co18) t272):=⟨by (with_reducible repeat (first|apply Kd.Qq|apply Kd.Qo|apply Kd.Qs));exact Kd.vX (Kd.kY (p:=⟨gb292,2,none⟩) (Kd.kY (p:=⟨gb292,1,none⟩) (Kd.kY (p:=⟨gb292,0,none⟩) (Kd.vX HO274.out (fun k_ hk=>(⟨hk,hk.2⟩ : _∧k_≠gb292))) (fun _ hk=>hk.2) (.int .i64 t286)) (fun _ hk=>hk.2) (.int .i64 t287)) (fun _ hk=>hk.2) (.slice Ao28 t288.length co28)) (fun _ hk=>⟨hk.1.1.1.1.2,⟨hk.1.1.1.2,⟨hk.1.1.2,hk.1.2⟩⟩⟩)⟩
        have n1_ : qA (Kd.N k58 58 (((w26.setCell ⟨gb292,0,none⟩ (.int .i64 t286)).setCell ⟨gb292,1,none⟩ (.int .i64 t287)).setCell ⟨gb292,2,none⟩ (.slice Ao28 t288.length co28)) w.heap.size (fun k_=>some k_≠(.slice Ao18 t272.length co18 : Value).ownBlock∧some k_≠(.slice Ao24 t283.length co24 : Value).ownBlock∧some k_≠(.slice Ao28 t288.length co28 : Value).ownBlock∧k_≠gb292) (.slice Ao21 t277.length co21) t277):=⟨by (with_reducible repeat (first|apply Kd.Qq|apply Kd.Qo|apply Kd.Qs));exact Kd.vX (Kd.kY (p:=⟨gb292,2,none⟩) (Kd.kY (p:=⟨gb292,1,none⟩) (Kd.kY (p:=⟨gb292,0,none⟩) (Kd.vX HO279.out (fun k_ hk=>(⟨hk,hk.2⟩ : _∧k_≠gb292))) (fun _ hk=>hk.2) (.int .i64 t286)) (fun _ hk=>hk.2) (.int .i64 t287)) (fun _ hk=>hk.2) (.slice Ao28 t288.length co28)) (fun _ hk=>⟨hk.1.1.1.1,⟨hk.1.1.1.2,⟨hk.1.1.2,hk.1.2⟩⟩⟩)⟩
        have n2_ : qA (Kd.N k58 58 (((w26.setCell ⟨gb292,0,none⟩ (.int .i64 t286)).setCell ⟨gb292,1,none⟩ (.int .i64 t287)).setCell ⟨gb292,2,none⟩ (.slice Ao28 t288.length co28)) w.heap.size (fun k_=>some k_≠(.slice Ao18 t272.length co18 : Value).ownBlock∧some k_≠(.slice Ao21 t277.length co21 : Value).ownBlock∧some k_≠(.slice Ao28 t288.length co28 : Value).ownBlock∧k_≠gb292) (.slice Ao24 t283.length co24) t283):=⟨by (with_reducible repeat (first|apply Kd.Qq|apply Kd.Qo|apply Kd.Qs));exact Kd.vX (Kd.kY (p:=⟨gb292,2,none⟩) (Kd.kY (p:=⟨gb292,1,none⟩) (Kd.kY (p:=⟨gb292,0,none⟩) (Kd.vX HO285.out (fun k_ hk=>(⟨hk,hk.2⟩ : _∧k_≠gb292))) (fun _ hk=>hk.2) (.int .i64 t286)) (fun _ hk=>hk.2) (.int .i64 t287)) (fun _ hk=>hk.2) (.slice Ao28 t288.length co28)) (fun _ hk=>⟨hk.1.1.1.1,⟨hk.1.1.1.2,⟨hk.1.1.2,hk.1.2⟩⟩⟩)⟩
        have n3_ : qA (Kd.N k28 28 (((w26.setCell ⟨gb292,0,none⟩ (.int .i64 t286)).setCell ⟨gb292,1,none⟩ (.int .i64 t287)).setCell ⟨gb292,2,none⟩ (.slice Ao28 t288.length co28)) w.heap.size (fun k_=>some k_≠(.slice Ao18 t272.length co18 : Value).ownBlock∧some k_≠(.slice Ao21 t277.length co21 : Value).ownBlock∧some k_≠(.slice Ao24 t283.length co24 : Value).ownBlock∧k_≠gb292) (.slice Ao28 t288.length co28) t288):=⟨by (with_reducible repeat (first|apply Kd.Qq|apply Kd.Qo|apply Kd.Qs));exact Kd.vX (Kd.kY (p:=⟨gb292,2,none⟩) (Kd.kY (p:=⟨gb292,1,none⟩) (Kd.kY (p:=⟨gb292,0,none⟩) (Kd.vX HO290.out (fun k_ hk=>(⟨hk,hk.2⟩ : _∧k_≠gb292))) (fun _ hk=>hk.2) (.int .i64 t286)) (fun _ hk=>hk.2) (.int .i64 t287)) (fun _ hk=>hk.2) (.slice Ao28 t288.length co28)) (fun _ hk=>⟨hk.1.1.1,⟨hk.1.1.2.1,⟨hk.1.1.2.2,hk.1.2⟩⟩⟩)⟩
        have n4_ : qA ((((w26.setCell ⟨gb292,0,none⟩ (.int .i64 t286)).setCell ⟨gb292,1,none⟩ (.int .i64 t287)).setCell ⟨gb292,2,none⟩ (.slice Ao28 t288.length co28)).heap[gb292]? = some (.cells #[.int .i64 t286,.int .i64 t287,.slice Ao28 t288.length co28] 28 (0,0))):=⟨by (with_reducible repeat (first|refine qF ?_ _|refine qG ?_|refine qE ?_ _));refine qO (cs:=#[.int .i64 t286,.int .i64 t287,.slice none 0 0]) ?_ 2 _ rfl;(with_reducible repeat (first|refine qF ?_ _|refine qG ?_|refine qE ?_ _));refine qO (cs:=#[.int .i64 t286,.int .i64 0,.slice none 0 0]) ?_ 1 _ rfl;(with_reducible repeat (first|refine qF ?_ _|refine qG ?_|refine qE ?_ _));refine qO (cs:=#[.int .i64 0,.int .i64 0,.slice none 0 0]) ?_ 0 _ rfl;(with_reducible repeat (first|refine qF ?_ _|refine qG ?_|refine qE ?_ _));exact BK292.out⟩
        have n5_ : qA (Below w.heap.size w (((w26.setCell ⟨gb292,0,none⟩ (.int .i64 t286)).setCell ⟨gb292,1,none⟩ (.int .i64 t287)).setCell ⟨gb292,2,none⟩ (.slice Ao28 t288.length co28))):=⟨byad GE292.out⟩
        (try clear HO274)
        (try clear HO279)
        (try clear HO285)
        (try clear HO290)
        (try clear BK292)
        (try clear HB)
        generalize (((w26.setCell ⟨gb292,0,none⟩ (.int .i64 t286)).setCell ⟨gb292,1,none⟩ (.int .i64 t287)).setCell ⟨gb292,2,none⟩ (.slice Ao28 t288.length co28)) = w29 at n0_ n1_ n2_ n3_ n4_ n5_ ⊢
        have HO274:=n0_
        have HO279:=n1_
        have HO285:=n2_
        have HO290:=n3_
        have BK292:=n4_
        have HB:=n5_
        clear n0_ n1_ n2_ n3_ n4_ n5_
        have n_:=q_6 (Kd.Qs HO274.out) (Kd.Qs HO279.out) (Kd.Qs HO285.out) (Kd.Qs HO290.out) (qG BK292.out) (vI HB.out)
        clear HO274 HO279 HO285 HO290 BK292 HB
        obtain ⟨HO274,HO279,HO285,HO290,BK292,HB⟩:=n_
        refine Qm (n:=32) (S:=fun w'=>w'.cell? ⟨gb292,0,none⟩ = some (.int .i64 t286)∧w'.cell? ⟨gb292,1,none⟩ = some (.int .i64 t287)∧w'.cell? ⟨gb292,2,none⟩ = some (.slice Ao28 t288.length co28)) (ds:=[]) (bb 32 0) (by kernel_rfl) rfl rfl (cv3 BK292.out) (fun hHeld=>?_);refine Qb zM.tab4 zM.bits4 (fun HT_ HW_=>?_)
        generalize w29.drew = w30 at HO274 HO279 HO285 HO290 BK292 HB hHeld ⊢
        refine zH (i:=0) (N:=some 24) (bb 32 1) ?_
        refine zH (i:=1) (N:=some 25) (bb 32 3) ?_
        refine zH (i:=2) (N:=some 26) (bb 32 7) ?_
        refine zH (i:=3) (N:=some 27) (bb 32 15) ?_
        refine zH (i:=4) (N:=some 28) (bb 32 31) ?_
        refine zH (i:=5) (N:=some 29) (bb 32 63) ?_
        refine zH (i:=6) (N:=some 30) (bb 32 127) ?_
        refine zH (i:=7) (N:=some 31) (bb 32 255) ?_
        refine zH (i:=8) (N:=some 32) (bb 32 511) ?_
        refine zH (i:=9) (N:=some 33) (bb 32 1023) ?_
        refine zH (i:=10) (N:=some 34) (bb 32 2047) ?_
        refine zH (i:=11) (N:=some 35) (bb 32 4095) ?_
        refine zH (i:=12) (N:=some 36) (bb 32 8191) ?_
        refine zH (i:=13) (N:=some 37) (bb 32 16383) ?_
        refine zH (i:=14) (N:=some 38) (bb 32 32767) ?_
        refine zH (i:=15) (N:=some 39) (bb 32 65535) ?_
        refine zH (i:=16) (N:=some 40) (bb 32 131071) ?_
        refine zH (i:=17) (N:=some 41) (bb 32 262143) ?_
        refine zH (i:=18) (N:=some 42) (bb 32 524287) ?_
        refine zH (i:=19) (N:=some 43) (bb 32 1048575) ?_
        refine zH (i:=20) (N:=some 44) (bb 32 2097151) ?_
        refine zH (i:=21) (N:=some 45) (bb 32 4194303) ?_
        refine takeZE (i:=23) (N:=some 47) (bb 32 12582911) hHeld ?_
        refine one_ (i:=22) (N:=some 46) (bb 32 16777215) rfl rfl (kC HT_.out (by kernel_rfl)) (by decide) (fun K hK=>?_)
        refine Qg Try.func25 (by kernel_rfl) rfl #[.int .i64 3,.int .i64 2] (by rfl) rfl rfl byah ?_
        with_reducible refine (zA.calls k 3 2 t293 _ A13.out).mono ?_
        rintro e w31 ⟨v294,rfl,ho0,hb⟩
        refine ⟨_,rfl,?_⟩
        have n_:=q_7 (Kd.Zk (byba HO274.out) (Kd.kL ho0) hb) (Kd.Zk (byba HO279.out) (Kd.kL ho0) hb) (Kd.Zk (byba HO285.out) (Kd.kL ho0) hb) (Kd.Zk (byba HO290.out) (Kd.kL ho0) hb) (Kd.Zr (Kd.vX (ok':=fun k_=>some k_≠(.slice Ao18 t272.length co18 : Value).ownBlock∧some k_≠(.slice Ao21 t277.length co21 : Value).ownBlock∧some k_≠(.slice Ao24 t283.length co24 : Value).ownBlock∧some k_≠(.slice Ao28 t288.length co28 : Value).ownBlock∧k_≠gb292) (Kd.R_N (Kd.Qy ho0)) (fun k_ hk_=>⟨(Kd.fresh' (Kd.N_lt (byba HO274.out)) k_ hk_.2.1),(Kd.fresh' (Kd.N_lt (byba HO279.out)) k_ hk_.2.1),(Kd.fresh' (Kd.N_lt (byba HO285.out)) k_ hk_.2.1),(Kd.fresh' (Kd.N_lt (byba HO290.out)) k_ hk_.2.1),(Kd.Qd (g:=gb292) (o:=.cells #[.int .i64 t286,.int .i64 t287,.slice Ao28 t288.length co28] 28 (0,0)) (byaf BK292.out) k_ hk_.2.1)⟩)) (jX (byad GE292.out))) (qH BK292.out hb) (qC (byad GE292.out) hb)
        clear HO274 HO279 HO285 HO290 BK292 HB
        obtain ⟨HO274,HO279,HO285,HO290,HO295,BK292,HB⟩:=n_
        (try clear hb)
        (try clear hb2)
        (try clear hk)
        (try clear hi)
        (try clear ho0)
        obtain ⟨Ao32,co32,eo32⟩:=Kd.Zn HO295.out
        (first|subst eo32|(injection eo32 with f1_ f2_ f3_;have f4_:=f1_.symm;have f5_:=f3_.symm;clear f1_ f2_ f3_;subst f4_;subst f5_))
        refine hK.out _ _ (cv3 BK292.out) (fun hHeld=>?_)
        clear hK K
        refine kN (N:=some 46) ?_
        refine one_ (i:=24) (N:=some 48) (bb 32 33554431) rfl rfl (kC HT_.out (by kernel_rfl)) (by decide) (fun K hK=>?_)
        refine Qg Try.func20 (by kernel_rfl) rfl #[.agg #[.slice Ao32 t293.length co32],.agg #[.int .i64 t286,.int .i64 t287,.slice Ao28 t288.length co28]] (by rfl) rfl rfl byah ?_
        with_reducible refine (vT.calls k _ _ t293 t286 t287 _ _ t288 true _ ?side1 ?side2 ?side3 ?side4 A14.out).mono ?_
        (case side1=>exact bybh HO295.out)
        (case side2=>exact bybi HO295.out)
        (case side3=>exact bybh HO290.out)
        (case side4=>exact bybi HO290.out)
        rintro e w33 ⟨rfl,hb⟩
        refine ⟨_,rfl,?_⟩
        have n_:=q_7 (Kd.uV (byba HO274.out) hb) (Kd.uV (byba HO279.out) hb) (Kd.uV (byba HO285.out) hb) (Kd.uV (byba HO290.out) hb) (Kd.uV (byba HO295.out) hb) (qH BK292.out hb) (qC (byad GE292.out) hb)
        clear HO274 HO279 HO285 HO290 HO295 BK292 HB
        obtain ⟨HO274,HO279,HO285,HO290,HO295,BK292,HB⟩:=n_
        (try clear hb)
        (try clear hb2)
        (try clear hk)
        (try clear hi)
        refine hK.out _ _ (cv3 BK292.out) (fun hHeld=>?_)
        clear hK K
        refine kN (N:=some 48) ?_
        refine zH (i:=25) (N:=some 49) (bb 32 67108863) ?_
        refine zH (i:=26) (N:=some 50) (bb 32 134217727) ?_
        refine takeZE (i:=27) (N:=some 51) (bb 32 268435455) hHeld ?_
        refine one_ (i:=28) (N:=some 52) (bb 32 536870911) rfl rfl (kC HT_.out (by kernel_rfl)) (by decide) (fun K hK=>?_)
        refine Qg Try.func22 (by kernel_rfl) rfl #[.agg #[.int .i64 t286,.int .i64 t287,.slice Ao28 t288.length co28]] (by rfl) rfl rfl byah ?_
        with_reducible refine (zQ.calls k t286 t287 _ _ t288 t297 _ ?side1 ?side2 A16.out).mono ?_
        (case side1=>exact bybh HO290.out)
        (case side2=>exact bybi HO290.out)
        rintro e w34 ⟨rfl,hb⟩
        refine ⟨_,rfl,?_⟩
        have n_:=q_7 (Kd.uV (byba HO274.out) hb) (Kd.uV (byba HO279.out) hb) (Kd.uV (byba HO285.out) hb) (Kd.uV (byba HO290.out) hb) (Kd.uV (byba HO295.out) hb) (qH BK292.out hb) (qC (byad GE292.out) hb)
        clear HO274 HO279 HO285 HO290 HO295 BK292 HB
        obtain ⟨HO274,HO279,HO285,HO290,HO295,BK292,HB⟩:=n_
        (try clear hb)
        (try clear hb2)
        (try clear hk)
        (try clear hi)
        refine hK.out _ _ (cv3 BK292.out) (fun hHeld=>?_)
        clear hK K
        refine kN (N:=some 52) ?_
        refine zH (i:=29) (N:=some 53) (bb 32 1073741823) ?_
        refine zH (i:=30) (N:=some 54) (bb 32 2147483647) ?_
        refine zH (i:=31) (N:=some 0) (bb 32 4294967295) ?_
        refine Ze (Qz HT_.out (by kernel_rfl)) ?_
        try go_wp2
        go_ret
        exact ⟨byac,byad GE292.out⟩
       ·replace c15:=Bool.eq_false_iff.mpr c15
        subst c15
        rw [if_neg (show ¬ (false = true) by decide)] at H
        exfalso;rw [hr_.out] at H;simp at H
      ·rw [if_neg c12] at H
       obtain ⟨c12b0,c12b1⟩:=eqF c12
       exfalso;rw [hr_.out] at H;simp at H
     ·rw [if_neg c11] at H
      obtain ⟨c11b0,c11b1⟩:=eqF c11
      exfalso;rw [hr_.out] at H;simp at H
    ·rw [if_neg c10] at H
     obtain ⟨c10b0,c10b1⟩:=eqF c10
     exfalso;rw [hr_.out] at H;simp at H
   ·rw [if_neg c9] at H
    obtain ⟨c9b0,c9b1⟩:=eqF c9
    exfalso;rw [hr_.out] at H;simp at H
  ·replace c8:=Bool.eq_false_iff.mpr c8
   subst c8
   rw [if_neg (show ¬ (false = true) by decide)] at H
   exfalso;rw [hr_.out] at H;simp at H
 ·rw [if_neg c7] at H
  obtain ⟨c7b0,c7b1⟩:=eqF c7
  exfalso;rw [hr_.out] at H;simp at H
theorem zM.is_true {k : Nat} {r : Bool} (h : zM.f k = some r) : r = true:=by
 have h1 : zM.f 300 = some true:=by decide +kernel
 have h2:=at_rounds zM.mono (Nat.le_max_left k 300) h
 have h3:=at_rounds zM.mono (Nat.le_max_right k 300) h1
 rw [h2] at h3
 exact Option.some.inj h3
theorem zM.calls (k : Nat)  (r : Bool) (w : World) (h : zM.f k  = some r) :
  Calls Try.prog 10 #[] w fun e w'=>e = .returned (.bool r)∧Below w.heap.size w w':=zM.calls1 k r w ⟨zM.is_true h⟩ h
end Go.Proofs.Ytkkbdimegpdbgaa.P
