/- Functions of the program as Lean functions, and the walks that show that the calls answer so; written by a program of this session (a changed print) and by hand. -/
import Derived.Test.YtkkbdimegpdbgaaQdPx0
import Derived.Test.YtkkbdimegpdbgaaQdPx5
import Derived.Test.YtkkbdimegpdbgaaQdPx7
import Derived.Test.YtkkbdimegpdbgaaQdPx9
namespace Go.Proofs.Ytkkbdimegpdbgaa.P
open Go.RowKit Go.Proofs.YtkkbdimegpdbgaaW.PrintWords Go.Proofs.YtkkbdimegpdbgaaW.PrintLast Go.Proofs.YtkkbdimegpdbgaaW.PrintMore
attribute [local go_sem] uH uI uQ uR vW vV uF uG
set_option linter.unusedVariables false
set_option linter.unusedSimpArgs false
def zQ.f (k : Nat)  : Option (Bool):=(qN.f k 3 2).bind fun t272=>((jG.f k t272).bind fun bt275=>((qN.f k 3 1).bind fun t277=>((intersection_Disjoint.f k t277).bind fun bt280=>((qN.f k 3 2).bind fun t283=>((jX.f k t283).bind fun bt286=>(if bt275.2 = 0 then (if bt275.1 = true then (if bt280.2.2 = 0 then (if bt280.1 = 1 then (if bt280.2.1 = 6 then (if bt286.2.2.2 = 0 then ((qN.f k 3 2).bind fun t293=>((jP.f k t293 bt286.1 bt286.2.1 bt286.2.2.1).bind fun t296=>(if t296 = true then ((zH.f k bt286.1 bt286.2.1 bt286.2.2.1).bind fun t297=>(some (decide (t297 > 1)))) else (some false)))) else (some false)) else (some false)) else (some false)) else (some false)) else (some false)) else (some false)))))))
theorem zQ.mono : ∀ k,LeO (zQ.f k ) (zQ.f (k + 1) ):=by
 intro  k
 unfold zQ.f
 repeat' first
   | (with_reducible exact jP.mono _ _ _ _ _)
   | (with_reducible exact intersection_Disjoint.mono _ _)
   | (with_reducible exact jG.mono _ _)
   | (with_reducible exact jX.mono _ _)
   | (with_reducible exact zH.mono _ _ _ _)
   | (with_reducible exact qN.mono _ _ _)
   | (with_reducible exact LeO.refl _)
   | (with_reducible exact LeO.none _)
   | (with_reducible refine LeO.ite ?_ ?_)
   | (with_reducible refine LeO.bind ?_ (fun _=>?_))
   | exact jP.mono _ _ _ _ _
   | exact intersection_Disjoint.mono _ _
   | exact jG.mono _ _
   | exact jX.mono _ _
   | exact zH.mono _ _ _ _
   | exact qN.mono _ _ _
   | exact LeO.none _
   | refine LeO.ite ?_ ?_
   | refine LeO.bind ?_ (fun _=>?_)
def zQ.T4 : Bool × List (List Nat × List Nat):=(true,[([],[]),([0],[0]),([1],[1]),([2],[2]),([2,3],[2,3]),([4,2],[4]),([5],[5]),([6,5],[5,6]),([5,7],[5,7]),([8,5],[8]),([9],[9]),([10,9],[9,10]),([9,11],[9,11]),([12,9],[12]),([13],[13]),([14,13],[13,14]),([13,15],[13,15]),([16,13],[16]),([17],[17]),([18,17],[17,18]),([17,19],[17,19]),([20,17],[20]),([21,21],[21]),([21],[21]),([22,23,22,21],[21,22,23]),([21,24],[21,24]),([25,24],[25]),([26],[26]),([27,26,26],[26,27]),([28,26],[26,28]),([26,29],[26,29]),([30,28,0,1,2,3,4,5,6,7,8,9,10,11,12,13,14,15,16,17,18,19,20,21,22,23,24,25,26,27,28,29,30],[30])])
def zQ.B4 : List Nat:=[0,1,3,7,15,31,63,127,255,511,1023,2047,4095,8191,16383,32767,65535,131071,262143,524287,1048575,2097151,4194303,4194303,16777215,33554431,67108863,134217727,268435455,536870911,1073741823,2147483647]
theorem zQ.tab4 : rtab .any (opsOf Try.f10 4) = zQ.T4:=by kernel_rfl
theorem zQ.bits4 : kL zQ.T4.2 zQ.B4 = true:=by kernel_rfl
set_option maxHeartbeats 8000000 in
set_option maxRecDepth 100000 in
theorem zQ.calls1 (k : Nat)  (r : Bool) (w : World) (hr_ : qA (r = true)) (h : zQ.f k  = some r) :
  Calls Try.prog 10 #[] w fun e w'=>e = .returned (.bool r)∧Below w.heap.size w w':=by
 have hu28:=Try.underlying28
 have HB:=qA.mk (Below.refl w.heap.size w)
 have H : ((qN.f k 3 2).bind fun t272=>((jG.f k t272).bind fun bt275=>((qN.f k 3 1).bind fun t277=>((intersection_Disjoint.f k t277).bind fun bt280=>((qN.f k 3 2).bind fun t283=>((jX.f k t283).bind fun bt286=>(if bt275.2 = 0 then (if bt275.1 = true then (if bt280.2.2 = 0 then (if bt280.1 = 1 then (if bt280.2.1 = 6 then (if bt286.2.2.2 = 0 then ((qN.f k 3 2).bind fun t293=>((jP.f k t293 bt286.1 bt286.2.1 bt286.2.2.1).bind fun t296=>(if t296 = true then ((zH.f k bt286.1 bt286.2.1 bt286.2.2.1).bind fun t297=>(some (decide (t297 > 1)))) else (some false)))) else (some false)) else (some false)) else (some false)) else (some false)) else (some false)) else (some false)))))))) = some r:=h
 clear h
 replace H:=Option.bind_eq_some_iff.mp H
 obtain ⟨t272,A10,H⟩:=H
 replace H : ((jG.f k t272).bind fun bt275=>((qN.f k 3 1).bind fun t277=>((intersection_Disjoint.f k t277).bind fun bt280=>((qN.f k 3 2).bind fun t283=>((jX.f k t283).bind fun bt286=>(if bt275.2 = 0 then (if bt275.1 = true then (if bt280.2.2 = 0 then (if bt280.1 = 1 then (if bt280.2.1 = 6 then (if bt286.2.2.2 = 0 then ((qN.f k 3 2).bind fun t293=>((jP.f k t293 bt286.1 bt286.2.1 bt286.2.2.1).bind fun t296=>(if t296 = true then ((zH.f k bt286.1 bt286.2.1 bt286.2.2.1).bind fun t297=>(some (decide (t297 > 1)))) else (some false)))) else (some false)) else (some false)) else (some false)) else (some false)) else (some false)) else (some false))))))) = some r:=H
 have A1:=qA.mk A10
 clear A10
 replace H:=Option.bind_eq_some_iff.mp H
 obtain ⟨⟨t275,t276⟩,A20,H⟩:=H
 replace H : ((qN.f k 3 1).bind fun t277=>((intersection_Disjoint.f k t277).bind fun bt280=>((qN.f k 3 2).bind fun t283=>((jX.f k t283).bind fun bt286=>(if t276 = 0 then (if t275 = true then (if bt280.2.2 = 0 then (if bt280.1 = 1 then (if bt280.2.1 = 6 then (if bt286.2.2.2 = 0 then ((qN.f k 3 2).bind fun t293=>((jP.f k t293 bt286.1 bt286.2.1 bt286.2.2.1).bind fun t296=>(if t296 = true then ((zH.f k bt286.1 bt286.2.1 bt286.2.2.1).bind fun t297=>(some (decide (t297 > 1)))) else (some false)))) else (some false)) else (some false)) else (some false)) else (some false)) else (some false)) else (some false)))))) = some r:=H
 have A2:=qA.mk A20
 clear A20
 replace H:=Option.bind_eq_some_iff.mp H
 obtain ⟨t277,A30,H⟩:=H
 replace H : ((intersection_Disjoint.f k t277).bind fun bt280=>((qN.f k 3 2).bind fun t283=>((jX.f k t283).bind fun bt286=>(if t276 = 0 then (if t275 = true then (if bt280.2.2 = 0 then (if bt280.1 = 1 then (if bt280.2.1 = 6 then (if bt286.2.2.2 = 0 then ((qN.f k 3 2).bind fun t293=>((jP.f k t293 bt286.1 bt286.2.1 bt286.2.2.1).bind fun t296=>(if t296 = true then ((zH.f k bt286.1 bt286.2.1 bt286.2.2.1).bind fun t297=>(some (decide (t297 > 1)))) else (some false)))) else (some false)) else (some false)) else (some false)) else (some false)) else (some false)) else (some false))))) = some r:=H
 have A3:=qA.mk A30
 clear A30
 replace H:=Option.bind_eq_some_iff.mp H
 obtain ⟨⟨t280,t281,t282⟩,A40,H⟩:=H
 replace H : ((qN.f k 3 2).bind fun t283=>((jX.f k t283).bind fun bt286=>(if t276 = 0 then (if t275 = true then (if t282 = 0 then (if t280 = 1 then (if t281 = 6 then (if bt286.2.2.2 = 0 then ((qN.f k 3 2).bind fun t293=>((jP.f k t293 bt286.1 bt286.2.1 bt286.2.2.1).bind fun t296=>(if t296 = true then ((zH.f k bt286.1 bt286.2.1 bt286.2.2.1).bind fun t297=>(some (decide (t297 > 1)))) else (some false)))) else (some false)) else (some false)) else (some false)) else (some false)) else (some false)) else (some false)))) = some r:=H
 have A4:=qA.mk A40
 clear A40
 replace H:=Option.bind_eq_some_iff.mp H
 obtain ⟨t283,A50,H⟩:=H
 replace H : ((jX.f k t283).bind fun bt286=>(if t276 = 0 then (if t275 = true then (if t282 = 0 then (if t280 = 1 then (if t281 = 6 then (if bt286.2.2.2 = 0 then ((qN.f k 3 2).bind fun t293=>((jP.f k t293 bt286.1 bt286.2.1 bt286.2.2.1).bind fun t296=>(if t296 = true then ((zH.f k bt286.1 bt286.2.1 bt286.2.2.1).bind fun t297=>(some (decide (t297 > 1)))) else (some false)))) else (some false)) else (some false)) else (some false)) else (some false)) else (some false)) else (some false))) = some r:=H
 have A5:=qA.mk A50
 clear A50
 replace H:=Option.bind_eq_some_iff.mp H
 obtain ⟨⟨t286,t287,t288,t291⟩,A60,H⟩:=H
 replace H : (if t276 = 0 then (if t275 = true then (if t282 = 0 then (if t280 = 1 then (if t281 = 6 then (if t291 = 0 then ((qN.f k 3 2).bind fun t293=>((jP.f k t293 t286 t287 t288).bind fun t296=>(if t296 = true then ((zH.f k t286 t287 t288).bind fun t297=>(some (decide (t297 > 1)))) else (some false)))) else (some false)) else (some false)) else (some false)) else (some false)) else (some false)) else (some false)) = some r:=H
 have A6:=qA.mk A60
 clear A60
 by_cases c7 : t276 = 0
 ·rw [if_pos c7] at H
  have c7b0 : (t276 == 0) = true:=beq_iff_eq.mpr c7
  have c7b1 : (t276 != 0) = false:=bne_eq_false_iff_eq.mpr c7
  clear c7
  by_cases c8 : t275 = true
  ·subst c8
   have H1 : (if t282 = 0 then (if t280 = 1 then (if t281 = 6 then (if t291 = 0 then ((qN.f k 3 2).bind fun t293=>((jP.f k t293 t286 t287 t288).bind fun t296=>(if t296 = true then ((zH.f k t286 t287 t288).bind fun t297=>(some (decide (t297 > 1)))) else (some false)))) else (some false)) else (some false)) else (some false)) else (some false)) = some r:=by rw [if_pos rfl] at H;exact H
   clear H
   have H:=H1
   clear H1
   by_cases c9 : t282 = 0
   ·rw [if_pos c9] at H
    have c9b0 : (t282 == 0) = true:=beq_iff_eq.mpr c9
    have c9b1 : (t282 != 0) = false:=bne_eq_false_iff_eq.mpr c9
    clear c9
    by_cases c10 : t280 = 1
    ·rw [if_pos c10] at H
     have c10b0 : (t280 == 1) = true:=beq_iff_eq.mpr c10
     have c10b1 : (t280 != 1) = false:=bne_eq_false_iff_eq.mpr c10
     clear c10
     by_cases c11 : t281 = 6
     ·rw [if_pos c11] at H
      have c11b0 : (t281 == 6) = true:=beq_iff_eq.mpr c11
      have c11b1 : (t281 != 6) = false:=bne_eq_false_iff_eq.mpr c11
      clear c11
      by_cases c12 : t291 = 0
      ·rw [if_pos c12] at H
       have c12b0 : (t291 == 0) = true:=beq_iff_eq.mpr c12
       have c12b1 : (t291 != 0) = false:=bne_eq_false_iff_eq.mpr c12
       clear c12
       replace H:=Option.bind_eq_some_iff.mp H
       obtain ⟨t293,A130,H⟩:=H
       replace H : ((jP.f k t293 t286 t287 t288).bind fun t296=>(if t296 = true then ((zH.f k t286 t287 t288).bind fun t297=>(some (decide (t297 > 1)))) else (some false))) = some r:=H
       have A13:=qA.mk A130
       clear A130
       replace H:=Option.bind_eq_some_iff.mp H
       obtain ⟨t296,A140,H⟩:=H
       replace H : (if t296 = true then ((zH.f k t286 t287 t288).bind fun t297=>(some (decide (t297 > 1)))) else (some false)) = some r:=H
       have A14:=qA.mk A140
       clear A140
       by_cases c15 : t296 = true
       ·subst c15
        have H1 : ((zH.f k t286 t287 t288).bind fun t297=>(some (decide (t297 > 1)))) = some r:=by rw [if_pos rfl] at H;exact H
        clear H
        have H:=H1
        clear H1
        replace H:=Option.bind_eq_some_iff.mp H
        obtain ⟨t297,A160,H⟩:=H
        replace H : (some (decide (t297 > 1))) = some r:=H
        have A16:=qA.mk A160
        clear A160
        obtain rfl:=Option.some.inj H
        go_enter Try.func10,Try.ntmps10
        try go_wp2_with (first|((with_reducible refine qI (f:=25) rfl ?_);refine zL (some 9) rfl rfl Try.func25 (by kernel_rfl) rfl #[.int .i64 3,.int .i64 2] rfl byah ?_;(with_reducible refine (qN.calls k 3 2 t272 _ A1.out).mono ?_);rintro e w17 ⟨v273,rfl,ho0,hb⟩;refine ⟨_,rfl,?_⟩;have n0_:=qA.mk (Kd.N_lower (Kd.uL (ok':=fun k_=>True) (Kd.R_N (Kd.kE ho0)) (fun k_ hk_=>trivial)) (j3 byab));have n1_:=qA.mk (qE byab hb);clear HB;have HO274:=n0_;have HB:=n1_;clear n0_ n1_;(try clear hb);(try clear hb2);(try clear hk);(try clear hi);(try clear ho0);obtain ⟨Ao18,co18,eo18⟩:=Kd.N_slice HO274.out;subst eo18)|((with_reducible refine qI (f:=14) rfl ?_);refine zL (some 10) rfl rfl Try.func14 (by kernel_rfl) rfl #[.agg #[.slice Ao18 t272.length co18]] rfl byah ?_;(with_reducible refine (jG.calls k _ _ t272 true t276 _ ?side1 ?side2 A2.out).mono ?_);(case side1=>exact bybe HO274.out);(case side2=>exact (Kd.kQ HO274.out).2.1);rintro e w19 ⟨rfl,hb⟩;refine ⟨_,rfl,?_⟩;have n0_:=qA.mk (Kd.uK (byax HO274.out) hb);have n1_:=qA.mk (qE byab hb);clear HO274;clear HB;have HO274:=n0_;have HB:=n1_;clear n0_ n1_;(try clear hb);(try clear hb2);(try clear hk);(try clear hi))|((with_reducible refine qI (f:=25) rfl ?_);refine zL (some 14) rfl rfl Try.func25 (by kernel_rfl) rfl #[.int .i64 3,.int .i64 1] rfl byah ?_;(with_reducible refine (qN.calls k 3 1 t277 _ A3.out).mono ?_);rintro e w20 ⟨v278,rfl,ho0,hb⟩;refine ⟨_,rfl,?_⟩;have n0_:=qA.mk (Kd.kK (byax HO274.out) (Kd.uD ho0) hb);have n1_:=qA.mk (Kd.N_lower (Kd.uL (ok':=fun k_=>some k_≠(.slice Ao18 t272.length co18 : Value).ownBlock) (Kd.R_N (Kd.kE ho0)) (fun k_ hk_=>(Kd.fresh' (Kd.N_lt (byax HO274.out)) k_ hk_.2.1))) (j3 byab));have n2_:=qA.mk (qE byab hb);clear HO274;clear HB;have HO274:=n0_;have HO279:=n1_;have HB:=n2_;clear n0_ n1_ n2_;(try clear hb);(try clear hb2);(try clear hk);(try clear hi);(try clear ho0);obtain ⟨Ao21,co21,eo21⟩:=Kd.N_slice HO279.out;subst eo21)|((with_reducible refine qI (f:=16) rfl ?_);refine zL (some 15) rfl rfl Try.func16 (by kernel_rfl) rfl #[.agg #[.slice Ao21 t277.length co21]] rfl byah ?_;(with_reducible refine (intersection_Disjoint.calls k _ _ t277 t280 t281 t282 _ ?side1 ?side2 A4.out).mono ?_);(case side1=>exact bybe HO279.out);(case side2=>exact (Kd.kQ HO279.out).2.1);rintro e w22 ⟨rfl,hb⟩;refine ⟨_,rfl,?_⟩;have n0_:=qA.mk (Kd.uK (byax HO274.out) hb);have n1_:=qA.mk (Kd.uK (byax HO279.out) hb);have n2_:=qA.mk (qE byab hb);clear HO274;clear HO279;clear HB;have HO274:=n0_;have HO279:=n1_;have HB:=n2_;clear n0_ n1_ n2_;(try clear hb);(try clear hb2);(try clear hk);(try clear hi))|((with_reducible refine qI (f:=25) rfl ?_);refine zL (some 20) rfl rfl Try.func25 (by kernel_rfl) rfl #[.int .i64 3,.int .i64 2] rfl byah ?_;(with_reducible refine (qN.calls k 3 2 t283 _ A5.out).mono ?_);rintro e w23 ⟨v284,rfl,ho0,hb⟩;refine ⟨_,rfl,?_⟩;have n0_:=qA.mk (Kd.kK (byax HO274.out) (Kd.uD ho0) hb);have n1_:=qA.mk (Kd.kK (byax HO279.out) (Kd.uD ho0) hb);have n2_:=qA.mk (Kd.N_lower (Kd.uL (ok':=fun k_=>some k_≠(.slice Ao18 t272.length co18 : Value).ownBlock∧some k_≠(.slice Ao21 t277.length co21 : Value).ownBlock) (Kd.R_N (Kd.kE ho0)) (fun k_ hk_=>⟨(Kd.fresh' (Kd.N_lt (byax HO274.out)) k_ hk_.2.1),(Kd.fresh' (Kd.N_lt (byax HO279.out)) k_ hk_.2.1)⟩)) (j3 byab));have n3_:=qA.mk (qE byab hb);clear HO274;clear HO279;clear HB;have HO274:=n0_;have HO279:=n1_;have HO285:=n2_;have HB:=n3_;clear n0_ n1_ n2_ n3_;(try clear hb);(try clear hb2);(try clear hk);(try clear hi);(try clear ho0);obtain ⟨Ao24,co24,eo24⟩:=Kd.N_slice HO285.out;subst eo24)|((with_reducible refine qI (f:=18) rfl ?_);refine zL (some 21) rfl rfl Try.func18 (by kernel_rfl) rfl #[.agg #[.slice Ao24 t283.length co24]] rfl byah ?_;(with_reducible refine (jX.calls k _ _ t283 t286 t287 t288 t291 _ ?side1 ?side2 A6.out).mono ?_);(case side1=>exact bybe HO285.out);(case side2=>exact (Kd.kQ HO285.out).2.1);rintro e w25 ⟨v289,rfl,ho0,hb⟩;refine ⟨_,rfl,?_⟩;have n0_:=qA.mk (Kd.kK (byax HO274.out) (Kd.N_base ho0) hb);have n1_:=qA.mk (Kd.kK (byax HO279.out) (Kd.N_base ho0) hb);have n2_:=qA.mk (Kd.kK (byax HO285.out) (Kd.N_base ho0) hb);have n3_:=qA.mk (Kd.N_lower (Kd.uL (ok':=fun k_=>some k_≠(.slice Ao18 t272.length co18 : Value).ownBlock∧some k_≠(.slice Ao21 t277.length co21 : Value).ownBlock∧some k_≠(.slice Ao24 t283.length co24 : Value).ownBlock) ho0 (fun k_ hk_=>⟨(Kd.fresh' (Kd.N_lt (byax HO274.out)) k_ hk_),(Kd.fresh' (Kd.N_lt (byax HO279.out)) k_ hk_),(Kd.fresh' (Kd.N_lt (byax HO285.out)) k_ hk_)⟩)) (j3 byab));have n4_:=qA.mk (qE byab hb);clear HO274;clear HO279;clear HO285;clear HB;have HO274:=n0_;have HO279:=n1_;have HO285:=n2_;have HO290:=n3_;have HB:=n4_;clear n0_ n1_ n2_ n3_ n4_;(try clear hb);(try clear hb2);(try clear hk);(try clear hi);(try clear ho0))|((with_reducible refine zK (N:=6) rfl ?_);refine q9 ?hg (N:=6) ?hd (cs:=#[.int .i64 0,.int .i64 0,.slice none 0 0]) (t:=28) ?hr ?_;(case hd=>rfl);(case hg=>rfl);(case hr=>exact byaa);intro gb292 hg w26 hbox hb;have n0_:=qA.mk (Kd.uK (Kd.N_elderB (byax HO274.out) gb292 (Nat.le_of_eq hg.symm)) hb);have n1_:=qA.mk (Kd.uK (Kd.N_elderB (byax HO279.out) gb292 (Nat.le_of_eq hg.symm)) hb);have n2_:=qA.mk (Kd.uK (Kd.N_elderB (byax HO285.out) gb292 (Nat.le_of_eq hg.symm)) hb);have n3_:=qA.mk (Kd.uK (Kd.N_elderB (byax HO290.out) gb292 (Nat.le_of_eq hg.symm)) hb);have n4_:=qA.mk (qE byab hb);have n5_:=qA.mk (hbox);have n6_:=qA.mk ((byby : w.heap.size ≤ gb292));have n7_:=qA.mk ((byby : w.heap.size ≤ gb292));clear HO274;clear HO279;clear HO285;clear HO290;clear HB;have HO274:=n0_;have HO279:=n1_;have HO285:=n2_;have HO290:=n3_;have HB:=n4_;have BK292:=n5_;have GW292:=n6_;have GE292:=n7_;clear n0_ n1_ n2_ n3_ n4_ n5_ n6_ n7_;clear hb hbox hg;have hcz27_0 : w26.cell? ⟨gb292,0,none⟩ = some (.int .i64 0):=(qC BK292.out 0).trans rfl;have hcz27_1 : w26.cell? ⟨gb292,1,none⟩ = some (.int .i64 0):=(qC BK292.out 1).trans rfl;have hcz27_2 : w26.cell? ⟨gb292,2,none⟩ = some (.slice none 0 0):=(qC BK292.out 2).trans rfl;have hfz27_0:=qB BK292.out 0;have hfz27_1:=qB BK292.out 1;have hfz27_2:=qB BK292.out 2;obtain ⟨Ao28,co28,eo28⟩:=Kd.N_slice HO290.out;subst eo28))
        have n0_ : qA (Kd.N k58 58 (((w26.setCell ⟨gb292,0,none⟩ (.int .i64 t286)).setCell ⟨gb292,1,none⟩ (.int .i64 t287)).setCell ⟨gb292,2,none⟩ (.slice Ao28 t288.length co28)) w.heap.size (fun k_=>some k_≠(.slice Ao21 t277.length co21 : Value).ownBlock∧some k_≠(.slice Ao24 t283.length co24 : Value).ownBlock∧some k_≠(.slice Ao28 t288.length co28 : Value).ownBlock∧k_≠gb292) (.slice Ao18 t272.length co18) t272):=⟨by (with_reducible repeat (first|apply Kd.N_alloc|apply Kd.N_drewN|apply Kd.N_drew));exact Kd.uL (Kd.N_far (p:=⟨gb292,2,none⟩) (Kd.N_far (p:=⟨gb292,1,none⟩) (Kd.N_far (p:=⟨gb292,0,none⟩) (Kd.uL HO274.out (fun k_ hk=>(⟨hk,hk.2⟩ : _∧k_≠gb292))) (fun _ hk=>hk.2) (.int .i64 t286)) (fun _ hk=>hk.2) (.int .i64 t287)) (fun _ hk=>hk.2) (.slice Ao28 t288.length co28)) (fun _ hk=>⟨hk.1.1.1.1.2,⟨hk.1.1.1.2,⟨hk.1.1.2,hk.1.2⟩⟩⟩)⟩
        have n1_ : qA (Kd.N k58 58 (((w26.setCell ⟨gb292,0,none⟩ (.int .i64 t286)).setCell ⟨gb292,1,none⟩ (.int .i64 t287)).setCell ⟨gb292,2,none⟩ (.slice Ao28 t288.length co28)) w.heap.size (fun k_=>some k_≠(.slice Ao18 t272.length co18 : Value).ownBlock∧some k_≠(.slice Ao24 t283.length co24 : Value).ownBlock∧some k_≠(.slice Ao28 t288.length co28 : Value).ownBlock∧k_≠gb292) (.slice Ao21 t277.length co21) t277):=⟨by (with_reducible repeat (first|apply Kd.N_alloc|apply Kd.N_drewN|apply Kd.N_drew));exact Kd.uL (Kd.N_far (p:=⟨gb292,2,none⟩) (Kd.N_far (p:=⟨gb292,1,none⟩) (Kd.N_far (p:=⟨gb292,0,none⟩) (Kd.uL HO279.out (fun k_ hk=>(⟨hk,hk.2⟩ : _∧k_≠gb292))) (fun _ hk=>hk.2) (.int .i64 t286)) (fun _ hk=>hk.2) (.int .i64 t287)) (fun _ hk=>hk.2) (.slice Ao28 t288.length co28)) (fun _ hk=>⟨hk.1.1.1.1,⟨hk.1.1.1.2,⟨hk.1.1.2,hk.1.2⟩⟩⟩)⟩
        have n2_ : qA (Kd.N k58 58 (((w26.setCell ⟨gb292,0,none⟩ (.int .i64 t286)).setCell ⟨gb292,1,none⟩ (.int .i64 t287)).setCell ⟨gb292,2,none⟩ (.slice Ao28 t288.length co28)) w.heap.size (fun k_=>some k_≠(.slice Ao18 t272.length co18 : Value).ownBlock∧some k_≠(.slice Ao21 t277.length co21 : Value).ownBlock∧some k_≠(.slice Ao28 t288.length co28 : Value).ownBlock∧k_≠gb292) (.slice Ao24 t283.length co24) t283):=⟨by (with_reducible repeat (first|apply Kd.N_alloc|apply Kd.N_drewN|apply Kd.N_drew));exact Kd.uL (Kd.N_far (p:=⟨gb292,2,none⟩) (Kd.N_far (p:=⟨gb292,1,none⟩) (Kd.N_far (p:=⟨gb292,0,none⟩) (Kd.uL HO285.out (fun k_ hk=>(⟨hk,hk.2⟩ : _∧k_≠gb292))) (fun _ hk=>hk.2) (.int .i64 t286)) (fun _ hk=>hk.2) (.int .i64 t287)) (fun _ hk=>hk.2) (.slice Ao28 t288.length co28)) (fun _ hk=>⟨hk.1.1.1.1,⟨hk.1.1.1.2,⟨hk.1.1.2,hk.1.2⟩⟩⟩)⟩
        have n3_ : qA (Kd.N k28 28 (((w26.setCell ⟨gb292,0,none⟩ (.int .i64 t286)).setCell ⟨gb292,1,none⟩ (.int .i64 t287)).setCell ⟨gb292,2,none⟩ (.slice Ao28 t288.length co28)) w.heap.size (fun k_=>some k_≠(.slice Ao18 t272.length co18 : Value).ownBlock∧some k_≠(.slice Ao21 t277.length co21 : Value).ownBlock∧some k_≠(.slice Ao24 t283.length co24 : Value).ownBlock∧k_≠gb292) (.slice Ao28 t288.length co28) t288):=⟨by (with_reducible repeat (first|apply Kd.N_alloc|apply Kd.N_drewN|apply Kd.N_drew));exact Kd.uL (Kd.N_far (p:=⟨gb292,2,none⟩) (Kd.N_far (p:=⟨gb292,1,none⟩) (Kd.N_far (p:=⟨gb292,0,none⟩) (Kd.uL HO290.out (fun k_ hk=>(⟨hk,hk.2⟩ : _∧k_≠gb292))) (fun _ hk=>hk.2) (.int .i64 t286)) (fun _ hk=>hk.2) (.int .i64 t287)) (fun _ hk=>hk.2) (.slice Ao28 t288.length co28)) (fun _ hk=>⟨hk.1.1.1,⟨hk.1.1.2.1,⟨hk.1.1.2.2,hk.1.2⟩⟩⟩)⟩
        have n4_ : qA ((((w26.setCell ⟨gb292,0,none⟩ (.int .i64 t286)).setCell ⟨gb292,1,none⟩ (.int .i64 t287)).setCell ⟨gb292,2,none⟩ (.slice Ao28 t288.length co28)).heap[gb292]? = some (.cells #[.int .i64 t286,.int .i64 t287,.slice Ao28 t288.length co28] 28 (0,0))):=⟨by (with_reducible repeat (first|refine qG ?_ _|refine qJ ?_|refine qF ?_ _));refine zJ (cs:=#[.int .i64 t286,.int .i64 t287,.slice none 0 0]) ?_ 2 _ rfl;(with_reducible repeat (first|refine qG ?_ _|refine qJ ?_|refine qF ?_ _));refine zJ (cs:=#[.int .i64 t286,.int .i64 0,.slice none 0 0]) ?_ 1 _ rfl;(with_reducible repeat (first|refine qG ?_ _|refine qJ ?_|refine qF ?_ _));refine zJ (cs:=#[.int .i64 0,.int .i64 0,.slice none 0 0]) ?_ 0 _ rfl;(with_reducible repeat (first|refine qG ?_ _|refine qJ ?_|refine qF ?_ _));exact BK292.out⟩
        have n5_ : qA (Below w.heap.size w (((w26.setCell ⟨gb292,0,none⟩ (.int .i64 t286)).setCell ⟨gb292,1,none⟩ (.int .i64 t287)).setCell ⟨gb292,2,none⟩ (.slice Ao28 t288.length co28))):=⟨byad GE292.out⟩
        (try clear HO274)
        (try clear HO279)
        (try clear HO285)
        (try clear HO290)
        (try clear BK292)
        (try clear HB)
        generalize (((w26.setCell ⟨gb292,0,none⟩ (.int .i64 t286)).setCell ⟨gb292,1,none⟩ (.int .i64 t287)).setCell ⟨gb292,2,none⟩ (.slice Ao28 t288.length co28)) = w29 at n0_ n1_ n2_ n3_ n4_ n5_ ⊢
        have HO274:=n0_
        have HO279:=n1_
        have HO285:=n2_
        have HO290:=n3_
        have BK292:=n4_
        have HB:=n5_
        clear n0_ n1_ n2_ n3_ n4_ n5_
        have n0_:=qA.mk (Kd.N_drew HO274.out)
        have n1_:=qA.mk (Kd.N_drew HO279.out)
        have n2_:=qA.mk (Kd.N_drew HO285.out)
        have n3_:=qA.mk (Kd.N_drew HO290.out)
        have n4_:=qA.mk (qJ BK292.out)
        have n5_:=qA.mk (jY HB.out)
        clear HO274
        clear HO279
        clear HO285
        clear HO290
        clear BK292
        clear HB
        have HO274:=n0_
        have HO279:=n1_
        have HO285:=n2_
        have HO290:=n3_
        have BK292:=n4_
        have HB:=n5_
        clear n0_ n1_ n2_ n3_ n4_ n5_
        refine kJ (n:=32) (S:=fun w'=>w'.cell? ⟨gb292,0,none⟩ = some (.int .i64 t286)∧w'.cell? ⟨gb292,1,none⟩ = some (.int .i64 t287)∧w'.cell? ⟨gb292,2,none⟩ = some (.slice Ao28 t288.length co28)) (ds:=[]) #[false,false,false,false,false,false,false,false,false,false,false,false,false,false,false,false,false,false,false,false,false,false,false,false,false,false,false,false,false,false,false,false] (by kernel_rfl) rfl rfl ⟨(qC BK292.out 0).trans rfl,(qC BK292.out 1).trans rfl,(qC BK292.out 2).trans rfl⟩ (fun hHeld=>?_);refine uY zQ.tab4 zQ.bits4 (fun HT_ HW_=>?_)
        generalize w29.drew = w30 at HO274 HO279 HO285 HO290 BK292 HB hHeld ⊢
        refine zY (i:=0) (N:=some 24) (v:=?_) (a':=?_) #[true,false,false,false,false,false,false,false,false,false,false,false,false,false,false,false,false,false,false,false,false,false,false,false,false,false,false,false,false,false,false,false] rfl rfl (zO HT_.out (by kernel_rfl)) (fun _ _ _ h=>h) (Or.inl ⟨by rfl,?_⟩) ?_ ?_
        rotate_left
        ·intro w'
         go_simp
         with_reducible rfl
        rotate_left
        ·simp only [Act.put,List.setIfInBounds_toArray,List.set_cons_zero,List.set_cons_succ,qY,zA]
         rfl
        refine zY (i:=1) (N:=some 25) (v:=?_) (a':=?_) #[true,true,false,false,false,false,false,false,false,false,false,false,false,false,false,false,false,false,false,false,false,false,false,false,false,false,false,false,false,false,false,false] rfl rfl (zO HT_.out (by kernel_rfl)) (fun _ _ _ h=>h) (Or.inl ⟨by rfl,?_⟩) ?_ ?_
        rotate_left
        ·intro w'
         go_simp
         with_reducible rfl
        rotate_left
        ·simp only [Act.put,List.setIfInBounds_toArray,List.set_cons_zero,List.set_cons_succ,qY,zA]
         rfl
        refine zY (i:=2) (N:=some 26) (v:=?_) (a':=?_) #[true,true,true,false,false,false,false,false,false,false,false,false,false,false,false,false,false,false,false,false,false,false,false,false,false,false,false,false,false,false,false,false] rfl rfl (zO HT_.out (by kernel_rfl)) (fun _ _ _ h=>h) (Or.inl ⟨by rfl,?_⟩) ?_ ?_
        rotate_left
        ·intro w'
         go_simp
         with_reducible rfl
        rotate_left
        ·simp only [Act.put,List.setIfInBounds_toArray,List.set_cons_zero,List.set_cons_succ,qY,zA]
         rfl
        refine zY (i:=3) (N:=some 27) (v:=?_) (a':=?_) #[true,true,true,true,false,false,false,false,false,false,false,false,false,false,false,false,false,false,false,false,false,false,false,false,false,false,false,false,false,false,false,false] rfl rfl (zO HT_.out (by kernel_rfl)) (fun _ _ _ h=>h) (Or.inl ⟨by rfl,?_⟩) ?_ ?_
        rotate_left
        ·intro w'
         go_simp
         with_reducible rfl
        rotate_left
        ·simp only [Act.put,List.setIfInBounds_toArray,List.set_cons_zero,List.set_cons_succ,qY,zA]
         rfl
        refine zY (i:=4) (N:=some 28) (v:=?_) (a':=?_) #[true,true,true,true,true,false,false,false,false,false,false,false,false,false,false,false,false,false,false,false,false,false,false,false,false,false,false,false,false,false,false,false] rfl rfl (zO HT_.out (by kernel_rfl)) (fun _ _ _ h=>h) (Or.inl ⟨by rfl,?_⟩) ?_ ?_
        rotate_left
        ·intro w'
         go_simp
         with_reducible rfl
        rotate_left
        ·simp only [Act.put,List.setIfInBounds_toArray,List.set_cons_zero,List.set_cons_succ,qY,zA]
         rfl
        refine zY (i:=5) (N:=some 29) (v:=?_) (a':=?_) #[true,true,true,true,true,true,false,false,false,false,false,false,false,false,false,false,false,false,false,false,false,false,false,false,false,false,false,false,false,false,false,false] rfl rfl (zO HT_.out (by kernel_rfl)) (fun _ _ _ h=>h) (Or.inl ⟨by rfl,?_⟩) ?_ ?_
        rotate_left
        ·intro w'
         go_simp
         with_reducible rfl
        rotate_left
        ·simp only [Act.put,List.setIfInBounds_toArray,List.set_cons_zero,List.set_cons_succ,qY,zA]
         rfl
        refine zY (i:=6) (N:=some 30) (v:=?_) (a':=?_) #[true,true,true,true,true,true,true,false,false,false,false,false,false,false,false,false,false,false,false,false,false,false,false,false,false,false,false,false,false,false,false,false] rfl rfl (zO HT_.out (by kernel_rfl)) (fun _ _ _ h=>h) (Or.inl ⟨by rfl,?_⟩) ?_ ?_
        rotate_left
        ·intro w'
         go_simp
         with_reducible rfl
        rotate_left
        ·simp only [Act.put,List.setIfInBounds_toArray,List.set_cons_zero,List.set_cons_succ,qY,zA]
         rfl
        refine zY (i:=7) (N:=some 31) (v:=?_) (a':=?_) #[true,true,true,true,true,true,true,true,false,false,false,false,false,false,false,false,false,false,false,false,false,false,false,false,false,false,false,false,false,false,false,false] rfl rfl (zO HT_.out (by kernel_rfl)) (fun _ _ _ h=>h) (Or.inl ⟨by rfl,?_⟩) ?_ ?_
        rotate_left
        ·intro w'
         go_simp
         with_reducible rfl
        rotate_left
        ·simp only [Act.put,List.setIfInBounds_toArray,List.set_cons_zero,List.set_cons_succ,qY,zA]
         rfl
        refine zY (i:=8) (N:=some 32) (v:=?_) (a':=?_) #[true,true,true,true,true,true,true,true,true,false,false,false,false,false,false,false,false,false,false,false,false,false,false,false,false,false,false,false,false,false,false,false] rfl rfl (zO HT_.out (by kernel_rfl)) (fun _ _ _ h=>h) (Or.inl ⟨by rfl,?_⟩) ?_ ?_
        rotate_left
        ·intro w'
         go_simp
         with_reducible rfl
        rotate_left
        ·simp only [Act.put,List.setIfInBounds_toArray,List.set_cons_zero,List.set_cons_succ,qY,zA]
         rfl
        refine zY (i:=9) (N:=some 33) (v:=?_) (a':=?_) #[true,true,true,true,true,true,true,true,true,true,false,false,false,false,false,false,false,false,false,false,false,false,false,false,false,false,false,false,false,false,false,false] rfl rfl (zO HT_.out (by kernel_rfl)) (fun _ _ _ h=>h) (Or.inl ⟨by rfl,?_⟩) ?_ ?_
        rotate_left
        ·intro w'
         go_simp
         with_reducible rfl
        rotate_left
        ·simp only [Act.put,List.setIfInBounds_toArray,List.set_cons_zero,List.set_cons_succ,qY,zA]
         rfl
        refine zY (i:=10) (N:=some 34) (v:=?_) (a':=?_) #[true,true,true,true,true,true,true,true,true,true,true,false,false,false,false,false,false,false,false,false,false,false,false,false,false,false,false,false,false,false,false,false] rfl rfl (zO HT_.out (by kernel_rfl)) (fun _ _ _ h=>h) (Or.inl ⟨by rfl,?_⟩) ?_ ?_
        rotate_left
        ·intro w'
         go_simp
         with_reducible rfl
        rotate_left
        ·simp only [Act.put,List.setIfInBounds_toArray,List.set_cons_zero,List.set_cons_succ,qY,zA]
         rfl
        refine zY (i:=11) (N:=some 35) (v:=?_) (a':=?_) #[true,true,true,true,true,true,true,true,true,true,true,true,false,false,false,false,false,false,false,false,false,false,false,false,false,false,false,false,false,false,false,false] rfl rfl (zO HT_.out (by kernel_rfl)) (fun _ _ _ h=>h) (Or.inl ⟨by rfl,?_⟩) ?_ ?_
        rotate_left
        ·intro w'
         go_simp
         with_reducible rfl
        rotate_left
        ·simp only [Act.put,List.setIfInBounds_toArray,List.set_cons_zero,List.set_cons_succ,qY,zA]
         rfl
        refine zY (i:=12) (N:=some 36) (v:=?_) (a':=?_) #[true,true,true,true,true,true,true,true,true,true,true,true,true,false,false,false,false,false,false,false,false,false,false,false,false,false,false,false,false,false,false,false] rfl rfl (zO HT_.out (by kernel_rfl)) (fun _ _ _ h=>h) (Or.inl ⟨by rfl,?_⟩) ?_ ?_
        rotate_left
        ·intro w'
         go_simp
         with_reducible rfl
        rotate_left
        ·simp only [Act.put,List.setIfInBounds_toArray,List.set_cons_zero,List.set_cons_succ,qY,zA]
         rfl
        refine zY (i:=13) (N:=some 37) (v:=?_) (a':=?_) #[true,true,true,true,true,true,true,true,true,true,true,true,true,true,false,false,false,false,false,false,false,false,false,false,false,false,false,false,false,false,false,false] rfl rfl (zO HT_.out (by kernel_rfl)) (fun _ _ _ h=>h) (Or.inl ⟨by rfl,?_⟩) ?_ ?_
        rotate_left
        ·intro w'
         go_simp
         with_reducible rfl
        rotate_left
        ·simp only [Act.put,List.setIfInBounds_toArray,List.set_cons_zero,List.set_cons_succ,qY,zA]
         rfl
        refine zY (i:=14) (N:=some 38) (v:=?_) (a':=?_) #[true,true,true,true,true,true,true,true,true,true,true,true,true,true,true,false,false,false,false,false,false,false,false,false,false,false,false,false,false,false,false,false] rfl rfl (zO HT_.out (by kernel_rfl)) (fun _ _ _ h=>h) (Or.inl ⟨by rfl,?_⟩) ?_ ?_
        rotate_left
        ·intro w'
         go_simp
         with_reducible rfl
        rotate_left
        ·simp only [Act.put,List.setIfInBounds_toArray,List.set_cons_zero,List.set_cons_succ,qY,zA]
         rfl
        refine zY (i:=15) (N:=some 39) (v:=?_) (a':=?_) #[true,true,true,true,true,true,true,true,true,true,true,true,true,true,true,true,false,false,false,false,false,false,false,false,false,false,false,false,false,false,false,false] rfl rfl (zO HT_.out (by kernel_rfl)) (fun _ _ _ h=>h) (Or.inl ⟨by rfl,?_⟩) ?_ ?_
        rotate_left
        ·intro w'
         go_simp
         with_reducible rfl
        rotate_left
        ·simp only [Act.put,List.setIfInBounds_toArray,List.set_cons_zero,List.set_cons_succ,qY,zA]
         rfl
        refine zY (i:=16) (N:=some 40) (v:=?_) (a':=?_) #[true,true,true,true,true,true,true,true,true,true,true,true,true,true,true,true,true,false,false,false,false,false,false,false,false,false,false,false,false,false,false,false] rfl rfl (zO HT_.out (by kernel_rfl)) (fun _ _ _ h=>h) (Or.inl ⟨by rfl,?_⟩) ?_ ?_
        rotate_left
        ·intro w'
         go_simp
         with_reducible rfl
        rotate_left
        ·simp only [Act.put,List.setIfInBounds_toArray,List.set_cons_zero,List.set_cons_succ,qY,zA]
         rfl
        refine zY (i:=17) (N:=some 41) (v:=?_) (a':=?_) #[true,true,true,true,true,true,true,true,true,true,true,true,true,true,true,true,true,true,false,false,false,false,false,false,false,false,false,false,false,false,false,false] rfl rfl (zO HT_.out (by kernel_rfl)) (fun _ _ _ h=>h) (Or.inl ⟨by rfl,?_⟩) ?_ ?_
        rotate_left
        ·intro w'
         go_simp
         with_reducible rfl
        rotate_left
        ·simp only [Act.put,List.setIfInBounds_toArray,List.set_cons_zero,List.set_cons_succ,qY,zA]
         rfl
        refine zY (i:=18) (N:=some 42) (v:=?_) (a':=?_) #[true,true,true,true,true,true,true,true,true,true,true,true,true,true,true,true,true,true,true,false,false,false,false,false,false,false,false,false,false,false,false,false] rfl rfl (zO HT_.out (by kernel_rfl)) (fun _ _ _ h=>h) (Or.inl ⟨by rfl,?_⟩) ?_ ?_
        rotate_left
        ·intro w'
         go_simp
         with_reducible rfl
        rotate_left
        ·simp only [Act.put,List.setIfInBounds_toArray,List.set_cons_zero,List.set_cons_succ,qY,zA]
         rfl
        refine zY (i:=19) (N:=some 43) (v:=?_) (a':=?_) #[true,true,true,true,true,true,true,true,true,true,true,true,true,true,true,true,true,true,true,true,false,false,false,false,false,false,false,false,false,false,false,false] rfl rfl (zO HT_.out (by kernel_rfl)) (fun _ _ _ h=>h) (Or.inl ⟨by rfl,?_⟩) ?_ ?_
        rotate_left
        ·intro w'
         go_simp
         with_reducible rfl
        rotate_left
        ·simp only [Act.put,List.setIfInBounds_toArray,List.set_cons_zero,List.set_cons_succ,qY,zA]
         rfl
        refine zY (i:=20) (N:=some 44) (v:=?_) (a':=?_) #[true,true,true,true,true,true,true,true,true,true,true,true,true,true,true,true,true,true,true,true,true,false,false,false,false,false,false,false,false,false,false,false] rfl rfl (zO HT_.out (by kernel_rfl)) (fun _ _ _ h=>h) (Or.inl ⟨by rfl,?_⟩) ?_ ?_
        rotate_left
        ·intro w'
         go_simp
         with_reducible rfl
        rotate_left
        ·simp only [Act.put,List.setIfInBounds_toArray,List.set_cons_zero,List.set_cons_succ,qY,zA]
         rfl
        refine zY (i:=21) (N:=some 45) (v:=?_) (a':=?_) #[true,true,true,true,true,true,true,true,true,true,true,true,true,true,true,true,true,true,true,true,true,true,false,false,false,false,false,false,false,false,false,false] rfl rfl (zO HT_.out (by kernel_rfl)) (fun _ _ _ h=>h) (Or.inl ⟨by rfl,?_⟩) ?_ ?_
        rotate_left
        ·intro w'
         go_simp
         with_reducible rfl
        rotate_left
        ·simp only [Act.put,List.setIfInBounds_toArray,List.set_cons_zero,List.set_cons_succ,qY,zA]
         rfl
        refine vZ (i:=23) (N:=some 47) (v:=?_) (a':=?_) #[true,true,true,true,true,true,true,true,true,true,true,true,true,true,true,true,true,true,true,true,true,true,false,true,false,false,false,false,false,false,false,false] rfl rfl (vJ HT_.out HW_.out (by kernel_rfl)) (fun _ _ _ h=>h) (Or.inl ⟨by rfl,?_⟩) hHeld ?_ ?_
        rotate_left
        ·rintro w' ⟨s0,s1,s2⟩
         go_simp
         with_reducible rfl
        rotate_left
        ·simp only [Act.put,List.setIfInBounds_toArray,List.set_cons_zero,List.set_cons_succ,qY,zA]
         rfl
        refine one_ (i:=22) (N:=some 46) #[true,true,true,true,true,true,true,true,true,true,true,true,true,true,true,true,true,true,true,true,true,true,true,true,false,false,false,false,false,false,false,false] rfl rfl (uE HT_.out (by kernel_rfl)) (by decide) (fun K hK=>?_)
        refine kD Try.func25 (by kernel_rfl) rfl #[.int .i64 3,.int .i64 2] (by rfl) rfl rfl byah ?_
        with_reducible refine (qN.calls k 3 2 t293 _ A13.out).mono ?_
        rintro e w31 ⟨v294,rfl,ho0,hb⟩
        refine ⟨_,rfl,?_⟩
        have n0_:=qA.mk (Kd.kK (byax HO274.out) (Kd.uD ho0) hb)
        have n1_:=qA.mk (Kd.kK (byax HO279.out) (Kd.uD ho0) hb)
        have n2_:=qA.mk (Kd.kK (byax HO285.out) (Kd.uD ho0) hb)
        have n3_:=qA.mk (Kd.kK (byax HO290.out) (Kd.uD ho0) hb)
        have n4_:=qA.mk (Kd.N_lower (Kd.uL (ok':=fun k_=>some k_≠(.slice Ao18 t272.length co18 : Value).ownBlock∧some k_≠(.slice Ao21 t277.length co21 : Value).ownBlock∧some k_≠(.slice Ao24 t283.length co24 : Value).ownBlock∧some k_≠(.slice Ao28 t288.length co28 : Value).ownBlock∧k_≠gb292) (Kd.R_N (Kd.kE ho0)) (fun k_ hk_=>⟨(Kd.fresh' (Kd.N_lt (byax HO274.out)) k_ hk_.2.1),(Kd.fresh' (Kd.N_lt (byax HO279.out)) k_ hk_.2.1),(Kd.fresh' (Kd.N_lt (byax HO285.out)) k_ hk_.2.1),(Kd.fresh' (Kd.N_lt (byax HO290.out)) k_ hk_.2.1),(Kd.kF (g:=gb292) (o:=.cells #[.int .i64 t286,.int .i64 t287,.slice Ao28 t288.length co28] 28 (0,0)) (byaf BK292.out) k_ hk_.2.1)⟩)) (j3 (byad GE292.out)))
        have n5_:=qA.mk (qH (g:=gb292) (o:=.cells #[.int .i64 t286,.int .i64 t287,.slice Ao28 t288.length co28] 28 (0,0)) (byaf BK292.out) hb)
        have n6_:=qA.mk (qE (byad GE292.out) hb)
        clear HO274
        clear HO279
        clear HO285
        clear HO290
        clear BK292
        clear HB
        have HO274:=n0_
        have HO279:=n1_
        have HO285:=n2_
        have HO290:=n3_
        have HO295:=n4_
        have BK292:=n5_
        have HB:=n6_
        clear n0_ n1_ n2_ n3_ n4_ n5_ n6_
        (try clear hb)
        (try clear hb2)
        (try clear hk)
        (try clear hi)
        (try clear ho0)
        obtain ⟨Ao32,co32,eo32⟩:=Kd.N_slice HO295.out
        (first|subst eo32|(injection eo32 with f1_ f2_ f3_;have f4_:=f1_.symm;have f5_:=f3_.symm;clear f1_ f2_ f3_;subst f4_;subst f5_))
        refine hK.out _ _ ⟨(qC BK292.out 0).trans rfl,(qC BK292.out 1).trans rfl,(qC BK292.out 2).trans rfl⟩ (fun hHeld=>?_)
        clear hK K
        refine uM (a':=?_) ?_ ?_
        rotate_left
        ·show Act.put _ (some 46) _ = _
         simp only [Act.put,List.setIfInBounds_toArray,List.set_cons_zero,List.set_cons_succ,qY,zA]
         rfl
        refine one_ (i:=24) (N:=some 48) #[true,true,true,true,true,true,true,true,true,true,true,true,true,true,true,true,true,true,true,true,true,true,true,true,true,false,false,false,false,false,false,false] rfl rfl (uE HT_.out (by kernel_rfl)) (by decide) (fun K hK=>?_)
        refine kD Try.func20 (by kernel_rfl) rfl #[.agg #[.slice Ao32 t293.length co32],.agg #[.int .i64 t286,.int .i64 t287,.slice Ao28 t288.length co28]] (by rfl) rfl rfl byah ?_
        with_reducible refine (jP.calls k _ _ t293 t286 t287 _ _ t288 true _ ?side1 ?side2 ?side3 ?side4 A14.out).mono ?_
        (case side1=>exact bybe HO295.out)
        (case side2=>exact (Kd.kQ HO295.out).2.1)
        (case side3=>exact bybe HO290.out)
        (case side4=>exact (Kd.kQ HO290.out).2.1)
        rintro e w33 ⟨rfl,hb⟩
        refine ⟨_,rfl,?_⟩
        have n0_:=qA.mk (Kd.uK (byax HO274.out) hb)
        have n1_:=qA.mk (Kd.uK (byax HO279.out) hb)
        have n2_:=qA.mk (Kd.uK (byax HO285.out) hb)
        have n3_:=qA.mk (Kd.uK (byax HO290.out) hb)
        have n4_:=qA.mk (Kd.uK (byax HO295.out) hb)
        have n5_:=qA.mk (qH (g:=gb292) (o:=.cells #[.int .i64 t286,.int .i64 t287,.slice Ao28 t288.length co28] 28 (0,0)) (byaf BK292.out) hb)
        have n6_:=qA.mk (qE (byad GE292.out) hb)
        clear HO274
        clear HO279
        clear HO285
        clear HO290
        clear HO295
        clear BK292
        clear HB
        have HO274:=n0_
        have HO279:=n1_
        have HO285:=n2_
        have HO290:=n3_
        have HO295:=n4_
        have BK292:=n5_
        have HB:=n6_
        clear n0_ n1_ n2_ n3_ n4_ n5_ n6_
        (try clear hb)
        (try clear hb2)
        (try clear hk)
        (try clear hi)
        refine hK.out _ _ ⟨(qC BK292.out 0).trans rfl,(qC BK292.out 1).trans rfl,(qC BK292.out 2).trans rfl⟩ (fun hHeld=>?_)
        clear hK K
        refine uM (a':=?_) ?_ ?_
        rotate_left
        ·show Act.put _ (some 48) _ = _
         simp only [Act.put,List.setIfInBounds_toArray,List.set_cons_zero,List.set_cons_succ,qY,zA]
         rfl
        refine zY (i:=25) (N:=some 49) (v:=?_) (a':=?_) #[true,true,true,true,true,true,true,true,true,true,true,true,true,true,true,true,true,true,true,true,true,true,true,true,true,true,false,false,false,false,false,false] rfl rfl (zO HT_.out (by kernel_rfl)) (fun _ _ _ h=>h) (Or.inl ⟨by rfl,?_⟩) ?_ ?_
        rotate_left
        ·intro w'
         go_simp
         with_reducible rfl
        rotate_left
        ·simp only [Act.put,List.setIfInBounds_toArray,List.set_cons_zero,List.set_cons_succ,qY,zA]
         rfl
        refine zY (i:=26) (N:=some 50) (v:=?_) (a':=?_) #[true,true,true,true,true,true,true,true,true,true,true,true,true,true,true,true,true,true,true,true,true,true,true,true,true,true,true,false,false,false,false,false] rfl rfl (zO HT_.out (by kernel_rfl)) (fun _ _ _ h=>h) (Or.inl ⟨by rfl,?_⟩) ?_ ?_
        rotate_left
        ·intro w'
         go_simp
         with_reducible rfl
        rotate_left
        ·simp only [Act.put,List.setIfInBounds_toArray,List.set_cons_zero,List.set_cons_succ,qY,zA]
         rfl
        refine vZ (i:=27) (N:=some 51) (v:=?_) (a':=?_) #[true,true,true,true,true,true,true,true,true,true,true,true,true,true,true,true,true,true,true,true,true,true,true,true,true,true,true,true,false,false,false,false] rfl rfl (vJ HT_.out HW_.out (by kernel_rfl)) (fun _ _ _ h=>h) (Or.inl ⟨by rfl,?_⟩) hHeld ?_ ?_
        rotate_left
        ·rintro w' ⟨s0,s1,s2⟩
         go_simp
         with_reducible rfl
        rotate_left
        ·simp only [Act.put,List.setIfInBounds_toArray,List.set_cons_zero,List.set_cons_succ,qY,zA]
         rfl
        refine one_ (i:=28) (N:=some 52) #[true,true,true,true,true,true,true,true,true,true,true,true,true,true,true,true,true,true,true,true,true,true,true,true,true,true,true,true,true,false,false,false] rfl rfl (uE HT_.out (by kernel_rfl)) (by decide) (fun K hK=>?_)
        refine kD Try.func22 (by kernel_rfl) rfl #[.agg #[.int .i64 t286,.int .i64 t287,.slice Ao28 t288.length co28]] (by rfl) rfl rfl byah ?_
        with_reducible refine (zH.calls k t286 t287 _ _ t288 t297 _ ?side1 ?side2 A16.out).mono ?_
        (case side1=>exact bybe HO290.out)
        (case side2=>exact (Kd.kQ HO290.out).2.1)
        rintro e w34 ⟨rfl,hb⟩
        refine ⟨_,rfl,?_⟩
        have n0_:=qA.mk (Kd.uK (byax HO274.out) hb)
        have n1_:=qA.mk (Kd.uK (byax HO279.out) hb)
        have n2_:=qA.mk (Kd.uK (byax HO285.out) hb)
        have n3_:=qA.mk (Kd.uK (byax HO290.out) hb)
        have n4_:=qA.mk (Kd.uK (byax HO295.out) hb)
        have n5_:=qA.mk (qH (g:=gb292) (o:=.cells #[.int .i64 t286,.int .i64 t287,.slice Ao28 t288.length co28] 28 (0,0)) (byaf BK292.out) hb)
        have n6_:=qA.mk (qE (byad GE292.out) hb)
        clear HO274
        clear HO279
        clear HO285
        clear HO290
        clear HO295
        clear BK292
        clear HB
        have HO274:=n0_
        have HO279:=n1_
        have HO285:=n2_
        have HO290:=n3_
        have HO295:=n4_
        have BK292:=n5_
        have HB:=n6_
        clear n0_ n1_ n2_ n3_ n4_ n5_ n6_
        (try clear hb)
        (try clear hb2)
        (try clear hk)
        (try clear hi)
        refine hK.out _ _ ⟨(qC BK292.out 0).trans rfl,(qC BK292.out 1).trans rfl,(qC BK292.out 2).trans rfl⟩ (fun hHeld=>?_)
        clear hK K
        refine uM (a':=?_) ?_ ?_
        rotate_left
        ·show Act.put _ (some 52) _ = _
         simp only [Act.put,List.setIfInBounds_toArray,List.set_cons_zero,List.set_cons_succ,qY,zA]
         rfl
        refine zY (i:=29) (N:=some 53) (v:=?_) (a':=?_) #[true,true,true,true,true,true,true,true,true,true,true,true,true,true,true,true,true,true,true,true,true,true,true,true,true,true,true,true,true,true,false,false] rfl rfl (zO HT_.out (by kernel_rfl)) (fun _ _ _ h=>h) (Or.inl ⟨by rfl,?_⟩) ?_ ?_
        rotate_left
        ·intro w'
         go_simp
         with_reducible rfl
        rotate_left
        ·simp only [Act.put,List.setIfInBounds_toArray,List.set_cons_zero,List.set_cons_succ,qY,zA]
         rfl
        refine zY (i:=30) (N:=some 54) (v:=?_) (a':=?_) #[true,true,true,true,true,true,true,true,true,true,true,true,true,true,true,true,true,true,true,true,true,true,true,true,true,true,true,true,true,true,true,false] rfl rfl (zO HT_.out (by kernel_rfl)) (fun _ _ _ h=>h) (Or.inl ⟨by rfl,?_⟩) ?_ ?_
        rotate_left
        ·intro w'
         go_simp
         with_reducible rfl
        rotate_left
        ·simp only [Act.put,List.setIfInBounds_toArray,List.set_cons_zero,List.set_cons_succ,qY,zA]
         rfl
        refine zY (i:=31) (N:=some 0) (v:=?_) (a':=?_) #[true,true,true,true,true,true,true,true,true,true,true,true,true,true,true,true,true,true,true,true,true,true,true,true,true,true,true,true,true,true,true,true] rfl rfl (zO HT_.out (by kernel_rfl)) (fun _ _ _ h=>h) (Or.inl ⟨by rfl,?_⟩) ?_ ?_
        rotate_left
        ·intro w'
         go_simp
         with_reducible rfl
        rotate_left
        ·simp only [Act.put,List.setIfInBounds_toArray,List.set_cons_zero,List.set_cons_succ,qY,zA]
         rfl
        refine done_ (kS HT_.out (by kernel_rfl)) ?_
        try go_wp2
        go_ret
        exact ⟨byac,byad GE292.out⟩
       ·replace c15:=Bool.eq_false_iff.mpr c15
        subst c15
        have H1 : (some false) = some r:=by rw [if_neg (show ¬ (false = true) by decide)] at H;exact H
        clear H
        have H:=H1
        clear H1
        exfalso;rw [hr_.out] at H;simp at H
      ·rw [if_neg c12] at H
       have c12b0 : (t291 == 0) = false:=beq_eq_false_iff_ne.mpr c12
       have c12b1 : (t291 != 0) = true:=bne_iff_ne.mpr c12
       exfalso;rw [hr_.out] at H;simp at H
     ·rw [if_neg c11] at H
      have c11b0 : (t281 == 6) = false:=beq_eq_false_iff_ne.mpr c11
      have c11b1 : (t281 != 6) = true:=bne_iff_ne.mpr c11
      exfalso;rw [hr_.out] at H;simp at H
    ·rw [if_neg c10] at H
     have c10b0 : (t280 == 1) = false:=beq_eq_false_iff_ne.mpr c10
     have c10b1 : (t280 != 1) = true:=bne_iff_ne.mpr c10
     exfalso;rw [hr_.out] at H;simp at H
   ·rw [if_neg c9] at H
    have c9b0 : (t282 == 0) = false:=beq_eq_false_iff_ne.mpr c9
    have c9b1 : (t282 != 0) = true:=bne_iff_ne.mpr c9
    exfalso;rw [hr_.out] at H;simp at H
  ·replace c8:=Bool.eq_false_iff.mpr c8
   subst c8
   have H1 : (some false) = some r:=by rw [if_neg (show ¬ (false = true) by decide)] at H;exact H
   clear H
   have H:=H1
   clear H1
   exfalso;rw [hr_.out] at H;simp at H
 ·rw [if_neg c7] at H
  have c7b0 : (t276 == 0) = false:=beq_eq_false_iff_ne.mpr c7
  have c7b1 : (t276 != 0) = true:=bne_iff_ne.mpr c7
  exfalso;rw [hr_.out] at H;simp at H
theorem zQ.is_true {k : Nat} {r : Bool} (h : zQ.f k = some r) : r = true:=by
 have h1 : zQ.f 300 = some true:=by decide +kernel
 have h2:=at_rounds zQ.mono (Nat.le_max_left k 300) h
 have h3:=at_rounds zQ.mono (Nat.le_max_right k 300) h1
 rw [h2] at h3
 exact Option.some.inj h3
theorem zQ.calls (k : Nat)  (r : Bool) (w : World) (h : zQ.f k  = some r) :
  Calls Try.prog 10 #[] w fun e w'=>e = .returned (.bool r)∧Below w.heap.size w w':=zQ.calls1 k r w ⟨zQ.is_true h⟩ h
end Go.Proofs.Ytkkbdimegpdbgaa.P
