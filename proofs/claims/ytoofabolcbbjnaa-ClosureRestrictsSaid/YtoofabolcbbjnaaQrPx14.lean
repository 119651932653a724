/- Functions of the program as Lean functions, and the walks that show that the calls answer so; written by a program of this session (a changed print) and by hand. -/
import Derived.Test.YtoofabolcbbjnaaQrPx0
import Derived.Test.YtoofabolcbbjnaaQrPx2
import Derived.Test.YtoofabolcbbjnaaQrPx3
import Derived.Test.YtoofabolcbbjnaaQrPx8
import Derived.Test.YtoofabolcbbjnaaQrPx13
namespace Go.Proofs.Ytoofabolcbbjnaa.P
open Go.RowKit Go.Proofs.YtoofabolcbbjnaaW.PrintWords Go.Proofs.YtoofabolcbbjnaaW.PrintLast Go.Proofs.YtoofabolcbbjnaaW.PrintMore
attribute [local go_sem] kH kJ kQ kR uS uR kF kG
set_option linter.unusedVariables false
set_option linter.unusedSimpArgs false
def trustquorumlaw09_ClosureRestricts.f (k : Nat) (l0 : List Int) : Option (Bool):=(vM.f l0).bind fun bt498=>((zG.f k bt498.1 bt498.2 8).bind fun bt501=>((qZ.f bt498.1 bt501.2 256).bind fun bt506=>((qZ.f bt498.1 bt506.2 256).bind fun bt508=>((trustquorumref06_Restrict.f k bt501.1 bt506.1).bind fun t510=>((zL.f k t510 bt508.1).bind fun t514=>((zL.f k bt501.1 (Go.bits .and .i64 bt506.1 bt508.1)).bind fun t515=>(if t514 = t515 then ((zR.f k t510 bt508.1).bind fun t516=>((zR.f k bt501.1 bt508.1).bind fun t517=>(if t517 = true then (if (t516 == ((Go.bits .and .i64 bt506.1 bt508.1) == bt508.1)) = true then ((zQ.f k).bind fun t518=>(some t518)) else (some false)) else (if (t516 == false) = true then ((zQ.f k).bind fun t519=>(some t519)) else (some false))))) else (some false))))))))
def trustquorumlaw09_ClosureRestricts.T5 : Bool × List (List Nat × List Nat):=(true,[([],[]),([],[]),([0,1],[0,1]),([],[]),([],[]),([],[]),([4,5],[4,5]),([3,6,2],[3,6]),([2,7],[2,7]),([8,7],[8]),([9],[9]),([9],[9]),([10,11,9,9],[9,10,11]),([9],[9]),([9],[9]),([13,14,12,9],[9,13,14]),([15,15,9],[9,15]),([16],[16]),([16],[16]),([17,18,16],[16,17,18]),([16],[16]),([19,20,16],[16,19,20]),([16,21,9],[9,16,21]),([12,22,9],[9,12,22]),([9,23],[9,23]),([24,16],[24]),([25,25],[25]),([25,26],[25,26]),([27,26,0,1,2,3,4,5,6,7,8,9,10,11,12,13,14,15,16,17,18,19,20,21,22,23,24,25,26,27],[27])])
def trustquorumlaw09_ClosureRestricts.B5 : List Nat:=[0,0,3,0,0,0,48,127,255,511,1023,1023,4095,1023,1023,32767,65535,131071,131071,524287,131071,2097151,4194303,8388607,16777215,33554431,67108863,134217727,268435455]
theorem trustquorumlaw09_ClosureRestricts.tab5 : rtab .any (opsOf Try.f7 5) = trustquorumlaw09_ClosureRestricts.T5:=by kernel_rfl
theorem trustquorumlaw09_ClosureRestricts.bits5 : waitsOk trustquorumlaw09_ClosureRestricts.T5.2 trustquorumlaw09_ClosureRestricts.B5 = true:=by kernel_rfl
set_option maxHeartbeats 8000000 in
set_option maxRecDepth 100000 in
theorem trustquorumlaw09_ClosureRestricts.calls (k : Nat) (A0 : Option Addr) (c0 : Nat) (l0 : List Int) (r : Bool) (w : World) (hr0 : Kd.C (Kd.int .i64) w A0 l0.length l0) (hc0 : l0.length ≤ c0) (h : trustquorumlaw09_ClosureRestricts.f k l0 = some r) :
  Calls Try.prog 7 #[.slice A0 l0.length c0] w fun e w'=>e = .returned (.bool r)∧Below w.heap.size w w':=by
 have hu25:=Try.underlying25
 have HR0:=qA.mk hr0
 have HC0:=qA.mk hc0
 clear hr0 hc0
 have HB:=qA.mk (Below.refl w.heap.size w)
 have H : ((vM.f l0).bind fun bt498=>((zG.f k bt498.1 bt498.2 8).bind fun bt501=>((qZ.f bt498.1 bt501.2 256).bind fun bt506=>((qZ.f bt498.1 bt506.2 256).bind fun bt508=>((trustquorumref06_Restrict.f k bt501.1 bt506.1).bind fun t510=>((zL.f k t510 bt508.1).bind fun t514=>((zL.f k bt501.1 (Go.bits .and .i64 bt506.1 bt508.1)).bind fun t515=>(if t514 = t515 then ((zR.f k t510 bt508.1).bind fun t516=>((zR.f k bt501.1 bt508.1).bind fun t517=>(if t517 = true then (if (t516 == ((Go.bits .and .i64 bt506.1 bt508.1) == bt508.1)) = true then ((zQ.f k).bind fun t518=>(some t518)) else (some false)) else (if (t516 == false) = true then ((zQ.f k).bind fun t519=>(some t519)) else (some false))))) else (some false))))))))) = some r:=h
 clear h
 replace H:=Option.bind_eq_some_iff.mp H
 obtain ⟨⟨t498,t499⟩,A20,H⟩:=H
 replace H : ((zG.f k t498 t499 8).bind fun bt501=>((qZ.f t498 bt501.2 256).bind fun bt506=>((qZ.f t498 bt506.2 256).bind fun bt508=>((trustquorumref06_Restrict.f k bt501.1 bt506.1).bind fun t510=>((zL.f k t510 bt508.1).bind fun t514=>((zL.f k bt501.1 (Go.bits .and .i64 bt506.1 bt508.1)).bind fun t515=>(if t514 = t515 then ((zR.f k t510 bt508.1).bind fun t516=>((zR.f k bt501.1 bt508.1).bind fun t517=>(if t517 = true then (if (t516 == ((Go.bits .and .i64 bt506.1 bt508.1) == bt508.1)) = true then ((zQ.f k).bind fun t518=>(some t518)) else (some false)) else (if (t516 == false) = true then ((zQ.f k).bind fun t519=>(some t519)) else (some false))))) else (some false)))))))) = some r:=H
 have A2:=qA.mk A20
 clear A20
 replace H:=Option.bind_eq_some_iff.mp H
 obtain ⟨⟨t501,t504⟩,A30,H⟩:=H
 replace H : ((qZ.f t498 t504 256).bind fun bt506=>((qZ.f t498 bt506.2 256).bind fun bt508=>((trustquorumref06_Restrict.f k t501 bt506.1).bind fun t510=>((zL.f k t510 bt508.1).bind fun t514=>((zL.f k t501 (Go.bits .and .i64 bt506.1 bt508.1)).bind fun t515=>(if t514 = t515 then ((zR.f k t510 bt508.1).bind fun t516=>((zR.f k t501 bt508.1).bind fun t517=>(if t517 = true then (if (t516 == ((Go.bits .and .i64 bt506.1 bt508.1) == bt508.1)) = true then ((zQ.f k).bind fun t518=>(some t518)) else (some false)) else (if (t516 == false) = true then ((zQ.f k).bind fun t519=>(some t519)) else (some false))))) else (some false))))))) = some r:=H
 have A3:=qA.mk A30
 clear A30
 replace H:=Option.bind_eq_some_iff.mp H
 obtain ⟨⟨t506,t507⟩,A40,H⟩:=H
 replace H : ((qZ.f t498 t507 256).bind fun bt508=>((trustquorumref06_Restrict.f k t501 t506).bind fun t510=>((zL.f k t510 bt508.1).bind fun t514=>((zL.f k t501 (Go.bits .and .i64 t506 bt508.1)).bind fun t515=>(if t514 = t515 then ((zR.f k t510 bt508.1).bind fun t516=>((zR.f k t501 bt508.1).bind fun t517=>(if t517 = true then (if (t516 == ((Go.bits .and .i64 t506 bt508.1) == bt508.1)) = true then ((zQ.f k).bind fun t518=>(some t518)) else (some false)) else (if (t516 == false) = true then ((zQ.f k).bind fun t519=>(some t519)) else (some false))))) else (some false)))))) = some r:=H
 have A4:=qA.mk A40
 clear A40
 replace H:=Option.bind_eq_some_iff.mp H
 obtain ⟨⟨t508,t509⟩,A50,H⟩:=H
 replace H : ((trustquorumref06_Restrict.f k t501 t506).bind fun t510=>((zL.f k t510 t508).bind fun t514=>((zL.f k t501 (Go.bits .and .i64 t506 t508)).bind fun t515=>(if t514 = t515 then ((zR.f k t510 t508).bind fun t516=>((zR.f k t501 t508).bind fun t517=>(if t517 = true then (if (t516 == ((Go.bits .and .i64 t506 t508) == t508)) = true then ((zQ.f k).bind fun t518=>(some t518)) else (some false)) else (if (t516 == false) = true then ((zQ.f k).bind fun t519=>(some t519)) else (some false))))) else (some false))))) = some r:=H
 have A5:=qA.mk A50
 clear A50
 replace H:=Option.bind_eq_some_iff.mp H
 obtain ⟨t510,A60,H⟩:=H
 replace H : ((zL.f k t510 t508).bind fun t514=>((zL.f k t501 (Go.bits .and .i64 t506 t508)).bind fun t515=>(if t514 = t515 then ((zR.f k t510 t508).bind fun t516=>((zR.f k t501 t508).bind fun t517=>(if t517 = true then (if (t516 == ((Go.bits .and .i64 t506 t508) == t508)) = true then ((zQ.f k).bind fun t518=>(some t518)) else (some false)) else (if (t516 == false) = true then ((zQ.f k).bind fun t519=>(some t519)) else (some false))))) else (some false)))) = some r:=H
 have A6:=qA.mk A60
 clear A60
 replace H:=Option.bind_eq_some_iff.mp H
 obtain ⟨t514,A70,H⟩:=H
 replace H : ((zL.f k t501 (Go.bits .and .i64 t506 t508)).bind fun t515=>(if t514 = t515 then ((zR.f k t510 t508).bind fun t516=>((zR.f k t501 t508).bind fun t517=>(if t517 = true then (if (t516 == ((Go.bits .and .i64 t506 t508) == t508)) = true then ((zQ.f k).bind fun t518=>(some t518)) else (some false)) else (if (t516 == false) = true then ((zQ.f k).bind fun t519=>(some t519)) else (some false))))) else (some false))) = some r:=H
 have A7:=qA.mk A70
 clear A70
 replace H:=Option.bind_eq_some_iff.mp H
 obtain ⟨t515,A80,H⟩:=H
 replace H : (if t514 = t515 then ((zR.f k t510 t508).bind fun t516=>((zR.f k t501 t508).bind fun t517=>(if t517 = true then (if (t516 == ((Go.bits .and .i64 t506 t508) == t508)) = true then ((zQ.f k).bind fun t518=>(some t518)) else (some false)) else (if (t516 == false) = true then ((zQ.f k).bind fun t519=>(some t519)) else (some false))))) else (some false)) = some r:=H
 have A8:=qA.mk A80
 clear A80
 by_cases c9 : t514 = t515
 ·rw [if_pos c9] at H
  have c9b0 : (t514 == t515) = true:=beq_iff_eq.mpr c9
  have c9b1 : (t514 != t515) = false:=bne_eq_false_iff_eq.mpr c9
  clear c9
  replace H:=Option.bind_eq_some_iff.mp H
  obtain ⟨t516,A100,H⟩:=H
  replace H : ((zR.f k t501 t508).bind fun t517=>(if t517 = true then (if (t516 == ((Go.bits .and .i64 t506 t508) == t508)) = true then ((zQ.f k).bind fun t518=>(some t518)) else (some false)) else (if (t516 == false) = true then ((zQ.f k).bind fun t519=>(some t519)) else (some false)))) = some r:=H
  have A10:=qA.mk A100
  clear A100
  replace H:=Option.bind_eq_some_iff.mp H
  obtain ⟨t517,A110,H⟩:=H
  replace H : (if t517 = true then (if (t516 == ((Go.bits .and .i64 t506 t508) == t508)) = true then ((zQ.f k).bind fun t518=>(some t518)) else (some false)) else (if (t516 == false) = true then ((zQ.f k).bind fun t519=>(some t519)) else (some false))) = some r:=H
  have A11:=qA.mk A110
  clear A110
  by_cases c12 : t517 = true
  ·subst c12
   have H1 : (if (t516 == ((Go.bits .and .i64 t506 t508) == t508)) = true then ((zQ.f k).bind fun t518=>(some t518)) else (some false)) = some r:=by rw [if_pos rfl] at H;exact H
   clear H
   have H:=H1
   clear H1
   by_cases c13 : (t516 == ((Go.bits .and .i64 t506 t508) == t508)) = true
   ·rw [if_pos c13] at H
    have c13b0 : (t516 == ((Go.bits .and .i64 t506 t508) == t508)) = true:=c13
    (try (have c13b1 : decide (t516 = ((Go.bits .and .i64 t506 t508) == t508)) = true:=by simpa using c13))
    (try (have c13b2 : (t516 == ((Go.bits .and .i64 t506 t508) == t508)) = true:=by simpa using c13))
    clear c13
    replace H:=Option.bind_eq_some_iff.mp H
    obtain ⟨t518,A140,H⟩:=H
    replace H : (some t518) = some r:=H
    have A14:=qA.mk A140
    clear A140
    obtain rfl:=Option.some.inj H
    go_enter Try.func7,Try.ntmps7
    try go_wp2_with (first|((with_reducible refine q8 (f:=10) rfl ?_);refine jB (some 9) rfl rfl Try.func10 (by kernel_rfl) rfl #[.slice A0 l0.length c0] rfl (by (try simp only [List.map_toArray,List.map_cons,List.map_nil]);first|done|rfl|(simp only [List.length_drop,List.length_take];rfl)|(simp only [List.length_nil,Int.natCast_zero,Int.zero_add,Int.ofNat_zero];rfl)) ?_;(with_reducible refine (vM.calls _ _ l0 t498 t499 w _ ?side1 ?side2 ?side3 A2.out).mono ?_);(case side1=>repeat (first|(with_reducible first|exact HB.out|apply qH|apply qB|apply qG)|exact HB.out));(case side2=>exact HR0.out);(case side3=>exact HC0.out);rintro e w15 ⟨g500,rfl,hi,hb,hb2⟩;refine ⟨_,rfl,?_⟩;have n0_:=qA.mk (hb);have n1_:=qA.mk (hi);clear HB;have HB:=n0_;have HI500:=n1_;clear n0_ n1_;(try clear hb);(try clear hb2);(try clear hk);(try clear hi))|((with_reducible refine q8 (f:=11) rfl ?_);refine jB (some 11) rfl rfl Try.func11 (by kernel_rfl) rfl #[.pointer (some ⟨g500,0,none⟩),.int .i64 8] rfl (by (try simp only [List.map_toArray,List.map_cons,List.map_nil]);first|done|rfl|(simp only [List.length_drop,List.length_take];rfl)|(simp only [List.length_nil,Int.natCast_zero,Int.zero_add,Int.ofNat_zero];rfl)) ?_;(with_reducible refine (zG.calls k g500 t498 t499 8 t501 t504 w _ ?side1 ?side2 A3.out).mono ?_);(case side1=>repeat (first|(with_reducible first|exact HI500.out|apply qC.alloc|apply qC.drewN|apply qC.drew|apply qC.zM)|exact HI500.out));(case side2=>repeat (first|(with_reducible first|exact HB.out|apply qH|apply qB|apply qG|refine qD ?_ (qC.ge HI500.out))|exact HB.out));rintro e w16 ⟨v502,rfl,ho0,hi,hb,hk⟩;refine ⟨_,rfl,?_⟩;have n0_:=qA.mk (Kd.vS (Kd.jS (ok':=fun k_=>k_≠g500) (Kd.R_N (Kd.uM ho0)) (fun k_ hk_=>(qC.fresh (by repeat (first|(with_reducible first|exact HI500.out|apply qC.alloc|apply qC.drewN|apply qC.drew|apply qC.zM)|exact HI500.out)) k_ hk_.2.1))) (qQ (by repeat (first|(with_reducible first|exact HB.out|apply qH|apply qB|apply qG|refine qD ?_ (qC.ge HI500.out))|exact HB.out))));have n1_:=qA.mk (hb);have n2_:=qA.mk (hi);clear HB;clear HI500;have HO503:=n0_;have HB:=n1_;have HI500:=n2_;clear n0_ n1_ n2_;(try clear hb);(try clear hb2);(try clear hk);(try clear hi);(try clear ho0))|((with_reducible refine jH (N:=4) rfl ?_);refine jL ?hg (N:=4) ?hd (cs:=#[.slice none 0 0]) (t:=25) ?hr ?_;(case hd=>rfl);(case hg=>rfl);(case hr=>first|(go_simp;done)|(go_simp;rfl));intro gb505 hg w17 hbox hb;have n0_:=qA.mk (Kd.jA (Kd.uE (by (with_reducible repeat (first|apply Kd.qV|apply Kd.qU|apply Kd.zA));exact HO503.out) gb505 (Nat.le_of_eq hg.symm)) hb);have n1_:=qA.mk (qC.below (by repeat (first|(with_reducible first|exact HI500.out|apply qC.alloc|apply qC.drewN|apply qC.drew|apply qC.zM)|exact HI500.out)) hb);have n2_:=qA.mk (qN (by repeat (first|(with_reducible first|exact HB.out|apply qH|apply qB|apply qG|refine qD ?_ (qC.ge HI500.out))|exact HB.out)) hb);have n3_:=qA.mk (hbox);have n4_:=qA.mk ((by rw [hg];exact (qQ (by repeat (first|(with_reducible first|exact HB.out|apply qH|apply qB|apply qG|refine qD ?_ (qC.ge HI500.out))|exact HB.out))) : w.heap.size ≤ gb505));have n5_:=qA.mk ((by rw [hg];exact (qQ (by repeat (first|(with_reducible first|exact HB.out|apply qH|apply qB|apply qG|refine qD ?_ (qC.ge HI500.out))|exact HB.out))) : w.heap.size ≤ gb505));have n6_:=qA.mk ((by rw [hg];exact Nat.ne_of_lt (qC.lt (show qC w _ g500 t498 t504 from by repeat (first|(with_reducible first|exact HI500.out|apply qC.alloc|apply qC.drewN|apply qC.drew|apply qC.zM)|exact HI500.out))) : g500≠gb505));have n7_:=qA.mk ((by rw [hg];exact Nat.ne_of_gt (qC.lt (show qC w _ g500 t498 t504 from by repeat (first|(with_reducible first|exact HI500.out|apply qC.alloc|apply qC.drewN|apply qC.drew|apply qC.zM)|exact HI500.out))) : gb505≠g500));clear HO503;clear HI500;clear HB;have HO503:=n0_;have HI500:=n1_;have HB:=n2_;have BK505:=n3_;have GW505:=n4_;have GE505:=n5_;have NB500_505:=n6_;have NB505_500:=n7_;clear n0_ n1_ n2_ n3_ n4_ n5_ n6_ n7_;clear hb hbox hg;obtain ⟨Ao18,co18,eo18⟩:=Kd.vK HO503.out;subst eo18;have hnb19:=NB505_500.out;have hnc19:=NB500_505.out;have hcz20_0 : w17.cell? ⟨gb505,0,none⟩ = some (.slice none 0 0):=(qK BK505.out 0).trans rfl;have hfz20_0:=qJ BK505.out 0)|((with_reducible refine q8 (f:=13) rfl ?_);refine jB (some 13) rfl rfl Try.func13 (by kernel_rfl) rfl #[.pointer (some ⟨g500,0,none⟩),.int .i64 256] rfl (by (try simp only [List.map_toArray,List.map_cons,List.map_nil]);first|done|rfl|(simp only [List.length_drop,List.length_take];rfl)|(simp only [List.length_nil,Int.natCast_zero,Int.zero_add,Int.ofNat_zero];rfl)) ?_;(with_reducible refine (qZ.calls g500 t498 t504 256 t506 t507 w _ ?side1 ?side2 A4.out).mono ?_);(case side1=>repeat (first|(with_reducible first|exact HI500.out|apply qC.alloc|apply qC.drewN|apply qC.drew|apply qC.zM|refine qC.far ?_ NB500_505.out _)|exact HI500.out));(case side2=>repeat (first|(with_reducible first|exact HB.out|apply qH|apply qB|apply qG|refine qD ?_ (qC.ge HI500.out)|refine qD ?_ GE505.out)|exact HB.out));rintro e w21 ⟨rfl,hi,hb,hk⟩;refine ⟨_,rfl,?_⟩;have n0_:=qA.mk (Kd.jS (Kd.N_keep (Kd.jS (ok:=fun k_=>(k_≠g500∧k_≠gb505)) (by (with_reducible repeat (first|apply Kd.qV|apply Kd.qU|apply Kd.zA));exact (Kd.jS (Kd.uV (p:=⟨gb505,0,none⟩) (Kd.jS HO503.out (fun k_ hk=>(⟨hk,hk.2⟩ : _∧k_≠gb505))) (fun _ hk=>hk.2) (.slice Ao18 t501.length co18)) (fun _ h_=>h_.1))) (fun k_ hk_=>(⟨hk_,hk_.1⟩ : _∧k_≠g500))) hk (fun _ h=>h.2)) (fun _ h=>h.1));have n1_:=qA.mk (qL.blk hk (g':=gb505) (o:=.cells #[.slice Ao18 t501.length co18] 25 (0,0)) (by (with_reducible repeat (first|refine qF ?_ _|refine qI ?_|refine qE ?_ _));refine zV (cs:=#[.slice none 0 0]) ?_ 0 _ rfl;(with_reducible repeat (first|refine qF ?_ _|refine qI ?_|refine qE ?_ _));exact BK505.out) NB505_500.out (by simp));have n2_:=qA.mk (hb);have n3_:=qA.mk (hi);clear HO503;clear BK505;clear HB;clear HI500;have HO503:=n0_;have BK505:=n1_;have HB:=n2_;have HI500:=n3_;clear n0_ n1_ n2_ n3_;(try clear hb);(try clear hb2);(try clear hk);(try clear hi))|((with_reducible refine q8 (f:=13) rfl ?_);refine jB (some 15) rfl rfl Try.func13 (by kernel_rfl) rfl #[.pointer (some ⟨g500,0,none⟩),.int .i64 256] rfl (by (try simp only [List.map_toArray,List.map_cons,List.map_nil]);first|done|rfl|(simp only [List.length_drop,List.length_take];rfl)|(simp only [List.length_nil,Int.natCast_zero,Int.zero_add,Int.ofNat_zero];rfl)) ?_;(with_reducible refine (qZ.calls g500 t498 t507 256 t508 t509 w _ ?side1 ?side2 A5.out).mono ?_);(case side1=>repeat (first|(with_reducible first|exact HI500.out|apply qC.alloc|apply qC.drewN|apply qC.drew|apply qC.zM|refine qC.far ?_ NB500_505.out _)|exact HI500.out));(case side2=>repeat (first|(with_reducible first|exact HB.out|apply qH|apply qB|apply qG|refine qD ?_ (qC.ge HI500.out)|refine qD ?_ GE505.out)|exact HB.out));rintro e w22 ⟨rfl,hi,hb,hk⟩;refine ⟨_,rfl,?_⟩;have n0_:=qA.mk (Kd.jS (Kd.N_keep (Kd.jS (ok:=fun k_=>(k_≠g500∧k_≠gb505)) (by (with_reducible repeat (first|apply Kd.qV|apply Kd.qU|apply Kd.zA));exact HO503.out) (fun k_ hk_=>(⟨hk_,hk_.1⟩ : _∧k_≠g500))) hk (fun _ h=>h.2)) (fun _ h=>h.1));have n1_:=qA.mk (qL.blk hk (g':=gb505) (o:=.cells #[.slice Ao18 t501.length co18] 25 (0,0)) (by (with_reducible repeat (first|refine qF ?_ _|refine qI ?_|refine qE ?_ _));exact BK505.out) NB505_500.out (by simp));have n2_:=qA.mk (hb);have n3_:=qA.mk (hi);clear HO503;clear BK505;clear HB;clear HI500;have HO503:=n0_;have BK505:=n1_;have HB:=n2_;have HI500:=n3_;clear n0_ n1_ n2_ n3_;(try clear hb);(try clear hb2);(try clear hk);(try clear hi);have hcz23_0 : w22.cell? ⟨gb505,0,none⟩ = some (.slice Ao18 t501.length co18):=(qK BK505.out 0).trans rfl;have hfz23_0:=qJ BK505.out 0)|((with_reducible refine q8 (f:=27) rfl ?_);refine jB (some 18) rfl rfl Try.func27 (by kernel_rfl) rfl #[.agg #[.slice Ao18 t501.length co18],.int .i64 t506] rfl (by (try simp only [List.map_toArray,List.map_cons,List.map_nil]);first|done|rfl|(simp only [List.length_drop,List.length_take];rfl)|(simp only [List.length_nil,Int.natCast_zero,Int.zero_add,Int.ofNat_zero];rfl)) ?_;(with_reducible refine (trustquorumref06_Restrict.calls k (fun k_=>(k_≠g500∧k_≠gb505)) _ _ t501 t506 t510 _ ?side1 A6.out).mono ?_);(case side1=>exact Kd.N_V (HO503.out));rintro e w24 ⟨v511,rfl,ho0,hb⟩;refine ⟨_,rfl,?_⟩;have n0_:=qA.mk (Kd.jN (by (with_reducible repeat (first|apply Kd.qV|apply Kd.qU|apply Kd.zA));exact HO503.out) (Kd.vR ho0) hb);have n1_:=qA.mk (Kd.vS (Kd.jS (ok':=fun k_=>k_≠gb505∧k_≠g500) ho0 (fun k_ hk_=>⟨Or.elim hk_ (fun hs_=>hs_.2) (fun hn_=>(Kd.vU (g:=gb505) (o:=.cells #[.slice Ao18 t501.length co18] 25 (0,0)) (by (with_reducible repeat (first|refine qF ?_ _|refine qI ?_|refine qE ?_ _));exact BK505.out) k_ hn_)),Or.elim hk_ (fun hs_=>hs_.1) (fun hn_=>(qC.fresh (by repeat (first|(with_reducible first|exact HI500.out|apply qC.alloc|apply qC.drewN|apply qC.drew|apply qC.zM|refine qC.far ?_ NB500_505.out _)|exact HI500.out)) k_ hn_))⟩)) (qQ (by repeat (first|(with_reducible first|exact HB.out|apply qH|apply qB|apply qG|refine qD ?_ (qC.ge HI500.out)|refine qD ?_ GE505.out)|exact HB.out))));have n2_:=qA.mk (qC.below (by repeat (first|(with_reducible first|exact HI500.out|apply qC.alloc|apply qC.drewN|apply qC.drew|apply qC.zM|refine qC.far ?_ NB500_505.out _)|exact HI500.out)) hb);have n3_:=qA.mk (zD (g:=gb505) (o:=.cells #[.slice Ao18 t501.length co18] 25 (0,0)) (by (with_reducible repeat (first|refine qF ?_ _|refine qI ?_|refine qE ?_ _));exact BK505.out) hb);have n4_:=qA.mk (qN (by repeat (first|(with_reducible first|exact HB.out|apply qH|apply qB|apply qG|refine qD ?_ (qC.ge HI500.out)|refine qD ?_ GE505.out)|exact HB.out)) hb);clear HO503;clear HI500;clear BK505;clear HB;have HO503:=n0_;have HO512:=n1_;have HI500:=n2_;have BK505:=n3_;have HB:=n4_;clear n0_ n1_ n2_ n3_ n4_;(try clear hb);(try clear hb2);(try clear hk);(try clear hi);(try clear ho0))|((with_reducible refine jH (N:=7) rfl ?_);refine jL ?hg (N:=7) ?hd (cs:=#[.slice none 0 0]) (t:=25) ?hr ?_;(case hd=>rfl);(case hg=>rfl);(case hr=>first|(go_simp;done)|(go_simp;rfl));intro gb513 hg w25 hbox hb;have n0_:=qA.mk (Kd.jA (Kd.uE (by (with_reducible repeat (first|apply Kd.qV|apply Kd.qU|apply Kd.zA));exact HO503.out) gb513 (Nat.le_of_eq hg.symm)) hb);have n1_:=qA.mk (Kd.jA (Kd.uE (by (with_reducible repeat (first|apply Kd.qV|apply Kd.qU|apply Kd.zA));exact HO512.out) gb513 (Nat.le_of_eq hg.symm)) hb);have n2_:=qA.mk (qC.below (by repeat (first|(with_reducible first|exact HI500.out|apply qC.alloc|apply qC.drewN|apply qC.drew|apply qC.zM|refine qC.far ?_ NB500_505.out _)|exact HI500.out)) hb);have n3_:=qA.mk (zD (g:=gb505) (o:=.cells #[.slice Ao18 t501.length co18] 25 (0,0)) (by (with_reducible repeat (first|refine qF ?_ _|refine qI ?_|refine qE ?_ _));exact BK505.out) hb);have n4_:=qA.mk (qN (by repeat (first|(with_reducible first|exact HB.out|apply qH|apply qB|apply qG|refine qD ?_ (qC.ge HI500.out)|refine qD ?_ GE505.out)|exact HB.out)) hb);have n5_:=qA.mk (hbox);have n6_:=qA.mk ((by rw [hg];exact (qQ (by repeat (first|(with_reducible first|exact HB.out|apply qH|apply qB|apply qG|refine qD ?_ (qC.ge HI500.out)|refine qD ?_ GE505.out)|exact HB.out))) : w.heap.size ≤ gb513));have n7_:=qA.mk ((by rw [hg];exact (qQ (by repeat (first|(with_reducible first|exact HB.out|apply qH|apply qB|apply qG|refine qD ?_ (qC.ge HI500.out)|refine qD ?_ GE505.out)|exact HB.out))) : w.heap.size ≤ gb513));have n8_:=qA.mk ((by rw [hg];exact Nat.ne_of_lt (jR (g:=gb505) (o:=.cells #[.slice Ao18 t501.length co18] 25 (0,0)) (by (with_reducible repeat (first|refine qF ?_ _|refine qI ?_|refine qE ?_ _));exact BK505.out)) : gb505≠gb513));have n9_:=qA.mk ((by rw [hg];exact Nat.ne_of_gt (jR (g:=gb505) (o:=.cells #[.slice Ao18 t501.length co18] 25 (0,0)) (by (with_reducible repeat (first|refine qF ?_ _|refine qI ?_|refine qE ?_ _));exact BK505.out)) : gb513≠gb505));have n10_:=qA.mk ((by rw [hg];exact Nat.ne_of_lt (qC.lt (show qC w _ g500 t498 t509 from by repeat (first|(with_reducible first|exact HI500.out|apply qC.alloc|apply qC.drewN|apply qC.drew|apply qC.zM|refine qC.far ?_ NB500_505.out _)|exact HI500.out))) : g500≠gb513));have n11_:=qA.mk ((by rw [hg];exact Nat.ne_of_gt (qC.lt (show qC w _ g500 t498 t509 from by repeat (first|(with_reducible first|exact HI500.out|apply qC.alloc|apply qC.drewN|apply qC.drew|apply qC.zM|refine qC.far ?_ NB500_505.out _)|exact HI500.out))) : gb513≠g500));clear HO503;clear HO512;clear HI500;clear BK505;clear HB;have HO503:=n0_;have HO512:=n1_;have HI500:=n2_;have BK505:=n3_;have HB:=n4_;have BK513:=n5_;have GW513:=n6_;have GE513:=n7_;have NB505_513:=n8_;have NB513_505:=n9_;have NB500_513:=n10_;have NB513_500:=n11_;clear n0_ n1_ n2_ n3_ n4_ n5_ n6_ n7_ n8_ n9_ n10_ n11_;clear hb hbox hg;obtain ⟨Ao26,co26,eo26⟩:=Kd.vK HO512.out;subst eo26;have hnb27:=NB513_505.out;have hnc27:=NB505_513.out;have hnb28:=NB513_500.out;have hnc28:=NB500_513.out;have hcz29_0 : w25.cell? ⟨gb513,0,none⟩ = some (.slice none 0 0):=(qK BK513.out 0).trans rfl;have hfz29_0:=qJ BK513.out 0))
    have n0_ : qA (Kd.N k51 51 (w25.setCell ⟨gb513,0,none⟩ (.slice Ao26 t510.length co26)) w.heap.size (fun k_=>some k_≠(.slice Ao26 t510.length co26 : Value).ownBlock∧k_≠g500∧k_≠gb505∧k_≠gb513) (.slice Ao18 t501.length co18) t501):=⟨by (with_reducible repeat (first|apply Kd.qV|apply Kd.qU|apply Kd.zA));exact Kd.jS (Kd.uV (p:=⟨gb513,0,none⟩) (Kd.jS HO503.out (fun k_ hk=>(⟨hk,hk.2⟩ : _∧k_≠gb513))) (fun _ hk=>hk.2) (.slice Ao26 t510.length co26)) (fun _ hk=>⟨hk.1.1.2,⟨hk.1.1.1.1,⟨hk.1.1.1.2,hk.1.2⟩⟩⟩)⟩
    have n1_ : qA (Kd.N k51 51 (w25.setCell ⟨gb513,0,none⟩ (.slice Ao26 t510.length co26)) w.heap.size (fun k_=>k_≠gb505∧k_≠g500∧k_≠gb513) (.slice Ao26 t510.length co26) t510):=⟨by (with_reducible repeat (first|apply Kd.qV|apply Kd.qU|apply Kd.zA));exact Kd.jS (Kd.uV (p:=⟨gb513,0,none⟩) (Kd.jS HO512.out (fun k_ hk=>(⟨hk,hk.2⟩ : _∧k_≠gb513))) (fun _ hk=>hk.2) (.slice Ao26 t510.length co26)) (fun _ hk=>⟨hk.1.1.1,⟨hk.1.1.2,hk.1.2⟩⟩)⟩
    have n2_ : qA ((w25.setCell ⟨gb513,0,none⟩ (.slice Ao26 t510.length co26)).heap[gb505]? = some (.cells #[.slice Ao18 t501.length co18] 25 (0,0))):=⟨by (with_reducible repeat (first|refine qF ?_ _|refine qI ?_|refine qE ?_ _));refine zU ?_ NB505_513.out _;(with_reducible repeat (first|refine qF ?_ _|refine qI ?_|refine qE ?_ _));exact BK505.out⟩
    have n3_ : qA ((w25.setCell ⟨gb513,0,none⟩ (.slice Ao26 t510.length co26)).heap[gb513]? = some (.cells #[.slice Ao26 t510.length co26] 25 (0,0))):=⟨by (with_reducible repeat (first|refine qF ?_ _|refine qI ?_|refine qE ?_ _));refine zV (cs:=#[.slice none 0 0]) ?_ 0 _ rfl;(with_reducible repeat (first|refine qF ?_ _|refine qI ?_|refine qE ?_ _));exact BK513.out⟩
    have n4_ : qA (qC w (w25.setCell ⟨gb513,0,none⟩ (.slice Ao26 t510.length co26)) g500 t498 t509):=⟨by repeat (first|(with_reducible first|exact HI500.out|apply qC.alloc|apply qC.drewN|apply qC.drew|apply qC.zM|refine qC.far ?_ NB500_505.out _|refine qC.far ?_ NB500_513.out _)|exact HI500.out)⟩
    have n5_ : qA (Below w.heap.size w (w25.setCell ⟨gb513,0,none⟩ (.slice Ao26 t510.length co26))):=⟨by repeat (first|(with_reducible first|exact HB.out|apply qH|apply qB|apply qG|refine qD ?_ (qC.ge HI500.out)|refine qD ?_ GE505.out|refine qD ?_ GE513.out)|exact HB.out)⟩
    (try clear HO503)
    (try clear HO512)
    (try clear BK505)
    (try clear BK513)
    (try clear HI500)
    (try clear HB)
    generalize (w25.setCell ⟨gb513,0,none⟩ (.slice Ao26 t510.length co26)) = w30 at n0_ n1_ n2_ n3_ n4_ n5_ ⊢
    have HO503:=n0_
    have HO512:=n1_
    have BK505:=n2_
    have BK513:=n3_
    have HI500:=n4_
    have HB:=n5_
    clear n0_ n1_ n2_ n3_ n4_ n5_
    have n0_:=qA.mk (Kd.zA HO503.out)
    have n1_:=qA.mk (Kd.zA HO512.out)
    have n2_:=qA.mk (qI BK505.out)
    have n3_:=qA.mk (qI BK513.out)
    have n4_:=qA.mk (qC.drew HI500.out)
    have n5_:=qA.mk (qG HB.out)
    clear HO503
    clear HO512
    clear BK505
    clear BK513
    clear HI500
    clear HB
    have HO503:=n0_
    have HO512:=n1_
    have BK505:=n2_
    have BK513:=n3_
    have HI500:=n4_
    have HB:=n5_
    clear n0_ n1_ n2_ n3_ n4_ n5_
    refine start_ (n:=29) (S:=fun w'=>w'.cell? ⟨gb513,0,none⟩ = some (.slice Ao26 t510.length co26)∧w'.cell? ⟨gb505,0,none⟩ = some (.slice Ao18 t501.length co18)) (ds:=[]) #[false,false,false,false,false,false,false,false,false,false,false,false,false,false,false,false,false,false,false,false,false,false,false,false,false,false,false,false,false] (by kernel_rfl) rfl rfl ⟨(qK BK513.out 0).trans rfl,(qK BK505.out 0).trans rfl⟩ (fun hHeld=>?_);refine kK trustquorumlaw09_ClosureRestricts.tab5 trustquorumlaw09_ClosureRestricts.bits5 (fun HT_ HW_=>?_)
    generalize w30.drew = w31 at HO503 HO512 BK505 BK513 HI500 HB hHeld ⊢
    refine jQ (i:=1) (N:=some 20) (v:=?_) (a':=?_) #[false,true,false,false,false,false,false,false,false,false,false,false,false,false,false,false,false,false,false,false,false,false,false,false,false,false,false,false,false] rfl rfl (zX HT_.out (by kernel_rfl)) (fun _ _ _ h=>h) (Or.inl ⟨by rfl,?_⟩) ?_ ?_
    rotate_left
    ·intro w'
     go_simp
     with_reducible rfl
    rotate_left
    ·simp only [Act.put,List.setIfInBounds_toArray,List.set_cons_zero,List.set_cons_succ,zT,zW]
     rfl
    refine jQ (i:=4) (N:=some 23) (v:=?_) (a':=?_) #[false,true,false,false,true,false,false,false,false,false,false,false,false,false,false,false,false,false,false,false,false,false,false,false,false,false,false,false,false] rfl rfl (zX HT_.out (by kernel_rfl)) (fun _ _ _ h=>h) (Or.inl ⟨by rfl,?_⟩) ?_ ?_
    rotate_left
    ·intro w'
     go_simp
     with_reducible rfl
    rotate_left
    ·simp only [Act.put,List.setIfInBounds_toArray,List.set_cons_zero,List.set_cons_succ,zT,zW]
     rfl
    refine jQ (i:=5) (N:=some 24) (v:=?_) (a':=?_) #[false,true,false,false,true,true,false,false,false,false,false,false,false,false,false,false,false,false,false,false,false,false,false,false,false,false,false,false,false] rfl rfl (zX HT_.out (by kernel_rfl)) (fun _ _ _ h=>h) (Or.inl ⟨by rfl,?_⟩) ?_ ?_
    rotate_left
    ·intro w'
     go_simp
     with_reducible rfl
    rotate_left
    ·simp only [Act.put,List.setIfInBounds_toArray,List.set_cons_zero,List.set_cons_succ,zT,zW]
     rfl
    refine jQ (i:=6) (N:=some 25) (v:=?_) (a':=?_) #[false,true,false,false,true,true,true,false,false,false,false,false,false,false,false,false,false,false,false,false,false,false,false,false,false,false,false,false,false] rfl rfl (zX HT_.out (by kernel_rfl)) (fun _ _ _ h=>h) (Or.inl ⟨by rfl,?_⟩) ?_ ?_
    rotate_left
    ·intro w'
     go_simp
     with_reducible rfl
    rotate_left
    ·simp only [Act.put,List.setIfInBounds_toArray,List.set_cons_zero,List.set_cons_succ,zT,zW]
     rfl
    refine uQ (i:=0) (N:=some 19) (v:=?_) (a':=?_) #[true,true,false,false,true,true,true,false,false,false,false,false,false,false,false,false,false,false,false,false,false,false,false,false,false,false,false,false,false] rfl rfl (vV HT_.out HW_.out (by kernel_rfl)) (fun _ _ _ h=>h) (Or.inl ⟨by rfl,?_⟩) hHeld ?_ ?_
    rotate_left
    ·rintro w' ⟨s0,s1⟩
     go_simp
     with_reducible rfl
    rotate_left
    ·simp only [Act.put,List.setIfInBounds_toArray,List.set_cons_zero,List.set_cons_succ,zT,zW]
     rfl
    refine uQ (i:=3) (N:=some 22) (v:=?_) (a':=?_) #[true,true,false,true,true,true,true,false,false,false,false,false,false,false,false,false,false,false,false,false,false,false,false,false,false,false,false,false,false] rfl rfl (vV HT_.out HW_.out (by kernel_rfl)) (fun _ _ _ h=>h) (Or.inl ⟨by rfl,?_⟩) hHeld ?_ ?_
    rotate_left
    ·rintro w' ⟨s0,s1⟩
     go_simp
     with_reducible rfl
    rotate_left
    ·simp only [Act.put,List.setIfInBounds_toArray,List.set_cons_zero,List.set_cons_succ,zT,zW]
     rfl
    refine one_ (i:=2) (N:=some 21) #[true,true,true,true,true,true,true,false,false,false,false,false,false,false,false,false,false,false,false,false,false,false,false,false,false,false,false,false,false] rfl rfl (uA HT_.out (by kernel_rfl)) (by decide) (fun K hK=>?_)
    refine kI Try.func17 (by kernel_rfl) rfl #[.agg #[.slice Ao26 t510.length co26],.int .i64 t508] (by rfl) rfl rfl (by (try simp only [List.map_toArray,List.map_cons,List.map_nil]);first|done|rfl|(simp only [List.length_drop,List.length_take];rfl)|(simp only [List.length_nil,Int.natCast_zero,Int.zero_add,Int.ofNat_zero];rfl)) ?_
    with_reducible refine (zL.calls k _ _ t510 t508 t514 _ ?side1 ?side2 A7.out).mono ?_
    (case side1=>repeat (first|exact (Kd.jD HO512.out).2.2|(with_reducible refine Kd.jK ?_ _)|(with_reducible refine Kd.jJ ?_ _)|(with_reducible refine Kd.jV ?_)))
    (case side2=>exact (Kd.jD HO512.out).2.1)
    rintro e w32 ⟨rfl,hb⟩
    refine ⟨_,rfl,?_⟩
    have n0_:=qA.mk (Kd.jA (by (with_reducible repeat (first|apply Kd.qV|apply Kd.qU|apply Kd.zA));exact HO503.out) hb)
    have n1_:=qA.mk (Kd.jA (by (with_reducible repeat (first|apply Kd.qV|apply Kd.qU|apply Kd.zA));exact HO512.out) hb)
    have n2_:=qA.mk (qC.below (by repeat (first|(with_reducible first|exact HI500.out|apply qC.alloc|apply qC.drewN|apply qC.drew|apply qC.zM|refine qC.far ?_ NB500_505.out _|refine qC.far ?_ NB500_513.out _)|exact HI500.out)) hb)
    have n3_:=qA.mk (zD (g:=gb505) (o:=.cells #[.slice Ao18 t501.length co18] 25 (0,0)) (by (with_reducible repeat (first|refine qF ?_ _|refine qI ?_|refine qE ?_ _));exact BK505.out) hb)
    have n4_:=qA.mk (zD (g:=gb513) (o:=.cells #[.slice Ao26 t510.length co26] 25 (0,0)) (by (with_reducible repeat (first|refine qF ?_ _|refine qI ?_|refine qE ?_ _));exact BK513.out) hb)
    have n5_:=qA.mk (qN (by repeat (first|(with_reducible first|exact HB.out|apply qH|apply qB|apply qG|refine qD ?_ (qC.ge HI500.out)|refine qD ?_ GE505.out|refine qD ?_ GE513.out)|exact HB.out)) hb)
    clear HO503
    clear HO512
    clear HI500
    clear BK505
    clear BK513
    clear HB
    have HO503:=n0_
    have HO512:=n1_
    have HI500:=n2_
    have BK505:=n3_
    have BK513:=n4_
    have HB:=n5_
    clear n0_ n1_ n2_ n3_ n4_ n5_
    (try clear hb)
    (try clear hb2)
    (try clear hk)
    (try clear hi)
    refine hK.out _ _ ⟨(qK BK513.out 0).trans rfl,(qK BK505.out 0).trans rfl⟩ (fun hHeld=>?_)
    clear hK K
    refine uU (a':=?_) ?_ ?_
    rotate_left
    ·show Act.put _ (some 21) _ = _
     simp only [Act.put,List.setIfInBounds_toArray,List.set_cons_zero,List.set_cons_succ,zT,zW]
     rfl
    refine one_ (i:=7) (N:=some 26) #[true,true,true,true,true,true,true,true,false,false,false,false,false,false,false,false,false,false,false,false,false,false,false,false,false,false,false,false,false] rfl rfl (uA HT_.out (by kernel_rfl)) (by decide) (fun K hK=>?_)
    refine kI Try.func17 (by kernel_rfl) rfl #[.agg #[.slice Ao18 t501.length co18],.int .i64 (Go.bits .and .i64 t506 t508)] (by rfl) rfl rfl (by (try simp only [List.map_toArray,List.map_cons,List.map_nil]);first|done|rfl|(simp only [List.length_drop,List.length_take];rfl)|(simp only [List.length_nil,Int.natCast_zero,Int.zero_add,Int.ofNat_zero];rfl)) ?_
    with_reducible refine (zL.calls k _ _ t501 (Go.bits .and .i64 t506 t508) t515 _ ?side1 ?side2 A8.out).mono ?_
    (case side1=>repeat (first|exact (Kd.jD HO503.out).2.2|(with_reducible refine Kd.jK ?_ _)|(with_reducible refine Kd.jJ ?_ _)|(with_reducible refine Kd.jV ?_)))
    (case side2=>exact (Kd.jD HO503.out).2.1)
    rintro e w33 ⟨rfl,hb⟩
    refine ⟨_,rfl,?_⟩
    have n0_:=qA.mk (Kd.jA (by (with_reducible repeat (first|apply Kd.qV|apply Kd.qU|apply Kd.zA));exact HO503.out) hb)
    have n1_:=qA.mk (Kd.jA (by (with_reducible repeat (first|apply Kd.qV|apply Kd.qU|apply Kd.zA));exact HO512.out) hb)
    have n2_:=qA.mk (qC.below (by repeat (first|(with_reducible first|exact HI500.out|apply qC.alloc|apply qC.drewN|apply qC.drew|apply qC.zM|refine qC.far ?_ NB500_505.out _|refine qC.far ?_ NB500_513.out _)|exact HI500.out)) hb)
    have n3_:=qA.mk (zD (g:=gb505) (o:=.cells #[.slice Ao18 t501.length co18] 25 (0,0)) (by (with_reducible repeat (first|refine qF ?_ _|refine qI ?_|refine qE ?_ _));exact BK505.out) hb)
    have n4_:=qA.mk (zD (g:=gb513) (o:=.cells #[.slice Ao26 t510.length co26] 25 (0,0)) (by (with_reducible repeat (first|refine qF ?_ _|refine qI ?_|refine qE ?_ _));exact BK513.out) hb)
    have n5_:=qA.mk (qN (by repeat (first|(with_reducible first|exact HB.out|apply qH|apply qB|apply qG|refine qD ?_ (qC.ge HI500.out)|refine qD ?_ GE505.out|refine qD ?_ GE513.out)|exact HB.out)) hb)
    clear HO503
    clear HO512
    clear HI500
    clear BK505
    clear BK513
    clear HB
    have HO503:=n0_
    have HO512:=n1_
    have HI500:=n2_
    have BK505:=n3_
    have BK513:=n4_
    have HB:=n5_
    clear n0_ n1_ n2_ n3_ n4_ n5_
    (try clear hb)
    (try clear hb2)
    (try clear hk)
    (try clear hi)
    refine hK.out _ _ ⟨(qK BK513.out 0).trans rfl,(qK BK505.out 0).trans rfl⟩ (fun hHeld=>?_)
    clear hK K
    refine uU (a':=?_) ?_ ?_
    rotate_left
    ·show Act.put _ (some 26) _ = _
     simp only [Act.put,List.setIfInBounds_toArray,List.set_cons_zero,List.set_cons_succ,zT,zW]
     rfl
    refine jQ (i:=8) (N:=some 27) (v:=?_) (a':=?_) #[true,true,true,true,true,true,true,true,true,false,false,false,false,false,false,false,false,false,false,false,false,false,false,false,false,false,false,false,false] rfl rfl (zX HT_.out (by kernel_rfl)) (fun _ _ _ h=>h) (Or.inl ⟨by rfl,?_⟩) ?_ ?_
    rotate_left
    ·intro w'
     go_simp
     with_reducible rfl
    rotate_left
    ·simp only [Act.put,List.setIfInBounds_toArray,List.set_cons_zero,List.set_cons_succ,zT,zW]
     rfl
    refine jQ (i:=9) (N:=some 28) (v:=?_) (a':=?_) #[true,true,true,true,true,true,true,true,true,true,false,false,false,false,false,false,false,false,false,false,false,false,false,false,false,false,false,false,false] rfl rfl (zX HT_.out (by kernel_rfl)) (fun _ _ _ h=>h) (Or.inl ⟨by rfl,?_⟩) ?_ ?_
    rotate_left
    ·intro w'
     go_simp
     with_reducible rfl
    rotate_left
    ·simp only [Act.put,List.setIfInBounds_toArray,List.set_cons_zero,List.set_cons_succ,zT,zW]
     rfl
    refine jQ (i:=11) (N:=some 30) (v:=?_) (a':=?_) #[true,true,true,true,true,true,true,true,true,true,false,true,false,false,false,false,false,false,false,false,false,false,false,false,false,false,false,false,false] rfl rfl (zX HT_.out (by kernel_rfl)) (fun _ _ _ h=>h) (Or.inl ⟨by rfl,?_⟩) ?_ ?_
    rotate_left
    ·intro w'
     go_simp
     with_reducible rfl
    rotate_left
    ·simp only [Act.put,List.setIfInBounds_toArray,List.set_cons_zero,List.set_cons_succ,zT,zW]
     rfl
    refine jQ (i:=14) (N:=some 33) (v:=?_) (a':=?_) #[true,true,true,true,true,true,true,true,true,true,false,true,false,false,true,false,false,false,false,false,false,false,false,false,false,false,false,false,false] rfl rfl (zX HT_.out (by kernel_rfl)) (fun _ _ _ h=>h) (Or.inl ⟨by rfl,?_⟩) ?_ ?_
    rotate_left
    ·intro w'
     go_simp
     with_reducible rfl
    rotate_left
    ·simp only [Act.put,List.setIfInBounds_toArray,List.set_cons_zero,List.set_cons_succ,zT,zW]
     rfl
    refine uQ (i:=10) (N:=some 29) (v:=?_) (a':=?_) #[true,true,true,true,true,true,true,true,true,true,true,true,false,false,true,false,false,false,false,false,false,false,false,false,false,false,false,false,false] rfl rfl (vV HT_.out HW_.out (by kernel_rfl)) (fun _ _ _ h=>h) (Or.inl ⟨by rfl,?_⟩) hHeld ?_ ?_
    rotate_left
    ·rintro w' ⟨s0,s1⟩
     go_simp
     with_reducible rfl
    rotate_left
    ·simp only [Act.put,List.setIfInBounds_toArray,List.set_cons_zero,List.set_cons_succ,zT,zW]
     rfl
    refine uQ (i:=13) (N:=some 32) (v:=?_) (a':=?_) #[true,true,true,true,true,true,true,true,true,true,true,true,false,true,true,false,false,false,false,false,false,false,false,false,false,false,false,false,false] rfl rfl (vV HT_.out HW_.out (by kernel_rfl)) (fun _ _ _ h=>h) (Or.inl ⟨by rfl,?_⟩) hHeld ?_ ?_
    rotate_left
    ·rintro w' ⟨s0,s1⟩
     go_simp
     with_reducible rfl
    rotate_left
    ·simp only [Act.put,List.setIfInBounds_toArray,List.set_cons_zero,List.set_cons_succ,zT,zW]
     rfl
    refine one_ (i:=12) (N:=some 31) #[true,true,true,true,true,true,true,true,true,true,true,true,true,true,true,false,false,false,false,false,false,false,false,false,false,false,false,false,false] rfl rfl (uA HT_.out (by kernel_rfl)) (by decide) (fun K hK=>?_)
    refine kI Try.func15 (by kernel_rfl) rfl #[.agg #[.slice Ao26 t510.length co26],.int .i64 t508] (by rfl) rfl rfl (by (try simp only [List.map_toArray,List.map_cons,List.map_nil]);first|done|rfl|(simp only [List.length_drop,List.length_take];rfl)|(simp only [List.length_nil,Int.natCast_zero,Int.zero_add,Int.ofNat_zero];rfl)) ?_
    with_reducible refine (zR.calls k _ _ t510 t508 t516 _ ?side1 ?side2 A10.out).mono ?_
    (case side1=>repeat (first|exact (Kd.jD HO512.out).2.2|(with_reducible refine Kd.jK ?_ _)|(with_reducible refine Kd.jJ ?_ _)|(with_reducible refine Kd.jV ?_)))
    (case side2=>exact (Kd.jD HO512.out).2.1)
    rintro e w34 ⟨rfl,hb⟩
    refine ⟨_,rfl,?_⟩
    have n0_:=qA.mk (Kd.jA (by (with_reducible repeat (first|apply Kd.qV|apply Kd.qU|apply Kd.zA));exact HO503.out) hb)
    have n1_:=qA.mk (Kd.jA (by (with_reducible repeat (first|apply Kd.qV|apply Kd.qU|apply Kd.zA));exact HO512.out) hb)
    have n2_:=qA.mk (qC.below (by repeat (first|(with_reducible first|exact HI500.out|apply qC.alloc|apply qC.drewN|apply qC.drew|apply qC.zM|refine qC.far ?_ NB500_505.out _|refine qC.far ?_ NB500_513.out _)|exact HI500.out)) hb)
    have n3_:=qA.mk (zD (g:=gb505) (o:=.cells #[.slice Ao18 t501.length co18] 25 (0,0)) (by (with_reducible repeat (first|refine qF ?_ _|refine qI ?_|refine qE ?_ _));exact BK505.out) hb)
    have n4_:=qA.mk (zD (g:=gb513) (o:=.cells #[.slice Ao26 t510.length co26] 25 (0,0)) (by (with_reducible repeat (first|refine qF ?_ _|refine qI ?_|refine qE ?_ _));exact BK513.out) hb)
    have n5_:=qA.mk (qN (by repeat (first|(with_reducible first|exact HB.out|apply qH|apply qB|apply qG|refine qD ?_ (qC.ge HI500.out)|refine qD ?_ GE505.out|refine qD ?_ GE513.out)|exact HB.out)) hb)
    clear HO503
    clear HO512
    clear HI500
    clear BK505
    clear BK513
    clear HB
    have HO503:=n0_
    have HO512:=n1_
    have HI500:=n2_
    have BK505:=n3_
    have BK513:=n4_
    have HB:=n5_
    clear n0_ n1_ n2_ n3_ n4_ n5_
    (try clear hb)
    (try clear hb2)
    (try clear hk)
    (try clear hi)
    refine hK.out _ _ ⟨(qK BK513.out 0).trans rfl,(qK BK505.out 0).trans rfl⟩ (fun hHeld=>?_)
    clear hK K
    refine uU (a':=?_) ?_ ?_
    rotate_left
    ·show Act.put _ (some 31) _ = _
     simp only [Act.put,List.setIfInBounds_toArray,List.set_cons_zero,List.set_cons_succ,zT,zW]
     rfl
    refine one_ (i:=15) (N:=some 34) #[true,true,true,true,true,true,true,true,true,true,true,true,true,true,true,true,false,false,false,false,false,false,false,false,false,false,false,false,false] rfl rfl (uA HT_.out (by kernel_rfl)) (by decide) (fun K hK=>?_)
    refine kI Try.func15 (by kernel_rfl) rfl #[.agg #[.slice Ao18 t501.length co18],.int .i64 t508] (by rfl) rfl rfl (by (try simp only [List.map_toArray,List.map_cons,List.map_nil]);first|done|rfl|(simp only [List.length_drop,List.length_take];rfl)|(simp only [List.length_nil,Int.natCast_zero,Int.zero_add,Int.ofNat_zero];rfl)) ?_
    with_reducible refine (zR.calls k _ _ t501 t508 true _ ?side1 ?side2 A11.out).mono ?_
    (case side1=>repeat (first|exact (Kd.jD HO503.out).2.2|(with_reducible refine Kd.jK ?_ _)|(with_reducible refine Kd.jJ ?_ _)|(with_reducible refine Kd.jV ?_)))
    (case side2=>exact (Kd.jD HO503.out).2.1)
    rintro e w35 ⟨rfl,hb⟩
    refine ⟨_,rfl,?_⟩
    have n0_:=qA.mk (Kd.jA (by (with_reducible repeat (first|apply Kd.qV|apply Kd.qU|apply Kd.zA));exact HO503.out) hb)
    have n1_:=qA.mk (Kd.jA (by (with_reducible repeat (first|apply Kd.qV|apply Kd.qU|apply Kd.zA));exact HO512.out) hb)
    have n2_:=qA.mk (qC.below (by repeat (first|(with_reducible first|exact HI500.out|apply qC.alloc|apply qC.drewN|apply qC.drew|apply qC.zM|refine qC.far ?_ NB500_505.out _|refine qC.far ?_ NB500_513.out _)|exact HI500.out)) hb)
    have n3_:=qA.mk (zD (g:=gb505) (o:=.cells #[.slice Ao18 t501.length co18] 25 (0,0)) (by (with_reducible repeat (first|refine qF ?_ _|refine qI ?_|refine qE ?_ _));exact BK505.out) hb)
    have n4_:=qA.mk (zD (g:=gb513) (o:=.cells #[.slice Ao26 t510.length co26] 25 (0,0)) (by (with_reducible repeat (first|refine qF ?_ _|refine qI ?_|refine qE ?_ _));exact BK513.out) hb)
    have n5_:=qA.mk (qN (by repeat (first|(with_reducible first|exact HB.out|apply qH|apply qB|apply qG|refine qD ?_ (qC.ge HI500.out)|refine qD ?_ GE505.out|refine qD ?_ GE513.out)|exact HB.out)) hb)
    clear HO503
    clear HO512
    clear HI500
    clear BK505
    clear BK513
    clear HB
    have HO503:=n0_
    have HO512:=n1_
    have HI500:=n2_
    have BK505:=n3_
    have BK513:=n4_
    have HB:=n5_
    clear n0_ n1_ n2_ n3_ n4_ n5_
    (try clear hb)
    (try clear hb2)
    (try clear hk)
    (try clear hi)
    refine hK.out _ _ ⟨(qK BK513.out 0).trans rfl,(qK BK505.out 0).trans rfl⟩ (fun hHeld=>?_)
    clear hK K
    refine uU (a':=?_) ?_ ?_
    rotate_left
    ·show Act.put _ (some 34) _ = _
     simp only [Act.put,List.setIfInBounds_toArray,List.set_cons_zero,List.set_cons_succ,zT,zW]
     rfl
    refine jQ (i:=16) (N:=some 35) (v:=?_) (a':=?_) #[true,true,true,true,true,true,true,true,true,true,true,true,true,true,true,true,true,false,false,false,false,false,false,false,false,false,false,false,false] rfl rfl (zX HT_.out (by kernel_rfl)) (fun _ _ _ h=>h) (Or.inl ⟨by rfl,?_⟩) ?_ ?_
    rotate_left
    ·intro w'
     go_simp
     with_reducible rfl
    rotate_left
    ·simp only [Act.put,List.setIfInBounds_toArray,List.set_cons_zero,List.set_cons_succ,zT,zW]
     rfl
    refine jQ (i:=17) (N:=some 36) (v:=?_) (a':=?_) #[true,true,true,true,true,true,true,true,true,true,true,true,true,true,true,true,true,true,false,false,false,false,false,false,false,false,false,false,false] rfl rfl (zX HT_.out (by kernel_rfl)) (fun _ _ _ h=>h) (Or.inl ⟨by rfl,?_⟩) ?_ ?_
    rotate_left
    ·intro w'
     go_simp
     with_reducible rfl
    rotate_left
    ·simp only [Act.put,List.setIfInBounds_toArray,List.set_cons_zero,List.set_cons_succ,zT,zW]
     rfl
    refine jQ (i:=18) (N:=some 37) (v:=?_) (a':=?_) #[true,true,true,true,true,true,true,true,true,true,true,true,true,true,true,true,true,true,true,false,false,false,false,false,false,false,false,false,false] rfl rfl (zX HT_.out (by kernel_rfl)) (fun _ _ _ h=>h) (Or.inl ⟨by rfl,?_⟩) ?_ ?_
    rotate_left
    ·intro w'
     go_simp
     with_reducible rfl
    rotate_left
    ·simp only [Act.put,List.setIfInBounds_toArray,List.set_cons_zero,List.set_cons_succ,zT,zW]
     rfl
    refine jQ (i:=19) (N:=some 38) (v:=?_) (a':=?_) #[true,true,true,true,true,true,true,true,true,true,true,true,true,true,true,true,true,true,true,true,false,false,false,false,false,false,false,false,false] rfl rfl (zX HT_.out (by kernel_rfl)) (fun _ _ _ h=>h) (Or.inl ⟨by rfl,?_⟩) ?_ ?_
    rotate_left
    ·intro w'
     go_simp
     with_reducible rfl
    rotate_left
    ·simp only [Act.put,List.setIfInBounds_toArray,List.set_cons_zero,List.set_cons_succ,zT,zW]
     rfl
    refine jQ (i:=20) (N:=some 39) (v:=?_) (a':=?_) #[true,true,true,true,true,true,true,true,true,true,true,true,true,true,true,true,true,true,true,true,true,false,false,false,false,false,false,false,false] rfl rfl (zX HT_.out (by kernel_rfl)) (fun _ _ _ h=>h) (Or.inl ⟨by rfl,?_⟩) ?_ ?_
    rotate_left
    ·intro w'
     go_simp
     with_reducible rfl
    rotate_left
    ·simp only [Act.put,List.setIfInBounds_toArray,List.set_cons_zero,List.set_cons_succ,zT,zW]
     rfl
    refine jQ (i:=21) (N:=some 40) (v:=?_) (a':=?_) #[true,true,true,true,true,true,true,true,true,true,true,true,true,true,true,true,true,true,true,true,true,true,false,false,false,false,false,false,false] rfl rfl (zX HT_.out (by kernel_rfl)) (fun _ _ _ h=>h) (Or.inl ⟨by rfl,?_⟩) ?_ ?_
    rotate_left
    ·intro w'
     go_simp
     with_reducible rfl
    rotate_left
    ·simp only [Act.put,List.setIfInBounds_toArray,List.set_cons_zero,List.set_cons_succ,zT,zW]
     rfl
    refine jQ (i:=22) (N:=some 41) (v:=?_) (a':=?_) #[true,true,true,true,true,true,true,true,true,true,true,true,true,true,true,true,true,true,true,true,true,true,true,false,false,false,false,false,false] rfl rfl (zX HT_.out (by kernel_rfl)) (fun _ _ _ h=>h) (Or.inl ⟨by rfl,?_⟩) ?_ ?_
    rotate_left
    ·intro w'
     go_simp
     with_reducible rfl
    rotate_left
    ·simp only [Act.put,List.setIfInBounds_toArray,List.set_cons_zero,List.set_cons_succ,zT,zW]
     rfl
    refine jQ (i:=23) (N:=some 42) (v:=?_) (a':=?_) #[true,true,true,true,true,true,true,true,true,true,true,true,true,true,true,true,true,true,true,true,true,true,true,true,false,false,false,false,false] rfl rfl (zX HT_.out (by kernel_rfl)) (fun _ _ _ h=>h) (Or.inl ⟨by rfl,?_⟩) ?_ ?_
    rotate_left
    ·intro w'
     go_simp
     with_reducible rfl
    rotate_left
    ·simp only [Act.put,List.setIfInBounds_toArray,List.set_cons_zero,List.set_cons_succ,zT,zW]
     rfl
    refine jQ (i:=24) (N:=some 43) (v:=?_) (a':=?_) #[true,true,true,true,true,true,true,true,true,true,true,true,true,true,true,true,true,true,true,true,true,true,true,true,true,false,false,false,false] rfl rfl (zX HT_.out (by kernel_rfl)) (fun _ _ _ h=>h) (Or.inl ⟨by rfl,?_⟩) ?_ ?_
    rotate_left
    ·intro w'
     go_simp
     with_reducible rfl
    rotate_left
    ·simp only [Act.put,List.setIfInBounds_toArray,List.set_cons_zero,List.set_cons_succ,zT,zW]
     rfl
    refine jQ (i:=25) (N:=some 44) (v:=?_) (a':=?_) #[true,true,true,true,true,true,true,true,true,true,true,true,true,true,true,true,true,true,true,true,true,true,true,true,true,true,false,false,false] rfl rfl (zX HT_.out (by kernel_rfl)) (fun _ _ _ h=>h) (Or.inl ⟨by rfl,?_⟩) ?_ ?_
    rotate_left
    ·intro w'
     go_simp
     with_reducible rfl
    rotate_left
    ·simp only [Act.put,List.setIfInBounds_toArray,List.set_cons_zero,List.set_cons_succ,zT,zW]
     rfl
    refine one_ (i:=26) (N:=some 45) #[true,true,true,true,true,true,true,true,true,true,true,true,true,true,true,true,true,true,true,true,true,true,true,true,true,true,true,false,false] rfl rfl (uA HT_.out (by kernel_rfl)) (by decide) (fun K hK=>?_)
    refine kI Try.func9 (by kernel_rfl) rfl #[] (by rfl) rfl rfl (by (try simp only [List.map_toArray,List.map_cons,List.map_nil]);first|done|rfl|(simp only [List.length_drop,List.length_take];rfl)|(simp only [List.length_nil,Int.natCast_zero,Int.zero_add,Int.ofNat_zero];rfl)) ?_
    with_reducible refine (zQ.calls k  t518 _ A14.out).mono ?_
    rintro e w36 ⟨rfl,hb⟩
    refine ⟨_,rfl,?_⟩
    have n0_:=qA.mk (Kd.jA (by (with_reducible repeat (first|apply Kd.qV|apply Kd.qU|apply Kd.zA));exact HO503.out) hb)
    have n1_:=qA.mk (Kd.jA (by (with_reducible repeat (first|apply Kd.qV|apply Kd.qU|apply Kd.zA));exact HO512.out) hb)
    have n2_:=qA.mk (qC.below (by repeat (first|(with_reducible first|exact HI500.out|apply qC.alloc|apply qC.drewN|apply qC.drew|apply qC.zM|refine qC.far ?_ NB500_505.out _|refine qC.far ?_ NB500_513.out _)|exact HI500.out)) hb)
    have n3_:=qA.mk (zD (g:=gb505) (o:=.cells #[.slice Ao18 t501.length co18] 25 (0,0)) (by (with_reducible repeat (first|refine qF ?_ _|refine qI ?_|refine qE ?_ _));exact BK505.out) hb)
    have n4_:=qA.mk (zD (g:=gb513) (o:=.cells #[.slice Ao26 t510.length co26] 25 (0,0)) (by (with_reducible repeat (first|refine qF ?_ _|refine qI ?_|refine qE ?_ _));exact BK513.out) hb)
    have n5_:=qA.mk (qN (by repeat (first|(with_reducible first|exact HB.out|apply qH|apply qB|apply qG|refine qD ?_ (qC.ge HI500.out)|refine qD ?_ GE505.out|refine qD ?_ GE513.out)|exact HB.out)) hb)
    clear HO503
    clear HO512
    clear HI500
    clear BK505
    clear BK513
    clear HB
    have HO503:=n0_
    have HO512:=n1_
    have HI500:=n2_
    have BK505:=n3_
    have BK513:=n4_
    have HB:=n5_
    clear n0_ n1_ n2_ n3_ n4_ n5_
    (try clear hb)
    (try clear hb2)
    (try clear hk)
    (try clear hi)
    refine hK.out _ _ ⟨(qK BK513.out 0).trans rfl,(qK BK505.out 0).trans rfl⟩ (fun hHeld=>?_)
    clear hK K
    refine uU (a':=?_) ?_ ?_
    rotate_left
    ·show Act.put _ (some 45) _ = _
     simp only [Act.put,List.setIfInBounds_toArray,List.set_cons_zero,List.set_cons_succ,zT,zW]
     rfl
    refine jQ (i:=27) (N:=some 46) (v:=?_) (a':=?_) #[true,true,true,true,true,true,true,true,true,true,true,true,true,true,true,true,true,true,true,true,true,true,true,true,true,true,true,true,false] rfl rfl (zX HT_.out (by kernel_rfl)) (fun _ _ _ h=>h) (Or.inl ⟨by rfl,?_⟩) ?_ ?_
    rotate_left
    ·intro w'
     go_simp
     with_reducible rfl
    rotate_left
    ·simp only [Act.put,List.setIfInBounds_toArray,List.set_cons_zero,List.set_cons_succ,zT,zW]
     rfl
    refine jQ (i:=28) (N:=some 2) (v:=?_) (a':=?_) #[true,true,true,true,true,true,true,true,true,true,true,true,true,true,true,true,true,true,true,true,true,true,true,true,true,true,true,true,true] rfl rfl (zX HT_.out (by kernel_rfl)) (fun _ _ _ h=>h) (Or.inl ⟨by rfl,?_⟩) ?_ ?_
    rotate_left
    ·intro w'
     go_simp
     with_reducible rfl
    rotate_left
    ·simp only [Act.put,List.setIfInBounds_toArray,List.set_cons_zero,List.set_cons_succ,zT,zW]
     rfl
    refine done_ (done_of HT_.out (by kernel_rfl)) ?_
    try go_wp2
    go_ret
    exact ⟨by first|rfl|(simp [zK,zJ]<;>rfl)|(simp [*,zK,zJ]<;>rfl),by repeat (first|(with_reducible first|exact HB.out|apply qH|apply qB|apply qG|refine qD ?_ (qC.ge HI500.out)|refine qD ?_ GE505.out|refine qD ?_ GE513.out)|exact HB.out)⟩
   ·rw [if_neg c13] at H
    have c13b0 : (t516 == ((Go.bits .and .i64 t506 t508) == t508)) = false:=by simpa using c13
    (try (have c13b1 : decide (t516 = ((Go.bits .and .i64 t506 t508) == t508)) = false:=by simpa using c13))
    (try (have c13b2 : (t516 == ((Go.bits .and .i64 t506 t508) == t508)) = false:=by simpa using c13))
    (try (have c13b3 : ¬ (t516 = ((Go.bits .and .i64 t506 t508) == t508)):=by simpa using c13))
    clear c13
    obtain rfl:=Option.some.inj H
    go_enter Try.func7,Try.ntmps7
    try go_wp2_with (first|((with_reducible refine q8 (f:=10) rfl ?_);refine jB (some 9) rfl rfl Try.func10 (by kernel_rfl) rfl #[.slice A0 l0.length c0] rfl (by (try simp only [List.map_toArray,List.map_cons,List.map_nil]);first|done|rfl|(simp only [List.length_drop,List.length_take];rfl)|(simp only [List.length_nil,Int.natCast_zero,Int.zero_add,Int.ofNat_zero];rfl)) ?_;(with_reducible refine (vM.calls _ _ l0 t498 t499 w _ ?side1 ?side2 ?side3 A2.out).mono ?_);(case side1=>repeat (first|(with_reducible first|exact HB.out|apply qH|apply qB|apply qG)|exact HB.out));(case side2=>exact HR0.out);(case side3=>exact HC0.out);rintro e w37 ⟨g500,rfl,hi,hb,hb2⟩;refine ⟨_,rfl,?_⟩;have n0_:=qA.mk (hb);have n1_:=qA.mk (hi);clear HB;have HB:=n0_;have HI500:=n1_;clear n0_ n1_;(try clear hb);(try clear hb2);(try clear hk);(try clear hi))|((with_reducible refine q8 (f:=11) rfl ?_);refine jB (some 11) rfl rfl Try.func11 (by kernel_rfl) rfl #[.pointer (some ⟨g500,0,none⟩),.int .i64 8] rfl (by (try simp only [List.map_toArray,List.map_cons,List.map_nil]);first|done|rfl|(simp only [List.length_drop,List.length_take];rfl)|(simp only [List.length_nil,Int.natCast_zero,Int.zero_add,Int.ofNat_zero];rfl)) ?_;(with_reducible refine (zG.calls k g500 t498 t499 8 t501 t504 w _ ?side1 ?side2 A3.out).mono ?_);(case side1=>repeat (first|(with_reducible first|exact HI500.out|apply qC.alloc|apply qC.drewN|apply qC.drew|apply qC.zM)|exact HI500.out));(case side2=>repeat (first|(with_reducible first|exact HB.out|apply qH|apply qB|apply qG|refine qD ?_ (qC.ge HI500.out))|exact HB.out));rintro e w38 ⟨v502,rfl,ho0,hi,hb,hk⟩;refine ⟨_,rfl,?_⟩;have n0_:=qA.mk (Kd.vS (Kd.jS (ok':=fun k_=>k_≠g500) (Kd.R_N (Kd.uM ho0)) (fun k_ hk_=>(qC.fresh (by repeat (first|(with_reducible first|exact HI500.out|apply qC.alloc|apply qC.drewN|apply qC.drew|apply qC.zM)|exact HI500.out)) k_ hk_.2.1))) (qQ (by repeat (first|(with_reducible first|exact HB.out|apply qH|apply qB|apply qG|refine qD ?_ (qC.ge HI500.out))|exact HB.out))));have n1_:=qA.mk (hb);have n2_:=qA.mk (hi);clear HB;clear HI500;have HO503:=n0_;have HB:=n1_;have HI500:=n2_;clear n0_ n1_ n2_;(try clear hb);(try clear hb2);(try clear hk);(try clear hi);(try clear ho0))|((with_reducible refine jH (N:=4) rfl ?_);refine jL ?hg (N:=4) ?hd (cs:=#[.slice none 0 0]) (t:=25) ?hr ?_;(case hd=>rfl);(case hg=>rfl);(case hr=>first|(go_simp;done)|(go_simp;rfl));intro gb505 hg w39 hbox hb;have n0_:=qA.mk (Kd.jA (Kd.uE (by (with_reducible repeat (first|apply Kd.qV|apply Kd.qU|apply Kd.zA));exact HO503.out) gb505 (Nat.le_of_eq hg.symm)) hb);have n1_:=qA.mk (qC.below (by repeat (first|(with_reducible first|exact HI500.out|apply qC.alloc|apply qC.drewN|apply qC.drew|apply qC.zM)|exact HI500.out)) hb);have n2_:=qA.mk (qN (by repeat (first|(with_reducible first|exact HB.out|apply qH|apply qB|apply qG|refine qD ?_ (qC.ge HI500.out))|exact HB.out)) hb);have n3_:=qA.mk (hbox);have n4_:=qA.mk ((by rw [hg];exact (qQ (by repeat (first|(with_reducible first|exact HB.out|apply qH|apply qB|apply qG|refine qD ?_ (qC.ge HI500.out))|exact HB.out))) : w.heap.size ≤ gb505));have n5_:=qA.mk ((by rw [hg];exact (qQ (by repeat (first|(with_reducible first|exact HB.out|apply qH|apply qB|apply qG|refine qD ?_ (qC.ge HI500.out))|exact HB.out))) : w.heap.size ≤ gb505));have n6_:=qA.mk ((by rw [hg];exact Nat.ne_of_lt (qC.lt (show qC w _ g500 t498 t504 from by repeat (first|(with_reducible first|exact HI500.out|apply qC.alloc|apply qC.drewN|apply qC.drew|apply qC.zM)|exact HI500.out))) : g500≠gb505));have n7_:=qA.mk ((by rw [hg];exact Nat.ne_of_gt (qC.lt (show qC w _ g500 t498 t504 from by repeat (first|(with_reducible first|exact HI500.out|apply qC.alloc|apply qC.drewN|apply qC.drew|apply qC.zM)|exact HI500.out))) : gb505≠g500));clear HO503;clear HI500;clear HB;have HO503:=n0_;have HI500:=n1_;have HB:=n2_;have BK505:=n3_;have GW505:=n4_;have GE505:=n5_;have NB500_505:=n6_;have NB505_500:=n7_;clear n0_ n1_ n2_ n3_ n4_ n5_ n6_ n7_;clear hb hbox hg;obtain ⟨Ao40,co40,eo40⟩:=Kd.vK HO503.out;subst eo40;have hnb41:=NB505_500.out;have hnc41:=NB500_505.out;have hcz42_0 : w39.cell? ⟨gb505,0,none⟩ = some (.slice none 0 0):=(qK BK505.out 0).trans rfl;have hfz42_0:=qJ BK505.out 0)|((with_reducible refine q8 (f:=13) rfl ?_);refine jB (some 13) rfl rfl Try.func13 (by kernel_rfl) rfl #[.pointer (some ⟨g500,0,none⟩),.int .i64 256] rfl (by (try simp only [List.map_toArray,List.map_cons,List.map_nil]);first|done|rfl|(simp only [List.length_drop,List.length_take];rfl)|(simp only [List.length_nil,Int.natCast_zero,Int.zero_add,Int.ofNat_zero];rfl)) ?_;(with_reducible refine (qZ.calls g500 t498 t504 256 t506 t507 w _ ?side1 ?side2 A4.out).mono ?_);(case side1=>repeat (first|(with_reducible first|exact HI500.out|apply qC.alloc|apply qC.drewN|apply qC.drew|apply qC.zM|refine qC.far ?_ NB500_505.out _)|exact HI500.out));(case side2=>repeat (first|(with_reducible first|exact HB.out|apply qH|apply qB|apply qG|refine qD ?_ (qC.ge HI500.out)|refine qD ?_ GE505.out)|exact HB.out));rintro e w43 ⟨rfl,hi,hb,hk⟩;refine ⟨_,rfl,?_⟩;have n0_:=qA.mk (Kd.jS (Kd.N_keep (Kd.jS (ok:=fun k_=>(k_≠g500∧k_≠gb505)) (by (with_reducible repeat (first|apply Kd.qV|apply Kd.qU|apply Kd.zA));exact (Kd.jS (Kd.uV (p:=⟨gb505,0,none⟩) (Kd.jS HO503.out (fun k_ hk=>(⟨hk,hk.2⟩ : _∧k_≠gb505))) (fun _ hk=>hk.2) (.slice Ao40 t501.length co40)) (fun _ h_=>h_.1))) (fun k_ hk_=>(⟨hk_,hk_.1⟩ : _∧k_≠g500))) hk (fun _ h=>h.2)) (fun _ h=>h.1));have n1_:=qA.mk (qL.blk hk (g':=gb505) (o:=.cells #[.slice Ao40 t501.length co40] 25 (0,0)) (by (with_reducible repeat (first|refine qF ?_ _|refine qI ?_|refine qE ?_ _));refine zV (cs:=#[.slice none 0 0]) ?_ 0 _ rfl;(with_reducible repeat (first|refine qF ?_ _|refine qI ?_|refine qE ?_ _));exact BK505.out) NB505_500.out (by simp));have n2_:=qA.mk (hb);have n3_:=qA.mk (hi);clear HO503;clear BK505;clear HB;clear HI500;have HO503:=n0_;have BK505:=n1_;have HB:=n2_;have HI500:=n3_;clear n0_ n1_ n2_ n3_;(try clear hb);(try clear hb2);(try clear hk);(try clear hi))|((with_reducible refine q8 (f:=13) rfl ?_);refine jB (some 15) rfl rfl Try.func13 (by kernel_rfl) rfl #[.pointer (some ⟨g500,0,none⟩),.int .i64 256] rfl (by (try simp only [List.map_toArray,List.map_cons,List.map_nil]);first|done|rfl|(simp only [List.length_drop,List.length_take];rfl)|(simp only [List.length_nil,Int.natCast_zero,Int.zero_add,Int.ofNat_zero];rfl)) ?_;(with_reducible refine (qZ.calls g500 t498 t507 256 t508 t509 w _ ?side1 ?side2 A5.out).mono ?_);(case side1=>repeat (first|(with_reducible first|exact HI500.out|apply qC.alloc|apply qC.drewN|apply qC.drew|apply qC.zM|refine qC.far ?_ NB500_505.out _)|exact HI500.out));(case side2=>repeat (first|(with_reducible first|exact HB.out|apply qH|apply qB|apply qG|refine qD ?_ (qC.ge HI500.out)|refine qD ?_ GE505.out)|exact HB.out));rintro e w44 ⟨rfl,hi,hb,hk⟩;refine ⟨_,rfl,?_⟩;have n0_:=qA.mk (Kd.jS (Kd.N_keep (Kd.jS (ok:=fun k_=>(k_≠g500∧k_≠gb505)) (by (with_reducible repeat (first|apply Kd.qV|apply Kd.qU|apply Kd.zA));exact HO503.out) (fun k_ hk_=>(⟨hk_,hk_.1⟩ : _∧k_≠g500))) hk (fun _ h=>h.2)) (fun _ h=>h.1));have n1_:=qA.mk (qL.blk hk (g':=gb505) (o:=.cells #[.slice Ao40 t501.length co40] 25 (0,0)) (by (with_reducible repeat (first|refine qF ?_ _|refine qI ?_|refine qE ?_ _));exact BK505.out) NB505_500.out (by simp));have n2_:=qA.mk (hb);have n3_:=qA.mk (hi);clear HO503;clear BK505;clear HB;clear HI500;have HO503:=n0_;have BK505:=n1_;have HB:=n2_;have HI500:=n3_;clear n0_ n1_ n2_ n3_;(try clear hb);(try clear hb2);(try clear hk);(try clear hi);have hcz45_0 : w44.cell? ⟨gb505,0,none⟩ = some (.slice Ao40 t501.length co40):=(qK BK505.out 0).trans rfl;have hfz45_0:=qJ BK505.out 0)|((with_reducible refine q8 (f:=27) rfl ?_);refine jB (some 18) rfl rfl Try.func27 (by kernel_rfl) rfl #[.agg #[.slice Ao40 t501.length co40],.int .i64 t506] rfl (by (try simp only [List.map_toArray,List.map_cons,List.map_nil]);first|done|rfl|(simp only [List.length_drop,List.length_take];rfl)|(simp only [List.length_nil,Int.natCast_zero,Int.zero_add,Int.ofNat_zero];rfl)) ?_;(with_reducible refine (trustquorumref06_Restrict.calls k (fun k_=>(k_≠g500∧k_≠gb505)) _ _ t501 t506 t510 _ ?side1 A6.out).mono ?_);(case side1=>exact Kd.N_V (HO503.out));rintro e w46 ⟨v511,rfl,ho0,hb⟩;refine ⟨_,rfl,?_⟩;have n0_:=qA.mk (Kd.jN (by (with_reducible repeat (first|apply Kd.qV|apply Kd.qU|apply Kd.zA));exact HO503.out) (Kd.vR ho0) hb);have n1_:=qA.mk (Kd.vS (Kd.jS (ok':=fun k_=>k_≠gb505∧k_≠g500) ho0 (fun k_ hk_=>⟨Or.elim hk_ (fun hs_=>hs_.2) (fun hn_=>(Kd.vU (g:=gb505) (o:=.cells #[.slice Ao40 t501.length co40] 25 (0,0)) (by (with_reducible repeat (first|refine qF ?_ _|refine qI ?_|refine qE ?_ _));exact BK505.out) k_ hn_)),Or.elim hk_ (fun hs_=>hs_.1) (fun hn_=>(qC.fresh (by repeat (first|(with_reducible first|exact HI500.out|apply qC.alloc|apply qC.drewN|apply qC.drew|apply qC.zM|refine qC.far ?_ NB500_505.out _)|exact HI500.out)) k_ hn_))⟩)) (qQ (by repeat (first|(with_reducible first|exact HB.out|apply qH|apply qB|apply qG|refine qD ?_ (qC.ge HI500.out)|refine qD ?_ GE505.out)|exact HB.out))));have n2_:=qA.mk (qC.below (by repeat (first|(with_reducible first|exact HI500.out|apply qC.alloc|apply qC.drewN|apply qC.drew|apply qC.zM|refine qC.far ?_ NB500_505.out _)|exact HI500.out)) hb);have n3_:=qA.mk (zD (g:=gb505) (o:=.cells #[.slice Ao40 t501.length co40] 25 (0,0)) (by (with_reducible repeat (first|refine qF ?_ _|refine qI ?_|refine qE ?_ _));exact BK505.out) hb);have n4_:=qA.mk (qN (by repeat (first|(with_reducible first|exact HB.out|apply qH|apply qB|apply qG|refine qD ?_ (qC.ge HI500.out)|refine qD ?_ GE505.out)|exact HB.out)) hb);clear HO503;clear HI500;clear BK505;clear HB;have HO503:=n0_;have HO512:=n1_;have HI500:=n2_;have BK505:=n3_;have HB:=n4_;clear n0_ n1_ n2_ n3_ n4_;(try clear hb);(try clear hb2);(try clear hk);(try clear hi);(try clear ho0))|((with_reducible refine jH (N:=7) rfl ?_);refine jL ?hg (N:=7) ?hd (cs:=#[.slice none 0 0]) (t:=25) ?hr ?_;(case hd=>rfl);(case hg=>rfl);(case hr=>first|(go_simp;done)|(go_simp;rfl));intro gb513 hg w47 hbox hb;have n0_:=qA.mk (Kd.jA (Kd.uE (by (with_reducible repeat (first|apply Kd.qV|apply Kd.qU|apply Kd.zA));exact HO503.out) gb513 (Nat.le_of_eq hg.symm)) hb);have n1_:=qA.mk (Kd.jA (Kd.uE (by (with_reducible repeat (first|apply Kd.qV|apply Kd.qU|apply Kd.zA));exact HO512.out) gb513 (Nat.le_of_eq hg.symm)) hb);have n2_:=qA.mk (qC.below (by repeat (first|(with_reducible first|exact HI500.out|apply qC.alloc|apply qC.drewN|apply qC.drew|apply qC.zM|refine qC.far ?_ NB500_505.out _)|exact HI500.out)) hb);have n3_:=qA.mk (zD (g:=gb505) (o:=.cells #[.slice Ao40 t501.length co40] 25 (0,0)) (by (with_reducible repeat (first|refine qF ?_ _|refine qI ?_|refine qE ?_ _));exact BK505.out) hb);have n4_:=qA.mk (qN (by repeat (first|(with_reducible first|exact HB.out|apply qH|apply qB|apply qG|refine qD ?_ (qC.ge HI500.out)|refine qD ?_ GE505.out)|exact HB.out)) hb);have n5_:=qA.mk (hbox);have n6_:=qA.mk ((by rw [hg];exact (qQ (by repeat (first|(with_reducible first|exact HB.out|apply qH|apply qB|apply qG|refine qD ?_ (qC.ge HI500.out)|refine qD ?_ GE505.out)|exact HB.out))) : w.heap.size ≤ gb513));have n7_:=qA.mk ((by rw [hg];exact (qQ (by repeat (first|(with_reducible first|exact HB.out|apply qH|apply qB|apply qG|refine qD ?_ (qC.ge HI500.out)|refine qD ?_ GE505.out)|exact HB.out))) : w.heap.size ≤ gb513));have n8_:=qA.mk ((by rw [hg];exact Nat.ne_of_lt (jR (g:=gb505) (o:=.cells #[.slice Ao40 t501.length co40] 25 (0,0)) (by (with_reducible repeat (first|refine qF ?_ _|refine qI ?_|refine qE ?_ _));exact BK505.out)) : gb505≠gb513));have n9_:=qA.mk ((by rw [hg];exact Nat.ne_of_gt (jR (g:=gb505) (o:=.cells #[.slice Ao40 t501.length co40] 25 (0,0)) (by (with_reducible repeat (first|refine qF ?_ _|refine qI ?_|refine qE ?_ _));exact BK505.out)) : gb513≠gb505));have n10_:=qA.mk ((by rw [hg];exact Nat.ne_of_lt (qC.lt (show qC w _ g500 t498 t509 from by repeat (first|(with_reducible first|exact HI500.out|apply qC.alloc|apply qC.drewN|apply qC.drew|apply qC.zM|refine qC.far ?_ NB500_505.out _)|exact HI500.out))) : g500≠gb513));have n11_:=qA.mk ((by rw [hg];exact Nat.ne_of_gt (qC.lt (show qC w _ g500 t498 t509 from by repeat (first|(with_reducible first|exact HI500.out|apply qC.alloc|apply qC.drewN|apply qC.drew|apply qC.zM|refine qC.far ?_ NB500_505.out _)|exact HI500.out))) : gb513≠g500));clear HO503;clear HO512;clear HI500;clear BK505;clear HB;have HO503:=n0_;have HO512:=n1_;have HI500:=n2_;have BK505:=n3_;have HB:=n4_;have BK513:=n5_;have GW513:=n6_;have GE513:=n7_;have NB505_513:=n8_;have NB513_505:=n9_;have NB500_513:=n10_;have NB513_500:=n11_;clear n0_ n1_ n2_ n3_ n4_ n5_ n6_ n7_ n8_ n9_ n10_ n11_;clear hb hbox hg;obtain ⟨Ao48,co48,eo48⟩:=Kd.vK HO512.out;subst eo48;have hnb49:=NB513_505.out;have hnc49:=NB505_513.out;have hnb50:=NB513_500.out;have hnc50:=NB500_513.out;have hcz51_0 : w47.cell? ⟨gb513,0,none⟩ = some (.slice none 0 0):=(qK BK513.out 0).trans rfl;have hfz51_0:=qJ BK513.out 0))
    have n0_ : qA (Kd.N k51 51 (w47.setCell ⟨gb513,0,none⟩ (.slice Ao48 t510.length co48)) w.heap.size (fun k_=>some k_≠(.slice Ao48 t510.length co48 : Value).ownBlock∧k_≠g500∧k_≠gb505∧k_≠gb513) (.slice Ao40 t501.length co40) t501):=⟨by (with_reducible repeat (first|apply Kd.qV|apply Kd.qU|apply Kd.zA));exact Kd.jS (Kd.uV (p:=⟨gb513,0,none⟩) (Kd.jS HO503.out (fun k_ hk=>(⟨hk,hk.2⟩ : _∧k_≠gb513))) (fun _ hk=>hk.2) (.slice Ao48 t510.length co48)) (fun _ hk=>⟨hk.1.1.2,⟨hk.1.1.1.1,⟨hk.1.1.1.2,hk.1.2⟩⟩⟩)⟩
    have n1_ : qA (Kd.N k51 51 (w47.setCell ⟨gb513,0,none⟩ (.slice Ao48 t510.length co48)) w.heap.size (fun k_=>k_≠gb505∧k_≠g500∧k_≠gb513) (.slice Ao48 t510.length co48) t510):=⟨by (with_reducible repeat (first|apply Kd.qV|apply Kd.qU|apply Kd.zA));exact Kd.jS (Kd.uV (p:=⟨gb513,0,none⟩) (Kd.jS HO512.out (fun k_ hk=>(⟨hk,hk.2⟩ : _∧k_≠gb513))) (fun _ hk=>hk.2) (.slice Ao48 t510.length co48)) (fun _ hk=>⟨hk.1.1.1,⟨hk.1.1.2,hk.1.2⟩⟩)⟩
    have n2_ : qA ((w47.setCell ⟨gb513,0,none⟩ (.slice Ao48 t510.length co48)).heap[gb505]? = some (.cells #[.slice Ao40 t501.length co40] 25 (0,0))):=⟨by (with_reducible repeat (first|refine qF ?_ _|refine qI ?_|refine qE ?_ _));refine zU ?_ NB505_513.out _;(with_reducible repeat (first|refine qF ?_ _|refine qI ?_|refine qE ?_ _));exact BK505.out⟩
    have n3_ : qA ((w47.setCell ⟨gb513,0,none⟩ (.slice Ao48 t510.length co48)).heap[gb513]? = some (.cells #[.slice Ao48 t510.length co48] 25 (0,0))):=⟨by (with_reducible repeat (first|refine qF ?_ _|refine qI ?_|refine qE ?_ _));refine zV (cs:=#[.slice none 0 0]) ?_ 0 _ rfl;(with_reducible repeat (first|refine qF ?_ _|refine qI ?_|refine qE ?_ _));exact BK513.out⟩
    have n4_ : qA (qC w (w47.setCell ⟨gb513,0,none⟩ (.slice Ao48 t510.length co48)) g500 t498 t509):=⟨by repeat (first|(with_reducible first|exact HI500.out|apply qC.alloc|apply qC.drewN|apply qC.drew|apply qC.zM|refine qC.far ?_ NB500_505.out _|refine qC.far ?_ NB500_513.out _)|exact HI500.out)⟩
    have n5_ : qA (Below w.heap.size w (w47.setCell ⟨gb513,0,none⟩ (.slice Ao48 t510.length co48))):=⟨by repeat (first|(with_reducible first|exact HB.out|apply qH|apply qB|apply qG|refine qD ?_ (qC.ge HI500.out)|refine qD ?_ GE505.out|refine qD ?_ GE513.out)|exact HB.out)⟩
    (try clear HO503)
    (try clear HO512)
    (try clear BK505)
    (try clear BK513)
    (try clear HI500)
    (try clear HB)
    generalize (w47.setCell ⟨gb513,0,none⟩ (.slice Ao48 t510.length co48)) = w52 at n0_ n1_ n2_ n3_ n4_ n5_ ⊢
    have HO503:=n0_
    have HO512:=n1_
    have BK505:=n2_
    have BK513:=n3_
    have HI500:=n4_
    have HB:=n5_
    clear n0_ n1_ n2_ n3_ n4_ n5_
    have n0_:=qA.mk (Kd.zA HO503.out)
    have n1_:=qA.mk (Kd.zA HO512.out)
    have n2_:=qA.mk (qI BK505.out)
    have n3_:=qA.mk (qI BK513.out)
    have n4_:=qA.mk (qC.drew HI500.out)
    have n5_:=qA.mk (qG HB.out)
    clear HO503
    clear HO512
    clear BK505
    clear BK513
    clear HI500
    clear HB
    have HO503:=n0_
    have HO512:=n1_
    have BK505:=n2_
    have BK513:=n3_
    have HI500:=n4_
    have HB:=n5_
    clear n0_ n1_ n2_ n3_ n4_ n5_
    refine start_ (n:=29) (S:=fun w'=>w'.cell? ⟨gb513,0,none⟩ = some (.slice Ao48 t510.length co48)∧w'.cell? ⟨gb505,0,none⟩ = some (.slice Ao40 t501.length co40)) (ds:=[]) #[false,false,false,false,false,false,false,false,false,false,false,false,false,false,false,false,false,false,false,false,false,false,false,false,false,false,false,false,false] (by kernel_rfl) rfl rfl ⟨(qK BK513.out 0).trans rfl,(qK BK505.out 0).trans rfl⟩ (fun hHeld=>?_);refine kK trustquorumlaw09_ClosureRestricts.tab5 trustquorumlaw09_ClosureRestricts.bits5 (fun HT_ HW_=>?_)
    generalize w52.drew = w53 at HO503 HO512 BK505 BK513 HI500 HB hHeld ⊢
    refine jQ (i:=1) (N:=some 20) (v:=?_) (a':=?_) #[false,true,false,false,false,false,false,false,false,false,false,false,false,false,false,false,false,false,false,false,false,false,false,false,false,false,false,false,false] rfl rfl (zX HT_.out (by kernel_rfl)) (fun _ _ _ h=>h) (Or.inl ⟨by rfl,?_⟩) ?_ ?_
    rotate_left
    ·intro w'
     go_simp
     with_reducible rfl
    rotate_left
    ·simp only [Act.put,List.setIfInBounds_toArray,List.set_cons_zero,List.set_cons_succ,zT,zW]
     rfl
    refine jQ (i:=4) (N:=some 23) (v:=?_) (a':=?_) #[false,true,false,false,true,false,false,false,false,false,false,false,false,false,false,false,false,false,false,false,false,false,false,false,false,false,false,false,false] rfl rfl (zX HT_.out (by kernel_rfl)) (fun _ _ _ h=>h) (Or.inl ⟨by rfl,?_⟩) ?_ ?_
    rotate_left
    ·intro w'
     go_simp
     with_reducible rfl
    rotate_left
    ·simp only [Act.put,List.setIfInBounds_toArray,List.set_cons_zero,List.set_cons_succ,zT,zW]
     rfl
    refine jQ (i:=5) (N:=some 24) (v:=?_) (a':=?_) #[false,true,false,false,true,true,false,false,false,false,false,false,false,false,false,false,false,false,false,false,false,false,false,false,false,false,false,false,false] rfl rfl (zX HT_.out (by kernel_rfl)) (fun _ _ _ h=>h) (Or.inl ⟨by rfl,?_⟩) ?_ ?_
    rotate_left
    ·intro w'
     go_simp
     with_reducible rfl
    rotate_left
    ·simp only [Act.put,List.setIfInBounds_toArray,List.set_cons_zero,List.set_cons_succ,zT,zW]
     rfl
    refine jQ (i:=6) (N:=some 25) (v:=?_) (a':=?_) #[false,true,false,false,true,true,true,false,false,false,false,false,false,false,false,false,false,false,false,false,false,false,false,false,false,false,false,false,false] rfl rfl (zX HT_.out (by kernel_rfl)) (fun _ _ _ h=>h) (Or.inl ⟨by rfl,?_⟩) ?_ ?_
    rotate_left
    ·intro w'
     go_simp
     with_reducible rfl
    rotate_left
    ·simp only [Act.put,List.setIfInBounds_toArray,List.set_cons_zero,List.set_cons_succ,zT,zW]
     rfl
    refine uQ (i:=0) (N:=some 19) (v:=?_) (a':=?_) #[true,true,false,false,true,true,true,false,false,false,false,false,false,false,false,false,false,false,false,false,false,false,false,false,false,false,false,false,false] rfl rfl (vV HT_.out HW_.out (by kernel_rfl)) (fun _ _ _ h=>h) (Or.inl ⟨by rfl,?_⟩) hHeld ?_ ?_
    rotate_left
    ·rintro w' ⟨s0,s1⟩
     go_simp
     with_reducible rfl
    rotate_left
    ·simp only [Act.put,List.setIfInBounds_toArray,List.set_cons_zero,List.set_cons_succ,zT,zW]
     rfl
    refine uQ (i:=3) (N:=some 22) (v:=?_) (a':=?_) #[true,true,false,true,true,true,true,false,false,false,false,false,false,false,false,false,false,false,false,false,false,false,false,false,false,false,false,false,false] rfl rfl (vV HT_.out HW_.out (by kernel_rfl)) (fun _ _ _ h=>h) (Or.inl ⟨by rfl,?_⟩) hHeld ?_ ?_
    rotate_left
    ·rintro w' ⟨s0,s1⟩
     go_simp
     with_reducible rfl
    rotate_left
    ·simp only [Act.put,List.setIfInBounds_toArray,List.set_cons_zero,List.set_cons_succ,zT,zW]
     rfl
    refine one_ (i:=2) (N:=some 21) #[true,true,true,true,true,true,true,false,false,false,false,false,false,false,false,false,false,false,false,false,false,false,false,false,false,false,false,false,false] rfl rfl (uA HT_.out (by kernel_rfl)) (by decide) (fun K hK=>?_)
    refine kI Try.func17 (by kernel_rfl) rfl #[.agg #[.slice Ao48 t510.length co48],.int .i64 t508] (by rfl) rfl rfl (by (try simp only [List.map_toArray,List.map_cons,List.map_nil]);first|done|rfl|(simp only [List.length_drop,List.length_take];rfl)|(simp only [List.length_nil,Int.natCast_zero,Int.zero_add,Int.ofNat_zero];rfl)) ?_
    with_reducible refine (zL.calls k _ _ t510 t508 t514 _ ?side1 ?side2 A7.out).mono ?_
    (case side1=>repeat (first|exact (Kd.jD HO512.out).2.2|(with_reducible refine Kd.jK ?_ _)|(with_reducible refine Kd.jJ ?_ _)|(with_reducible refine Kd.jV ?_)))
    (case side2=>exact (Kd.jD HO512.out).2.1)
    rintro e w54 ⟨rfl,hb⟩
    refine ⟨_,rfl,?_⟩
    have n0_:=qA.mk (Kd.jA (by (with_reducible repeat (first|apply Kd.qV|apply Kd.qU|apply Kd.zA));exact HO503.out) hb)
    have n1_:=qA.mk (Kd.jA (by (with_reducible repeat (first|apply Kd.qV|apply Kd.qU|apply Kd.zA));exact HO512.out) hb)
    have n2_:=qA.mk (qC.below (by repeat (first|(with_reducible first|exact HI500.out|apply qC.alloc|apply qC.drewN|apply qC.drew|apply qC.zM|refine qC.far ?_ NB500_505.out _|refine qC.far ?_ NB500_513.out _)|exact HI500.out)) hb)
    have n3_:=qA.mk (zD (g:=gb505) (o:=.cells #[.slice Ao40 t501.length co40] 25 (0,0)) (by (with_reducible repeat (first|refine qF ?_ _|refine qI ?_|refine qE ?_ _));exact BK505.out) hb)
    have n4_:=qA.mk (zD (g:=gb513) (o:=.cells #[.slice Ao48 t510.length co48] 25 (0,0)) (by (with_reducible repeat (first|refine qF ?_ _|refine qI ?_|refine qE ?_ _));exact BK513.out) hb)
    have n5_:=qA.mk (qN (by repeat (first|(with_reducible first|exact HB.out|apply qH|apply qB|apply qG|refine qD ?_ (qC.ge HI500.out)|refine qD ?_ GE505.out|refine qD ?_ GE513.out)|exact HB.out)) hb)
    clear HO503
    clear HO512
    clear HI500
    clear BK505
    clear BK513
    clear HB
    have HO503:=n0_
    have HO512:=n1_
    have HI500:=n2_
    have BK505:=n3_
    have BK513:=n4_
    have HB:=n5_
    clear n0_ n1_ n2_ n3_ n4_ n5_
    (try clear hb)
    (try clear hb2)
    (try clear hk)
    (try clear hi)
    refine hK.out _ _ ⟨(qK BK513.out 0).trans rfl,(qK BK505.out 0).trans rfl⟩ (fun hHeld=>?_)
    clear hK K
    refine uU (a':=?_) ?_ ?_
    rotate_left
    ·show Act.put _ (some 21) _ = _
     simp only [Act.put,List.setIfInBounds_toArray,List.set_cons_zero,List.set_cons_succ,zT,zW]
     rfl
    refine one_ (i:=7) (N:=some 26) #[true,true,true,true,true,true,true,true,false,false,false,false,false,false,false,false,false,false,false,false,false,false,false,false,false,false,false,false,false] rfl rfl (uA HT_.out (by kernel_rfl)) (by decide) (fun K hK=>?_)
    refine kI Try.func17 (by kernel_rfl) rfl #[.agg #[.slice Ao40 t501.length co40],.int .i64 (Go.bits .and .i64 t506 t508)] (by rfl) rfl rfl (by (try simp only [List.map_toArray,List.map_cons,List.map_nil]);first|done|rfl|(simp only [List.length_drop,List.length_take];rfl)|(simp only [List.length_nil,Int.natCast_zero,Int.zero_add,Int.ofNat_zero];rfl)) ?_
    with_reducible refine (zL.calls k _ _ t501 (Go.bits .and .i64 t506 t508) t515 _ ?side1 ?side2 A8.out).mono ?_
    (case side1=>repeat (first|exact (Kd.jD HO503.out).2.2|(with_reducible refine Kd.jK ?_ _)|(with_reducible refine Kd.jJ ?_ _)|(with_reducible refine Kd.jV ?_)))
    (case side2=>exact (Kd.jD HO503.out).2.1)
    rintro e w55 ⟨rfl,hb⟩
    refine ⟨_,rfl,?_⟩
    have n0_:=qA.mk (Kd.jA (by (with_reducible repeat (first|apply Kd.qV|apply Kd.qU|apply Kd.zA));exact HO503.out) hb)
    have n1_:=qA.mk (Kd.jA (by (with_reducible repeat (first|apply Kd.qV|apply Kd.qU|apply Kd.zA));exact HO512.out) hb)
    have n2_:=qA.mk (qC.below (by repeat (first|(with_reducible first|exact HI500.out|apply qC.alloc|apply qC.drewN|apply qC.drew|apply qC.zM|refine qC.far ?_ NB500_505.out _|refine qC.far ?_ NB500_513.out _)|exact HI500.out)) hb)
    have n3_:=qA.mk (zD (g:=gb505) (o:=.cells #[.slice Ao40 t501.length co40] 25 (0,0)) (by (with_reducible repeat (first|refine qF ?_ _|refine qI ?_|refine qE ?_ _));exact BK505.out) hb)
    have n4_:=qA.mk (zD (g:=gb513) (o:=.cells #[.slice Ao48 t510.length co48] 25 (0,0)) (by (with_reducible repeat (first|refine qF ?_ _|refine qI ?_|refine qE ?_ _));exact BK513.out) hb)
    have n5_:=qA.mk (qN (by repeat (first|(with_reducible first|exact HB.out|apply qH|apply qB|apply qG|refine qD ?_ (qC.ge HI500.out)|refine qD ?_ GE505.out|refine qD ?_ GE513.out)|exact HB.out)) hb)
    clear HO503
    clear HO512
    clear HI500
    clear BK505
    clear BK513
    clear HB
    have HO503:=n0_
    have HO512:=n1_
    have HI500:=n2_
    have BK505:=n3_
    have BK513:=n4_
    have HB:=n5_
    clear n0_ n1_ n2_ n3_ n4_ n5_
    (try clear hb)
    (try clear hb2)
    (try clear hk)
    (try clear hi)
    refine hK.out _ _ ⟨(qK BK513.out 0).trans rfl,(qK BK505.out 0).trans rfl⟩ (fun hHeld=>?_)
    clear hK K
    refine uU (a':=?_) ?_ ?_
    rotate_left
    ·show Act.put _ (some 26) _ = _
     simp only [Act.put,List.setIfInBounds_toArray,List.set_cons_zero,List.set_cons_succ,zT,zW]
     rfl
    refine jQ (i:=8) (N:=some 27) (v:=?_) (a':=?_) #[true,true,true,true,true,true,true,true,true,false,false,false,false,false,false,false,false,false,false,false,false,false,false,false,false,false,false,false,false] rfl rfl (zX HT_.out (by kernel_rfl)) (fun _ _ _ h=>h) (Or.inl ⟨by rfl,?_⟩) ?_ ?_
    rotate_left
    ·intro w'
     go_simp
     with_reducible rfl
    rotate_left
    ·simp only [Act.put,List.setIfInBounds_toArray,List.set_cons_zero,List.set_cons_succ,zT,zW]
     rfl
    refine jQ (i:=9) (N:=some 28) (v:=?_) (a':=?_) #[true,true,true,true,true,true,true,true,true,true,false,false,false,false,false,false,false,false,false,false,false,false,false,false,false,false,false,false,false] rfl rfl (zX HT_.out (by kernel_rfl)) (fun _ _ _ h=>h) (Or.inl ⟨by rfl,?_⟩) ?_ ?_
    rotate_left
    ·intro w'
     go_simp
     with_reducible rfl
    rotate_left
    ·simp only [Act.put,List.setIfInBounds_toArray,List.set_cons_zero,List.set_cons_succ,zT,zW]
     rfl
    refine jQ (i:=11) (N:=some 30) (v:=?_) (a':=?_) #[true,true,true,true,true,true,true,true,true,true,false,true,false,false,false,false,false,false,false,false,false,false,false,false,false,false,false,false,false] rfl rfl (zX HT_.out (by kernel_rfl)) (fun _ _ _ h=>h) (Or.inl ⟨by rfl,?_⟩) ?_ ?_
    rotate_left
    ·intro w'
     go_simp
     with_reducible rfl
    rotate_left
    ·simp only [Act.put,List.setIfInBounds_toArray,List.set_cons_zero,List.set_cons_succ,zT,zW]
     rfl
    refine jQ (i:=14) (N:=some 33) (v:=?_) (a':=?_) #[true,true,true,true,true,true,true,true,true,true,false,true,false,false,true,false,false,false,false,false,false,false,false,false,false,false,false,false,false] rfl rfl (zX HT_.out (by kernel_rfl)) (fun _ _ _ h=>h) (Or.inl ⟨by rfl,?_⟩) ?_ ?_
    rotate_left
    ·intro w'
     go_simp
     with_reducible rfl
    rotate_left
    ·simp only [Act.put,List.setIfInBounds_toArray,List.set_cons_zero,List.set_cons_succ,zT,zW]
     rfl
    refine uQ (i:=10) (N:=some 29) (v:=?_) (a':=?_) #[true,true,true,true,true,true,true,true,true,true,true,true,false,false,true,false,false,false,false,false,false,false,false,false,false,false,false,false,false] rfl rfl (vV HT_.out HW_.out (by kernel_rfl)) (fun _ _ _ h=>h) (Or.inl ⟨by rfl,?_⟩) hHeld ?_ ?_
    rotate_left
    ·rintro w' ⟨s0,s1⟩
     go_simp
     with_reducible rfl
    rotate_left
    ·simp only [Act.put,List.setIfInBounds_toArray,List.set_cons_zero,List.set_cons_succ,zT,zW]
     rfl
    refine uQ (i:=13) (N:=some 32) (v:=?_) (a':=?_) #[true,true,true,true,true,true,true,true,true,true,true,true,false,true,true,false,false,false,false,false,false,false,false,false,false,false,false,false,false] rfl rfl (vV HT_.out HW_.out (by kernel_rfl)) (fun _ _ _ h=>h) (Or.inl ⟨by rfl,?_⟩) hHeld ?_ ?_
    rotate_left
    ·rintro w' ⟨s0,s1⟩
     go_simp
     with_reducible rfl
    rotate_left
    ·simp only [Act.put,List.setIfInBounds_toArray,List.set_cons_zero,List.set_cons_succ,zT,zW]
     rfl
    refine one_ (i:=12) (N:=some 31) #[true,true,true,true,true,true,true,true,true,true,true,true,true,true,true,false,false,false,false,false,false,false,false,false,false,false,false,false,false] rfl rfl (uA HT_.out (by kernel_rfl)) (by decide) (fun K hK=>?_)
    refine kI Try.func15 (by kernel_rfl) rfl #[.agg #[.slice Ao48 t510.length co48],.int .i64 t508] (by rfl) rfl rfl (by (try simp only [List.map_toArray,List.map_cons,List.map_nil]);first|done|rfl|(simp only [List.length_drop,List.length_take];rfl)|(simp only [List.length_nil,Int.natCast_zero,Int.zero_add,Int.ofNat_zero];rfl)) ?_
    with_reducible refine (zR.calls k _ _ t510 t508 t516 _ ?side1 ?side2 A10.out).mono ?_
    (case side1=>repeat (first|exact (Kd.jD HO512.out).2.2|(with_reducible refine Kd.jK ?_ _)|(with_reducible refine Kd.jJ ?_ _)|(with_reducible refine Kd.jV ?_)))
    (case side2=>exact (Kd.jD HO512.out).2.1)
    rintro e w56 ⟨rfl,hb⟩
    refine ⟨_,rfl,?_⟩
    have n0_:=qA.mk (Kd.jA (by (with_reducible repeat (first|apply Kd.qV|apply Kd.qU|apply Kd.zA));exact HO503.out) hb)
    have n1_:=qA.mk (Kd.jA (by (with_reducible repeat (first|apply Kd.qV|apply Kd.qU|apply Kd.zA));exact HO512.out) hb)
    have n2_:=qA.mk (qC.below (by repeat (first|(with_reducible first|exact HI500.out|apply qC.alloc|apply qC.drewN|apply qC.drew|apply qC.zM|refine qC.far ?_ NB500_505.out _|refine qC.far ?_ NB500_513.out _)|exact HI500.out)) hb)
    have n3_:=qA.mk (zD (g:=gb505) (o:=.cells #[.slice Ao40 t501.length co40] 25 (0,0)) (by (with_reducible repeat (first|refine qF ?_ _|refine qI ?_|refine qE ?_ _));exact BK505.out) hb)
    have n4_:=qA.mk (zD (g:=gb513) (o:=.cells #[.slice Ao48 t510.length co48] 25 (0,0)) (by (with_reducible repeat (first|refine qF ?_ _|refine qI ?_|refine qE ?_ _));exact BK513.out) hb)
    have n5_:=qA.mk (qN (by repeat (first|(with_reducible first|exact HB.out|apply qH|apply qB|apply qG|refine qD ?_ (qC.ge HI500.out)|refine qD ?_ GE505.out|refine qD ?_ GE513.out)|exact HB.out)) hb)
    clear HO503
    clear HO512
    clear HI500
    clear BK505
    clear BK513
    clear HB
    have HO503:=n0_
    have HO512:=n1_
    have HI500:=n2_
    have BK505:=n3_
    have BK513:=n4_
    have HB:=n5_
    clear n0_ n1_ n2_ n3_ n4_ n5_
    (try clear hb)
    (try clear hb2)
    (try clear hk)
    (try clear hi)
    refine hK.out _ _ ⟨(qK BK513.out 0).trans rfl,(qK BK505.out 0).trans rfl⟩ (fun hHeld=>?_)
    clear hK K
    refine uU (a':=?_) ?_ ?_
    rotate_left
    ·show Act.put _ (some 31) _ = _
     simp only [Act.put,List.setIfInBounds_toArray,List.set_cons_zero,List.set_cons_succ,zT,zW]
     rfl
    refine one_ (i:=15) (N:=some 34) #[true,true,true,true,true,true,true,true,true,true,true,true,true,true,true,true,false,false,false,false,false,false,false,false,false,false,false,false,false] rfl rfl (uA HT_.out (by kernel_rfl)) (by decide) (fun K hK=>?_)
    refine kI Try.func15 (by kernel_rfl) rfl #[.agg #[.slice Ao40 t501.length co40],.int .i64 t508] (by rfl) rfl rfl (by (try simp only [List.map_toArray,List.map_cons,List.map_nil]);first|done|rfl|(simp only [List.length_drop,List.length_take];rfl)|(simp only [List.length_nil,Int.natCast_zero,Int.zero_add,Int.ofNat_zero];rfl)) ?_
    with_reducible refine (zR.calls k _ _ t501 t508 true _ ?side1 ?side2 A11.out).mono ?_
    (case side1=>repeat (first|exact (Kd.jD HO503.out).2.2|(with_reducible refine Kd.jK ?_ _)|(with_reducible refine Kd.jJ ?_ _)|(with_reducible refine Kd.jV ?_)))
    (case side2=>exact (Kd.jD HO503.out).2.1)
    rintro e w57 ⟨rfl,hb⟩
    refine ⟨_,rfl,?_⟩
    have n0_:=qA.mk (Kd.jA (by (with_reducible repeat (first|apply Kd.qV|apply Kd.qU|apply Kd.zA));exact HO503.out) hb)
    have n1_:=qA.mk (Kd.jA (by (with_reducible repeat (first|apply Kd.qV|apply Kd.qU|apply Kd.zA));exact HO512.out) hb)
    have n2_:=qA.mk (qC.below (by repeat (first|(with_reducible first|exact HI500.out|apply qC.alloc|apply qC.drewN|apply qC.drew|apply qC.zM|refine qC.far ?_ NB500_505.out _|refine qC.far ?_ NB500_513.out _)|exact HI500.out)) hb)
    have n3_:=qA.mk (zD (g:=gb505) (o:=.cells #[.slice Ao40 t501.length co40] 25 (0,0)) (by (with_reducible repeat (first|refine qF ?_ _|refine qI ?_|refine qE ?_ _));exact BK505.out) hb)
    have n4_:=qA.mk (zD (g:=gb513) (o:=.cells #[.slice Ao48 t510.length co48] 25 (0,0)) (by (with_reducible repeat (first|refine qF ?_ _|refine qI ?_|refine qE ?_ _));exact BK513.out) hb)
    have n5_:=qA.mk (qN (by repeat (first|(with_reducible first|exact HB.out|apply qH|apply qB|apply qG|refine qD ?_ (qC.ge HI500.out)|refine qD ?_ GE505.out|refine qD ?_ GE513.out)|exact HB.out)) hb)
    clear HO503
    clear HO512
    clear HI500
    clear BK505
    clear BK513
    clear HB
    have HO503:=n0_
    have HO512:=n1_
    have HI500:=n2_
    have BK505:=n3_
    have BK513:=n4_
    have HB:=n5_
    clear n0_ n1_ n2_ n3_ n4_ n5_
    (try clear hb)
    (try clear hb2)
    (try clear hk)
    (try clear hi)
    refine hK.out _ _ ⟨(qK BK513.out 0).trans rfl,(qK BK505.out 0).trans rfl⟩ (fun hHeld=>?_)
    clear hK K
    refine uU (a':=?_) ?_ ?_
    rotate_left
    ·show Act.put _ (some 34) _ = _
     simp only [Act.put,List.setIfInBounds_toArray,List.set_cons_zero,List.set_cons_succ,zT,zW]
     rfl
    refine jQ (i:=16) (N:=some 35) (v:=?_) (a':=?_) #[true,true,true,true,true,true,true,true,true,true,true,true,true,true,true,true,true,false,false,false,false,false,false,false,false,false,false,false,false] rfl rfl (zX HT_.out (by kernel_rfl)) (fun _ _ _ h=>h) (Or.inl ⟨by rfl,?_⟩) ?_ ?_
    rotate_left
    ·intro w'
     go_simp
     with_reducible rfl
    rotate_left
    ·simp only [Act.put,List.setIfInBounds_toArray,List.set_cons_zero,List.set_cons_succ,zT,zW]
     rfl
    refine jQ (i:=17) (N:=some 36) (v:=?_) (a':=?_) #[true,true,true,true,true,true,true,true,true,true,true,true,true,true,true,true,true,true,false,false,false,false,false,false,false,false,false,false,false] rfl rfl (zX HT_.out (by kernel_rfl)) (fun _ _ _ h=>h) (Or.inl ⟨by rfl,?_⟩) ?_ ?_
    rotate_left
    ·intro w'
     go_simp
     with_reducible rfl
    rotate_left
    ·simp only [Act.put,List.setIfInBounds_toArray,List.set_cons_zero,List.set_cons_succ,zT,zW]
     rfl
    refine jQ (i:=18) (N:=some 37) (v:=?_) (a':=?_) #[true,true,true,true,true,true,true,true,true,true,true,true,true,true,true,true,true,true,true,false,false,false,false,false,false,false,false,false,false] rfl rfl (zX HT_.out (by kernel_rfl)) (fun _ _ _ h=>h) (Or.inl ⟨by rfl,?_⟩) ?_ ?_
    rotate_left
    ·intro w'
     go_simp
     with_reducible rfl
    rotate_left
    ·simp only [Act.put,List.setIfInBounds_toArray,List.set_cons_zero,List.set_cons_succ,zT,zW]
     rfl
    refine jQ (i:=19) (N:=some 38) (v:=?_) (a':=?_) #[true,true,true,true,true,true,true,true,true,true,true,true,true,true,true,true,true,true,true,true,false,false,false,false,false,false,false,false,false] rfl rfl (zX HT_.out (by kernel_rfl)) (fun _ _ _ h=>h) (Or.inl ⟨by rfl,?_⟩) ?_ ?_
    rotate_left
    ·intro w'
     go_simp
     with_reducible rfl
    rotate_left
    ·simp only [Act.put,List.setIfInBounds_toArray,List.set_cons_zero,List.set_cons_succ,zT,zW]
     rfl
    refine jQ (i:=20) (N:=some 39) (v:=?_) (a':=?_) #[true,true,true,true,true,true,true,true,true,true,true,true,true,true,true,true,true,true,true,true,true,false,false,false,false,false,false,false,false] rfl rfl (zX HT_.out (by kernel_rfl)) (fun _ _ _ h=>h) (Or.inl ⟨by rfl,?_⟩) ?_ ?_
    rotate_left
    ·intro w'
     go_simp
     with_reducible rfl
    rotate_left
    ·simp only [Act.put,List.setIfInBounds_toArray,List.set_cons_zero,List.set_cons_succ,zT,zW]
     rfl
    refine jQ (i:=21) (N:=some 40) (v:=?_) (a':=?_) #[true,true,true,true,true,true,true,true,true,true,true,true,true,true,true,true,true,true,true,true,true,true,false,false,false,false,false,false,false] rfl rfl (zX HT_.out (by kernel_rfl)) (fun _ _ _ h=>h) (Or.inl ⟨by rfl,?_⟩) ?_ ?_
    rotate_left
    ·intro w'
     go_simp
     with_reducible rfl
    rotate_left
    ·simp only [Act.put,List.setIfInBounds_toArray,List.set_cons_zero,List.set_cons_succ,zT,zW]
     rfl
    refine jQ (i:=22) (N:=some 41) (v:=?_) (a':=?_) #[true,true,true,true,true,true,true,true,true,true,true,true,true,true,true,true,true,true,true,true,true,true,true,false,false,false,false,false,false] rfl rfl (zX HT_.out (by kernel_rfl)) (fun _ _ _ h=>h) (Or.inl ⟨by rfl,?_⟩) ?_ ?_
    rotate_left
    ·intro w'
     go_simp
     with_reducible rfl
    rotate_left
    ·simp only [Act.put,List.setIfInBounds_toArray,List.set_cons_zero,List.set_cons_succ,zT,zW]
     rfl
    refine jQ (i:=23) (N:=some 42) (v:=?_) (a':=?_) #[true,true,true,true,true,true,true,true,true,true,true,true,true,true,true,true,true,true,true,true,true,true,true,true,false,false,false,false,false] rfl rfl (zX HT_.out (by kernel_rfl)) (fun _ _ _ h=>h) (Or.inl ⟨by rfl,?_⟩) ?_ ?_
    rotate_left
    ·intro w'
     go_simp
     with_reducible rfl
    rotate_left
    ·simp only [Act.put,List.setIfInBounds_toArray,List.set_cons_zero,List.set_cons_succ,zT,zW]
     rfl
    refine jQ (i:=24) (N:=some 43) (v:=?_) (a':=?_) #[true,true,true,true,true,true,true,true,true,true,true,true,true,true,true,true,true,true,true,true,true,true,true,true,true,false,false,false,false] rfl rfl (zX HT_.out (by kernel_rfl)) (fun _ _ _ h=>h) (Or.inl ⟨by rfl,?_⟩) ?_ ?_
    rotate_left
    ·intro w'
     go_simp
     with_reducible rfl
    rotate_left
    ·simp only [Act.put,List.setIfInBounds_toArray,List.set_cons_zero,List.set_cons_succ,zT,zW]
     rfl
    refine jQ (i:=25) (N:=some 44) (v:=?_) (a':=?_) #[true,true,true,true,true,true,true,true,true,true,true,true,true,true,true,true,true,true,true,true,true,true,true,true,true,true,false,false,false] rfl rfl (zX HT_.out (by kernel_rfl)) (fun _ _ _ h=>h) (Or.inl ⟨by rfl,?_⟩) ?_ ?_
    rotate_left
    ·intro w'
     go_simp
     with_reducible rfl
    rotate_left
    ·simp only [Act.put,List.setIfInBounds_toArray,List.set_cons_zero,List.set_cons_succ,zT,zW]
     rfl
    refine jQ (i:=26) (N:=some 45) (v:=undef) (a':=?_) #[true,true,true,true,true,true,true,true,true,true,true,true,true,true,true,true,true,true,true,true,true,true,true,true,true,true,true,false,false] rfl rfl (zX HT_.out (by kernel_rfl)) (fun _ _ _ h=>h) (Or.inr ⟨by rfl,rfl⟩) ?_ ?_
    rotate_left
    ·simp only [Act.put,List.setIfInBounds_toArray,List.set_cons_zero,List.set_cons_succ,zT,zW]
     rfl
    refine jQ (i:=27) (N:=some 46) (v:=?_) (a':=?_) #[true,true,true,true,true,true,true,true,true,true,true,true,true,true,true,true,true,true,true,true,true,true,true,true,true,true,true,true,false] rfl rfl (zX HT_.out (by kernel_rfl)) (fun _ _ _ h=>h) (Or.inl ⟨by rfl,?_⟩) ?_ ?_
    rotate_left
    ·intro w'
     go_simp
     with_reducible rfl
    rotate_left
    ·simp only [Act.put,List.setIfInBounds_toArray,List.set_cons_zero,List.set_cons_succ,zT,zW]
     rfl
    refine jQ (i:=28) (N:=some 2) (v:=?_) (a':=?_) #[true,true,true,true,true,true,true,true,true,true,true,true,true,true,true,true,true,true,true,true,true,true,true,true,true,true,true,true,true] rfl rfl (zX HT_.out (by kernel_rfl)) (fun _ _ _ h=>h) (Or.inl ⟨by rfl,?_⟩) ?_ ?_
    rotate_left
    ·intro w'
     go_simp
     with_reducible rfl
    rotate_left
    ·simp only [Act.put,List.setIfInBounds_toArray,List.set_cons_zero,List.set_cons_succ,zT,zW]
     rfl
    refine done_ (done_of HT_.out (by kernel_rfl)) ?_
    try go_wp2
    go_ret
    exact ⟨by first|rfl|(simp [zK,zJ]<;>rfl)|(simp [*,zK,zJ]<;>rfl),by repeat (first|(with_reducible first|exact HB.out|apply qH|apply qB|apply qG|refine qD ?_ (qC.ge HI500.out)|refine qD ?_ GE505.out|refine qD ?_ GE513.out)|exact HB.out)⟩
  ·replace c12:=Bool.eq_false_iff.mpr c12
   subst c12
   have H1 : (if (t516 == false) = true then ((zQ.f k).bind fun t519=>(some t519)) else (some false)) = some r:=by rw [if_neg (show ¬ (false = true) by decide)] at H;exact H
   clear H
   have H:=H1
   clear H1
   by_cases c58 : (t516 == false) = true
   ·rw [if_pos c58] at H
    have c58b0 : (t516 == false) = true:=c58
    (try (have c58b1 : decide (t516 = false) = true:=by simpa using c58))
    (try (have c58b2 : (t516 == false) = true:=by simpa using c58))
    clear c58
    replace H:=Option.bind_eq_some_iff.mp H
    obtain ⟨t519,A590,H⟩:=H
    replace H : (some t519) = some r:=H
    have A59:=qA.mk A590
    clear A590
    obtain rfl:=Option.some.inj H
    go_enter Try.func7,Try.ntmps7
    try go_wp2_with (first|((with_reducible refine q8 (f:=10) rfl ?_);refine jB (some 9) rfl rfl Try.func10 (by kernel_rfl) rfl #[.slice A0 l0.length c0] rfl (by (try simp only [List.map_toArray,List.map_cons,List.map_nil]);first|done|rfl|(simp only [List.length_drop,List.length_take];rfl)|(simp only [List.length_nil,Int.natCast_zero,Int.zero_add,Int.ofNat_zero];rfl)) ?_;(with_reducible refine (vM.calls _ _ l0 t498 t499 w _ ?side1 ?side2 ?side3 A2.out).mono ?_);(case side1=>repeat (first|(with_reducible first|exact HB.out|apply qH|apply qB|apply qG)|exact HB.out));(case side2=>exact HR0.out);(case side3=>exact HC0.out);rintro e w60 ⟨g500,rfl,hi,hb,hb2⟩;refine ⟨_,rfl,?_⟩;have n0_:=qA.mk (hb);have n1_:=qA.mk (hi);clear HB;have HB:=n0_;have HI500:=n1_;clear n0_ n1_;(try clear hb);(try clear hb2);(try clear hk);(try clear hi))|((with_reducible refine q8 (f:=11) rfl ?_);refine jB (some 11) rfl rfl Try.func11 (by kernel_rfl) rfl #[.pointer (some ⟨g500,0,none⟩),.int .i64 8] rfl (by (try simp only [List.map_toArray,List.map_cons,List.map_nil]);first|done|rfl|(simp only [List.length_drop,List.length_take];rfl)|(simp only [List.length_nil,Int.natCast_zero,Int.zero_add,Int.ofNat_zero];rfl)) ?_;(with_reducible refine (zG.calls k g500 t498 t499 8 t501 t504 w _ ?side1 ?side2 A3.out).mono ?_);(case side1=>repeat (first|(with_reducible first|exact HI500.out|apply qC.alloc|apply qC.drewN|apply qC.drew|apply qC.zM)|exact HI500.out));(case side2=>repeat (first|(with_reducible first|exact HB.out|apply qH|apply qB|apply qG|refine qD ?_ (qC.ge HI500.out))|exact HB.out));rintro e w61 ⟨v502,rfl,ho0,hi,hb,hk⟩;refine ⟨_,rfl,?_⟩;have n0_:=qA.mk (Kd.vS (Kd.jS (ok':=fun k_=>k_≠g500) (Kd.R_N (Kd.uM ho0)) (fun k_ hk_=>(qC.fresh (by repeat (first|(with_reducible first|exact HI500.out|apply qC.alloc|apply qC.drewN|apply qC.drew|apply qC.zM)|exact HI500.out)) k_ hk_.2.1))) (qQ (by repeat (first|(with_reducible first|exact HB.out|apply qH|apply qB|apply qG|refine qD ?_ (qC.ge HI500.out))|exact HB.out))));have n1_:=qA.mk (hb);have n2_:=qA.mk (hi);clear HB;clear HI500;have HO503:=n0_;have HB:=n1_;have HI500:=n2_;clear n0_ n1_ n2_;(try clear hb);(try clear hb2);(try clear hk);(try clear hi);(try clear ho0))|((with_reducible refine jH (N:=4) rfl ?_);refine jL ?hg (N:=4) ?hd (cs:=#[.slice none 0 0]) (t:=25) ?hr ?_;(case hd=>rfl);(case hg=>rfl);(case hr=>first|(go_simp;done)|(go_simp;rfl));intro gb505 hg w62 hbox hb;have n0_:=qA.mk (Kd.jA (Kd.uE (by (with_reducible repeat (first|apply Kd.qV|apply Kd.qU|apply Kd.zA));exact HO503.out) gb505 (Nat.le_of_eq hg.symm)) hb);have n1_:=qA.mk (qC.below (by repeat (first|(with_reducible first|exact HI500.out|apply qC.alloc|apply qC.drewN|apply qC.drew|apply qC.zM)|exact HI500.out)) hb);have n2_:=qA.mk (qN (by repeat (first|(with_reducible first|exact HB.out|apply qH|apply qB|apply qG|refine qD ?_ (qC.ge HI500.out))|exact HB.out)) hb);have n3_:=qA.mk (hbox);have n4_:=qA.mk ((by rw [hg];exact (qQ (by repeat (first|(with_reducible first|exact HB.out|apply qH|apply qB|apply qG|refine qD ?_ (qC.ge HI500.out))|exact HB.out))) : w.heap.size ≤ gb505));have n5_:=qA.mk ((by rw [hg];exact (qQ (by repeat (first|(with_reducible first|exact HB.out|apply qH|apply qB|apply qG|refine qD ?_ (qC.ge HI500.out))|exact HB.out))) : w.heap.size ≤ gb505));have n6_:=qA.mk ((by rw [hg];exact Nat.ne_of_lt (qC.lt (show qC w _ g500 t498 t504 from by repeat (first|(with_reducible first|exact HI500.out|apply qC.alloc|apply qC.drewN|apply qC.drew|apply qC.zM)|exact HI500.out))) : g500≠gb505));have n7_:=qA.mk ((by rw [hg];exact Nat.ne_of_gt (qC.lt (show qC w _ g500 t498 t504 from by repeat (first|(with_reducible first|exact HI500.out|apply qC.alloc|apply qC.drewN|apply qC.drew|apply qC.zM)|exact HI500.out))) : gb505≠g500));clear HO503;clear HI500;clear HB;have HO503:=n0_;have HI500:=n1_;have HB:=n2_;have BK505:=n3_;have GW505:=n4_;have GE505:=n5_;have NB500_505:=n6_;have NB505_500:=n7_;clear n0_ n1_ n2_ n3_ n4_ n5_ n6_ n7_;clear hb hbox hg;obtain ⟨Ao63,co63,eo63⟩:=Kd.vK HO503.out;subst eo63;have hnb64:=NB505_500.out;have hnc64:=NB500_505.out;have hcz65_0 : w62.cell? ⟨gb505,0,none⟩ = some (.slice none 0 0):=(qK BK505.out 0).trans rfl;have hfz65_0:=qJ BK505.out 0)|((with_reducible refine q8 (f:=13) rfl ?_);refine jB (some 13) rfl rfl Try.func13 (by kernel_rfl) rfl #[.pointer (some ⟨g500,0,none⟩),.int .i64 256] rfl (by (try simp only [List.map_toArray,List.map_cons,List.map_nil]);first|done|rfl|(simp only [List.length_drop,List.length_take];rfl)|(simp only [List.length_nil,Int.natCast_zero,Int.zero_add,Int.ofNat_zero];rfl)) ?_;(with_reducible refine (qZ.calls g500 t498 t504 256 t506 t507 w _ ?side1 ?side2 A4.out).mono ?_);(case side1=>repeat (first|(with_reducible first|exact HI500.out|apply qC.alloc|apply qC.drewN|apply qC.drew|apply qC.zM|refine qC.far ?_ NB500_505.out _)|exact HI500.out));(case side2=>repeat (first|(with_reducible first|exact HB.out|apply qH|apply qB|apply qG|refine qD ?_ (qC.ge HI500.out)|refine qD ?_ GE505.out)|exact HB.out));rintro e w66 ⟨rfl,hi,hb,hk⟩;refine ⟨_,rfl,?_⟩;have n0_:=qA.mk (Kd.jS (Kd.N_keep (Kd.jS (ok:=fun k_=>(k_≠g500∧k_≠gb505)) (by (with_reducible repeat (first|apply Kd.qV|apply Kd.qU|apply Kd.zA));exact (Kd.jS (Kd.uV (p:=⟨gb505,0,none⟩) (Kd.jS HO503.out (fun k_ hk=>(⟨hk,hk.2⟩ : _∧k_≠gb505))) (fun _ hk=>hk.2) (.slice Ao63 t501.length co63)) (fun _ h_=>h_.1))) (fun k_ hk_=>(⟨hk_,hk_.1⟩ : _∧k_≠g500))) hk (fun _ h=>h.2)) (fun _ h=>h.1));have n1_:=qA.mk (qL.blk hk (g':=gb505) (o:=.cells #[.slice Ao63 t501.length co63] 25 (0,0)) (by (with_reducible repeat (first|refine qF ?_ _|refine qI ?_|refine qE ?_ _));refine zV (cs:=#[.slice none 0 0]) ?_ 0 _ rfl;(with_reducible repeat (first|refine qF ?_ _|refine qI ?_|refine qE ?_ _));exact BK505.out) NB505_500.out (by simp));have n2_:=qA.mk (hb);have n3_:=qA.mk (hi);clear HO503;clear BK505;clear HB;clear HI500;have HO503:=n0_;have BK505:=n1_;have HB:=n2_;have HI500:=n3_;clear n0_ n1_ n2_ n3_;(try clear hb);(try clear hb2);(try clear hk);(try clear hi))|((with_reducible refine q8 (f:=13) rfl ?_);refine jB (some 15) rfl rfl Try.func13 (by kernel_rfl) rfl #[.pointer (some ⟨g500,0,none⟩),.int .i64 256] rfl (by (try simp only [List.map_toArray,List.map_cons,List.map_nil]);first|done|rfl|(simp only [List.length_drop,List.length_take];rfl)|(simp only [List.length_nil,Int.natCast_zero,Int.zero_add,Int.ofNat_zero];rfl)) ?_;(with_reducible refine (qZ.calls g500 t498 t507 256 t508 t509 w _ ?side1 ?side2 A5.out).mono ?_);(case side1=>repeat (first|(with_reducible first|exact HI500.out|apply qC.alloc|apply qC.drewN|apply qC.drew|apply qC.zM|refine qC.far ?_ NB500_505.out _)|exact HI500.out));(case side2=>repeat (first|(with_reducible first|exact HB.out|apply qH|apply qB|apply qG|refine qD ?_ (qC.ge HI500.out)|refine qD ?_ GE505.out)|exact HB.out));rintro e w67 ⟨rfl,hi,hb,hk⟩;refine ⟨_,rfl,?_⟩;have n0_:=qA.mk (Kd.jS (Kd.N_keep (Kd.jS (ok:=fun k_=>(k_≠g500∧k_≠gb505)) (by (with_reducible repeat (first|apply Kd.qV|apply Kd.qU|apply Kd.zA));exact HO503.out) (fun k_ hk_=>(⟨hk_,hk_.1⟩ : _∧k_≠g500))) hk (fun _ h=>h.2)) (fun _ h=>h.1));have n1_:=qA.mk (qL.blk hk (g':=gb505) (o:=.cells #[.slice Ao63 t501.length co63] 25 (0,0)) (by (with_reducible repeat (first|refine qF ?_ _|refine qI ?_|refine qE ?_ _));exact BK505.out) NB505_500.out (by simp));have n2_:=qA.mk (hb);have n3_:=qA.mk (hi);clear HO503;clear BK505;clear HB;clear HI500;have HO503:=n0_;have BK505:=n1_;have HB:=n2_;have HI500:=n3_;clear n0_ n1_ n2_ n3_;(try clear hb);(try clear hb2);(try clear hk);(try clear hi);have hcz68_0 : w67.cell? ⟨gb505,0,none⟩ = some (.slice Ao63 t501.length co63):=(qK BK505.out 0).trans rfl;have hfz68_0:=qJ BK505.out 0)|((with_reducible refine q8 (f:=27) rfl ?_);refine jB (some 18) rfl rfl Try.func27 (by kernel_rfl) rfl #[.agg #[.slice Ao63 t501.length co63],.int .i64 t506] rfl (by (try simp only [List.map_toArray,List.map_cons,List.map_nil]);first|done|rfl|(simp only [List.length_drop,List.length_take];rfl)|(simp only [List.length_nil,Int.natCast_zero,Int.zero_add,Int.ofNat_zero];rfl)) ?_;(with_reducible refine (trustquorumref06_Restrict.calls k (fun k_=>(k_≠g500∧k_≠gb505)) _ _ t501 t506 t510 _ ?side1 A6.out).mono ?_);(case side1=>exact Kd.N_V (HO503.out));rintro e w69 ⟨v511,rfl,ho0,hb⟩;refine ⟨_,rfl,?_⟩;have n0_:=qA.mk (Kd.jN (by (with_reducible repeat (first|apply Kd.qV|apply Kd.qU|apply Kd.zA));exact HO503.out) (Kd.vR ho0) hb);have n1_:=qA.mk (Kd.vS (Kd.jS (ok':=fun k_=>k_≠gb505∧k_≠g500) ho0 (fun k_ hk_=>⟨Or.elim hk_ (fun hs_=>hs_.2) (fun hn_=>(Kd.vU (g:=gb505) (o:=.cells #[.slice Ao63 t501.length co63] 25 (0,0)) (by (with_reducible repeat (first|refine qF ?_ _|refine qI ?_|refine qE ?_ _));exact BK505.out) k_ hn_)),Or.elim hk_ (fun hs_=>hs_.1) (fun hn_=>(qC.fresh (by repeat (first|(with_reducible first|exact HI500.out|apply qC.alloc|apply qC.drewN|apply qC.drew|apply qC.zM|refine qC.far ?_ NB500_505.out _)|exact HI500.out)) k_ hn_))⟩)) (qQ (by repeat (first|(with_reducible first|exact HB.out|apply qH|apply qB|apply qG|refine qD ?_ (qC.ge HI500.out)|refine qD ?_ GE505.out)|exact HB.out))));have n2_:=qA.mk (qC.below (by repeat (first|(with_reducible first|exact HI500.out|apply qC.alloc|apply qC.drewN|apply qC.drew|apply qC.zM|refine qC.far ?_ NB500_505.out _)|exact HI500.out)) hb);have n3_:=qA.mk (zD (g:=gb505) (o:=.cells #[.slice Ao63 t501.length co63] 25 (0,0)) (by (with_reducible repeat (first|refine qF ?_ _|refine qI ?_|refine qE ?_ _));exact BK505.out) hb);have n4_:=qA.mk (qN (by repeat (first|(with_reducible first|exact HB.out|apply qH|apply qB|apply qG|refine qD ?_ (qC.ge HI500.out)|refine qD ?_ GE505.out)|exact HB.out)) hb);clear HO503;clear HI500;clear BK505;clear HB;have HO503:=n0_;have HO512:=n1_;have HI500:=n2_;have BK505:=n3_;have HB:=n4_;clear n0_ n1_ n2_ n3_ n4_;(try clear hb);(try clear hb2);(try clear hk);(try clear hi);(try clear ho0))|((with_reducible refine jH (N:=7) rfl ?_);refine jL ?hg (N:=7) ?hd (cs:=#[.slice none 0 0]) (t:=25) ?hr ?_;(case hd=>rfl);(case hg=>rfl);(case hr=>first|(go_simp;done)|(go_simp;rfl));intro gb513 hg w70 hbox hb;have n0_:=qA.mk (Kd.jA (Kd.uE (by (with_reducible repeat (first|apply Kd.qV|apply Kd.qU|apply Kd.zA));exact HO503.out) gb513 (Nat.le_of_eq hg.symm)) hb);have n1_:=qA.mk (Kd.jA (Kd.uE (by (with_reducible repeat (first|apply Kd.qV|apply Kd.qU|apply Kd.zA));exact HO512.out) gb513 (Nat.le_of_eq hg.symm)) hb);have n2_:=qA.mk (qC.below (by repeat (first|(with_reducible first|exact HI500.out|apply qC.alloc|apply qC.drewN|apply qC.drew|apply qC.zM|refine qC.far ?_ NB500_505.out _)|exact HI500.out)) hb);have n3_:=qA.mk (zD (g:=gb505) (o:=.cells #[.slice Ao63 t501.length co63] 25 (0,0)) (by (with_reducible repeat (first|refine qF ?_ _|refine qI ?_|refine qE ?_ _));exact BK505.out) hb);have n4_:=qA.mk (qN (by repeat (first|(with_reducible first|exact HB.out|apply qH|apply qB|apply qG|refine qD ?_ (qC.ge HI500.out)|refine qD ?_ GE505.out)|exact HB.out)) hb);have n5_:=qA.mk (hbox);have n6_:=qA.mk ((by rw [hg];exact (qQ (by repeat (first|(with_reducible first|exact HB.out|apply qH|apply qB|apply qG|refine qD ?_ (qC.ge HI500.out)|refine qD ?_ GE505.out)|exact HB.out))) : w.heap.size ≤ gb513));have n7_:=qA.mk ((by rw [hg];exact (qQ (by repeat (first|(with_reducible first|exact HB.out|apply qH|apply qB|apply qG|refine qD ?_ (qC.ge HI500.out)|refine qD ?_ GE505.out)|exact HB.out))) : w.heap.size ≤ gb513));have n8_:=qA.mk ((by rw [hg];exact Nat.ne_of_lt (jR (g:=gb505) (o:=.cells #[.slice Ao63 t501.length co63] 25 (0,0)) (by (with_reducible repeat (first|refine qF ?_ _|refine qI ?_|refine qE ?_ _));exact BK505.out)) : gb505≠gb513));have n9_:=qA.mk ((by rw [hg];exact Nat.ne_of_gt (jR (g:=gb505) (o:=.cells #[.slice Ao63 t501.length co63] 25 (0,0)) (by (with_reducible repeat (first|refine qF ?_ _|refine qI ?_|refine qE ?_ _));exact BK505.out)) : gb513≠gb505));have n10_:=qA.mk ((by rw [hg];exact Nat.ne_of_lt (qC.lt (show qC w _ g500 t498 t509 from by repeat (first|(with_reducible first|exact HI500.out|apply qC.alloc|apply qC.drewN|apply qC.drew|apply qC.zM|refine qC.far ?_ NB500_505.out _)|exact HI500.out))) : g500≠gb513));have n11_:=qA.mk ((by rw [hg];exact Nat.ne_of_gt (qC.lt (show qC w _ g500 t498 t509 from by repeat (first|(with_reducible first|exact HI500.out|apply qC.alloc|apply qC.drewN|apply qC.drew|apply qC.zM|refine qC.far ?_ NB500_505.out _)|exact HI500.out))) : gb513≠g500));clear HO503;clear HO512;clear HI500;clear BK505;clear HB;have HO503:=n0_;have HO512:=n1_;have HI500:=n2_;have BK505:=n3_;have HB:=n4_;have BK513:=n5_;have GW513:=n6_;have GE513:=n7_;have NB505_513:=n8_;have NB513_505:=n9_;have NB500_513:=n10_;have NB513_500:=n11_;clear n0_ n1_ n2_ n3_ n4_ n5_ n6_ n7_ n8_ n9_ n10_ n11_;clear hb hbox hg;obtain ⟨Ao71,co71,eo71⟩:=Kd.vK HO512.out;subst eo71;have hnb72:=NB513_505.out;have hnc72:=NB505_513.out;have hnb73:=NB513_500.out;have hnc73:=NB500_513.out;have hcz74_0 : w70.cell? ⟨gb513,0,none⟩ = some (.slice none 0 0):=(qK BK513.out 0).trans rfl;have hfz74_0:=qJ BK513.out 0))
    have n0_ : qA (Kd.N k51 51 (w70.setCell ⟨gb513,0,none⟩ (.slice Ao71 t510.length co71)) w.heap.size (fun k_=>some k_≠(.slice Ao71 t510.length co71 : Value).ownBlock∧k_≠g500∧k_≠gb505∧k_≠gb513) (.slice Ao63 t501.length co63) t501):=⟨by (with_reducible repeat (first|apply Kd.qV|apply Kd.qU|apply Kd.zA));exact Kd.jS (Kd.uV (p:=⟨gb513,0,none⟩) (Kd.jS HO503.out (fun k_ hk=>(⟨hk,hk.2⟩ : _∧k_≠gb513))) (fun _ hk=>hk.2) (.slice Ao71 t510.length co71)) (fun _ hk=>⟨hk.1.1.2,⟨hk.1.1.1.1,⟨hk.1.1.1.2,hk.1.2⟩⟩⟩)⟩
    have n1_ : qA (Kd.N k51 51 (w70.setCell ⟨gb513,0,none⟩ (.slice Ao71 t510.length co71)) w.heap.size (fun k_=>k_≠gb505∧k_≠g500∧k_≠gb513) (.slice Ao71 t510.length co71) t510):=⟨by (with_reducible repeat (first|apply Kd.qV|apply Kd.qU|apply Kd.zA));exact Kd.jS (Kd.uV (p:=⟨gb513,0,none⟩) (Kd.jS HO512.out (fun k_ hk=>(⟨hk,hk.2⟩ : _∧k_≠gb513))) (fun _ hk=>hk.2) (.slice Ao71 t510.length co71)) (fun _ hk=>⟨hk.1.1.1,⟨hk.1.1.2,hk.1.2⟩⟩)⟩
    have n2_ : qA ((w70.setCell ⟨gb513,0,none⟩ (.slice Ao71 t510.length co71)).heap[gb505]? = some (.cells #[.slice Ao63 t501.length co63] 25 (0,0))):=⟨by (with_reducible repeat (first|refine qF ?_ _|refine qI ?_|refine qE ?_ _));refine zU ?_ NB505_513.out _;(with_reducible repeat (first|refine qF ?_ _|refine qI ?_|refine qE ?_ _));exact BK505.out⟩
    have n3_ : qA ((w70.setCell ⟨gb513,0,none⟩ (.slice Ao71 t510.length co71)).heap[gb513]? = some (.cells #[.slice Ao71 t510.length co71] 25 (0,0))):=⟨by (with_reducible repeat (first|refine qF ?_ _|refine qI ?_|refine qE ?_ _));refine zV (cs:=#[.slice none 0 0]) ?_ 0 _ rfl;(with_reducible repeat (first|refine qF ?_ _|refine qI ?_|refine qE ?_ _));exact BK513.out⟩
    have n4_ : qA (qC w (w70.setCell ⟨gb513,0,none⟩ (.slice Ao71 t510.length co71)) g500 t498 t509):=⟨by repeat (first|(with_reducible first|exact HI500.out|apply qC.alloc|apply qC.drewN|apply qC.drew|apply qC.zM|refine qC.far ?_ NB500_505.out _|refine qC.far ?_ NB500_513.out _)|exact HI500.out)⟩
    have n5_ : qA (Below w.heap.size w (w70.setCell ⟨gb513,0,none⟩ (.slice Ao71 t510.length co71))):=⟨by repeat (first|(with_reducible first|exact HB.out|apply qH|apply qB|apply qG|refine qD ?_ (qC.ge HI500.out)|refine qD ?_ GE505.out|refine qD ?_ GE513.out)|exact HB.out)⟩
    (try clear HO503)
    (try clear HO512)
    (try clear BK505)
    (try clear BK513)
    (try clear HI500)
    (try clear HB)
    generalize (w70.setCell ⟨gb513,0,none⟩ (.slice Ao71 t510.length co71)) = w75 at n0_ n1_ n2_ n3_ n4_ n5_ ⊢
    have HO503:=n0_
    have HO512:=n1_
    have BK505:=n2_
    have BK513:=n3_
    have HI500:=n4_
    have HB:=n5_
    clear n0_ n1_ n2_ n3_ n4_ n5_
    have n0_:=qA.mk (Kd.zA HO503.out)
    have n1_:=qA.mk (Kd.zA HO512.out)
    have n2_:=qA.mk (qI BK505.out)
    have n3_:=qA.mk (qI BK513.out)
    have n4_:=qA.mk (qC.drew HI500.out)
    have n5_:=qA.mk (qG HB.out)
    clear HO503
    clear HO512
    clear BK505
    clear BK513
    clear HI500
    clear HB
    have HO503:=n0_
    have HO512:=n1_
    have BK505:=n2_
    have BK513:=n3_
    have HI500:=n4_
    have HB:=n5_
    clear n0_ n1_ n2_ n3_ n4_ n5_
    refine start_ (n:=29) (S:=fun w'=>w'.cell? ⟨gb513,0,none⟩ = some (.slice Ao71 t510.length co71)∧w'.cell? ⟨gb505,0,none⟩ = some (.slice Ao63 t501.length co63)) (ds:=[]) #[false,false,false,false,false,false,false,false,false,false,false,false,false,false,false,false,false,false,false,false,false,false,false,false,false,false,false,false,false] (by kernel_rfl) rfl rfl ⟨(qK BK513.out 0).trans rfl,(qK BK505.out 0).trans rfl⟩ (fun hHeld=>?_);refine kK trustquorumlaw09_ClosureRestricts.tab5 trustquorumlaw09_ClosureRestricts.bits5 (fun HT_ HW_=>?_)
    generalize w75.drew = w76 at HO503 HO512 BK505 BK513 HI500 HB hHeld ⊢
    refine jQ (i:=1) (N:=some 20) (v:=?_) (a':=?_) #[false,true,false,false,false,false,false,false,false,false,false,false,false,false,false,false,false,false,false,false,false,false,false,false,false,false,false,false,false] rfl rfl (zX HT_.out (by kernel_rfl)) (fun _ _ _ h=>h) (Or.inl ⟨by rfl,?_⟩) ?_ ?_
    rotate_left
    ·intro w'
     go_simp
     with_reducible rfl
    rotate_left
    ·simp only [Act.put,List.setIfInBounds_toArray,List.set_cons_zero,List.set_cons_succ,zT,zW]
     rfl
    refine jQ (i:=4) (N:=some 23) (v:=?_) (a':=?_) #[false,true,false,false,true,false,false,false,false,false,false,false,false,false,false,false,false,false,false,false,false,false,false,false,false,false,false,false,false] rfl rfl (zX HT_.out (by kernel_rfl)) (fun _ _ _ h=>h) (Or.inl ⟨by rfl,?_⟩) ?_ ?_
    rotate_left
    ·intro w'
     go_simp
     with_reducible rfl
    rotate_left
    ·simp only [Act.put,List.setIfInBounds_toArray,List.set_cons_zero,List.set_cons_succ,zT,zW]
     rfl
    refine jQ (i:=5) (N:=some 24) (v:=?_) (a':=?_) #[false,true,false,false,true,true,false,false,false,false,false,false,false,false,false,false,false,false,false,false,false,false,false,false,false,false,false,false,false] rfl rfl (zX HT_.out (by kernel_rfl)) (fun _ _ _ h=>h) (Or.inl ⟨by rfl,?_⟩) ?_ ?_
    rotate_left
    ·intro w'
     go_simp
     with_reducible rfl
    rotate_left
    ·simp only [Act.put,List.setIfInBounds_toArray,List.set_cons_zero,List.set_cons_succ,zT,zW]
     rfl
    refine jQ (i:=6) (N:=some 25) (v:=?_) (a':=?_) #[false,true,false,false,true,true,true,false,false,false,false,false,false,false,false,false,false,false,false,false,false,false,false,false,false,false,false,false,false] rfl rfl (zX HT_.out (by kernel_rfl)) (fun _ _ _ h=>h) (Or.inl ⟨by rfl,?_⟩) ?_ ?_
    rotate_left
    ·intro w'
     go_simp
     with_reducible rfl
    rotate_left
    ·simp only [Act.put,List.setIfInBounds_toArray,List.set_cons_zero,List.set_cons_succ,zT,zW]
     rfl
    refine uQ (i:=0) (N:=some 19) (v:=?_) (a':=?_) #[true,true,false,false,true,true,true,false,false,false,false,false,false,false,false,false,false,false,false,false,false,false,false,false,false,false,false,false,false] rfl rfl (vV HT_.out HW_.out (by kernel_rfl)) (fun _ _ _ h=>h) (Or.inl ⟨by rfl,?_⟩) hHeld ?_ ?_
    rotate_left
    ·rintro w' ⟨s0,s1⟩
     go_simp
     with_reducible rfl
    rotate_left
    ·simp only [Act.put,List.setIfInBounds_toArray,List.set_cons_zero,List.set_cons_succ,zT,zW]
     rfl
    refine uQ (i:=3) (N:=some 22) (v:=?_) (a':=?_) #[true,true,false,true,true,true,true,false,false,false,false,false,false,false,false,false,false,false,false,false,false,false,false,false,false,false,false,false,false] rfl rfl (vV HT_.out HW_.out (by kernel_rfl)) (fun _ _ _ h=>h) (Or.inl ⟨by rfl,?_⟩) hHeld ?_ ?_
    rotate_left
    ·rintro w' ⟨s0,s1⟩
     go_simp
     with_reducible rfl
    rotate_left
    ·simp only [Act.put,List.setIfInBounds_toArray,List.set_cons_zero,List.set_cons_succ,zT,zW]
     rfl
    refine one_ (i:=2) (N:=some 21) #[true,true,true,true,true,true,true,false,false,false,false,false,false,false,false,false,false,false,false,false,false,false,false,false,false,false,false,false,false] rfl rfl (uA HT_.out (by kernel_rfl)) (by decide) (fun K hK=>?_)
    refine kI Try.func17 (by kernel_rfl) rfl #[.agg #[.slice Ao71 t510.length co71],.int .i64 t508] (by rfl) rfl rfl (by (try simp only [List.map_toArray,List.map_cons,List.map_nil]);first|done|rfl|(simp only [List.length_drop,List.length_take];rfl)|(simp only [List.length_nil,Int.natCast_zero,Int.zero_add,Int.ofNat_zero];rfl)) ?_
    with_reducible refine (zL.calls k _ _ t510 t508 t514 _ ?side1 ?side2 A7.out).mono ?_
    (case side1=>repeat (first|exact (Kd.jD HO512.out).2.2|(with_reducible refine Kd.jK ?_ _)|(with_reducible refine Kd.jJ ?_ _)|(with_reducible refine Kd.jV ?_)))
    (case side2=>exact (Kd.jD HO512.out).2.1)
    rintro e w77 ⟨rfl,hb⟩
    refine ⟨_,rfl,?_⟩
    have n0_:=qA.mk (Kd.jA (by (with_reducible repeat (first|apply Kd.qV|apply Kd.qU|apply Kd.zA));exact HO503.out) hb)
    have n1_:=qA.mk (Kd.jA (by (with_reducible repeat (first|apply Kd.qV|apply Kd.qU|apply Kd.zA));exact HO512.out) hb)
    have n2_:=qA.mk (qC.below (by repeat (first|(with_reducible first|exact HI500.out|apply qC.alloc|apply qC.drewN|apply qC.drew|apply qC.zM|refine qC.far ?_ NB500_505.out _|refine qC.far ?_ NB500_513.out _)|exact HI500.out)) hb)
    have n3_:=qA.mk (zD (g:=gb505) (o:=.cells #[.slice Ao63 t501.length co63] 25 (0,0)) (by (with_reducible repeat (first|refine qF ?_ _|refine qI ?_|refine qE ?_ _));exact BK505.out) hb)
    have n4_:=qA.mk (zD (g:=gb513) (o:=.cells #[.slice Ao71 t510.length co71] 25 (0,0)) (by (with_reducible repeat (first|refine qF ?_ _|refine qI ?_|refine qE ?_ _));exact BK513.out) hb)
    have n5_:=qA.mk (qN (by repeat (first|(with_reducible first|exact HB.out|apply qH|apply qB|apply qG|refine qD ?_ (qC.ge HI500.out)|refine qD ?_ GE505.out|refine qD ?_ GE513.out)|exact HB.out)) hb)
    clear HO503
    clear HO512
    clear HI500
    clear BK505
    clear BK513
    clear HB
    have HO503:=n0_
    have HO512:=n1_
    have HI500:=n2_
    have BK505:=n3_
    have BK513:=n4_
    have HB:=n5_
    clear n0_ n1_ n2_ n3_ n4_ n5_
    (try clear hb)
    (try clear hb2)
    (try clear hk)
    (try clear hi)
    refine hK.out _ _ ⟨(qK BK513.out 0).trans rfl,(qK BK505.out 0).trans rfl⟩ (fun hHeld=>?_)
    clear hK K
    refine uU (a':=?_) ?_ ?_
    rotate_left
    ·show Act.put _ (some 21) _ = _
     simp only [Act.put,List.setIfInBounds_toArray,List.set_cons_zero,List.set_cons_succ,zT,zW]
     rfl
    refine one_ (i:=7) (N:=some 26) #[true,true,true,true,true,true,true,true,false,false,false,false,false,false,false,false,false,false,false,false,false,false,false,false,false,false,false,false,false] rfl rfl (uA HT_.out (by kernel_rfl)) (by decide) (fun K hK=>?_)
    refine kI Try.func17 (by kernel_rfl) rfl #[.agg #[.slice Ao63 t501.length co63],.int .i64 (Go.bits .and .i64 t506 t508)] (by rfl) rfl rfl (by (try simp only [List.map_toArray,List.map_cons,List.map_nil]);first|done|rfl|(simp only [List.length_drop,List.length_take];rfl)|(simp only [List.length_nil,Int.natCast_zero,Int.zero_add,Int.ofNat_zero];rfl)) ?_
    with_reducible refine (zL.calls k _ _ t501 (Go.bits .and .i64 t506 t508) t515 _ ?side1 ?side2 A8.out).mono ?_
    (case side1=>repeat (first|exact (Kd.jD HO503.out).2.2|(with_reducible refine Kd.jK ?_ _)|(with_reducible refine Kd.jJ ?_ _)|(with_reducible refine Kd.jV ?_)))
    (case side2=>exact (Kd.jD HO503.out).2.1)
    rintro e w78 ⟨rfl,hb⟩
    refine ⟨_,rfl,?_⟩
    have n0_:=qA.mk (Kd.jA (by (with_reducible repeat (first|apply Kd.qV|apply Kd.qU|apply Kd.zA));exact HO503.out) hb)
    have n1_:=qA.mk (Kd.jA (by (with_reducible repeat (first|apply Kd.qV|apply Kd.qU|apply Kd.zA));exact HO512.out) hb)
    have n2_:=qA.mk (qC.below (by repeat (first|(with_reducible first|exact HI500.out|apply qC.alloc|apply qC.drewN|apply qC.drew|apply qC.zM|refine qC.far ?_ NB500_505.out _|refine qC.far ?_ NB500_513.out _)|exact HI500.out)) hb)
    have n3_:=qA.mk (zD (g:=gb505) (o:=.cells #[.slice Ao63 t501.length co63] 25 (0,0)) (by (with_reducible repeat (first|refine qF ?_ _|refine qI ?_|refine qE ?_ _));exact BK505.out) hb)
    have n4_:=qA.mk (zD (g:=gb513) (o:=.cells #[.slice Ao71 t510.length co71] 25 (0,0)) (by (with_reducible repeat (first|refine qF ?_ _|refine qI ?_|refine qE ?_ _));exact BK513.out) hb)
    have n5_:=qA.mk (qN (by repeat (first|(with_reducible first|exact HB.out|apply qH|apply qB|apply qG|refine qD ?_ (qC.ge HI500.out)|refine qD ?_ GE505.out|refine qD ?_ GE513.out)|exact HB.out)) hb)
    clear HO503
    clear HO512
    clear HI500
    clear BK505
    clear BK513
    clear HB
    have HO503:=n0_
    have HO512:=n1_
    have HI500:=n2_
    have BK505:=n3_
    have BK513:=n4_
    have HB:=n5_
    clear n0_ n1_ n2_ n3_ n4_ n5_
    (try clear hb)
    (try clear hb2)
    (try clear hk)
    (try clear hi)
    refine hK.out _ _ ⟨(qK BK513.out 0).trans rfl,(qK BK505.out 0).trans rfl⟩ (fun hHeld=>?_)
    clear hK K
    refine uU (a':=?_) ?_ ?_
    rotate_left
    ·show Act.put _ (some 26) _ = _
     simp only [Act.put,List.setIfInBounds_toArray,List.set_cons_zero,List.set_cons_succ,zT,zW]
     rfl
    refine jQ (i:=8) (N:=some 27) (v:=?_) (a':=?_) #[true,true,true,true,true,true,true,true,true,false,false,false,false,false,false,false,false,false,false,false,false,false,false,false,false,false,false,false,false] rfl rfl (zX HT_.out (by kernel_rfl)) (fun _ _ _ h=>h) (Or.inl ⟨by rfl,?_⟩) ?_ ?_
    rotate_left
    ·intro w'
     go_simp
     with_reducible rfl
    rotate_left
    ·simp only [Act.put,List.setIfInBounds_toArray,List.set_cons_zero,List.set_cons_succ,zT,zW]
     rfl
    refine jQ (i:=9) (N:=some 28) (v:=?_) (a':=?_) #[true,true,true,true,true,true,true,true,true,true,false,false,false,false,false,false,false,false,false,false,false,false,false,false,false,false,false,false,false] rfl rfl (zX HT_.out (by kernel_rfl)) (fun _ _ _ h=>h) (Or.inl ⟨by rfl,?_⟩) ?_ ?_
    rotate_left
    ·intro w'
     go_simp
     with_reducible rfl
    rotate_left
    ·simp only [Act.put,List.setIfInBounds_toArray,List.set_cons_zero,List.set_cons_succ,zT,zW]
     rfl
    refine jQ (i:=11) (N:=some 30) (v:=?_) (a':=?_) #[true,true,true,true,true,true,true,true,true,true,false,true,false,false,false,false,false,false,false,false,false,false,false,false,false,false,false,false,false] rfl rfl (zX HT_.out (by kernel_rfl)) (fun _ _ _ h=>h) (Or.inl ⟨by rfl,?_⟩) ?_ ?_
    rotate_left
    ·intro w'
     go_simp
     with_reducible rfl
    rotate_left
    ·simp only [Act.put,List.setIfInBounds_toArray,List.set_cons_zero,List.set_cons_succ,zT,zW]
     rfl
    refine jQ (i:=14) (N:=some 33) (v:=?_) (a':=?_) #[true,true,true,true,true,true,true,true,true,true,false,true,false,false,true,false,false,false,false,false,false,false,false,false,false,false,false,false,false] rfl rfl (zX HT_.out (by kernel_rfl)) (fun _ _ _ h=>h) (Or.inl ⟨by rfl,?_⟩) ?_ ?_
    rotate_left
    ·intro w'
     go_simp
     with_reducible rfl
    rotate_left
    ·simp only [Act.put,List.setIfInBounds_toArray,List.set_cons_zero,List.set_cons_succ,zT,zW]
     rfl
    refine uQ (i:=10) (N:=some 29) (v:=?_) (a':=?_) #[true,true,true,true,true,true,true,true,true,true,true,true,false,false,true,false,false,false,false,false,false,false,false,false,false,false,false,false,false] rfl rfl (vV HT_.out HW_.out (by kernel_rfl)) (fun _ _ _ h=>h) (Or.inl ⟨by rfl,?_⟩) hHeld ?_ ?_
    rotate_left
    ·rintro w' ⟨s0,s1⟩
     go_simp
     with_reducible rfl
    rotate_left
    ·simp only [Act.put,List.setIfInBounds_toArray,List.set_cons_zero,List.set_cons_succ,zT,zW]
     rfl
    refine uQ (i:=13) (N:=some 32) (v:=?_) (a':=?_) #[true,true,true,true,true,true,true,true,true,true,true,true,false,true,true,false,false,false,false,false,false,false,false,false,false,false,false,false,false] rfl rfl (vV HT_.out HW_.out (by kernel_rfl)) (fun _ _ _ h=>h) (Or.inl ⟨by rfl,?_⟩) hHeld ?_ ?_
    rotate_left
    ·rintro w' ⟨s0,s1⟩
     go_simp
     with_reducible rfl
    rotate_left
    ·simp only [Act.put,List.setIfInBounds_toArray,List.set_cons_zero,List.set_cons_succ,zT,zW]
     rfl
    refine one_ (i:=12) (N:=some 31) #[true,true,true,true,true,true,true,true,true,true,true,true,true,true,true,false,false,false,false,false,false,false,false,false,false,false,false,false,false] rfl rfl (uA HT_.out (by kernel_rfl)) (by decide) (fun K hK=>?_)
    refine kI Try.func15 (by kernel_rfl) rfl #[.agg #[.slice Ao71 t510.length co71],.int .i64 t508] (by rfl) rfl rfl (by (try simp only [List.map_toArray,List.map_cons,List.map_nil]);first|done|rfl|(simp only [List.length_drop,List.length_take];rfl)|(simp only [List.length_nil,Int.natCast_zero,Int.zero_add,Int.ofNat_zero];rfl)) ?_
    with_reducible refine (zR.calls k _ _ t510 t508 t516 _ ?side1 ?side2 A10.out).mono ?_
    (case side1=>repeat (first|exact (Kd.jD HO512.out).2.2|(with_reducible refine Kd.jK ?_ _)|(with_reducible refine Kd.jJ ?_ _)|(with_reducible refine Kd.jV ?_)))
    (case side2=>exact (Kd.jD HO512.out).2.1)
    rintro e w79 ⟨rfl,hb⟩
    refine ⟨_,rfl,?_⟩
    have n0_:=qA.mk (Kd.jA (by (with_reducible repeat (first|apply Kd.qV|apply Kd.qU|apply Kd.zA));exact HO503.out) hb)
    have n1_:=qA.mk (Kd.jA (by (with_reducible repeat (first|apply Kd.qV|apply Kd.qU|apply Kd.zA));exact HO512.out) hb)
    have n2_:=qA.mk (qC.below (by repeat (first|(with_reducible first|exact HI500.out|apply qC.alloc|apply qC.drewN|apply qC.drew|apply qC.zM|refine qC.far ?_ NB500_505.out _|refine qC.far ?_ NB500_513.out _)|exact HI500.out)) hb)
    have n3_:=qA.mk (zD (g:=gb505) (o:=.cells #[.slice Ao63 t501.length co63] 25 (0,0)) (by (with_reducible repeat (first|refine qF ?_ _|refine qI ?_|refine qE ?_ _));exact BK505.out) hb)
    have n4_:=qA.mk (zD (g:=gb513) (o:=.cells #[.slice Ao71 t510.length co71] 25 (0,0)) (by (with_reducible repeat (first|refine qF ?_ _|refine qI ?_|refine qE ?_ _));exact BK513.out) hb)
    have n5_:=qA.mk (qN (by repeat (first|(with_reducible first|exact HB.out|apply qH|apply qB|apply qG|refine qD ?_ (qC.ge HI500.out)|refine qD ?_ GE505.out|refine qD ?_ GE513.out)|exact HB.out)) hb)
    clear HO503
    clear HO512
    clear HI500
    clear BK505
    clear BK513
    clear HB
    have HO503:=n0_
    have HO512:=n1_
    have HI500:=n2_
    have BK505:=n3_
    have BK513:=n4_
    have HB:=n5_
    clear n0_ n1_ n2_ n3_ n4_ n5_
    (try clear hb)
    (try clear hb2)
    (try clear hk)
    (try clear hi)
    refine hK.out _ _ ⟨(qK BK513.out 0).trans rfl,(qK BK505.out 0).trans rfl⟩ (fun hHeld=>?_)
    clear hK K
    refine uU (a':=?_) ?_ ?_
    rotate_left
    ·show Act.put _ (some 31) _ = _
     simp only [Act.put,List.setIfInBounds_toArray,List.set_cons_zero,List.set_cons_succ,zT,zW]
     rfl
    refine one_ (i:=15) (N:=some 34) #[true,true,true,true,true,true,true,true,true,true,true,true,true,true,true,true,false,false,false,false,false,false,false,false,false,false,false,false,false] rfl rfl (uA HT_.out (by kernel_rfl)) (by decide) (fun K hK=>?_)
    refine kI Try.func15 (by kernel_rfl) rfl #[.agg #[.slice Ao63 t501.length co63],.int .i64 t508] (by rfl) rfl rfl (by (try simp only [List.map_toArray,List.map_cons,List.map_nil]);first|done|rfl|(simp only [List.length_drop,List.length_take];rfl)|(simp only [List.length_nil,Int.natCast_zero,Int.zero_add,Int.ofNat_zero];rfl)) ?_
    with_reducible refine (zR.calls k _ _ t501 t508 false _ ?side1 ?side2 A11.out).mono ?_
    (case side1=>repeat (first|exact (Kd.jD HO503.out).2.2|(with_reducible refine Kd.jK ?_ _)|(with_reducible refine Kd.jJ ?_ _)|(with_reducible refine Kd.jV ?_)))
    (case side2=>exact (Kd.jD HO503.out).2.1)
    rintro e w80 ⟨rfl,hb⟩
    refine ⟨_,rfl,?_⟩
    have n0_:=qA.mk (Kd.jA (by (with_reducible repeat (first|apply Kd.qV|apply Kd.qU|apply Kd.zA));exact HO503.out) hb)
    have n1_:=qA.mk (Kd.jA (by (with_reducible repeat (first|apply Kd.qV|apply Kd.qU|apply Kd.zA));exact HO512.out) hb)
    have n2_:=qA.mk (qC.below (by repeat (first|(with_reducible first|exact HI500.out|apply qC.alloc|apply qC.drewN|apply qC.drew|apply qC.zM|refine qC.far ?_ NB500_505.out _|refine qC.far ?_ NB500_513.out _)|exact HI500.out)) hb)
    have n3_:=qA.mk (zD (g:=gb505) (o:=.cells #[.slice Ao63 t501.length co63] 25 (0,0)) (by (with_reducible repeat (first|refine qF ?_ _|refine qI ?_|refine qE ?_ _));exact BK505.out) hb)
    have n4_:=qA.mk (zD (g:=gb513) (o:=.cells #[.slice Ao71 t510.length co71] 25 (0,0)) (by (with_reducible repeat (first|refine qF ?_ _|refine qI ?_|refine qE ?_ _));exact BK513.out) hb)
    have n5_:=qA.mk (qN (by repeat (first|(with_reducible first|exact HB.out|apply qH|apply qB|apply qG|refine qD ?_ (qC.ge HI500.out)|refine qD ?_ GE505.out|refine qD ?_ GE513.out)|exact HB.out)) hb)
    clear HO503
    clear HO512
    clear HI500
    clear BK505
    clear BK513
    clear HB
    have HO503:=n0_
    have HO512:=n1_
    have HI500:=n2_
    have BK505:=n3_
    have BK513:=n4_
    have HB:=n5_
    clear n0_ n1_ n2_ n3_ n4_ n5_
    (try clear hb)
    (try clear hb2)
    (try clear hk)
    (try clear hi)
    refine hK.out _ _ ⟨(qK BK513.out 0).trans rfl,(qK BK505.out 0).trans rfl⟩ (fun hHeld=>?_)
    clear hK K
    refine uU (a':=?_) ?_ ?_
    rotate_left
    ·show Act.put _ (some 34) _ = _
     simp only [Act.put,List.setIfInBounds_toArray,List.set_cons_zero,List.set_cons_succ,zT,zW]
     rfl
    refine jQ (i:=16) (N:=some 35) (v:=?_) (a':=?_) #[true,true,true,true,true,true,true,true,true,true,true,true,true,true,true,true,true,false,false,false,false,false,false,false,false,false,false,false,false] rfl rfl (zX HT_.out (by kernel_rfl)) (fun _ _ _ h=>h) (Or.inl ⟨by rfl,?_⟩) ?_ ?_
    rotate_left
    ·intro w'
     go_simp
     with_reducible rfl
    rotate_left
    ·simp only [Act.put,List.setIfInBounds_toArray,List.set_cons_zero,List.set_cons_succ,zT,zW]
     rfl
    refine jQ (i:=17) (N:=some 36) (v:=undef) (a':=?_) #[true,true,true,true,true,true,true,true,true,true,true,true,true,true,true,true,true,true,false,false,false,false,false,false,false,false,false,false,false] rfl rfl (zX HT_.out (by kernel_rfl)) (fun _ _ _ h=>h) (Or.inr ⟨by rfl,rfl⟩) ?_ ?_
    rotate_left
    ·simp only [Act.put,List.setIfInBounds_toArray,List.set_cons_zero,List.set_cons_succ,zT,zW]
     rfl
    refine jQ (i:=18) (N:=some 37) (v:=undef) (a':=?_) #[true,true,true,true,true,true,true,true,true,true,true,true,true,true,true,true,true,true,true,false,false,false,false,false,false,false,false,false,false] rfl rfl (zX HT_.out (by kernel_rfl)) (fun _ _ _ h=>h) (Or.inr ⟨by rfl,rfl⟩) ?_ ?_
    rotate_left
    ·simp only [Act.put,List.setIfInBounds_toArray,List.set_cons_zero,List.set_cons_succ,zT,zW]
     rfl
    refine jQ (i:=19) (N:=some 38) (v:=undef) (a':=?_) #[true,true,true,true,true,true,true,true,true,true,true,true,true,true,true,true,true,true,true,true,false,false,false,false,false,false,false,false,false] rfl rfl (zX HT_.out (by kernel_rfl)) (fun _ _ _ h=>h) (Or.inr ⟨by rfl,rfl⟩) ?_ ?_
    rotate_left
    ·simp only [Act.put,List.setIfInBounds_toArray,List.set_cons_zero,List.set_cons_succ,zT,zW]
     rfl
    refine jQ (i:=20) (N:=some 39) (v:=undef) (a':=?_) #[true,true,true,true,true,true,true,true,true,true,true,true,true,true,true,true,true,true,true,true,true,false,false,false,false,false,false,false,false] rfl rfl (zX HT_.out (by kernel_rfl)) (fun _ _ _ h=>h) (Or.inr ⟨by rfl,rfl⟩) ?_ ?_
    rotate_left
    ·simp only [Act.put,List.setIfInBounds_toArray,List.set_cons_zero,List.set_cons_succ,zT,zW]
     rfl
    refine jQ (i:=21) (N:=some 40) (v:=undef) (a':=?_) #[true,true,true,true,true,true,true,true,true,true,true,true,true,true,true,true,true,true,true,true,true,true,false,false,false,false,false,false,false] rfl rfl (zX HT_.out (by kernel_rfl)) (fun _ _ _ h=>h) (Or.inr ⟨by rfl,rfl⟩) ?_ ?_
    rotate_left
    ·simp only [Act.put,List.setIfInBounds_toArray,List.set_cons_zero,List.set_cons_succ,zT,zW]
     rfl
    refine jQ (i:=22) (N:=some 41) (v:=?_) (a':=?_) #[true,true,true,true,true,true,true,true,true,true,true,true,true,true,true,true,true,true,true,true,true,true,true,false,false,false,false,false,false] rfl rfl (zX HT_.out (by kernel_rfl)) (fun _ _ _ h=>h) (Or.inl ⟨by rfl,?_⟩) ?_ ?_
    rotate_left
    ·intro w'
     go_simp
     with_reducible rfl
    rotate_left
    ·simp only [Act.put,List.setIfInBounds_toArray,List.set_cons_zero,List.set_cons_succ,zT,zW]
     rfl
    refine jQ (i:=23) (N:=some 42) (v:=?_) (a':=?_) #[true,true,true,true,true,true,true,true,true,true,true,true,true,true,true,true,true,true,true,true,true,true,true,true,false,false,false,false,false] rfl rfl (zX HT_.out (by kernel_rfl)) (fun _ _ _ h=>h) (Or.inl ⟨by rfl,?_⟩) ?_ ?_
    rotate_left
    ·intro w'
     go_simp
     with_reducible rfl
    rotate_left
    ·simp only [Act.put,List.setIfInBounds_toArray,List.set_cons_zero,List.set_cons_succ,zT,zW]
     rfl
    refine jQ (i:=24) (N:=some 43) (v:=?_) (a':=?_) #[true,true,true,true,true,true,true,true,true,true,true,true,true,true,true,true,true,true,true,true,true,true,true,true,true,false,false,false,false] rfl rfl (zX HT_.out (by kernel_rfl)) (fun _ _ _ h=>h) (Or.inl ⟨by rfl,?_⟩) ?_ ?_
    rotate_left
    ·intro w'
     go_simp
     with_reducible rfl
    rotate_left
    ·simp only [Act.put,List.setIfInBounds_toArray,List.set_cons_zero,List.set_cons_succ,zT,zW]
     rfl
    refine jQ (i:=25) (N:=some 44) (v:=?_) (a':=?_) #[true,true,true,true,true,true,true,true,true,true,true,true,true,true,true,true,true,true,true,true,true,true,true,true,true,true,false,false,false] rfl rfl (zX HT_.out (by kernel_rfl)) (fun _ _ _ h=>h) (Or.inl ⟨by rfl,?_⟩) ?_ ?_
    rotate_left
    ·intro w'
     go_simp
     with_reducible rfl
    rotate_left
    ·simp only [Act.put,List.setIfInBounds_toArray,List.set_cons_zero,List.set_cons_succ,zT,zW]
     rfl
    refine one_ (i:=26) (N:=some 45) #[true,true,true,true,true,true,true,true,true,true,true,true,true,true,true,true,true,true,true,true,true,true,true,true,true,true,true,false,false] rfl rfl (uA HT_.out (by kernel_rfl)) (by decide) (fun K hK=>?_)
    refine kI Try.func9 (by kernel_rfl) rfl #[] (by rfl) rfl rfl (by (try simp only [List.map_toArray,List.map_cons,List.map_nil]);first|done|rfl|(simp only [List.length_drop,List.length_take];rfl)|(simp only [List.length_nil,Int.natCast_zero,Int.zero_add,Int.ofNat_zero];rfl)) ?_
    with_reducible refine (zQ.calls k  t519 _ A59.out).mono ?_
    rintro e w81 ⟨rfl,hb⟩
    refine ⟨_,rfl,?_⟩
    have n0_:=qA.mk (Kd.jA (by (with_reducible repeat (first|apply Kd.qV|apply Kd.qU|apply Kd.zA));exact HO503.out) hb)
    have n1_:=qA.mk (Kd.jA (by (with_reducible repeat (first|apply Kd.qV|apply Kd.qU|apply Kd.zA));exact HO512.out) hb)
    have n2_:=qA.mk (qC.below (by repeat (first|(with_reducible first|exact HI500.out|apply qC.alloc|apply qC.drewN|apply qC.drew|apply qC.zM|refine qC.far ?_ NB500_505.out _|refine qC.far ?_ NB500_513.out _)|exact HI500.out)) hb)
    have n3_:=qA.mk (zD (g:=gb505) (o:=.cells #[.slice Ao63 t501.length co63] 25 (0,0)) (by (with_reducible repeat (first|refine qF ?_ _|refine qI ?_|refine qE ?_ _));exact BK505.out) hb)
    have n4_:=qA.mk (zD (g:=gb513) (o:=.cells #[.slice Ao71 t510.length co71] 25 (0,0)) (by (with_reducible repeat (first|refine qF ?_ _|refine qI ?_|refine qE ?_ _));exact BK513.out) hb)
    have n5_:=qA.mk (qN (by repeat (first|(with_reducible first|exact HB.out|apply qH|apply qB|apply qG|refine qD ?_ (qC.ge HI500.out)|refine qD ?_ GE505.out|refine qD ?_ GE513.out)|exact HB.out)) hb)
    clear HO503
    clear HO512
    clear HI500
    clear BK505
    clear BK513
    clear HB
    have HO503:=n0_
    have HO512:=n1_
    have HI500:=n2_
    have BK505:=n3_
    have BK513:=n4_
    have HB:=n5_
    clear n0_ n1_ n2_ n3_ n4_ n5_
    (try clear hb)
    (try clear hb2)
    (try clear hk)
    (try clear hi)
    refine hK.out _ _ ⟨(qK BK513.out 0).trans rfl,(qK BK505.out 0).trans rfl⟩ (fun hHeld=>?_)
    clear hK K
    refine uU (a':=?_) ?_ ?_
    rotate_left
    ·show Act.put _ (some 45) _ = _
     simp only [Act.put,List.setIfInBounds_toArray,List.set_cons_zero,List.set_cons_succ,zT,zW]
     rfl
    refine jQ (i:=27) (N:=some 46) (v:=?_) (a':=?_) #[true,true,true,true,true,true,true,true,true,true,true,true,true,true,true,true,true,true,true,true,true,true,true,true,true,true,true,true,false] rfl rfl (zX HT_.out (by kernel_rfl)) (fun _ _ _ h=>h) (Or.inl ⟨by rfl,?_⟩) ?_ ?_
    rotate_left
    ·intro w'
     go_simp
     with_reducible rfl
    rotate_left
    ·simp only [Act.put,List.setIfInBounds_toArray,List.set_cons_zero,List.set_cons_succ,zT,zW]
     rfl
    refine jQ (i:=28) (N:=some 2) (v:=?_) (a':=?_) #[true,true,true,true,true,true,true,true,true,true,true,true,true,true,true,true,true,true,true,true,true,true,true,true,true,true,true,true,true] rfl rfl (zX HT_.out (by kernel_rfl)) (fun _ _ _ h=>h) (Or.inl ⟨by rfl,?_⟩) ?_ ?_
    rotate_left
    ·intro w'
     go_simp
     with_reducible rfl
    rotate_left
    ·simp only [Act.put,List.setIfInBounds_toArray,List.set_cons_zero,List.set_cons_succ,zT,zW]
     rfl
    refine done_ (done_of HT_.out (by kernel_rfl)) ?_
    try go_wp2
    go_ret
    exact ⟨by first|rfl|(simp [zK,zJ]<;>rfl)|(simp [*,zK,zJ]<;>rfl),by repeat (first|(with_reducible first|exact HB.out|apply qH|apply qB|apply qG|refine qD ?_ (qC.ge HI500.out)|refine qD ?_ GE505.out|refine qD ?_ GE513.out)|exact HB.out)⟩
   ·rw [if_neg c58] at H
    have c58b0 : (t516 == false) = false:=by simpa using c58
    (try (have c58b1 : decide (t516 = false) = false:=by simpa using c58))
    (try (have c58b2 : (t516 == false) = false:=by simpa using c58))
    (try (have c58b3 : ¬ (t516 = false):=by simpa using c58))
    clear c58
    obtain rfl:=Option.some.inj H
    go_enter Try.func7,Try.ntmps7
    try go_wp2_with (first|((with_reducible refine q8 (f:=10) rfl ?_);refine jB (some 9) rfl rfl Try.func10 (by kernel_rfl) rfl #[.slice A0 l0.length c0] rfl (by (try simp only [List.map_toArray,List.map_cons,List.map_nil]);first|done|rfl|(simp only [List.length_drop,List.length_take];rfl)|(simp only [List.length_nil,Int.natCast_zero,Int.zero_add,Int.ofNat_zero];rfl)) ?_;(with_reducible refine (vM.calls _ _ l0 t498 t499 w _ ?side1 ?side2 ?side3 A2.out).mono ?_);(case side1=>repeat (first|(with_reducible first|exact HB.out|apply qH|apply qB|apply qG)|exact HB.out));(case side2=>exact HR0.out);(case side3=>exact HC0.out);rintro e w82 ⟨g500,rfl,hi,hb,hb2⟩;refine ⟨_,rfl,?_⟩;have n0_:=qA.mk (hb);have n1_:=qA.mk (hi);clear HB;have HB:=n0_;have HI500:=n1_;clear n0_ n1_;(try clear hb);(try clear hb2);(try clear hk);(try clear hi))|((with_reducible refine q8 (f:=11) rfl ?_);refine jB (some 11) rfl rfl Try.func11 (by kernel_rfl) rfl #[.pointer (some ⟨g500,0,none⟩),.int .i64 8] rfl (by (try simp only [List.map_toArray,List.map_cons,List.map_nil]);first|done|rfl|(simp only [List.length_drop,List.length_take];rfl)|(simp only [List.length_nil,Int.natCast_zero,Int.zero_add,Int.ofNat_zero];rfl)) ?_;(with_reducible refine (zG.calls k g500 t498 t499 8 t501 t504 w _ ?side1 ?side2 A3.out).mono ?_);(case side1=>repeat (first|(with_reducible first|exact HI500.out|apply qC.alloc|apply qC.drewN|apply qC.drew|apply qC.zM)|exact HI500.out));(case side2=>repeat (first|(with_reducible first|exact HB.out|apply qH|apply qB|apply qG|refine qD ?_ (qC.ge HI500.out))|exact HB.out));rintro e w83 ⟨v502,rfl,ho0,hi,hb,hk⟩;refine ⟨_,rfl,?_⟩;have n0_:=qA.mk (Kd.vS (Kd.jS (ok':=fun k_=>k_≠g500) (Kd.R_N (Kd.uM ho0)) (fun k_ hk_=>(qC.fresh (by repeat (first|(with_reducible first|exact HI500.out|apply qC.alloc|apply qC.drewN|apply qC.drew|apply qC.zM)|exact HI500.out)) k_ hk_.2.1))) (qQ (by repeat (first|(with_reducible first|exact HB.out|apply qH|apply qB|apply qG|refine qD ?_ (qC.ge HI500.out))|exact HB.out))));have n1_:=qA.mk (hb);have n2_:=qA.mk (hi);clear HB;clear HI500;have HO503:=n0_;have HB:=n1_;have HI500:=n2_;clear n0_ n1_ n2_;(try clear hb);(try clear hb2);(try clear hk);(try clear hi);(try clear ho0))|((with_reducible refine jH (N:=4) rfl ?_);refine jL ?hg (N:=4) ?hd (cs:=#[.slice none 0 0]) (t:=25) ?hr ?_;(case hd=>rfl);(case hg=>rfl);(case hr=>first|(go_simp;done)|(go_simp;rfl));intro gb505 hg w84 hbox hb;have n0_:=qA.mk (Kd.jA (Kd.uE (by (with_reducible repeat (first|apply Kd.qV|apply Kd.qU|apply Kd.zA));exact HO503.out) gb505 (Nat.le_of_eq hg.symm)) hb);have n1_:=qA.mk (qC.below (by repeat (first|(with_reducible first|exact HI500.out|apply qC.alloc|apply qC.drewN|apply qC.drew|apply qC.zM)|exact HI500.out)) hb);have n2_:=qA.mk (qN (by repeat (first|(with_reducible first|exact HB.out|apply qH|apply qB|apply qG|refine qD ?_ (qC.ge HI500.out))|exact HB.out)) hb);have n3_:=qA.mk (hbox);have n4_:=qA.mk ((by rw [hg];exact (qQ (by repeat (first|(with_reducible first|exact HB.out|apply qH|apply qB|apply qG|refine qD ?_ (qC.ge HI500.out))|exact HB.out))) : w.heap.size ≤ gb505));have n5_:=qA.mk ((by rw [hg];exact (qQ (by repeat (first|(with_reducible first|exact HB.out|apply qH|apply qB|apply qG|refine qD ?_ (qC.ge HI500.out))|exact HB.out))) : w.heap.size ≤ gb505));have n6_:=qA.mk ((by rw [hg];exact Nat.ne_of_lt (qC.lt (show qC w _ g500 t498 t504 from by repeat (first|(with_reducible first|exact HI500.out|apply qC.alloc|apply qC.drewN|apply qC.drew|apply qC.zM)|exact HI500.out))) : g500≠gb505));have n7_:=qA.mk ((by rw [hg];exact Nat.ne_of_gt (qC.lt (show qC w _ g500 t498 t504 from by repeat (first|(with_reducible first|exact HI500.out|apply qC.alloc|apply qC.drewN|apply qC.drew|apply qC.zM)|exact HI500.out))) : gb505≠g500));clear HO503;clear HI500;clear HB;have HO503:=n0_;have HI500:=n1_;have HB:=n2_;have BK505:=n3_;have GW505:=n4_;have GE505:=n5_;have NB500_505:=n6_;have NB505_500:=n7_;clear n0_ n1_ n2_ n3_ n4_ n5_ n6_ n7_;clear hb hbox hg;obtain ⟨Ao85,co85,eo85⟩:=Kd.vK HO503.out;subst eo85;have hnb86:=NB505_500.out;have hnc86:=NB500_505.out;have hcz87_0 : w84.cell? ⟨gb505,0,none⟩ = some (.slice none 0 0):=(qK BK505.out 0).trans rfl;have hfz87_0:=qJ BK505.out 0)|((with_reducible refine q8 (f:=13) rfl ?_);refine jB (some 13) rfl rfl Try.func13 (by kernel_rfl) rfl #[.pointer (some ⟨g500,0,none⟩),.int .i64 256] rfl (by (try simp only [List.map_toArray,List.map_cons,List.map_nil]);first|done|rfl|(simp only [List.length_drop,List.length_take];rfl)|(simp only [List.length_nil,Int.natCast_zero,Int.zero_add,Int.ofNat_zero];rfl)) ?_;(with_reducible refine (qZ.calls g500 t498 t504 256 t506 t507 w _ ?side1 ?side2 A4.out).mono ?_);(case side1=>repeat (first|(with_reducible first|exact HI500.out|apply qC.alloc|apply qC.drewN|apply qC.drew|apply qC.zM|refine qC.far ?_ NB500_505.out _)|exact HI500.out));(case side2=>repeat (first|(with_reducible first|exact HB.out|apply qH|apply qB|apply qG|refine qD ?_ (qC.ge HI500.out)|refine qD ?_ GE505.out)|exact HB.out));rintro e w88 ⟨rfl,hi,hb,hk⟩;refine ⟨_,rfl,?_⟩;have n0_:=qA.mk (Kd.jS (Kd.N_keep (Kd.jS (ok:=fun k_=>(k_≠g500∧k_≠gb505)) (by (with_reducible repeat (first|apply Kd.qV|apply Kd.qU|apply Kd.zA));exact (Kd.jS (Kd.uV (p:=⟨gb505,0,none⟩) (Kd.jS HO503.out (fun k_ hk=>(⟨hk,hk.2⟩ : _∧k_≠gb505))) (fun _ hk=>hk.2) (.slice Ao85 t501.length co85)) (fun _ h_=>h_.1))) (fun k_ hk_=>(⟨hk_,hk_.1⟩ : _∧k_≠g500))) hk (fun _ h=>h.2)) (fun _ h=>h.1));have n1_:=qA.mk (qL.blk hk (g':=gb505) (o:=.cells #[.slice Ao85 t501.length co85] 25 (0,0)) (by (with_reducible repeat (first|refine qF ?_ _|refine qI ?_|refine qE ?_ _));refine zV (cs:=#[.slice none 0 0]) ?_ 0 _ rfl;(with_reducible repeat (first|refine qF ?_ _|refine qI ?_|refine qE ?_ _));exact BK505.out) NB505_500.out (by simp));have n2_:=qA.mk (hb);have n3_:=qA.mk (hi);clear HO503;clear BK505;clear HB;clear HI500;have HO503:=n0_;have BK505:=n1_;have HB:=n2_;have HI500:=n3_;clear n0_ n1_ n2_ n3_;(try clear hb);(try clear hb2);(try clear hk);(try clear hi))|((with_reducible refine q8 (f:=13) rfl ?_);refine jB (some 15) rfl rfl Try.func13 (by kernel_rfl) rfl #[.pointer (some ⟨g500,0,none⟩),.int .i64 256] rfl (by (try simp only [List.map_toArray,List.map_cons,List.map_nil]);first|done|rfl|(simp only [List.length_drop,List.length_take];rfl)|(simp only [List.length_nil,Int.natCast_zero,Int.zero_add,Int.ofNat_zero];rfl)) ?_;(with_reducible refine (qZ.calls g500 t498 t507 256 t508 t509 w _ ?side1 ?side2 A5.out).mono ?_);(case side1=>repeat (first|(with_reducible first|exact HI500.out|apply qC.alloc|apply qC.drewN|apply qC.drew|apply qC.zM|refine qC.far ?_ NB500_505.out _)|exact HI500.out));(case side2=>repeat (first|(with_reducible first|exact HB.out|apply qH|apply qB|apply qG|refine qD ?_ (qC.ge HI500.out)|refine qD ?_ GE505.out)|exact HB.out));rintro e w89 ⟨rfl,hi,hb,hk⟩;refine ⟨_,rfl,?_⟩;have n0_:=qA.mk (Kd.jS (Kd.N_keep (Kd.jS (ok:=fun k_=>(k_≠g500∧k_≠gb505)) (by (with_reducible repeat (first|apply Kd.qV|apply Kd.qU|apply Kd.zA));exact HO503.out) (fun k_ hk_=>(⟨hk_,hk_.1⟩ : _∧k_≠g500))) hk (fun _ h=>h.2)) (fun _ h=>h.1));have n1_:=qA.mk (qL.blk hk (g':=gb505) (o:=.cells #[.slice Ao85 t501.length co85] 25 (0,0)) (by (with_reducible repeat (first|refine qF ?_ _|refine qI ?_|refine qE ?_ _));exact BK505.out) NB505_500.out (by simp));have n2_:=qA.mk (hb);have n3_:=qA.mk (hi);clear HO503;clear BK505;clear HB;clear HI500;have HO503:=n0_;have BK505:=n1_;have HB:=n2_;have HI500:=n3_;clear n0_ n1_ n2_ n3_;(try clear hb);(try clear hb2);(try clear hk);(try clear hi);have hcz90_0 : w89.cell? ⟨gb505,0,none⟩ = some (.slice Ao85 t501.length co85):=(qK BK505.out 0).trans rfl;have hfz90_0:=qJ BK505.out 0)|((with_reducible refine q8 (f:=27) rfl ?_);refine jB (some 18) rfl rfl Try.func27 (by kernel_rfl) rfl #[.agg #[.slice Ao85 t501.length co85],.int .i64 t506] rfl (by (try simp only [List.map_toArray,List.map_cons,List.map_nil]);first|done|rfl|(simp only [List.length_drop,List.length_take];rfl)|(simp only [List.length_nil,Int.natCast_zero,Int.zero_add,Int.ofNat_zero];rfl)) ?_;(with_reducible refine (trustquorumref06_Restrict.calls k (fun k_=>(k_≠g500∧k_≠gb505)) _ _ t501 t506 t510 _ ?side1 A6.out).mono ?_);(case side1=>exact Kd.N_V (HO503.out));rintro e w91 ⟨v511,rfl,ho0,hb⟩;refine ⟨_,rfl,?_⟩;have n0_:=qA.mk (Kd.jN (by (with_reducible repeat (first|apply Kd.qV|apply Kd.qU|apply Kd.zA));exact HO503.out) (Kd.vR ho0) hb);have n1_:=qA.mk (Kd.vS (Kd.jS (ok':=fun k_=>k_≠gb505∧k_≠g500) ho0 (fun k_ hk_=>⟨Or.elim hk_ (fun hs_=>hs_.2) (fun hn_=>(Kd.vU (g:=gb505) (o:=.cells #[.slice Ao85 t501.length co85] 25 (0,0)) (by (with_reducible repeat (first|refine qF ?_ _|refine qI ?_|refine qE ?_ _));exact BK505.out) k_ hn_)),Or.elim hk_ (fun hs_=>hs_.1) (fun hn_=>(qC.fresh (by repeat (first|(with_reducible first|exact HI500.out|apply qC.alloc|apply qC.drewN|apply qC.drew|apply qC.zM|refine qC.far ?_ NB500_505.out _)|exact HI500.out)) k_ hn_))⟩)) (qQ (by repeat (first|(with_reducible first|exact HB.out|apply qH|apply qB|apply qG|refine qD ?_ (qC.ge HI500.out)|refine qD ?_ GE505.out)|exact HB.out))));have n2_:=qA.mk (qC.below (by repeat (first|(with_reducible first|exact HI500.out|apply qC.alloc|apply qC.drewN|apply qC.drew|apply qC.zM|refine qC.far ?_ NB500_505.out _)|exact HI500.out)) hb);have n3_:=qA.mk (zD (g:=gb505) (o:=.cells #[.slice Ao85 t501.length co85] 25 (0,0)) (by (with_reducible repeat (first|refine qF ?_ _|refine qI ?_|refine qE ?_ _));exact BK505.out) hb);have n4_:=qA.mk (qN (by repeat (first|(with_reducible first|exact HB.out|apply qH|apply qB|apply qG|refine qD ?_ (qC.ge HI500.out)|refine qD ?_ GE505.out)|exact HB.out)) hb);clear HO503;clear HI500;clear BK505;clear HB;have HO503:=n0_;have HO512:=n1_;have HI500:=n2_;have BK505:=n3_;have HB:=n4_;clear n0_ n1_ n2_ n3_ n4_;(try clear hb);(try clear hb2);(try clear hk);(try clear hi);(try clear ho0))|((with_reducible refine jH (N:=7) rfl ?_);refine jL ?hg (N:=7) ?hd (cs:=#[.slice none 0 0]) (t:=25) ?hr ?_;(case hd=>rfl);(case hg=>rfl);(case hr=>first|(go_simp;done)|(go_simp;rfl));intro gb513 hg w92 hbox hb;have n0_:=qA.mk (Kd.jA (Kd.uE (by (with_reducible repeat (first|apply Kd.qV|apply Kd.qU|apply Kd.zA));exact HO503.out) gb513 (Nat.le_of_eq hg.symm)) hb);have n1_:=qA.mk (Kd.jA (Kd.uE (by (with_reducible repeat (first|apply Kd.qV|apply Kd.qU|apply Kd.zA));exact HO512.out) gb513 (Nat.le_of_eq hg.symm)) hb);have n2_:=qA.mk (qC.below (by repeat (first|(with_reducible first|exact HI500.out|apply qC.alloc|apply qC.drewN|apply qC.drew|apply qC.zM|refine qC.far ?_ NB500_505.out _)|exact HI500.out)) hb);have n3_:=qA.mk (zD (g:=gb505) (o:=.cells #[.slice Ao85 t501.length co85] 25 (0,0)) (by (with_reducible repeat (first|refine qF ?_ _|refine qI ?_|refine qE ?_ _));exact BK505.out) hb);have n4_:=qA.mk (qN (by repeat (first|(with_reducible first|exact HB.out|apply qH|apply qB|apply qG|refine qD ?_ (qC.ge HI500.out)|refine qD ?_ GE505.out)|exact HB.out)) hb);have n5_:=qA.mk (hbox);have n6_:=qA.mk ((by rw [hg];exact (qQ (by repeat (first|(with_reducible first|exact HB.out|apply qH|apply qB|apply qG|refine qD ?_ (qC.ge HI500.out)|refine qD ?_ GE505.out)|exact HB.out))) : w.heap.size ≤ gb513));have n7_:=qA.mk ((by rw [hg];exact (qQ (by repeat (first|(with_reducible first|exact HB.out|apply qH|apply qB|apply qG|refine qD ?_ (qC.ge HI500.out)|refine qD ?_ GE505.out)|exact HB.out))) : w.heap.size ≤ gb513));have n8_:=qA.mk ((by rw [hg];exact Nat.ne_of_lt (jR (g:=gb505) (o:=.cells #[.slice Ao85 t501.length co85] 25 (0,0)) (by (with_reducible repeat (first|refine qF ?_ _|refine qI ?_|refine qE ?_ _));exact BK505.out)) : gb505≠gb513));have n9_:=qA.mk ((by rw [hg];exact Nat.ne_of_gt (jR (g:=gb505) (o:=.cells #[.slice Ao85 t501.length co85] 25 (0,0)) (by (with_reducible repeat (first|refine qF ?_ _|refine qI ?_|refine qE ?_ _));exact BK505.out)) : gb513≠gb505));have n10_:=qA.mk ((by rw [hg];exact Nat.ne_of_lt (qC.lt (show qC w _ g500 t498 t509 from by repeat (first|(with_reducible first|exact HI500.out|apply qC.alloc|apply qC.drewN|apply qC.drew|apply qC.zM|refine qC.far ?_ NB500_505.out _)|exact HI500.out))) : g500≠gb513));have n11_:=qA.mk ((by rw [hg];exact Nat.ne_of_gt (qC.lt (show qC w _ g500 t498 t509 from by repeat (first|(with_reducible first|exact HI500.out|apply qC.alloc|apply qC.drewN|apply qC.drew|apply qC.zM|refine qC.far ?_ NB500_505.out _)|exact HI500.out))) : gb513≠g500));clear HO503;clear HO512;clear HI500;clear BK505;clear HB;have HO503:=n0_;have HO512:=n1_;have HI500:=n2_;have BK505:=n3_;have HB:=n4_;have BK513:=n5_;have GW513:=n6_;have GE513:=n7_;have NB505_513:=n8_;have NB513_505:=n9_;have NB500_513:=n10_;have NB513_500:=n11_;clear n0_ n1_ n2_ n3_ n4_ n5_ n6_ n7_ n8_ n9_ n10_ n11_;clear hb hbox hg;obtain ⟨Ao93,co93,eo93⟩:=Kd.vK HO512.out;subst eo93;have hnb94:=NB513_505.out;have hnc94:=NB505_513.out;have hnb95:=NB513_500.out;have hnc95:=NB500_513.out;have hcz96_0 : w92.cell? ⟨gb513,0,none⟩ = some (.slice none 0 0):=(qK BK513.out 0).trans rfl;have hfz96_0:=qJ BK513.out 0))
    have n0_ : qA (Kd.N k51 51 (w92.setCell ⟨gb513,0,none⟩ (.slice Ao93 t510.length co93)) w.heap.size (fun k_=>some k_≠(.slice Ao93 t510.length co93 : Value).ownBlock∧k_≠g500∧k_≠gb505∧k_≠gb513) (.slice Ao85 t501.length co85) t501):=⟨by (with_reducible repeat (first|apply Kd.qV|apply Kd.qU|apply Kd.zA));exact Kd.jS (Kd.uV (p:=⟨gb513,0,none⟩) (Kd.jS HO503.out (fun k_ hk=>(⟨hk,hk.2⟩ : _∧k_≠gb513))) (fun _ hk=>hk.2) (.slice Ao93 t510.length co93)) (fun _ hk=>⟨hk.1.1.2,⟨hk.1.1.1.1,⟨hk.1.1.1.2,hk.1.2⟩⟩⟩)⟩
    have n1_ : qA (Kd.N k51 51 (w92.setCell ⟨gb513,0,none⟩ (.slice Ao93 t510.length co93)) w.heap.size (fun k_=>k_≠gb505∧k_≠g500∧k_≠gb513) (.slice Ao93 t510.length co93) t510):=⟨by (with_reducible repeat (first|apply Kd.qV|apply Kd.qU|apply Kd.zA));exact Kd.jS (Kd.uV (p:=⟨gb513,0,none⟩) (Kd.jS HO512.out (fun k_ hk=>(⟨hk,hk.2⟩ : _∧k_≠gb513))) (fun _ hk=>hk.2) (.slice Ao93 t510.length co93)) (fun _ hk=>⟨hk.1.1.1,⟨hk.1.1.2,hk.1.2⟩⟩)⟩
    have n2_ : qA ((w92.setCell ⟨gb513,0,none⟩ (.slice Ao93 t510.length co93)).heap[gb505]? = some (.cells #[.slice Ao85 t501.length co85] 25 (0,0))):=⟨by (with_reducible repeat (first|refine qF ?_ _|refine qI ?_|refine qE ?_ _));refine zU ?_ NB505_513.out _;(with_reducible repeat (first|refine qF ?_ _|refine qI ?_|refine qE ?_ _));exact BK505.out⟩
    have n3_ : qA ((w92.setCell ⟨gb513,0,none⟩ (.slice Ao93 t510.length co93)).heap[gb513]? = some (.cells #[.slice Ao93 t510.length co93] 25 (0,0))):=⟨by (with_reducible repeat (first|refine qF ?_ _|refine qI ?_|refine qE ?_ _));refine zV (cs:=#[.slice none 0 0]) ?_ 0 _ rfl;(with_reducible repeat (first|refine qF ?_ _|refine qI ?_|refine qE ?_ _));exact BK513.out⟩
    have n4_ : qA (qC w (w92.setCell ⟨gb513,0,none⟩ (.slice Ao93 t510.length co93)) g500 t498 t509):=⟨by repeat (first|(with_reducible first|exact HI500.out|apply qC.alloc|apply qC.drewN|apply qC.drew|apply qC.zM|refine qC.far ?_ NB500_505.out _|refine qC.far ?_ NB500_513.out _)|exact HI500.out)⟩
    have n5_ : qA (Below w.heap.size w (w92.setCell ⟨gb513,0,none⟩ (.slice Ao93 t510.length co93))):=⟨by repeat (first|(with_reducible first|exact HB.out|apply qH|apply qB|apply qG|refine qD ?_ (qC.ge HI500.out)|refine qD ?_ GE505.out|refine qD ?_ GE513.out)|exact HB.out)⟩
    (try clear HO503)
    (try clear HO512)
    (try clear BK505)
    (try clear BK513)
    (try clear HI500)
    (try clear HB)
    generalize (w92.setCell ⟨gb513,0,none⟩ (.slice Ao93 t510.length co93)) = w97 at n0_ n1_ n2_ n3_ n4_ n5_ ⊢
    have HO503:=n0_
    have HO512:=n1_
    have BK505:=n2_
    have BK513:=n3_
    have HI500:=n4_
    have HB:=n5_
    clear n0_ n1_ n2_ n3_ n4_ n5_
    have n0_:=qA.mk (Kd.zA HO503.out)
    have n1_:=qA.mk (Kd.zA HO512.out)
    have n2_:=qA.mk (qI BK505.out)
    have n3_:=qA.mk (qI BK513.out)
    have n4_:=qA.mk (qC.drew HI500.out)
    have n5_:=qA.mk (qG HB.out)
    clear HO503
    clear HO512
    clear BK505
    clear BK513
    clear HI500
    clear HB
    have HO503:=n0_
    have HO512:=n1_
    have BK505:=n2_
    have BK513:=n3_
    have HI500:=n4_
    have HB:=n5_
    clear n0_ n1_ n2_ n3_ n4_ n5_
    refine start_ (n:=29) (S:=fun w'=>w'.cell? ⟨gb513,0,none⟩ = some (.slice Ao93 t510.length co93)∧w'.cell? ⟨gb505,0,none⟩ = some (.slice Ao85 t501.length co85)) (ds:=[]) #[false,false,false,false,false,false,false,false,false,false,false,false,false,false,false,false,false,false,false,false,false,false,false,false,false,false,false,false,false] (by kernel_rfl) rfl rfl ⟨(qK BK513.out 0).trans rfl,(qK BK505.out 0).trans rfl⟩ (fun hHeld=>?_);refine kK trustquorumlaw09_ClosureRestricts.tab5 trustquorumlaw09_ClosureRestricts.bits5 (fun HT_ HW_=>?_)
    generalize w97.drew = w98 at HO503 HO512 BK505 BK513 HI500 HB hHeld ⊢
    refine jQ (i:=1) (N:=some 20) (v:=?_) (a':=?_) #[false,true,false,false,false,false,false,false,false,false,false,false,false,false,false,false,false,false,false,false,false,false,false,false,false,false,false,false,false] rfl rfl (zX HT_.out (by kernel_rfl)) (fun _ _ _ h=>h) (Or.inl ⟨by rfl,?_⟩) ?_ ?_
    rotate_left
    ·intro w'
     go_simp
     with_reducible rfl
    rotate_left
    ·simp only [Act.put,List.setIfInBounds_toArray,List.set_cons_zero,List.set_cons_succ,zT,zW]
     rfl
    refine jQ (i:=4) (N:=some 23) (v:=?_) (a':=?_) #[false,true,false,false,true,false,false,false,false,false,false,false,false,false,false,false,false,false,false,false,false,false,false,false,false,false,false,false,false] rfl rfl (zX HT_.out (by kernel_rfl)) (fun _ _ _ h=>h) (Or.inl ⟨by rfl,?_⟩) ?_ ?_
    rotate_left
    ·intro w'
     go_simp
     with_reducible rfl
    rotate_left
    ·simp only [Act.put,List.setIfInBounds_toArray,List.set_cons_zero,List.set_cons_succ,zT,zW]
     rfl
    refine jQ (i:=5) (N:=some 24) (v:=?_) (a':=?_) #[false,true,false,false,true,true,false,false,false,false,false,false,false,false,false,false,false,false,false,false,false,false,false,false,false,false,false,false,false] rfl rfl (zX HT_.out (by kernel_rfl)) (fun _ _ _ h=>h) (Or.inl ⟨by rfl,?_⟩) ?_ ?_
    rotate_left
    ·intro w'
     go_simp
     with_reducible rfl
    rotate_left
    ·simp only [Act.put,List.setIfInBounds_toArray,List.set_cons_zero,List.set_cons_succ,zT,zW]
     rfl
    refine jQ (i:=6) (N:=some 25) (v:=?_) (a':=?_) #[false,true,false,false,true,true,true,false,false,false,false,false,false,false,false,false,false,false,false,false,false,false,false,false,false,false,false,false,false] rfl rfl (zX HT_.out (by kernel_rfl)) (fun _ _ _ h=>h) (Or.inl ⟨by rfl,?_⟩) ?_ ?_
    rotate_left
    ·intro w'
     go_simp
     with_reducible rfl
    rotate_left
    ·simp only [Act.put,List.setIfInBounds_toArray,List.set_cons_zero,List.set_cons_succ,zT,zW]
     rfl
    refine uQ (i:=0) (N:=some 19) (v:=?_) (a':=?_) #[true,true,false,false,true,true,true,false,false,false,false,false,false,false,false,false,false,false,false,false,false,false,false,false,false,false,false,false,false] rfl rfl (vV HT_.out HW_.out (by kernel_rfl)) (fun _ _ _ h=>h) (Or.inl ⟨by rfl,?_⟩) hHeld ?_ ?_
    rotate_left
    ·rintro w' ⟨s0,s1⟩
     go_simp
     with_reducible rfl
    rotate_left
    ·simp only [Act.put,List.setIfInBounds_toArray,List.set_cons_zero,List.set_cons_succ,zT,zW]
     rfl
    refine uQ (i:=3) (N:=some 22) (v:=?_) (a':=?_) #[true,true,false,true,true,true,true,false,false,false,false,false,false,false,false,false,false,false,false,false,false,false,false,false,false,false,false,false,false] rfl rfl (vV HT_.out HW_.out (by kernel_rfl)) (fun _ _ _ h=>h) (Or.inl ⟨by rfl,?_⟩) hHeld ?_ ?_
    rotate_left
    ·rintro w' ⟨s0,s1⟩
     go_simp
     with_reducible rfl
    rotate_left
    ·simp only [Act.put,List.setIfInBounds_toArray,List.set_cons_zero,List.set_cons_succ,zT,zW]
     rfl
    refine one_ (i:=2) (N:=some 21) #[true,true,true,true,true,true,true,false,false,false,false,false,false,false,false,false,false,false,false,false,false,false,false,false,false,false,false,false,false] rfl rfl (uA HT_.out (by kernel_rfl)) (by decide) (fun K hK=>?_)
    refine kI Try.func17 (by kernel_rfl) rfl #[.agg #[.slice Ao93 t510.length co93],.int .i64 t508] (by rfl) rfl rfl (by (try simp only [List.map_toArray,List.map_cons,List.map_nil]);first|done|rfl|(simp only [List.length_drop,List.length_take];rfl)|(simp only [List.length_nil,Int.natCast_zero,Int.zero_add,Int.ofNat_zero];rfl)) ?_
    with_reducible refine (zL.calls k _ _ t510 t508 t514 _ ?side1 ?side2 A7.out).mono ?_
    (case side1=>repeat (first|exact (Kd.jD HO512.out).2.2|(with_reducible refine Kd.jK ?_ _)|(with_reducible refine Kd.jJ ?_ _)|(with_reducible refine Kd.jV ?_)))
    (case side2=>exact (Kd.jD HO512.out).2.1)
    rintro e w99 ⟨rfl,hb⟩
    refine ⟨_,rfl,?_⟩
    have n0_:=qA.mk (Kd.jA (by (with_reducible repeat (first|apply Kd.qV|apply Kd.qU|apply Kd.zA));exact HO503.out) hb)
    have n1_:=qA.mk (Kd.jA (by (with_reducible repeat (first|apply Kd.qV|apply Kd.qU|apply Kd.zA));exact HO512.out) hb)
    have n2_:=qA.mk (qC.below (by repeat (first|(with_reducible first|exact HI500.out|apply qC.alloc|apply qC.drewN|apply qC.drew|apply qC.zM|refine qC.far ?_ NB500_505.out _|refine qC.far ?_ NB500_513.out _)|exact HI500.out)) hb)
    have n3_:=qA.mk (zD (g:=gb505) (o:=.cells #[.slice Ao85 t501.length co85] 25 (0,0)) (by (with_reducible repeat (first|refine qF ?_ _|refine qI ?_|refine qE ?_ _));exact BK505.out) hb)
    have n4_:=qA.mk (zD (g:=gb513) (o:=.cells #[.slice Ao93 t510.length co93] 25 (0,0)) (by (with_reducible repeat (first|refine qF ?_ _|refine qI ?_|refine qE ?_ _));exact BK513.out) hb)
    have n5_:=qA.mk (qN (by repeat (first|(with_reducible first|exact HB.out|apply qH|apply qB|apply qG|refine qD ?_ (qC.ge HI500.out)|refine qD ?_ GE505.out|refine qD ?_ GE513.out)|exact HB.out)) hb)
    clear HO503
    clear HO512
    clear HI500
    clear BK505
    clear BK513
    clear HB
    have HO503:=n0_
    have HO512:=n1_
    have HI500:=n2_
    have BK505:=n3_
    have BK513:=n4_
    have HB:=n5_
    clear n0_ n1_ n2_ n3_ n4_ n5_
    (try clear hb)
    (try clear hb2)
    (try clear hk)
    (try clear hi)
    refine hK.out _ _ ⟨(qK BK513.out 0).trans rfl,(qK BK505.out 0).trans rfl⟩ (fun hHeld=>?_)
    clear hK K
    refine uU (a':=?_) ?_ ?_
    rotate_left
    ·show Act.put _ (some 21) _ = _
     simp only [Act.put,List.setIfInBounds_toArray,List.set_cons_zero,List.set_cons_succ,zT,zW]
     rfl
    refine one_ (i:=7) (N:=some 26) #[true,true,true,true,true,true,true,true,false,false,false,false,false,false,false,false,false,false,false,false,false,false,false,false,false,false,false,false,false] rfl rfl (uA HT_.out (by kernel_rfl)) (by decide) (fun K hK=>?_)
    refine kI Try.func17 (by kernel_rfl) rfl #[.agg #[.slice Ao85 t501.length co85],.int .i64 (Go.bits .and .i64 t506 t508)] (by rfl) rfl rfl (by (try simp only [List.map_toArray,List.map_cons,List.map_nil]);first|done|rfl|(simp only [List.length_drop,List.length_take];rfl)|(simp only [List.length_nil,Int.natCast_zero,Int.zero_add,Int.ofNat_zero];rfl)) ?_
    with_reducible refine (zL.calls k _ _ t501 (Go.bits .and .i64 t506 t508) t515 _ ?side1 ?side2 A8.out).mono ?_
    (case side1=>repeat (first|exact (Kd.jD HO503.out).2.2|(with_reducible refine Kd.jK ?_ _)|(with_reducible refine Kd.jJ ?_ _)|(with_reducible refine Kd.jV ?_)))
    (case side2=>exact (Kd.jD HO503.out).2.1)
    rintro e w100 ⟨rfl,hb⟩
    refine ⟨_,rfl,?_⟩
    have n0_:=qA.mk (Kd.jA (by (with_reducible repeat (first|apply Kd.qV|apply Kd.qU|apply Kd.zA));exact HO503.out) hb)
    have n1_:=qA.mk (Kd.jA (by (with_reducible repeat (first|apply Kd.qV|apply Kd.qU|apply Kd.zA));exact HO512.out) hb)
    have n2_:=qA.mk (qC.below (by repeat (first|(with_reducible first|exact HI500.out|apply qC.alloc|apply qC.drewN|apply qC.drew|apply qC.zM|refine qC.far ?_ NB500_505.out _|refine qC.far ?_ NB500_513.out _)|exact HI500.out)) hb)
    have n3_:=qA.mk (zD (g:=gb505) (o:=.cells #[.slice Ao85 t501.length co85] 25 (0,0)) (by (with_reducible repeat (first|refine qF ?_ _|refine qI ?_|refine qE ?_ _));exact BK505.out) hb)
    have n4_:=qA.mk (zD (g:=gb513) (o:=.cells #[.slice Ao93 t510.length co93] 25 (0,0)) (by (with_reducible repeat (first|refine qF ?_ _|refine qI ?_|refine qE ?_ _));exact BK513.out) hb)
    have n5_:=qA.mk (qN (by repeat (first|(with_reducible first|exact HB.out|apply qH|apply qB|apply qG|refine qD ?_ (qC.ge HI500.out)|refine qD ?_ GE505.out|refine qD ?_ GE513.out)|exact HB.out)) hb)
    clear HO503
    clear HO512
    clear HI500
    clear BK505
    clear BK513
    clear HB
    have HO503:=n0_
    have HO512:=n1_
    have HI500:=n2_
    have BK505:=n3_
    have BK513:=n4_
    have HB:=n5_
    clear n0_ n1_ n2_ n3_ n4_ n5_
    (try clear hb)
    (try clear hb2)
    (try clear hk)
    (try clear hi)
    refine hK.out _ _ ⟨(qK BK513.out 0).trans rfl,(qK BK505.out 0).trans rfl⟩ (fun hHeld=>?_)
    clear hK K
    refine uU (a':=?_) ?_ ?_
    rotate_left
    ·show Act.put _ (some 26) _ = _
     simp only [Act.put,List.setIfInBounds_toArray,List.set_cons_zero,List.set_cons_succ,zT,zW]
     rfl
    refine jQ (i:=8) (N:=some 27) (v:=?_) (a':=?_) #[true,true,true,true,true,true,true,true,true,false,false,false,false,false,false,false,false,false,false,false,false,false,false,false,false,false,false,false,false] rfl rfl (zX HT_.out (by kernel_rfl)) (fun _ _ _ h=>h) (Or.inl ⟨by rfl,?_⟩) ?_ ?_
    rotate_left
    ·intro w'
     go_simp
     with_reducible rfl
    rotate_left
    ·simp only [Act.put,List.setIfInBounds_toArray,List.set_cons_zero,List.set_cons_succ,zT,zW]
     rfl
    refine jQ (i:=9) (N:=some 28) (v:=?_) (a':=?_) #[true,true,true,true,true,true,true,true,true,true,false,false,false,false,false,false,false,false,false,false,false,false,false,false,false,false,false,false,false] rfl rfl (zX HT_.out (by kernel_rfl)) (fun _ _ _ h=>h) (Or.inl ⟨by rfl,?_⟩) ?_ ?_
    rotate_left
    ·intro w'
     go_simp
     with_reducible rfl
    rotate_left
    ·simp only [Act.put,List.setIfInBounds_toArray,List.set_cons_zero,List.set_cons_succ,zT,zW]
     rfl
    refine jQ (i:=11) (N:=some 30) (v:=?_) (a':=?_) #[true,true,true,true,true,true,true,true,true,true,false,true,false,false,false,false,false,false,false,false,false,false,false,false,false,false,false,false,false] rfl rfl (zX HT_.out (by kernel_rfl)) (fun _ _ _ h=>h) (Or.inl ⟨by rfl,?_⟩) ?_ ?_
    rotate_left
    ·intro w'
     go_simp
     with_reducible rfl
    rotate_left
    ·simp only [Act.put,List.setIfInBounds_toArray,List.set_cons_zero,List.set_cons_succ,zT,zW]
     rfl
    refine jQ (i:=14) (N:=some 33) (v:=?_) (a':=?_) #[true,true,true,true,true,true,true,true,true,true,false,true,false,false,true,false,false,false,false,false,false,false,false,false,false,false,false,false,false] rfl rfl (zX HT_.out (by kernel_rfl)) (fun _ _ _ h=>h) (Or.inl ⟨by rfl,?_⟩) ?_ ?_
    rotate_left
    ·intro w'
     go_simp
     with_reducible rfl
    rotate_left
    ·simp only [Act.put,List.setIfInBounds_toArray,List.set_cons_zero,List.set_cons_succ,zT,zW]
     rfl
    refine uQ (i:=10) (N:=some 29) (v:=?_) (a':=?_) #[true,true,true,true,true,true,true,true,true,true,true,true,false,false,true,false,false,false,false,false,false,false,false,false,false,false,false,false,false] rfl rfl (vV HT_.out HW_.out (by kernel_rfl)) (fun _ _ _ h=>h) (Or.inl ⟨by rfl,?_⟩) hHeld ?_ ?_
    rotate_left
    ·rintro w' ⟨s0,s1⟩
     go_simp
     with_reducible rfl
    rotate_left
    ·simp only [Act.put,List.setIfInBounds_toArray,List.set_cons_zero,List.set_cons_succ,zT,zW]
     rfl
    refine uQ (i:=13) (N:=some 32) (v:=?_) (a':=?_) #[true,true,true,true,true,true,true,true,true,true,true,true,false,true,true,false,false,false,false,false,false,false,false,false,false,false,false,false,false] rfl rfl (vV HT_.out HW_.out (by kernel_rfl)) (fun _ _ _ h=>h) (Or.inl ⟨by rfl,?_⟩) hHeld ?_ ?_
    rotate_left
    ·rintro w' ⟨s0,s1⟩
     go_simp
     with_reducible rfl
    rotate_left
    ·simp only [Act.put,List.setIfInBounds_toArray,List.set_cons_zero,List.set_cons_succ,zT,zW]
     rfl
    refine one_ (i:=12) (N:=some 31) #[true,true,true,true,true,true,true,true,true,true,true,true,true,true,true,false,false,false,false,false,false,false,false,false,false,false,false,false,false] rfl rfl (uA HT_.out (by kernel_rfl)) (by decide) (fun K hK=>?_)
    refine kI Try.func15 (by kernel_rfl) rfl #[.agg #[.slice Ao93 t510.length co93],.int .i64 t508] (by rfl) rfl rfl (by (try simp only [List.map_toArray,List.map_cons,List.map_nil]);first|done|rfl|(simp only [List.length_drop,List.length_take];rfl)|(simp only [List.length_nil,Int.natCast_zero,Int.zero_add,Int.ofNat_zero];rfl)) ?_
    with_reducible refine (zR.calls k _ _ t510 t508 t516 _ ?side1 ?side2 A10.out).mono ?_
    (case side1=>repeat (first|exact (Kd.jD HO512.out).2.2|(with_reducible refine Kd.jK ?_ _)|(with_reducible refine Kd.jJ ?_ _)|(with_reducible refine Kd.jV ?_)))
    (case side2=>exact (Kd.jD HO512.out).2.1)
    rintro e w101 ⟨rfl,hb⟩
    refine ⟨_,rfl,?_⟩
    have n0_:=qA.mk (Kd.jA (by (with_reducible repeat (first|apply Kd.qV|apply Kd.qU|apply Kd.zA));exact HO503.out) hb)
    have n1_:=qA.mk (Kd.jA (by (with_reducible repeat (first|apply Kd.qV|apply Kd.qU|apply Kd.zA));exact HO512.out) hb)
    have n2_:=qA.mk (qC.below (by repeat (first|(with_reducible first|exact HI500.out|apply qC.alloc|apply qC.drewN|apply qC.drew|apply qC.zM|refine qC.far ?_ NB500_505.out _|refine qC.far ?_ NB500_513.out _)|exact HI500.out)) hb)
    have n3_:=qA.mk (zD (g:=gb505) (o:=.cells #[.slice Ao85 t501.length co85] 25 (0,0)) (by (with_reducible repeat (first|refine qF ?_ _|refine qI ?_|refine qE ?_ _));exact BK505.out) hb)
    have n4_:=qA.mk (zD (g:=gb513) (o:=.cells #[.slice Ao93 t510.length co93] 25 (0,0)) (by (with_reducible repeat (first|refine qF ?_ _|refine qI ?_|refine qE ?_ _));exact BK513.out) hb)
    have n5_:=qA.mk (qN (by repeat (first|(with_reducible first|exact HB.out|apply qH|apply qB|apply qG|refine qD ?_ (qC.ge HI500.out)|refine qD ?_ GE505.out|refine qD ?_ GE513.out)|exact HB.out)) hb)
    clear HO503
    clear HO512
    clear HI500
    clear BK505
    clear BK513
    clear HB
    have HO503:=n0_
    have HO512:=n1_
    have HI500:=n2_
    have BK505:=n3_
    have BK513:=n4_
    have HB:=n5_
    clear n0_ n1_ n2_ n3_ n4_ n5_
    (try clear hb)
    (try clear hb2)
    (try clear hk)
    (try clear hi)
    refine hK.out _ _ ⟨(qK BK513.out 0).trans rfl,(qK BK505.out 0).trans rfl⟩ (fun hHeld=>?_)
    clear hK K
    refine uU (a':=?_) ?_ ?_
    rotate_left
    ·show Act.put _ (some 31) _ = _
     simp only [Act.put,List.setIfInBounds_toArray,List.set_cons_zero,List.set_cons_succ,zT,zW]
     rfl
    refine one_ (i:=15) (N:=some 34) #[true,true,true,true,true,true,true,true,true,true,true,true,true,true,true,true,false,false,false,false,false,false,false,false,false,false,false,false,false] rfl rfl (uA HT_.out (by kernel_rfl)) (by decide) (fun K hK=>?_)
    refine kI Try.func15 (by kernel_rfl) rfl #[.agg #[.slice Ao85 t501.length co85],.int .i64 t508] (by rfl) rfl rfl (by (try simp only [List.map_toArray,List.map_cons,List.map_nil]);first|done|rfl|(simp only [List.length_drop,List.length_take];rfl)|(simp only [List.length_nil,Int.natCast_zero,Int.zero_add,Int.ofNat_zero];rfl)) ?_
    with_reducible refine (zR.calls k _ _ t501 t508 false _ ?side1 ?side2 A11.out).mono ?_
    (case side1=>repeat (first|exact (Kd.jD HO503.out).2.2|(with_reducible refine Kd.jK ?_ _)|(with_reducible refine Kd.jJ ?_ _)|(with_reducible refine Kd.jV ?_)))
    (case side2=>exact (Kd.jD HO503.out).2.1)
    rintro e w102 ⟨rfl,hb⟩
    refine ⟨_,rfl,?_⟩
    have n0_:=qA.mk (Kd.jA (by (with_reducible repeat (first|apply Kd.qV|apply Kd.qU|apply Kd.zA));exact HO503.out) hb)
    have n1_:=qA.mk (Kd.jA (by (with_reducible repeat (first|apply Kd.qV|apply Kd.qU|apply Kd.zA));exact HO512.out) hb)
    have n2_:=qA.mk (qC.below (by repeat (first|(with_reducible first|exact HI500.out|apply qC.alloc|apply qC.drewN|apply qC.drew|apply qC.zM|refine qC.far ?_ NB500_505.out _|refine qC.far ?_ NB500_513.out _)|exact HI500.out)) hb)
    have n3_:=qA.mk (zD (g:=gb505) (o:=.cells #[.slice Ao85 t501.length co85] 25 (0,0)) (by (with_reducible repeat (first|refine qF ?_ _|refine qI ?_|refine qE ?_ _));exact BK505.out) hb)
    have n4_:=qA.mk (zD (g:=gb513) (o:=.cells #[.slice Ao93 t510.length co93] 25 (0,0)) (by (with_reducible repeat (first|refine qF ?_ _|refine qI ?_|refine qE ?_ _));exact BK513.out) hb)
    have n5_:=qA.mk (qN (by repeat (first|(with_reducible first|exact HB.out|apply qH|apply qB|apply qG|refine qD ?_ (qC.ge HI500.out)|refine qD ?_ GE505.out|refine qD ?_ GE513.out)|exact HB.out)) hb)
    clear HO503
    clear HO512
    clear HI500
    clear BK505
    clear BK513
    clear HB
    have HO503:=n0_
    have HO512:=n1_
    have HI500:=n2_
    have BK505:=n3_
    have BK513:=n4_
    have HB:=n5_
    clear n0_ n1_ n2_ n3_ n4_ n5_
    (try clear hb)
    (try clear hb2)
    (try clear hk)
    (try clear hi)
    refine hK.out _ _ ⟨(qK BK513.out 0).trans rfl,(qK BK505.out 0).trans rfl⟩ (fun hHeld=>?_)
    clear hK K
    refine uU (a':=?_) ?_ ?_
    rotate_left
    ·show Act.put _ (some 34) _ = _
     simp only [Act.put,List.setIfInBounds_toArray,List.set_cons_zero,List.set_cons_succ,zT,zW]
     rfl
    refine jQ (i:=16) (N:=some 35) (v:=?_) (a':=?_) #[true,true,true,true,true,true,true,true,true,true,true,true,true,true,true,true,true,false,false,false,false,false,false,false,false,false,false,false,false] rfl rfl (zX HT_.out (by kernel_rfl)) (fun _ _ _ h=>h) (Or.inl ⟨by rfl,?_⟩) ?_ ?_
    rotate_left
    ·intro w'
     go_simp
     with_reducible rfl
    rotate_left
    ·simp only [Act.put,List.setIfInBounds_toArray,List.set_cons_zero,List.set_cons_succ,zT,zW]
     rfl
    refine jQ (i:=17) (N:=some 36) (v:=undef) (a':=?_) #[true,true,true,true,true,true,true,true,true,true,true,true,true,true,true,true,true,true,false,false,false,false,false,false,false,false,false,false,false] rfl rfl (zX HT_.out (by kernel_rfl)) (fun _ _ _ h=>h) (Or.inr ⟨by rfl,rfl⟩) ?_ ?_
    rotate_left
    ·simp only [Act.put,List.setIfInBounds_toArray,List.set_cons_zero,List.set_cons_succ,zT,zW]
     rfl
    refine jQ (i:=18) (N:=some 37) (v:=undef) (a':=?_) #[true,true,true,true,true,true,true,true,true,true,true,true,true,true,true,true,true,true,true,false,false,false,false,false,false,false,false,false,false] rfl rfl (zX HT_.out (by kernel_rfl)) (fun _ _ _ h=>h) (Or.inr ⟨by rfl,rfl⟩) ?_ ?_
    rotate_left
    ·simp only [Act.put,List.setIfInBounds_toArray,List.set_cons_zero,List.set_cons_succ,zT,zW]
     rfl
    refine jQ (i:=19) (N:=some 38) (v:=undef) (a':=?_) #[true,true,true,true,true,true,true,true,true,true,true,true,true,true,true,true,true,true,true,true,false,false,false,false,false,false,false,false,false] rfl rfl (zX HT_.out (by kernel_rfl)) (fun _ _ _ h=>h) (Or.inr ⟨by rfl,rfl⟩) ?_ ?_
    rotate_left
    ·simp only [Act.put,List.setIfInBounds_toArray,List.set_cons_zero,List.set_cons_succ,zT,zW]
     rfl
    refine jQ (i:=20) (N:=some 39) (v:=undef) (a':=?_) #[true,true,true,true,true,true,true,true,true,true,true,true,true,true,true,true,true,true,true,true,true,false,false,false,false,false,false,false,false] rfl rfl (zX HT_.out (by kernel_rfl)) (fun _ _ _ h=>h) (Or.inr ⟨by rfl,rfl⟩) ?_ ?_
    rotate_left
    ·simp only [Act.put,List.setIfInBounds_toArray,List.set_cons_zero,List.set_cons_succ,zT,zW]
     rfl
    refine jQ (i:=21) (N:=some 40) (v:=undef) (a':=?_) #[true,true,true,true,true,true,true,true,true,true,true,true,true,true,true,true,true,true,true,true,true,true,false,false,false,false,false,false,false] rfl rfl (zX HT_.out (by kernel_rfl)) (fun _ _ _ h=>h) (Or.inr ⟨by rfl,rfl⟩) ?_ ?_
    rotate_left
    ·simp only [Act.put,List.setIfInBounds_toArray,List.set_cons_zero,List.set_cons_succ,zT,zW]
     rfl
    refine jQ (i:=22) (N:=some 41) (v:=?_) (a':=?_) #[true,true,true,true,true,true,true,true,true,true,true,true,true,true,true,true,true,true,true,true,true,true,true,false,false,false,false,false,false] rfl rfl (zX HT_.out (by kernel_rfl)) (fun _ _ _ h=>h) (Or.inl ⟨by rfl,?_⟩) ?_ ?_
    rotate_left
    ·intro w'
     go_simp
     with_reducible rfl
    rotate_left
    ·simp only [Act.put,List.setIfInBounds_toArray,List.set_cons_zero,List.set_cons_succ,zT,zW]
     rfl
    refine jQ (i:=23) (N:=some 42) (v:=?_) (a':=?_) #[true,true,true,true,true,true,true,true,true,true,true,true,true,true,true,true,true,true,true,true,true,true,true,true,false,false,false,false,false] rfl rfl (zX HT_.out (by kernel_rfl)) (fun _ _ _ h=>h) (Or.inl ⟨by rfl,?_⟩) ?_ ?_
    rotate_left
    ·intro w'
     go_simp
     with_reducible rfl
    rotate_left
    ·simp only [Act.put,List.setIfInBounds_toArray,List.set_cons_zero,List.set_cons_succ,zT,zW]
     rfl
    refine jQ (i:=24) (N:=some 43) (v:=?_) (a':=?_) #[true,true,true,true,true,true,true,true,true,true,true,true,true,true,true,true,true,true,true,true,true,true,true,true,true,false,false,false,false] rfl rfl (zX HT_.out (by kernel_rfl)) (fun _ _ _ h=>h) (Or.inl ⟨by rfl,?_⟩) ?_ ?_
    rotate_left
    ·intro w'
     go_simp
     with_reducible rfl
    rotate_left
    ·simp only [Act.put,List.setIfInBounds_toArray,List.set_cons_zero,List.set_cons_succ,zT,zW]
     rfl
    refine jQ (i:=25) (N:=some 44) (v:=?_) (a':=?_) #[true,true,true,true,true,true,true,true,true,true,true,true,true,true,true,true,true,true,true,true,true,true,true,true,true,true,false,false,false] rfl rfl (zX HT_.out (by kernel_rfl)) (fun _ _ _ h=>h) (Or.inl ⟨by rfl,?_⟩) ?_ ?_
    rotate_left
    ·intro w'
     go_simp
     with_reducible rfl
    rotate_left
    ·simp only [Act.put,List.setIfInBounds_toArray,List.set_cons_zero,List.set_cons_succ,zT,zW]
     rfl
    refine jQ (i:=26) (N:=some 45) (v:=undef) (a':=?_) #[true,true,true,true,true,true,true,true,true,true,true,true,true,true,true,true,true,true,true,true,true,true,true,true,true,true,true,false,false] rfl rfl (zX HT_.out (by kernel_rfl)) (fun _ _ _ h=>h) (Or.inr ⟨by rfl,rfl⟩) ?_ ?_
    rotate_left
    ·simp only [Act.put,List.setIfInBounds_toArray,List.set_cons_zero,List.set_cons_succ,zT,zW]
     rfl
    refine jQ (i:=27) (N:=some 46) (v:=?_) (a':=?_) #[true,true,true,true,true,true,true,true,true,true,true,true,true,true,true,true,true,true,true,true,true,true,true,true,true,true,true,true,false] rfl rfl (zX HT_.out (by kernel_rfl)) (fun _ _ _ h=>h) (Or.inl ⟨by rfl,?_⟩) ?_ ?_
    rotate_left
    ·intro w'
     go_simp
     with_reducible rfl
    rotate_left
    ·simp only [Act.put,List.setIfInBounds_toArray,List.set_cons_zero,List.set_cons_succ,zT,zW]
     rfl
    refine jQ (i:=28) (N:=some 2) (v:=?_) (a':=?_) #[true,true,true,true,true,true,true,true,true,true,true,true,true,true,true,true,true,true,true,true,true,true,true,true,true,true,true,true,true] rfl rfl (zX HT_.out (by kernel_rfl)) (fun _ _ _ h=>h) (Or.inl ⟨by rfl,?_⟩) ?_ ?_
    rotate_left
    ·intro w'
     go_simp
     with_reducible rfl
    rotate_left
    ·simp only [Act.put,List.setIfInBounds_toArray,List.set_cons_zero,List.set_cons_succ,zT,zW]
     rfl
    refine done_ (done_of HT_.out (by kernel_rfl)) ?_
    try go_wp2
    go_ret
    exact ⟨by first|rfl|(simp [zK,zJ]<;>rfl)|(simp [*,zK,zJ]<;>rfl),by repeat (first|(with_reducible first|exact HB.out|apply qH|apply qB|apply qG|refine qD ?_ (qC.ge HI500.out)|refine qD ?_ GE505.out|refine qD ?_ GE513.out)|exact HB.out)⟩
 ·rw [if_neg c9] at H
  have c9b0 : (t514 == t515) = false:=beq_eq_false_iff_ne.mpr c9
  have c9b1 : (t514 != t515) = true:=bne_iff_ne.mpr c9
  obtain rfl:=Option.some.inj H
  go_enter Try.func7,Try.ntmps7
  try go_wp2_with (first|((with_reducible refine q8 (f:=10) rfl ?_);refine jB (some 9) rfl rfl Try.func10 (by kernel_rfl) rfl #[.slice A0 l0.length c0] rfl (by (try simp only [List.map_toArray,List.map_cons,List.map_nil]);first|done|rfl|(simp only [List.length_drop,List.length_take];rfl)|(simp only [List.length_nil,Int.natCast_zero,Int.zero_add,Int.ofNat_zero];rfl)) ?_;(with_reducible refine (vM.calls _ _ l0 t498 t499 w _ ?side1 ?side2 ?side3 A2.out).mono ?_);(case side1=>repeat (first|(with_reducible first|exact HB.out|apply qH|apply qB|apply qG)|exact HB.out));(case side2=>exact HR0.out);(case side3=>exact HC0.out);rintro e w103 ⟨g500,rfl,hi,hb,hb2⟩;refine ⟨_,rfl,?_⟩;have n0_:=qA.mk (hb);have n1_:=qA.mk (hi);clear HB;have HB:=n0_;have HI500:=n1_;clear n0_ n1_;(try clear hb);(try clear hb2);(try clear hk);(try clear hi))|((with_reducible refine q8 (f:=11) rfl ?_);refine jB (some 11) rfl rfl Try.func11 (by kernel_rfl) rfl #[.pointer (some ⟨g500,0,none⟩),.int .i64 8] rfl (by (try simp only [List.map_toArray,List.map_cons,List.map_nil]);first|done|rfl|(simp only [List.length_drop,List.length_take];rfl)|(simp only [List.length_nil,Int.natCast_zero,Int.zero_add,Int.ofNat_zero];rfl)) ?_;(with_reducible refine (zG.calls k g500 t498 t499 8 t501 t504 w _ ?side1 ?side2 A3.out).mono ?_);(case side1=>repeat (first|(with_reducible first|exact HI500.out|apply qC.alloc|apply qC.drewN|apply qC.drew|apply qC.zM)|exact HI500.out));(case side2=>repeat (first|(with_reducible first|exact HB.out|apply qH|apply qB|apply qG|refine qD ?_ (qC.ge HI500.out))|exact HB.out));rintro e w104 ⟨v502,rfl,ho0,hi,hb,hk⟩;refine ⟨_,rfl,?_⟩;have n0_:=qA.mk (Kd.vS (Kd.jS (ok':=fun k_=>k_≠g500) (Kd.R_N (Kd.uM ho0)) (fun k_ hk_=>(qC.fresh (by repeat (first|(with_reducible first|exact HI500.out|apply qC.alloc|apply qC.drewN|apply qC.drew|apply qC.zM)|exact HI500.out)) k_ hk_.2.1))) (qQ (by repeat (first|(with_reducible first|exact HB.out|apply qH|apply qB|apply qG|refine qD ?_ (qC.ge HI500.out))|exact HB.out))));have n1_:=qA.mk (hb);have n2_:=qA.mk (hi);clear HB;clear HI500;have HO503:=n0_;have HB:=n1_;have HI500:=n2_;clear n0_ n1_ n2_;(try clear hb);(try clear hb2);(try clear hk);(try clear hi);(try clear ho0))|((with_reducible refine jH (N:=4) rfl ?_);refine jL ?hg (N:=4) ?hd (cs:=#[.slice none 0 0]) (t:=25) ?hr ?_;(case hd=>rfl);(case hg=>rfl);(case hr=>first|(go_simp;done)|(go_simp;rfl));intro gb505 hg w105 hbox hb;have n0_:=qA.mk (Kd.jA (Kd.uE (by (with_reducible repeat (first|apply Kd.qV|apply Kd.qU|apply Kd.zA));exact HO503.out) gb505 (Nat.le_of_eq hg.symm)) hb);have n1_:=qA.mk (qC.below (by repeat (first|(with_reducible first|exact HI500.out|apply qC.alloc|apply qC.drewN|apply qC.drew|apply qC.zM)|exact HI500.out)) hb);have n2_:=qA.mk (qN (by repeat (first|(with_reducible first|exact HB.out|apply qH|apply qB|apply qG|refine qD ?_ (qC.ge HI500.out))|exact HB.out)) hb);have n3_:=qA.mk (hbox);have n4_:=qA.mk ((by rw [hg];exact (qQ (by repeat (first|(with_reducible first|exact HB.out|apply qH|apply qB|apply qG|refine qD ?_ (qC.ge HI500.out))|exact HB.out))) : w.heap.size ≤ gb505));have n5_:=qA.mk ((by rw [hg];exact (qQ (by repeat (first|(with_reducible first|exact HB.out|apply qH|apply qB|apply qG|refine qD ?_ (qC.ge HI500.out))|exact HB.out))) : w.heap.size ≤ gb505));have n6_:=qA.mk ((by rw [hg];exact Nat.ne_of_lt (qC.lt (show qC w _ g500 t498 t504 from by repeat (first|(with_reducible first|exact HI500.out|apply qC.alloc|apply qC.drewN|apply qC.drew|apply qC.zM)|exact HI500.out))) : g500≠gb505));have n7_:=qA.mk ((by rw [hg];exact Nat.ne_of_gt (qC.lt (show qC w _ g500 t498 t504 from by repeat (first|(with_reducible first|exact HI500.out|apply qC.alloc|apply qC.drewN|apply qC.drew|apply qC.zM)|exact HI500.out))) : gb505≠g500));clear HO503;clear HI500;clear HB;have HO503:=n0_;have HI500:=n1_;have HB:=n2_;have BK505:=n3_;have GW505:=n4_;have GE505:=n5_;have NB500_505:=n6_;have NB505_500:=n7_;clear n0_ n1_ n2_ n3_ n4_ n5_ n6_ n7_;clear hb hbox hg;obtain ⟨Ao106,co106,eo106⟩:=Kd.vK HO503.out;subst eo106;have hnb107:=NB505_500.out;have hnc107:=NB500_505.out;have hcz108_0 : w105.cell? ⟨gb505,0,none⟩ = some (.slice none 0 0):=(qK BK505.out 0).trans rfl;have hfz108_0:=qJ BK505.out 0)|((with_reducible refine q8 (f:=13) rfl ?_);refine jB (some 13) rfl rfl Try.func13 (by kernel_rfl) rfl #[.pointer (some ⟨g500,0,none⟩),.int .i64 256] rfl (by (try simp only [List.map_toArray,List.map_cons,List.map_nil]);first|done|rfl|(simp only [List.length_drop,List.length_take];rfl)|(simp only [List.length_nil,Int.natCast_zero,Int.zero_add,Int.ofNat_zero];rfl)) ?_;(with_reducible refine (qZ.calls g500 t498 t504 256 t506 t507 w _ ?side1 ?side2 A4.out).mono ?_);(case side1=>repeat (first|(with_reducible first|exact HI500.out|apply qC.alloc|apply qC.drewN|apply qC.drew|apply qC.zM|refine qC.far ?_ NB500_505.out _)|exact HI500.out));(case side2=>repeat (first|(with_reducible first|exact HB.out|apply qH|apply qB|apply qG|refine qD ?_ (qC.ge HI500.out)|refine qD ?_ GE505.out)|exact HB.out));rintro e w109 ⟨rfl,hi,hb,hk⟩;refine ⟨_,rfl,?_⟩;have n0_:=qA.mk (Kd.jS (Kd.N_keep (Kd.jS (ok:=fun k_=>(k_≠g500∧k_≠gb505)) (by (with_reducible repeat (first|apply Kd.qV|apply Kd.qU|apply Kd.zA));exact (Kd.jS (Kd.uV (p:=⟨gb505,0,none⟩) (Kd.jS HO503.out (fun k_ hk=>(⟨hk,hk.2⟩ : _∧k_≠gb505))) (fun _ hk=>hk.2) (.slice Ao106 t501.length co106)) (fun _ h_=>h_.1))) (fun k_ hk_=>(⟨hk_,hk_.1⟩ : _∧k_≠g500))) hk (fun _ h=>h.2)) (fun _ h=>h.1));have n1_:=qA.mk (qL.blk hk (g':=gb505) (o:=.cells #[.slice Ao106 t501.length co106] 25 (0,0)) (by (with_reducible repeat (first|refine qF ?_ _|refine qI ?_|refine qE ?_ _));refine zV (cs:=#[.slice none 0 0]) ?_ 0 _ rfl;(with_reducible repeat (first|refine qF ?_ _|refine qI ?_|refine qE ?_ _));exact BK505.out) NB505_500.out (by simp));have n2_:=qA.mk (hb);have n3_:=qA.mk (hi);clear HO503;clear BK505;clear HB;clear HI500;have HO503:=n0_;have BK505:=n1_;have HB:=n2_;have HI500:=n3_;clear n0_ n1_ n2_ n3_;(try clear hb);(try clear hb2);(try clear hk);(try clear hi))|((with_reducible refine q8 (f:=13) rfl ?_);refine jB (some 15) rfl rfl Try.func13 (by kernel_rfl) rfl #[.pointer (some ⟨g500,0,none⟩),.int .i64 256] rfl (by (try simp only [List.map_toArray,List.map_cons,List.map_nil]);first|done|rfl|(simp only [List.length_drop,List.length_take];rfl)|(simp only [List.length_nil,Int.natCast_zero,Int.zero_add,Int.ofNat_zero];rfl)) ?_;(with_reducible refine (qZ.calls g500 t498 t507 256 t508 t509 w _ ?side1 ?side2 A5.out).mono ?_);(case side1=>repeat (first|(with_reducible first|exact HI500.out|apply qC.alloc|apply qC.drewN|apply qC.drew|apply qC.zM|refine qC.far ?_ NB500_505.out _)|exact HI500.out));(case side2=>repeat (first|(with_reducible first|exact HB.out|apply qH|apply qB|apply qG|refine qD ?_ (qC.ge HI500.out)|refine qD ?_ GE505.out)|exact HB.out));rintro e w110 ⟨rfl,hi,hb,hk⟩;refine ⟨_,rfl,?_⟩;have n0_:=qA.mk (Kd.jS (Kd.N_keep (Kd.jS (ok:=fun k_=>(k_≠g500∧k_≠gb505)) (by (with_reducible repeat (first|apply Kd.qV|apply Kd.qU|apply Kd.zA));exact HO503.out) (fun k_ hk_=>(⟨hk_,hk_.1⟩ : _∧k_≠g500))) hk (fun _ h=>h.2)) (fun _ h=>h.1));have n1_:=qA.mk (qL.blk hk (g':=gb505) (o:=.cells #[.slice Ao106 t501.length co106] 25 (0,0)) (by (with_reducible repeat (first|refine qF ?_ _|refine qI ?_|refine qE ?_ _));exact BK505.out) NB505_500.out (by simp));have n2_:=qA.mk (hb);have n3_:=qA.mk (hi);clear HO503;clear BK505;clear HB;clear HI500;have HO503:=n0_;have BK505:=n1_;have HB:=n2_;have HI500:=n3_;clear n0_ n1_ n2_ n3_;(try clear hb);(try clear hb2);(try clear hk);(try clear hi);have hcz111_0 : w110.cell? ⟨gb505,0,none⟩ = some (.slice Ao106 t501.length co106):=(qK BK505.out 0).trans rfl;have hfz111_0:=qJ BK505.out 0)|((with_reducible refine q8 (f:=27) rfl ?_);refine jB (some 18) rfl rfl Try.func27 (by kernel_rfl) rfl #[.agg #[.slice Ao106 t501.length co106],.int .i64 t506] rfl (by (try simp only [List.map_toArray,List.map_cons,List.map_nil]);first|done|rfl|(simp only [List.length_drop,List.length_take];rfl)|(simp only [List.length_nil,Int.natCast_zero,Int.zero_add,Int.ofNat_zero];rfl)) ?_;(with_reducible refine (trustquorumref06_Restrict.calls k (fun k_=>(k_≠g500∧k_≠gb505)) _ _ t501 t506 t510 _ ?side1 A6.out).mono ?_);(case side1=>exact Kd.N_V (HO503.out));rintro e w112 ⟨v511,rfl,ho0,hb⟩;refine ⟨_,rfl,?_⟩;have n0_:=qA.mk (Kd.jN (by (with_reducible repeat (first|apply Kd.qV|apply Kd.qU|apply Kd.zA));exact HO503.out) (Kd.vR ho0) hb);have n1_:=qA.mk (Kd.vS (Kd.jS (ok':=fun k_=>k_≠gb505∧k_≠g500) ho0 (fun k_ hk_=>⟨Or.elim hk_ (fun hs_=>hs_.2) (fun hn_=>(Kd.vU (g:=gb505) (o:=.cells #[.slice Ao106 t501.length co106] 25 (0,0)) (by (with_reducible repeat (first|refine qF ?_ _|refine qI ?_|refine qE ?_ _));exact BK505.out) k_ hn_)),Or.elim hk_ (fun hs_=>hs_.1) (fun hn_=>(qC.fresh (by repeat (first|(with_reducible first|exact HI500.out|apply qC.alloc|apply qC.drewN|apply qC.drew|apply qC.zM|refine qC.far ?_ NB500_505.out _)|exact HI500.out)) k_ hn_))⟩)) (qQ (by repeat (first|(with_reducible first|exact HB.out|apply qH|apply qB|apply qG|refine qD ?_ (qC.ge HI500.out)|refine qD ?_ GE505.out)|exact HB.out))));have n2_:=qA.mk (qC.below (by repeat (first|(with_reducible first|exact HI500.out|apply qC.alloc|apply qC.drewN|apply qC.drew|apply qC.zM|refine qC.far ?_ NB500_505.out _)|exact HI500.out)) hb);have n3_:=qA.mk (zD (g:=gb505) (o:=.cells #[.slice Ao106 t501.length co106] 25 (0,0)) (by (with_reducible repeat (first|refine qF ?_ _|refine qI ?_|refine qE ?_ _));exact BK505.out) hb);have n4_:=qA.mk (qN (by repeat (first|(with_reducible first|exact HB.out|apply qH|apply qB|apply qG|refine qD ?_ (qC.ge HI500.out)|refine qD ?_ GE505.out)|exact HB.out)) hb);clear HO503;clear HI500;clear BK505;clear HB;have HO503:=n0_;have HO512:=n1_;have HI500:=n2_;have BK505:=n3_;have HB:=n4_;clear n0_ n1_ n2_ n3_ n4_;(try clear hb);(try clear hb2);(try clear hk);(try clear hi);(try clear ho0))|((with_reducible refine jH (N:=7) rfl ?_);refine jL ?hg (N:=7) ?hd (cs:=#[.slice none 0 0]) (t:=25) ?hr ?_;(case hd=>rfl);(case hg=>rfl);(case hr=>first|(go_simp;done)|(go_simp;rfl));intro gb513 hg w113 hbox hb;have n0_:=qA.mk (Kd.jA (Kd.uE (by (with_reducible repeat (first|apply Kd.qV|apply Kd.qU|apply Kd.zA));exact HO503.out) gb513 (Nat.le_of_eq hg.symm)) hb);have n1_:=qA.mk (Kd.jA (Kd.uE (by (with_reducible repeat (first|apply Kd.qV|apply Kd.qU|apply Kd.zA));exact HO512.out) gb513 (Nat.le_of_eq hg.symm)) hb);have n2_:=qA.mk (qC.below (by repeat (first|(with_reducible first|exact HI500.out|apply qC.alloc|apply qC.drewN|apply qC.drew|apply qC.zM|refine qC.far ?_ NB500_505.out _)|exact HI500.out)) hb);have n3_:=qA.mk (zD (g:=gb505) (o:=.cells #[.slice Ao106 t501.length co106] 25 (0,0)) (by (with_reducible repeat (first|refine qF ?_ _|refine qI ?_|refine qE ?_ _));exact BK505.out) hb);have n4_:=qA.mk (qN (by repeat (first|(with_reducible first|exact HB.out|apply qH|apply qB|apply qG|refine qD ?_ (qC.ge HI500.out)|refine qD ?_ GE505.out)|exact HB.out)) hb);have n5_:=qA.mk (hbox);have n6_:=qA.mk ((by rw [hg];exact (qQ (by repeat (first|(with_reducible first|exact HB.out|apply qH|apply qB|apply qG|refine qD ?_ (qC.ge HI500.out)|refine qD ?_ GE505.out)|exact HB.out))) : w.heap.size ≤ gb513));have n7_:=qA.mk ((by rw [hg];exact (qQ (by repeat (first|(with_reducible first|exact HB.out|apply qH|apply qB|apply qG|refine qD ?_ (qC.ge HI500.out)|refine qD ?_ GE505.out)|exact HB.out))) : w.heap.size ≤ gb513));have n8_:=qA.mk ((by rw [hg];exact Nat.ne_of_lt (jR (g:=gb505) (o:=.cells #[.slice Ao106 t501.length co106] 25 (0,0)) (by (with_reducible repeat (first|refine qF ?_ _|refine qI ?_|refine qE ?_ _));exact BK505.out)) : gb505≠gb513));have n9_:=qA.mk ((by rw [hg];exact Nat.ne_of_gt (jR (g:=gb505) (o:=.cells #[.slice Ao106 t501.length co106] 25 (0,0)) (by (with_reducible repeat (first|refine qF ?_ _|refine qI ?_|refine qE ?_ _));exact BK505.out)) : gb513≠gb505));have n10_:=qA.mk ((by rw [hg];exact Nat.ne_of_lt (qC.lt (show qC w _ g500 t498 t509 from by repeat (first|(with_reducible first|exact HI500.out|apply qC.alloc|apply qC.drewN|apply qC.drew|apply qC.zM|refine qC.far ?_ NB500_505.out _)|exact HI500.out))) : g500≠gb513));have n11_:=qA.mk ((by rw [hg];exact Nat.ne_of_gt (qC.lt (show qC w _ g500 t498 t509 from by repeat (first|(with_reducible first|exact HI500.out|apply qC.alloc|apply qC.drewN|apply qC.drew|apply qC.zM|refine qC.far ?_ NB500_505.out _)|exact HI500.out))) : gb513≠g500));clear HO503;clear HO512;clear HI500;clear BK505;clear HB;have HO503:=n0_;have HO512:=n1_;have HI500:=n2_;have BK505:=n3_;have HB:=n4_;have BK513:=n5_;have GW513:=n6_;have GE513:=n7_;have NB505_513:=n8_;have NB513_505:=n9_;have NB500_513:=n10_;have NB513_500:=n11_;clear n0_ n1_ n2_ n3_ n4_ n5_ n6_ n7_ n8_ n9_ n10_ n11_;clear hb hbox hg;obtain ⟨Ao114,co114,eo114⟩:=Kd.vK HO512.out;subst eo114;have hnb115:=NB513_505.out;have hnc115:=NB505_513.out;have hnb116:=NB513_500.out;have hnc116:=NB500_513.out;have hcz117_0 : w113.cell? ⟨gb513,0,none⟩ = some (.slice none 0 0):=(qK BK513.out 0).trans rfl;have hfz117_0:=qJ BK513.out 0))
  have n0_ : qA (Kd.N k51 51 (w113.setCell ⟨gb513,0,none⟩ (.slice Ao114 t510.length co114)) w.heap.size (fun k_=>some k_≠(.slice Ao114 t510.length co114 : Value).ownBlock∧k_≠g500∧k_≠gb505∧k_≠gb513) (.slice Ao106 t501.length co106) t501):=⟨by (with_reducible repeat (first|apply Kd.qV|apply Kd.qU|apply Kd.zA));exact Kd.jS (Kd.uV (p:=⟨gb513,0,none⟩) (Kd.jS HO503.out (fun k_ hk=>(⟨hk,hk.2⟩ : _∧k_≠gb513))) (fun _ hk=>hk.2) (.slice Ao114 t510.length co114)) (fun _ hk=>⟨hk.1.1.2,⟨hk.1.1.1.1,⟨hk.1.1.1.2,hk.1.2⟩⟩⟩)⟩
  have n1_ : qA (Kd.N k51 51 (w113.setCell ⟨gb513,0,none⟩ (.slice Ao114 t510.length co114)) w.heap.size (fun k_=>k_≠gb505∧k_≠g500∧k_≠gb513) (.slice Ao114 t510.length co114) t510):=⟨by (with_reducible repeat (first|apply Kd.qV|apply Kd.qU|apply Kd.zA));exact Kd.jS (Kd.uV (p:=⟨gb513,0,none⟩) (Kd.jS HO512.out (fun k_ hk=>(⟨hk,hk.2⟩ : _∧k_≠gb513))) (fun _ hk=>hk.2) (.slice Ao114 t510.length co114)) (fun _ hk=>⟨hk.1.1.1,⟨hk.1.1.2,hk.1.2⟩⟩)⟩
  have n2_ : qA ((w113.setCell ⟨gb513,0,none⟩ (.slice Ao114 t510.length co114)).heap[gb505]? = some (.cells #[.slice Ao106 t501.length co106] 25 (0,0))):=⟨by (with_reducible repeat (first|refine qF ?_ _|refine qI ?_|refine qE ?_ _));refine zU ?_ NB505_513.out _;(with_reducible repeat (first|refine qF ?_ _|refine qI ?_|refine qE ?_ _));exact BK505.out⟩
  have n3_ : qA ((w113.setCell ⟨gb513,0,none⟩ (.slice Ao114 t510.length co114)).heap[gb513]? = some (.cells #[.slice Ao114 t510.length co114] 25 (0,0))):=⟨by (with_reducible repeat (first|refine qF ?_ _|refine qI ?_|refine qE ?_ _));refine zV (cs:=#[.slice none 0 0]) ?_ 0 _ rfl;(with_reducible repeat (first|refine qF ?_ _|refine qI ?_|refine qE ?_ _));exact BK513.out⟩
  have n4_ : qA (qC w (w113.setCell ⟨gb513,0,none⟩ (.slice Ao114 t510.length co114)) g500 t498 t509):=⟨by repeat (first|(with_reducible first|exact HI500.out|apply qC.alloc|apply qC.drewN|apply qC.drew|apply qC.zM|refine qC.far ?_ NB500_505.out _|refine qC.far ?_ NB500_513.out _)|exact HI500.out)⟩
  have n5_ : qA (Below w.heap.size w (w113.setCell ⟨gb513,0,none⟩ (.slice Ao114 t510.length co114))):=⟨by repeat (first|(with_reducible first|exact HB.out|apply qH|apply qB|apply qG|refine qD ?_ (qC.ge HI500.out)|refine qD ?_ GE505.out|refine qD ?_ GE513.out)|exact HB.out)⟩
  (try clear HO503)
  (try clear HO512)
  (try clear BK505)
  (try clear BK513)
  (try clear HI500)
  (try clear HB)
  generalize (w113.setCell ⟨gb513,0,none⟩ (.slice Ao114 t510.length co114)) = w118 at n0_ n1_ n2_ n3_ n4_ n5_ ⊢
  have HO503:=n0_
  have HO512:=n1_
  have BK505:=n2_
  have BK513:=n3_
  have HI500:=n4_
  have HB:=n5_
  clear n0_ n1_ n2_ n3_ n4_ n5_
  have n0_:=qA.mk (Kd.zA HO503.out)
  have n1_:=qA.mk (Kd.zA HO512.out)
  have n2_:=qA.mk (qI BK505.out)
  have n3_:=qA.mk (qI BK513.out)
  have n4_:=qA.mk (qC.drew HI500.out)
  have n5_:=qA.mk (qG HB.out)
  clear HO503
  clear HO512
  clear BK505
  clear BK513
  clear HI500
  clear HB
  have HO503:=n0_
  have HO512:=n1_
  have BK505:=n2_
  have BK513:=n3_
  have HI500:=n4_
  have HB:=n5_
  clear n0_ n1_ n2_ n3_ n4_ n5_
  refine start_ (n:=29) (S:=fun w'=>w'.cell? ⟨gb513,0,none⟩ = some (.slice Ao114 t510.length co114)∧w'.cell? ⟨gb505,0,none⟩ = some (.slice Ao106 t501.length co106)) (ds:=[]) #[false,false,false,false,false,false,false,false,false,false,false,false,false,false,false,false,false,false,false,false,false,false,false,false,false,false,false,false,false] (by kernel_rfl) rfl rfl ⟨(qK BK513.out 0).trans rfl,(qK BK505.out 0).trans rfl⟩ (fun hHeld=>?_);refine kK trustquorumlaw09_ClosureRestricts.tab5 trustquorumlaw09_ClosureRestricts.bits5 (fun HT_ HW_=>?_)
  generalize w118.drew = w119 at HO503 HO512 BK505 BK513 HI500 HB hHeld ⊢
  refine jQ (i:=1) (N:=some 20) (v:=?_) (a':=?_) #[false,true,false,false,false,false,false,false,false,false,false,false,false,false,false,false,false,false,false,false,false,false,false,false,false,false,false,false,false] rfl rfl (zX HT_.out (by kernel_rfl)) (fun _ _ _ h=>h) (Or.inl ⟨by rfl,?_⟩) ?_ ?_
  rotate_left
  ·intro w'
   go_simp
   with_reducible rfl
  rotate_left
  ·simp only [Act.put,List.setIfInBounds_toArray,List.set_cons_zero,List.set_cons_succ,zT,zW]
   rfl
  refine jQ (i:=4) (N:=some 23) (v:=?_) (a':=?_) #[false,true,false,false,true,false,false,false,false,false,false,false,false,false,false,false,false,false,false,false,false,false,false,false,false,false,false,false,false] rfl rfl (zX HT_.out (by kernel_rfl)) (fun _ _ _ h=>h) (Or.inl ⟨by rfl,?_⟩) ?_ ?_
  rotate_left
  ·intro w'
   go_simp
   with_reducible rfl
  rotate_left
  ·simp only [Act.put,List.setIfInBounds_toArray,List.set_cons_zero,List.set_cons_succ,zT,zW]
   rfl
  refine jQ (i:=5) (N:=some 24) (v:=?_) (a':=?_) #[false,true,false,false,true,true,false,false,false,false,false,false,false,false,false,false,false,false,false,false,false,false,false,false,false,false,false,false,false] rfl rfl (zX HT_.out (by kernel_rfl)) (fun _ _ _ h=>h) (Or.inl ⟨by rfl,?_⟩) ?_ ?_
  rotate_left
  ·intro w'
   go_simp
   with_reducible rfl
  rotate_left
  ·simp only [Act.put,List.setIfInBounds_toArray,List.set_cons_zero,List.set_cons_succ,zT,zW]
   rfl
  refine jQ (i:=6) (N:=some 25) (v:=?_) (a':=?_) #[false,true,false,false,true,true,true,false,false,false,false,false,false,false,false,false,false,false,false,false,false,false,false,false,false,false,false,false,false] rfl rfl (zX HT_.out (by kernel_rfl)) (fun _ _ _ h=>h) (Or.inl ⟨by rfl,?_⟩) ?_ ?_
  rotate_left
  ·intro w'
   go_simp
   with_reducible rfl
  rotate_left
  ·simp only [Act.put,List.setIfInBounds_toArray,List.set_cons_zero,List.set_cons_succ,zT,zW]
   rfl
  refine uQ (i:=0) (N:=some 19) (v:=?_) (a':=?_) #[true,true,false,false,true,true,true,false,false,false,false,false,false,false,false,false,false,false,false,false,false,false,false,false,false,false,false,false,false] rfl rfl (vV HT_.out HW_.out (by kernel_rfl)) (fun _ _ _ h=>h) (Or.inl ⟨by rfl,?_⟩) hHeld ?_ ?_
  rotate_left
  ·rintro w' ⟨s0,s1⟩
   go_simp
   with_reducible rfl
  rotate_left
  ·simp only [Act.put,List.setIfInBounds_toArray,List.set_cons_zero,List.set_cons_succ,zT,zW]
   rfl
  refine uQ (i:=3) (N:=some 22) (v:=?_) (a':=?_) #[true,true,false,true,true,true,true,false,false,false,false,false,false,false,false,false,false,false,false,false,false,false,false,false,false,false,false,false,false] rfl rfl (vV HT_.out HW_.out (by kernel_rfl)) (fun _ _ _ h=>h) (Or.inl ⟨by rfl,?_⟩) hHeld ?_ ?_
  rotate_left
  ·rintro w' ⟨s0,s1⟩
   go_simp
   with_reducible rfl
  rotate_left
  ·simp only [Act.put,List.setIfInBounds_toArray,List.set_cons_zero,List.set_cons_succ,zT,zW]
   rfl
  refine one_ (i:=2) (N:=some 21) #[true,true,true,true,true,true,true,false,false,false,false,false,false,false,false,false,false,false,false,false,false,false,false,false,false,false,false,false,false] rfl rfl (uA HT_.out (by kernel_rfl)) (by decide) (fun K hK=>?_)
  refine kI Try.func17 (by kernel_rfl) rfl #[.agg #[.slice Ao114 t510.length co114],.int .i64 t508] (by rfl) rfl rfl (by (try simp only [List.map_toArray,List.map_cons,List.map_nil]);first|done|rfl|(simp only [List.length_drop,List.length_take];rfl)|(simp only [List.length_nil,Int.natCast_zero,Int.zero_add,Int.ofNat_zero];rfl)) ?_
  with_reducible refine (zL.calls k _ _ t510 t508 t514 _ ?side1 ?side2 A7.out).mono ?_
  (case side1=>repeat (first|exact (Kd.jD HO512.out).2.2|(with_reducible refine Kd.jK ?_ _)|(with_reducible refine Kd.jJ ?_ _)|(with_reducible refine Kd.jV ?_)))
  (case side2=>exact (Kd.jD HO512.out).2.1)
  rintro e w120 ⟨rfl,hb⟩
  refine ⟨_,rfl,?_⟩
  have n0_:=qA.mk (Kd.jA (by (with_reducible repeat (first|apply Kd.qV|apply Kd.qU|apply Kd.zA));exact HO503.out) hb)
  have n1_:=qA.mk (Kd.jA (by (with_reducible repeat (first|apply Kd.qV|apply Kd.qU|apply Kd.zA));exact HO512.out) hb)
  have n2_:=qA.mk (qC.below (by repeat (first|(with_reducible first|exact HI500.out|apply qC.alloc|apply qC.drewN|apply qC.drew|apply qC.zM|refine qC.far ?_ NB500_505.out _|refine qC.far ?_ NB500_513.out _)|exact HI500.out)) hb)
  have n3_:=qA.mk (zD (g:=gb505) (o:=.cells #[.slice Ao106 t501.length co106] 25 (0,0)) (by (with_reducible repeat (first|refine qF ?_ _|refine qI ?_|refine qE ?_ _));exact BK505.out) hb)
  have n4_:=qA.mk (zD (g:=gb513) (o:=.cells #[.slice Ao114 t510.length co114] 25 (0,0)) (by (with_reducible repeat (first|refine qF ?_ _|refine qI ?_|refine qE ?_ _));exact BK513.out) hb)
  have n5_:=qA.mk (qN (by repeat (first|(with_reducible first|exact HB.out|apply qH|apply qB|apply qG|refine qD ?_ (qC.ge HI500.out)|refine qD ?_ GE505.out|refine qD ?_ GE513.out)|exact HB.out)) hb)
  clear HO503
  clear HO512
  clear HI500
  clear BK505
  clear BK513
  clear HB
  have HO503:=n0_
  have HO512:=n1_
  have HI500:=n2_
  have BK505:=n3_
  have BK513:=n4_
  have HB:=n5_
  clear n0_ n1_ n2_ n3_ n4_ n5_
  (try clear hb)
  (try clear hb2)
  (try clear hk)
  (try clear hi)
  refine hK.out _ _ ⟨(qK BK513.out 0).trans rfl,(qK BK505.out 0).trans rfl⟩ (fun hHeld=>?_)
  clear hK K
  refine uU (a':=?_) ?_ ?_
  rotate_left
  ·show Act.put _ (some 21) _ = _
   simp only [Act.put,List.setIfInBounds_toArray,List.set_cons_zero,List.set_cons_succ,zT,zW]
   rfl
  refine one_ (i:=7) (N:=some 26) #[true,true,true,true,true,true,true,true,false,false,false,false,false,false,false,false,false,false,false,false,false,false,false,false,false,false,false,false,false] rfl rfl (uA HT_.out (by kernel_rfl)) (by decide) (fun K hK=>?_)
  refine kI Try.func17 (by kernel_rfl) rfl #[.agg #[.slice Ao106 t501.length co106],.int .i64 (Go.bits .and .i64 t506 t508)] (by rfl) rfl rfl (by (try simp only [List.map_toArray,List.map_cons,List.map_nil]);first|done|rfl|(simp only [List.length_drop,List.length_take];rfl)|(simp only [List.length_nil,Int.natCast_zero,Int.zero_add,Int.ofNat_zero];rfl)) ?_
  with_reducible refine (zL.calls k _ _ t501 (Go.bits .and .i64 t506 t508) t515 _ ?side1 ?side2 A8.out).mono ?_
  (case side1=>repeat (first|exact (Kd.jD HO503.out).2.2|(with_reducible refine Kd.jK ?_ _)|(with_reducible refine Kd.jJ ?_ _)|(with_reducible refine Kd.jV ?_)))
  (case side2=>exact (Kd.jD HO503.out).2.1)
  rintro e w121 ⟨rfl,hb⟩
  refine ⟨_,rfl,?_⟩
  have n0_:=qA.mk (Kd.jA (by (with_reducible repeat (first|apply Kd.qV|apply Kd.qU|apply Kd.zA));exact HO503.out) hb)
  have n1_:=qA.mk (Kd.jA (by (with_reducible repeat (first|apply Kd.qV|apply Kd.qU|apply Kd.zA));exact HO512.out) hb)
  have n2_:=qA.mk (qC.below (by repeat (first|(with_reducible first|exact HI500.out|apply qC.alloc|apply qC.drewN|apply qC.drew|apply qC.zM|refine qC.far ?_ NB500_505.out _|refine qC.far ?_ NB500_513.out _)|exact HI500.out)) hb)
  have n3_:=qA.mk (zD (g:=gb505) (o:=.cells #[.slice Ao106 t501.length co106] 25 (0,0)) (by (with_reducible repeat (first|refine qF ?_ _|refine qI ?_|refine qE ?_ _));exact BK505.out) hb)
  have n4_:=qA.mk (zD (g:=gb513) (o:=.cells #[.slice Ao114 t510.length co114] 25 (0,0)) (by (with_reducible repeat (first|refine qF ?_ _|refine qI ?_|refine qE ?_ _));exact BK513.out) hb)
  have n5_:=qA.mk (qN (by repeat (first|(with_reducible first|exact HB.out|apply qH|apply qB|apply qG|refine qD ?_ (qC.ge HI500.out)|refine qD ?_ GE505.out|refine qD ?_ GE513.out)|exact HB.out)) hb)
  clear HO503
  clear HO512
  clear HI500
  clear BK505
  clear BK513
  clear HB
  have HO503:=n0_
  have HO512:=n1_
  have HI500:=n2_
  have BK505:=n3_
  have BK513:=n4_
  have HB:=n5_
  clear n0_ n1_ n2_ n3_ n4_ n5_
  (try clear hb)
  (try clear hb2)
  (try clear hk)
  (try clear hi)
  refine hK.out _ _ ⟨(qK BK513.out 0).trans rfl,(qK BK505.out 0).trans rfl⟩ (fun hHeld=>?_)
  clear hK K
  refine uU (a':=?_) ?_ ?_
  rotate_left
  ·show Act.put _ (some 26) _ = _
   simp only [Act.put,List.setIfInBounds_toArray,List.set_cons_zero,List.set_cons_succ,zT,zW]
   rfl
  refine jQ (i:=8) (N:=some 27) (v:=?_) (a':=?_) #[true,true,true,true,true,true,true,true,true,false,false,false,false,false,false,false,false,false,false,false,false,false,false,false,false,false,false,false,false] rfl rfl (zX HT_.out (by kernel_rfl)) (fun _ _ _ h=>h) (Or.inl ⟨by rfl,?_⟩) ?_ ?_
  rotate_left
  ·intro w'
   go_simp
   with_reducible rfl
  rotate_left
  ·simp only [Act.put,List.setIfInBounds_toArray,List.set_cons_zero,List.set_cons_succ,zT,zW]
   rfl
  refine jQ (i:=9) (N:=some 28) (v:=?_) (a':=?_) #[true,true,true,true,true,true,true,true,true,true,false,false,false,false,false,false,false,false,false,false,false,false,false,false,false,false,false,false,false] rfl rfl (zX HT_.out (by kernel_rfl)) (fun _ _ _ h=>h) (Or.inl ⟨by rfl,?_⟩) ?_ ?_
  rotate_left
  ·intro w'
   go_simp
   with_reducible rfl
  rotate_left
  ·simp only [Act.put,List.setIfInBounds_toArray,List.set_cons_zero,List.set_cons_succ,zT,zW]
   rfl
  refine jQ (i:=10) (N:=some 29) (v:=undef) (a':=?_) #[true,true,true,true,true,true,true,true,true,true,true,false,false,false,false,false,false,false,false,false,false,false,false,false,false,false,false,false,false] rfl rfl (zX HT_.out (by kernel_rfl)) (fun _ _ _ h=>h) (Or.inr ⟨by rfl,rfl⟩) ?_ ?_
  rotate_left
  ·simp only [Act.put,List.setIfInBounds_toArray,List.set_cons_zero,List.set_cons_succ,zT,zW]
   rfl
  refine jQ (i:=11) (N:=some 30) (v:=undef) (a':=?_) #[true,true,true,true,true,true,true,true,true,true,true,true,false,false,false,false,false,false,false,false,false,false,false,false,false,false,false,false,false] rfl rfl (zX HT_.out (by kernel_rfl)) (fun _ _ _ h=>h) (Or.inr ⟨by rfl,rfl⟩) ?_ ?_
  rotate_left
  ·simp only [Act.put,List.setIfInBounds_toArray,List.set_cons_zero,List.set_cons_succ,zT,zW]
   rfl
  refine jQ (i:=12) (N:=some 31) (v:=undef) (a':=?_) #[true,true,true,true,true,true,true,true,true,true,true,true,true,false,false,false,false,false,false,false,false,false,false,false,false,false,false,false,false] rfl rfl (zX HT_.out (by kernel_rfl)) (fun _ _ _ h=>h) (Or.inr ⟨by rfl,rfl⟩) ?_ ?_
  rotate_left
  ·simp only [Act.put,List.setIfInBounds_toArray,List.set_cons_zero,List.set_cons_succ,zT,zW]
   rfl
  refine jQ (i:=13) (N:=some 32) (v:=undef) (a':=?_) #[true,true,true,true,true,true,true,true,true,true,true,true,true,true,false,false,false,false,false,false,false,false,false,false,false,false,false,false,false] rfl rfl (zX HT_.out (by kernel_rfl)) (fun _ _ _ h=>h) (Or.inr ⟨by rfl,rfl⟩) ?_ ?_
  rotate_left
  ·simp only [Act.put,List.setIfInBounds_toArray,List.set_cons_zero,List.set_cons_succ,zT,zW]
   rfl
  refine jQ (i:=14) (N:=some 33) (v:=undef) (a':=?_) #[true,true,true,true,true,true,true,true,true,true,true,true,true,true,true,false,false,false,false,false,false,false,false,false,false,false,false,false,false] rfl rfl (zX HT_.out (by kernel_rfl)) (fun _ _ _ h=>h) (Or.inr ⟨by rfl,rfl⟩) ?_ ?_
  rotate_left
  ·simp only [Act.put,List.setIfInBounds_toArray,List.set_cons_zero,List.set_cons_succ,zT,zW]
   rfl
  refine jQ (i:=15) (N:=some 34) (v:=undef) (a':=?_) #[true,true,true,true,true,true,true,true,true,true,true,true,true,true,true,true,false,false,false,false,false,false,false,false,false,false,false,false,false] rfl rfl (zX HT_.out (by kernel_rfl)) (fun _ _ _ h=>h) (Or.inr ⟨by rfl,rfl⟩) ?_ ?_
  rotate_left
  ·simp only [Act.put,List.setIfInBounds_toArray,List.set_cons_zero,List.set_cons_succ,zT,zW]
   rfl
  refine jQ (i:=16) (N:=some 35) (v:=undef) (a':=?_) #[true,true,true,true,true,true,true,true,true,true,true,true,true,true,true,true,true,false,false,false,false,false,false,false,false,false,false,false,false] rfl rfl (zX HT_.out (by kernel_rfl)) (fun _ _ _ h=>h) (Or.inr ⟨by rfl,rfl⟩) ?_ ?_
  rotate_left
  ·simp only [Act.put,List.setIfInBounds_toArray,List.set_cons_zero,List.set_cons_succ,zT,zW]
   rfl
  refine jQ (i:=17) (N:=some 36) (v:=undef) (a':=?_) #[true,true,true,true,true,true,true,true,true,true,true,true,true,true,true,true,true,true,false,false,false,false,false,false,false,false,false,false,false] rfl rfl (zX HT_.out (by kernel_rfl)) (fun _ _ _ h=>h) (Or.inr ⟨by rfl,rfl⟩) ?_ ?_
  rotate_left
  ·simp only [Act.put,List.setIfInBounds_toArray,List.set_cons_zero,List.set_cons_succ,zT,zW]
   rfl
  refine jQ (i:=18) (N:=some 37) (v:=undef) (a':=?_) #[true,true,true,true,true,true,true,true,true,true,true,true,true,true,true,true,true,true,true,false,false,false,false,false,false,false,false,false,false] rfl rfl (zX HT_.out (by kernel_rfl)) (fun _ _ _ h=>h) (Or.inr ⟨by rfl,rfl⟩) ?_ ?_
  rotate_left
  ·simp only [Act.put,List.setIfInBounds_toArray,List.set_cons_zero,List.set_cons_succ,zT,zW]
   rfl
  refine jQ (i:=19) (N:=some 38) (v:=undef) (a':=?_) #[true,true,true,true,true,true,true,true,true,true,true,true,true,true,true,true,true,true,true,true,false,false,false,false,false,false,false,false,false] rfl rfl (zX HT_.out (by kernel_rfl)) (fun _ _ _ h=>h) (Or.inr ⟨by rfl,rfl⟩) ?_ ?_
  rotate_left
  ·simp only [Act.put,List.setIfInBounds_toArray,List.set_cons_zero,List.set_cons_succ,zT,zW]
   rfl
  refine jQ (i:=20) (N:=some 39) (v:=undef) (a':=?_) #[true,true,true,true,true,true,true,true,true,true,true,true,true,true,true,true,true,true,true,true,true,false,false,false,false,false,false,false,false] rfl rfl (zX HT_.out (by kernel_rfl)) (fun _ _ _ h=>h) (Or.inr ⟨by rfl,rfl⟩) ?_ ?_
  rotate_left
  ·simp only [Act.put,List.setIfInBounds_toArray,List.set_cons_zero,List.set_cons_succ,zT,zW]
   rfl
  refine jQ (i:=21) (N:=some 40) (v:=undef) (a':=?_) #[true,true,true,true,true,true,true,true,true,true,true,true,true,true,true,true,true,true,true,true,true,true,false,false,false,false,false,false,false] rfl rfl (zX HT_.out (by kernel_rfl)) (fun _ _ _ h=>h) (Or.inr ⟨by rfl,rfl⟩) ?_ ?_
  rotate_left
  ·simp only [Act.put,List.setIfInBounds_toArray,List.set_cons_zero,List.set_cons_succ,zT,zW]
   rfl
  refine jQ (i:=22) (N:=some 41) (v:=undef) (a':=?_) #[true,true,true,true,true,true,true,true,true,true,true,true,true,true,true,true,true,true,true,true,true,true,true,false,false,false,false,false,false] rfl rfl (zX HT_.out (by kernel_rfl)) (fun _ _ _ h=>h) (Or.inr ⟨by rfl,rfl⟩) ?_ ?_
  rotate_left
  ·simp only [Act.put,List.setIfInBounds_toArray,List.set_cons_zero,List.set_cons_succ,zT,zW]
   rfl
  refine jQ (i:=23) (N:=some 42) (v:=undef) (a':=?_) #[true,true,true,true,true,true,true,true,true,true,true,true,true,true,true,true,true,true,true,true,true,true,true,true,false,false,false,false,false] rfl rfl (zX HT_.out (by kernel_rfl)) (fun _ _ _ h=>h) (Or.inr ⟨by rfl,rfl⟩) ?_ ?_
  rotate_left
  ·simp only [Act.put,List.setIfInBounds_toArray,List.set_cons_zero,List.set_cons_succ,zT,zW]
   rfl
  refine jQ (i:=24) (N:=some 43) (v:=?_) (a':=?_) #[true,true,true,true,true,true,true,true,true,true,true,true,true,true,true,true,true,true,true,true,true,true,true,true,true,false,false,false,false] rfl rfl (zX HT_.out (by kernel_rfl)) (fun _ _ _ h=>h) (Or.inl ⟨by rfl,?_⟩) ?_ ?_
  rotate_left
  ·intro w'
   go_simp
   with_reducible rfl
  rotate_left
  ·simp only [Act.put,List.setIfInBounds_toArray,List.set_cons_zero,List.set_cons_succ,zT,zW]
   rfl
  refine jQ (i:=25) (N:=some 44) (v:=?_) (a':=?_) #[true,true,true,true,true,true,true,true,true,true,true,true,true,true,true,true,true,true,true,true,true,true,true,true,true,true,false,false,false] rfl rfl (zX HT_.out (by kernel_rfl)) (fun _ _ _ h=>h) (Or.inl ⟨by rfl,?_⟩) ?_ ?_
  rotate_left
  ·intro w'
   go_simp
   with_reducible rfl
  rotate_left
  ·simp only [Act.put,List.setIfInBounds_toArray,List.set_cons_zero,List.set_cons_succ,zT,zW]
   rfl
  refine jQ (i:=26) (N:=some 45) (v:=undef) (a':=?_) #[true,true,true,true,true,true,true,true,true,true,true,true,true,true,true,true,true,true,true,true,true,true,true,true,true,true,true,false,false] rfl rfl (zX HT_.out (by kernel_rfl)) (fun _ _ _ h=>h) (Or.inr ⟨by rfl,rfl⟩) ?_ ?_
  rotate_left
  ·simp only [Act.put,List.setIfInBounds_toArray,List.set_cons_zero,List.set_cons_succ,zT,zW]
   rfl
  refine jQ (i:=27) (N:=some 46) (v:=?_) (a':=?_) #[true,true,true,true,true,true,true,true,true,true,true,true,true,true,true,true,true,true,true,true,true,true,true,true,true,true,true,true,false] rfl rfl (zX HT_.out (by kernel_rfl)) (fun _ _ _ h=>h) (Or.inl ⟨by rfl,?_⟩) ?_ ?_
  rotate_left
  ·intro w'
   go_simp
   with_reducible rfl
  rotate_left
  ·simp only [Act.put,List.setIfInBounds_toArray,List.set_cons_zero,List.set_cons_succ,zT,zW]
   rfl
  refine jQ (i:=28) (N:=some 2) (v:=?_) (a':=?_) #[true,true,true,true,true,true,true,true,true,true,true,true,true,true,true,true,true,true,true,true,true,true,true,true,true,true,true,true,true] rfl rfl (zX HT_.out (by kernel_rfl)) (fun _ _ _ h=>h) (Or.inl ⟨by rfl,?_⟩) ?_ ?_
  rotate_left
  ·intro w'
   go_simp
   with_reducible rfl
  rotate_left
  ·simp only [Act.put,List.setIfInBounds_toArray,List.set_cons_zero,List.set_cons_succ,zT,zW]
   rfl
  refine done_ (done_of HT_.out (by kernel_rfl)) ?_
  try go_wp2
  go_ret
  exact ⟨by first|rfl|(simp [zK,zJ]<;>rfl)|(simp [*,zK,zJ]<;>rfl),by repeat (first|(with_reducible first|exact HB.out|apply qH|apply qB|apply qG|refine qD ?_ (qC.ge HI500.out)|refine qD ?_ GE505.out|refine qD ?_ GE513.out)|exact HB.out)⟩
def trustquorumlaw09_ClosureRestricts.Pure : Prop:=∀ (l0 : List Int),l0.length ≤ maxLen→l0.length * 8 ≤ 140737488351232→(∀ x ∈ l0,(Lit.int .i64 x).wf = true)→∃ k,trustquorumlaw09_ClosureRestricts.f k l0 = some true
theorem trustquorumlaw09_ClosureRestricts.walk (P : trustquorumlaw09_ClosureRestricts.Pure) (a0 : Option Addr) (len0 cap0 : Nat) (z0 : List Int) (w : World) (w0 : (a0 = none∧len0 = 0∧cap0 = 0∧z0 = [])∨∃ x,a0 = some x∧len0 ≤ cap0∧cap0 ≤ maxLen∧z0.length = cap0∧(∀ i,i < z0.length→w.cell? (x.add i) = some (.int .i64 (z0.getD i 0)))∧∀ n ∈ z0,(Lit.int .i64 n).wf = true) (y0 : len0 * 8 ≤ 140737488351232) :
  Calls Try.prog 7 #[.slice a0 len0 cap0] w fun e w'=>e = .returned (.bool true)∧Below w.heap.size w w':=by
 obtain ⟨l0,rfl,hr0,hm0,hw0,hc0⟩:=vX.ofRowC w0
 obtain ⟨k,h⟩:=P l0 hm0 y0 hw0
 refine (trustquorumlaw09_ClosureRestricts.calls k _ _ l0 true w (Kd.C_of_reads (d:=(0 : Int)) (h1:=fun _=>rfl) hr0) hc0 h).mono ?_
 rintro e w' ⟨rfl,hd⟩
 exact ⟨rfl,hd⟩
end Go.Proofs.Ytoofabolcbbjnaa.P
