/- Functions of the program as Lean functions, and the walks that show that the calls answer so; written by a program of this session (a changed print) and by hand. -/
import Derived.Test.YtkkbdimegpdbgaaQdPx0
import Derived.Test.YtkkbdimegpdbgaaQdPx5
import Derived.Test.YtkkbdimegpdbgaaQdPx10
import Derived.Test.YtkkbdimegpdbgaaQdPx11
import Derived.Test.YtkkbdimegpdbgaaQdPx16
import Derived.Test.YtkkbdimegpdbgaaQdPx17
namespace Go.Proofs.Ytkkbdimegpdbgaa.P
open Go.RowKit Go.Proofs.YtkkbdimegpdbgaaW.PrintWords Go.Proofs.YtkkbdimegpdbgaaW.PrintLast Go.Proofs.YtkkbdimegpdbgaaW.PrintMore
attribute [local go_sem] uH uI uQ uR vW vV uF uG
set_option linter.unusedVariables false
set_option linter.unusedSimpArgs false
mutual
def trustquorumlaw12_IntersectionDecides.j0 : Nat→Bool→Int→Int→Bool→List (S58)→Option (Bool)
 | 0,_,_,_,_,_=>none
 | k + 1,x5,x7,x8,x42,x521000=>if x42 = true then (some false) else (if x5 = true then (trustquorumlaw12_IntersectionDecides.j1 k x5 false x521000) else (if (Go.bits .and .i64 x7 x8) = 0 then ((qM.f k x521000 x7).bind fun t526=>(if t526 = true then ((qM.f k x521000 x8).bind fun t527=>(trustquorumlaw12_IntersectionDecides.j1 k x5 (!t527) x521000)) else (trustquorumlaw12_IntersectionDecides.j1 k x5 true x521000))) else (trustquorumlaw12_IntersectionDecides.j1 k x5 true x521000)))
def trustquorumlaw12_IntersectionDecides.j1 : Nat→Bool→Bool→List (S58)→Option (Bool)
 | 0,_,_,_=>none
 | k + 1,x5,x62,x521000=>if x62 = true then (some false) else (trustquorumlaw12_IntersectionDecides.l0 k x5 0 x521000)
def trustquorumlaw12_IntersectionDecides.l0 : Nat→Bool→Int→List (S58)→Option (Bool)
 | 0,_,_,_=>none
 | k + 1,x5,x10,x521000=>if x10 < (shl .i64 1 (x521000.length : Int)) then (trustquorumlaw12_IntersectionDecides.l1 k x5 x10 0 x521000) else ((zQ.f k).bind fun t528=>(some t528))
def trustquorumlaw12_IntersectionDecides.l1 : Nat→Bool→Int→Int→List (S58)→Option (Bool)
 | 0,_,_,_,_=>none
 | k + 1,x5,x10,x11,x521000=>if x11 < x10 then (if x5 = true then (if (Go.bits .and .i64 x10 x11) = 0 then ((qM.f k x521000 x10).bind fun t529=>(if t529 = true then ((qM.f k x521000 x11).bind fun t530=>(if t530 = true then (some false) else (trustquorumlaw12_IntersectionDecides.l1 k x5 x10 (wrap64 (x11 + 1)) x521000))) else (trustquorumlaw12_IntersectionDecides.l1 k x5 x10 (wrap64 (x11 + 1)) x521000))) else (trustquorumlaw12_IntersectionDecides.l1 k x5 x10 (wrap64 (x11 + 1)) x521000)) else (trustquorumlaw12_IntersectionDecides.l1 k x5 x10 (wrap64 (x11 + 1)) x521000)) else (trustquorumlaw12_IntersectionDecides.l0 k x5 (wrap64 (x10 + 1)) x521000)
end
def trustquorumlaw12_IntersectionDecides.f (k : Nat) (l0 : List Int) : Option (Bool):=(vY.f l0).bind fun bt513=>((qZ.f k bt513.1 bt513.2 6).bind fun bt516=>((jG.f k bt516.1).bind fun bt521=>((intersection_Disjoint.f k bt516.1).bind fun bt523=>(if bt521.2 = 0 then (if ((bt523.2.2 == 11) != bt521.1) = true then (trustquorumlaw12_IntersectionDecides.j0 k bt521.1 bt523.1 bt523.2.1 true bt516.1) else (if bt523.2.2 = 0 then (trustquorumlaw12_IntersectionDecides.j0 k bt521.1 bt523.1 bt523.2.1 false bt516.1) else (trustquorumlaw12_IntersectionDecides.j0 k bt521.1 bt523.1 bt523.2.1 (bt523.2.2 != 11) bt516.1))) else (trustquorumlaw12_IntersectionDecides.j0 k bt521.1 bt523.1 bt523.2.1 true bt516.1)))))
set_option maxHeartbeats 8000000 in
set_option maxRecDepth 100000 in
theorem trustquorumlaw12_IntersectionDecides.calls (k : Nat) (A0 : Option Addr) (c0 : Nat) (l0 : List Int) (r : Bool) (w : World) (hr0 : Kd.C (Kd.int .i64) w A0 l0.length l0) (hc0 : l0.length ≤ c0) (hr_ : qA (r = true)) (h : trustquorumlaw12_IntersectionDecides.f k l0 = some r) :
  Calls Try.prog 4 #[.slice A0 l0.length c0] w fun e w'=>e = .returned (.bool r)∧Below w.heap.size w w':=by
 have hu25:=Try.underlying25
 have HR0:=qA.mk hr0
 have HC0:=qA.mk hc0
 clear hr0 hc0
 have HB:=qA.mk (Below.refl w.heap.size w)
 have H : ((vY.f l0).bind fun bt513=>((qZ.f k bt513.1 bt513.2 6).bind fun bt516=>((jG.f k bt516.1).bind fun bt521=>((intersection_Disjoint.f k bt516.1).bind fun bt523=>(if bt521.2 = 0 then (if ((bt523.2.2 == 11) != bt521.1) = true then (trustquorumlaw12_IntersectionDecides.j0 k bt521.1 bt523.1 bt523.2.1 true bt516.1) else (if bt523.2.2 = 0 then (trustquorumlaw12_IntersectionDecides.j0 k bt521.1 bt523.1 bt523.2.1 false bt516.1) else (trustquorumlaw12_IntersectionDecides.j0 k bt521.1 bt523.1 bt523.2.1 (bt523.2.2 != 11) bt516.1))) else (trustquorumlaw12_IntersectionDecides.j0 k bt521.1 bt523.1 bt523.2.1 true bt516.1)))))) = some r:=h
 clear h
 replace H:=Option.bind_eq_some_iff.mp H
 obtain ⟨⟨t513,t514⟩,A20,H⟩:=H
 replace H : ((qZ.f k t513 t514 6).bind fun bt516=>((jG.f k bt516.1).bind fun bt521=>((intersection_Disjoint.f k bt516.1).bind fun bt523=>(if bt521.2 = 0 then (if ((bt523.2.2 == 11) != bt521.1) = true then (trustquorumlaw12_IntersectionDecides.j0 k bt521.1 bt523.1 bt523.2.1 true bt516.1) else (if bt523.2.2 = 0 then (trustquorumlaw12_IntersectionDecides.j0 k bt521.1 bt523.1 bt523.2.1 false bt516.1) else (trustquorumlaw12_IntersectionDecides.j0 k bt521.1 bt523.1 bt523.2.1 (bt523.2.2 != 11) bt516.1))) else (trustquorumlaw12_IntersectionDecides.j0 k bt521.1 bt523.1 bt523.2.1 true bt516.1))))) = some r:=H
 have A2:=qA.mk A20
 clear A20
 replace H:=Option.bind_eq_some_iff.mp H
 obtain ⟨⟨t516,t519⟩,A30,H⟩:=H
 replace H : ((jG.f k t516).bind fun bt521=>((intersection_Disjoint.f k t516).bind fun bt523=>(if bt521.2 = 0 then (if ((bt523.2.2 == 11) != bt521.1) = true then (trustquorumlaw12_IntersectionDecides.j0 k bt521.1 bt523.1 bt523.2.1 true t516) else (if bt523.2.2 = 0 then (trustquorumlaw12_IntersectionDecides.j0 k bt521.1 bt523.1 bt523.2.1 false t516) else (trustquorumlaw12_IntersectionDecides.j0 k bt521.1 bt523.1 bt523.2.1 (bt523.2.2 != 11) t516))) else (trustquorumlaw12_IntersectionDecides.j0 k bt521.1 bt523.1 bt523.2.1 true t516)))) = some r:=H
 have A3:=qA.mk A30
 clear A30
 replace H:=Option.bind_eq_some_iff.mp H
 obtain ⟨⟨t521,t522⟩,A40,H⟩:=H
 replace H : ((intersection_Disjoint.f k t516).bind fun bt523=>(if t522 = 0 then (if ((bt523.2.2 == 11) != t521) = true then (trustquorumlaw12_IntersectionDecides.j0 k t521 bt523.1 bt523.2.1 true t516) else (if bt523.2.2 = 0 then (trustquorumlaw12_IntersectionDecides.j0 k t521 bt523.1 bt523.2.1 false t516) else (trustquorumlaw12_IntersectionDecides.j0 k t521 bt523.1 bt523.2.1 (bt523.2.2 != 11) t516))) else (trustquorumlaw12_IntersectionDecides.j0 k t521 bt523.1 bt523.2.1 true t516))) = some r:=H
 have A4:=qA.mk A40
 clear A40
 replace H:=Option.bind_eq_some_iff.mp H
 obtain ⟨⟨t523,t524,t525⟩,A50,H⟩:=H
 replace H : (if t522 = 0 then (if ((t525 == 11) != t521) = true then (trustquorumlaw12_IntersectionDecides.j0 k t521 t523 t524 true t516) else (if t525 = 0 then (trustquorumlaw12_IntersectionDecides.j0 k t521 t523 t524 false t516) else (trustquorumlaw12_IntersectionDecides.j0 k t521 t523 t524 (t525 != 11) t516))) else (trustquorumlaw12_IntersectionDecides.j0 k t521 t523 t524 true t516)) = some r:=H
 have A5:=qA.mk A50
 clear A50
 have HC6:=qA.mk H
 clear H
 go_enter Try.func4,Try.ntmps4
 go_upto_region 5 with (first|((with_reducible refine qI (f:=11) rfl ?_);refine zL (some 13) rfl rfl Try.func11 (by kernel_rfl) rfl #[.slice A0 l0.length c0] rfl byah ?_;(with_reducible refine (vY.calls _ _ l0 t513 t514 w _ ?side1 ?side2 ?side3 A2.out).mono ?_);(case side1=>exact byab);(case side2=>exact HR0.out);(case side3=>exact HC0.out);rintro e w7 ⟨g515,rfl,hi,hb,hb2⟩;refine ⟨_,rfl,?_⟩;have n0_:=qA.mk (hb);have n1_:=qA.mk (hi);clear HB;have HB:=n0_;have HI515:=n1_;clear n0_ n1_;(try clear hb);(try clear hb2);(try clear hk);(try clear hi))|((with_reducible refine qI (f:=12) rfl ?_);refine zL (some 15) rfl rfl Try.func12 (by kernel_rfl) rfl #[.pointer (some ⟨g515,0,none⟩),.int .i64 6] rfl byah ?_;(with_reducible refine (qZ.calls k g515 t513 t514 6 t516 t519 w _ ?side1 ?side2 A3.out).mono ?_);(case side1=>exact bybf HI515.out);(case side2=>exact bybg HI515.out);rintro e w8 ⟨v517,rfl,ho0,hi,hb,hk⟩;refine ⟨_,rfl,?_⟩;have n0_:=qA.mk (Kd.vR ho0 (j3 (bybg HI515.out)));have n1_:=qA.mk (hb);have n2_:=qA.mk (hi);clear HB;clear HI515;have HO518:=n0_;have HB:=n1_;have HI515:=n2_;clear n0_ n1_ n2_;(try clear hb);(try clear hb2);(try clear hk);(try clear hi);(try clear ho0))|((with_reducible refine zK (N:=4) rfl ?_);refine q9 ?hg (N:=4) ?hd (cs:=#[.slice none 0 0]) (t:=25) ?hr ?_;(case hd=>rfl);(case hg=>rfl);(case hr=>exact byaa);intro gb520 hg w9 hbox hb;have n0_:=qA.mk (Kd.vI (byav HO518.out) hb);have n1_:=qA.mk (qD.below (bybf HI515.out) hb);have n2_:=qA.mk (qE (bybg HI515.out) hb);have n3_:=qA.mk (hbox);have n4_:=qA.mk ((by rw [hg];exact (j3 (bybg HI515.out)) : w.heap.size ≤ gb520));have n5_:=qA.mk ((by rw [hg];exact (j3 (bybg HI515.out)) : w.heap.size ≤ gb520));have n6_:=qA.mk ((by rw [hg];exact Nat.ne_of_lt (qD.lt (show qD w _ g515 t513 t519 from by repeat (first|(with_reducible first|exact HI515.out|apply qD.alloc|apply qD.drewN|apply qD.drew|apply qD.jR)|exact HI515.out))) : g515≠gb520));have n7_:=qA.mk ((by rw [hg];exact Nat.ne_of_gt (qD.lt (show qD w _ g515 t513 t519 from by repeat (first|(with_reducible first|exact HI515.out|apply qD.alloc|apply qD.drewN|apply qD.drew|apply qD.jR)|exact HI515.out))) : gb520≠g515));clear HO518;clear HI515;clear HB;have HO518:=n0_;have HI515:=n1_;have HB:=n2_;have BK520:=n3_;have GW520:=n4_;have GE520:=n5_;have NB515_520:=n6_;have NB520_515:=n7_;clear n0_ n1_ n2_ n3_ n4_ n5_ n6_ n7_;clear hb hbox hg;obtain ⟨Ao10,co10,eo10⟩:=Kd.jT HO518.out;subst eo10;have hnb11:=NB520_515.out;have hnc11:=NB515_520.out;have hcz12_0 : w9.cell? ⟨gb520,0,none⟩ = some (.slice none 0 0):=(qC BK520.out 0).trans rfl;have hfz12_0:=qB BK520.out 0)|((with_reducible refine qI (f:=14) rfl ?_);refine zL (some 18) rfl rfl Try.func14 (by kernel_rfl) rfl #[.agg #[.slice Ao10 t516.length co10]] rfl byah ?_;(with_reducible refine (jG.calls k _ _ t516 t521 t522 _ ?side1 ?side2 A4.out).mono ?_);(case side1=>refine (Kd.vX (e:=58) (base:=w.heap.size) (ok:=fun k_=>True) (n:=t516.length) (c:=co10) ?_).2.2;exact (by (with_reducible repeat (first|apply Kd.jI|apply Kd.jJ|apply Kd.jM));exact (Kd.zG (Kd.jD (p:=⟨gb520,0,none⟩) (Kd.jW HO518.out BK520.out (by decide)) (fun _ hk=>hk.2) (.slice Ao10 t516.length co10)) (fun _ h_=>h_.1))));(case side2=>exact bybp HO518.out);rintro e w13 ⟨rfl,hb⟩;refine ⟨_,rfl,?_⟩;have n0_:=qA.mk (Kd.vI (by (with_reducible repeat (first|apply Kd.jI|apply Kd.jJ|apply Kd.jM));exact (Kd.zG (Kd.jD (p:=⟨gb520,0,none⟩) (Kd.jW HO518.out BK520.out (by decide)) (fun _ hk=>hk.2) (.slice Ao10 t516.length co10)) (fun _ h_=>h_.1))) hb);have n1_:=qA.mk (qD.below (show qD w (w9.setCell ⟨gb520,0,none⟩ (.slice Ao10 t516.length co10)) g515 t513 t519 from by repeat (first|(with_reducible first|exact HI515.out|apply qD.alloc|apply qD.drewN|apply qD.drew|apply qD.jR|refine qD.far ?_ NB515_520.out _)|exact HI515.out)) hb);have n2_:=qA.mk (qH (g:=gb520) (o:=.cells #[.slice Ao10 t516.length co10] 25 (0,0)) (bybd BK520.out) hb);have n3_:=qA.mk (qE (bybk HI515.out GE520.out) hb);clear HO518;clear HI515;clear BK520;clear HB;have HO518:=n0_;have HI515:=n1_;have BK520:=n2_;have HB:=n3_;clear n0_ n1_ n2_ n3_;(try clear hb);(try clear hb2);(try clear hk);(try clear hi);have hcz14_0 : w13.cell? ⟨gb520,0,none⟩ = some (.slice Ao10 t516.length co10):=(qC BK520.out 0).trans rfl;have hfz14_0:=qB BK520.out 0)|((with_reducible refine qI (f:=16) rfl ?_);refine zL (some 23) rfl rfl Try.func16 (by kernel_rfl) rfl #[.agg #[.slice Ao10 t516.length co10]] rfl byah ?_;(with_reducible refine (intersection_Disjoint.calls k _ _ t516 t523 t524 t525 _ ?side1 ?side2 A5.out).mono ?_);(case side1=>exact bybo HO518.out);(case side2=>exact bybp HO518.out);rintro e w15 ⟨rfl,hb⟩;refine ⟨_,rfl,?_⟩;have n0_:=qA.mk (Kd.vI (byav HO518.out) hb);have n1_:=qA.mk (qD.below (bybi HI515.out NB515_520.out) hb);have n2_:=qA.mk (qH (g:=gb520) (o:=.cells #[.slice Ao10 t516.length co10] 25 (0,0)) (byaf BK520.out) hb);have n3_:=qA.mk (qE (bybk HI515.out GE520.out) hb);clear HO518;clear HI515;clear BK520;clear HB;have HO518:=n0_;have HI515:=n1_;have BK520:=n2_;have HB:=n3_;clear n0_ n1_ n2_ n3_;(try clear hb);(try clear hb2);(try clear hk);(try clear hi)))
 (try simp only [Act.put,List.setIfInBounds_toArray,List.set_cons_zero,List.set_cons_succ])
 go_cut [42] (fun v42 wc=>∃ (kq : Nat) (x42_5 : Bool),v42 = .bool x42_5∧qA (trustquorumlaw12_IntersectionDecides.j0 kq t521 t523 t524 x42_5 t516 = some r)∧qA (kq ≤ k)∧qA (Kd.R k58 58 wc w.heap.size (fun _=>True) (.slice Ao10 t516.length co10) t516)∧qA (wc.heap[gb520]? = some (.cells #[(.slice Ao10 t516.length co10)] 25 (0,0)))∧qA (Below w.heap.size w wc))
 case first =>
  have H:=HC6.out
  clear HC6
  by_cases c16 : t522 = 0
  ·rw [if_pos c16] at H
   have c16b0 : (t522 == 0) = true:=beq_iff_eq.mpr c16
   have c16b1 : (t522 != 0) = false:=bne_eq_false_iff_eq.mpr c16
   clear c16
   (first|rw [c16b0]|(simp only [qY,zA];rw [c16b0])|skip)
   by_cases c17 : ((t525 == 11) != t521) = true
   ·rw [if_pos c17] at H
    have c17b0 : ((t525 == 11) != t521) = true:=c17
    (try (have c17b1 : decide ((t525 == 11) = t521) = false:=by simpa using c17))
    (try (have c17b2 : ((t525 == 11) == t521) = false:=by simpa using c17))
    (try (have c17b3 : ¬ ((t525 == 11) = t521):=by simpa using c17))
    clear c17
    have H':=qA.mk H
    clear H
    go_wp2
    go_meet
    case rel=>exact ⟨_,(true),byae,H',⟨byap⟩,⟨byav HO518.out⟩,⟨byaf BK520.out⟩,⟨bybk HI515.out GE520.out⟩⟩
   ·rw [if_neg c17] at H
    have c17b0 : ((t525 == 11) != t521) = false:=by simpa using c17
    (try (have c17b1 : decide ((t525 == 11) = t521) = true:=by simpa using c17))
    (try (have c17b2 : ((t525 == 11) == t521) = true:=by simpa using c17))
    clear c17
    by_cases c18 : t525 = 0
    ·rw [if_pos c18] at H
     have c18b0 : (t525 == 0) = true:=beq_iff_eq.mpr c18
     have c18b1 : (t525 != 0) = false:=bne_eq_false_iff_eq.mpr c18
     clear c18
     have H':=qA.mk H
     clear H
     go_wp2
     go_meet
     case rel=>exact ⟨_,(false),byae,H',⟨byap⟩,⟨byav HO518.out⟩,⟨byaf BK520.out⟩,⟨bybk HI515.out GE520.out⟩⟩
    ·rw [if_neg c18] at H
     have c18b0 : (t525 == 0) = false:=beq_eq_false_iff_ne.mpr c18
     have c18b1 : (t525 != 0) = true:=bne_iff_ne.mpr c18
     have H':=qA.mk H
     clear H
     go_wp2
     go_meet
     case rel=>exact ⟨_,((t525 != 11)),byae,H',⟨byap⟩,⟨byav HO518.out⟩,⟨byaf BK520.out⟩,⟨bybk HI515.out GE520.out⟩⟩
  ·rw [if_neg c16] at H
   have c16b0 : (t522 == 0) = false:=beq_eq_false_iff_ne.mpr c16
   have c16b1 : (t522 != 0) = true:=bne_iff_ne.mpr c16
   (first|rw [c16b0]|(simp only [qY,zA];rw [c16b0])|skip)
   have H':=qA.mk H
   clear H
   go_wp2
   go_meet
   case rel=>exact ⟨_,(true),byae,H',⟨byap⟩,⟨byav HO518.out⟩,⟨byaf BK520.out⟩,⟨bybk HI515.out GE520.out⟩⟩
 case rest =>
  clear HC6
  try clear c1
  try clear p2
  try clear c4
  try clear c11
  try clear c12
  try clear c14
  try clear c16
  try clear c16b0
  try clear c16b1
  try clear c17
  try clear c17b0
  try clear c17b1
  try clear c17b2
  try clear c18
  try clear c18b0
  try clear c18b1
  try clear hcz12_0
  try clear hcz14_0
  try clear hfz12_0
  try clear hfz14_0
  obtain ⟨kq,x42_5,rfl,HA,HJ5,HO_521000,BK520,HB⟩:=hcut
  cases kq with
  | zero=>exact absurd HA.out (by simp [trustquorumlaw12_IntersectionDecides.j0])
  | succ kj5 =>
   have H:=HA.out
   clear HA
   simp only [trustquorumlaw12_IntersectionDecides.j0] at H
   by_cases c19 : x42_5 = true
   ·subst c19
    have H1 : (some false) = some r:=by rw [if_pos rfl] at H;exact H
    clear H
    have H:=H1
    clear H1
    exfalso;rw [hr_.out] at H;simp at H
   ·replace c19:=Bool.eq_false_iff.mpr c19
    subst c19
    have H1 : (if t521 = true then (trustquorumlaw12_IntersectionDecides.j1 kj5 t521 false t516) else (if (Go.bits .and .i64 t523 t524) = 0 then ((qM.f kj5 t516 t523).bind fun t526=>(if t526 = true then ((qM.f kj5 t516 t524).bind fun t527=>(trustquorumlaw12_IntersectionDecides.j1 kj5 t521 (!t527) t516)) else (trustquorumlaw12_IntersectionDecides.j1 kj5 t521 true t516))) else (trustquorumlaw12_IntersectionDecides.j1 kj5 t521 true t516))) = some r:=by rw [if_neg (show ¬ (false = true) by decide)] at H;exact H
    clear H
    have H:=H1
    clear H1
    have HC20:=qA.mk H
    clear H
    go_upto_region 7 with (fail)
    go_cut [62] (fun v62 wc=>∃ (kq : Nat) (x62_19 : Bool),v62 = .bool x62_19∧qA (trustquorumlaw12_IntersectionDecides.j1 kq t521 x62_19 t516 = some r)∧qA (kq ≤ kj5)∧qA (Kd.R k58 58 wc w.heap.size (fun _=>True) (.slice Ao10 t516.length co10) t516)∧qA (wc.heap[gb520]? = some (.cells #[(.slice Ao10 t516.length co10)] 25 (0,0)))∧qA (Below w.heap.size w wc))
    case first =>
     have H:=HC20.out
     clear HC20
     by_cases c21 : t521 = true
     ·subst c21
      have H1 : (trustquorumlaw12_IntersectionDecides.j1 kj5 true false t516) = some r:=by rw [if_pos rfl] at H;exact H
      clear H
      have H:=H1
      clear H1
      have H':=qA.mk H
      clear H
      go_wp2
      go_meet
      case rel=>exact ⟨_,(false),byae,H',⟨bybw⟩,⟨byav HO_521000.out⟩,⟨byaf BK520.out⟩,⟨byad GE520.out⟩⟩
     ·replace c21:=Bool.eq_false_iff.mpr c21
      subst c21
      have H1 : (if (Go.bits .and .i64 t523 t524) = 0 then ((qM.f kj5 t516 t523).bind fun t526=>(if t526 = true then ((qM.f kj5 t516 t524).bind fun t527=>(trustquorumlaw12_IntersectionDecides.j1 kj5 false (!t527) t516)) else (trustquorumlaw12_IntersectionDecides.j1 kj5 false true t516))) else (trustquorumlaw12_IntersectionDecides.j1 kj5 false true t516)) = some r:=by rw [if_neg (show ¬ (false = true) by decide)] at H;exact H
      clear H
      have H:=H1
      clear H1
      by_cases c22 : (Go.bits .and .i64 t523 t524) = 0
      ·rw [if_pos c22] at H
       have c22b0 : ((Go.bits .and .i64 t523 t524) == 0) = true:=beq_iff_eq.mpr c22
       have c22b1 : ((Go.bits .and .i64 t523 t524) != 0) = false:=bne_eq_false_iff_eq.mpr c22
       clear c22
       (first|rw [c22b0]|(simp only [qY,zA];rw [c22b0])|skip)
       replace H:=Option.bind_eq_some_iff.mp H
       obtain ⟨t526,A230,H⟩:=H
       replace H : (if t526 = true then ((qM.f kj5 t516 t524).bind fun t527=>(trustquorumlaw12_IntersectionDecides.j1 kj5 false (!t527) t516)) else (trustquorumlaw12_IntersectionDecides.j1 kj5 false true t516)) = some r:=H
       have A23:=qA.mk A230
       clear A230
       by_cases c24 : t526 = true
       ·subst c24
        have H1 : ((qM.f kj5 t516 t524).bind fun t527=>(trustquorumlaw12_IntersectionDecides.j1 kj5 false (!t527) t516)) = some r:=by rw [if_pos rfl] at H;exact H
        clear H
        have H:=H1
        clear H1
        replace H:=Option.bind_eq_some_iff.mp H
        obtain ⟨t527,A250,H⟩:=H
        replace H : (trustquorumlaw12_IntersectionDecides.j1 kj5 false (!t527) t516) = some r:=H
        have A25:=qA.mk A250
        clear A250
        have H':=qA.mk H
        clear H
        have hcz26_0 : wc.cell? ⟨gb520,0,none⟩ = some (.slice Ao10 t516.length co10):=(qC BK520.out 0).trans rfl
        have hfz26_0:=qB BK520.out 0
        go_wp2_with (first|(go_at_call 24;(with_reducible refine (qM.calls kj5 _ _ t516 t523 true _ ?side1 ?side2 A23.out).mono ?_);(case side1=>exact bybo HO_521000.out);(case side2=>exact bybp HO_521000.out);rintro e w27 ⟨rfl,hb⟩;have n0_:=qA.mk (Kd.vI (byav HO_521000.out) hb);have n1_:=qA.mk (qH (g:=gb520) (o:=.cells #[.slice Ao10 t516.length co10] 25 (0,0)) (byaf BK520.out) hb);have n2_:=qA.mk (qE (byad GE520.out) hb);clear HO_521000;clear BK520;clear HB;have HO_521000:=n0_;have BK520:=n1_;have HB:=n2_;clear n0_ n1_ n2_;(try clear hb);(try clear hb2);(try clear hk);(try clear hi);have hcz28_0 : w27.cell? ⟨gb520,0,none⟩ = some (.slice Ao10 t516.length co10):=(qC BK520.out 0).trans rfl;have hfz28_0:=qB BK520.out 0)|(go_at_call 24;(with_reducible refine (qM.calls kj5 _ _ t516 t524 t527 _ ?side1 ?side2 A25.out).mono ?_);(case side1=>exact bybo HO_521000.out);(case side2=>exact bybp HO_521000.out);rintro e w29 ⟨rfl,hb⟩;have n0_:=qA.mk (Kd.vI (byav HO_521000.out) hb);have n1_:=qA.mk (qH (g:=gb520) (o:=.cells #[.slice Ao10 t516.length co10] 25 (0,0)) (byaf BK520.out) hb);have n2_:=qA.mk (qE (byad GE520.out) hb);clear HO_521000;clear BK520;clear HB;have HO_521000:=n0_;have BK520:=n1_;have HB:=n2_;clear n0_ n1_ n2_;(try clear hb);(try clear hb2);(try clear hk);(try clear hi)))
        go_meet
        case rel=>exact ⟨_,(!t527),byae,H',⟨bybw⟩,⟨byav HO_521000.out⟩,⟨byaf BK520.out⟩,⟨byad GE520.out⟩⟩
       ·replace c24:=Bool.eq_false_iff.mpr c24
        subst c24
        have H1 : (trustquorumlaw12_IntersectionDecides.j1 kj5 false true t516) = some r:=by rw [if_neg (show ¬ (false = true) by decide)] at H;exact H
        clear H
        have H:=H1
        clear H1
        have H':=qA.mk H
        clear H
        have hcz30_0 : wc.cell? ⟨gb520,0,none⟩ = some (.slice Ao10 t516.length co10):=(qC BK520.out 0).trans rfl
        have hfz30_0:=qB BK520.out 0
        go_wp2_with (first|(go_at_call 24;(with_reducible refine (qM.calls kj5 _ _ t516 t523 false _ ?side1 ?side2 A23.out).mono ?_);(case side1=>exact bybo HO_521000.out);(case side2=>exact bybp HO_521000.out);rintro e w31 ⟨rfl,hb⟩;have n0_:=qA.mk (Kd.vI (byav HO_521000.out) hb);have n1_:=qA.mk (qH (g:=gb520) (o:=.cells #[.slice Ao10 t516.length co10] 25 (0,0)) (byaf BK520.out) hb);have n2_:=qA.mk (qE (byad GE520.out) hb);clear HO_521000;clear BK520;clear HB;have HO_521000:=n0_;have BK520:=n1_;have HB:=n2_;clear n0_ n1_ n2_;(try clear hb);(try clear hb2);(try clear hk);(try clear hi)))
        go_meet
        case rel=>exact ⟨_,(true),byae,H',⟨bybw⟩,⟨byav HO_521000.out⟩,⟨byaf BK520.out⟩,⟨byad GE520.out⟩⟩
      ·rw [if_neg c22] at H
       have c22b0 : ((Go.bits .and .i64 t523 t524) == 0) = false:=beq_eq_false_iff_ne.mpr c22
       have c22b1 : ((Go.bits .and .i64 t523 t524) != 0) = true:=bne_iff_ne.mpr c22
       (first|rw [c22b0]|(simp only [qY,zA];rw [c22b0])|skip)
       have H':=qA.mk H
       clear H
       go_wp2
       go_meet
       case rel=>exact ⟨_,(true),byae,H',⟨bybw⟩,⟨byav HO_521000.out⟩,⟨byaf BK520.out⟩,⟨byad GE520.out⟩⟩
    case rest =>
     clear HC20
     try clear c1
     try clear c2
     try clear p2
     try clear c4
     try clear c11
     try clear c12
     try clear c14
     try clear c16
     try clear c16b0
     try clear c16b1
     try clear c17
     try clear c17b0
     try clear c17b1
     try clear c17b2
     try clear c18
     try clear c18b0
     try clear c18b1
     try clear c19
     try clear c21
     try clear c22
     try clear c22b0
     try clear c22b1
     try clear c24
     try clear hcz12_0
     try clear hcz14_0
     try clear hcz26_0
     try clear hcz28_0
     try clear hcz30_0
     try clear hfz12_0
     try clear hfz14_0
     try clear hfz26_0
     try clear hfz28_0
     try clear hfz30_0
     try clear p2
     obtain ⟨kq,x62_19,rfl,HA,HJ19,HO_521000,BK520,HB⟩:=hcut
     cases kq with
     | zero=>exact absurd HA.out (by simp [trustquorumlaw12_IntersectionDecides.j1])
     | succ kj19 =>
      have H:=HA.out
      clear HA
      simp only [trustquorumlaw12_IntersectionDecides.j1] at H
      by_cases c32 : x62_19 = true
      ·subst c32
       have H1 : (some false) = some r:=by rw [if_pos rfl] at H;exact H
       clear H
       have H:=H1
       clear H1
       exfalso;rw [hr_.out] at H;simp at H
      ·replace c32:=Bool.eq_false_iff.mpr c32
       subst c32
       have H1 : (trustquorumlaw12_IntersectionDecides.l0 kj19 t521 0 t516) = some r:=by rw [if_neg (show ¬ (false = true) by decide)] at H;exact H
       clear H
       have H:=H1
       clear H1
       have H':=qA.mk H
       clear H
       go_wp2
       go_loopg [10] kj19 (fun kq v10 w'=>∃ (x10_3 : Int),v10 = .int .i64 x10_3∧qA (trustquorumlaw12_IntersectionDecides.l0 kq t521 x10_3 t516 = some r)∧qA (kq ≤ kj19)∧qA (Kd.R k58 58 w' w.heap.size (fun _=>True) (.slice Ao10 t516.length co10) t516)∧qA (w'.heap[gb520]? = some (.cells #[(.slice Ao10 t516.length co10)] 25 (0,0)))∧qA (Below w.heap.size w w'))
       case atStart=>exact ⟨(0),byae,H',⟨Nat.le_refl _⟩,⟨byav HO_521000.out⟩,⟨byaf BK520.out⟩,⟨byad GE520.out⟩⟩
       case round =>
        clear H'
        try clear c1
        try clear c2
        try clear p2
        try clear c3
        try clear c4
        try clear c11
        try clear c12
        try clear c14
        try clear c16
        try clear c16b0
        try clear c16b1
        try clear c17
        try clear c17b0
        try clear c17b1
        try clear c17b2
        try clear c18
        try clear c18b0
        try clear c18b1
        try clear c19
        try clear c21
        try clear c22
        try clear c22b0
        try clear c22b1
        try clear c24
        try clear c32
        try clear hcz12_0
        try clear hcz14_0
        try clear hcz26_0
        try clear hcz28_0
        try clear hcz30_0
        try clear hfz12_0
        try clear hfz14_0
        try clear hfz26_0
        try clear hfz28_0
        try clear hfz30_0
        try clear p2
        obtain ⟨x10_3,rfl,HA,HK3,HO_521000,BK520,HB⟩:=hrel
        cases gk with
        | zero=>exact absurd HA.out (by simp [trustquorumlaw12_IntersectionDecides.l0])
        | succ k3 =>
         have H:=HA.out
         clear HA
         simp only [trustquorumlaw12_IntersectionDecides.l0] at H
         obtain ⟨ji33,hji33⟩ : ∃ j_ : Int,(shl .i64 1 (t516.length : Int)) = j_:=⟨_,rfl⟩
         replace H : (if x10_3 < (ji33) then (trustquorumlaw12_IntersectionDecides.l1 k3 t521 x10_3 0 t516) else ((zQ.f k3).bind fun t528=>(some t528))) = some r:=by first|(rw [hji33] at H;exact H)|(simp only [hji33] at H ⊢;exact H)
         have hji33_ : (IntKind.i64.wrap (1 * 2 ^ min (t516.length : Int).toNat 64)) = ji33:=hji33
         have hji33z : (t516.length : Int) ≤ 64→(IntKind.i64.wrap (1 * 2 ^ (t516.length : Int).toNat)) = ji33:=uN hji33
         have hji33p : (IntKind.i64.wrap (1 * 2 ^ min t516.length 64)) = ji33:=hji33_
         have hji33q : (t516.length : Int) ≤ 64→(IntKind.i64.wrap (1 * 2 ^ t516.length)) = ji33:=hji33z
         have hji33r : (IntKind.i64.wrap (2 ^ min t516.length 64)) = ji33:=by have h_:=hji33p;rw [Int.one_mul] at h_;exact h_
         have hji33s : (t516.length : Int) ≤ 64→(IntKind.i64.wrap (2 ^ t516.length)) = ji33:=fun hle_=>by have h_:=hji33q hle_;rw [Int.one_mul] at h_;exact h_
         have hji33u : (IntKind.i64.wrap (2 ^ min (t516.length : Int).toNat 64)) = ji33:=by have h_:=hji33_;rw [Int.one_mul] at h_;exact h_
         have hji33v : (t516.length : Int) ≤ 64→(IntKind.i64.wrap (2 ^ (t516.length : Int).toNat)) = ji33:=fun hle_=>by have h_:=hji33z hle_;rw [Int.one_mul] at h_;exact h_
         have hji33y : (wrap64 (1 * 2 ^ min (t516.length : Int).toNat 64)) = ji33:=(qY _).symm.trans hji33_
         have hji33x : (t516.length : Int) ≤ 64→(wrap64 (1 * 2 ^ (t516.length : Int).toNat)) = ji33:=fun h_=>(qY _).symm.trans (hji33z h_)
         by_cases c34 : x10_3 < (ji33)
         ·rw [if_pos c34] at H
          have c34b0 : decide (x10_3 < (ji33)) = true:=decide_eq_true c34
          clear c34
          have H':=qA.mk H
          clear H
          have hcz35_0 : wr.cell? ⟨gb520,0,none⟩ = some (.slice Ao10 t516.length co10):=(qC BK520.out 0).trans rfl
          have hfz35_0:=qB BK520.out 0
          go_wp2
          go_loopg [11] k3 (fun kq v11 w'=>∃ (x11_4 : Int),v11 = .int .i64 x11_4∧qA (trustquorumlaw12_IntersectionDecides.l1 kq t521 x10_3 x11_4 t516 = some r)∧qA (kq ≤ k3)∧qA (Kd.R k58 58 w' w.heap.size (fun _=>True) (.slice Ao10 t516.length co10) t516)∧qA (w'.heap[gb520]? = some (.cells #[(.slice Ao10 t516.length co10)] 25 (0,0)))∧qA (Below w.heap.size w w'))
          case atStart=>exact ⟨(0),byae,H',⟨Nat.le_refl _⟩,⟨byav HO_521000.out⟩,⟨byaf BK520.out⟩,⟨byad GE520.out⟩⟩
          case round =>
           clear H'
           try clear c1
           try clear c2
           try clear p2
           try clear c3
           try clear c4
           try clear p6
           try clear c11
           try clear c12
           try clear c14
           try clear c16
           try clear c16b0
           try clear c16b1
           try clear c17
           try clear c17b0
           try clear c17b1
           try clear c17b2
           try clear c18
           try clear c18b0
           try clear c18b1
           try clear c19
           try clear c21
           try clear c22
           try clear c22b0
           try clear c22b1
           try clear c24
           try clear c32
           try clear c34
           try clear c34b0
           try clear hcz12_0
           try clear hcz14_0
           try clear hcz26_0
           try clear hcz28_0
           try clear hcz30_0
           try clear hcz35_0
           try clear hfz12_0
           try clear hfz14_0
           try clear hfz26_0
           try clear hfz28_0
           try clear hfz30_0
           try clear hfz35_0
           try clear p2
           obtain ⟨x11_4,rfl,HA,HK4,HO_521000,BK520,HB⟩:=hrel
           cases gk with
           | zero=>exact absurd HA.out (by simp [trustquorumlaw12_IntersectionDecides.l1])
           | succ k4 =>
            have H:=HA.out
            clear HA
            simp only [trustquorumlaw12_IntersectionDecides.l1] at H
            by_cases c36 : x11_4 < x10_3
            ·rw [if_pos c36] at H
             have c36b0 : decide (x11_4 < x10_3) = true:=decide_eq_true c36
             clear c36
             by_cases c37 : t521 = true
             ·subst c37
              have H1 : (if (Go.bits .and .i64 x10_3 x11_4) = 0 then ((qM.f k4 t516 x10_3).bind fun t529=>(if t529 = true then ((qM.f k4 t516 x11_4).bind fun t530=>(if t530 = true then (some false) else (trustquorumlaw12_IntersectionDecides.l1 k4 true x10_3 (wrap64 (x11_4 + 1)) t516))) else (trustquorumlaw12_IntersectionDecides.l1 k4 true x10_3 (wrap64 (x11_4 + 1)) t516))) else (trustquorumlaw12_IntersectionDecides.l1 k4 true x10_3 (wrap64 (x11_4 + 1)) t516)) = some r:=by rw [if_pos rfl] at H;exact H
              clear H
              have H:=H1
              clear H1
              by_cases c38 : (Go.bits .and .i64 x10_3 x11_4) = 0
              ·rw [if_pos c38] at H
               have c38b0 : ((Go.bits .and .i64 x10_3 x11_4) == 0) = true:=beq_iff_eq.mpr c38
               have c38b1 : ((Go.bits .and .i64 x10_3 x11_4) != 0) = false:=bne_eq_false_iff_eq.mpr c38
               clear c38
               replace H:=Option.bind_eq_some_iff.mp H
               obtain ⟨t529,A390,H⟩:=H
               replace H : (if t529 = true then ((qM.f k4 t516 x11_4).bind fun t530=>(if t530 = true then (some false) else (trustquorumlaw12_IntersectionDecides.l1 k4 true x10_3 (wrap64 (x11_4 + 1)) t516))) else (trustquorumlaw12_IntersectionDecides.l1 k4 true x10_3 (wrap64 (x11_4 + 1)) t516)) = some r:=H
               have A39:=qA.mk A390
               clear A390
               by_cases c40 : t529 = true
               ·subst c40
                have H1 : ((qM.f k4 t516 x11_4).bind fun t530=>(if t530 = true then (some false) else (trustquorumlaw12_IntersectionDecides.l1 k4 true x10_3 (wrap64 (x11_4 + 1)) t516))) = some r:=by rw [if_pos rfl] at H;exact H
                clear H
                have H:=H1
                clear H1
                replace H:=Option.bind_eq_some_iff.mp H
                obtain ⟨t530,A410,H⟩:=H
                replace H : (if t530 = true then (some false) else (trustquorumlaw12_IntersectionDecides.l1 k4 true x10_3 (wrap64 (x11_4 + 1)) t516)) = some r:=H
                have A41:=qA.mk A410
                clear A410
                by_cases c42 : t530 = true
                ·subst c42
                 have H1 : (some false) = some r:=by rw [if_pos rfl] at H;exact H
                 clear H
                 have H:=H1
                 clear H1
                 exfalso;rw [hr_.out] at H;simp at H
                ·replace c42:=Bool.eq_false_iff.mpr c42
                 subst c42
                 have H1 : (trustquorumlaw12_IntersectionDecides.l1 k4 true x10_3 (wrap64 (x11_4 + 1)) t516) = some r:=by rw [if_neg (show ¬ (false = true) by decide)] at H;exact H
                 clear H
                 have H:=H1
                 clear H1
                 have H':=qA.mk H
                 clear H
                 have hcz47_0 : wr.cell? ⟨gb520,0,none⟩ = some (.slice Ao10 t516.length co10):=(qC BK520.out 0).trans rfl
                 have hfz47_0:=qB BK520.out 0
                 go_wp2_with (first|(go_at_call 24;(with_reducible refine (qM.calls k4 _ _ t516 x10_3 true _ ?side1 ?side2 A39.out).mono ?_);(case side1=>exact bybo HO_521000.out);(case side2=>exact bybp HO_521000.out);rintro e w48 ⟨rfl,hb⟩;have n0_:=qA.mk (Kd.vI (byav HO_521000.out) hb);have n1_:=qA.mk (qH (g:=gb520) (o:=.cells #[.slice Ao10 t516.length co10] 25 (0,0)) (byaf BK520.out) hb);have n2_:=qA.mk (qE (byad GE520.out) hb);clear HO_521000;clear BK520;clear HB;have HO_521000:=n0_;have BK520:=n1_;have HB:=n2_;clear n0_ n1_ n2_;(try clear hb);(try clear hb2);(try clear hk);(try clear hi);have hcz49_0 : w48.cell? ⟨gb520,0,none⟩ = some (.slice Ao10 t516.length co10):=(qC BK520.out 0).trans rfl;have hfz49_0:=qB BK520.out 0)|(go_at_call 24;(with_reducible refine (qM.calls k4 _ _ t516 x11_4 false _ ?side1 ?side2 A41.out).mono ?_);(case side1=>exact bybo HO_521000.out);(case side2=>exact bybp HO_521000.out);rintro e w50 ⟨rfl,hb⟩;have n0_:=qA.mk (Kd.vI (byav HO_521000.out) hb);have n1_:=qA.mk (qH (g:=gb520) (o:=.cells #[.slice Ao10 t516.length co10] 25 (0,0)) (byaf BK520.out) hb);have n2_:=qA.mk (qE (byad GE520.out) hb);clear HO_521000;clear BK520;clear HB;have HO_521000:=n0_;have BK520:=n1_;have HB:=n2_;clear n0_ n1_ n2_;(try clear hb);(try clear hb2);(try clear hk);(try clear hi)))
                 go_roundg k4
                 case measure=>have:=HJ5.out;have:=HJ19.out;have:=HK3.out;have:=HK4.out;omega
                 case rel=>exact ⟨(wrap64 (x11_4 + 1)),byae,H',⟨bybx⟩,⟨byav HO_521000.out⟩,⟨byaf BK520.out⟩,⟨byad GE520.out⟩⟩
               ·replace c40:=Bool.eq_false_iff.mpr c40
                subst c40
                have H1 : (trustquorumlaw12_IntersectionDecides.l1 k4 true x10_3 (wrap64 (x11_4 + 1)) t516) = some r:=by rw [if_neg (show ¬ (false = true) by decide)] at H;exact H
                clear H
                have H:=H1
                clear H1
                have H':=qA.mk H
                clear H
                have hcz51_0 : wr.cell? ⟨gb520,0,none⟩ = some (.slice Ao10 t516.length co10):=(qC BK520.out 0).trans rfl
                have hfz51_0:=qB BK520.out 0
                go_wp2_with (first|(go_at_call 24;(with_reducible refine (qM.calls k4 _ _ t516 x10_3 false _ ?side1 ?side2 A39.out).mono ?_);(case side1=>exact bybo HO_521000.out);(case side2=>exact bybp HO_521000.out);rintro e w52 ⟨rfl,hb⟩;have n0_:=qA.mk (Kd.vI (byav HO_521000.out) hb);have n1_:=qA.mk (qH (g:=gb520) (o:=.cells #[.slice Ao10 t516.length co10] 25 (0,0)) (byaf BK520.out) hb);have n2_:=qA.mk (qE (byad GE520.out) hb);clear HO_521000;clear BK520;clear HB;have HO_521000:=n0_;have BK520:=n1_;have HB:=n2_;clear n0_ n1_ n2_;(try clear hb);(try clear hb2);(try clear hk);(try clear hi)))
                go_roundg k4
                case measure=>have:=HJ5.out;have:=HJ19.out;have:=HK3.out;have:=HK4.out;omega
                case rel=>exact ⟨(wrap64 (x11_4 + 1)),byae,H',⟨bybx⟩,⟨byav HO_521000.out⟩,⟨byaf BK520.out⟩,⟨byad GE520.out⟩⟩
              ·rw [if_neg c38] at H
               have c38b0 : ((Go.bits .and .i64 x10_3 x11_4) == 0) = false:=beq_eq_false_iff_ne.mpr c38
               have c38b1 : ((Go.bits .and .i64 x10_3 x11_4) != 0) = true:=bne_iff_ne.mpr c38
               have H':=qA.mk H
               clear H
               go_wp2
               go_roundg k4
               case measure=>have:=HJ5.out;have:=HJ19.out;have:=HK3.out;have:=HK4.out;omega
               case rel=>exact ⟨(wrap64 (x11_4 + 1)),byae,H',⟨bybx⟩,⟨byav HO_521000.out⟩,⟨byaf BK520.out⟩,⟨byad GE520.out⟩⟩
             ·replace c37:=Bool.eq_false_iff.mpr c37
              subst c37
              have H1 : (trustquorumlaw12_IntersectionDecides.l1 k4 false x10_3 (wrap64 (x11_4 + 1)) t516) = some r:=by rw [if_neg (show ¬ (false = true) by decide)] at H;exact H
              clear H
              have H:=H1
              clear H1
              have H':=qA.mk H
              clear H
              go_wp2
              go_roundg k4
              case measure=>have:=HJ5.out;have:=HJ19.out;have:=HK3.out;have:=HK4.out;omega
              case rel=>exact ⟨(wrap64 (x11_4 + 1)),byae,H',⟨bybx⟩,⟨byav HO_521000.out⟩,⟨byaf BK520.out⟩,⟨byad GE520.out⟩⟩
            ·rw [if_neg c36] at H
             have c36b0 : decide (x11_4 < x10_3) = false:=decide_eq_false c36
             clear c36
             have H':=qA.mk H
             clear H
             go_wp2
             go_roundg k4
             case measure=>have:=HJ5.out;have:=HJ19.out;have:=HK3.out;have:=HK4.out;omega
             case rel=>exact ⟨(wrap64 (x10_3 + 1)),byae,H',⟨bybx⟩,⟨byav HO_521000.out⟩,⟨byaf BK520.out⟩,⟨byad GE520.out⟩⟩
         ·rw [if_neg c34] at H
          have c34b0 : decide (x10_3 < (ji33)) = false:=decide_eq_false c34
          clear c34
          replace H:=Option.bind_eq_some_iff.mp H
          obtain ⟨t528,A530,H⟩:=H
          replace H : (some t528) = some r:=H
          have A53:=qA.mk A530
          clear A530
          obtain rfl:=Option.some.inj H
          have hcz54_0 : wr.cell? ⟨gb520,0,none⟩ = some (.slice Ao10 t516.length co10):=(qC BK520.out 0).trans rfl
          have hfz54_0:=qB BK520.out 0
          go_wp2_with (first|((with_reducible refine qI (f:=10) rfl ?_);refine zL (some 93) rfl rfl Try.func10 (by kernel_rfl) rfl #[] rfl byah ?_;(with_reducible refine (zQ.calls k3  t528 _ A53.out).mono ?_);rintro e w55 ⟨rfl,hb⟩;refine ⟨_,rfl,?_⟩;have n0_:=qA.mk (Kd.vI (byav HO_521000.out) hb);have n1_:=qA.mk (qH (g:=gb520) (o:=.cells #[.slice Ao10 t516.length co10] 25 (0,0)) (byaf BK520.out) hb);have n2_:=qA.mk (qE (byad GE520.out) hb);clear HO_521000;clear BK520;clear HB;have HO_521000:=n0_;have BK520:=n1_;have HB:=n2_;clear n0_ n1_ n2_;(try clear hb);(try clear hb2);(try clear hk);(try clear hi)))
          go_ret
          exact ⟨by first|rfl|(simp [vD,vC]<;>rfl)|(simp only [← hji33];first|rfl|(simp [vD,vC]<;>rfl))|(simp [*,vD,vC]<;>rfl),byad GE520.out⟩
def trustquorumlaw12_IntersectionDecides.Pure : Prop:=∀ (l0 : List Int),l0.length ≤ maxLen→l0.length * 8 ≤ 140737488351232→(∀ x ∈ l0,(Lit.int .i64 x).wf = true)→∃ k,trustquorumlaw12_IntersectionDecides.f k l0 = some true
theorem trustquorumlaw12_IntersectionDecides.walk (P : trustquorumlaw12_IntersectionDecides.Pure) (a0 : Option Addr) (len0 cap0 : Nat) (z0 : List Int) (w : World) (w0 : (a0 = none∧len0 = 0∧cap0 = 0∧z0 = [])∨∃ x,a0 = some x∧len0 ≤ cap0∧cap0 ≤ maxLen∧z0.length = cap0∧(∀ i,i < z0.length→w.cell? (x.add i) = some (.int .i64 (z0.getD i 0)))∧∀ n ∈ z0,(Lit.int .i64 n).wf = true) (y0 : len0 * 8 ≤ 140737488351232) :
  Calls Try.prog 4 #[.slice a0 len0 cap0] w fun e w'=>e = .returned (.bool true)∧Below w.heap.size w w':=by
 obtain ⟨l0,rfl,hr0,hm0,hw0,hc0⟩:=vU.ofRowC w0
 obtain ⟨k,h⟩:=P l0 hm0 y0 hw0
 refine (trustquorumlaw12_IntersectionDecides.calls k _ _ l0 true w (Kd.C_of_reads (d:=(0 : Int)) (h1:=fun _=>rfl) hr0) hc0 ⟨rfl⟩ h).mono ?_
 rintro e w' ⟨rfl,hd⟩
 exact ⟨rfl,hd⟩
end Go.Proofs.Ytkkbdimegpdbgaa.P
