/- Functions of the program as Lean functions, and the walks that show that the calls answer so; written by a program of this session (a changed print) and by hand. -/
import Derived.Test.YtoofabolcbbjnaaQrPx0
import Derived.Test.YtoofabolcbbjnaaQrPx3
namespace Go.Proofs.Ytoofabolcbbjnaa.P
open Go.RowKit Go.Proofs.YtoofabolcbbjnaaW.PrintWords Go.Proofs.YtoofabolcbbjnaaW.PrintLast Go.Proofs.YtoofabolcbbjnaaW.PrintMore
attribute [local go_sem] kH kJ kQ kR uS uR kF kG
set_option linter.unusedVariables false
set_option linter.unusedSimpArgs false
mutual
def zF.l0 : Nat→Int→Int→List Int→Int→Int→List Int→Int→Int→List Int→Option (Int × List Int × (List (S49)) × Int)
 | 0,_,_,_,_,_,_,_,_,_=>none
 | k + 1,x1,x2,x20,x21,x22,x1000,x1001,x217000,x217001=>if x22 < x21 then (if 0 ≤ x22 then (if x22 < (x20.length : Int) then (if x217001.length < 17592186044416 then (zF.l0 k x1 x2 x20 x21 (wrap64 (x22 + 1)) x1000 x1001 x217000 (x217001 ++ [rd x20 x22])) else (none)) else (none)) else (none)) else (if x2 > 1 then ((jW.f x1000 x1001 (([0,0,1,1,2,3] : List Int))).bind fun bt233=>(zF.l1 k x1 x2 bt233.1 x1000 bt233.2 x217000 x217001 ([] : List (S49)))) else ((zO.f x1000 x1001 1 (wrap64 ((x217001.length : Int) + (([] : List (S49)).length : Int)))).bind fun bt254=>(some (bt254.1,x217001,([] : List (S49)),bt254.2))))
def zF.l1 : Nat→Int→Int→Int→List Int→Int→Int→List Int→List (S49)→Option (Int × List Int × (List (S49)) × Int)
 | 0,_,_,_,_,_,_,_,_=>none
 | k + 1,x1,x2,x11,x1000,x1001,x217000,x217001,x217002=>if x11 > 0 then ((zF.f k x1000 x1001 x1 (wrap64 (x2 - 1))).bind fun bt235=>(if x217002.length < 2513169434916 then (zF.l1 k x1 x2 (wrap64 (x11 - 1)) x1000 bt235.2.2.2 x217000 x217001 (x217002 ++ [(⟨bt235.1,bt235.2.1,bt235.2.2.1⟩ : S49)])) else (none))) else (if (x217002.length : Int) > 0 then ((qZ.f x1000 x1001 3).bind fun bt246=>(if bt246.1 = 0 then ((zO.f x1000 bt246.2 1 (wrap64 ((([] : List Int).length : Int) + (x217002.length : Int)))).bind fun bt248=>(some (bt248.1,([] : List Int),x217002,bt248.2))) else ((zO.f x1000 bt246.2 1 (wrap64 ((x217001.length : Int) + (x217002.length : Int)))).bind fun bt250=>(some (bt250.1,x217001,x217002,bt250.2))))) else ((zO.f x1000 x1001 1 (wrap64 ((x217001.length : Int) + (x217002.length : Int)))).bind fun bt252=>(some (bt252.1,x217001,x217002,bt252.2))))
def zF.f : Nat→List Int→Int→Int→Int→Option (Int × List Int × (List (S49)) × Int)
 | 0,_,_,_,_=>none
 | k + 1,s0_0,s0_1,a1,a2=>(zI.f k s0_0 s0_1 a1).bind fun bt217=>((zO.f s0_0 bt217.2 1 (mn a1 5)).bind fun bt221=>(if 0 ≤ bt221.1 then (if bt221.1 ≤ (bt217.1.length : Int) then ((some (bt217.1.take (bt221.1 : Int).toNat : List Int)).bind fun y223=>(zF.l0 k a1 a2 y223 (y223.length : Int) 0 s0_0 bt221.2 0 ([] : List Int))) else (none)) else (none)))
end
def zF.T12 : Bool × List (List Nat × List Nat):=(true,[([],[]),([0],[0]),([],[]),([],[]),([],[]),([4],[4]),([2,3,5],[2,3,5]),([6],[6]),([1,7,6],[1,7]),([0,1,2,3,4,5,6,7,8],[]),([9,8,8,0,1,2,3,4,5,6,7,8],[8,9])])
def zF.B12 : List Nat:=[0,1,0,0,0,16,60,124,255,511,1023]
theorem zF.tab12 : rtab .any (opsOf Try.f45 12) = zF.T12:=by kernel_rfl
theorem zF.bits12 : waitsOk zF.T12.2 zF.B12 = true:=by kernel_rfl
set_option maxHeartbeats 8000000 in
set_option maxRecDepth 100000 in
theorem zF.calls (k : Nat) : ∀ (g : Nat) (s0_0 : List Int) (s0_1 : Int) (a1 : Int) (a2 : Int) (r1 : Int) (r2 : List Int) (r3 : List (S49)) (r4 : Int) (w0 w : World) (hI : qC w0 w g s0_0 s0_1) (hB : Below w0.heap.size w0 w) (h : zF.f k s0_0 s0_1 a1 a2 = some (r1,r2,r3,r4)),
  Calls Try.prog 45 #[.pointer (some ⟨g,0,none⟩),.int .i64 a1,.int .i64 a2] w fun e w'=>∃ v1_ v2_ : Value,e = .returned (.agg #[.int .i64 r1,v1_,v2_])∧Kd.R (Kd.int .i64) 3 w' w.heap.size (fun _=>True) v1_ r2∧Kd.R k49 49 w' w.heap.size (fun k_=>some k_≠(v1_ : Value).ownBlock) v2_ r3∧qC w0 w' g s0_0 r4∧Below w0.heap.size w0 w'∧qL w w' g none:=by
 induction k using Nat.strongRecOn with
 | _ k ih =>
 intro g s0_0 s0_1 a1 a2 r1 r2 r3 r4 w0 w hI hB h
 cases k with
 | zero=>exact absurd h (by simp [zF.f])
 | succ k =>
 simp only [zF.f] at h
 have hu49:=Try.underlying49
 have HI0:=qA.mk hI
 have HK:=qA.mk (qL.refl w g none)
 have HL:=qA.mk hB.size
 clear hI
 have HW0:=qA.mk hB.size
 have HB:=qA.mk hB
 clear hB
 have H : ((zI.f k s0_0 s0_1 a1).bind fun bt217=>((zO.f s0_0 bt217.2 1 (mn a1 5)).bind fun bt221=>(if 0 ≤ bt221.1 then (if bt221.1 ≤ (bt217.1.length : Int) then ((some (bt217.1.take (bt221.1 : Int).toNat : List Int)).bind fun y223=>(zF.l0 k a1 a2 y223 (y223.length : Int) 0 s0_0 bt221.2 0 ([] : List Int))) else (none)) else (none)))) = some (r1,r2,r3,r4):=h
 clear h
 replace H:=Option.bind_eq_some_iff.mp H
 obtain ⟨⟨t217,t220⟩,A40,H⟩:=H
 replace H : ((zO.f s0_0 t220 1 (mn a1 5)).bind fun bt221=>(if 0 ≤ bt221.1 then (if bt221.1 ≤ (t217.length : Int) then ((some (t217.take (bt221.1 : Int).toNat : List Int)).bind fun y223=>(zF.l0 k a1 a2 y223 (y223.length : Int) 0 s0_0 bt221.2 0 ([] : List Int))) else (none)) else (none))) = some (r1,r2,r3,r4):=H
 have A4:=qA.mk A40
 clear A40
 obtain ⟨ji5,hji5⟩ : ∃ j_ : Int,(mn a1 5) = j_:=⟨_,rfl⟩
 replace H : ((zO.f s0_0 t220 1 (ji5)).bind fun bt221=>(if 0 ≤ bt221.1 then (if bt221.1 ≤ (t217.length : Int) then ((some (t217.take (bt221.1 : Int).toNat : List Int)).bind fun y223=>(zF.l0 k a1 a2 y223 (y223.length : Int) 0 s0_0 bt221.2 0 ([] : List Int))) else (none)) else (none))) = some (r1,r2,r3,r4):=by first|(rw [hji5] at H;exact H)|(simp only [hji5] at H ⊢;exact H)
 (try rw [hji5] at A4)
 (try (have hji5h : ji5 ≤ 5:=by (rw [← hji5];unfold mn;(repeat' split)<;>omega)))
 (try (have hji5g : ji5 ≤ 64:=by omega))
 have hji5_ : (if 5 < a1 then 5 else a1) = ji5:=hji5
 replace H:=Option.bind_eq_some_iff.mp H
 obtain ⟨⟨t221,t222⟩,A60,H⟩:=H
 replace H : (if 0 ≤ t221 then (if t221 ≤ (t217.length : Int) then ((some (t217.take (t221 : Int).toNat : List Int)).bind fun y223=>(zF.l0 k a1 a2 y223 (y223.length : Int) 0 s0_0 t222 0 ([] : List Int))) else (none)) else (none)) = some (r1,r2,r3,r4):=H
 have A6:=qA.mk A60
 clear A60
 by_cases c7 : 0 ≤ t221
 ·rw [if_pos c7] at H
  have c7b0:=eq_true c7
  have c7b1 : decide (0 ≤ t221) = true:=decide_eq_true c7
  clear c7
  by_cases c8 : t221 ≤ (t217.length : Int)
  ·rw [if_pos c8] at H
   have c8b0:=eq_true c8
   have c8b1 : decide (t221 ≤ (t217.length : Int)) = true:=decide_eq_true c8
   clear c8
   obtain ⟨y223,hy223⟩ : ∃ y_ : List Int,y_ = (t217.take (t221 : Int).toNat):=⟨_,rfl⟩
   replace H : (zF.l0 k a1 a2 y223 (y223.length : Int) 0 s0_0 t222 0 ([] : List Int)) = some (r1,r2,r3,r4):=by first|(rw [hy223];with_reducible exact H)|(have H2_:=(Option.bind_some _ _).symm.trans H;rw [hy223];with_reducible exact H2_)|(have H2_:=(Option.bind_some _ _).symm.trans H;with_reducible exact H2_)|with_reducible exact H|(rw [hy223];exact H)|exact H
   have Ny223:=qA.mk hy223
   clear hy223
   have H':=qA.mk H
   clear H
   go_enter Try.func45,Try.ntmps45
   go_wp2_with (first|((with_reducible refine jH (N:=6) rfl ?_);refine jL ?hg (N:=6) ?hd (cs:=#[.int .i64 0,.slice none 0 0,.slice none 0 0]) (t:=49) ?hr ?_;(case hd=>rfl);(case hg=>rfl);(case hr=>first|(go_simp;done)|(go_simp;rfl));intro gb215 hg w9 hbox hb;have n0_:=qA.mk (qC.below (by repeat (first|(with_reducible first|exact HI0.out|apply qC.alloc|apply qC.drewN|apply qC.drew|apply qC.zM)|exact HI0.out)) hb);have n1_:=qA.mk (qL.trans (by repeat (first|(with_reducible first|exact HK.out|apply qL.set_|apply qP|apply qR|apply qO)|exact HK.out)) (qL.of_below hb g none) (.inl rfl));have n2_:=qA.mk (qN (by repeat (first|(with_reducible first|exact HB.out|apply qH|apply qB|apply qG|refine qD ?_ (qC.ge HI0.out))|exact HB.out)) hb);have n3_:=qA.mk (hbox);have n4_:=qA.mk ((by rw [hg];exact (jG (w:=w) (g:=g) (row:=none) (by repeat (first|(with_reducible first|exact HK.out|apply qL.set_|apply qP|apply qR|apply qO)|exact HK.out))) : w.heap.size ≤ gb215));have n5_:=qA.mk ((Nat.le_trans HW0.out (by rw [hg];exact (jG (w:=w) (g:=g) (row:=none) (by repeat (first|(with_reducible first|exact HK.out|apply qL.set_|apply qP|apply qR|apply qO)|exact HK.out))) : w.heap.size ≤ gb215) : w0.heap.size ≤ gb215));have n6_:=qA.mk ((by rw [hg];exact Nat.ne_of_lt (qC.lt (show qC w0 _ g s0_0 s0_1 from by repeat (first|(with_reducible first|exact HI0.out|apply qC.alloc|apply qC.drewN|apply qC.drew|apply qC.zM)|exact HI0.out))) : g≠gb215));have n7_:=qA.mk ((by rw [hg];exact Nat.ne_of_gt (qC.lt (show qC w0 _ g s0_0 s0_1 from by repeat (first|(with_reducible first|exact HI0.out|apply qC.alloc|apply qC.drewN|apply qC.drew|apply qC.zM)|exact HI0.out))) : gb215≠g));clear HI0;clear HK;clear HB;have HI0:=n0_;have HK:=n1_;have HB:=n2_;have BK215:=n3_;have GW215:=n4_;have GE215:=n5_;have NB0_215:=n6_;have NB215_0:=n7_;clear n0_ n1_ n2_ n3_ n4_ n5_ n6_ n7_;clear hb hbox hg)|((with_reducible refine jH (N:=7) rfl ?_);refine jL ?hg (N:=7) ?hd (cs:=#[.int .i64 0,.slice none 0 0,.slice none 0 0]) (t:=49) ?hr ?_;(case hd=>rfl);(case hg=>rfl);(case hr=>first|(go_simp;done)|(go_simp;rfl));intro gb216 hg w10 hbox hb;have n0_:=qA.mk (qC.below (by repeat (first|(with_reducible first|exact HI0.out|apply qC.alloc|apply qC.drewN|apply qC.drew|apply qC.zM|refine qC.far ?_ NB0_215.out _)|exact HI0.out)) hb);have n1_:=qA.mk (zD (g:=gb215) (o:=.cells #[.int .i64 0,.slice none 0 0,.slice none 0 0] 49 (0,0)) (by (with_reducible repeat (first|refine qF ?_ _|refine qI ?_|refine qE ?_ _));exact BK215.out) hb);have n2_:=qA.mk (qL.trans (by repeat (first|(with_reducible first|exact HK.out|apply qL.set_|apply qP|apply qR|apply qO|refine qM ?_ GW215.out _)|exact HK.out)) (qL.of_below hb g none) (.inl rfl));have n3_:=qA.mk (qN (by repeat (first|(with_reducible first|exact HB.out|apply qH|apply qB|apply qG|refine qD ?_ (qC.ge HI0.out)|refine qD ?_ GE215.out)|exact HB.out)) hb);have n4_:=qA.mk (hbox);have n5_:=qA.mk ((by rw [hg];exact (jG (w:=w) (g:=g) (row:=none) (by repeat (first|(with_reducible first|exact HK.out|apply qL.set_|apply qP|apply qR|apply qO|refine qM ?_ GW215.out _)|exact HK.out))) : w.heap.size ≤ gb216));have n6_:=qA.mk ((Nat.le_trans HW0.out (by rw [hg];exact (jG (w:=w) (g:=g) (row:=none) (by repeat (first|(with_reducible first|exact HK.out|apply qL.set_|apply qP|apply qR|apply qO|refine qM ?_ GW215.out _)|exact HK.out))) : w.heap.size ≤ gb216) : w0.heap.size ≤ gb216));have n7_:=qA.mk ((by rw [hg];exact Nat.ne_of_lt (jR (g:=gb215) (o:=.cells #[.int .i64 0,.slice none 0 0,.slice none 0 0] 49 (0,0)) (by (with_reducible repeat (first|refine qF ?_ _|refine qI ?_|refine qE ?_ _));exact BK215.out)) : gb215≠gb216));have n8_:=qA.mk ((by rw [hg];exact Nat.ne_of_gt (jR (g:=gb215) (o:=.cells #[.int .i64 0,.slice none 0 0,.slice none 0 0] 49 (0,0)) (by (with_reducible repeat (first|refine qF ?_ _|refine qI ?_|refine qE ?_ _));exact BK215.out)) : gb216≠gb215));have n9_:=qA.mk ((by rw [hg];exact Nat.ne_of_lt (qC.lt (show qC w0 _ g s0_0 s0_1 from by repeat (first|(with_reducible first|exact HI0.out|apply qC.alloc|apply qC.drewN|apply qC.drew|apply qC.zM|refine qC.far ?_ NB0_215.out _)|exact HI0.out))) : g≠gb216));have n10_:=qA.mk ((by rw [hg];exact Nat.ne_of_gt (qC.lt (show qC w0 _ g s0_0 s0_1 from by repeat (first|(with_reducible first|exact HI0.out|apply qC.alloc|apply qC.drewN|apply qC.drew|apply qC.zM|refine qC.far ?_ NB0_215.out _)|exact HI0.out))) : gb216≠g));clear HI0;clear BK215;clear HK;clear HB;have HI0:=n0_;have BK215:=n1_;have HK:=n2_;have HB:=n3_;have BK216:=n4_;have GW216:=n5_;have GE216:=n6_;have NB215_216:=n7_;have NB216_215:=n8_;have NB0_216:=n9_;have NB216_0:=n10_;clear n0_ n1_ n2_ n3_ n4_ n5_ n6_ n7_ n8_ n9_ n10_;clear hb hbox hg)|((with_reducible refine q8 (f:=21) rfl ?_);refine jB (some 14) rfl rfl Try.func21 (by kernel_rfl) rfl #[.pointer (some ⟨g,0,none⟩),.int .i64 a1] rfl (by (try simp only [List.map_toArray,List.map_cons,List.map_nil]);first|done|rfl|(simp only [List.length_drop,List.length_take];rfl)|(simp only [List.length_nil,Int.natCast_zero,Int.zero_add,Int.ofNat_zero];rfl)) ?_;(with_reducible refine (zI.calls k g s0_0 s0_1 a1 t217 t220 w0 _ ?side1 ?side2 A4.out).mono ?_);(case side1=>repeat (first|(with_reducible first|exact HI0.out|apply qC.alloc|apply qC.drewN|apply qC.drew|apply qC.zM|refine qC.far ?_ NB0_215.out _|refine qC.far ?_ NB0_216.out _)|exact HI0.out));(case side2=>repeat (first|(with_reducible first|exact HB.out|apply qH|apply qB|apply qG|refine qD ?_ (qC.ge HI0.out)|refine qD ?_ GE215.out|refine qD ?_ GE216.out)|exact HB.out));rintro e w11 ⟨v218,rfl,ho0,hi,hb,hk⟩;refine ⟨_,rfl,?_⟩;have n0_:=qA.mk (qL.blk hk (g':=gb215) (o:=.cells #[.int .i64 0,.slice none 0 0,.slice none 0 0] 49 (0,0)) (by (with_reducible repeat (first|refine qF ?_ _|refine qI ?_|refine qE ?_ _));exact BK215.out) NB215_0.out (by simp));have n1_:=qA.mk (qL.blk hk (g':=gb216) (o:=.cells #[.int .i64 0,.slice none 0 0,.slice none 0 0] 49 (0,0)) (by (with_reducible repeat (first|refine qF ?_ _|refine qI ?_|refine qE ?_ _));exact BK216.out) NB216_0.out (by simp));have n2_:=qA.mk (Kd.vL ho0 (jG (w:=w) (g:=g) (row:=none) (by repeat (first|(with_reducible first|exact HK.out|apply qL.set_|apply qP|apply qR|apply qO|refine qM ?_ GW215.out _|refine qM ?_ GW216.out _)|exact HK.out))));have n3_:=qA.mk (qL.trans (by repeat (first|(with_reducible first|exact HK.out|apply qL.set_|apply qP|apply qR|apply qO|refine qM ?_ GW215.out _|refine qM ?_ GW216.out _)|exact HK.out)) hk (.inl rfl));have n4_:=qA.mk (hb);have n5_:=qA.mk (hi);clear BK215;clear BK216;clear HK;clear HB;clear HI0;have BK215:=n0_;have BK216:=n1_;have HO219:=n2_;have HK:=n3_;have HB:=n4_;have HI0:=n5_;clear n0_ n1_ n2_ n3_ n4_ n5_;(try clear hb);(try clear hb2);(try clear hk);(try clear hi);(try clear ho0))|((with_reducible refine q8 (f:=30) rfl ?_);refine jB (some 19) rfl rfl Try.func30 (by kernel_rfl) rfl #[.pointer (some ⟨g,0,none⟩),.int .i64 1,.int .i64 ji5] rfl (by (try simp only [List.map_toArray,List.map_cons,List.map_nil]);first|done|(simp only [hji5];rfl)|rfl|(simp only [List.length_drop,List.length_take];rfl)) ?_;(with_reducible refine (zO.calls g s0_0 t220 1 ji5 t221 t222 w0 _ ?side1 ?side2 A6.out).mono ?_);(case side1=>repeat (first|(with_reducible first|exact HI0.out|apply qC.alloc|apply qC.drewN|apply qC.drew|apply qC.zM|refine qC.far ?_ NB0_215.out _|refine qC.far ?_ NB0_216.out _)|exact HI0.out));(case side2=>repeat (first|(with_reducible first|exact HB.out|apply qH|apply qB|apply qG|refine qD ?_ (qC.ge HI0.out)|refine qD ?_ GE215.out|refine qD ?_ GE216.out)|exact HB.out));rintro e w12 ⟨rfl,hi,hb,hk⟩;refine ⟨_,rfl,?_⟩;have n0_:=qA.mk (qL.blk hk (g':=gb215) (o:=.cells #[.int .i64 0,.slice none 0 0,.slice none 0 0] 49 (0,0)) (by (with_reducible repeat (first|refine qF ?_ _|refine qI ?_|refine qE ?_ _));exact BK215.out) NB215_0.out (by simp));have n1_:=qA.mk (qL.blk hk (g':=gb216) (o:=.cells #[.int .i64 0,.slice none 0 0,.slice none 0 0] 49 (0,0)) (by (with_reducible repeat (first|refine qF ?_ _|refine qI ?_|refine qE ?_ _));exact BK216.out) NB216_0.out (by simp));have n2_:=qA.mk (Kd.zN (Kd.vO (qC.apart (show qC w0 _ g s0_0 t220 from by repeat (first|(with_reducible first|exact HI0.out|apply qC.alloc|apply qC.drewN|apply qC.drew|apply qC.zM|refine qC.far ?_ NB0_215.out _|refine qC.far ?_ NB0_216.out _)|exact HI0.out)) (by (with_reducible repeat (first|apply Kd.qX|apply Kd.qW|apply Kd.zC));exact HO219.out) (by decide)) hk (fun _ h=>h.2)) (fun _ h=>h.1));have n3_:=qA.mk (qL.trans (by repeat (first|(with_reducible first|exact HK.out|apply qL.set_|apply qP|apply qR|apply qO|refine qM ?_ GW215.out _|refine qM ?_ GW216.out _)|exact HK.out)) hk (.inl rfl));have n4_:=qA.mk (hb);have n5_:=qA.mk (hi);clear BK215;clear BK216;clear HO219;clear HK;clear HB;clear HI0;have BK215:=n0_;have BK216:=n1_;have HO219:=n2_;have HK:=n3_;have HB:=n4_;have HI0:=n5_;clear n0_ n1_ n2_ n3_ n4_ n5_;(try clear hb);(try clear hb2);(try clear hk);(try clear hi);obtain ⟨Ao13,co13,eo13⟩:=Kd.j4 HO219.out;subst eo13;have q14 : (t221 : Int) ≤ ((t217.length : Int) : Int):=of_decide_eq_true (by first|(with_reducible assumption)|assumption);obtain ⟨i014,hi014,_,hsz14,_⟩:=info_parts info3;have hcut14:=cut_to (P:=Try.prog) 22 3 .i64 Try.underlying22 hi014 Ao13 t217.length co13 t221 (of_decide_eq_true (by first|(with_reducible assumption)|assumption)) q14 (Kd.jZ HO219.out).2.1;have hr14:=Kd.R_take (m:=(t221 : Int).toNat) HO219.out (by omega);have hy14 : y223.length = (t221 : Int).toNat:=(by rw [Ny223.out,List.length_take];omega);rw [← Ny223.out] at hr14;rw [← hy14] at hr14 hcut14;clear hy14 hi014 hsz14 HO219;have HO225:=qA.mk hr14;clear hr14;replace q14:=eq_true q14))
   go_loopg [22] k (fun kq v22 w'=>∃ (x22_1 : Int) (x217001_1 : List Int) (u217001 : Value),v22 = .int .i64 x22_1∧qA (zF.l0 kq a1 a2 y223 (y223.length : Int) x22_1 s0_0 t222 0 x217001_1 = some (r1,r2,r3,r4))∧qA (kq ≤ k)∧qA (Kd.R (Kd.int .i64) 3 w' w.heap.size (fun k_=>some k_≠(u217001 : Value).ownBlock) (.slice Ao13 y223.length co13) y223)∧qA (Kd.R (Kd.int .i64) 3 w' w.heap.size (fun k_=>some k_≠((.slice Ao13 y223.length co13) : Value).ownBlock) u217001 x217001_1)∧qA (w'.heap[gb215]? = some (.cells #[.int .i64 0,(.slice none 0 0),(.slice none 0 0)] 49 (0,0)))∧qA (w'.heap[gb216]? = some (.cells #[.int .i64 0,u217001,(.slice none 0 0)] 49 (0,0)))∧qA (qC w0 w' g s0_0 t222)∧qA (qL w w' g none)∧qA (Below w0.heap.size w0 w'))
   case atStart=>exact ⟨(0),(([] : List Int)),(.slice none 0 0),(by first|rfl|(simp;done)|(simp [*];done)),H',⟨Nat.le_refl _⟩,⟨by (with_reducible repeat (first|apply Kd.qX|apply Kd.qW|apply Kd.zC));exact Kd.zN HO225.out (fun _ hk=>(by simp [Value.ownBlock]))⟩,⟨by first|exact Kd.uT _ _ _ _ _|exact Kd.N_nil _ _ _ _ _|exact Kd.V_nil _ _ _ _ _|exact Kd.Q_nil _ _ _ _ _|exact Kd.S_nil _ _ _ _ _⟩,⟨by (with_reducible repeat (first|refine qF ?_ _|refine qI ?_|refine qE ?_ _));exact BK215.out⟩,⟨by (with_reducible repeat (first|refine qF ?_ _|refine qI ?_|refine qE ?_ _));exact BK216.out⟩,⟨by repeat (first|(with_reducible first|exact HI0.out|apply qC.alloc|apply qC.drewN|apply qC.drew|apply qC.zM|refine qC.far ?_ NB0_215.out _|refine qC.far ?_ NB0_216.out _)|exact HI0.out)⟩,⟨by repeat (first|(with_reducible first|exact HK.out|apply qL.set_|apply qP|apply qR|apply qO|refine qM ?_ GW215.out _|refine qM ?_ GW216.out _)|exact HK.out)⟩,⟨by repeat (first|(with_reducible first|exact HB.out|apply qH|apply qB|apply qG|refine qD ?_ (qC.ge HI0.out)|refine qD ?_ GE215.out|refine qD ?_ GE216.out)|exact HB.out)⟩⟩
   case round =>
    clear H'
    try clear q1
    try clear c2
    try clear p2
    try clear c3
    try clear c4
    try clear c7
    try clear c7b0
    try clear c7b1
    try clear c8
    try clear c8b0
    try clear c8b1
    try clear q14
    try clear q14
    obtain ⟨x22_1,x217001_1,u217001,rfl,HA,HK1,HO_20,HO_217001,BK215,BK216,HI0,HK,HB⟩:=hrel
    cases gk with
    | zero=>exact absurd HA.out (by simp [zF.l0])
    | succ k1 =>
     have H:=HA.out
     clear HA
     simp only [zF.l0] at H
     by_cases c15 : x22_1 < (y223.length : Int)
     ·rw [if_pos c15] at H
      have c15b0 : decide (x22_1 < (y223.length : Int)) = true:=decide_eq_true c15
      clear c15
      by_cases c16 : 0 ≤ x22_1
      ·rw [if_pos c16] at H
       have c16b0 : decide (0 ≤ x22_1) = true:=decide_eq_true c16
       clear c16
       by_cases c17 : x22_1 < (y223.length : Int)
       ·rw [if_pos c17] at H
        have c17b0 : decide (x22_1 < (y223.length : Int)) = true:=decide_eq_true c17
        clear c17
        by_cases c18 : x217001_1.length < 17592186044416
        ·rw [if_pos c18] at H
         have LMc18:=qA.mk c18
         clear c18
         obtain ⟨y227,hy227⟩ : ∃ y_ : List Int,y_ = (x217001_1 ++ [rd y223 x22_1]):=⟨_,rfl⟩
         replace H : (zF.l0 k1 a1 a2 y223 (y223.length : Int) (wrap64 (x22_1 + 1)) s0_0 t222 0 y227) = some (r1,r2,r3,r4):=by first|(rw [hy227];with_reducible exact H)|(have H2_:=(Option.bind_some _ _).symm.trans H;rw [hy227];with_reducible exact H2_)|(have H2_:=(Option.bind_some _ _).symm.trans H;with_reducible exact H2_)|with_reducible exact H|(rw [hy227];exact H)|exact H
         have Ny227:=qA.mk hy227
         clear hy227
         have H':=qA.mk H
         clear H
         have p226 : 0 ≤ (x22_1 : Int):=of_decide_eq_true (by first|(with_reducible assumption)|assumption)
         have q226 : x22_1 < (y223.length : Int):=of_decide_eq_true (by first|(with_reducible assumption)|assumption)
         obtain ⟨ad226,e226,hx226_0⟩:=Kd.uP (Kd.jZ HO_20.out).2.2 x22_1 p226 q226
         cases e226
         replace p226:=eq_true p226
         replace q226:=eq_true q226
         have hnb19:=NB216_215.out
         have hnc19:=NB215_216.out
         have hnb20:=NB216_0.out
         have hnc20:=NB0_216.out
         have hcz21_0 : wr.cell? ⟨gb216,0,none⟩ = some (.int .i64 0):=(qK BK216.out 0).trans rfl
         have hcz21_1 : wr.cell? ⟨gb216,1,none⟩ = some (u217001):=(qK BK216.out 1).trans rfl
         have hcz21_2 : wr.cell? ⟨gb216,2,none⟩ = some (.slice none 0 0):=(qK BK216.out 2).trans rfl
         have hfz21_0:=qJ BK216.out 0
         have hfz21_1:=qJ BK216.out 1
         have hfz21_2:=qJ BK216.out 2
         go_wp2_with (first|((with_reducible refine vQ (b:=.append) (xs:=#[.tmp 27,.tmp 29]) rfl ?_);at_builtin;refine Kd.uO (Kd.int .i64) w.heap.size rfl (.tmp 27) (.tmp 29) 22 3 (.int .i64 0) 8 rfl Try.underlying22 info3 rfl (by decide) (by omega) u217001 x217001_1 (rd y223 x22_1) [.int .i64 (rd y223 x22_1)] (fun k_=>some k_≠(.slice (some ad226) y223.length co13 : Value).ownBlock) (fun _=>False) rfl rfl ?aP (fun _ hk=>hk.elim) ?aF ?aO (Below.refl _ _) ?aS ?aL ?_;(case aP=>exact rfl);(case aF=>exact (fun k_ hk=>Kd.fresh' (Kd.R_lt (by (with_reducible repeat (first|apply Kd.qX|apply Kd.qW|apply Kd.zC));exact HO_20.out)) k_ hk));(case aO=>exact (by (with_reducible repeat (first|apply Kd.qX|apply Kd.qW|apply Kd.zC));exact HO_217001.out));(case aS=>exact (jG (w:=w) (g:=g) (row:=none) (by repeat (first|(with_reducible first|exact HK.out|apply qL.set_|apply qP|apply qR|apply qO|refine qM ?_ GW215.out _|refine qM ?_ GW216.out _)|exact HK.out))));(case aL=>have:=LMc18.out;omega);intro v228 w22 ho hb hg hat;rw [← Ny227.out] at ho;have n0_:=qA.mk (Kd.R_after (ok:=(fun _=>True)) (by (with_reducible repeat (first|apply Kd.qX|apply Kd.qW|apply Kd.zC));exact Kd.zN HO_20.out (fun _ hk=>⟨trivial,hk⟩)) hg hat);have n1_:=qA.mk (jX (g:=gb215) (o:=.cells #[.int .i64 0,.slice none 0 0,.slice none 0 0] 49 (0,0)) (by (with_reducible repeat (first|refine qF ?_ _|refine qI ?_|refine qE ?_ _));exact BK215.out) hg (Kd.R_ne HO_217001.out BK215.out (by decide)));have n2_:=qA.mk (jX (g:=gb216) (o:=.cells #[.int .i64 0,u217001,.slice none 0 0] 49 (0,0)) (by (with_reducible repeat (first|refine qF ?_ _|refine qI ?_|refine qE ?_ _));exact BK216.out) hg (Kd.R_ne HO_217001.out BK216.out (by decide)));have n3_:=qA.mk (qC.grown (by repeat (first|(with_reducible first|exact HI0.out|apply qC.alloc|apply qC.drewN|apply qC.drew|apply qC.zM|refine qC.far ?_ NB0_215.out _|refine qC.far ?_ NB0_216.out _)|exact HI0.out)) hg (qC.own_ne HI0.out HO_217001.out (by decide)));have n4_:=qA.mk (uB (by repeat (first|(with_reducible first|exact HB.out|apply qH|apply qB|apply qG|refine qD ?_ (qC.ge HI0.out)|refine qD ?_ GE215.out|refine qD ?_ GE216.out)|exact HB.out)) HL.out hb);have n5_:=qA.mk (qL.trans (by repeat (first|(with_reducible first|exact HK.out|apply qL.set_|apply qP|apply qR|apply qO|refine qM ?_ GW215.out _|refine qM ?_ GW216.out _)|exact HK.out)) (qL.uN hg g) (Kd.kN HO_217001.out));have n6_:=qA.mk (ho);clear HO_20;clear BK215;clear BK216;clear HI0;clear HB;clear HK;clear HO_217001;have HO_20:=n0_;have BK215:=n1_;have BK216:=n2_;have HI0:=n3_;have HB:=n4_;have HK:=n5_;have HO229:=n6_;clear n0_ n1_ n2_ n3_ n4_ n5_ n6_;clear ho hb hg hat;obtain ⟨Ao23,co23,eo23⟩:=Kd.j4 HO229.out;subst eo23;have hcz24_0 : w22.cell? ⟨gb216,0,none⟩ = some (.int .i64 0):=(qK BK216.out 0).trans rfl;have hcz24_1 : w22.cell? ⟨gb216,1,none⟩ = some (u217001):=(qK BK216.out 1).trans rfl;have hcz24_2 : w22.cell? ⟨gb216,2,none⟩ = some (.slice none 0 0):=(qK BK216.out 2).trans rfl;have hfz24_0:=qJ BK216.out 0;have hfz24_1:=qJ BK216.out 1;have hfz24_2:=qJ BK216.out 2))
         go_roundg k1
         case measure=>have:=HK1.out;omega
         case rel=>exact ⟨(wrap64 (x22_1 + 1)),(y227),(.slice Ao23 y227.length co23),(by first|rfl|(simp;done)|(simp [*];done)),H',⟨by have:=HK1.out;omega⟩,⟨by (with_reducible repeat (first|apply Kd.qX|apply Kd.qW|apply Kd.zC));exact Kd.zN (Kd.jE (p:=⟨gb216,1,none⟩) (Kd.jY HO_20.out BK216.out (by decide)) (fun _ hk=>hk.2) (.slice Ao23 y227.length co23)) (fun _ hk=>hk.1.2)⟩,⟨by (with_reducible repeat (first|apply Kd.qX|apply Kd.qW|apply Kd.zC));exact Kd.zN (Kd.jE (p:=⟨gb216,1,none⟩) (Kd.jY HO229.out BK216.out (by decide)) (fun _ hk=>hk.2) (.slice Ao23 y227.length co23)) (fun _ hk=>hk.1)⟩,⟨by (with_reducible repeat (first|refine qF ?_ _|refine qI ?_|refine qE ?_ _));refine zU ?_ NB215_216.out _;(with_reducible repeat (first|refine qF ?_ _|refine qI ?_|refine qE ?_ _));exact BK215.out⟩,⟨by (with_reducible repeat (first|refine qF ?_ _|refine qI ?_|refine qE ?_ _));refine zV (cs:=#[.int .i64 0,u217001,.slice none 0 0]) ?_ 1 _ rfl;(with_reducible repeat (first|refine qF ?_ _|refine qI ?_|refine qE ?_ _));exact BK216.out⟩,⟨by repeat (first|(with_reducible first|exact HI0.out|apply qC.alloc|apply qC.drewN|apply qC.drew|apply qC.zM|refine qC.far ?_ NB0_215.out _|refine qC.far ?_ NB0_216.out _)|exact HI0.out)⟩,⟨by repeat (first|(with_reducible first|exact HK.out|apply qL.set_|apply qP|apply qR|apply qO|refine qM ?_ GW215.out _|refine qM ?_ GW216.out _)|exact HK.out)⟩,⟨by repeat (first|(with_reducible first|exact HB.out|apply qH|apply qB|apply qG|refine qD ?_ (qC.ge HI0.out)|refine qD ?_ GE215.out|refine qD ?_ GE216.out)|exact HB.out)⟩⟩
        ·rw [if_neg c18] at H
         exact absurd H (by simp)
       ·rw [if_neg c17] at H
        exact absurd H (by simp)
      ·rw [if_neg c16] at H
       exact absurd H (by simp)
     ·rw [if_neg c15] at H
      have c15b0 : decide (x22_1 < (y223.length : Int)) = false:=decide_eq_false c15
      clear c15
      by_cases c25 : a2 > 1
      ·rw [if_pos c25] at H
       have c25b0 : decide (1 < a2) = true:=decide_eq_true c25
       clear c25
       obtain ⟨y230,hy230⟩ : ∃ y_ : List Int,y_ = (([0,0,1,1,2,3] : List Int)):=⟨_,rfl⟩
       replace H : ((jW.f s0_0 t222 y230).bind fun bt233=>(zF.l1 k1 a1 a2 bt233.1 s0_0 bt233.2 0 x217001_1 ([] : List (S49)))) = some (r1,r2,r3,r4):=by first|(rw [hy230];with_reducible exact H)|(have H2_:=(Option.bind_some _ _).symm.trans H;rw [hy230];with_reducible exact H2_)|(have H2_:=(Option.bind_some _ _).symm.trans H;with_reducible exact H2_)|with_reducible exact H|(rw [hy230];exact H)|exact H
       have Ny230:=qA.mk hy230
       clear hy230
       replace H:=Option.bind_eq_some_iff.mp H
       obtain ⟨⟨t233,t234⟩,A260,H⟩:=H
       replace H : (zF.l1 k1 a1 a2 t233 s0_0 t234 0 x217001_1 ([] : List (S49))) = some (r1,r2,r3,r4):=H
       have A26:=qA.mk A260
       clear A260
       have H':=qA.mk H
       clear H
       go_wp2_with (first|((with_reducible refine jH (N:=36) rfl ?_);refine Kd.R_lit (Kd.int .i64) _ 3 ?hg (N:=36) ?hd (xs:=([0,0,1,1,2,3] : List Int)) (inner:=[.int .i64 0,.int .i64 0,.int .i64 1,.int .i64 1,.int .i64 2,.int .i64 3]) (ok:=fun _=>True) (okp:=fun _=>True) ?hr ?hp (fun _ hk=>hk) trivial (Below.refl _ _) (Nat.le_refl _) (by simp) ?_;(case hd=>rfl);(case hg=>rfl);(case hr=>first|(go_simp;done)|(go_simp;rfl));(case hp=>exact (Reps.one (show Kd.M (Kd.int .i64) _ _ _ 0 [.int .i64 0] from rfl) (Reps.one (show Kd.M (Kd.int .i64) _ _ _ 0 [.int .i64 0] from rfl) (Reps.one (show Kd.M (Kd.int .i64) _ _ _ 1 [.int .i64 1] from rfl) (Reps.one (show Kd.M (Kd.int .i64) _ _ _ 1 [.int .i64 1] from rfl) (Reps.one (show Kd.M (Kd.int .i64) _ _ _ 2 [.int .i64 2] from rfl) (Reps.one (show Kd.M (Kd.int .i64) _ _ _ 3 [.int .i64 3] from rfl) (Reps.none _ _))))))));intro v231 w27 ho28 hb hg_ hnew_;clear hg_ hnew_;(first|rw [← Ny230.out] at ho28|(simp only [Int.reduceToNat] at ho28;rw [← Ny230.out] at ho28));have n0_:=qA.mk (Kd.uH (by (with_reducible repeat (first|apply Kd.qX|apply Kd.qW|apply Kd.zC));exact HO_20.out) (Kd.vG ho28) hb);have n1_:=qA.mk (Kd.uH (by (with_reducible repeat (first|apply Kd.qX|apply Kd.qW|apply Kd.zC));exact HO_217001.out) (Kd.vG ho28) hb);have n2_:=qA.mk (Kd.vL (Kd.uX (Kd.uX ho28 (Kd.R_lt (by (with_reducible repeat (first|apply Kd.qX|apply Kd.qW|apply Kd.zC));exact HO_20.out))) (Kd.R_lt (by (with_reducible repeat (first|apply Kd.qX|apply Kd.qW|apply Kd.zC));exact HO_217001.out))) (jG (w:=w) (g:=g) (row:=none) (by repeat (first|(with_reducible first|exact HK.out|apply qL.set_|apply qP|apply qR|apply qO|refine qM ?_ GW215.out _|refine qM ?_ GW216.out _)|exact HK.out))));have n3_:=qA.mk (zD (g:=gb215) (o:=.cells #[.int .i64 0,.slice none 0 0,.slice none 0 0] 49 (0,0)) (by (with_reducible repeat (first|refine qF ?_ _|refine qI ?_|refine qE ?_ _));exact BK215.out) hb);have n4_:=qA.mk (zD (g:=gb216) (o:=.cells #[.int .i64 0,u217001,.slice none 0 0] 49 (0,0)) (by (with_reducible repeat (first|refine qF ?_ _|refine qI ?_|refine qE ?_ _));exact BK216.out) hb);have n5_:=qA.mk (qC.below (by repeat (first|(with_reducible first|exact HI0.out|apply qC.alloc|apply qC.drewN|apply qC.drew|apply qC.zM|refine qC.far ?_ NB0_215.out _|refine qC.far ?_ NB0_216.out _)|exact HI0.out)) hb);have n6_:=qA.mk (qL.trans (by repeat (first|(with_reducible first|exact HK.out|apply qL.set_|apply qP|apply qR|apply qO|refine qM ?_ GW215.out _|refine qM ?_ GW216.out _)|exact HK.out)) (qL.of_below hb g none) (.inl rfl));have n7_:=qA.mk (qN (by repeat (first|(with_reducible first|exact HB.out|apply qH|apply qB|apply qG|refine qD ?_ (qC.ge HI0.out)|refine qD ?_ GE215.out|refine qD ?_ GE216.out)|exact HB.out)) hb);clear HO_20;clear HO_217001;clear BK215;clear BK216;clear HI0;clear HK;clear HB;have HO_20:=n0_;have HO_217001:=n1_;have HO232:=n2_;have BK215:=n3_;have BK216:=n4_;have HI0:=n5_;have HK:=n6_;have HB:=n7_;clear n0_ n1_ n2_ n3_ n4_ n5_ n6_ n7_;clear hb ho28;obtain ⟨Ao29,co29,eo29⟩:=Kd.j4 HO232.out;subst eo29)|((with_reducible refine q8 (f:=34) rfl ?_);refine jB (some 37) rfl rfl Try.func34 (by kernel_rfl) rfl #[.pointer (some ⟨g,0,none⟩),.slice Ao29 y230.length co29] rfl (by (try simp only [List.map_toArray,List.map_cons,List.map_nil]);first|done|rfl|(simp only [List.length_drop,List.length_take];rfl)|(simp only [List.length_nil,Int.natCast_zero,Int.zero_add,Int.ofNat_zero];rfl)) ?_;(with_reducible refine (jW.calls g s0_0 t222 _ _ y230 t233 t234 w0 _ ?side1 ?side2 ?side3 ?side4 ?side5 A26.out).mono ?_);(case side1=>repeat (first|(with_reducible first|exact HI0.out|apply qC.alloc|apply qC.drewN|apply qC.drew|apply qC.zM|refine qC.far ?_ NB0_215.out _|refine qC.far ?_ NB0_216.out _)|exact HI0.out));(case side2=>repeat (first|(with_reducible first|exact HB.out|apply qH|apply qB|apply qG|refine qD ?_ (qC.ge HI0.out)|refine qD ?_ GE215.out|refine qD ?_ GE216.out)|exact HB.out));(case side3=>repeat (first|exact (Kd.jZ HO232.out).2.2|(with_reducible refine Kd.jK ?_ _)|(with_reducible refine Kd.jJ ?_ _)|(with_reducible refine Kd.jV ?_)));(case side4=>exact (Kd.jZ HO232.out).2.1);(case side5=>exact far_slice (qC.own_ne HI0.out HO232.out (by decide)));rintro e w30 ⟨rfl,hi,hb,hk⟩;refine ⟨_,rfl,?_⟩;have n0_:=qA.mk (Kd.zN (Kd.vO (qC.apart (show qC w0 _ g s0_0 t222 from by repeat (first|(with_reducible first|exact HI0.out|apply qC.alloc|apply qC.drewN|apply qC.drew|apply qC.zM|refine qC.far ?_ NB0_215.out _|refine qC.far ?_ NB0_216.out _)|exact HI0.out)) (by (with_reducible repeat (first|apply Kd.qX|apply Kd.qW|apply Kd.zC));exact HO_20.out) (by decide)) hk (fun _ h=>h.2)) (fun _ h=>h.1));have n1_:=qA.mk (Kd.zN (Kd.vO (qC.apart (show qC w0 _ g s0_0 t222 from by repeat (first|(with_reducible first|exact HI0.out|apply qC.alloc|apply qC.drewN|apply qC.drew|apply qC.zM|refine qC.far ?_ NB0_215.out _|refine qC.far ?_ NB0_216.out _)|exact HI0.out)) (by (with_reducible repeat (first|apply Kd.qX|apply Kd.qW|apply Kd.zC));exact HO_217001.out) (by decide)) hk (fun _ h=>h.2)) (fun _ h=>h.1));have n2_:=qA.mk (qL.blk hk (g':=gb215) (o:=.cells #[.int .i64 0,.slice none 0 0,.slice none 0 0] 49 (0,0)) (by (with_reducible repeat (first|refine qF ?_ _|refine qI ?_|refine qE ?_ _));exact BK215.out) NB215_0.out (by simp));have n3_:=qA.mk (qL.blk hk (g':=gb216) (o:=.cells #[.int .i64 0,u217001,.slice none 0 0] 49 (0,0)) (by (with_reducible repeat (first|refine qF ?_ _|refine qI ?_|refine qE ?_ _));exact BK216.out) NB216_0.out (by simp));have n4_:=qA.mk (Kd.zN (Kd.vO (qC.apart (show qC w0 _ g s0_0 t222 from by repeat (first|(with_reducible first|exact HI0.out|apply qC.alloc|apply qC.drewN|apply qC.drew|apply qC.zM|refine qC.far ?_ NB0_215.out _|refine qC.far ?_ NB0_216.out _)|exact HI0.out)) (by (with_reducible repeat (first|apply Kd.qX|apply Kd.qW|apply Kd.zC));exact HO232.out) (by decide)) hk (fun _ h=>h.2)) (fun _ h=>h.1));have n5_:=qA.mk (qL.trans (by repeat (first|(with_reducible first|exact HK.out|apply qL.set_|apply qP|apply qR|apply qO|refine qM ?_ GW215.out _|refine qM ?_ GW216.out _)|exact HK.out)) hk (.inl rfl));have n6_:=qA.mk (hb);have n7_:=qA.mk (hi);clear HO_20;clear HO_217001;clear BK215;clear BK216;clear HO232;clear HK;clear HB;clear HI0;have HO_20:=n0_;have HO_217001:=n1_;have BK215:=n2_;have BK216:=n3_;have HO232:=n4_;have HK:=n5_;have HB:=n6_;have HI0:=n7_;clear n0_ n1_ n2_ n3_ n4_ n5_ n6_ n7_;(try clear hb);(try clear hb2);(try clear hk);(try clear hi)))
       go_loopg [11] k1 (fun kq v11 w'=>∃ (x11_2 : Int) (x1001_2 : Int) (x217002_2 : List (S49)) (u217002 : Value),v11 = .int .i64 x11_2∧qA (zF.l1 kq a1 a2 x11_2 s0_0 x1001_2 0 x217001_1 x217002_2 = some (r1,r2,r3,r4))∧qA (kq ≤ k1)∧qA (Kd.R (Kd.int .i64) 3 w' w.heap.size (fun _=>True) u217001 x217001_1)∧qA (Kd.R k49 49 w' w.heap.size (fun k_=>some k_≠(u217001 : Value).ownBlock∧k_≠gb215∧k_≠gb216) u217002 x217002_2)∧qA (w'.heap[gb215]? = some (.cells #[.int .i64 0,(.slice none 0 0),(.slice none 0 0)] 49 (0,0)))∧qA (w'.heap[gb216]? = some (.cells #[.int .i64 0,u217001,u217002] 49 (0,0)))∧qA (qC w0 w' g s0_0 x1001_2)∧qA (qL w w' g none)∧qA (Below w0.heap.size w0 w'))
       case atStart=>exact ⟨(t233),(t234),(([] : List (S49))),(.slice none 0 0),(by first|rfl|(simp;done)|(simp [*];done)),H',⟨Nat.le_refl _⟩,⟨by (with_reducible repeat (first|apply Kd.qX|apply Kd.qW|apply Kd.zC));exact Kd.zN HO_217001.out (fun _ hk=>trivial)⟩,⟨by first|exact Kd.uT _ _ _ _ _|exact Kd.N_nil _ _ _ _ _|exact Kd.V_nil _ _ _ _ _|exact Kd.Q_nil _ _ _ _ _|exact Kd.S_nil _ _ _ _ _⟩,⟨by (with_reducible repeat (first|refine qF ?_ _|refine qI ?_|refine qE ?_ _));exact BK215.out⟩,⟨by (with_reducible repeat (first|refine qF ?_ _|refine qI ?_|refine qE ?_ _));exact BK216.out⟩,⟨by repeat (first|(with_reducible first|exact HI0.out|apply qC.alloc|apply qC.drewN|apply qC.drew|apply qC.zM|refine qC.far ?_ NB0_215.out _|refine qC.far ?_ NB0_216.out _)|exact HI0.out)⟩,⟨by repeat (first|(with_reducible first|exact HK.out|apply qL.set_|apply qP|apply qR|apply qO|refine qM ?_ GW215.out _|refine qM ?_ GW216.out _)|exact HK.out)⟩,⟨by repeat (first|(with_reducible first|exact HB.out|apply qH|apply qB|apply qG|refine qD ?_ (qC.ge HI0.out)|refine qD ?_ GE215.out|refine qD ?_ GE216.out)|exact HB.out)⟩⟩
       case round =>
        clear H'
        try clear c1
        try clear q1
        try clear c2
        try clear p2
        try clear q2
        try clear hx2
        try clear c3
        try clear c4
        try clear p6
        try clear c7
        try clear c7b0
        try clear c7b1
        try clear c8
        try clear c8b0
        try clear c8b1
        try clear q14
        try clear c15
        try clear c15b0
        try clear c16
        try clear c16b0
        try clear c17
        try clear c17b0
        try clear c18
        try clear c19
        try clear c20
        try clear c21
        try clear p22
        try clear q22
        try clear hx22
        try clear c25
        try clear c25b0
        try clear c30
        try clear hcz21_0
        try clear hcz21_1
        try clear hcz21_2
        try clear hcz24_0
        try clear hcz24_1
        try clear hcz24_2
        try clear hfz21_0
        try clear hfz21_1
        try clear hfz21_2
        try clear hfz24_0
        try clear hfz24_1
        try clear hfz24_2
        try clear hx226_0
        try clear p2
        try clear p226
        try clear q1
        try clear q14
        try clear q226
        obtain ⟨x11_2,x1001_2,x217002_2,u217002,rfl,HA,HK2,HO_217001,HO_217002,BK215,BK216,HI0,HK,HB⟩:=hrel
        cases gk with
        | zero=>exact absurd HA.out (by simp [zF.l1])
        | succ k2 =>
         have H:=HA.out
         clear HA
         simp only [zF.l1] at H
         by_cases c31 : x11_2 > 0
         ·rw [if_pos c31] at H
          have c31b0 : decide (0 < x11_2) = true:=decide_eq_true c31
          clear c31
          replace H:=Option.bind_eq_some_iff.mp H
          obtain ⟨⟨t235,t236,t239,t242⟩,A320,H⟩:=H
          replace H : (if x217002_2.length < 2513169434916 then (zF.l1 k2 a1 a2 (wrap64 (x11_2 - 1)) s0_0 t242 0 x217001_1 (x217002_2 ++ [(⟨t235,t236,t239⟩ : S49)])) else (none)) = some (r1,r2,r3,r4):=H
          have A32:=qA.mk A320
          clear A320
          by_cases c33 : x217002_2.length < 2513169434916
          ·rw [if_pos c33] at H
           have LMc33:=qA.mk c33
           clear c33
           obtain ⟨y243,hy243⟩ : ∃ y_ : List (S49),y_ = (x217002_2 ++ [(⟨t235,t236,t239⟩ : S49)]):=⟨_,rfl⟩
           replace H : (zF.l1 k2 a1 a2 (wrap64 (x11_2 - 1)) s0_0 t242 0 x217001_1 y243) = some (r1,r2,r3,r4):=by first|(rw [hy243];with_reducible exact H)|(have H2_:=(Option.bind_some _ _).symm.trans H;rw [hy243];with_reducible exact H2_)|(have H2_:=(Option.bind_some _ _).symm.trans H;with_reducible exact H2_)|with_reducible exact H|(rw [hy243];exact H)|exact H
           have Ny243:=qA.mk hy243
           clear hy243
           have H':=qA.mk H
           clear H
           try go_wp2
           have n0_:=qA.mk (Kd.zC HO_217001.out)
           have n1_:=qA.mk (Kd.zC HO_217002.out)
           have n2_:=qA.mk (qI BK215.out)
           have n3_:=qA.mk (qI BK216.out)
           have n4_:=qA.mk (qC.drew HI0.out)
           have n5_:=qA.mk (qR HK.out)
           have n6_:=qA.mk (qG HB.out)
           clear HO_217001
           clear HO_217002
           clear BK215
           clear BK216
           clear HI0
           clear HK
           clear HB
           have HO_217001:=n0_
           have HO_217002:=n1_
           have BK215:=n2_
           have BK216:=n3_
           have HI0:=n4_
           have HK:=n5_
           have HB:=n6_
           clear n0_ n1_ n2_ n3_ n4_ n5_ n6_
           refine start_ (n:=11) (S:=fun w'=>w'.cell? ⟨gb216,0,none⟩ = some (.int .i64 0)∧w'.cell? ⟨gb216,1,none⟩ = some (u217001)∧w'.cell? ⟨gb216,2,none⟩ = some (u217002)) (ds:=[10]) #[false,false,false,false,false,false,false,false,false,false,false] (by kernel_rfl) rfl rfl ⟨(qK BK216.out 0).trans rfl,(qK BK216.out 1).trans rfl,(qK BK216.out 2).trans rfl⟩ (fun hHeld=>?_);refine kK zF.tab12 zF.bits12 (fun HT_ HW_=>?_)
           generalize wr.drew = w34 at HO_217001 HO_217002 BK215 BK216 HI0 HK HB hHeld ⊢
           refine jQ (i:=0) (N:=some 42) (v:=?_) (a':=?_) #[true,false,false,false,false,false,false,false,false,false,false] rfl rfl (zX HT_.out (by kernel_rfl)) (fun _ _ _ h=>h) (Or.inl ⟨by rfl,?_⟩) ?_ ?_
           rotate_left
           ·intro w'
            go_simp
            with_reducible rfl
           rotate_left
           ·simp only [Act.put,List.setIfInBounds_toArray,List.set_cons_zero,List.set_cons_succ,zT,zW]
            rfl
           refine jQ (i:=2) (N:=some 44) (v:=?_) (a':=?_) #[true,false,true,false,false,false,false,false,false,false,false] rfl rfl (zX HT_.out (by kernel_rfl)) (fun _ _ _ h=>h) (Or.inl ⟨by rfl,?_⟩) ?_ ?_
           rotate_left
           ·intro w'
            go_simp
            with_reducible rfl
           rotate_left
           ·simp only [Act.put,List.setIfInBounds_toArray,List.set_cons_zero,List.set_cons_succ,zT,zW]
            rfl
           refine jQ (i:=3) (N:=some 45) (v:=?_) (a':=?_) #[true,false,true,true,false,false,false,false,false,false,false] rfl rfl (zX HT_.out (by kernel_rfl)) (fun _ _ _ h=>h) (Or.inl ⟨by rfl,?_⟩) ?_ ?_
           rotate_left
           ·intro w'
            go_simp
            with_reducible rfl
           rotate_left
           ·simp only [Act.put,List.setIfInBounds_toArray,List.set_cons_zero,List.set_cons_succ,zT,zW]
            rfl
           refine jQ (i:=4) (N:=some 46) (v:=?_) (a':=?_) #[true,false,true,true,true,false,false,false,false,false,false] rfl rfl (zX HT_.out (by kernel_rfl)) (fun _ _ _ h=>h) (Or.inl ⟨by rfl,?_⟩) ?_ ?_
           rotate_left
           ·intro w'
            go_simp
            with_reducible rfl
           rotate_left
           ·simp only [Act.put,List.setIfInBounds_toArray,List.set_cons_zero,List.set_cons_succ,zT,zW]
            rfl
           refine jQ (i:=5) (N:=some 47) (v:=?_) (a':=?_) #[true,false,true,true,true,true,false,false,false,false,false] rfl rfl (zX HT_.out (by kernel_rfl)) (fun _ _ _ h=>h) (Or.inl ⟨by rfl,?_⟩) ?_ ?_
           rotate_left
           ·intro w'
            go_simp
            with_reducible rfl
           rotate_left
           ·simp only [Act.put,List.setIfInBounds_toArray,List.set_cons_zero,List.set_cons_succ,zT,zW]
            rfl
           refine uQ (i:=1) (N:=some 43) (v:=?_) (a':=?_) #[true,true,true,true,true,true,false,false,false,false,false] rfl rfl (vV HT_.out HW_.out (by kernel_rfl)) (fun _ _ _ h=>h) (Or.inl ⟨by rfl,?_⟩) hHeld ?_ ?_
           rotate_left
           ·rintro w' ⟨s0,s1,s2⟩
            go_simp
            with_reducible rfl
           rotate_left
           ·simp only [Act.put,List.setIfInBounds_toArray,List.set_cons_zero,List.set_cons_succ,zT,zW]
            rfl
           refine one_ (i:=6) (N:=some 48) #[true,true,true,true,true,true,true,false,false,false,false] rfl rfl (uA HT_.out (by kernel_rfl)) (by decide) (fun K hK=>?_)
           refine kI Try.func45 (by kernel_rfl) rfl #[.pointer (some ⟨g,0,none⟩),.int .i64 a1,.int .i64 (wrap64 (a2 - 1))] (by rfl) rfl rfl (by (try simp only [List.map_toArray,List.map_cons,List.map_nil]);first|done|rfl|(simp only [List.length_drop,List.length_take];rfl)|(simp only [List.length_nil,Int.natCast_zero,Int.zero_add,Int.ofNat_zero];rfl)) ?_
           with_reducible refine (ih k2 (by have:=HK1.out;have:=HK2.out;omega) g s0_0 x1001_2 a1 (wrap64 (a2 - 1)) t235 t236 t239 t242 w0 _ ?side1 ?side2 A32.out).mono ?_
           (case side1=>repeat (first|(with_reducible first|exact HI0.out|apply qC.alloc|apply qC.drewN|apply qC.drew|apply qC.zM|refine qC.far ?_ NB0_215.out _|refine qC.far ?_ NB0_216.out _)|exact HI0.out))
           (case side2=>repeat (first|(with_reducible first|exact HB.out|apply qH|apply qB|apply qG|refine qD ?_ (qC.ge HI0.out)|refine qD ?_ GE215.out|refine qD ?_ GE216.out)|exact HB.out))
           rintro e w35 ⟨v237,v240,rfl,ho0,ho1,hi,hb,hk⟩
           refine ⟨_,rfl,?_⟩
           have n0_:=qA.mk (Kd.zN (Kd.kP (Kd.R_oldK (qC.apart (show qC w0 _ g s0_0 x1001_2 from by repeat (first|(with_reducible first|exact HI0.out|apply qC.alloc|apply qC.drewN|apply qC.drew|apply qC.zM|refine qC.far ?_ NB0_215.out _|refine qC.far ?_ NB0_216.out _)|exact HI0.out)) (by (with_reducible repeat (first|apply Kd.qX|apply Kd.qW|apply Kd.zC));exact HO_217001.out) (by decide)) hk) (Kd.vG ho0)) (fun _ h_=>h_.1))
           have n1_:=qA.mk (Kd.zN (Kd.kP (Kd.kP (Kd.R_oldK (qC.apart (show qC w0 _ g s0_0 x1001_2 from by repeat (first|(with_reducible first|exact HI0.out|apply qC.alloc|apply qC.drewN|apply qC.drew|apply qC.zM|refine qC.far ?_ NB0_215.out _|refine qC.far ?_ NB0_216.out _)|exact HI0.out)) (by (with_reducible repeat (first|apply Kd.qX|apply Kd.qW|apply Kd.zC));exact HO_217002.out) (by decide)) hk) (Kd.vG ho0)) (Kd.vG ho1)) (fun _ h_=>h_.1))
           have n2_:=qA.mk (qL.blk hk (g':=gb215) (o:=.cells #[.int .i64 0,.slice none 0 0,.slice none 0 0] 49 (0,0)) (by (with_reducible repeat (first|refine qF ?_ _|refine qI ?_|refine qE ?_ _));exact BK215.out) NB215_0.out (by simp))
           have n3_:=qA.mk (qL.blk hk (g':=gb216) (o:=.cells #[.int .i64 0,u217001,u217002] 49 (0,0)) (by (with_reducible repeat (first|refine qF ?_ _|refine qI ?_|refine qE ?_ _));exact BK216.out) NB216_0.out (by simp))
           have n4_:=qA.mk (Kd.vL (Kd.uX ho0 (Kd.R_lt (by (with_reducible repeat (first|apply Kd.qX|apply Kd.qW|apply Kd.zC));exact HO_217001.out))) (jG (w:=w) (g:=g) (row:=none) (by repeat (first|(with_reducible first|exact HK.out|apply qL.set_|apply qP|apply qR|apply qO|refine qM ?_ GW215.out _|refine qM ?_ GW216.out _)|exact HK.out))))
           have n5_:=qA.mk (Kd.vL (Kd.R_newB (Kd.R_newB (Kd.uX (Kd.uX ho1 (Kd.R_lt (by (with_reducible repeat (first|apply Kd.qX|apply Kd.qW|apply Kd.zC));exact HO_217001.out))) (Kd.R_lt (by (with_reducible repeat (first|apply Kd.qX|apply Kd.qW|apply Kd.zC));exact HO_217002.out))) (g:=gb215) (o:=.cells #[.int .i64 0,.slice none 0 0,.slice none 0 0] 49 (0,0)) (by (with_reducible repeat (first|refine qF ?_ _|refine qI ?_|refine qE ?_ _));exact BK215.out)) (g:=gb216) (o:=.cells #[.int .i64 0,u217001,u217002] 49 (0,0)) (by (with_reducible repeat (first|refine qF ?_ _|refine qI ?_|refine qE ?_ _));exact BK216.out)) (jG (w:=w) (g:=g) (row:=none) (by repeat (first|(with_reducible first|exact HK.out|apply qL.set_|apply qP|apply qR|apply qO|refine qM ?_ GW215.out _|refine qM ?_ GW216.out _)|exact HK.out))))
           have n6_:=qA.mk (qL.trans (by repeat (first|(with_reducible first|exact HK.out|apply qL.set_|apply qP|apply qR|apply qO|refine qM ?_ GW215.out _|refine qM ?_ GW216.out _)|exact HK.out)) hk (.inl rfl))
           have n7_:=qA.mk (hb)
           have n8_:=qA.mk (hi)
           clear HO_217001
           clear HO_217002
           clear BK215
           clear BK216
           clear HK
           clear HB
           clear HI0
           have HO_217001:=n0_
           have HO_217002:=n1_
           have BK215:=n2_
           have BK216:=n3_
           have HO238:=n4_
           have HO241:=n5_
           have HK:=n6_
           have HB:=n7_
           have HI0:=n8_
           clear n0_ n1_ n2_ n3_ n4_ n5_ n6_ n7_ n8_
           (try clear hb)
           (try clear hb2)
           (try clear hk)
           (try clear hi)
           (try clear ho0)
           (try clear ho1)
           obtain ⟨Ao37,co37,eo37⟩:=Kd.j4 HO238.out
           (first|subst eo37|(injection eo37 with f1_ f2_ f3_;have f4_:=f1_.symm;have f5_:=f3_.symm;clear f1_ f2_ f3_;subst f4_;subst f5_))
           obtain ⟨Ao38,co38,eo38⟩:=Kd.j4 HO241.out
           (first|subst eo38|(injection eo38 with f1_ f2_ f3_;have f4_:=f1_.symm;have f5_:=f3_.symm;clear f1_ f2_ f3_;subst f4_;subst f5_))
           refine hK.out _ _ ⟨(qK BK216.out 0).trans rfl,(qK BK216.out 1).trans rfl,(qK BK216.out 2).trans rfl⟩ (fun hHeld=>?_)
           clear hK K
           refine uU (a':=?_) ?_ ?_
           rotate_left
           ·show Act.put _ (some 48) _ = _
            simp only [Act.put,List.setIfInBounds_toArray,List.set_cons_zero,List.set_cons_succ,zT,zW]
            rfl
           refine one_ (i:=7) (N:=some 49) #[true,true,true,true,true,true,true,true,false,false,false] rfl rfl (uA HT_.out (by kernel_rfl)) (by decide) (fun K hK=>?_)
           refine value_ (w1:=?_) (v:=?_) (by rfl) rfl ?_ ?_
           rotate_left 2
           ·go_simp
            constructor
            ·rfl
            ·rfl
           refine hK.out _ _ ⟨(qK (qE BK216.out _) 0).trans rfl,(qK (qE BK216.out _) 1).trans rfl,(qK (qE BK216.out _) 2).trans rfl⟩ (fun hHeld=>?_)
           clear hK K
           refine uU (a':=?_) ?_ ?_
           rotate_left
           ·show Act.put _ (some 49) _ = _
            simp only [Act.put,List.setIfInBounds_toArray,List.set_cons_zero,List.set_cons_succ,zT,zW]
            rfl
           refine one_ (i:=8) (N:=some 50) #[true,true,true,true,true,true,true,true,true,false,false] rfl rfl (uA HT_.out (by kernel_rfl)) (by decide) (fun K hK=>?_)
           refine Kd.R_append_step k49 w.heap.size (by rfl) (.tmp 43) (.tmp 49) 47 49 (.agg #[(.int .i64 0),(.slice none 0 0),(.slice none 0 0)]) 56 rfl Try.underlying47 info49 rfl (by decide) (by omega) u217002 x217002_2 (⟨t235,t236,t239⟩ : S49) [.int .i64 t235,.slice Ao37 t236.length co37,.slice Ao38 t239.length co38] (fun k_=>some k_≠(u217001 : Value).ownBlock∧k_≠gb215∧k_≠gb216) (fun k_=>((fun k_=>some k_≠(u217001 : Value).ownBlock∧k_≠gb215∧k_≠gb216)) k_∧some k_≠(u217002 : Value).ownBlock) rfl rfl ?aP (fun _ hk=>hk) ?aF ?aO (Below.refl _ _) ?aS ?aL ?_
           (case aP=>exact k49_mkM _ _ _ (⟨t235,t236,t239⟩ : S49) (Kd.zN (Kd.jY (Kd.jY (Kd.R_apart' (HO238.out) (Kd.uY HO_217002.out) (by decide)) BK215.out (by decide)) BK216.out (by decide)) (fun k_ hk=>⟨⟨hk.1.1.1.2,⟨hk.1.2,hk.2⟩⟩,hk.1.1.2⟩)) (Kd.zN (HO241.out) (fun k_ hk=>⟨⟨hk.1.1.1.2,⟨hk.1.2,hk.2⟩⟩,hk.1.1.2⟩)))
           (case aF=>exact (fun k_ hk=>⟨Kd.fresh' (Kd.R_lt (by (with_reducible repeat (first|apply Kd.qX|apply Kd.qW|apply Kd.zC));exact HO_217001.out)) k_ hk,Kd.vU (g:=gb215) (o:=.cells #[.int .i64 0,.slice none 0 0,.slice none 0 0] 49 (0,0)) (by (with_reducible repeat (first|refine qF ?_ _|refine qI ?_|refine qE ?_ _));exact BK215.out) k_ hk,Kd.vU (g:=gb216) (o:=.cells #[.int .i64 0,u217001,u217002] 49 (0,0)) (by (with_reducible repeat (first|refine qF ?_ _|refine qI ?_|refine qE ?_ _));exact BK216.out) k_ hk⟩))
           (case aO=>exact (by (with_reducible repeat (first|apply Kd.qX|apply Kd.qW|apply Kd.zC));exact Kd.zN HO_217002.out (fun _ hk=>⟨hk.1.1.1,⟨hk.1.1.2.1,hk.1.1.2.2⟩⟩)))
           (case aS=>exact (jG (w:=w) (g:=g) (row:=none) (by repeat (first|(with_reducible first|exact HK.out|apply qL.set_|apply qP|apply qR|apply qO|refine qM ?_ GW215.out _|refine qM ?_ GW216.out _)|exact HK.out))))
           (case aL=>have:=LMc33.out;omega)
           intro v244 w36 ho hb hg hat
           rw [← Ny243.out] at ho
           have n0_:=qA.mk (Kd.R_over' (by (with_reducible repeat (first|apply Kd.qX|apply Kd.qW|apply Kd.zC));exact HO_217001.out) (Kd.uY (by (with_reducible repeat (first|apply Kd.qX|apply Kd.qW|apply Kd.zC));exact HO_217002.out)) (by decide) hg)
           have n1_:=qA.mk (jX (g:=gb215) (o:=.cells #[.int .i64 0,.slice none 0 0,.slice none 0 0] 49 (0,0)) (by (with_reducible repeat (first|refine qF ?_ _|refine qI ?_|refine qE ?_ _));exact BK215.out) hg (Kd.R_away HO_217002.out (fun _ hk=>hk.1.1.2.1)))
           have n2_:=qA.mk (jX (g:=gb216) (o:=.cells #[.int .i64 0,u217001,u217002] 49 (0,0)) (by (with_reducible repeat (first|refine qF ?_ _|refine qI ?_|refine qE ?_ _));exact BK216.out) hg (Kd.R_away HO_217002.out (fun _ hk=>hk.1.1.2.2)))
           have n3_:=qA.mk (qC.grown (by repeat (first|(with_reducible first|exact HI0.out|apply qC.alloc|apply qC.drewN|apply qC.drew|apply qC.zM|refine qC.far ?_ NB0_215.out _|refine qC.far ?_ NB0_216.out _)|exact HI0.out)) hg (qC.own_ne HI0.out HO_217002.out (by decide)))
           have n4_:=qA.mk (uB (by repeat (first|(with_reducible first|exact HB.out|apply qH|apply qB|apply qG|refine qD ?_ (qC.ge HI0.out)|refine qD ?_ GE215.out|refine qD ?_ GE216.out)|exact HB.out)) HL.out hb)
           have n5_:=qA.mk (qL.trans (by repeat (first|(with_reducible first|exact HK.out|apply qL.set_|apply qP|apply qR|apply qO|refine qM ?_ GW215.out _|refine qM ?_ GW216.out _)|exact HK.out)) (qL.uN hg g) (Kd.kN HO_217002.out))
           have n6_:=qA.mk (ho)
           clear HO_217001
           clear BK215
           clear BK216
           clear HI0
           clear HB
           clear HK
           clear HO_217002
           clear HO238
           clear HO241
           have HO_217001:=n0_
           have BK215:=n1_
           have BK216:=n2_
           have HI0:=n3_
           have HB:=n4_
           have HK:=n5_
           have HO245:=n6_
           clear n0_ n1_ n2_ n3_ n4_ n5_ n6_
           clear ho hb hg hat
           obtain ⟨Ao39,co39,eo39⟩:=Kd.j4 HO245.out
           (first|subst eo39|(injection eo39 with f1_ f2_ f3_;have f4_:=f1_.symm;have f5_:=f3_.symm;clear f1_ f2_ f3_;subst f4_;subst f5_))
           refine hK.out _ _ ⟨(qK BK216.out 0).trans rfl,(qK BK216.out 1).trans rfl,(qK BK216.out 2).trans rfl⟩ (fun hHeld=>?_)
           clear hK K
           refine uU (a':=?_) ?_ ?_
           rotate_left
           ·show Act.put _ (some 50) _ = _
            simp only [Act.put,List.setIfInBounds_toArray,List.set_cons_zero,List.set_cons_succ,zT,zW]
            rfl
           refine jQ (i:=9) (N:=some 51) (v:=?_) (a':=?_) #[true,true,true,true,true,true,true,true,true,true,false] rfl rfl (zX HT_.out (by kernel_rfl)) (fun _ _ _ h=>h) (Or.inl ⟨by rfl,?_⟩) ?_ ?_
           rotate_left
           ·intro w'
            go_simp
            with_reducible rfl
           rotate_left
           ·simp only [Act.put,List.setIfInBounds_toArray,List.set_cons_zero,List.set_cons_succ,zT,zW]
            rfl
           refine last_ (i:=10) (N:=none) #[true,true,true,true,true,true,true,true,true,true,true] rfl rfl (uA HT_.out (by kernel_rfl)) (by decide) (fun K hK=>?_)
           have hs40 : w36.cell? ⟨gb216,2,none⟩ = some (u217002):=(qK BK216.out 2).trans rfl
           have hfs40:=qJ BK216.out 2
           have hns40_0:=NB215_216.out
           have hms40_0:=NB216_215.out
           refine skip_ (w1:=?_) (by rfl) rfl ?_ ?_
           rotate_left
           ·go_simp
            rfl
           refine hK.out _ _ ?_
           clear hK K
           refine done_ (done_of HT_.out (by kernel_rfl)) ?_
           try go_wp2
           go_roundg k2
           case measure=>have:=HK1.out;have:=HK2.out;omega
           case rel=>exact ⟨(wrap64 (x11_2 - 1)),(t242),(y243),(.slice Ao39 y243.length co39),(by first|rfl|(simp;done)|(simp [*];done)),H',⟨by have:=HK1.out;have:=HK2.out;omega⟩,⟨by (with_reducible repeat (first|apply Kd.qX|apply Kd.qW|apply Kd.zC));exact Kd.zN (Kd.jE (p:=⟨gb216,2,none⟩) (Kd.jY HO_217001.out BK216.out (by decide)) (fun _ hk=>hk.2) (.slice Ao39 y243.length co39)) (fun _ hk=>trivial)⟩,⟨by (with_reducible repeat (first|apply Kd.qX|apply Kd.qW|apply Kd.zC));exact Kd.zN (Kd.jE (p:=⟨gb216,2,none⟩) (Kd.zN HO245.out (fun k_ hk=>(⟨hk,hk.2.2⟩ : _∧k_≠gb216))) (fun _ hk=>hk.2) (.slice Ao39 y243.length co39)) (fun _ hk=>⟨hk.1.1,⟨hk.1.2.1,hk.1.2.2⟩⟩)⟩,⟨by (with_reducible repeat (first|refine qF ?_ _|refine qI ?_|refine qE ?_ _));refine zU ?_ NB215_216.out _;(with_reducible repeat (first|refine qF ?_ _|refine qI ?_|refine qE ?_ _));exact BK215.out⟩,⟨by (with_reducible repeat (first|refine qF ?_ _|refine qI ?_|refine qE ?_ _));refine zV (cs:=#[.int .i64 0,u217001,u217002]) ?_ 2 _ rfl;(with_reducible repeat (first|refine qF ?_ _|refine qI ?_|refine qE ?_ _));exact BK216.out⟩,⟨by repeat (first|(with_reducible first|exact HI0.out|apply qC.alloc|apply qC.drewN|apply qC.drew|apply qC.zM|refine qC.far ?_ NB0_215.out _|refine qC.far ?_ NB0_216.out _)|exact HI0.out)⟩,⟨by repeat (first|(with_reducible first|exact HK.out|apply qL.set_|apply qP|apply qR|apply qO|refine qM ?_ GW215.out _|refine qM ?_ GW216.out _)|exact HK.out)⟩,⟨by repeat (first|(with_reducible first|exact HB.out|apply qH|apply qB|apply qG|refine qD ?_ (qC.ge HI0.out)|refine qD ?_ GE215.out|refine qD ?_ GE216.out)|exact HB.out)⟩⟩
          ·rw [if_neg c33] at H
           exact absurd H (by simp)
         ·rw [if_neg c31] at H
          have c31b0 : decide (0 < x11_2) = false:=decide_eq_false c31
          clear c31
          by_cases c41 : (x217002_2.length : Int) > 0
          ·rw [if_pos c41] at H
           have c41b0 : decide (0 < (x217002_2.length : Int)) = true:=decide_eq_true c41
           have c41b1 : decide (0 < x217002_2.length) = true:=decide_eq_true (by omega)
           clear c41
           replace H:=Option.bind_eq_some_iff.mp H
           obtain ⟨⟨t246,t247⟩,A420,H⟩:=H
           replace H : (if t246 = 0 then ((zO.f s0_0 t247 1 (wrap64 ((([] : List Int).length : Int) + (x217002_2.length : Int)))).bind fun bt248=>(some (bt248.1,([] : List Int),x217002_2,bt248.2))) else ((zO.f s0_0 t247 1 (wrap64 ((x217001_1.length : Int) + (x217002_2.length : Int)))).bind fun bt250=>(some (bt250.1,x217001_1,x217002_2,bt250.2)))) = some (r1,r2,r3,r4):=H
           have A42:=qA.mk A420
           clear A420
           by_cases c43 : t246 = 0
           ·rw [if_pos c43] at H
            have c43b0 : (t246 == 0) = true:=beq_iff_eq.mpr c43
            have c43b1 : (t246 != 0) = false:=bne_eq_false_iff_eq.mpr c43
            clear c43
            replace H:=Option.bind_eq_some_iff.mp H
            obtain ⟨⟨t248,t249⟩,A440,H⟩:=H
            replace H : (some (t248,([] : List Int),x217002_2,t249)) = some (r1,r2,r3,r4):=H
            have A44:=qA.mk A440
            clear A440
            simp only [Option.some.injEq,Prod.mk.injEq] at H
            obtain ⟨rfl,rfl,rfl,rfl⟩:=H
            have hnb45:=NB216_215.out
            have hnc45:=NB215_216.out
            have hnb46:=NB216_0.out
            have hnc46:=NB0_216.out
            have hcz47_0 : wr.cell? ⟨gb216,0,none⟩ = some (.int .i64 0):=(qK BK216.out 0).trans rfl
            have hcz47_1 : wr.cell? ⟨gb216,1,none⟩ = some (u217001):=(qK BK216.out 1).trans rfl
            have hcz47_2 : wr.cell? ⟨gb216,2,none⟩ = some (u217002):=(qK BK216.out 2).trans rfl
            have hfz47_0:=qJ BK216.out 0
            have hfz47_1:=qJ BK216.out 1
            have hfz47_2:=qJ BK216.out 2
            obtain ⟨Ao48,co48,eo48⟩:=Kd.j4 HO_217002.out
            subst eo48
            go_wp2_with (first|(go_at_call 13;(with_reducible refine (qZ.calls g s0_0 x1001_2 3 t246 t247 w0 _ ?side1 ?side2 A42.out).mono ?_);(case side1=>repeat (first|(with_reducible first|exact HI0.out|apply qC.alloc|apply qC.drewN|apply qC.drew|apply qC.zM|refine qC.far ?_ NB0_215.out _|refine qC.far ?_ NB0_216.out _)|exact HI0.out));(case side2=>repeat (first|(with_reducible first|exact HB.out|apply qH|apply qB|apply qG|refine qD ?_ (qC.ge HI0.out)|refine qD ?_ GE215.out|refine qD ?_ GE216.out)|exact HB.out));rintro e w49 ⟨rfl,hi,hb,hk⟩;have n0_:=qA.mk (Kd.zN (Kd.vO (qC.apart (show qC w0 _ g s0_0 x1001_2 from by repeat (first|(with_reducible first|exact HI0.out|apply qC.alloc|apply qC.drewN|apply qC.drew|apply qC.zM|refine qC.far ?_ NB0_215.out _|refine qC.far ?_ NB0_216.out _)|exact HI0.out)) (by (with_reducible repeat (first|apply Kd.qX|apply Kd.qW|apply Kd.zC));exact HO_217001.out) (by decide)) hk (fun _ h=>h.2)) (fun _ h=>h.1));have n1_:=qA.mk (Kd.zN (Kd.vO (qC.apart (show qC w0 _ g s0_0 x1001_2 from by repeat (first|(with_reducible first|exact HI0.out|apply qC.alloc|apply qC.drewN|apply qC.drew|apply qC.zM|refine qC.far ?_ NB0_215.out _|refine qC.far ?_ NB0_216.out _)|exact HI0.out)) (by (with_reducible repeat (first|apply Kd.qX|apply Kd.qW|apply Kd.zC));exact HO_217002.out) (by decide)) hk (fun _ h=>h.2)) (fun _ h=>h.1));have n2_:=qA.mk (qL.blk hk (g':=gb215) (o:=.cells #[.int .i64 0,.slice none 0 0,.slice none 0 0] 49 (0,0)) (by (with_reducible repeat (first|refine qF ?_ _|refine qI ?_|refine qE ?_ _));exact BK215.out) NB215_0.out (by simp));have n3_:=qA.mk (qL.blk hk (g':=gb216) (o:=.cells #[.int .i64 0,u217001,.slice Ao48 x217002_2.length co48] 49 (0,0)) (by (with_reducible repeat (first|refine qF ?_ _|refine qI ?_|refine qE ?_ _));exact BK216.out) NB216_0.out (by simp));have n4_:=qA.mk (qL.trans (by repeat (first|(with_reducible first|exact HK.out|apply qL.set_|apply qP|apply qR|apply qO|refine qM ?_ GW215.out _|refine qM ?_ GW216.out _)|exact HK.out)) hk (.inl rfl));have n5_:=qA.mk (hb);have n6_:=qA.mk (hi);clear HO_217001;clear HO_217002;clear BK215;clear BK216;clear HK;clear HB;clear HI0;have HO_217001:=n0_;have HO_217002:=n1_;have BK215:=n2_;have BK216:=n3_;have HK:=n4_;have HB:=n5_;have HI0:=n6_;clear n0_ n1_ n2_ n3_ n4_ n5_ n6_;(try clear hb);(try clear hb2);(try clear hk);(try clear hi);have hcz50_0 : w49.cell? ⟨gb216,0,none⟩ = some (.int .i64 0):=(qK BK216.out 0).trans rfl;have hcz50_1 : w49.cell? ⟨gb216,1,none⟩ = some (u217001):=(qK BK216.out 1).trans rfl;have hcz50_2 : w49.cell? ⟨gb216,2,none⟩ = some (.slice Ao48 x217002_2.length co48):=(qK BK216.out 2).trans rfl;have hfz50_0:=qJ BK216.out 0;have hfz50_1:=qJ BK216.out 1;have hfz50_2:=qJ BK216.out 2)|((with_reducible refine q8 (f:=30) rfl ?_);refine jB (some 70) rfl rfl Try.func30 (by kernel_rfl) rfl #[.pointer (some ⟨g,0,none⟩),.int .i64 1,.int .i64 (wrap64 ((([] : List Int).length : Int) + (x217002_2.length : Int)))] rfl (by (try simp only [List.map_toArray,List.map_cons,List.map_nil]);first|done|rfl|(simp only [List.length_drop,List.length_take];rfl)|(simp only [List.length_nil,Int.natCast_zero,Int.zero_add,Int.ofNat_zero];rfl)) ?_;(with_reducible refine (zO.calls g s0_0 t247 1 (wrap64 ((([] : List Int).length : Int) + (x217002_2.length : Int))) t248 t249 w0 _ ?side1 ?side2 A44.out).mono ?_);(case side1=>repeat (first|(with_reducible first|exact HI0.out|apply qC.alloc|apply qC.drewN|apply qC.drew|apply qC.zM|refine qC.far ?_ NB0_215.out _|refine qC.far ?_ NB0_216.out _)|exact HI0.out));(case side2=>repeat (first|(with_reducible first|exact HB.out|apply qH|apply qB|apply qG|refine qD ?_ (qC.ge HI0.out)|refine qD ?_ GE215.out|refine qD ?_ GE216.out)|exact HB.out));rintro e w51 ⟨rfl,hi,hb,hk⟩;refine ⟨_,rfl,?_⟩;have n0_:=qA.mk (Kd.zN (Kd.vO (qC.apart (show qC w0 _ g s0_0 t247 from by repeat (first|(with_reducible first|exact HI0.out|apply qC.alloc|apply qC.drewN|apply qC.drew|apply qC.zM|refine qC.far ?_ NB0_215.out _|refine qC.far ?_ NB0_216.out _)|exact HI0.out)) (by (with_reducible repeat (first|apply Kd.qX|apply Kd.qW|apply Kd.zC));exact (Kd.zN (Kd.jE (p:=⟨gb216,1,none⟩) (Kd.jY HO_217001.out BK216.out (by decide)) (fun _ hk=>hk.2) (.slice none 0 0)) (fun _ h_=>h_.1))) (by decide)) hk (fun _ h=>h.2)) (fun _ h=>h.1));have n1_:=qA.mk (Kd.zN (Kd.vO (qC.apart (show qC w0 _ g s0_0 t247 from by repeat (first|(with_reducible first|exact HI0.out|apply qC.alloc|apply qC.drewN|apply qC.drew|apply qC.zM|refine qC.far ?_ NB0_215.out _|refine qC.far ?_ NB0_216.out _)|exact HI0.out)) (by (with_reducible repeat (first|apply Kd.qX|apply Kd.qW|apply Kd.zC));exact (Kd.zN (Kd.jE (p:=⟨gb216,1,none⟩) (Kd.zN HO_217002.out (fun k_ hk=>(⟨hk,hk.2.2⟩ : _∧k_≠gb216))) (fun _ hk=>hk.2) (.slice none 0 0)) (fun _ h_=>h_.1))) (by decide)) hk (fun _ h=>h.2)) (fun _ h=>h.1));have n2_:=qA.mk (qL.blk hk (g':=gb215) (o:=.cells #[.int .i64 0,.slice none 0 0,.slice none 0 0] 49 (0,0)) (by (with_reducible repeat (first|refine qF ?_ _|refine qI ?_|refine qE ?_ _));refine zU ?_ NB215_216.out _;(with_reducible repeat (first|refine qF ?_ _|refine qI ?_|refine qE ?_ _));exact BK215.out) NB215_0.out (by simp));have n3_:=qA.mk (qL.blk hk (g':=gb216) (o:=.cells #[.int .i64 0,.slice none 0 0,.slice Ao48 x217002_2.length co48] 49 (0,0)) (by (with_reducible repeat (first|refine qF ?_ _|refine qI ?_|refine qE ?_ _));refine zV (cs:=#[.int .i64 0,u217001,.slice Ao48 x217002_2.length co48]) ?_ 1 _ rfl;(with_reducible repeat (first|refine qF ?_ _|refine qI ?_|refine qE ?_ _));exact BK216.out) NB216_0.out (by simp));have n4_:=qA.mk (qL.trans (by repeat (first|(with_reducible first|exact HK.out|apply qL.set_|apply qP|apply qR|apply qO|refine qM ?_ GW215.out _|refine qM ?_ GW216.out _)|exact HK.out)) hk (.inl rfl));have n5_:=qA.mk (hb);have n6_:=qA.mk (hi);clear HO_217001;clear HO_217002;clear BK215;clear BK216;clear HK;clear HB;clear HI0;have HO_217001:=n0_;have HO_217002:=n1_;have BK215:=n2_;have BK216:=n3_;have HK:=n4_;have HB:=n5_;have HI0:=n6_;clear n0_ n1_ n2_ n3_ n4_ n5_ n6_;(try clear hb);(try clear hb2);(try clear hk);(try clear hi);have hcz52_0 : w51.cell? ⟨gb216,0,none⟩ = some (.int .i64 0):=(qK BK216.out 0).trans rfl;have hcz52_1 : w51.cell? ⟨gb216,1,none⟩ = some (.slice none 0 0):=(qK BK216.out 1).trans rfl;have hcz52_2 : w51.cell? ⟨gb216,2,none⟩ = some (.slice Ao48 x217002_2.length co48):=(qK BK216.out 2).trans rfl;have hfz52_0:=qJ BK216.out 0;have hfz52_1:=qJ BK216.out 1;have hfz52_2:=qJ BK216.out 2;have hnb53:=NB215_0.out;have hnc53:=NB0_215.out;have hcz54_0 : w51.cell? ⟨gb215,0,none⟩ = some (.int .i64 0):=(qK BK215.out 0).trans rfl;have hcz54_1 : w51.cell? ⟨gb215,1,none⟩ = some (.slice none 0 0):=(qK BK215.out 1).trans rfl;have hcz54_2 : w51.cell? ⟨gb215,2,none⟩ = some (.slice none 0 0):=(qK BK215.out 2).trans rfl;have hfz54_0:=qJ BK215.out 0;have hfz54_1:=qJ BK215.out 1;have hfz54_2:=qJ BK215.out 2))
            refine bodyPost_ret (results_cell_row rfl _ _ gb215 49 #[.int .i64 t248,.slice none 0 0,.slice Ao48 x217002_2.length co48] (0,0) _ rfl (by (with_reducible repeat (first|refine qF ?_ _|refine qI ?_|refine qE ?_ _));refine zV (cs:=#[.int .i64 t248,.slice none 0 0,.slice none 0 0]) ?_ 2 _ rfl;(with_reducible repeat (first|refine qF ?_ _|refine qI ?_|refine qE ?_ _));refine zV (cs:=#[.int .i64 t248,.slice none 0 0,.slice none 0 0]) ?_ 1 _ rfl;(with_reducible repeat (first|refine qF ?_ _|refine qI ?_|refine qE ?_ _));refine zV (cs:=#[.int .i64 0,.slice none 0 0,.slice none 0 0]) ?_ 0 _ rfl;(with_reducible repeat (first|refine qF ?_ _|refine qI ?_|refine qE ?_ _));refine zU ?_ NB215_216.out _;(with_reducible repeat (first|refine qF ?_ _|refine qI ?_|refine qE ?_ _));exact BK215.out) Try.underlying49 rfl (by kernel_rfl)) rfl ?_
            exact ⟨_,_,by first|rfl|(simp [zK,zJ]<;>rfl)|(simp only [← hji5];first|rfl|(simp [zK,zJ]<;>rfl))|(simp [*,zK,zJ]<;>rfl),by first|exact Kd.uT _ _ _ _ _|exact Kd.N_nil _ _ _ _ _|exact Kd.V_nil _ _ _ _ _|exact Kd.Q_nil _ _ _ _ _|exact Kd.S_nil _ _ _ _ _,by (with_reducible repeat (first|apply Kd.qX|apply Kd.qW|apply Kd.zC));exact Kd.zN (Kd.jE (p:=⟨gb215,2,none⟩) (Kd.jE (p:=⟨gb215,1,none⟩) (Kd.jE (p:=⟨gb215,0,none⟩) (Kd.jE (p:=⟨gb216,0,none⟩) (Kd.zN (Kd.zN HO_217002.out (fun k_ hk=>(⟨hk,hk.2.2⟩ : _∧k_≠gb216))) (fun k_ hk=>(⟨hk,hk.1.2.1⟩ : _∧k_≠gb215))) (fun _ hk=>hk.1.2) (.int .i64 t248)) (fun _ hk=>hk.2) (.int .i64 t248)) (fun _ hk=>hk.2) (.slice none 0 0)) (fun _ hk=>hk.2) (.slice Ao48 x217002_2.length co48)) (fun _ hk=>(by simp [Value.ownBlock])),by repeat (first|(with_reducible first|exact HI0.out|apply qC.alloc|apply qC.drewN|apply qC.drew|apply qC.zM|refine qC.far ?_ NB0_215.out _|refine qC.far ?_ NB0_216.out _)|exact HI0.out),by repeat (first|(with_reducible first|exact HB.out|apply qH|apply qB|apply qG|refine qD ?_ (qC.ge HI0.out)|refine qD ?_ GE215.out|refine qD ?_ GE216.out)|exact HB.out),by repeat (first|(with_reducible first|exact HK.out|apply qL.set_|apply qP|apply qR|apply qO|refine qM ?_ GW215.out _|refine qM ?_ GW216.out _)|exact HK.out)⟩
           ·rw [if_neg c43] at H
            have c43b0 : (t246 == 0) = false:=beq_eq_false_iff_ne.mpr c43
            have c43b1 : (t246 != 0) = true:=bne_iff_ne.mpr c43
            replace H:=Option.bind_eq_some_iff.mp H
            obtain ⟨⟨t250,t251⟩,A550,H⟩:=H
            replace H : (some (t250,x217001_1,x217002_2,t251)) = some (r1,r2,r3,r4):=H
            have A55:=qA.mk A550
            clear A550
            simp only [Option.some.injEq,Prod.mk.injEq] at H
            obtain ⟨rfl,rfl,rfl,rfl⟩:=H
            have hnb56:=NB216_215.out
            have hnc56:=NB215_216.out
            have hnb57:=NB216_0.out
            have hnc57:=NB0_216.out
            have hcz58_0 : wr.cell? ⟨gb216,0,none⟩ = some (.int .i64 0):=(qK BK216.out 0).trans rfl
            have hcz58_1 : wr.cell? ⟨gb216,1,none⟩ = some (u217001):=(qK BK216.out 1).trans rfl
            have hcz58_2 : wr.cell? ⟨gb216,2,none⟩ = some (u217002):=(qK BK216.out 2).trans rfl
            have hfz58_0:=qJ BK216.out 0
            have hfz58_1:=qJ BK216.out 1
            have hfz58_2:=qJ BK216.out 2
            obtain ⟨Ao59,co59,eo59⟩:=Kd.j4 HO_217002.out
            subst eo59
            go_wp2_with (first|(go_at_call 13;(with_reducible refine (qZ.calls g s0_0 x1001_2 3 t246 t247 w0 _ ?side1 ?side2 A42.out).mono ?_);(case side1=>repeat (first|(with_reducible first|exact HI0.out|apply qC.alloc|apply qC.drewN|apply qC.drew|apply qC.zM|refine qC.far ?_ NB0_215.out _|refine qC.far ?_ NB0_216.out _)|exact HI0.out));(case side2=>repeat (first|(with_reducible first|exact HB.out|apply qH|apply qB|apply qG|refine qD ?_ (qC.ge HI0.out)|refine qD ?_ GE215.out|refine qD ?_ GE216.out)|exact HB.out));rintro e w60 ⟨rfl,hi,hb,hk⟩;have n0_:=qA.mk (Kd.zN (Kd.vO (qC.apart (show qC w0 _ g s0_0 x1001_2 from by repeat (first|(with_reducible first|exact HI0.out|apply qC.alloc|apply qC.drewN|apply qC.drew|apply qC.zM|refine qC.far ?_ NB0_215.out _|refine qC.far ?_ NB0_216.out _)|exact HI0.out)) (by (with_reducible repeat (first|apply Kd.qX|apply Kd.qW|apply Kd.zC));exact HO_217001.out) (by decide)) hk (fun _ h=>h.2)) (fun _ h=>h.1));have n1_:=qA.mk (Kd.zN (Kd.vO (qC.apart (show qC w0 _ g s0_0 x1001_2 from by repeat (first|(with_reducible first|exact HI0.out|apply qC.alloc|apply qC.drewN|apply qC.drew|apply qC.zM|refine qC.far ?_ NB0_215.out _|refine qC.far ?_ NB0_216.out _)|exact HI0.out)) (by (with_reducible repeat (first|apply Kd.qX|apply Kd.qW|apply Kd.zC));exact HO_217002.out) (by decide)) hk (fun _ h=>h.2)) (fun _ h=>h.1));have n2_:=qA.mk (qL.blk hk (g':=gb215) (o:=.cells #[.int .i64 0,.slice none 0 0,.slice none 0 0] 49 (0,0)) (by (with_reducible repeat (first|refine qF ?_ _|refine qI ?_|refine qE ?_ _));exact BK215.out) NB215_0.out (by simp));have n3_:=qA.mk (qL.blk hk (g':=gb216) (o:=.cells #[.int .i64 0,u217001,.slice Ao59 x217002_2.length co59] 49 (0,0)) (by (with_reducible repeat (first|refine qF ?_ _|refine qI ?_|refine qE ?_ _));exact BK216.out) NB216_0.out (by simp));have n4_:=qA.mk (qL.trans (by repeat (first|(with_reducible first|exact HK.out|apply qL.set_|apply qP|apply qR|apply qO|refine qM ?_ GW215.out _|refine qM ?_ GW216.out _)|exact HK.out)) hk (.inl rfl));have n5_:=qA.mk (hb);have n6_:=qA.mk (hi);clear HO_217001;clear HO_217002;clear BK215;clear BK216;clear HK;clear HB;clear HI0;have HO_217001:=n0_;have HO_217002:=n1_;have BK215:=n2_;have BK216:=n3_;have HK:=n4_;have HB:=n5_;have HI0:=n6_;clear n0_ n1_ n2_ n3_ n4_ n5_ n6_;(try clear hb);(try clear hb2);(try clear hk);(try clear hi);have hcz61_0 : w60.cell? ⟨gb216,0,none⟩ = some (.int .i64 0):=(qK BK216.out 0).trans rfl;have hcz61_1 : w60.cell? ⟨gb216,1,none⟩ = some (u217001):=(qK BK216.out 1).trans rfl;have hcz61_2 : w60.cell? ⟨gb216,2,none⟩ = some (.slice Ao59 x217002_2.length co59):=(qK BK216.out 2).trans rfl;have hfz61_0:=qJ BK216.out 0;have hfz61_1:=qJ BK216.out 1;have hfz61_2:=qJ BK216.out 2;obtain ⟨Ao62,co62,eo62⟩:=Kd.j4 HO_217001.out;subst eo62)|((with_reducible refine q8 (f:=30) rfl ?_);refine jB (some 70) rfl rfl Try.func30 (by kernel_rfl) rfl #[.pointer (some ⟨g,0,none⟩),.int .i64 1,.int .i64 (wrap64 ((x217001_1.length : Int) + (x217002_2.length : Int)))] rfl (by (try simp only [List.map_toArray,List.map_cons,List.map_nil]);first|done|rfl|(simp only [List.length_drop,List.length_take];rfl)|(simp only [List.length_nil,Int.natCast_zero,Int.zero_add,Int.ofNat_zero];rfl)) ?_;(with_reducible refine (zO.calls g s0_0 t247 1 (wrap64 ((x217001_1.length : Int) + (x217002_2.length : Int))) t250 t251 w0 _ ?side1 ?side2 A55.out).mono ?_);(case side1=>repeat (first|(with_reducible first|exact HI0.out|apply qC.alloc|apply qC.drewN|apply qC.drew|apply qC.zM|refine qC.far ?_ NB0_215.out _|refine qC.far ?_ NB0_216.out _)|exact HI0.out));(case side2=>repeat (first|(with_reducible first|exact HB.out|apply qH|apply qB|apply qG|refine qD ?_ (qC.ge HI0.out)|refine qD ?_ GE215.out|refine qD ?_ GE216.out)|exact HB.out));rintro e w63 ⟨rfl,hi,hb,hk⟩;refine ⟨_,rfl,?_⟩;have n0_:=qA.mk (Kd.zN (Kd.vO (qC.apart (show qC w0 _ g s0_0 t247 from by repeat (first|(with_reducible first|exact HI0.out|apply qC.alloc|apply qC.drewN|apply qC.drew|apply qC.zM|refine qC.far ?_ NB0_215.out _|refine qC.far ?_ NB0_216.out _)|exact HI0.out)) (by (with_reducible repeat (first|apply Kd.qX|apply Kd.qW|apply Kd.zC));exact HO_217001.out) (by decide)) hk (fun _ h=>h.2)) (fun _ h=>h.1));have n1_:=qA.mk (Kd.zN (Kd.vO (qC.apart (show qC w0 _ g s0_0 t247 from by repeat (first|(with_reducible first|exact HI0.out|apply qC.alloc|apply qC.drewN|apply qC.drew|apply qC.zM|refine qC.far ?_ NB0_215.out _|refine qC.far ?_ NB0_216.out _)|exact HI0.out)) (by (with_reducible repeat (first|apply Kd.qX|apply Kd.qW|apply Kd.zC));exact HO_217002.out) (by decide)) hk (fun _ h=>h.2)) (fun _ h=>h.1));have n2_:=qA.mk (qL.blk hk (g':=gb215) (o:=.cells #[.int .i64 0,.slice none 0 0,.slice none 0 0] 49 (0,0)) (by (with_reducible repeat (first|refine qF ?_ _|refine qI ?_|refine qE ?_ _));exact BK215.out) NB215_0.out (by simp));have n3_:=qA.mk (qL.blk hk (g':=gb216) (o:=.cells #[.int .i64 0,.slice Ao62 x217001_1.length co62,.slice Ao59 x217002_2.length co59] 49 (0,0)) (by (with_reducible repeat (first|refine qF ?_ _|refine qI ?_|refine qE ?_ _));exact BK216.out) NB216_0.out (by simp));have n4_:=qA.mk (qL.trans (by repeat (first|(with_reducible first|exact HK.out|apply qL.set_|apply qP|apply qR|apply qO|refine qM ?_ GW215.out _|refine qM ?_ GW216.out _)|exact HK.out)) hk (.inl rfl));have n5_:=qA.mk (hb);have n6_:=qA.mk (hi);clear HO_217001;clear HO_217002;clear BK215;clear BK216;clear HK;clear HB;clear HI0;have HO_217001:=n0_;have HO_217002:=n1_;have BK215:=n2_;have BK216:=n3_;have HK:=n4_;have HB:=n5_;have HI0:=n6_;clear n0_ n1_ n2_ n3_ n4_ n5_ n6_;(try clear hb);(try clear hb2);(try clear hk);(try clear hi);have hcz64_0 : w63.cell? ⟨gb216,0,none⟩ = some (.int .i64 0):=(qK BK216.out 0).trans rfl;have hcz64_1 : w63.cell? ⟨gb216,1,none⟩ = some (.slice Ao62 x217001_1.length co62):=(qK BK216.out 1).trans rfl;have hcz64_2 : w63.cell? ⟨gb216,2,none⟩ = some (.slice Ao59 x217002_2.length co59):=(qK BK216.out 2).trans rfl;have hfz64_0:=qJ BK216.out 0;have hfz64_1:=qJ BK216.out 1;have hfz64_2:=qJ BK216.out 2;have hnb65:=NB215_0.out;have hnc65:=NB0_215.out;have hcz66_0 : w63.cell? ⟨gb215,0,none⟩ = some (.int .i64 0):=(qK BK215.out 0).trans rfl;have hcz66_1 : w63.cell? ⟨gb215,1,none⟩ = some (.slice none 0 0):=(qK BK215.out 1).trans rfl;have hcz66_2 : w63.cell? ⟨gb215,2,none⟩ = some (.slice none 0 0):=(qK BK215.out 2).trans rfl;have hfz66_0:=qJ BK215.out 0;have hfz66_1:=qJ BK215.out 1;have hfz66_2:=qJ BK215.out 2))
            refine bodyPost_ret (results_cell_row rfl _ _ gb215 49 #[.int .i64 t250,.slice Ao62 x217001_1.length co62,.slice Ao59 x217002_2.length co59] (0,0) _ rfl (by (with_reducible repeat (first|refine qF ?_ _|refine qI ?_|refine qE ?_ _));refine zV (cs:=#[.int .i64 t250,.slice Ao62 x217001_1.length co62,.slice none 0 0]) ?_ 2 _ rfl;(with_reducible repeat (first|refine qF ?_ _|refine qI ?_|refine qE ?_ _));refine zV (cs:=#[.int .i64 t250,.slice none 0 0,.slice none 0 0]) ?_ 1 _ rfl;(with_reducible repeat (first|refine qF ?_ _|refine qI ?_|refine qE ?_ _));refine zV (cs:=#[.int .i64 0,.slice none 0 0,.slice none 0 0]) ?_ 0 _ rfl;(with_reducible repeat (first|refine qF ?_ _|refine qI ?_|refine qE ?_ _));refine zU ?_ NB215_216.out _;(with_reducible repeat (first|refine qF ?_ _|refine qI ?_|refine qE ?_ _));exact BK215.out) Try.underlying49 rfl (by kernel_rfl)) rfl ?_
            exact ⟨_,_,by first|rfl|(simp [zK,zJ]<;>rfl)|(simp only [← hji5];first|rfl|(simp [zK,zJ]<;>rfl))|(simp [*,zK,zJ]<;>rfl),by (with_reducible repeat (first|apply Kd.qX|apply Kd.qW|apply Kd.zC));exact Kd.zN (Kd.jE (p:=⟨gb215,2,none⟩) (Kd.jE (p:=⟨gb215,1,none⟩) (Kd.jE (p:=⟨gb215,0,none⟩) (Kd.jE (p:=⟨gb216,0,none⟩) (Kd.jY (Kd.jY HO_217001.out BK216.out (by decide)) BK215.out (by decide)) (fun _ hk=>hk.1.2) (.int .i64 t250)) (fun _ hk=>hk.2) (.int .i64 t250)) (fun _ hk=>hk.2) (.slice Ao62 x217001_1.length co62)) (fun _ hk=>hk.2) (.slice Ao59 x217002_2.length co59)) (fun _ hk=>trivial),by (with_reducible repeat (first|apply Kd.qX|apply Kd.qW|apply Kd.zC));exact Kd.zN (Kd.jE (p:=⟨gb215,2,none⟩) (Kd.jE (p:=⟨gb215,1,none⟩) (Kd.jE (p:=⟨gb215,0,none⟩) (Kd.jE (p:=⟨gb216,0,none⟩) (Kd.zN (Kd.zN HO_217002.out (fun k_ hk=>(⟨hk,hk.2.2⟩ : _∧k_≠gb216))) (fun k_ hk=>(⟨hk,hk.1.2.1⟩ : _∧k_≠gb215))) (fun _ hk=>hk.1.2) (.int .i64 t250)) (fun _ hk=>hk.2) (.int .i64 t250)) (fun _ hk=>hk.2) (.slice Ao62 x217001_1.length co62)) (fun _ hk=>hk.2) (.slice Ao59 x217002_2.length co59)) (fun _ hk=>hk.1.1.1),by repeat (first|(with_reducible first|exact HI0.out|apply qC.alloc|apply qC.drewN|apply qC.drew|apply qC.zM|refine qC.far ?_ NB0_215.out _|refine qC.far ?_ NB0_216.out _)|exact HI0.out),by repeat (first|(with_reducible first|exact HB.out|apply qH|apply qB|apply qG|refine qD ?_ (qC.ge HI0.out)|refine qD ?_ GE215.out|refine qD ?_ GE216.out)|exact HB.out),by repeat (first|(with_reducible first|exact HK.out|apply qL.set_|apply qP|apply qR|apply qO|refine qM ?_ GW215.out _|refine qM ?_ GW216.out _)|exact HK.out)⟩
          ·rw [if_neg c41] at H
           have c41b0 : decide (0 < (x217002_2.length : Int)) = false:=decide_eq_false c41
           have c41b1 : decide (0 < x217002_2.length) = false:=decide_eq_false (by omega)
           clear c41
           replace H:=Option.bind_eq_some_iff.mp H
           obtain ⟨⟨t252,t253⟩,A670,H⟩:=H
           replace H : (some (t252,x217001_1,x217002_2,t253)) = some (r1,r2,r3,r4):=H
           have A67:=qA.mk A670
           clear A670
           simp only [Option.some.injEq,Prod.mk.injEq] at H
           obtain ⟨rfl,rfl,rfl,rfl⟩:=H
           have hnb68:=NB216_215.out
           have hnc68:=NB215_216.out
           have hnb69:=NB216_0.out
           have hnc69:=NB0_216.out
           have hcz70_0 : wr.cell? ⟨gb216,0,none⟩ = some (.int .i64 0):=(qK BK216.out 0).trans rfl
           have hcz70_1 : wr.cell? ⟨gb216,1,none⟩ = some (u217001):=(qK BK216.out 1).trans rfl
           have hcz70_2 : wr.cell? ⟨gb216,2,none⟩ = some (u217002):=(qK BK216.out 2).trans rfl
           have hfz70_0:=qJ BK216.out 0
           have hfz70_1:=qJ BK216.out 1
           have hfz70_2:=qJ BK216.out 2
           obtain ⟨Ao71,co71,eo71⟩:=Kd.j4 HO_217002.out
           subst eo71
           obtain ⟨Ao72,co72,eo72⟩:=Kd.j4 HO_217001.out
           subst eo72
           go_wp2_with (first|((with_reducible refine q8 (f:=30) rfl ?_);refine jB (some 70) rfl rfl Try.func30 (by kernel_rfl) rfl #[.pointer (some ⟨g,0,none⟩),.int .i64 1,.int .i64 (wrap64 ((x217001_1.length : Int) + (x217002_2.length : Int)))] rfl (by (try simp only [List.map_toArray,List.map_cons,List.map_nil]);first|done|rfl|(simp only [List.length_drop,List.length_take];rfl)|(simp only [List.length_nil,Int.natCast_zero,Int.zero_add,Int.ofNat_zero];rfl)) ?_;(with_reducible refine (zO.calls g s0_0 x1001_2 1 (wrap64 ((x217001_1.length : Int) + (x217002_2.length : Int))) t252 t253 w0 _ ?side1 ?side2 A67.out).mono ?_);(case side1=>repeat (first|(with_reducible first|exact HI0.out|apply qC.alloc|apply qC.drewN|apply qC.drew|apply qC.zM|refine qC.far ?_ NB0_215.out _|refine qC.far ?_ NB0_216.out _)|exact HI0.out));(case side2=>repeat (first|(with_reducible first|exact HB.out|apply qH|apply qB|apply qG|refine qD ?_ (qC.ge HI0.out)|refine qD ?_ GE215.out|refine qD ?_ GE216.out)|exact HB.out));rintro e w73 ⟨rfl,hi,hb,hk⟩;refine ⟨_,rfl,?_⟩;have n0_:=qA.mk (Kd.zN (Kd.vO (qC.apart (show qC w0 _ g s0_0 x1001_2 from by repeat (first|(with_reducible first|exact HI0.out|apply qC.alloc|apply qC.drewN|apply qC.drew|apply qC.zM|refine qC.far ?_ NB0_215.out _|refine qC.far ?_ NB0_216.out _)|exact HI0.out)) (by (with_reducible repeat (first|apply Kd.qX|apply Kd.qW|apply Kd.zC));exact HO_217001.out) (by decide)) hk (fun _ h=>h.2)) (fun _ h=>h.1));have n1_:=qA.mk (Kd.zN (Kd.vO (qC.apart (show qC w0 _ g s0_0 x1001_2 from by repeat (first|(with_reducible first|exact HI0.out|apply qC.alloc|apply qC.drewN|apply qC.drew|apply qC.zM|refine qC.far ?_ NB0_215.out _|refine qC.far ?_ NB0_216.out _)|exact HI0.out)) (by (with_reducible repeat (first|apply Kd.qX|apply Kd.qW|apply Kd.zC));exact HO_217002.out) (by decide)) hk (fun _ h=>h.2)) (fun _ h=>h.1));have n2_:=qA.mk (qL.blk hk (g':=gb215) (o:=.cells #[.int .i64 0,.slice none 0 0,.slice none 0 0] 49 (0,0)) (by (with_reducible repeat (first|refine qF ?_ _|refine qI ?_|refine qE ?_ _));exact BK215.out) NB215_0.out (by simp));have n3_:=qA.mk (qL.blk hk (g':=gb216) (o:=.cells #[.int .i64 0,.slice Ao72 x217001_1.length co72,.slice Ao71 x217002_2.length co71] 49 (0,0)) (by (with_reducible repeat (first|refine qF ?_ _|refine qI ?_|refine qE ?_ _));exact BK216.out) NB216_0.out (by simp));have n4_:=qA.mk (qL.trans (by repeat (first|(with_reducible first|exact HK.out|apply qL.set_|apply qP|apply qR|apply qO|refine qM ?_ GW215.out _|refine qM ?_ GW216.out _)|exact HK.out)) hk (.inl rfl));have n5_:=qA.mk (hb);have n6_:=qA.mk (hi);clear HO_217001;clear HO_217002;clear BK215;clear BK216;clear HK;clear HB;clear HI0;have HO_217001:=n0_;have HO_217002:=n1_;have BK215:=n2_;have BK216:=n3_;have HK:=n4_;have HB:=n5_;have HI0:=n6_;clear n0_ n1_ n2_ n3_ n4_ n5_ n6_;(try clear hb);(try clear hb2);(try clear hk);(try clear hi);have hcz74_0 : w73.cell? ⟨gb216,0,none⟩ = some (.int .i64 0):=(qK BK216.out 0).trans rfl;have hcz74_1 : w73.cell? ⟨gb216,1,none⟩ = some (.slice Ao72 x217001_1.length co72):=(qK BK216.out 1).trans rfl;have hcz74_2 : w73.cell? ⟨gb216,2,none⟩ = some (.slice Ao71 x217002_2.length co71):=(qK BK216.out 2).trans rfl;have hfz74_0:=qJ BK216.out 0;have hfz74_1:=qJ BK216.out 1;have hfz74_2:=qJ BK216.out 2;have hnb75:=NB215_0.out;have hnc75:=NB0_215.out;have hcz76_0 : w73.cell? ⟨gb215,0,none⟩ = some (.int .i64 0):=(qK BK215.out 0).trans rfl;have hcz76_1 : w73.cell? ⟨gb215,1,none⟩ = some (.slice none 0 0):=(qK BK215.out 1).trans rfl;have hcz76_2 : w73.cell? ⟨gb215,2,none⟩ = some (.slice none 0 0):=(qK BK215.out 2).trans rfl;have hfz76_0:=qJ BK215.out 0;have hfz76_1:=qJ BK215.out 1;have hfz76_2:=qJ BK215.out 2))
           refine bodyPost_ret (results_cell_row rfl _ _ gb215 49 #[.int .i64 t252,.slice Ao72 x217001_1.length co72,.slice Ao71 x217002_2.length co71] (0,0) _ rfl (by (with_reducible repeat (first|refine qF ?_ _|refine qI ?_|refine qE ?_ _));refine zV (cs:=#[.int .i64 t252,.slice Ao72 x217001_1.length co72,.slice none 0 0]) ?_ 2 _ rfl;(with_reducible repeat (first|refine qF ?_ _|refine qI ?_|refine qE ?_ _));refine zV (cs:=#[.int .i64 t252,.slice none 0 0,.slice none 0 0]) ?_ 1 _ rfl;(with_reducible repeat (first|refine qF ?_ _|refine qI ?_|refine qE ?_ _));refine zV (cs:=#[.int .i64 0,.slice none 0 0,.slice none 0 0]) ?_ 0 _ rfl;(with_reducible repeat (first|refine qF ?_ _|refine qI ?_|refine qE ?_ _));refine zU ?_ NB215_216.out _;(with_reducible repeat (first|refine qF ?_ _|refine qI ?_|refine qE ?_ _));exact BK215.out) Try.underlying49 rfl (by kernel_rfl)) rfl ?_
           exact ⟨_,_,by first|rfl|(simp [zK,zJ]<;>rfl)|(simp only [← hji5];first|rfl|(simp [zK,zJ]<;>rfl))|(simp [*,zK,zJ]<;>rfl),by (with_reducible repeat (first|apply Kd.qX|apply Kd.qW|apply Kd.zC));exact Kd.zN (Kd.jE (p:=⟨gb215,2,none⟩) (Kd.jE (p:=⟨gb215,1,none⟩) (Kd.jE (p:=⟨gb215,0,none⟩) (Kd.jE (p:=⟨gb216,0,none⟩) (Kd.jY (Kd.jY HO_217001.out BK216.out (by decide)) BK215.out (by decide)) (fun _ hk=>hk.1.2) (.int .i64 t252)) (fun _ hk=>hk.2) (.int .i64 t252)) (fun _ hk=>hk.2) (.slice Ao72 x217001_1.length co72)) (fun _ hk=>hk.2) (.slice Ao71 x217002_2.length co71)) (fun _ hk=>trivial),by (with_reducible repeat (first|apply Kd.qX|apply Kd.qW|apply Kd.zC));exact Kd.zN (Kd.jE (p:=⟨gb215,2,none⟩) (Kd.jE (p:=⟨gb215,1,none⟩) (Kd.jE (p:=⟨gb215,0,none⟩) (Kd.jE (p:=⟨gb216,0,none⟩) (Kd.zN (Kd.zN HO_217002.out (fun k_ hk=>(⟨hk,hk.2.2⟩ : _∧k_≠gb216))) (fun k_ hk=>(⟨hk,hk.1.2.1⟩ : _∧k_≠gb215))) (fun _ hk=>hk.1.2) (.int .i64 t252)) (fun _ hk=>hk.2) (.int .i64 t252)) (fun _ hk=>hk.2) (.slice Ao72 x217001_1.length co72)) (fun _ hk=>hk.2) (.slice Ao71 x217002_2.length co71)) (fun _ hk=>hk.1.1.1),by repeat (first|(with_reducible first|exact HI0.out|apply qC.alloc|apply qC.drewN|apply qC.drew|apply qC.zM|refine qC.far ?_ NB0_215.out _|refine qC.far ?_ NB0_216.out _)|exact HI0.out),by repeat (first|(with_reducible first|exact HB.out|apply qH|apply qB|apply qG|refine qD ?_ (qC.ge HI0.out)|refine qD ?_ GE215.out|refine qD ?_ GE216.out)|exact HB.out),by repeat (first|(with_reducible first|exact HK.out|apply qL.set_|apply qP|apply qR|apply qO|refine qM ?_ GW215.out _|refine qM ?_ GW216.out _)|exact HK.out)⟩
      ·rw [if_neg c25] at H
       have c25b0 : decide (1 < a2) = false:=decide_eq_false c25
       clear c25
       replace H:=Option.bind_eq_some_iff.mp H
       obtain ⟨⟨t254,t255⟩,A770,H⟩:=H
       replace H : (some (t254,x217001_1,([] : List (S49)),t255)) = some (r1,r2,r3,r4):=H
       have A77:=qA.mk A770
       clear A770
       simp only [Option.some.injEq,Prod.mk.injEq] at H
       obtain ⟨rfl,rfl,rfl,rfl⟩:=H
       have hnb78:=NB216_215.out
       have hnc78:=NB215_216.out
       have hnb79:=NB216_0.out
       have hnc79:=NB0_216.out
       have hcz80_0 : wr.cell? ⟨gb216,0,none⟩ = some (.int .i64 0):=(qK BK216.out 0).trans rfl
       have hcz80_1 : wr.cell? ⟨gb216,1,none⟩ = some (u217001):=(qK BK216.out 1).trans rfl
       have hcz80_2 : wr.cell? ⟨gb216,2,none⟩ = some (.slice none 0 0):=(qK BK216.out 2).trans rfl
       have hfz80_0:=qJ BK216.out 0
       have hfz80_1:=qJ BK216.out 1
       have hfz80_2:=qJ BK216.out 2
       obtain ⟨Ao81,co81,eo81⟩:=Kd.j4 HO_217001.out
       subst eo81
       go_wp2_with (first|((with_reducible refine q8 (f:=30) rfl ?_);refine jB (some 70) rfl rfl Try.func30 (by kernel_rfl) rfl #[.pointer (some ⟨g,0,none⟩),.int .i64 1,.int .i64 (wrap64 ((x217001_1.length : Int) + (([] : List (S49)).length : Int)))] rfl (by (try simp only [List.map_toArray,List.map_cons,List.map_nil]);first|done|rfl|(simp only [List.length_drop,List.length_take];rfl)|(simp only [List.length_nil,Int.natCast_zero,Int.zero_add,Int.ofNat_zero];rfl)) ?_;(with_reducible refine (zO.calls g s0_0 t222 1 (wrap64 ((x217001_1.length : Int) + (([] : List (S49)).length : Int))) t254 t255 w0 _ ?side1 ?side2 A77.out).mono ?_);(case side1=>repeat (first|(with_reducible first|exact HI0.out|apply qC.alloc|apply qC.drewN|apply qC.drew|apply qC.zM|refine qC.far ?_ NB0_215.out _|refine qC.far ?_ NB0_216.out _)|exact HI0.out));(case side2=>repeat (first|(with_reducible first|exact HB.out|apply qH|apply qB|apply qG|refine qD ?_ (qC.ge HI0.out)|refine qD ?_ GE215.out|refine qD ?_ GE216.out)|exact HB.out));rintro e w82 ⟨rfl,hi,hb,hk⟩;refine ⟨_,rfl,?_⟩;have n0_:=qA.mk (Kd.zN (Kd.vO (qC.apart (show qC w0 _ g s0_0 t222 from by repeat (first|(with_reducible first|exact HI0.out|apply qC.alloc|apply qC.drewN|apply qC.drew|apply qC.zM|refine qC.far ?_ NB0_215.out _|refine qC.far ?_ NB0_216.out _)|exact HI0.out)) (by (with_reducible repeat (first|apply Kd.qX|apply Kd.qW|apply Kd.zC));exact HO_20.out) (by decide)) hk (fun _ h=>h.2)) (fun _ h=>h.1));have n1_:=qA.mk (Kd.zN (Kd.vO (qC.apart (show qC w0 _ g s0_0 t222 from by repeat (first|(with_reducible first|exact HI0.out|apply qC.alloc|apply qC.drewN|apply qC.drew|apply qC.zM|refine qC.far ?_ NB0_215.out _|refine qC.far ?_ NB0_216.out _)|exact HI0.out)) (by (with_reducible repeat (first|apply Kd.qX|apply Kd.qW|apply Kd.zC));exact HO_217001.out) (by decide)) hk (fun _ h=>h.2)) (fun _ h=>h.1));have n2_:=qA.mk (qL.blk hk (g':=gb215) (o:=.cells #[.int .i64 0,.slice none 0 0,.slice none 0 0] 49 (0,0)) (by (with_reducible repeat (first|refine qF ?_ _|refine qI ?_|refine qE ?_ _));exact BK215.out) NB215_0.out (by simp));have n3_:=qA.mk (qL.blk hk (g':=gb216) (o:=.cells #[.int .i64 0,.slice Ao81 x217001_1.length co81,.slice none 0 0] 49 (0,0)) (by (with_reducible repeat (first|refine qF ?_ _|refine qI ?_|refine qE ?_ _));exact BK216.out) NB216_0.out (by simp));have n4_:=qA.mk (qL.trans (by repeat (first|(with_reducible first|exact HK.out|apply qL.set_|apply qP|apply qR|apply qO|refine qM ?_ GW215.out _|refine qM ?_ GW216.out _)|exact HK.out)) hk (.inl rfl));have n5_:=qA.mk (hb);have n6_:=qA.mk (hi);clear HO_20;clear HO_217001;clear BK215;clear BK216;clear HK;clear HB;clear HI0;have HO_20:=n0_;have HO_217001:=n1_;have BK215:=n2_;have BK216:=n3_;have HK:=n4_;have HB:=n5_;have HI0:=n6_;clear n0_ n1_ n2_ n3_ n4_ n5_ n6_;(try clear hb);(try clear hb2);(try clear hk);(try clear hi);have hcz83_0 : w82.cell? ⟨gb216,0,none⟩ = some (.int .i64 0):=(qK BK216.out 0).trans rfl;have hcz83_1 : w82.cell? ⟨gb216,1,none⟩ = some (.slice Ao81 x217001_1.length co81):=(qK BK216.out 1).trans rfl;have hcz83_2 : w82.cell? ⟨gb216,2,none⟩ = some (.slice none 0 0):=(qK BK216.out 2).trans rfl;have hfz83_0:=qJ BK216.out 0;have hfz83_1:=qJ BK216.out 1;have hfz83_2:=qJ BK216.out 2;have hnb84:=NB215_0.out;have hnc84:=NB0_215.out;have hcz85_0 : w82.cell? ⟨gb215,0,none⟩ = some (.int .i64 0):=(qK BK215.out 0).trans rfl;have hcz85_1 : w82.cell? ⟨gb215,1,none⟩ = some (.slice none 0 0):=(qK BK215.out 1).trans rfl;have hcz85_2 : w82.cell? ⟨gb215,2,none⟩ = some (.slice none 0 0):=(qK BK215.out 2).trans rfl;have hfz85_0:=qJ BK215.out 0;have hfz85_1:=qJ BK215.out 1;have hfz85_2:=qJ BK215.out 2))
       refine bodyPost_ret (results_cell_row rfl _ _ gb215 49 #[.int .i64 t254,.slice Ao81 x217001_1.length co81,.slice none 0 0] (0,0) _ rfl (by (with_reducible repeat (first|refine qF ?_ _|refine qI ?_|refine qE ?_ _));refine zV (cs:=#[.int .i64 t254,.slice Ao81 x217001_1.length co81,.slice none 0 0]) ?_ 2 _ rfl;(with_reducible repeat (first|refine qF ?_ _|refine qI ?_|refine qE ?_ _));refine zV (cs:=#[.int .i64 t254,.slice none 0 0,.slice none 0 0]) ?_ 1 _ rfl;(with_reducible repeat (first|refine qF ?_ _|refine qI ?_|refine qE ?_ _));refine zV (cs:=#[.int .i64 0,.slice none 0 0,.slice none 0 0]) ?_ 0 _ rfl;(with_reducible repeat (first|refine qF ?_ _|refine qI ?_|refine qE ?_ _));refine zU ?_ NB215_216.out _;(with_reducible repeat (first|refine qF ?_ _|refine qI ?_|refine qE ?_ _));exact BK215.out) Try.underlying49 rfl (by kernel_rfl)) rfl ?_
       exact ⟨_,_,by first|rfl|(simp [zK,zJ]<;>rfl)|(simp only [← hji5];first|rfl|(simp [zK,zJ]<;>rfl))|(simp [*,zK,zJ]<;>rfl),by (with_reducible repeat (first|apply Kd.qX|apply Kd.qW|apply Kd.zC));exact Kd.zN (Kd.jE (p:=⟨gb215,2,none⟩) (Kd.jE (p:=⟨gb215,1,none⟩) (Kd.jE (p:=⟨gb215,0,none⟩) (Kd.jE (p:=⟨gb216,0,none⟩) (Kd.jY (Kd.jY HO_217001.out BK216.out (by decide)) BK215.out (by decide)) (fun _ hk=>hk.1.2) (.int .i64 t254)) (fun _ hk=>hk.2) (.int .i64 t254)) (fun _ hk=>hk.2) (.slice Ao81 x217001_1.length co81)) (fun _ hk=>hk.2) (.slice none 0 0)) (fun _ hk=>trivial),by first|exact Kd.uT _ _ _ _ _|exact Kd.N_nil _ _ _ _ _|exact Kd.V_nil _ _ _ _ _|exact Kd.Q_nil _ _ _ _ _|exact Kd.S_nil _ _ _ _ _,by repeat (first|(with_reducible first|exact HI0.out|apply qC.alloc|apply qC.drewN|apply qC.drew|apply qC.zM|refine qC.far ?_ NB0_215.out _|refine qC.far ?_ NB0_216.out _)|exact HI0.out),by repeat (first|(with_reducible first|exact HB.out|apply qH|apply qB|apply qG|refine qD ?_ (qC.ge HI0.out)|refine qD ?_ GE215.out|refine qD ?_ GE216.out)|exact HB.out),by repeat (first|(with_reducible first|exact HK.out|apply qL.set_|apply qP|apply qR|apply qO|refine qM ?_ GW215.out _|refine qM ?_ GW216.out _)|exact HK.out)⟩
  ·rw [if_neg c8] at H
   exact absurd H (by simp)
 ·rw [if_neg c7] at H
  exact absurd H (by simp)
mutual
def jC.l0 : Nat→Int→List (S49)→Int→Int→Option (Int)
 | 0,_,_,_,_=>none
 | k + 1,x3,x7,x8,x9=>if x9 < x8 then (if 0 ≤ x9 then (if x9 < (x7.length : Int) then ((jC.f k ((jI x7 x9).f0) ((jI x7 x9).f1) ((jI x7 x9).f2)).bind fun t259=>(jC.l0 k (mx x3 t259) x7 x8 (wrap64 (x9 + 1)))) else (none)) else (none)) else (some (wrap64 (x3 + 1)))
def jC.f : Nat→Int→List Int→List (S49)→Option (Int)
 | 0,_,_,_=>none
 | k + 1,a0_0,l0_1,l0_2=>jC.l0 k 0 l0_2 (l0_2.length : Int) 0
end
set_option maxHeartbeats 8000000 in
set_option maxRecDepth 100000 in
theorem jC.calls (k : Nat) : ∀ (a0_0 : Int) (A0_1 : Option Addr) (c0_1 : Nat) (l0_1 : List Int) (A0_2 : Option Addr) (c0_2 : Nat) (l0_2 : List (S49)) (r : Int) (w : World) (hr0_1 : Kd.C (Kd.int .i64) w A0_1 l0_1.length l0_1) (hc0_1 : l0_1.length ≤ c0_1) (hr0_2 : Kd.C k49 w A0_2 l0_2.length l0_2) (hc0_2 : l0_2.length ≤ c0_2) (h : jC.f k a0_0 l0_1 l0_2 = some r),
  Calls Try.prog 50 #[.agg #[.int .i64 a0_0,.slice A0_1 l0_1.length c0_1,.slice A0_2 l0_2.length c0_2]] w fun e w'=>e = .returned (.int .i64 r)∧Below w.heap.size w w':=by
 induction k using Nat.strongRecOn with
 | _ k ih =>
 intro a0_0 A0_1 c0_1 l0_1 A0_2 c0_2 l0_2 r w hr0_1 hc0_1 hr0_2 hc0_2 h
 cases k with
 | zero=>exact absurd h (by simp [jC.f])
 | succ k =>
 simp only [jC.f] at h
 have hu49:=Try.underlying49
 have HR0_1:=qA.mk hr0_1
 have HC0_1:=qA.mk hc0_1
 clear hr0_1 hc0_1
 have HR0_2:=qA.mk hr0_2
 have HC0_2:=qA.mk hc0_2
 clear hr0_2 hc0_2
 have HB:=qA.mk (Below.refl w.heap.size w)
 have H : (jC.l0 k 0 l0_2 (l0_2.length : Int) 0) = some r:=h
 clear h
 have H':=qA.mk H
 clear H
 go_enter Try.func50,Try.ntmps50
 go_wp2_with (first|((with_reducible refine jH (N:=1) rfl ?_);refine jL ?hg (N:=1) ?hd (cs:=#[.int .i64 a0_0,.slice A0_1 l0_1.length c0_1,.slice A0_2 l0_2.length c0_2]) (t:=49) ?hr ?_;(case hd=>rfl);(case hg=>rfl);(case hr=>first|(go_simp;done)|(go_simp;rfl));intro gb256 hg w2 hbox hb;have n0_:=qA.mk (qN (by repeat (first|(with_reducible first|exact HB.out|apply qH|apply qB|apply qG)|exact HB.out)) hb);have n1_:=qA.mk (hbox);have n2_:=qA.mk ((by rw [hg];exact (qQ (by repeat (first|(with_reducible first|exact HB.out|apply qH|apply qB|apply qG)|exact HB.out))) : w.heap.size ≤ gb256));have n3_:=qA.mk ((by rw [hg];exact (qQ (by repeat (first|(with_reducible first|exact HB.out|apply qH|apply qB|apply qG)|exact HB.out))) : w.heap.size ≤ gb256));clear HB;have HB:=n0_;have BK256:=n1_;have GW256:=n2_;have GE256:=n3_;clear n0_ n1_ n2_ n3_;clear hb hbox hg;have hcz3_0 : w2.cell? ⟨gb256,0,none⟩ = some (.int .i64 a0_0):=(qK BK256.out 0).trans rfl;have hcz3_1 : w2.cell? ⟨gb256,1,none⟩ = some (.slice A0_1 l0_1.length c0_1):=(qK BK256.out 1).trans rfl;have hcz3_2 : w2.cell? ⟨gb256,2,none⟩ = some (.slice A0_2 l0_2.length c0_2):=(qK BK256.out 2).trans rfl;have hfz3_0:=qJ BK256.out 0;have hfz3_1:=qJ BK256.out 1;have hfz3_2:=qJ BK256.out 2))
 go_loopg [3,9] k (fun kq v3 v9 w'=>∃ (x3_1 : Int) (x9_1 : Int),v3 = .int .i64 x3_1∧v9 = .int .i64 x9_1∧qA (jC.l0 kq x3_1 l0_2 (l0_2.length : Int) x9_1 = some r)∧qA (kq ≤ k)∧qA (w'.heap[gb256]? = some (.cells #[.int .i64 a0_0,(.slice A0_1 l0_1.length c0_1),(.slice A0_2 l0_2.length c0_2)] 49 (0,0)))∧qA (Below w.heap.size w w'))
 case atStart=>exact ⟨(0),(0),(by first|rfl|(simp;done)|(simp [*];done)),(by first|rfl|(simp;done)|(simp [*];done)),H',⟨Nat.le_refl _⟩,⟨by (with_reducible repeat (first|refine qF ?_ _|refine qI ?_|refine qE ?_ _));exact BK256.out⟩,⟨by repeat (first|(with_reducible first|exact HB.out|apply qH|apply qB|apply qG|refine qD ?_ GE256.out)|exact HB.out)⟩⟩
 case round =>
  clear H'
  try clear p2
  try clear hcz3_0
  try clear hcz3_1
  try clear hcz3_2
  try clear hfz3_0
  try clear hfz3_1
  try clear hfz3_2
  obtain ⟨x3_1,x9_1,rfl,rfl,HA,HK1,BK256,HB⟩:=hrel
  cases gk with
  | zero=>exact absurd HA.out (by simp [jC.l0])
  | succ k1 =>
   have H:=HA.out
   clear HA
   simp only [jC.l0] at H
   by_cases c4 : x9_1 < (l0_2.length : Int)
   ·rw [if_pos c4] at H
    have c4b0 : decide (x9_1 < (l0_2.length : Int)) = true:=decide_eq_true c4
    clear c4
    by_cases c5 : 0 ≤ x9_1
    ·rw [if_pos c5] at H
     have c5b0 : decide (0 ≤ x9_1) = true:=decide_eq_true c5
     clear c5
     by_cases c6 : x9_1 < (l0_2.length : Int)
     ·rw [if_pos c6] at H
      have c6b0 : decide (x9_1 < (l0_2.length : Int)) = true:=decide_eq_true c6
      clear c6
      replace H:=Option.bind_eq_some_iff.mp H
      obtain ⟨t259,A70,H⟩:=H
      replace H : (jC.l0 k1 (mx x3_1 t259) l0_2 (l0_2.length : Int) (wrap64 (x9_1 + 1))) = some r:=H
      have A7:=qA.mk A70
      clear A70
      obtain ⟨ji8,hji8⟩ : ∃ j_ : Int,(mx x3_1 t259) = j_:=⟨_,rfl⟩
      replace H : (jC.l0 k1 ji8 l0_2 (l0_2.length : Int) (wrap64 (x9_1 + 1))) = some r:=by first|(rw [hji8] at H;exact H)|(simp only [hji8] at H ⊢;exact H)
      (try rw [hji8] at A7)
      have hji8_ : (if x3_1 < t259 then t259 else x3_1) = ji8:=hji8
      have H':=qA.mk H
      clear H
      have p257 : 0 ≤ (x9_1 : Int):=of_decide_eq_true (by first|(with_reducible assumption)|assumption)
      have q257 : x9_1 < (l0_2.length : Int):=of_decide_eq_true (by first|(with_reducible assumption)|assumption)
      obtain ⟨ad257,A257_1,c257_1,A257_2,c257_2,e257,hx257_0,hx257_1,hx257_2,hl257_1,hi257_1,hl257_2,hi257_2⟩:=at_T49 HR0_2.out x9_1 p257 q257
      cases e257
      replace hx257_0:=(HB.out.cell (World.block_lt_of_cell? w _ hx257_0)).trans hx257_0
      replace hx257_1:=(HB.out.cell (World.block_lt_of_cell? w _ hx257_1)).trans hx257_1
      replace hx257_2:=(HB.out.cell (World.block_lt_of_cell? w _ hx257_2)).trans hx257_2
      have HR257_1:=qA.mk hi257_1
      have HC257_1:=qA.mk hl257_1
      clear hi257_1 hl257_1
      have HR257_2:=qA.mk hi257_2
      have HC257_2:=qA.mk hl257_2
      clear hi257_2 hl257_2
      replace p257:=eq_true p257
      replace q257:=eq_true q257
      go_wp2_with (first|((with_reducible refine jH (N:=5) rfl ?_);refine jL ?hg (N:=5) ?hd (cs:=#[.int .i64 0,.slice none 0 0,.slice none 0 0]) (t:=49) ?hr ?_;(case hd=>rfl);(case hg=>rfl);(case hr=>first|(go_simp;done)|(go_simp;rfl));intro gb258 hg w9 hbox hb;have n0_:=qA.mk (zD (g:=gb256) (o:=.cells #[.int .i64 a0_0,.slice A0_1 l0_1.length c0_1,.slice (some ad257) l0_2.length c0_2] 49 (0,0)) (by (with_reducible repeat (first|refine qF ?_ _|refine qI ?_|refine qE ?_ _));exact BK256.out) hb);have n1_:=qA.mk (qN (by repeat (first|(with_reducible first|exact HB.out|apply qH|apply qB|apply qG|refine qD ?_ GE256.out)|exact HB.out)) hb);have n2_:=qA.mk (hbox);have n3_:=qA.mk ((by rw [hg];exact (qQ (by repeat (first|(with_reducible first|exact HB.out|apply qH|apply qB|apply qG|refine qD ?_ GE256.out)|exact HB.out))) : w.heap.size ≤ gb258));have n4_:=qA.mk ((by rw [hg];exact (qQ (by repeat (first|(with_reducible first|exact HB.out|apply qH|apply qB|apply qG|refine qD ?_ GE256.out)|exact HB.out))) : w.heap.size ≤ gb258));have n5_:=qA.mk ((by rw [hg];exact Nat.ne_of_lt (jR (g:=gb256) (o:=.cells #[.int .i64 a0_0,.slice A0_1 l0_1.length c0_1,.slice (some ad257) l0_2.length c0_2] 49 (0,0)) (by (with_reducible repeat (first|refine qF ?_ _|refine qI ?_|refine qE ?_ _));exact BK256.out)) : gb256≠gb258));have n6_:=qA.mk ((by rw [hg];exact Nat.ne_of_gt (jR (g:=gb256) (o:=.cells #[.int .i64 a0_0,.slice A0_1 l0_1.length c0_1,.slice (some ad257) l0_2.length c0_2] 49 (0,0)) (by (with_reducible repeat (first|refine qF ?_ _|refine qI ?_|refine qE ?_ _));exact BK256.out)) : gb258≠gb256));clear BK256;clear HB;have BK256:=n0_;have HB:=n1_;have BK258:=n2_;have GW258:=n3_;have GE258:=n4_;have NB256_258:=n5_;have NB258_256:=n6_;clear n0_ n1_ n2_ n3_ n4_ n5_ n6_;clear hb hbox hg;have hnb10:=NB258_256.out;have hnc10:=NB256_258.out;have hcz11_0 : w9.cell? ⟨gb258,0,none⟩ = some (.int .i64 0):=(qK BK258.out 0).trans rfl;have hcz11_1 : w9.cell? ⟨gb258,1,none⟩ = some (.slice none 0 0):=(qK BK258.out 1).trans rfl;have hcz11_2 : w9.cell? ⟨gb258,2,none⟩ = some (.slice none 0 0):=(qK BK258.out 2).trans rfl;have hfz11_0:=qJ BK258.out 0;have hfz11_1:=qJ BK258.out 1;have hfz11_2:=qJ BK258.out 2)|((with_reducible refine q8 (f:=50) rfl ?_);refine jB (some 15) rfl rfl Try.func50 (by kernel_rfl) rfl #[.agg #[.int .i64 ((jI l0_2 x9_1).f0),.slice A257_1 ((jI l0_2 x9_1).f1).length c257_1,.slice A257_2 ((jI l0_2 x9_1).f2).length c257_2]] rfl (by (try simp only [List.map_toArray,List.map_cons,List.map_nil]);first|done|rfl|(simp only [List.length_drop,List.length_take];rfl)|(simp only [List.length_nil,Int.natCast_zero,Int.zero_add,Int.ofNat_zero];rfl)) ?_;(with_reducible refine (ih k1 (by have:=HK1.out;omega) ((jI l0_2 x9_1).f0) _ _ ((jI l0_2 x9_1).f1) _ _ ((jI l0_2 x9_1).f2) t259 _ ?side1 ?side2 ?side3 ?side4 A7.out).mono ?_);(case side1=>exact Kd.vD HR257_1.out (by repeat (first|(with_reducible first|exact HB.out|apply qH|apply qB|apply qG|refine qD ?_ GE256.out|refine qD ?_ GE258.out)|exact HB.out)));(case side2=>exact HC257_1.out);(case side3=>exact Kd.vD HR257_2.out (by repeat (first|(with_reducible first|exact HB.out|apply qH|apply qB|apply qG|refine qD ?_ GE256.out|refine qD ?_ GE258.out)|exact HB.out)));(case side4=>exact HC257_2.out);rintro e w12 ⟨rfl,hb⟩;refine ⟨_,rfl,?_⟩;have n0_:=qA.mk (zD (g:=gb256) (o:=.cells #[.int .i64 a0_0,.slice A0_1 l0_1.length c0_1,.slice (some ad257) l0_2.length c0_2] 49 (0,0)) (by (with_reducible repeat (first|refine qF ?_ _|refine qI ?_|refine qE ?_ _));refine zU ?_ NB256_258.out _;(with_reducible repeat (first|refine qF ?_ _|refine qI ?_|refine qE ?_ _));refine zU ?_ NB256_258.out _;(with_reducible repeat (first|refine qF ?_ _|refine qI ?_|refine qE ?_ _));refine zU ?_ NB256_258.out _;(with_reducible repeat (first|refine qF ?_ _|refine qI ?_|refine qE ?_ _));exact BK256.out) hb);have n1_:=qA.mk (zD (g:=gb258) (o:=.cells #[.int .i64 ((jI l0_2 x9_1).f0),.slice A257_1 ((jI l0_2 x9_1).f1).length c257_1,.slice A257_2 ((jI l0_2 x9_1).f2).length c257_2] 49 (0,0)) (by (with_reducible repeat (first|refine qF ?_ _|refine qI ?_|refine qE ?_ _));refine zV (cs:=#[.int .i64 ((jI l0_2 x9_1).f0),.slice A257_1 ((jI l0_2 x9_1).f1).length c257_1,.slice none 0 0]) ?_ 2 _ rfl;(with_reducible repeat (first|refine qF ?_ _|refine qI ?_|refine qE ?_ _));refine zV (cs:=#[.int .i64 ((jI l0_2 x9_1).f0),.slice none 0 0,.slice none 0 0]) ?_ 1 _ rfl;(with_reducible repeat (first|refine qF ?_ _|refine qI ?_|refine qE ?_ _));refine zV (cs:=#[.int .i64 0,.slice none 0 0,.slice none 0 0]) ?_ 0 _ rfl;(with_reducible repeat (first|refine qF ?_ _|refine qI ?_|refine qE ?_ _));exact BK258.out) hb);have n2_:=qA.mk (qN (by repeat (first|(with_reducible first|exact HB.out|apply qH|apply qB|apply qG|refine qD ?_ GE256.out|refine qD ?_ GE258.out)|exact HB.out)) hb);clear BK256;clear BK258;clear HB;have BK256:=n0_;have BK258:=n1_;have HB:=n2_;clear n0_ n1_ n2_;(try clear hb);(try clear hb2);(try clear hk);(try clear hi)))
      go_roundg k1
      case measure=>have:=HK1.out;omega
      case rel=>exact ⟨(ji8),(wrap64 (x9_1 + 1)),(by first|rfl|(simp;done)|(simp only [← hji8]<;>(first|rfl|simp))|(simp [*];done)),(by first|rfl|(simp;done)|(simp [*];done)),H',⟨by have:=HK1.out;omega⟩,⟨by (with_reducible repeat (first|refine qF ?_ _|refine qI ?_|refine qE ?_ _));exact BK256.out⟩,⟨by repeat (first|(with_reducible first|exact HB.out|apply qH|apply qB|apply qG|refine qD ?_ GE256.out|refine qD ?_ GE258.out)|exact HB.out)⟩⟩
     ·rw [if_neg c6] at H
      exact absurd H (by simp)
    ·rw [if_neg c5] at H
     exact absurd H (by simp)
   ·rw [if_neg c4] at H
    have c4b0 : decide (x9_1 < (l0_2.length : Int)) = false:=decide_eq_false c4
    clear c4
    obtain rfl:=Option.some.inj H
    go_wp2
    go_ret
    exact ⟨by first|rfl|(simp [zK,zJ]<;>rfl)|(simp [*,zK,zJ]<;>rfl),by repeat (first|(with_reducible first|exact HB.out|apply qH|apply qB|apply qG|refine qD ?_ GE256.out)|exact HB.out)⟩
end Go.Proofs.Ytoofabolcbbjnaa.P
