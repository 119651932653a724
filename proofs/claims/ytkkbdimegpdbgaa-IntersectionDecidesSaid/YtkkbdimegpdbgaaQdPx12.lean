/- Functions of the program as Lean functions, and the walks that show that the calls answer so; written by a program of this session (a changed print) and by hand. -/
import Derived.Test.YtkkbdimegpdbgaaQdPx0
import Derived.Test.YtkkbdimegpdbgaaQdPx11
namespace Go.Proofs.Ytkkbdimegpdbgaa.P
open Go.RowKit Go.Proofs.YtkkbdimegpdbgaaW.PrintWords Go.Proofs.YtkkbdimegpdbgaaW.PrintLast Go.Proofs.YtkkbdimegpdbgaaW.PrintMore
attribute [local go_sem] uH uI uQ uR vW vV uF uG
set_option linter.unusedVariables false
set_option linter.unusedSimpArgs false
mutual
def qQ.l0 : Nat→Int→Int→List Int→Int→Int→List Int→Int→Int→List Int→Option (Int × List Int × (List (S56)) × Int)
 | 0,_,_,_,_,_,_,_,_,_=>none
 | k + 1,x1,x2,x20,x21,x22,x1000,x1001,x323000,x323001=>if x22 < x21 then (if 0 ≤ x22 then (if x22 < (x20.length : Int) then (if x323001.length < 17592186044416 then (qQ.l0 k x1 x2 x20 x21 (wrap64 (x22 + 1)) x1000 x1001 x323000 (x323001 ++ [rd x20 x22])) else (none)) else (none)) else (none)) else (if x2 > 1 then ((jL.f x1000 x1001 (([0,0,1,1,2,3] : List Int))).bind fun bt339=>(qQ.l1 k x1 x2 bt339.1 x1000 bt339.2 x323000 x323001 ([] : List (S56)))) else ((zI.f x1000 x1001 1 (wrap64 ((x323001.length : Int) + (([] : List (S56)).length : Int)))).bind fun bt360=>(some (bt360.1,x323001,([] : List (S56)),bt360.2))))
def qQ.l1 : Nat→Int→Int→Int→List Int→Int→Int→List Int→List (S56)→Option (Int × List Int × (List (S56)) × Int)
 | 0,_,_,_,_,_,_,_,_=>none
 | k + 1,x1,x2,x11,x1000,x1001,x323000,x323001,x323002=>if x11 > 0 then ((qQ.f k x1000 x1001 x1 (wrap64 (x2 - 1))).bind fun bt341=>(if x323002.length < 2513169434916 then (qQ.l1 k x1 x2 (wrap64 (x11 - 1)) x1000 bt341.2.2.2 x323000 x323001 (x323002 ++ [(⟨bt341.1,bt341.2.1,bt341.2.2.1⟩ : S56)])) else (none))) else (if (x323002.length : Int) > 0 then ((q8.f x1000 x1001 3).bind fun bt352=>(if bt352.1 = 0 then ((zI.f x1000 bt352.2 1 (wrap64 ((([] : List Int).length : Int) + (x323002.length : Int)))).bind fun bt354=>(some (bt354.1,([] : List Int),x323002,bt354.2))) else ((zI.f x1000 bt352.2 1 (wrap64 ((x323001.length : Int) + (x323002.length : Int)))).bind fun bt356=>(some (bt356.1,x323001,x323002,bt356.2))))) else ((zI.f x1000 x1001 1 (wrap64 ((x323001.length : Int) + (x323002.length : Int)))).bind fun bt358=>(some (bt358.1,x323001,x323002,bt358.2))))
def qQ.f : Nat→List Int→Int→Int→Int→Option (Int × List Int × (List (S56)) × Int)
 | 0,_,_,_,_=>none
 | k + 1,s0_0,s0_1,a1,a2=>(qW.f k s0_0 s0_1 a1).bind fun bt323=>((zI.f s0_0 bt323.2 1 (mn a1 5)).bind fun bt327=>(if 0 ≤ bt327.1 then (if bt327.1 ≤ (bt323.1.length : Int) then ((some (bt323.1.take (bt327.1 : Int).toNat : List Int)).bind fun y329=>(qQ.l0 k a1 a2 y329 (y329.length : Int) 0 s0_0 bt327.2 0 ([] : List Int))) else (none)) else (none)))
end
def qQ.T12 : Bool × List (List Nat × List Nat):=(true,[([],[]),([0],[0]),([],[]),([],[]),([],[]),([4],[4]),([2,3,5],[2,3,5]),([6],[6]),([1,7,6],[1,7]),([0,1,2,3,4,5,6,7,8],[]),([9,8,8,0,1,2,3,4,5,6,7,8],[8,9])])
def qQ.B12 : List Nat:=[0,1,0,0,0,16,60,124,255,511,1023]
theorem qQ.tab12 : rtab .any (opsOf Try.f47 12) = qQ.T12:=by kernel_rfl
theorem qQ.bits12 : kL qQ.T12.2 qQ.B12 = true:=by kernel_rfl
set_option maxHeartbeats 8000000 in
set_option maxRecDepth 100000 in
theorem qQ.calls (k : Nat) : ∀ (g : Nat) (s0_0 : List Int) (s0_1 : Int) (a1 : Int) (a2 : Int) (r1 : Int) (r2 : List Int) (r3 : List (S56)) (r4 : Int) (w0 w : World) (hI : qD w0 w g s0_0 s0_1) (hB : Below w0.heap.size w0 w) (h : qQ.f k s0_0 s0_1 a1 a2 = some (r1,r2,r3,r4)),
  Calls Try.prog 47 #[.pointer (some ⟨g,0,none⟩),.int .i64 a1,.int .i64 a2] w fun e w'=>∃ v1_ v2_ : Value,e = .returned (.agg #[.int .i64 r1,v1_,v2_])∧Kd.R (Kd.int .i64) 3 w' w.heap.size (fun _=>True) v1_ r2∧Kd.R k56 56 w' w.heap.size (fun k_=>some k_≠(v1_ : Value).ownBlock) v2_ r3∧qD w0 w' g s0_0 r4∧Below w0.heap.size w0 w'∧qK w w' g none:=by
 induction k using Nat.strongRecOn with
 | _ k ih =>
 intro g s0_0 s0_1 a1 a2 r1 r2 r3 r4 w0 w hI hB h
 cases k with
 | zero=>exact absurd h (by simp [qQ.f])
 | succ k =>
 simp only [qQ.f] at h
 have hu56:=Try.underlying56
 have HI0:=qA.mk hI
 have HK:=qA.mk (qK.refl w g none)
 have HL:=qA.mk hB.size
 clear hI
 have HW0:=qA.mk hB.size
 have HB:=qA.mk hB
 clear hB
 have H : ((qW.f k s0_0 s0_1 a1).bind fun bt323=>((zI.f s0_0 bt323.2 1 (mn a1 5)).bind fun bt327=>(if 0 ≤ bt327.1 then (if bt327.1 ≤ (bt323.1.length : Int) then ((some (bt323.1.take (bt327.1 : Int).toNat : List Int)).bind fun y329=>(qQ.l0 k a1 a2 y329 (y329.length : Int) 0 s0_0 bt327.2 0 ([] : List Int))) else (none)) else (none)))) = some (r1,r2,r3,r4):=h
 clear h
 replace H:=Option.bind_eq_some_iff.mp H
 obtain ⟨⟨t323,t326⟩,A40,H⟩:=H
 replace H : ((zI.f s0_0 t326 1 (mn a1 5)).bind fun bt327=>(if 0 ≤ bt327.1 then (if bt327.1 ≤ (t323.length : Int) then ((some (t323.take (bt327.1 : Int).toNat : List Int)).bind fun y329=>(qQ.l0 k a1 a2 y329 (y329.length : Int) 0 s0_0 bt327.2 0 ([] : List Int))) else (none)) else (none))) = some (r1,r2,r3,r4):=H
 have A4:=qA.mk A40
 clear A40
 obtain ⟨ji5,hji5⟩ : ∃ j_ : Int,(mn a1 5) = j_:=⟨_,rfl⟩
 replace H : ((zI.f s0_0 t326 1 (ji5)).bind fun bt327=>(if 0 ≤ bt327.1 then (if bt327.1 ≤ (t323.length : Int) then ((some (t323.take (bt327.1 : Int).toNat : List Int)).bind fun y329=>(qQ.l0 k a1 a2 y329 (y329.length : Int) 0 s0_0 bt327.2 0 ([] : List Int))) else (none)) else (none))) = some (r1,r2,r3,r4):=by first|(rw [hji5] at H;exact H)|(simp only [hji5] at H ⊢;exact H)
 (try rw [hji5] at A4)
 (try (have hji5h : ji5 ≤ 5:=by (rw [← hji5];unfold mn;(repeat' split)<;>omega)))
 (try (have hji5g : ji5 ≤ 64:=by omega))
 have hji5_ : (if 5 < a1 then 5 else a1) = ji5:=hji5
 replace H:=Option.bind_eq_some_iff.mp H
 obtain ⟨⟨t327,t328⟩,A60,H⟩:=H
 replace H : (if 0 ≤ t327 then (if t327 ≤ (t323.length : Int) then ((some (t323.take (t327 : Int).toNat : List Int)).bind fun y329=>(qQ.l0 k a1 a2 y329 (y329.length : Int) 0 s0_0 t328 0 ([] : List Int))) else (none)) else (none)) = some (r1,r2,r3,r4):=H
 have A6:=qA.mk A60
 clear A60
 by_cases c7 : 0 ≤ t327
 ·rw [if_pos c7] at H
  have c7b0:=eq_true c7
  have c7b1 : decide (0 ≤ t327) = true:=decide_eq_true c7
  clear c7
  by_cases c8 : t327 ≤ (t323.length : Int)
  ·rw [if_pos c8] at H
   have c8b0:=eq_true c8
   have c8b1 : decide (t327 ≤ (t323.length : Int)) = true:=decide_eq_true c8
   clear c8
   obtain ⟨y329,hy329⟩ : ∃ y_ : List Int,y_ = (t323.take (t327 : Int).toNat):=⟨_,rfl⟩
   replace H : (qQ.l0 k a1 a2 y329 (y329.length : Int) 0 s0_0 t328 0 ([] : List Int)) = some (r1,r2,r3,r4):=by first|(rw [hy329];with_reducible exact H)|(have H2_:=(Option.bind_some _ _).symm.trans H;rw [hy329];with_reducible exact H2_)|(have H2_:=(Option.bind_some _ _).symm.trans H;with_reducible exact H2_)|with_reducible exact H|(rw [hy329];exact H)|exact H
   have Ny329:=qA.mk hy329
   clear hy329
   have H':=qA.mk H
   clear H
   go_enter Try.func47,Try.ntmps47
   go_wp2_with (first|((with_reducible refine zK (N:=6) rfl ?_);refine q9 ?hg (N:=6) ?hd (cs:=#[.int .i64 0,.slice none 0 0,.slice none 0 0]) (t:=56) ?hr ?_;(case hd=>rfl);(case hg=>rfl);(case hr=>exact byaa);intro gb321 hg w9 hbox hb;have n0_:=qA.mk (qD.below (bybf HI0.out) hb);have n1_:=qA.mk (qK.trans bybh (qK.of_below hb g none) (.inl rfl));have n2_:=qA.mk (qE (bybg HI0.out) hb);have n3_:=qA.mk (hbox);have n4_:=qA.mk ((bycc : w.heap.size ≤ gb321));have n5_:=qA.mk ((Nat.le_trans HW0.out (bycc : w.heap.size ≤ gb321) : w0.heap.size ≤ gb321));have n6_:=qA.mk ((by rw [hg];exact Nat.ne_of_lt (qD.lt (show qD w0 _ g s0_0 s0_1 from by repeat (first|(with_reducible first|exact HI0.out|apply qD.alloc|apply qD.drewN|apply qD.drew|apply qD.jR)|exact HI0.out))) : g≠gb321));have n7_:=qA.mk ((by rw [hg];exact Nat.ne_of_gt (qD.lt (show qD w0 _ g s0_0 s0_1 from by repeat (first|(with_reducible first|exact HI0.out|apply qD.alloc|apply qD.drewN|apply qD.drew|apply qD.jR)|exact HI0.out))) : gb321≠g));clear HI0;clear HK;clear HB;have HI0:=n0_;have HK:=n1_;have HB:=n2_;have BK321:=n3_;have GW321:=n4_;have GE321:=n5_;have NB0_321:=n6_;have NB321_0:=n7_;clear n0_ n1_ n2_ n3_ n4_ n5_ n6_ n7_;clear hb hbox hg)|((with_reducible refine zK (N:=7) rfl ?_);refine q9 ?hg (N:=7) ?hd (cs:=#[.int .i64 0,.slice none 0 0,.slice none 0 0]) (t:=56) ?hr ?_;(case hd=>rfl);(case hg=>rfl);(case hr=>exact byaa);intro gb322 hg w10 hbox hb;have n0_:=qA.mk (qD.below (bybi HI0.out NB0_321.out) hb);have n1_:=qA.mk (qH (g:=gb321) (o:=.cells #[.int .i64 0,.slice none 0 0,.slice none 0 0] 56 (0,0)) (byaf BK321.out) hb);have n2_:=qA.mk (qK.trans (bybj GW321.out) (qK.of_below hb g none) (.inl rfl));have n3_:=qA.mk (qE (bybk HI0.out GE321.out) hb);have n4_:=qA.mk (hbox);have n5_:=qA.mk ((bycd GW321.out : w.heap.size ≤ gb322));have n6_:=qA.mk ((Nat.le_trans HW0.out (bycd GW321.out : w.heap.size ≤ gb322) : w0.heap.size ≤ gb322));have n7_:=qA.mk ((by rw [hg];exact Nat.ne_of_lt (jF (g:=gb321) (o:=.cells #[.int .i64 0,.slice none 0 0,.slice none 0 0] 56 (0,0)) (byaf BK321.out)) : gb321≠gb322));have n8_:=qA.mk ((by rw [hg];exact Nat.ne_of_gt (jF (g:=gb321) (o:=.cells #[.int .i64 0,.slice none 0 0,.slice none 0 0] 56 (0,0)) (byaf BK321.out)) : gb322≠gb321));have n9_:=qA.mk ((by rw [hg];exact Nat.ne_of_lt (qD.lt (show qD w0 _ g s0_0 s0_1 from by repeat (first|(with_reducible first|exact HI0.out|apply qD.alloc|apply qD.drewN|apply qD.drew|apply qD.jR|refine qD.far ?_ NB0_321.out _)|exact HI0.out))) : g≠gb322));have n10_:=qA.mk ((by rw [hg];exact Nat.ne_of_gt (qD.lt (show qD w0 _ g s0_0 s0_1 from by repeat (first|(with_reducible first|exact HI0.out|apply qD.alloc|apply qD.drewN|apply qD.drew|apply qD.jR|refine qD.far ?_ NB0_321.out _)|exact HI0.out))) : gb322≠g));clear HI0;clear BK321;clear HK;clear HB;have HI0:=n0_;have BK321:=n1_;have HK:=n2_;have HB:=n3_;have BK322:=n4_;have GW322:=n5_;have GE322:=n6_;have NB321_322:=n7_;have NB322_321:=n8_;have NB0_322:=n9_;have NB322_0:=n10_;clear n0_ n1_ n2_ n3_ n4_ n5_ n6_ n7_ n8_ n9_ n10_;clear hb hbox hg)|((with_reducible refine qI (f:=64) rfl ?_);refine zL (some 14) rfl rfl Try.func64 (by kernel_rfl) rfl #[.pointer (some ⟨g,0,none⟩),.int .i64 a1] rfl byah ?_;(with_reducible refine (qW.calls k g s0_0 s0_1 a1 t323 t326 w0 _ ?side1 ?side2 A4.out).mono ?_);(case side1=>exact bybl HI0.out NB0_321.out NB0_322.out);(case side2=>exact bybm HI0.out GE321.out GE322.out);rintro e w11 ⟨v324,rfl,ho0,hi,hb,hk⟩;refine ⟨_,rfl,?_⟩;have n0_:=qA.mk (qK.blk hk (g':=gb321) (o:=.cells #[.int .i64 0,.slice none 0 0,.slice none 0 0] 56 (0,0)) (byaf BK321.out) NB321_0.out (by simp));have n1_:=qA.mk (qK.blk hk (g':=gb322) (o:=.cells #[.int .i64 0,.slice none 0 0,.slice none 0 0] 56 (0,0)) (byaf BK322.out) NB322_0.out (by simp));have n2_:=qA.mk (Kd.vR ho0 (jV (w:=w) (g:=g) (row:=none) (bybn GW321.out GW322.out)));have n3_:=qA.mk (qK.trans (bybn GW321.out GW322.out) hk (.inl rfl));have n4_:=qA.mk (hb);have n5_:=qA.mk (hi);clear BK321;clear BK322;clear HK;clear HB;clear HI0;have BK321:=n0_;have BK322:=n1_;have HO325:=n2_;have HK:=n3_;have HB:=n4_;have HI0:=n5_;clear n0_ n1_ n2_ n3_ n4_ n5_;(try clear hb);(try clear hb2);(try clear hk);(try clear hi);(try clear ho0))|((with_reducible refine qI (f:=28) rfl ?_);refine zL (some 19) rfl rfl Try.func28 (by kernel_rfl) rfl #[.pointer (some ⟨g,0,none⟩),.int .i64 1,.int .i64 ji5] rfl (by (try simp only [List.map_toArray,List.map_cons,List.map_nil]);first|done|(simp only [hji5];rfl)|rfl|(simp only [List.length_drop,List.length_take];rfl)) ?_;(with_reducible refine (zI.calls g s0_0 t326 1 ji5 t327 t328 w0 _ ?side1 ?side2 A6.out).mono ?_);(case side1=>exact bybl HI0.out NB0_321.out NB0_322.out);(case side2=>exact bybm HI0.out GE321.out GE322.out);rintro e w12 ⟨rfl,hi,hb,hk⟩;refine ⟨_,rfl,?_⟩;have n0_:=qA.mk (qK.blk hk (g':=gb321) (o:=.cells #[.int .i64 0,.slice none 0 0,.slice none 0 0] 56 (0,0)) (byaf BK321.out) NB321_0.out (by simp));have n1_:=qA.mk (qK.blk hk (g':=gb322) (o:=.cells #[.int .i64 0,.slice none 0 0,.slice none 0 0] 56 (0,0)) (byaf BK322.out) NB322_0.out (by simp));have n2_:=qA.mk (Kd.zG (Kd.vF (qD.apart (show qD w0 _ g s0_0 t326 from by repeat (first|(with_reducible first|exact HI0.out|apply qD.alloc|apply qD.drewN|apply qD.drew|apply qD.jR|refine qD.far ?_ NB0_321.out _|refine qD.far ?_ NB0_322.out _)|exact HI0.out)) (byav HO325.out) (by decide)) hk (fun _ h=>h.2)) (fun _ h=>h.1));have n3_:=qA.mk (qK.trans (bybn GW321.out GW322.out) hk (.inl rfl));have n4_:=qA.mk (hb);have n5_:=qA.mk (hi);clear BK321;clear BK322;clear HO325;clear HK;clear HB;clear HI0;have BK321:=n0_;have BK322:=n1_;have HO325:=n2_;have HK:=n3_;have HB:=n4_;have HI0:=n5_;clear n0_ n1_ n2_ n3_ n4_ n5_;(try clear hb);(try clear hb2);(try clear hk);(try clear hi);obtain ⟨Ao13,co13,eo13⟩:=Kd.jT HO325.out;subst eo13;have q14 : (t327 : Int) ≤ ((t323.length : Int) : Int):=of_decide_eq_true byag;obtain ⟨i014,hi014,_,hsz14,_⟩:=info_parts info3;have hcut14:=cut_to (P:=Try.prog) 22 3 .i64 Try.underlying22 hi014 Ao13 t323.length co13 t327 (of_decide_eq_true byag) q14 (Kd.vX HO325.out).2.1;have hr14:=Kd.R_take (m:=(t327 : Int).toNat) HO325.out (by omega);have hy14 : y329.length = (t327 : Int).toNat:=(by rw [Ny329.out,List.length_take];omega);rw [← Ny329.out] at hr14;rw [← hy14] at hr14 hcut14;clear hy14 hi014 hsz14 HO325;have HO331:=qA.mk hr14;clear hr14;replace q14:=eq_true q14))
   go_loopg [22] k (fun kq v22 w'=>∃ (x22_1 : Int) (x323001_1 : List Int) (u323001 : Value),v22 = .int .i64 x22_1∧qA (qQ.l0 kq a1 a2 y329 (y329.length : Int) x22_1 s0_0 t328 0 x323001_1 = some (r1,r2,r3,r4))∧qA (kq ≤ k)∧qA (Kd.R (Kd.int .i64) 3 w' w.heap.size (fun k_=>some k_≠(u323001 : Value).ownBlock) (.slice Ao13 y329.length co13) y329)∧qA (Kd.R (Kd.int .i64) 3 w' w.heap.size (fun k_=>some k_≠((.slice Ao13 y329.length co13) : Value).ownBlock) u323001 x323001_1)∧qA (w'.heap[gb321]? = some (.cells #[.int .i64 0,(.slice none 0 0),(.slice none 0 0)] 56 (0,0)))∧qA (w'.heap[gb322]? = some (.cells #[.int .i64 0,u323001,(.slice none 0 0)] 56 (0,0)))∧qA (qD w0 w' g s0_0 t328)∧qA (qK w w' g none)∧qA (Below w0.heap.size w0 w'))
   case atStart=>exact ⟨(0),(([] : List Int)),(.slice none 0 0),byae,H',⟨Nat.le_refl _⟩,⟨by (with_reducible repeat (first|apply Kd.jI|apply Kd.jJ|apply Kd.jM));exact Kd.zG HO331.out (fun _ hk=>(by simp [Value.ownBlock]))⟩,⟨byau⟩,⟨byaf BK321.out⟩,⟨byaf BK322.out⟩,⟨bybl HI0.out NB0_321.out NB0_322.out⟩,⟨bybn GW321.out GW322.out⟩,⟨bybm HI0.out GE321.out GE322.out⟩⟩
   case round =>
    clear H'
    try clear q1
    try clear c2
    try clear p2
    try clear c4
    try clear c6
    try clear c7
    try clear c7b0
    try clear c7b1
    try clear c8
    try clear c8b0
    try clear c8b1
    try clear q14
    try clear q14
    obtain ⟨x22_1,x323001_1,u323001,rfl,HA,HK1,HO_20,HO_323001,BK321,BK322,HI0,HK,HB⟩:=hrel
    cases gk with
    | zero=>exact absurd HA.out (by simp [qQ.l0])
    | succ k1 =>
     have H:=HA.out
     clear HA
     simp only [qQ.l0] at H
     by_cases c15 : x22_1 < (y329.length : Int)
     ·rw [if_pos c15] at H
      have c15b0 : decide (x22_1 < (y329.length : Int)) = true:=decide_eq_true c15
      clear c15
      by_cases c16 : 0 ≤ x22_1
      ·rw [if_pos c16] at H
       have c16b0 : decide (0 ≤ x22_1) = true:=decide_eq_true c16
       clear c16
       by_cases c17 : x22_1 < (y329.length : Int)
       ·rw [if_pos c17] at H
        have c17b0 : decide (x22_1 < (y329.length : Int)) = true:=decide_eq_true c17
        clear c17
        by_cases c18 : x323001_1.length < 17592186044416
        ·rw [if_pos c18] at H
         have LMc18:=qA.mk c18
         clear c18
         obtain ⟨y333,hy333⟩ : ∃ y_ : List Int,y_ = (x323001_1 ++ [rd y329 x22_1]):=⟨_,rfl⟩
         replace H : (qQ.l0 k1 a1 a2 y329 (y329.length : Int) (wrap64 (x22_1 + 1)) s0_0 t328 0 y333) = some (r1,r2,r3,r4):=by first|(rw [hy333];with_reducible exact H)|(have H2_:=(Option.bind_some _ _).symm.trans H;rw [hy333];with_reducible exact H2_)|(have H2_:=(Option.bind_some _ _).symm.trans H;with_reducible exact H2_)|with_reducible exact H|(rw [hy333];exact H)|exact H
         have Ny333:=qA.mk hy333
         clear hy333
         have H':=qA.mk H
         clear H
         have p332 : 0 ≤ (x22_1 : Int):=of_decide_eq_true byag
         have q332 : x22_1 < (y329.length : Int):=of_decide_eq_true byag
         obtain ⟨ad332,e332,hx332_0⟩:=Kd.uV (Kd.vX HO_20.out).2.2 x22_1 p332 q332
         cases e332
         replace p332:=eq_true p332
         replace q332:=eq_true q332
         have hnb19:=NB322_321.out
         have hnc19:=NB321_322.out
         have hnb20:=NB322_0.out
         have hnc20:=NB0_322.out
         have hcz21_0 : wr.cell? ⟨gb322,0,none⟩ = some (.int .i64 0):=(qC BK322.out 0).trans rfl
         have hcz21_1 : wr.cell? ⟨gb322,1,none⟩ = some (u323001):=(qC BK322.out 1).trans rfl
         have hcz21_2 : wr.cell? ⟨gb322,2,none⟩ = some (.slice none 0 0):=(qC BK322.out 2).trans rfl
         have hfz21_0:=qB BK322.out 0
         have hfz21_1:=qB BK322.out 1
         have hfz21_2:=qB BK322.out 2
         go_wp2_with (first|((with_reducible refine vP (b:=.append) (xs:=#[.tmp 27,.tmp 29]) rfl ?_);at_builtin;refine Kd.uP (Kd.int .i64) w.heap.size rfl (.tmp 27) (.tmp 29) 22 3 (.int .i64 0) 8 rfl Try.underlying22 info3 rfl (by decide) (by omega) u323001 x323001_1 (rd y329 x22_1) [.int .i64 (rd y329 x22_1)] (fun k_=>some k_≠(.slice (some ad332) y329.length co13 : Value).ownBlock) (fun _=>False) rfl rfl ?aP (fun _ hk=>hk.elim) ?aF ?aO (Below.refl _ _) ?aS ?aL ?_;(case aP=>exact rfl);(case aF=>exact (fun k_ hk=>Kd.fresh' (Kd.R_lt (byav HO_20.out)) k_ hk));(case aO=>exact (byav HO_323001.out));(case aS=>exact (jV (w:=w) (g:=g) (row:=none) (bybn GW321.out GW322.out)));(case aL=>have:=LMc18.out;omega);intro v334 w22 ho hb hg hat;rw [← Ny333.out] at ho;have n0_:=qA.mk (Kd.R_after (ok:=(fun _=>True)) (by (with_reducible repeat (first|apply Kd.jI|apply Kd.jJ|apply Kd.jM));exact Kd.zG HO_20.out (fun _ hk=>⟨trivial,hk⟩)) hg hat);have n1_:=qA.mk (j4 (g:=gb321) (o:=.cells #[.int .i64 0,.slice none 0 0,.slice none 0 0] 56 (0,0)) (byaf BK321.out) hg (Kd.R_ne HO_323001.out BK321.out (by decide)));have n2_:=qA.mk (j4 (g:=gb322) (o:=.cells #[.int .i64 0,u323001,.slice none 0 0] 56 (0,0)) (byaf BK322.out) hg (Kd.R_ne HO_323001.out BK322.out (by decide)));have n3_:=qA.mk (qD.grown (bybl HI0.out NB0_321.out NB0_322.out) hg (qD.own_ne HI0.out HO_323001.out (by decide)));have n4_:=qA.mk (uB (bybm HI0.out GE321.out GE322.out) HL.out hb);have n5_:=qA.mk (qK.trans (bybn GW321.out GW322.out) (qK.kC hg g) (Kd.kT HO_323001.out));have n6_:=qA.mk (ho);clear HO_20;clear BK321;clear BK322;clear HI0;clear HB;clear HK;clear HO_323001;have HO_20:=n0_;have BK321:=n1_;have BK322:=n2_;have HI0:=n3_;have HB:=n4_;have HK:=n5_;have HO335:=n6_;clear n0_ n1_ n2_ n3_ n4_ n5_ n6_;clear ho hb hg hat;obtain ⟨Ao23,co23,eo23⟩:=Kd.jT HO335.out;subst eo23;have hcz24_0 : w22.cell? ⟨gb322,0,none⟩ = some (.int .i64 0):=(qC BK322.out 0).trans rfl;have hcz24_1 : w22.cell? ⟨gb322,1,none⟩ = some (u323001):=(qC BK322.out 1).trans rfl;have hcz24_2 : w22.cell? ⟨gb322,2,none⟩ = some (.slice none 0 0):=(qC BK322.out 2).trans rfl;have hfz24_0:=qB BK322.out 0;have hfz24_1:=qB BK322.out 1;have hfz24_2:=qB BK322.out 2))
         go_roundg k1
         case measure=>have:=HK1.out;omega
         case rel=>exact ⟨(wrap64 (x22_1 + 1)),(y333),(.slice Ao23 y333.length co23),byae,H',⟨byai⟩,⟨by (with_reducible repeat (first|apply Kd.jI|apply Kd.jJ|apply Kd.jM));exact Kd.zG (Kd.jD (p:=⟨gb322,1,none⟩) (Kd.jW HO_20.out BK322.out (by decide)) (fun _ hk=>hk.2) (.slice Ao23 y333.length co23)) (fun _ hk=>hk.1.2)⟩,⟨by (with_reducible repeat (first|apply Kd.jI|apply Kd.jJ|apply Kd.jM));exact Kd.zG (Kd.jD (p:=⟨gb322,1,none⟩) (Kd.jW HO335.out BK322.out (by decide)) (fun _ hk=>hk.2) (.slice Ao23 y333.length co23)) (fun _ hk=>hk.1)⟩,⟨bybb NB321_322.out BK321.out⟩,⟨by (with_reducible repeat (first|refine qG ?_ _|refine qJ ?_|refine qF ?_ _));refine zJ (cs:=#[.int .i64 0,u323001,.slice none 0 0]) ?_ 1 _ rfl;(with_reducible repeat (first|refine qG ?_ _|refine qJ ?_|refine qF ?_ _));exact BK322.out⟩,⟨bybl HI0.out NB0_321.out NB0_322.out⟩,⟨bybn GW321.out GW322.out⟩,⟨bybm HI0.out GE321.out GE322.out⟩⟩
        ·rw [if_neg c18] at H
         exact absurd H (by simp)
       ·rw [if_neg c17] at H
        exact absurd H (by simp)
      ·rw [if_neg c16] at H
       exact absurd H (by simp)
     ·rw [if_neg c15] at H
      have c15b0 : decide (x22_1 < (y329.length : Int)) = false:=decide_eq_false c15
      clear c15
      by_cases c25 : a2 > 1
      ·rw [if_pos c25] at H
       have c25b0 : decide (1 < a2) = true:=decide_eq_true c25
       clear c25
       obtain ⟨y336,hy336⟩ : ∃ y_ : List Int,y_ = (([0,0,1,1,2,3] : List Int)):=⟨_,rfl⟩
       replace H : ((jL.f s0_0 t328 y336).bind fun bt339=>(qQ.l1 k1 a1 a2 bt339.1 s0_0 bt339.2 0 x323001_1 ([] : List (S56)))) = some (r1,r2,r3,r4):=by first|(rw [hy336];with_reducible exact H)|(have H2_:=(Option.bind_some _ _).symm.trans H;rw [hy336];with_reducible exact H2_)|(have H2_:=(Option.bind_some _ _).symm.trans H;with_reducible exact H2_)|with_reducible exact H|(rw [hy336];exact H)|exact H
       have Ny336:=qA.mk hy336
       clear hy336
       replace H:=Option.bind_eq_some_iff.mp H
       obtain ⟨⟨t339,t340⟩,A260,H⟩:=H
       replace H : (qQ.l1 k1 a1 a2 t339 s0_0 t340 0 x323001_1 ([] : List (S56))) = some (r1,r2,r3,r4):=H
       have A26:=qA.mk A260
       clear A260
       have H':=qA.mk H
       clear H
       go_wp2_with (first|((with_reducible refine zK (N:=36) rfl ?_);refine Kd.R_lit (Kd.int .i64) _ 3 ?hg (N:=36) ?hd (xs:=([0,0,1,1,2,3] : List Int)) (inner:=[.int .i64 0,.int .i64 0,.int .i64 1,.int .i64 1,.int .i64 2,.int .i64 3]) (ok:=fun _=>True) (okp:=fun _=>True) ?hr ?hp (fun _ hk=>hk) trivial (Below.refl _ _) (Nat.le_refl _) (by simp) ?_;(case hd=>rfl);(case hg=>rfl);(case hr=>exact byaa);(case hp=>exact (Reps.one (show Kd.M (Kd.int .i64) _ _ _ 0 [.int .i64 0] from rfl) (Reps.one (show Kd.M (Kd.int .i64) _ _ _ 0 [.int .i64 0] from rfl) (Reps.one (show Kd.M (Kd.int .i64) _ _ _ 1 [.int .i64 1] from rfl) (Reps.one (show Kd.M (Kd.int .i64) _ _ _ 1 [.int .i64 1] from rfl) (Reps.one (show Kd.M (Kd.int .i64) _ _ _ 2 [.int .i64 2] from rfl) (Reps.one (show Kd.M (Kd.int .i64) _ _ _ 3 [.int .i64 3] from rfl) (Reps.none _ _))))))));intro v337 w27 ho28 hb hg_ hnew_;clear hg_ hnew_;(first|rw [← Ny336.out] at ho28|(simp only [Int.reduceToNat] at ho28;rw [← Ny336.out] at ho28));have n0_:=qA.mk (Kd.R_elder' (byav HO_20.out) (Kd.uD ho28) hb);have n1_:=qA.mk (Kd.R_elder' (byav HO_323001.out) (Kd.uD ho28) hb);have n2_:=qA.mk (Kd.vR (Kd.R_new' (Kd.R_new' ho28 (Kd.R_lt (byav HO_20.out))) (Kd.R_lt (byav HO_323001.out))) (jV (w:=w) (g:=g) (row:=none) (bybn GW321.out GW322.out)));have n3_:=qA.mk (qH (g:=gb321) (o:=.cells #[.int .i64 0,.slice none 0 0,.slice none 0 0] 56 (0,0)) (byaf BK321.out) hb);have n4_:=qA.mk (qH (g:=gb322) (o:=.cells #[.int .i64 0,u323001,.slice none 0 0] 56 (0,0)) (byaf BK322.out) hb);have n5_:=qA.mk (qD.below (bybl HI0.out NB0_321.out NB0_322.out) hb);have n6_:=qA.mk (qK.trans (bybn GW321.out GW322.out) (qK.of_below hb g none) (.inl rfl));have n7_:=qA.mk (qE (bybm HI0.out GE321.out GE322.out) hb);clear HO_20;clear HO_323001;clear BK321;clear BK322;clear HI0;clear HK;clear HB;have HO_20:=n0_;have HO_323001:=n1_;have HO338:=n2_;have BK321:=n3_;have BK322:=n4_;have HI0:=n5_;have HK:=n6_;have HB:=n7_;clear n0_ n1_ n2_ n3_ n4_ n5_ n6_ n7_;clear hb ho28;obtain ⟨Ao29,co29,eo29⟩:=Kd.jT HO338.out;subst eo29)|((with_reducible refine qI (f:=33) rfl ?_);refine zL (some 37) rfl rfl Try.func33 (by kernel_rfl) rfl #[.pointer (some ⟨g,0,none⟩),.slice Ao29 y336.length co29] rfl byah ?_;(with_reducible refine (jL.calls g s0_0 t328 _ _ y336 t339 t340 w0 _ ?side1 ?side2 ?side3 ?side4 ?side5 A26.out).mono ?_);(case side1=>exact bybl HI0.out NB0_321.out NB0_322.out);(case side2=>exact bybm HI0.out GE321.out GE322.out);(case side3=>exact bybo HO338.out);(case side4=>exact bybp HO338.out);(case side5=>exact far_slice (qD.own_ne HI0.out HO338.out (by decide)));rintro e w30 ⟨rfl,hi,hb,hk⟩;refine ⟨_,rfl,?_⟩;have n0_:=qA.mk (Kd.zG (Kd.vF (qD.apart (show qD w0 _ g s0_0 t328 from by repeat (first|(with_reducible first|exact HI0.out|apply qD.alloc|apply qD.drewN|apply qD.drew|apply qD.jR|refine qD.far ?_ NB0_321.out _|refine qD.far ?_ NB0_322.out _)|exact HI0.out)) (byav HO_20.out) (by decide)) hk (fun _ h=>h.2)) (fun _ h=>h.1));have n1_:=qA.mk (Kd.zG (Kd.vF (qD.apart (show qD w0 _ g s0_0 t328 from by repeat (first|(with_reducible first|exact HI0.out|apply qD.alloc|apply qD.drewN|apply qD.drew|apply qD.jR|refine qD.far ?_ NB0_321.out _|refine qD.far ?_ NB0_322.out _)|exact HI0.out)) (byav HO_323001.out) (by decide)) hk (fun _ h=>h.2)) (fun _ h=>h.1));have n2_:=qA.mk (qK.blk hk (g':=gb321) (o:=.cells #[.int .i64 0,.slice none 0 0,.slice none 0 0] 56 (0,0)) (byaf BK321.out) NB321_0.out (by simp));have n3_:=qA.mk (qK.blk hk (g':=gb322) (o:=.cells #[.int .i64 0,u323001,.slice none 0 0] 56 (0,0)) (byaf BK322.out) NB322_0.out (by simp));have n4_:=qA.mk (Kd.zG (Kd.vF (qD.apart (show qD w0 _ g s0_0 t328 from by repeat (first|(with_reducible first|exact HI0.out|apply qD.alloc|apply qD.drewN|apply qD.drew|apply qD.jR|refine qD.far ?_ NB0_321.out _|refine qD.far ?_ NB0_322.out _)|exact HI0.out)) (byav HO338.out) (by decide)) hk (fun _ h=>h.2)) (fun _ h=>h.1));have n5_:=qA.mk (qK.trans (bybn GW321.out GW322.out) hk (.inl rfl));have n6_:=qA.mk (hb);have n7_:=qA.mk (hi);clear HO_20;clear HO_323001;clear BK321;clear BK322;clear HO338;clear HK;clear HB;clear HI0;have HO_20:=n0_;have HO_323001:=n1_;have BK321:=n2_;have BK322:=n3_;have HO338:=n4_;have HK:=n5_;have HB:=n6_;have HI0:=n7_;clear n0_ n1_ n2_ n3_ n4_ n5_ n6_ n7_;(try clear hb);(try clear hb2);(try clear hk);(try clear hi)))
       go_loopg [11] k1 (fun kq v11 w'=>∃ (x11_2 : Int) (x1001_2 : Int) (x323002_2 : List (S56)) (u323002 : Value),v11 = .int .i64 x11_2∧qA (qQ.l1 kq a1 a2 x11_2 s0_0 x1001_2 0 x323001_1 x323002_2 = some (r1,r2,r3,r4))∧qA (kq ≤ k1)∧qA (Kd.R (Kd.int .i64) 3 w' w.heap.size (fun _=>True) u323001 x323001_1)∧qA (Kd.R k56 56 w' w.heap.size (fun k_=>some k_≠(u323001 : Value).ownBlock∧k_≠gb321∧k_≠gb322) u323002 x323002_2)∧qA (w'.heap[gb321]? = some (.cells #[.int .i64 0,(.slice none 0 0),(.slice none 0 0)] 56 (0,0)))∧qA (w'.heap[gb322]? = some (.cells #[.int .i64 0,u323001,u323002] 56 (0,0)))∧qA (qD w0 w' g s0_0 x1001_2)∧qA (qK w w' g none)∧qA (Below w0.heap.size w0 w'))
       case atStart=>exact ⟨(t339),(t340),(([] : List (S56))),(.slice none 0 0),byae,H',⟨Nat.le_refl _⟩,⟨by (with_reducible repeat (first|apply Kd.jI|apply Kd.jJ|apply Kd.jM));exact Kd.zG HO_323001.out (fun _ hk=>trivial)⟩,⟨byau⟩,⟨byaf BK321.out⟩,⟨byaf BK322.out⟩,⟨bybl HI0.out NB0_321.out NB0_322.out⟩,⟨bybn GW321.out GW322.out⟩,⟨bybm HI0.out GE321.out GE322.out⟩⟩
       case round =>
        clear H'
        try clear c1
        try clear q1
        try clear c2
        try clear p2
        try clear c3
        try clear p3
        try clear q3
        try clear hx3
        try clear c4
        try clear c6
        try clear p6
        try clear c7
        try clear c7b0
        try clear c7b1
        try clear c8
        try clear c8b0
        try clear c8b1
        try clear q14
        try clear c15
        try clear c15b0
        try clear c16
        try clear c16b0
        try clear c17
        try clear c17b0
        try clear c18
        try clear c19
        try clear c20
        try clear c25
        try clear c25b0
        try clear c28
        try clear hcz21_0
        try clear hcz21_1
        try clear hcz21_2
        try clear hcz24_0
        try clear hcz24_1
        try clear hcz24_2
        try clear hfz21_0
        try clear hfz21_1
        try clear hfz21_2
        try clear hfz24_0
        try clear hfz24_1
        try clear hfz24_2
        try clear hx332_0
        try clear p2
        try clear p332
        try clear q1
        try clear q14
        try clear q332
        obtain ⟨x11_2,x1001_2,x323002_2,u323002,rfl,HA,HK2,HO_323001,HO_323002,BK321,BK322,HI0,HK,HB⟩:=hrel
        cases gk with
        | zero=>exact absurd HA.out (by simp [qQ.l1])
        | succ k2 =>
         have H:=HA.out
         clear HA
         simp only [qQ.l1] at H
         by_cases c31 : x11_2 > 0
         ·rw [if_pos c31] at H
          have c31b0 : decide (0 < x11_2) = true:=decide_eq_true c31
          clear c31
          replace H:=Option.bind_eq_some_iff.mp H
          obtain ⟨⟨t341,t342,t345,t348⟩,A320,H⟩:=H
          replace H : (if x323002_2.length < 2513169434916 then (qQ.l1 k2 a1 a2 (wrap64 (x11_2 - 1)) s0_0 t348 0 x323001_1 (x323002_2 ++ [(⟨t341,t342,t345⟩ : S56)])) else (none)) = some (r1,r2,r3,r4):=H
          have A32:=qA.mk A320
          clear A320
          by_cases c33 : x323002_2.length < 2513169434916
          ·rw [if_pos c33] at H
           have LMc33:=qA.mk c33
           clear c33
           obtain ⟨y349,hy349⟩ : ∃ y_ : List (S56),y_ = (x323002_2 ++ [(⟨t341,t342,t345⟩ : S56)]):=⟨_,rfl⟩
           replace H : (qQ.l1 k2 a1 a2 (wrap64 (x11_2 - 1)) s0_0 t348 0 x323001_1 y349) = some (r1,r2,r3,r4):=by first|(rw [hy349];with_reducible exact H)|(have H2_:=(Option.bind_some _ _).symm.trans H;rw [hy349];with_reducible exact H2_)|(have H2_:=(Option.bind_some _ _).symm.trans H;with_reducible exact H2_)|with_reducible exact H|(rw [hy349];exact H)|exact H
           have Ny349:=qA.mk hy349
           clear hy349
           have H':=qA.mk H
           clear H
           try go_wp2
           have n0_:=qA.mk (Kd.jM HO_323001.out)
           have n1_:=qA.mk (Kd.jM HO_323002.out)
           have n2_:=qA.mk (qJ BK321.out)
           have n3_:=qA.mk (qJ BK322.out)
           have n4_:=qA.mk (qD.drew HI0.out)
           have n5_:=qA.mk (kM HK.out)
           have n6_:=qA.mk (jY HB.out)
           clear HO_323001
           clear HO_323002
           clear BK321
           clear BK322
           clear HI0
           clear HK
           clear HB
           have HO_323001:=n0_
           have HO_323002:=n1_
           have BK321:=n2_
           have BK322:=n3_
           have HI0:=n4_
           have HK:=n5_
           have HB:=n6_
           clear n0_ n1_ n2_ n3_ n4_ n5_ n6_
           refine kJ (n:=11) (S:=fun w'=>w'.cell? ⟨gb322,0,none⟩ = some (.int .i64 0)∧w'.cell? ⟨gb322,1,none⟩ = some (u323001)∧w'.cell? ⟨gb322,2,none⟩ = some (u323002)) (ds:=[10]) #[false,false,false,false,false,false,false,false,false,false,false] (by kernel_rfl) rfl rfl ⟨(qC BK322.out 0).trans rfl,(qC BK322.out 1).trans rfl,(qC BK322.out 2).trans rfl⟩ (fun hHeld=>?_);refine uY qQ.tab12 qQ.bits12 (fun HT_ HW_=>?_)
           generalize wr.drew = w34 at HO_323001 HO_323002 BK321 BK322 HI0 HK HB hHeld ⊢
           refine zY (i:=0) (N:=some 42) (v:=?_) (a':=?_) #[true,false,false,false,false,false,false,false,false,false,false] rfl rfl (zO HT_.out (by kernel_rfl)) (fun _ _ _ h=>h) (Or.inl ⟨by rfl,?_⟩) ?_ ?_
           rotate_left
           ·intro w'
            go_simp
            with_reducible rfl
           rotate_left
           ·simp only [Act.put,List.setIfInBounds_toArray,List.set_cons_zero,List.set_cons_succ,qY,zA]
            rfl
           refine zY (i:=2) (N:=some 44) (v:=?_) (a':=?_) #[true,false,true,false,false,false,false,false,false,false,false] rfl rfl (zO HT_.out (by kernel_rfl)) (fun _ _ _ h=>h) (Or.inl ⟨by rfl,?_⟩) ?_ ?_
           rotate_left
           ·intro w'
            go_simp
            with_reducible rfl
           rotate_left
           ·simp only [Act.put,List.setIfInBounds_toArray,List.set_cons_zero,List.set_cons_succ,qY,zA]
            rfl
           refine zY (i:=3) (N:=some 45) (v:=?_) (a':=?_) #[true,false,true,true,false,false,false,false,false,false,false] rfl rfl (zO HT_.out (by kernel_rfl)) (fun _ _ _ h=>h) (Or.inl ⟨by rfl,?_⟩) ?_ ?_
           rotate_left
           ·intro w'
            go_simp
            with_reducible rfl
           rotate_left
           ·simp only [Act.put,List.setIfInBounds_toArray,List.set_cons_zero,List.set_cons_succ,qY,zA]
            rfl
           refine zY (i:=4) (N:=some 46) (v:=?_) (a':=?_) #[true,false,true,true,true,false,false,false,false,false,false] rfl rfl (zO HT_.out (by kernel_rfl)) (fun _ _ _ h=>h) (Or.inl ⟨by rfl,?_⟩) ?_ ?_
           rotate_left
           ·intro w'
            go_simp
            with_reducible rfl
           rotate_left
           ·simp only [Act.put,List.setIfInBounds_toArray,List.set_cons_zero,List.set_cons_succ,qY,zA]
            rfl
           refine zY (i:=5) (N:=some 47) (v:=?_) (a':=?_) #[true,false,true,true,true,true,false,false,false,false,false] rfl rfl (zO HT_.out (by kernel_rfl)) (fun _ _ _ h=>h) (Or.inl ⟨by rfl,?_⟩) ?_ ?_
           rotate_left
           ·intro w'
            go_simp
            with_reducible rfl
           rotate_left
           ·simp only [Act.put,List.setIfInBounds_toArray,List.set_cons_zero,List.set_cons_succ,qY,zA]
            rfl
           refine vZ (i:=1) (N:=some 43) (v:=?_) (a':=?_) #[true,true,true,true,true,true,false,false,false,false,false] rfl rfl (vJ HT_.out HW_.out (by kernel_rfl)) (fun _ _ _ h=>h) (Or.inl ⟨by rfl,?_⟩) hHeld ?_ ?_
           rotate_left
           ·rintro w' ⟨s0,s1,s2⟩
            go_simp
            with_reducible rfl
           rotate_left
           ·simp only [Act.put,List.setIfInBounds_toArray,List.set_cons_zero,List.set_cons_succ,qY,zA]
            rfl
           refine one_ (i:=6) (N:=some 48) #[true,true,true,true,true,true,true,false,false,false,false] rfl rfl (uE HT_.out (by kernel_rfl)) (by decide) (fun K hK=>?_)
           refine kD Try.func47 (by kernel_rfl) rfl #[.pointer (some ⟨g,0,none⟩),.int .i64 a1,.int .i64 (wrap64 (a2 - 1))] (by rfl) rfl rfl byah ?_
           with_reducible refine (ih k2 byar g s0_0 x1001_2 a1 (wrap64 (a2 - 1)) t341 t342 t345 t348 w0 _ ?side1 ?side2 A32.out).mono ?_
           (case side1=>exact bybl HI0.out NB0_321.out NB0_322.out)
           (case side2=>exact bybm HI0.out GE321.out GE322.out)
           rintro e w35 ⟨v343,v346,rfl,ho0,ho1,hi,hb,hk⟩
           refine ⟨_,rfl,?_⟩
           have n0_:=qA.mk (Kd.zG (Kd.kU (Kd.R_oldK (qD.apart (show qD w0 _ g s0_0 x1001_2 from by repeat (first|(with_reducible first|exact HI0.out|apply qD.alloc|apply qD.drewN|apply qD.drew|apply qD.jR|refine qD.far ?_ NB0_321.out _|refine qD.far ?_ NB0_322.out _)|exact HI0.out)) (byav HO_323001.out) (by decide)) hk) (Kd.uD ho0)) (fun _ h_=>h_.1))
           have n1_:=qA.mk (Kd.zG (Kd.kU (Kd.kU (Kd.R_oldK (qD.apart (show qD w0 _ g s0_0 x1001_2 from by repeat (first|(with_reducible first|exact HI0.out|apply qD.alloc|apply qD.drewN|apply qD.drew|apply qD.jR|refine qD.far ?_ NB0_321.out _|refine qD.far ?_ NB0_322.out _)|exact HI0.out)) (byav HO_323002.out) (by decide)) hk) (Kd.uD ho0)) (Kd.uD ho1)) (fun _ h_=>h_.1))
           have n2_:=qA.mk (qK.blk hk (g':=gb321) (o:=.cells #[.int .i64 0,.slice none 0 0,.slice none 0 0] 56 (0,0)) (byaf BK321.out) NB321_0.out (by simp))
           have n3_:=qA.mk (qK.blk hk (g':=gb322) (o:=.cells #[.int .i64 0,u323001,u323002] 56 (0,0)) (byaf BK322.out) NB322_0.out (by simp))
           have n4_:=qA.mk (Kd.vR (Kd.R_new' ho0 (Kd.R_lt (byav HO_323001.out))) (jV (w:=w) (g:=g) (row:=none) (bybn GW321.out GW322.out)))
           have n5_:=qA.mk (Kd.vR (Kd.R_newB (Kd.R_newB (Kd.R_new' (Kd.R_new' ho1 (Kd.R_lt (byav HO_323001.out))) (Kd.R_lt (byav HO_323002.out))) (g:=gb321) (o:=.cells #[.int .i64 0,.slice none 0 0,.slice none 0 0] 56 (0,0)) (byaf BK321.out)) (g:=gb322) (o:=.cells #[.int .i64 0,u323001,u323002] 56 (0,0)) (byaf BK322.out)) (jV (w:=w) (g:=g) (row:=none) (bybn GW321.out GW322.out)))
           have n6_:=qA.mk (qK.trans (bybn GW321.out GW322.out) hk (.inl rfl))
           have n7_:=qA.mk (hb)
           have n8_:=qA.mk (hi)
           clear HO_323001
           clear HO_323002
           clear BK321
           clear BK322
           clear HK
           clear HB
           clear HI0
           have HO_323001:=n0_
           have HO_323002:=n1_
           have BK321:=n2_
           have BK322:=n3_
           have HO344:=n4_
           have HO347:=n5_
           have HK:=n6_
           have HB:=n7_
           have HI0:=n8_
           clear n0_ n1_ n2_ n3_ n4_ n5_ n6_ n7_ n8_
           (try clear hb)
           (try clear hb2)
           (try clear hk)
           (try clear hi)
           (try clear ho0)
           (try clear ho1)
           obtain ⟨Ao37,co37,eo37⟩:=Kd.jT HO344.out
           (first|subst eo37|(injection eo37 with f1_ f2_ f3_;have f4_:=f1_.symm;have f5_:=f3_.symm;clear f1_ f2_ f3_;subst f4_;subst f5_))
           obtain ⟨Ao38,co38,eo38⟩:=Kd.jT HO347.out
           (first|subst eo38|(injection eo38 with f1_ f2_ f3_;have f4_:=f1_.symm;have f5_:=f3_.symm;clear f1_ f2_ f3_;subst f4_;subst f5_))
           refine hK.out _ _ ⟨(qC BK322.out 0).trans rfl,(qC BK322.out 1).trans rfl,(qC BK322.out 2).trans rfl⟩ (fun hHeld=>?_)
           clear hK K
           refine uM (a':=?_) ?_ ?_
           rotate_left
           ·show Act.put _ (some 48) _ = _
            simp only [Act.put,List.setIfInBounds_toArray,List.set_cons_zero,List.set_cons_succ,qY,zA]
            rfl
           refine one_ (i:=7) (N:=some 49) #[true,true,true,true,true,true,true,true,false,false,false] rfl rfl (uE HT_.out (by kernel_rfl)) (by decide) (fun K hK=>?_)
           refine value_ (w1:=?_) (v:=?_) (by rfl) rfl ?_ ?_
           rotate_left 2
           ·go_simp
            constructor
            ·rfl
            ·rfl
           refine hK.out _ _ ⟨(qC (qF BK322.out _) 0).trans rfl,(qC (qF BK322.out _) 1).trans rfl,(qC (qF BK322.out _) 2).trans rfl⟩ (fun hHeld=>?_)
           clear hK K
           refine uM (a':=?_) ?_ ?_
           rotate_left
           ·show Act.put _ (some 49) _ = _
            simp only [Act.put,List.setIfInBounds_toArray,List.set_cons_zero,List.set_cons_succ,qY,zA]
            rfl
           refine one_ (i:=8) (N:=some 50) #[true,true,true,true,true,true,true,true,true,false,false] rfl rfl (uE HT_.out (by kernel_rfl)) (by decide) (fun K hK=>?_)
           refine Kd.R_append_step k56 w.heap.size (by rfl) (.tmp 43) (.tmp 49) 54 56 (.agg #[(.int .i64 0),(.slice none 0 0),(.slice none 0 0)]) 56 rfl Try.underlying54 info56 rfl (by decide) (by omega) u323002 x323002_2 (⟨t341,t342,t345⟩ : S56) [.int .i64 t341,.slice Ao37 t342.length co37,.slice Ao38 t345.length co38] (fun k_=>some k_≠(u323001 : Value).ownBlock∧k_≠gb321∧k_≠gb322) (fun k_=>((fun k_=>some k_≠(u323001 : Value).ownBlock∧k_≠gb321∧k_≠gb322)) k_∧some k_≠(u323002 : Value).ownBlock) rfl rfl ?aP (fun _ hk=>hk) ?aF ?aO (Below.refl _ _) ?aS ?aL ?_
           (case aP=>exact k56_mkM _ _ _ (⟨t341,t342,t345⟩ : S56) (Kd.zG (Kd.jW (Kd.jW (Kd.kX (HO344.out) (Kd.uZ HO_323002.out) (by decide)) BK321.out (by decide)) BK322.out (by decide)) (fun k_ hk=>⟨⟨hk.1.1.1.2,⟨hk.1.2,hk.2⟩⟩,hk.1.1.2⟩)) (Kd.zG (HO347.out) (fun k_ hk=>⟨⟨hk.1.1.1.2,⟨hk.1.2,hk.2⟩⟩,hk.1.1.2⟩)))
           (case aF=>exact (fun k_ hk=>⟨Kd.fresh' (Kd.R_lt (byav HO_323001.out)) k_ hk,Kd.kF (g:=gb321) (o:=.cells #[.int .i64 0,.slice none 0 0,.slice none 0 0] 56 (0,0)) (byaf BK321.out) k_ hk,Kd.kF (g:=gb322) (o:=.cells #[.int .i64 0,u323001,u323002] 56 (0,0)) (byaf BK322.out) k_ hk⟩))
           (case aO=>exact (by (with_reducible repeat (first|apply Kd.jI|apply Kd.jJ|apply Kd.jM));exact Kd.zG HO_323002.out (fun _ hk=>⟨hk.1.1.1,⟨hk.1.1.2.1,hk.1.1.2.2⟩⟩)))
           (case aS=>exact (jV (w:=w) (g:=g) (row:=none) (bybn GW321.out GW322.out)))
           (case aL=>have:=LMc33.out;omega)
           intro v350 w36 ho hb hg hat
           rw [← Ny349.out] at ho
           have n0_:=qA.mk (Kd.R_over' (byav HO_323001.out) (Kd.uZ (byav HO_323002.out)) (by decide) hg)
           have n1_:=qA.mk (j4 (g:=gb321) (o:=.cells #[.int .i64 0,.slice none 0 0,.slice none 0 0] 56 (0,0)) (byaf BK321.out) hg (Kd.R_away HO_323002.out (fun _ hk=>hk.1.1.2.1)))
           have n2_:=qA.mk (j4 (g:=gb322) (o:=.cells #[.int .i64 0,u323001,u323002] 56 (0,0)) (byaf BK322.out) hg (Kd.R_away HO_323002.out (fun _ hk=>hk.1.1.2.2)))
           have n3_:=qA.mk (qD.grown (bybl HI0.out NB0_321.out NB0_322.out) hg (qD.own_ne HI0.out HO_323002.out (by decide)))
           have n4_:=qA.mk (uB (bybm HI0.out GE321.out GE322.out) HL.out hb)
           have n5_:=qA.mk (qK.trans (bybn GW321.out GW322.out) (qK.kC hg g) (Kd.kT HO_323002.out))
           have n6_:=qA.mk (ho)
           clear HO_323001
           clear BK321
           clear BK322
           clear HI0
           clear HB
           clear HK
           clear HO_323002
           clear HO344
           clear HO347
           have HO_323001:=n0_
           have BK321:=n1_
           have BK322:=n2_
           have HI0:=n3_
           have HB:=n4_
           have HK:=n5_
           have HO351:=n6_
           clear n0_ n1_ n2_ n3_ n4_ n5_ n6_
           clear ho hb hg hat
           obtain ⟨Ao39,co39,eo39⟩:=Kd.jT HO351.out
           (first|subst eo39|(injection eo39 with f1_ f2_ f3_;have f4_:=f1_.symm;have f5_:=f3_.symm;clear f1_ f2_ f3_;subst f4_;subst f5_))
           refine hK.out _ _ ⟨(qC BK322.out 0).trans rfl,(qC BK322.out 1).trans rfl,(qC BK322.out 2).trans rfl⟩ (fun hHeld=>?_)
           clear hK K
           refine uM (a':=?_) ?_ ?_
           rotate_left
           ·show Act.put _ (some 50) _ = _
            simp only [Act.put,List.setIfInBounds_toArray,List.set_cons_zero,List.set_cons_succ,qY,zA]
            rfl
           refine zY (i:=9) (N:=some 51) (v:=?_) (a':=?_) #[true,true,true,true,true,true,true,true,true,true,false] rfl rfl (zO HT_.out (by kernel_rfl)) (fun _ _ _ h=>h) (Or.inl ⟨by rfl,?_⟩) ?_ ?_
           rotate_left
           ·intro w'
            go_simp
            with_reducible rfl
           rotate_left
           ·simp only [Act.put,List.setIfInBounds_toArray,List.set_cons_zero,List.set_cons_succ,qY,zA]
            rfl
           refine last_ (i:=10) (N:=none) #[true,true,true,true,true,true,true,true,true,true,true] rfl rfl (uE HT_.out (by kernel_rfl)) (by decide) (fun K hK=>?_)
           have hs40 : w36.cell? ⟨gb322,2,none⟩ = some (u323002):=(qC BK322.out 2).trans rfl
           have hfs40:=qB BK322.out 2
           have hns40_0:=NB321_322.out
           have hms40_0:=NB322_321.out
           refine skip_ (w1:=?_) (by rfl) rfl ?_ ?_
           rotate_left
           ·go_simp
            rfl
           refine hK.out _ _ ?_
           clear hK K
           refine done_ (kS HT_.out (by kernel_rfl)) ?_
           try go_wp2
           go_roundg k2
           case measure=>have:=HK1.out;have:=HK2.out;omega
           case rel=>exact ⟨(wrap64 (x11_2 - 1)),(t348),(y349),(.slice Ao39 y349.length co39),byae,H',⟨byar⟩,⟨by (with_reducible repeat (first|apply Kd.jI|apply Kd.jJ|apply Kd.jM));exact Kd.zG (Kd.jD (p:=⟨gb322,2,none⟩) (Kd.jW HO_323001.out BK322.out (by decide)) (fun _ hk=>hk.2) (.slice Ao39 y349.length co39)) (fun _ hk=>trivial)⟩,⟨by (with_reducible repeat (first|apply Kd.jI|apply Kd.jJ|apply Kd.jM));exact Kd.zG (Kd.jD (p:=⟨gb322,2,none⟩) (Kd.zG HO351.out (fun k_ hk=>(⟨hk,hk.2.2⟩ : _∧k_≠gb322))) (fun _ hk=>hk.2) (.slice Ao39 y349.length co39)) (fun _ hk=>⟨hk.1.1,⟨hk.1.2.1,hk.1.2.2⟩⟩)⟩,⟨bybb NB321_322.out BK321.out⟩,⟨by (with_reducible repeat (first|refine qG ?_ _|refine qJ ?_|refine qF ?_ _));refine zJ (cs:=#[.int .i64 0,u323001,u323002]) ?_ 2 _ rfl;(with_reducible repeat (first|refine qG ?_ _|refine qJ ?_|refine qF ?_ _));exact BK322.out⟩,⟨bybl HI0.out NB0_321.out NB0_322.out⟩,⟨bybn GW321.out GW322.out⟩,⟨bybm HI0.out GE321.out GE322.out⟩⟩
          ·rw [if_neg c33] at H
           exact absurd H (by simp)
         ·rw [if_neg c31] at H
          have c31b0 : decide (0 < x11_2) = false:=decide_eq_false c31
          clear c31
          by_cases c41 : (x323002_2.length : Int) > 0
          ·rw [if_pos c41] at H
           have c41b0 : decide (0 < (x323002_2.length : Int)) = true:=decide_eq_true c41
           have c41b1 : decide (0 < x323002_2.length) = true:=decide_eq_true (by omega)
           clear c41
           replace H:=Option.bind_eq_some_iff.mp H
           obtain ⟨⟨t352,t353⟩,A420,H⟩:=H
           replace H : (if t352 = 0 then ((zI.f s0_0 t353 1 (wrap64 ((([] : List Int).length : Int) + (x323002_2.length : Int)))).bind fun bt354=>(some (bt354.1,([] : List Int),x323002_2,bt354.2))) else ((zI.f s0_0 t353 1 (wrap64 ((x323001_1.length : Int) + (x323002_2.length : Int)))).bind fun bt356=>(some (bt356.1,x323001_1,x323002_2,bt356.2)))) = some (r1,r2,r3,r4):=H
           have A42:=qA.mk A420
           clear A420
           by_cases c43 : t352 = 0
           ·rw [if_pos c43] at H
            have c43b0 : (t352 == 0) = true:=beq_iff_eq.mpr c43
            have c43b1 : (t352 != 0) = false:=bne_eq_false_iff_eq.mpr c43
            clear c43
            replace H:=Option.bind_eq_some_iff.mp H
            obtain ⟨⟨t354,t355⟩,A440,H⟩:=H
            replace H : (some (t354,([] : List Int),x323002_2,t355)) = some (r1,r2,r3,r4):=H
            have A44:=qA.mk A440
            clear A440
            simp only [Option.some.injEq,Prod.mk.injEq] at H
            obtain ⟨rfl,rfl,rfl,rfl⟩:=H
            have hnb45:=NB322_321.out
            have hnc45:=NB321_322.out
            have hnb46:=NB322_0.out
            have hnc46:=NB0_322.out
            have hcz47_0 : wr.cell? ⟨gb322,0,none⟩ = some (.int .i64 0):=(qC BK322.out 0).trans rfl
            have hcz47_1 : wr.cell? ⟨gb322,1,none⟩ = some (u323001):=(qC BK322.out 1).trans rfl
            have hcz47_2 : wr.cell? ⟨gb322,2,none⟩ = some (u323002):=(qC BK322.out 2).trans rfl
            have hfz47_0:=qB BK322.out 0
            have hfz47_1:=qB BK322.out 1
            have hfz47_2:=qB BK322.out 2
            obtain ⟨Ao48,co48,eo48⟩:=Kd.jT HO_323002.out
            subst eo48
            go_wp2_with (first|(go_at_call 29;(with_reducible refine (q8.calls g s0_0 x1001_2 3 t352 t353 w0 _ ?side1 ?side2 A42.out).mono ?_);(case side1=>exact bybl HI0.out NB0_321.out NB0_322.out);(case side2=>exact bybm HI0.out GE321.out GE322.out);rintro e w49 ⟨rfl,hi,hb,hk⟩;have n0_:=qA.mk (Kd.zG (Kd.vF (qD.apart (show qD w0 _ g s0_0 x1001_2 from by repeat (first|(with_reducible first|exact HI0.out|apply qD.alloc|apply qD.drewN|apply qD.drew|apply qD.jR|refine qD.far ?_ NB0_321.out _|refine qD.far ?_ NB0_322.out _)|exact HI0.out)) (byav HO_323001.out) (by decide)) hk (fun _ h=>h.2)) (fun _ h=>h.1));have n1_:=qA.mk (Kd.zG (Kd.vF (qD.apart (show qD w0 _ g s0_0 x1001_2 from by repeat (first|(with_reducible first|exact HI0.out|apply qD.alloc|apply qD.drewN|apply qD.drew|apply qD.jR|refine qD.far ?_ NB0_321.out _|refine qD.far ?_ NB0_322.out _)|exact HI0.out)) (byav HO_323002.out) (by decide)) hk (fun _ h=>h.2)) (fun _ h=>h.1));have n2_:=qA.mk (qK.blk hk (g':=gb321) (o:=.cells #[.int .i64 0,.slice none 0 0,.slice none 0 0] 56 (0,0)) (byaf BK321.out) NB321_0.out (by simp));have n3_:=qA.mk (qK.blk hk (g':=gb322) (o:=.cells #[.int .i64 0,u323001,.slice Ao48 x323002_2.length co48] 56 (0,0)) (byaf BK322.out) NB322_0.out (by simp));have n4_:=qA.mk (qK.trans (bybn GW321.out GW322.out) hk (.inl rfl));have n5_:=qA.mk (hb);have n6_:=qA.mk (hi);clear HO_323001;clear HO_323002;clear BK321;clear BK322;clear HK;clear HB;clear HI0;have HO_323001:=n0_;have HO_323002:=n1_;have BK321:=n2_;have BK322:=n3_;have HK:=n4_;have HB:=n5_;have HI0:=n6_;clear n0_ n1_ n2_ n3_ n4_ n5_ n6_;(try clear hb);(try clear hb2);(try clear hk);(try clear hi);have hcz50_0 : w49.cell? ⟨gb322,0,none⟩ = some (.int .i64 0):=(qC BK322.out 0).trans rfl;have hcz50_1 : w49.cell? ⟨gb322,1,none⟩ = some (u323001):=(qC BK322.out 1).trans rfl;have hcz50_2 : w49.cell? ⟨gb322,2,none⟩ = some (.slice Ao48 x323002_2.length co48):=(qC BK322.out 2).trans rfl;have hfz50_0:=qB BK322.out 0;have hfz50_1:=qB BK322.out 1;have hfz50_2:=qB BK322.out 2)|((with_reducible refine qI (f:=28) rfl ?_);refine zL (some 70) rfl rfl Try.func28 (by kernel_rfl) rfl #[.pointer (some ⟨g,0,none⟩),.int .i64 1,.int .i64 (wrap64 ((([] : List Int).length : Int) + (x323002_2.length : Int)))] rfl byah ?_;(with_reducible refine (zI.calls g s0_0 t353 1 (wrap64 ((([] : List Int).length : Int) + (x323002_2.length : Int))) t354 t355 w0 _ ?side1 ?side2 A44.out).mono ?_);(case side1=>exact bybl HI0.out NB0_321.out NB0_322.out);(case side2=>exact bybm HI0.out GE321.out GE322.out);rintro e w51 ⟨rfl,hi,hb,hk⟩;refine ⟨_,rfl,?_⟩;have n0_:=qA.mk (Kd.zG (Kd.vF (qD.apart (show qD w0 _ g s0_0 t353 from by repeat (first|(with_reducible first|exact HI0.out|apply qD.alloc|apply qD.drewN|apply qD.drew|apply qD.jR|refine qD.far ?_ NB0_321.out _|refine qD.far ?_ NB0_322.out _)|exact HI0.out)) (by (with_reducible repeat (first|apply Kd.jI|apply Kd.jJ|apply Kd.jM));exact (Kd.zG (Kd.jD (p:=⟨gb322,1,none⟩) (Kd.jW HO_323001.out BK322.out (by decide)) (fun _ hk=>hk.2) (.slice none 0 0)) (fun _ h_=>h_.1))) (by decide)) hk (fun _ h=>h.2)) (fun _ h=>h.1));have n1_:=qA.mk (Kd.zG (Kd.vF (qD.apart (show qD w0 _ g s0_0 t353 from by repeat (first|(with_reducible first|exact HI0.out|apply qD.alloc|apply qD.drewN|apply qD.drew|apply qD.jR|refine qD.far ?_ NB0_321.out _|refine qD.far ?_ NB0_322.out _)|exact HI0.out)) (by (with_reducible repeat (first|apply Kd.jI|apply Kd.jJ|apply Kd.jM));exact (Kd.zG (Kd.jD (p:=⟨gb322,1,none⟩) (Kd.zG HO_323002.out (fun k_ hk=>(⟨hk,hk.2.2⟩ : _∧k_≠gb322))) (fun _ hk=>hk.2) (.slice none 0 0)) (fun _ h_=>h_.1))) (by decide)) hk (fun _ h=>h.2)) (fun _ h=>h.1));have n2_:=qA.mk (qK.blk hk (g':=gb321) (o:=.cells #[.int .i64 0,.slice none 0 0,.slice none 0 0] 56 (0,0)) (bybb NB321_322.out BK321.out) NB321_0.out (by simp));have n3_:=qA.mk (qK.blk hk (g':=gb322) (o:=.cells #[.int .i64 0,.slice none 0 0,.slice Ao48 x323002_2.length co48] 56 (0,0)) (by (with_reducible repeat (first|refine qG ?_ _|refine qJ ?_|refine qF ?_ _));refine zJ (cs:=#[.int .i64 0,u323001,.slice Ao48 x323002_2.length co48]) ?_ 1 _ rfl;(with_reducible repeat (first|refine qG ?_ _|refine qJ ?_|refine qF ?_ _));exact BK322.out) NB322_0.out (by simp));have n4_:=qA.mk (qK.trans (bybn GW321.out GW322.out) hk (.inl rfl));have n5_:=qA.mk (hb);have n6_:=qA.mk (hi);clear HO_323001;clear HO_323002;clear BK321;clear BK322;clear HK;clear HB;clear HI0;have HO_323001:=n0_;have HO_323002:=n1_;have BK321:=n2_;have BK322:=n3_;have HK:=n4_;have HB:=n5_;have HI0:=n6_;clear n0_ n1_ n2_ n3_ n4_ n5_ n6_;(try clear hb);(try clear hb2);(try clear hk);(try clear hi);have hcz52_0 : w51.cell? ⟨gb322,0,none⟩ = some (.int .i64 0):=(qC BK322.out 0).trans rfl;have hcz52_1 : w51.cell? ⟨gb322,1,none⟩ = some (.slice none 0 0):=(qC BK322.out 1).trans rfl;have hcz52_2 : w51.cell? ⟨gb322,2,none⟩ = some (.slice Ao48 x323002_2.length co48):=(qC BK322.out 2).trans rfl;have hfz52_0:=qB BK322.out 0;have hfz52_1:=qB BK322.out 1;have hfz52_2:=qB BK322.out 2;have hnb53:=NB321_0.out;have hnc53:=NB0_321.out;have hcz54_0 : w51.cell? ⟨gb321,0,none⟩ = some (.int .i64 0):=(qC BK321.out 0).trans rfl;have hcz54_1 : w51.cell? ⟨gb321,1,none⟩ = some (.slice none 0 0):=(qC BK321.out 1).trans rfl;have hcz54_2 : w51.cell? ⟨gb321,2,none⟩ = some (.slice none 0 0):=(qC BK321.out 2).trans rfl;have hfz54_0:=qB BK321.out 0;have hfz54_1:=qB BK321.out 1;have hfz54_2:=qB BK321.out 2))
            refine bodyPost_ret (results_cell_row rfl _ _ gb321 56 #[.int .i64 t354,.slice none 0 0,.slice Ao48 x323002_2.length co48] (0,0) _ rfl (by (with_reducible repeat (first|refine qG ?_ _|refine qJ ?_|refine qF ?_ _));refine zJ (cs:=#[.int .i64 t354,.slice none 0 0,.slice none 0 0]) ?_ 2 _ rfl;(with_reducible repeat (first|refine qG ?_ _|refine qJ ?_|refine qF ?_ _));refine zJ (cs:=#[.int .i64 t354,.slice none 0 0,.slice none 0 0]) ?_ 1 _ rfl;(with_reducible repeat (first|refine qG ?_ _|refine qJ ?_|refine qF ?_ _));refine zJ (cs:=#[.int .i64 0,.slice none 0 0,.slice none 0 0]) ?_ 0 _ rfl;(with_reducible repeat (first|refine qG ?_ _|refine qJ ?_|refine qF ?_ _));refine kI ?_ NB321_322.out _;(with_reducible repeat (first|refine qG ?_ _|refine qJ ?_|refine qF ?_ _));exact BK321.out) Try.underlying56 rfl (by kernel_rfl)) rfl ?_
            exact ⟨_,_,bybq,byau,by (with_reducible repeat (first|apply Kd.jI|apply Kd.jJ|apply Kd.jM));exact Kd.zG (Kd.jD (p:=⟨gb321,2,none⟩) (Kd.jD (p:=⟨gb321,1,none⟩) (Kd.jD (p:=⟨gb321,0,none⟩) (Kd.jD (p:=⟨gb322,0,none⟩) (Kd.zG (Kd.zG HO_323002.out (fun k_ hk=>(⟨hk,hk.2.2⟩ : _∧k_≠gb322))) (fun k_ hk=>(⟨hk,hk.1.2.1⟩ : _∧k_≠gb321))) (fun _ hk=>hk.1.2) (.int .i64 t354)) (fun _ hk=>hk.2) (.int .i64 t354)) (fun _ hk=>hk.2) (.slice none 0 0)) (fun _ hk=>hk.2) (.slice Ao48 x323002_2.length co48)) (fun _ hk=>(by simp [Value.ownBlock])),bybl HI0.out NB0_321.out NB0_322.out,bybm HI0.out GE321.out GE322.out,bybn GW321.out GW322.out⟩
           ·rw [if_neg c43] at H
            have c43b0 : (t352 == 0) = false:=beq_eq_false_iff_ne.mpr c43
            have c43b1 : (t352 != 0) = true:=bne_iff_ne.mpr c43
            replace H:=Option.bind_eq_some_iff.mp H
            obtain ⟨⟨t356,t357⟩,A550,H⟩:=H
            replace H : (some (t356,x323001_1,x323002_2,t357)) = some (r1,r2,r3,r4):=H
            have A55:=qA.mk A550
            clear A550
            simp only [Option.some.injEq,Prod.mk.injEq] at H
            obtain ⟨rfl,rfl,rfl,rfl⟩:=H
            have hnb56:=NB322_321.out
            have hnc56:=NB321_322.out
            have hnb57:=NB322_0.out
            have hnc57:=NB0_322.out
            have hcz58_0 : wr.cell? ⟨gb322,0,none⟩ = some (.int .i64 0):=(qC BK322.out 0).trans rfl
            have hcz58_1 : wr.cell? ⟨gb322,1,none⟩ = some (u323001):=(qC BK322.out 1).trans rfl
            have hcz58_2 : wr.cell? ⟨gb322,2,none⟩ = some (u323002):=(qC BK322.out 2).trans rfl
            have hfz58_0:=qB BK322.out 0
            have hfz58_1:=qB BK322.out 1
            have hfz58_2:=qB BK322.out 2
            obtain ⟨Ao59,co59,eo59⟩:=Kd.jT HO_323002.out
            subst eo59
            go_wp2_with (first|(go_at_call 29;(with_reducible refine (q8.calls g s0_0 x1001_2 3 t352 t353 w0 _ ?side1 ?side2 A42.out).mono ?_);(case side1=>exact bybl HI0.out NB0_321.out NB0_322.out);(case side2=>exact bybm HI0.out GE321.out GE322.out);rintro e w60 ⟨rfl,hi,hb,hk⟩;have n0_:=qA.mk (Kd.zG (Kd.vF (qD.apart (show qD w0 _ g s0_0 x1001_2 from by repeat (first|(with_reducible first|exact HI0.out|apply qD.alloc|apply qD.drewN|apply qD.drew|apply qD.jR|refine qD.far ?_ NB0_321.out _|refine qD.far ?_ NB0_322.out _)|exact HI0.out)) (byav HO_323001.out) (by decide)) hk (fun _ h=>h.2)) (fun _ h=>h.1));have n1_:=qA.mk (Kd.zG (Kd.vF (qD.apart (show qD w0 _ g s0_0 x1001_2 from by repeat (first|(with_reducible first|exact HI0.out|apply qD.alloc|apply qD.drewN|apply qD.drew|apply qD.jR|refine qD.far ?_ NB0_321.out _|refine qD.far ?_ NB0_322.out _)|exact HI0.out)) (byav HO_323002.out) (by decide)) hk (fun _ h=>h.2)) (fun _ h=>h.1));have n2_:=qA.mk (qK.blk hk (g':=gb321) (o:=.cells #[.int .i64 0,.slice none 0 0,.slice none 0 0] 56 (0,0)) (byaf BK321.out) NB321_0.out (by simp));have n3_:=qA.mk (qK.blk hk (g':=gb322) (o:=.cells #[.int .i64 0,u323001,.slice Ao59 x323002_2.length co59] 56 (0,0)) (byaf BK322.out) NB322_0.out (by simp));have n4_:=qA.mk (qK.trans (bybn GW321.out GW322.out) hk (.inl rfl));have n5_:=qA.mk (hb);have n6_:=qA.mk (hi);clear HO_323001;clear HO_323002;clear BK321;clear BK322;clear HK;clear HB;clear HI0;have HO_323001:=n0_;have HO_323002:=n1_;have BK321:=n2_;have BK322:=n3_;have HK:=n4_;have HB:=n5_;have HI0:=n6_;clear n0_ n1_ n2_ n3_ n4_ n5_ n6_;(try clear hb);(try clear hb2);(try clear hk);(try clear hi);have hcz61_0 : w60.cell? ⟨gb322,0,none⟩ = some (.int .i64 0):=(qC BK322.out 0).trans rfl;have hcz61_1 : w60.cell? ⟨gb322,1,none⟩ = some (u323001):=(qC BK322.out 1).trans rfl;have hcz61_2 : w60.cell? ⟨gb322,2,none⟩ = some (.slice Ao59 x323002_2.length co59):=(qC BK322.out 2).trans rfl;have hfz61_0:=qB BK322.out 0;have hfz61_1:=qB BK322.out 1;have hfz61_2:=qB BK322.out 2;obtain ⟨Ao62,co62,eo62⟩:=Kd.jT HO_323001.out;subst eo62)|((with_reducible refine qI (f:=28) rfl ?_);refine zL (some 70) rfl rfl Try.func28 (by kernel_rfl) rfl #[.pointer (some ⟨g,0,none⟩),.int .i64 1,.int .i64 (wrap64 ((x323001_1.length : Int) + (x323002_2.length : Int)))] rfl byah ?_;(with_reducible refine (zI.calls g s0_0 t353 1 (wrap64 ((x323001_1.length : Int) + (x323002_2.length : Int))) t356 t357 w0 _ ?side1 ?side2 A55.out).mono ?_);(case side1=>exact bybl HI0.out NB0_321.out NB0_322.out);(case side2=>exact bybm HI0.out GE321.out GE322.out);rintro e w63 ⟨rfl,hi,hb,hk⟩;refine ⟨_,rfl,?_⟩;have n0_:=qA.mk (Kd.zG (Kd.vF (qD.apart (show qD w0 _ g s0_0 t353 from by repeat (first|(with_reducible first|exact HI0.out|apply qD.alloc|apply qD.drewN|apply qD.drew|apply qD.jR|refine qD.far ?_ NB0_321.out _|refine qD.far ?_ NB0_322.out _)|exact HI0.out)) (byav HO_323001.out) (by decide)) hk (fun _ h=>h.2)) (fun _ h=>h.1));have n1_:=qA.mk (Kd.zG (Kd.vF (qD.apart (show qD w0 _ g s0_0 t353 from by repeat (first|(with_reducible first|exact HI0.out|apply qD.alloc|apply qD.drewN|apply qD.drew|apply qD.jR|refine qD.far ?_ NB0_321.out _|refine qD.far ?_ NB0_322.out _)|exact HI0.out)) (byav HO_323002.out) (by decide)) hk (fun _ h=>h.2)) (fun _ h=>h.1));have n2_:=qA.mk (qK.blk hk (g':=gb321) (o:=.cells #[.int .i64 0,.slice none 0 0,.slice none 0 0] 56 (0,0)) (byaf BK321.out) NB321_0.out (by simp));have n3_:=qA.mk (qK.blk hk (g':=gb322) (o:=.cells #[.int .i64 0,.slice Ao62 x323001_1.length co62,.slice Ao59 x323002_2.length co59] 56 (0,0)) (byaf BK322.out) NB322_0.out (by simp));have n4_:=qA.mk (qK.trans (bybn GW321.out GW322.out) hk (.inl rfl));have n5_:=qA.mk (hb);have n6_:=qA.mk (hi);clear HO_323001;clear HO_323002;clear BK321;clear BK322;clear HK;clear HB;clear HI0;have HO_323001:=n0_;have HO_323002:=n1_;have BK321:=n2_;have BK322:=n3_;have HK:=n4_;have HB:=n5_;have HI0:=n6_;clear n0_ n1_ n2_ n3_ n4_ n5_ n6_;(try clear hb);(try clear hb2);(try clear hk);(try clear hi);have hcz64_0 : w63.cell? ⟨gb322,0,none⟩ = some (.int .i64 0):=(qC BK322.out 0).trans rfl;have hcz64_1 : w63.cell? ⟨gb322,1,none⟩ = some (.slice Ao62 x323001_1.length co62):=(qC BK322.out 1).trans rfl;have hcz64_2 : w63.cell? ⟨gb322,2,none⟩ = some (.slice Ao59 x323002_2.length co59):=(qC BK322.out 2).trans rfl;have hfz64_0:=qB BK322.out 0;have hfz64_1:=qB BK322.out 1;have hfz64_2:=qB BK322.out 2;have hnb65:=NB321_0.out;have hnc65:=NB0_321.out;have hcz66_0 : w63.cell? ⟨gb321,0,none⟩ = some (.int .i64 0):=(qC BK321.out 0).trans rfl;have hcz66_1 : w63.cell? ⟨gb321,1,none⟩ = some (.slice none 0 0):=(qC BK321.out 1).trans rfl;have hcz66_2 : w63.cell? ⟨gb321,2,none⟩ = some (.slice none 0 0):=(qC BK321.out 2).trans rfl;have hfz66_0:=qB BK321.out 0;have hfz66_1:=qB BK321.out 1;have hfz66_2:=qB BK321.out 2))
            refine bodyPost_ret (results_cell_row rfl _ _ gb321 56 #[.int .i64 t356,.slice Ao62 x323001_1.length co62,.slice Ao59 x323002_2.length co59] (0,0) _ rfl (by (with_reducible repeat (first|refine qG ?_ _|refine qJ ?_|refine qF ?_ _));refine zJ (cs:=#[.int .i64 t356,.slice Ao62 x323001_1.length co62,.slice none 0 0]) ?_ 2 _ rfl;(with_reducible repeat (first|refine qG ?_ _|refine qJ ?_|refine qF ?_ _));refine zJ (cs:=#[.int .i64 t356,.slice none 0 0,.slice none 0 0]) ?_ 1 _ rfl;(with_reducible repeat (first|refine qG ?_ _|refine qJ ?_|refine qF ?_ _));refine zJ (cs:=#[.int .i64 0,.slice none 0 0,.slice none 0 0]) ?_ 0 _ rfl;(with_reducible repeat (first|refine qG ?_ _|refine qJ ?_|refine qF ?_ _));refine kI ?_ NB321_322.out _;(with_reducible repeat (first|refine qG ?_ _|refine qJ ?_|refine qF ?_ _));exact BK321.out) Try.underlying56 rfl (by kernel_rfl)) rfl ?_
            exact ⟨_,_,bybq,by (with_reducible repeat (first|apply Kd.jI|apply Kd.jJ|apply Kd.jM));exact Kd.zG (Kd.jD (p:=⟨gb321,2,none⟩) (Kd.jD (p:=⟨gb321,1,none⟩) (Kd.jD (p:=⟨gb321,0,none⟩) (Kd.jD (p:=⟨gb322,0,none⟩) (Kd.jW (Kd.jW HO_323001.out BK322.out (by decide)) BK321.out (by decide)) (fun _ hk=>hk.1.2) (.int .i64 t356)) (fun _ hk=>hk.2) (.int .i64 t356)) (fun _ hk=>hk.2) (.slice Ao62 x323001_1.length co62)) (fun _ hk=>hk.2) (.slice Ao59 x323002_2.length co59)) (fun _ hk=>trivial),by (with_reducible repeat (first|apply Kd.jI|apply Kd.jJ|apply Kd.jM));exact Kd.zG (Kd.jD (p:=⟨gb321,2,none⟩) (Kd.jD (p:=⟨gb321,1,none⟩) (Kd.jD (p:=⟨gb321,0,none⟩) (Kd.jD (p:=⟨gb322,0,none⟩) (Kd.zG (Kd.zG HO_323002.out (fun k_ hk=>(⟨hk,hk.2.2⟩ : _∧k_≠gb322))) (fun k_ hk=>(⟨hk,hk.1.2.1⟩ : _∧k_≠gb321))) (fun _ hk=>hk.1.2) (.int .i64 t356)) (fun _ hk=>hk.2) (.int .i64 t356)) (fun _ hk=>hk.2) (.slice Ao62 x323001_1.length co62)) (fun _ hk=>hk.2) (.slice Ao59 x323002_2.length co59)) (fun _ hk=>hk.1.1.1),bybl HI0.out NB0_321.out NB0_322.out,bybm HI0.out GE321.out GE322.out,bybn GW321.out GW322.out⟩
          ·rw [if_neg c41] at H
           have c41b0 : decide (0 < (x323002_2.length : Int)) = false:=decide_eq_false c41
           have c41b1 : decide (0 < x323002_2.length) = false:=decide_eq_false (by omega)
           clear c41
           replace H:=Option.bind_eq_some_iff.mp H
           obtain ⟨⟨t358,t359⟩,A670,H⟩:=H
           replace H : (some (t358,x323001_1,x323002_2,t359)) = some (r1,r2,r3,r4):=H
           have A67:=qA.mk A670
           clear A670
           simp only [Option.some.injEq,Prod.mk.injEq] at H
           obtain ⟨rfl,rfl,rfl,rfl⟩:=H
           have hnb68:=NB322_321.out
           have hnc68:=NB321_322.out
           have hnb69:=NB322_0.out
           have hnc69:=NB0_322.out
           have hcz70_0 : wr.cell? ⟨gb322,0,none⟩ = some (.int .i64 0):=(qC BK322.out 0).trans rfl
           have hcz70_1 : wr.cell? ⟨gb322,1,none⟩ = some (u323001):=(qC BK322.out 1).trans rfl
           have hcz70_2 : wr.cell? ⟨gb322,2,none⟩ = some (u323002):=(qC BK322.out 2).trans rfl
           have hfz70_0:=qB BK322.out 0
           have hfz70_1:=qB BK322.out 1
           have hfz70_2:=qB BK322.out 2
           obtain ⟨Ao71,co71,eo71⟩:=Kd.jT HO_323002.out
           subst eo71
           obtain ⟨Ao72,co72,eo72⟩:=Kd.jT HO_323001.out
           subst eo72
           go_wp2_with (first|((with_reducible refine qI (f:=28) rfl ?_);refine zL (some 70) rfl rfl Try.func28 (by kernel_rfl) rfl #[.pointer (some ⟨g,0,none⟩),.int .i64 1,.int .i64 (wrap64 ((x323001_1.length : Int) + (x323002_2.length : Int)))] rfl byah ?_;(with_reducible refine (zI.calls g s0_0 x1001_2 1 (wrap64 ((x323001_1.length : Int) + (x323002_2.length : Int))) t358 t359 w0 _ ?side1 ?side2 A67.out).mono ?_);(case side1=>exact bybl HI0.out NB0_321.out NB0_322.out);(case side2=>exact bybm HI0.out GE321.out GE322.out);rintro e w73 ⟨rfl,hi,hb,hk⟩;refine ⟨_,rfl,?_⟩;have n0_:=qA.mk (Kd.zG (Kd.vF (qD.apart (show qD w0 _ g s0_0 x1001_2 from by repeat (first|(with_reducible first|exact HI0.out|apply qD.alloc|apply qD.drewN|apply qD.drew|apply qD.jR|refine qD.far ?_ NB0_321.out _|refine qD.far ?_ NB0_322.out _)|exact HI0.out)) (byav HO_323001.out) (by decide)) hk (fun _ h=>h.2)) (fun _ h=>h.1));have n1_:=qA.mk (Kd.zG (Kd.vF (qD.apart (show qD w0 _ g s0_0 x1001_2 from by repeat (first|(with_reducible first|exact HI0.out|apply qD.alloc|apply qD.drewN|apply qD.drew|apply qD.jR|refine qD.far ?_ NB0_321.out _|refine qD.far ?_ NB0_322.out _)|exact HI0.out)) (byav HO_323002.out) (by decide)) hk (fun _ h=>h.2)) (fun _ h=>h.1));have n2_:=qA.mk (qK.blk hk (g':=gb321) (o:=.cells #[.int .i64 0,.slice none 0 0,.slice none 0 0] 56 (0,0)) (byaf BK321.out) NB321_0.out (by simp));have n3_:=qA.mk (qK.blk hk (g':=gb322) (o:=.cells #[.int .i64 0,.slice Ao72 x323001_1.length co72,.slice Ao71 x323002_2.length co71] 56 (0,0)) (byaf BK322.out) NB322_0.out (by simp));have n4_:=qA.mk (qK.trans (bybn GW321.out GW322.out) hk (.inl rfl));have n5_:=qA.mk (hb);have n6_:=qA.mk (hi);clear HO_323001;clear HO_323002;clear BK321;clear BK322;clear HK;clear HB;clear HI0;have HO_323001:=n0_;have HO_323002:=n1_;have BK321:=n2_;have BK322:=n3_;have HK:=n4_;have HB:=n5_;have HI0:=n6_;clear n0_ n1_ n2_ n3_ n4_ n5_ n6_;(try clear hb);(try clear hb2);(try clear hk);(try clear hi);have hcz74_0 : w73.cell? ⟨gb322,0,none⟩ = some (.int .i64 0):=(qC BK322.out 0).trans rfl;have hcz74_1 : w73.cell? ⟨gb322,1,none⟩ = some (.slice Ao72 x323001_1.length co72):=(qC BK322.out 1).trans rfl;have hcz74_2 : w73.cell? ⟨gb322,2,none⟩ = some (.slice Ao71 x323002_2.length co71):=(qC BK322.out 2).trans rfl;have hfz74_0:=qB BK322.out 0;have hfz74_1:=qB BK322.out 1;have hfz74_2:=qB BK322.out 2;have hnb75:=NB321_0.out;have hnc75:=NB0_321.out;have hcz76_0 : w73.cell? ⟨gb321,0,none⟩ = some (.int .i64 0):=(qC BK321.out 0).trans rfl;have hcz76_1 : w73.cell? ⟨gb321,1,none⟩ = some (.slice none 0 0):=(qC BK321.out 1).trans rfl;have hcz76_2 : w73.cell? ⟨gb321,2,none⟩ = some (.slice none 0 0):=(qC BK321.out 2).trans rfl;have hfz76_0:=qB BK321.out 0;have hfz76_1:=qB BK321.out 1;have hfz76_2:=qB BK321.out 2))
           refine bodyPost_ret (results_cell_row rfl _ _ gb321 56 #[.int .i64 t358,.slice Ao72 x323001_1.length co72,.slice Ao71 x323002_2.length co71] (0,0) _ rfl (by (with_reducible repeat (first|refine qG ?_ _|refine qJ ?_|refine qF ?_ _));refine zJ (cs:=#[.int .i64 t358,.slice Ao72 x323001_1.length co72,.slice none 0 0]) ?_ 2 _ rfl;(with_reducible repeat (first|refine qG ?_ _|refine qJ ?_|refine qF ?_ _));refine zJ (cs:=#[.int .i64 t358,.slice none 0 0,.slice none 0 0]) ?_ 1 _ rfl;(with_reducible repeat (first|refine qG ?_ _|refine qJ ?_|refine qF ?_ _));refine zJ (cs:=#[.int .i64 0,.slice none 0 0,.slice none 0 0]) ?_ 0 _ rfl;(with_reducible repeat (first|refine qG ?_ _|refine qJ ?_|refine qF ?_ _));refine kI ?_ NB321_322.out _;(with_reducible repeat (first|refine qG ?_ _|refine qJ ?_|refine qF ?_ _));exact BK321.out) Try.underlying56 rfl (by kernel_rfl)) rfl ?_
           exact ⟨_,_,bybq,by (with_reducible repeat (first|apply Kd.jI|apply Kd.jJ|apply Kd.jM));exact Kd.zG (Kd.jD (p:=⟨gb321,2,none⟩) (Kd.jD (p:=⟨gb321,1,none⟩) (Kd.jD (p:=⟨gb321,0,none⟩) (Kd.jD (p:=⟨gb322,0,none⟩) (Kd.jW (Kd.jW HO_323001.out BK322.out (by decide)) BK321.out (by decide)) (fun _ hk=>hk.1.2) (.int .i64 t358)) (fun _ hk=>hk.2) (.int .i64 t358)) (fun _ hk=>hk.2) (.slice Ao72 x323001_1.length co72)) (fun _ hk=>hk.2) (.slice Ao71 x323002_2.length co71)) (fun _ hk=>trivial),by (with_reducible repeat (first|apply Kd.jI|apply Kd.jJ|apply Kd.jM));exact Kd.zG (Kd.jD (p:=⟨gb321,2,none⟩) (Kd.jD (p:=⟨gb321,1,none⟩) (Kd.jD (p:=⟨gb321,0,none⟩) (Kd.jD (p:=⟨gb322,0,none⟩) (Kd.zG (Kd.zG HO_323002.out (fun k_ hk=>(⟨hk,hk.2.2⟩ : _∧k_≠gb322))) (fun k_ hk=>(⟨hk,hk.1.2.1⟩ : _∧k_≠gb321))) (fun _ hk=>hk.1.2) (.int .i64 t358)) (fun _ hk=>hk.2) (.int .i64 t358)) (fun _ hk=>hk.2) (.slice Ao72 x323001_1.length co72)) (fun _ hk=>hk.2) (.slice Ao71 x323002_2.length co71)) (fun _ hk=>hk.1.1.1),bybl HI0.out NB0_321.out NB0_322.out,bybm HI0.out GE321.out GE322.out,bybn GW321.out GW322.out⟩
      ·rw [if_neg c25] at H
       have c25b0 : decide (1 < a2) = false:=decide_eq_false c25
       clear c25
       replace H:=Option.bind_eq_some_iff.mp H
       obtain ⟨⟨t360,t361⟩,A770,H⟩:=H
       replace H : (some (t360,x323001_1,([] : List (S56)),t361)) = some (r1,r2,r3,r4):=H
       have A77:=qA.mk A770
       clear A770
       simp only [Option.some.injEq,Prod.mk.injEq] at H
       obtain ⟨rfl,rfl,rfl,rfl⟩:=H
       have hnb78:=NB322_321.out
       have hnc78:=NB321_322.out
       have hnb79:=NB322_0.out
       have hnc79:=NB0_322.out
       have hcz80_0 : wr.cell? ⟨gb322,0,none⟩ = some (.int .i64 0):=(qC BK322.out 0).trans rfl
       have hcz80_1 : wr.cell? ⟨gb322,1,none⟩ = some (u323001):=(qC BK322.out 1).trans rfl
       have hcz80_2 : wr.cell? ⟨gb322,2,none⟩ = some (.slice none 0 0):=(qC BK322.out 2).trans rfl
       have hfz80_0:=qB BK322.out 0
       have hfz80_1:=qB BK322.out 1
       have hfz80_2:=qB BK322.out 2
       obtain ⟨Ao81,co81,eo81⟩:=Kd.jT HO_323001.out
       subst eo81
       go_wp2_with (first|((with_reducible refine qI (f:=28) rfl ?_);refine zL (some 70) rfl rfl Try.func28 (by kernel_rfl) rfl #[.pointer (some ⟨g,0,none⟩),.int .i64 1,.int .i64 (wrap64 ((x323001_1.length : Int) + (([] : List (S56)).length : Int)))] rfl byah ?_;(with_reducible refine (zI.calls g s0_0 t328 1 (wrap64 ((x323001_1.length : Int) + (([] : List (S56)).length : Int))) t360 t361 w0 _ ?side1 ?side2 A77.out).mono ?_);(case side1=>exact bybl HI0.out NB0_321.out NB0_322.out);(case side2=>exact bybm HI0.out GE321.out GE322.out);rintro e w82 ⟨rfl,hi,hb,hk⟩;refine ⟨_,rfl,?_⟩;have n0_:=qA.mk (Kd.zG (Kd.vF (qD.apart (show qD w0 _ g s0_0 t328 from by repeat (first|(with_reducible first|exact HI0.out|apply qD.alloc|apply qD.drewN|apply qD.drew|apply qD.jR|refine qD.far ?_ NB0_321.out _|refine qD.far ?_ NB0_322.out _)|exact HI0.out)) (byav HO_20.out) (by decide)) hk (fun _ h=>h.2)) (fun _ h=>h.1));have n1_:=qA.mk (Kd.zG (Kd.vF (qD.apart (show qD w0 _ g s0_0 t328 from by repeat (first|(with_reducible first|exact HI0.out|apply qD.alloc|apply qD.drewN|apply qD.drew|apply qD.jR|refine qD.far ?_ NB0_321.out _|refine qD.far ?_ NB0_322.out _)|exact HI0.out)) (byav HO_323001.out) (by decide)) hk (fun _ h=>h.2)) (fun _ h=>h.1));have n2_:=qA.mk (qK.blk hk (g':=gb321) (o:=.cells #[.int .i64 0,.slice none 0 0,.slice none 0 0] 56 (0,0)) (byaf BK321.out) NB321_0.out (by simp));have n3_:=qA.mk (qK.blk hk (g':=gb322) (o:=.cells #[.int .i64 0,.slice Ao81 x323001_1.length co81,.slice none 0 0] 56 (0,0)) (byaf BK322.out) NB322_0.out (by simp));have n4_:=qA.mk (qK.trans (bybn GW321.out GW322.out) hk (.inl rfl));have n5_:=qA.mk (hb);have n6_:=qA.mk (hi);clear HO_20;clear HO_323001;clear BK321;clear BK322;clear HK;clear HB;clear HI0;have HO_20:=n0_;have HO_323001:=n1_;have BK321:=n2_;have BK322:=n3_;have HK:=n4_;have HB:=n5_;have HI0:=n6_;clear n0_ n1_ n2_ n3_ n4_ n5_ n6_;(try clear hb);(try clear hb2);(try clear hk);(try clear hi);have hcz83_0 : w82.cell? ⟨gb322,0,none⟩ = some (.int .i64 0):=(qC BK322.out 0).trans rfl;have hcz83_1 : w82.cell? ⟨gb322,1,none⟩ = some (.slice Ao81 x323001_1.length co81):=(qC BK322.out 1).trans rfl;have hcz83_2 : w82.cell? ⟨gb322,2,none⟩ = some (.slice none 0 0):=(qC BK322.out 2).trans rfl;have hfz83_0:=qB BK322.out 0;have hfz83_1:=qB BK322.out 1;have hfz83_2:=qB BK322.out 2;have hnb84:=NB321_0.out;have hnc84:=NB0_321.out;have hcz85_0 : w82.cell? ⟨gb321,0,none⟩ = some (.int .i64 0):=(qC BK321.out 0).trans rfl;have hcz85_1 : w82.cell? ⟨gb321,1,none⟩ = some (.slice none 0 0):=(qC BK321.out 1).trans rfl;have hcz85_2 : w82.cell? ⟨gb321,2,none⟩ = some (.slice none 0 0):=(qC BK321.out 2).trans rfl;have hfz85_0:=qB BK321.out 0;have hfz85_1:=qB BK321.out 1;have hfz85_2:=qB BK321.out 2))
       refine bodyPost_ret (results_cell_row rfl _ _ gb321 56 #[.int .i64 t360,.slice Ao81 x323001_1.length co81,.slice none 0 0] (0,0) _ rfl (by (with_reducible repeat (first|refine qG ?_ _|refine qJ ?_|refine qF ?_ _));refine zJ (cs:=#[.int .i64 t360,.slice Ao81 x323001_1.length co81,.slice none 0 0]) ?_ 2 _ rfl;(with_reducible repeat (first|refine qG ?_ _|refine qJ ?_|refine qF ?_ _));refine zJ (cs:=#[.int .i64 t360,.slice none 0 0,.slice none 0 0]) ?_ 1 _ rfl;(with_reducible repeat (first|refine qG ?_ _|refine qJ ?_|refine qF ?_ _));refine zJ (cs:=#[.int .i64 0,.slice none 0 0,.slice none 0 0]) ?_ 0 _ rfl;(with_reducible repeat (first|refine qG ?_ _|refine qJ ?_|refine qF ?_ _));refine kI ?_ NB321_322.out _;(with_reducible repeat (first|refine qG ?_ _|refine qJ ?_|refine qF ?_ _));exact BK321.out) Try.underlying56 rfl (by kernel_rfl)) rfl ?_
       exact ⟨_,_,bybq,by (with_reducible repeat (first|apply Kd.jI|apply Kd.jJ|apply Kd.jM));exact Kd.zG (Kd.jD (p:=⟨gb321,2,none⟩) (Kd.jD (p:=⟨gb321,1,none⟩) (Kd.jD (p:=⟨gb321,0,none⟩) (Kd.jD (p:=⟨gb322,0,none⟩) (Kd.jW (Kd.jW HO_323001.out BK322.out (by decide)) BK321.out (by decide)) (fun _ hk=>hk.1.2) (.int .i64 t360)) (fun _ hk=>hk.2) (.int .i64 t360)) (fun _ hk=>hk.2) (.slice Ao81 x323001_1.length co81)) (fun _ hk=>hk.2) (.slice none 0 0)) (fun _ hk=>trivial),byau,bybl HI0.out NB0_321.out NB0_322.out,bybm HI0.out GE321.out GE322.out,bybn GW321.out GW322.out⟩
  ·rw [if_neg c8] at H
   exact absurd H (by simp)
 ·rw [if_neg c7] at H
  exact absurd H (by simp)
mutual
def zX.l0 : Nat→Int→List (S56)→Int→Int→Option (Int)
 | 0,_,_,_,_=>none
 | k + 1,x3,x7,x8,x9=>if x9 < x8 then (if 0 ≤ x9 then (if x9 < (x7.length : Int) then ((zX.f k ((qX x7 x9).f0) ((qX x7 x9).f1) ((qX x7 x9).f2)).bind fun t365=>(zX.l0 k (mx x3 t365) x7 x8 (wrap64 (x9 + 1)))) else (none)) else (none)) else (some (wrap64 (x3 + 1)))
def zX.f : Nat→Int→List Int→List (S56)→Option (Int)
 | 0,_,_,_=>none
 | k + 1,a0_0,l0_1,l0_2=>zX.l0 k 0 l0_2 (l0_2.length : Int) 0
end
set_option maxHeartbeats 8000000 in
set_option maxRecDepth 100000 in
theorem zX.calls (k : Nat) : ∀ (a0_0 : Int) (A0_1 : Option Addr) (c0_1 : Nat) (l0_1 : List Int) (A0_2 : Option Addr) (c0_2 : Nat) (l0_2 : List (S56)) (r : Int) (w : World) (hr0_1 : Kd.C (Kd.int .i64) w A0_1 l0_1.length l0_1) (hc0_1 : l0_1.length ≤ c0_1) (hr0_2 : Kd.C k56 w A0_2 l0_2.length l0_2) (hc0_2 : l0_2.length ≤ c0_2) (h : zX.f k a0_0 l0_1 l0_2 = some r),
  Calls Try.prog 65 #[.agg #[.int .i64 a0_0,.slice A0_1 l0_1.length c0_1,.slice A0_2 l0_2.length c0_2]] w fun e w'=>e = .returned (.int .i64 r)∧Below w.heap.size w w':=by
 induction k using Nat.strongRecOn with
 | _ k ih =>
 intro a0_0 A0_1 c0_1 l0_1 A0_2 c0_2 l0_2 r w hr0_1 hc0_1 hr0_2 hc0_2 h
 cases k with
 | zero=>exact absurd h (by simp [zX.f])
 | succ k =>
 simp only [zX.f] at h
 have hu56:=Try.underlying56
 have HR0_1:=qA.mk hr0_1
 have HC0_1:=qA.mk hc0_1
 clear hr0_1 hc0_1
 have HR0_2:=qA.mk hr0_2
 have HC0_2:=qA.mk hc0_2
 clear hr0_2 hc0_2
 have HB:=qA.mk (Below.refl w.heap.size w)
 have H : (zX.l0 k 0 l0_2 (l0_2.length : Int) 0) = some r:=h
 clear h
 have H':=qA.mk H
 clear H
 go_enter Try.func65,Try.ntmps65
 go_wp2_with (first|((with_reducible refine zK (N:=1) rfl ?_);refine q9 ?hg (N:=1) ?hd (cs:=#[.int .i64 a0_0,.slice A0_1 l0_1.length c0_1,.slice A0_2 l0_2.length c0_2]) (t:=56) ?hr ?_;(case hd=>rfl);(case hg=>rfl);(case hr=>exact byaa);intro gb362 hg w2 hbox hb;have n0_:=qA.mk (qE byab hb);have n1_:=qA.mk (hbox);have n2_:=qA.mk ((byby : w.heap.size ≤ gb362));have n3_:=qA.mk ((byby : w.heap.size ≤ gb362));clear HB;have HB:=n0_;have BK362:=n1_;have GW362:=n2_;have GE362:=n3_;clear n0_ n1_ n2_ n3_;clear hb hbox hg;have hcz3_0 : w2.cell? ⟨gb362,0,none⟩ = some (.int .i64 a0_0):=(qC BK362.out 0).trans rfl;have hcz3_1 : w2.cell? ⟨gb362,1,none⟩ = some (.slice A0_1 l0_1.length c0_1):=(qC BK362.out 1).trans rfl;have hcz3_2 : w2.cell? ⟨gb362,2,none⟩ = some (.slice A0_2 l0_2.length c0_2):=(qC BK362.out 2).trans rfl;have hfz3_0:=qB BK362.out 0;have hfz3_1:=qB BK362.out 1;have hfz3_2:=qB BK362.out 2))
 go_loopg [3,9] k (fun kq v3 v9 w'=>∃ (x3_1 : Int) (x9_1 : Int),v3 = .int .i64 x3_1∧v9 = .int .i64 x9_1∧qA (zX.l0 kq x3_1 l0_2 (l0_2.length : Int) x9_1 = some r)∧qA (kq ≤ k)∧qA (w'.heap[gb362]? = some (.cells #[.int .i64 a0_0,(.slice A0_1 l0_1.length c0_1),(.slice A0_2 l0_2.length c0_2)] 56 (0,0)))∧qA (Below w.heap.size w w'))
 case atStart=>exact ⟨(0),(0),byae,byae,H',⟨Nat.le_refl _⟩,⟨byaf BK362.out⟩,⟨byad GE362.out⟩⟩
 case round =>
  clear H'
  try clear p2
  try clear hcz3_0
  try clear hcz3_1
  try clear hcz3_2
  try clear hfz3_0
  try clear hfz3_1
  try clear hfz3_2
  obtain ⟨x3_1,x9_1,rfl,rfl,HA,HK1,BK362,HB⟩:=hrel
  cases gk with
  | zero=>exact absurd HA.out (by simp [zX.l0])
  | succ k1 =>
   have H:=HA.out
   clear HA
   simp only [zX.l0] at H
   by_cases c4 : x9_1 < (l0_2.length : Int)
   ·rw [if_pos c4] at H
    have c4b0 : decide (x9_1 < (l0_2.length : Int)) = true:=decide_eq_true c4
    clear c4
    by_cases c5 : 0 ≤ x9_1
    ·rw [if_pos c5] at H
     have c5b0 : decide (0 ≤ x9_1) = true:=decide_eq_true c5
     clear c5
     by_cases c6 : x9_1 < (l0_2.length : Int)
     ·rw [if_pos c6] at H
      have c6b0 : decide (x9_1 < (l0_2.length : Int)) = true:=decide_eq_true c6
      clear c6
      replace H:=Option.bind_eq_some_iff.mp H
      obtain ⟨t365,A70,H⟩:=H
      replace H : (zX.l0 k1 (mx x3_1 t365) l0_2 (l0_2.length : Int) (wrap64 (x9_1 + 1))) = some r:=H
      have A7:=qA.mk A70
      clear A70
      obtain ⟨ji8,hji8⟩ : ∃ j_ : Int,(mx x3_1 t365) = j_:=⟨_,rfl⟩
      replace H : (zX.l0 k1 ji8 l0_2 (l0_2.length : Int) (wrap64 (x9_1 + 1))) = some r:=by first|(rw [hji8] at H;exact H)|(simp only [hji8] at H ⊢;exact H)
      (try rw [hji8] at A7)
      have hji8_ : (if x3_1 < t365 then t365 else x3_1) = ji8:=hji8
      have H':=qA.mk H
      clear H
      have p363 : 0 ≤ (x9_1 : Int):=of_decide_eq_true byag
      have q363 : x9_1 < (l0_2.length : Int):=of_decide_eq_true byag
      obtain ⟨ad363,A363_1,c363_1,A363_2,c363_2,e363,hx363_0,hx363_1,hx363_2,hl363_1,hi363_1,hl363_2,hi363_2⟩:=kW HR0_2.out x9_1 p363 q363
      cases e363
      replace hx363_0:=(HB.out.cell (World.block_lt_of_cell? w _ hx363_0)).trans hx363_0
      replace hx363_1:=(HB.out.cell (World.block_lt_of_cell? w _ hx363_1)).trans hx363_1
      replace hx363_2:=(HB.out.cell (World.block_lt_of_cell? w _ hx363_2)).trans hx363_2
      have HR363_1:=qA.mk hi363_1
      have HC363_1:=qA.mk hl363_1
      clear hi363_1 hl363_1
      have HR363_2:=qA.mk hi363_2
      have HC363_2:=qA.mk hl363_2
      clear hi363_2 hl363_2
      replace p363:=eq_true p363
      replace q363:=eq_true q363
      go_wp2_with (first|((with_reducible refine zK (N:=5) rfl ?_);refine q9 ?hg (N:=5) ?hd (cs:=#[.int .i64 0,.slice none 0 0,.slice none 0 0]) (t:=56) ?hr ?_;(case hd=>rfl);(case hg=>rfl);(case hr=>exact byaa);intro gb364 hg w9 hbox hb;have n0_:=qA.mk (qH (g:=gb362) (o:=.cells #[.int .i64 a0_0,.slice A0_1 l0_1.length c0_1,.slice (some ad363) l0_2.length c0_2] 56 (0,0)) (byaf BK362.out) hb);have n1_:=qA.mk (qE (byad GE362.out) hb);have n2_:=qA.mk (hbox);have n3_:=qA.mk ((bybz GE362.out : w.heap.size ≤ gb364));have n4_:=qA.mk ((bybz GE362.out : w.heap.size ≤ gb364));have n5_:=qA.mk ((by rw [hg];exact Nat.ne_of_lt (jF (g:=gb362) (o:=.cells #[.int .i64 a0_0,.slice A0_1 l0_1.length c0_1,.slice (some ad363) l0_2.length c0_2] 56 (0,0)) (byaf BK362.out)) : gb362≠gb364));have n6_:=qA.mk ((by rw [hg];exact Nat.ne_of_gt (jF (g:=gb362) (o:=.cells #[.int .i64 a0_0,.slice A0_1 l0_1.length c0_1,.slice (some ad363) l0_2.length c0_2] 56 (0,0)) (byaf BK362.out)) : gb364≠gb362));clear BK362;clear HB;have BK362:=n0_;have HB:=n1_;have BK364:=n2_;have GW364:=n3_;have GE364:=n4_;have NB362_364:=n5_;have NB364_362:=n6_;clear n0_ n1_ n2_ n3_ n4_ n5_ n6_;clear hb hbox hg;have hnb10:=NB364_362.out;have hnc10:=NB362_364.out;have hcz11_0 : w9.cell? ⟨gb364,0,none⟩ = some (.int .i64 0):=(qC BK364.out 0).trans rfl;have hcz11_1 : w9.cell? ⟨gb364,1,none⟩ = some (.slice none 0 0):=(qC BK364.out 1).trans rfl;have hcz11_2 : w9.cell? ⟨gb364,2,none⟩ = some (.slice none 0 0):=(qC BK364.out 2).trans rfl;have hfz11_0:=qB BK364.out 0;have hfz11_1:=qB BK364.out 1;have hfz11_2:=qB BK364.out 2)|((with_reducible refine qI (f:=65) rfl ?_);refine zL (some 15) rfl rfl Try.func65 (by kernel_rfl) rfl #[.agg #[.int .i64 ((qX l0_2 x9_1).f0),.slice A363_1 ((qX l0_2 x9_1).f1).length c363_1,.slice A363_2 ((qX l0_2 x9_1).f2).length c363_2]] rfl byah ?_;(with_reducible refine (ih k1 byai ((qX l0_2 x9_1).f0) _ _ ((qX l0_2 x9_1).f1) _ _ ((qX l0_2 x9_1).f2) t365 _ ?side1 ?side2 ?side3 ?side4 A7.out).mono ?_);(case side1=>exact Kd.vK HR363_1.out (byaj GE362.out GE364.out));(case side2=>exact HC363_1.out);(case side3=>exact Kd.vK HR363_2.out (byaj GE362.out GE364.out));(case side4=>exact HC363_2.out);rintro e w12 ⟨rfl,hb⟩;refine ⟨_,rfl,?_⟩;have n0_:=qA.mk (qH (g:=gb362) (o:=.cells #[.int .i64 a0_0,.slice A0_1 l0_1.length c0_1,.slice (some ad363) l0_2.length c0_2] 56 (0,0)) (byak NB362_364.out BK362.out) hb);have n1_:=qA.mk (qH (g:=gb364) (o:=.cells #[.int .i64 ((qX l0_2 x9_1).f0),.slice A363_1 ((qX l0_2 x9_1).f1).length c363_1,.slice A363_2 ((qX l0_2 x9_1).f2).length c363_2] 56 (0,0)) (by (with_reducible repeat (first|refine qG ?_ _|refine qJ ?_|refine qF ?_ _));refine zJ (cs:=#[.int .i64 ((qX l0_2 x9_1).f0),.slice A363_1 ((qX l0_2 x9_1).f1).length c363_1,.slice none 0 0]) ?_ 2 _ rfl;(with_reducible repeat (first|refine qG ?_ _|refine qJ ?_|refine qF ?_ _));refine zJ (cs:=#[.int .i64 ((qX l0_2 x9_1).f0),.slice none 0 0,.slice none 0 0]) ?_ 1 _ rfl;(with_reducible repeat (first|refine qG ?_ _|refine qJ ?_|refine qF ?_ _));refine zJ (cs:=#[.int .i64 0,.slice none 0 0,.slice none 0 0]) ?_ 0 _ rfl;(with_reducible repeat (first|refine qG ?_ _|refine qJ ?_|refine qF ?_ _));exact BK364.out) hb);have n2_:=qA.mk (qE (byaj GE362.out GE364.out) hb);clear BK362;clear BK364;clear HB;have BK362:=n0_;have BK364:=n1_;have HB:=n2_;clear n0_ n1_ n2_;(try clear hb);(try clear hb2);(try clear hk);(try clear hi)))
      go_roundg k1
      case measure=>have:=HK1.out;omega
      case rel=>exact ⟨(ji8),(wrap64 (x9_1 + 1)),byal,byae,H',⟨byai⟩,⟨byaf BK362.out⟩,⟨byaj GE362.out GE364.out⟩⟩
     ·rw [if_neg c6] at H
      exact absurd H (by simp)
    ·rw [if_neg c5] at H
     exact absurd H (by simp)
   ·rw [if_neg c4] at H
    have c4b0 : decide (x9_1 < (l0_2.length : Int)) = false:=decide_eq_false c4
    clear c4
    obtain rfl:=Option.some.inj H
    go_wp2
    go_ret
    exact ⟨byac,byad GE362.out⟩
end Go.Proofs.Ytkkbdimegpdbgaa.P
