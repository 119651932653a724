/- Functions of the program as Lean functions, and the walks that show that the calls answer so; written by a program of this session (a changed print) and by hand. -/
import Derived.Test.YtkkbdimegpdbgaaQsPx0
import Derived.Test.YtkkbdimegpdbgaaQsPx11
namespace Go.Proofs.Ytkkbdimegpdbgaa.P
open Go.RowKit Go.Proofs.YtkkbdimegpdbgaaW.PrintWords Go.Proofs.YtkkbdimegpdbgaaW.PrintLast Go.Proofs.YtkkbdimegpdbgaaW.PrintMore
attribute [local go_sem] kF kD kV kU uJ uK kG kE
set_option linter.unusedVariables false
set_option linter.unusedSimpArgs false
mutual
def qR.l0 : Nat→Int→Int→List Int→Int→Int→List Int→Int→Int→List Int→Option (Int × List Int × (List (S56)) × Int)
 | 0,_,_,_,_,_,_,_,_,_=>none
 | k + 1,x1,x2,x20,x21,x22,x1000,x1001,x323000,x323001=>if x22 < x21 then (if 0 ≤ x22 then (if x22 < (x20.length : Int) then (if x323001.length < 17592186044416 then (qR.l0 k x1 x2 x20 x21 (wrap64 (x22 + 1)) x1000 x1001 x323000 (x323001 ++ [rd x20 x22])) else (none)) else (none)) else (none)) else (if x2 > 1 then ((jY.f x1000 x1001 (([0,0,1,1,2,3] : List Int))).bind fun bt339=>(qR.l1 k x1 x2 bt339.1 x1000 bt339.2 x323000 x323001 ([] : List (S56)))) else ((zS.f x1000 x1001 1 (wrap64 ((x323001.length : Int) + (([] : List (S56)).length : Int)))).bind fun bt360=>(some (bt360.1,x323001,([] : List (S56)),bt360.2))))
def qR.l1 : Nat→Int→Int→Int→List Int→Int→Int→List Int→List (S56)→Option (Int × List Int × (List (S56)) × Int)
 | 0,_,_,_,_,_,_,_,_=>none
 | k + 1,x1,x2,x11,x1000,x1001,x323000,x323001,x323002=>if x11 > 0 then ((qR.f k x1000 x1001 x1 (wrap64 (x2 - 1))).bind fun bt341=>(if x323002.length < 2513169434916 then (qR.l1 k x1 x2 (wrap64 (x11 - 1)) x1000 bt341.2.2.2 x323000 x323001 (x323002 ++ [(⟨bt341.1,bt341.2.1,bt341.2.2.1⟩ : S56)])) else (none))) else (if (x323002.length : Int) > 0 then ((qZ.f x1000 x1001 3).bind fun bt352=>(if bt352.1 = 0 then ((zS.f x1000 bt352.2 1 (wrap64 ((([] : List Int).length : Int) + (x323002.length : Int)))).bind fun bt354=>(some (bt354.1,([] : List Int),x323002,bt354.2))) else ((zS.f x1000 bt352.2 1 (wrap64 ((x323001.length : Int) + (x323002.length : Int)))).bind fun bt356=>(some (bt356.1,x323001,x323002,bt356.2))))) else ((zS.f x1000 x1001 1 (wrap64 ((x323001.length : Int) + (x323002.length : Int)))).bind fun bt358=>(some (bt358.1,x323001,x323002,bt358.2))))
def qR.f : Nat→List Int→Int→Int→Int→Option (Int × List Int × (List (S56)) × Int)
 | 0,_,_,_,_=>none
 | k + 1,s0_0,s0_1,a1,a2=>(qQ.f k s0_0 s0_1 a1).bind fun bt323=>((zS.f s0_0 bt323.2 1 (mn a1 5)).bind fun bt327=>(if 0 ≤ bt327.1 then (if bt327.1 ≤ (bt323.1.length : Int) then ((some (bt323.1.take (bt327.1 : Int).toNat : List Int)).bind fun y329=>(qR.l0 k a1 a2 y329 (y329.length : Int) 0 s0_0 bt327.2 0 ([] : List Int))) else (none)) else (none)))
end
def qR.T12 : Bool × List (List Nat × List Nat):=(true,[([],[]),([0],[0]),([],[]),([],[]),([],[]),([4],[4]),([2,3,5],[2,3,5]),([6],[6]),([1,7,6],[1,7]),([0,1,2,3,4,5,6,7,8],[]),([9,8,8,0,1,2,3,4,5,6,7,8],[8,9])])
def qR.B12 : List Nat:=[0,1,0,0,0,16,60,124,255,511,1023]
theorem qR.tab12 : rtab .any (opsOf Try.f47 12) = qR.T12:=by kernel_rfl
theorem qR.bits12 : Qv qR.T12.2 qR.B12 = true:=by kernel_rfl
set_option maxHeartbeats 8000000 in
set_option maxRecDepth 100000 in
theorem qR.calls (k : Nat) : ∀ (g : Nat) (s0_0 : List Int) (s0_1 : Int) (a1 : Int) (a2 : Int) (r1 : Int) (r2 : List Int) (r3 : List (S56)) (r4 : Int) (w0 w : World) (hI : qB w0 w g s0_0 s0_1) (hB : Below w0.heap.size w0 w) (h : qR.f k s0_0 s0_1 a1 a2 = some (r1,r2,r3,r4)),
  Calls Try.prog 47 #[.pointer (some ⟨g,0,none⟩),.int .i64 a1,.int .i64 a2] w fun e w'=>∃ v1_ v2_ : Value,e = .returned (.agg #[.int .i64 r1,v1_,v2_])∧Kd.R (Kd.int .i64) 3 w' w.heap.size (fun _=>True) v1_ r2∧Kd.R k56 56 w' w.heap.size (fun k_=>some k_≠(v1_ : Value).ownBlock) v2_ r3∧qB w0 w' g s0_0 r4∧Below w0.heap.size w0 w'∧qJ w w' g none:=by
 induction k using Nat.strongRecOn with
 | _ k ih =>
 intro g s0_0 s0_1 a1 a2 r1 r2 r3 r4 w0 w hI hB h
 cases k with
 | zero=>exact absurd h (by simp [qR.f])
 | succ k =>
 simp only [qR.f] at h
 have hu56:=Try.underlying56
 have HI0:=qA.mk hI
 have HK:=qA.mk (qJ.refl w g none)
 have HL:=qA.mk hB.size
 clear hI
 have HW0:=qA.mk hB.size
 have HB:=qA.mk hB
 clear hB
 have H:=h
 clear h
 replace H:=Option.bind_eq_some_iff.mp H
 obtain ⟨⟨t323,t326⟩,A40,H⟩:=H
 try dsimp only at H
 have A4:=qA.mk A40
 clear A40
 obtain ⟨ji5,hji5⟩ : ∃ j_ : Int,(mn a1 5) = j_:=⟨_,rfl⟩
 (first|rw [hji5] at H|(simp only [hji5] at H))
 (try rw [hji5] at A4)
 (try (have hji5h : ji5 ≤ 5:=by (rw [← hji5];unfold mn;(repeat' split)<;>omega)))
 (try (have hji5g : ji5 ≤ 64:=by omega))
 have hji5_ : (if 5 < a1 then 5 else a1) = ji5:=hji5
 replace H:=Option.bind_eq_some_iff.mp H
 obtain ⟨⟨t327,t328⟩,A60,H⟩:=H
 try dsimp only at H
 have A6:=qA.mk A60
 clear A60
 by_cases c7 : 0 ≤ t327
 ·rw [if_pos c7] at H
  have c7b0:=eq_true c7
  have c7b1:=decide_eq_true c7
  clear c7
  by_cases c8 : t327 ≤ (t323.length : Int)
  ·rw [if_pos c8] at H
   have c8b0:=eq_true c8
   have c8b1:=decide_eq_true c8
   clear c8
   obtain ⟨y329,hy329⟩ : ∃ y_ : List Int,y_ = (t323.take (t327 : Int).toNat):=⟨_,rfl⟩
   replace H : (qR.l0 k a1 a2 y329 (y329.length : Int) 0 s0_0 t328 0 ([] : List Int)) = some (r1,r2,r3,r4):=by first|(rw [hy329];with_reducible exact H)|(have H2_:=(Option.bind_some _ _).symm.trans H;rw [hy329];with_reducible exact H2_)|(have H2_:=(Option.bind_some _ _).symm.trans H;with_reducible exact H2_)|with_reducible exact H|(rw [hy329];exact H)|exact H
   have Ny329:=qA.mk hy329
   clear hy329
   have H':=qA.mk H
   clear H
   go_enter Try.func47,Try.ntmps47
   go_wp2_with (first|((with_reducible refine qP (N:=6) rfl ?_);refine zV (N:=6) (cs:=#[.int .i64 0,.slice none 0 0,.slice none 0 0]) (t:=56) ?_;intro gb321 hg w9 hbox hb;have n_:=q_7 (qB.below (bybj HI0.out) hb) (qJ.trans bybl (qJ.of_below hb g none) (.inl rfl)) (qC (bybk HI0.out) hb) (hbox) ((byco : w.heap.size ≤ gb321)) ((Nat.le_trans HW0.out (byco : w.heap.size ≤ gb321) : w0.heap.size ≤ gb321)) ((by rw [hg];exact Nat.ne_of_lt (qB.lt (show qB w0 _ g s0_0 s0_1 from by repeat (first|(with_reducible first|exact HI0.out|apply qB.alloc|apply qB.drewN|apply qB.drew|apply qB.vZ)|exact HI0.out))) : g≠gb321));clear HI0 HK HB;obtain ⟨HI0,HK,HB,BK321,GW321,GE321,NB0_321⟩:=n_;have NB321_0:=ns NB0_321;clear hb hbox hg)|((with_reducible refine qP (N:=7) rfl ?_);refine zV (N:=7) (cs:=#[.int .i64 0,.slice none 0 0,.slice none 0 0]) (t:=56) ?_;intro gb322 hg w10 hbox hb;have n_:=q_9 (qB.below (bybm HI0.out NB0_321.out) hb) (qH BK321.out hb) (qJ.trans (bybn GW321.out) (qJ.of_below hb g none) (.inl rfl)) (qC (bybo HI0.out GE321.out) hb) (hbox) ((bycp GW321.out : w.heap.size ≤ gb322)) ((Nat.le_trans HW0.out (bycp GW321.out : w.heap.size ≤ gb322) : w0.heap.size ≤ gb322)) ((by rw [hg];exact Nat.ne_of_lt (vF BK321.out) : gb321≠gb322)) ((by rw [hg];exact Nat.ne_of_lt (qB.lt (show qB w0 _ g s0_0 s0_1 from by repeat (first|(with_reducible first|exact HI0.out|apply qB.alloc|apply qB.drewN|apply qB.drew|apply qB.vZ|refine qB.far ?_ NB0_321.out _)|exact HI0.out))) : g≠gb322));clear HI0 BK321 HK HB;obtain ⟨HI0,BK321,HK,HB,BK322,GW322,GE322,NB321_322,NB0_322⟩:=n_;have NB322_321:=ns NB321_322;have NB322_0:=ns NB0_322;clear hb hbox hg)|((with_reducible refine qI (f:=64) rfl ?_);refine qY (some 14) rfl rfl Try.func64 (by kernel_rfl) rfl #[.pointer (some ⟨g,0,none⟩),.int .i64 a1] rfl byah ?_;(with_reducible refine (qQ.calls k g s0_0 s0_1 a1 t323 t326 w0 _ ?side1 ?side2 A4.out).mono ?_);(case side1=>exact bybp HI0.out NB0_321.out NB0_322.out);(case side2=>exact bybq HI0.out GE321.out GE322.out);rintro e w11 ⟨v324,rfl,ho0,hi,hb,hk⟩;refine ⟨_,rfl,?_⟩;have n_:=q_6 (qJ.blkB hk BK321.out NB321_0.out (by simp)) (qJ.blkB hk BK322.out NB322_0.out (by simp)) (Kd.uZ ho0 (vM (w:=w) (g:=g) (row:=none) (bybr GW321.out GW322.out))) (qJ.trans (bybr GW321.out GW322.out) hk (.inl rfl)) (hb) (hi);clear BK321 BK322 HK HB HI0;obtain ⟨BK321,BK322,HO325,HK,HB,HI0⟩:=n_;clear hb hk hi;(try clear ho0))|((with_reducible refine qI (f:=28) rfl ?_);refine qY (some 19) rfl rfl Try.func28 (by kernel_rfl) rfl #[.pointer (some ⟨g,0,none⟩),.int .i64 1,.int .i64 ji5] rfl (by (try simp only [List.map_toArray,List.map_cons,List.map_nil]);first|done|(simp only [hji5];rfl)|rfl|(simp only [List.length_drop,List.length_take];rfl)) ?_;(with_reducible refine (zS.calls g s0_0 t326 1 ji5 t327 t328 w0 _ ?side1 ?side2 A6.out).mono ?_);(case side1=>exact bybp HI0.out NB0_321.out NB0_322.out);(case side2=>exact bybq HI0.out GE321.out GE322.out);rintro e w12 ⟨rfl,hi,hb,hk⟩;refine ⟨_,rfl,?_⟩;have n_:=q_6 (qJ.blkB hk BK321.out NB321_0.out (by simp)) (qJ.blkB hk BK322.out NB322_0.out (by simp)) (Kd.zB (Kd.uO (qB.apart (show qB w0 _ g s0_0 t326 from by repeat (first|(with_reducible first|exact HI0.out|apply qB.alloc|apply qB.drewN|apply qB.drew|apply qB.vZ|refine qB.far ?_ NB0_321.out _|refine qB.far ?_ NB0_322.out _)|exact HI0.out)) (byav HO325.out) (by decide)) hk (fun _ h=>h.2)) (fun _ h=>h.1)) (qJ.trans (bybr GW321.out GW322.out) hk (.inl rfl)) (hb) (hi);clear BK321 BK322 HO325 HK HB HI0;obtain ⟨BK321,BK322,HO325,HK,HB,HI0⟩:=n_;clear hb hk hi;obtain ⟨Ao13,co13,eo13⟩:=Kd.vJ HO325.out;subst eo13;have q14 : (t327 : Int) ≤ ((t323.length : Int) : Int):=of_decide_eq_true byag;obtain ⟨i014,hi014,_,hsz14,_⟩:=info_parts info3;have hcut14:=cut_to (P:=Try.prog) 22 3 .i64 Try.underlying22 hi014 Ao13 t323.length co13 t327 (of_decide_eq_true byag) q14 (Kd.uM HO325.out).2.1;have hr14:=Kd.R_take (m:=(t327 : Int).toNat) HO325.out (by omega);have hy14 : y329.length = (t327 : Int).toNat:=(by rw [Ny329.out,List.length_take];omega);rw [← Ny329.out] at hr14;rw [← hy14] at hr14 hcut14;clear hy14 hi014 hsz14 HO325;have HO331:=qA.mk hr14;clear hr14;replace q14:=eq_true q14))
   go_loopg [22] k (fun kq v22 w'=>∃ (x22_1 : Int) (x323001_1 : List Int) (u323001 : Value),v22 = .int .i64 x22_1∧qA (qR.l0 kq a1 a2 y329 (y329.length : Int) x22_1 s0_0 t328 0 x323001_1 = some (r1,r2,r3,r4))∧qA (kq ≤ k)∧qA (Kd.R (Kd.int .i64) 3 w' w.heap.size (fun k_=>some k_≠(u323001 : Value).ownBlock) (.slice Ao13 y329.length co13) y329)∧qA (Kd.R (Kd.int .i64) 3 w' w.heap.size (fun k_=>some k_≠((.slice Ao13 y329.length co13) : Value).ownBlock) u323001 x323001_1)∧qA (w'.heap[gb321]? = some (.cells #[.int .i64 0,(.slice none 0 0),(.slice none 0 0)] 56 (0,0)))∧qA (w'.heap[gb322]? = some (.cells #[.int .i64 0,u323001,(.slice none 0 0)] 56 (0,0)))∧qA (qB w0 w' g s0_0 t328)∧qA (qJ w w' g none)∧qA (Below w0.heap.size w0 w'))
   case atStart=>exact ⟨(0),(([] : List Int)),(.slice none 0 0),byae,H',⟨Nat.le_refl _⟩,⟨by (with_reducible repeat (first|apply Kd.jP|apply Kd.jO|apply Kd.jZ));exact Kd.zB HO331.out (fun _ hk=>(bybs))⟩,⟨byau⟩,⟨byaf BK321.out⟩,⟨byaf BK322.out⟩,⟨bybp HI0.out NB0_321.out NB0_322.out⟩,⟨bybr GW321.out GW322.out⟩,⟨bybq HI0.out GE321.out GE322.out⟩⟩
   case round =>
    clear H'
    obtain ⟨x22_1,x323001_1,u323001,rfl,HA,HK1,HO_20,HO_323001,BK321,BK322,HI0,HK,HB⟩:=hrel
    cases gk with
    | zero=>exact absurd HA.out (by simp [qR.l0])
    | succ k1 =>
     have H:=HA.out
     clear HA
     simp only [qR.l0] at H
     by_cases c15 : x22_1 < (y329.length : Int)
     ·rw [if_pos c15] at H
      have c15b0:=decide_eq_true c15
      clear c15
      by_cases c16 : 0 ≤ x22_1
      ·rw [if_pos c16] at H
       have c16b0:=decide_eq_true c16
       clear c16
       by_cases c17 : x22_1 < (y329.length : Int)
       ·rw [if_pos c17] at H
        have c17b0:=decide_eq_true c17
        clear c17
        by_cases c18 : x323001_1.length < 17592186044416
        ·rw [if_pos c18] at H
         have LMc18:=qA.mk c18
         clear c18
         obtain ⟨y333,hy333⟩ : ∃ y_ : List Int,y_ = (x323001_1 ++ [rd y329 x22_1]):=⟨_,rfl⟩
         replace H : (qR.l0 k1 a1 a2 y329 (y329.length : Int) (wrap64 (x22_1 + 1)) s0_0 t328 0 y333) = some (r1,r2,r3,r4):=by first|(rw [hy333];with_reducible exact H)|(have H2_:=(Option.bind_some _ _).symm.trans H;rw [hy333];with_reducible exact H2_)|(have H2_:=(Option.bind_some _ _).symm.trans H;with_reducible exact H2_)|with_reducible exact H|(rw [hy333];exact H)|exact H
         have Ny333:=qA.mk hy333
         clear hy333
         have H':=qA.mk H
         clear H
         have p332 : 0 ≤ (x22_1 : Int):=of_decide_eq_true byag
         have q332 : x22_1 < (y329.length : Int):=of_decide_eq_true byag
         obtain ⟨ad332,e332,hx332_0⟩:=Kd.kW (Kd.uM HO_20.out).2.2 x22_1 p332 q332
         cases e332
         replace p332:=eq_true p332
         replace q332:=eq_true q332
         have hnb19:=NB322_321.out
         have hnc19:=NB321_322.out
         have hnb20:=NB322_0.out
         have hnc20:=NB0_322.out
         obtain ⟨hcz21_0,hcz21_1,hcz21_2,hfz21_0,hfz21_1,hfz21_2⟩:=cz3 BK322.out
         go_wp2_with (first|((with_reducible refine uU (b:=.append) (xs:=#[.tmp 27,.tmp 29]) rfl ?_);at_builtin;refine Kd.Qk (Kd.int .i64) w.heap.size rfl (.tmp 27) (.tmp 29) 22 3 (.int .i64 0) 8 rfl Try.underlying22 info3 rfl (by decide) (by omega) u323001 x323001_1 (rd y329 x22_1) [.int .i64 (rd y329 x22_1)] (fun k_=>some k_≠(.slice (some ad332) y329.length co13 : Value).ownBlock) (fun _=>False) rfl rfl ?aP (fun _ hk=>hk.elim) ?aF ?aO (Below.refl _ _) ?aS ?aL ?_;(case aP=>exact rfl);(case aF=>exact (fun k_ hk=>Kd.fresh' (Kd.R_lt (byav HO_20.out)) k_ hk));(case aO=>exact (byav HO_323001.out));(case aS=>exact (vM (w:=w) (g:=g) (row:=none) (bybr GW321.out GW322.out)));(case aL=>have:=LMc18.out;omega);intro v334 w22 ho hb hg hat;rw [← Ny333.out] at ho;have n_:=q_7 (Kd.R_after (ok:=(fun _=>True)) (by (with_reducible repeat (first|apply Kd.jP|apply Kd.jO|apply Kd.jZ));exact Kd.zB HO_20.out (fun _ hk=>⟨trivial,hk⟩)) hg hat) (vP (g:=gb321) (o:=.cells #[.int .i64 0,.slice none 0 0,.slice none 0 0] 56 (0,0)) (byaf BK321.out) hg (Kd.R_ne HO_323001.out BK321.out (by decide))) (vP (g:=gb322) (o:=.cells #[.int .i64 0,u323001,.slice none 0 0] 56 (0,0)) (byaf BK322.out) hg (Kd.R_ne HO_323001.out BK322.out (by decide))) (qB.grown (bybp HI0.out NB0_321.out NB0_322.out) hg (qB.own_ne HI0.out HO_323001.out (by decide))) (kT (bybq HI0.out GE321.out GE322.out) HL.out hb) (qJ.trans (bybr GW321.out GW322.out) (qJ.Qx hg g) (Kd.Zq HO_323001.out)) (ho);clear HO_20 BK321 BK322 HI0 HB HK HO_323001;obtain ⟨HO_20,BK321,BK322,HI0,HB,HK,HO335⟩:=n_;clear ho hb hg hat;obtain ⟨Ao23,co23,eo23⟩:=Kd.vJ HO335.out;subst eo23;obtain ⟨hcz24_0,hcz24_1,hcz24_2,hfz24_0,hfz24_1,hfz24_2⟩:=cz3 BK322.out))
         go_roundg k1
         case measure=>have:=HK1.out;omega
         case rel=>exact ⟨(wrap64 (x22_1 + 1)),(y333),(.slice Ao23 y333.length co23),byae,H',⟨byai⟩,⟨by (with_reducible repeat (first|apply Kd.jP|apply Kd.jO|apply Kd.jZ));exact Kd.zB (Kd.jF (p:=⟨gb322,1,none⟩) (Kd.uB HO_20.out BK322.out (by decide)) (fun _ hk=>hk.2) (.slice Ao23 y333.length co23)) (fun _ hk=>hk.1.2)⟩,⟨by (with_reducible repeat (first|apply Kd.jP|apply Kd.jO|apply Kd.jZ));exact Kd.zB (Kd.jF (p:=⟨gb322,1,none⟩) (Kd.uB HO335.out BK322.out (by decide)) (fun _ hk=>hk.2) (.slice Ao23 y333.length co23)) (fun _ hk=>hk.1)⟩,⟨bybe NB321_322.out BK321.out⟩,⟨by (with_reducible repeat (first|refine qF ?_ _|refine qG ?_|refine qE ?_ _));refine qO (cs:=#[.int .i64 0,u323001,.slice none 0 0]) ?_ 1 _ rfl;(with_reducible repeat (first|refine qF ?_ _|refine qG ?_|refine qE ?_ _));exact BK322.out⟩,⟨bybp HI0.out NB0_321.out NB0_322.out⟩,⟨bybr GW321.out GW322.out⟩,⟨bybq HI0.out GE321.out GE322.out⟩⟩
        ·rw [if_neg c18] at H
         exact absurd H (by simp)
       ·rw [if_neg c17] at H
        exact absurd H (by simp)
      ·rw [if_neg c16] at H
       exact absurd H (by simp)
     ·rw [if_neg c15] at H
      have c15b0:=decide_eq_false c15
      clear c15
      by_cases c25 : a2 > 1
      ·rw [if_pos c25] at H
       have c25b0:=decide_eq_true c25
       clear c25
       obtain ⟨y336,hy336⟩ : ∃ y_ : List Int,y_ = (([0,0,1,1,2,3] : List Int)):=⟨_,rfl⟩
       replace H : ((jY.f s0_0 t328 y336).bind fun bt339=>(qR.l1 k1 a1 a2 bt339.1 s0_0 bt339.2 0 x323001_1 ([] : List (S56)))) = some (r1,r2,r3,r4):=by first|(rw [hy336];with_reducible exact H)|(have H2_:=(Option.bind_some _ _).symm.trans H;rw [hy336];with_reducible exact H2_)|(have H2_:=(Option.bind_some _ _).symm.trans H;with_reducible exact H2_)|with_reducible exact H|(rw [hy336];exact H)|exact H
       have Ny336:=qA.mk hy336
       clear hy336
       replace H:=Option.bind_eq_some_iff.mp H
       obtain ⟨⟨t339,t340⟩,A260,H⟩:=H
       try dsimp only at H
       have A26:=qA.mk A260
       clear A260
       have H':=qA.mk H
       clear H
       go_wp2_with (first|((with_reducible refine qP (N:=36) rfl ?_);refine Kd.R_lit (Kd.int .i64) _ 3 ?hg (N:=36) ?hd (xs:=([0,0,1,1,2,3] : List Int)) (inner:=[.int .i64 0,.int .i64 0,.int .i64 1,.int .i64 1,.int .i64 2,.int .i64 3]) (ok:=fun _=>True) (okp:=fun _=>True) ?hr ?hp (fun _ hk=>hk) trivial (Below.refl _ _) (Nat.le_refl _) (by simp) ?_;(case hd=>rfl);(case hg=>rfl);(case hr=>exact byaa);(case hp=>exact (Reps.one (show Kd.M (Kd.int .i64) _ _ _ 0 [.int .i64 0] from rfl) (Reps.one (show Kd.M (Kd.int .i64) _ _ _ 0 [.int .i64 0] from rfl) (Reps.one (show Kd.M (Kd.int .i64) _ _ _ 1 [.int .i64 1] from rfl) (Reps.one (show Kd.M (Kd.int .i64) _ _ _ 1 [.int .i64 1] from rfl) (Reps.one (show Kd.M (Kd.int .i64) _ _ _ 2 [.int .i64 2] from rfl) (Reps.one (show Kd.M (Kd.int .i64) _ _ _ 3 [.int .i64 3] from rfl) (Reps.none _ _))))))));intro v337 w27 ho28 hb hg_ hnew_;clear hg_ hnew_;(first|rw [← Ny336.out] at ho28|(simp only [Int.reduceToNat] at ho28;rw [← Ny336.out] at ho28));have n_:=q_8 (Kd.Zz (byav HO_20.out) (Kd.kL ho28) hb) (Kd.Zz (byav HO_323001.out) (Kd.kL ho28) hb) (Kd.uZ (Kd.R_new' (Kd.R_new' ho28 (Kd.R_lt (byav HO_20.out))) (Kd.R_lt (byav HO_323001.out))) (vM (w:=w) (g:=g) (row:=none) (bybr GW321.out GW322.out))) (qH BK321.out hb) (qH BK322.out hb) (qB.below (bybp HI0.out NB0_321.out NB0_322.out) hb) (qJ.trans (bybr GW321.out GW322.out) (qJ.of_below hb g none) (.inl rfl)) (qC (bybq HI0.out GE321.out GE322.out) hb);clear HO_20 HO_323001 BK321 BK322 HI0 HK HB;obtain ⟨HO_20,HO_323001,HO338,BK321,BK322,HI0,HK,HB⟩:=n_;clear hb ho28;obtain ⟨Ao29,co29,eo29⟩:=Kd.vJ HO338.out;subst eo29)|((with_reducible refine qI (f:=33) rfl ?_);refine qY (some 37) rfl rfl Try.func33 (by kernel_rfl) rfl #[.pointer (some ⟨g,0,none⟩),.slice Ao29 y336.length co29] rfl byah ?_;(with_reducible refine (jY.calls g s0_0 t328 _ _ y336 t339 t340 w0 _ ?side1 ?side2 ?side3 ?side4 ?side5 A26.out).mono ?_);(case side1=>exact bybp HI0.out NB0_321.out NB0_322.out);(case side2=>exact bybq HI0.out GE321.out GE322.out);(case side3=>exact bybt HO338.out);(case side4=>exact (Kd.uM HO338.out).2.1);(case side5=>exact far_slice (qB.own_ne HI0.out HO338.out (by decide)));rintro e w30 ⟨rfl,hi,hb,hk⟩;refine ⟨_,rfl,?_⟩;have n_:=q_8 (Kd.zB (Kd.uO (qB.apart (show qB w0 _ g s0_0 t328 from by repeat (first|(with_reducible first|exact HI0.out|apply qB.alloc|apply qB.drewN|apply qB.drew|apply qB.vZ|refine qB.far ?_ NB0_321.out _|refine qB.far ?_ NB0_322.out _)|exact HI0.out)) (byav HO_20.out) (by decide)) hk (fun _ h=>h.2)) (fun _ h=>h.1)) (Kd.zB (Kd.uO (qB.apart (show qB w0 _ g s0_0 t328 from by repeat (first|(with_reducible first|exact HI0.out|apply qB.alloc|apply qB.drewN|apply qB.drew|apply qB.vZ|refine qB.far ?_ NB0_321.out _|refine qB.far ?_ NB0_322.out _)|exact HI0.out)) (byav HO_323001.out) (by decide)) hk (fun _ h=>h.2)) (fun _ h=>h.1)) (qJ.blkB hk BK321.out NB321_0.out (by simp)) (qJ.blkB hk BK322.out NB322_0.out (by simp)) (Kd.zB (Kd.uO (qB.apart (show qB w0 _ g s0_0 t328 from by repeat (first|(with_reducible first|exact HI0.out|apply qB.alloc|apply qB.drewN|apply qB.drew|apply qB.vZ|refine qB.far ?_ NB0_321.out _|refine qB.far ?_ NB0_322.out _)|exact HI0.out)) (byav HO338.out) (by decide)) hk (fun _ h=>h.2)) (fun _ h=>h.1)) (qJ.trans (bybr GW321.out GW322.out) hk (.inl rfl)) (hb) (hi);clear HO_20 HO_323001 BK321 BK322 HO338 HK HB HI0;obtain ⟨HO_20,HO_323001,BK321,BK322,HO338,HK,HB,HI0⟩:=n_;clear hb hk hi))
       go_loopg [11] k1 (fun kq v11 w'=>∃ (x11_2 : Int) (x1001_2 : Int) (x323002_2 : List (S56)) (u323002 : Value),v11 = .int .i64 x11_2∧qA (qR.l1 kq a1 a2 x11_2 s0_0 x1001_2 0 x323001_1 x323002_2 = some (r1,r2,r3,r4))∧qA (kq ≤ k1)∧qA (Kd.R (Kd.int .i64) 3 w' w.heap.size (fun _=>True) u323001 x323001_1)∧qA (Kd.R k56 56 w' w.heap.size (fun k_=>some k_≠(u323001 : Value).ownBlock∧k_≠gb321∧k_≠gb322) u323002 x323002_2)∧qA (w'.heap[gb321]? = some (.cells #[.int .i64 0,(.slice none 0 0),(.slice none 0 0)] 56 (0,0)))∧qA (w'.heap[gb322]? = some (.cells #[.int .i64 0,u323001,u323002] 56 (0,0)))∧qA (qB w0 w' g s0_0 x1001_2)∧qA (qJ w w' g none)∧qA (Below w0.heap.size w0 w'))
       case atStart=>exact ⟨(t339),(t340),(([] : List (S56))),(.slice none 0 0),byae,H',⟨Nat.le_refl _⟩,⟨bybu HO_323001.out⟩,⟨byau⟩,⟨byaf BK321.out⟩,⟨byaf BK322.out⟩,⟨bybp HI0.out NB0_321.out NB0_322.out⟩,⟨bybr GW321.out GW322.out⟩,⟨bybq HI0.out GE321.out GE322.out⟩⟩
       case round =>
        clear H'
        try clear hx3
        try clear hx332_0
        obtain ⟨x11_2,x1001_2,x323002_2,u323002,rfl,HA,HK2,HO_323001,HO_323002,BK321,BK322,HI0,HK,HB⟩:=hrel
        cases gk with
        | zero=>exact absurd HA.out (by simp [qR.l1])
        | succ k2 =>
         have H:=HA.out
         clear HA
         simp only [qR.l1] at H
         by_cases c31 : x11_2 > 0
         ·rw [if_pos c31] at H
          have c31b0:=decide_eq_true c31
          clear c31
          replace H:=Option.bind_eq_some_iff.mp H
          obtain ⟨⟨t341,t342,t345,t348⟩,A320,H⟩:=H
          try dsimp only at H
          have A32:=qA.mk A320
          clear A320
          by_cases c33 : x323002_2.length < 2513169434916
          ·rw [if_pos c33] at H
           have LMc33:=qA.mk c33
           clear c33
           obtain ⟨y349,hy349⟩ : ∃ y_ : List (S56),y_ = (x323002_2 ++ [(⟨t341,t342,t345⟩ : S56)]):=⟨_,rfl⟩
           replace H : (qR.l1 k2 a1 a2 (wrap64 (x11_2 - 1)) s0_0 t348 0 x323001_1 y349) = some (r1,r2,r3,r4):=by first|(rw [hy349];with_reducible exact H)|(have H2_:=(Option.bind_some _ _).symm.trans H;rw [hy349];with_reducible exact H2_)|(have H2_:=(Option.bind_some _ _).symm.trans H;with_reducible exact H2_)|with_reducible exact H|(rw [hy349];exact H)|exact H
           have Ny349:=qA.mk hy349
           clear hy349
           have H':=qA.mk H
           clear H
           try go_wp2
           have n_:=q_7 (Kd.jZ HO_323001.out) (Kd.jZ HO_323002.out) (qG BK321.out) (qG BK322.out) (qB.drew HI0.out) (Zg HK.out) (vI HB.out)
           clear HO_323001 HO_323002 BK321 BK322 HI0 HK HB
           obtain ⟨HO_323001,HO_323002,BK321,BK322,HI0,HK,HB⟩:=n_
           refine Qm (n:=11) (S:=fun w'=>w'.cell? ⟨gb322,0,none⟩ = some (.int .i64 0)∧w'.cell? ⟨gb322,1,none⟩ = some (u323001)∧w'.cell? ⟨gb322,2,none⟩ = some (u323002)) (ds:=[10]) (bb 11 0) (by kernel_rfl) rfl rfl (cv3 BK322.out) (fun hHeld=>?_);refine Qb qR.tab12 qR.bits12 (fun HT_ HW_=>?_)
           generalize wr.drew = w34 at HO_323001 HO_323002 BK321 BK322 HI0 HK HB hHeld ⊢
           refine zH (i:=0) (N:=some 42) (bb 11 1) ?_
           refine zH (i:=2) (N:=some 44) (bb 11 5) ?_
           refine zH (i:=3) (N:=some 45) (bb 11 13) ?_
           refine zH (i:=4) (N:=some 46) (bb 11 29) ?_
           refine zH (i:=5) (N:=some 47) (bb 11 61) ?_
           refine takeZE (i:=1) (N:=some 43) (bb 11 63) hHeld ?_
           refine one_ (i:=6) (N:=some 48) (bb 11 127) rfl rfl (kC HT_.out (by kernel_rfl)) (by decide) (fun K hK=>?_)
           refine Qg Try.func47 (by kernel_rfl) rfl #[.pointer (some ⟨g,0,none⟩),.int .i64 a1,.int .i64 (wrap64 (a2 - 1))] (by rfl) rfl rfl byah ?_
           with_reducible refine (ih k2 byar g s0_0 x1001_2 a1 (wrap64 (a2 - 1)) t341 t342 t345 t348 w0 _ ?side1 ?side2 A32.out).mono ?_
           (case side1=>exact bybp HI0.out NB0_321.out NB0_322.out)
           (case side2=>exact bybq HI0.out GE321.out GE322.out)
           rintro e w35 ⟨v343,v346,rfl,ho0,ho1,hi,hb,hk⟩
           refine ⟨_,rfl,?_⟩
           have n_:=q_9 (Kd.zB (Kd.Zt (Kd.R_oldK (qB.apart (show qB w0 _ g s0_0 x1001_2 from by repeat (first|(with_reducible first|exact HI0.out|apply qB.alloc|apply qB.drewN|apply qB.drew|apply qB.vZ|refine qB.far ?_ NB0_321.out _|refine qB.far ?_ NB0_322.out _)|exact HI0.out)) (byav HO_323001.out) (by decide)) hk) (Kd.kL ho0)) (fun _ h_=>h_.1)) (Kd.zB (Kd.Zt (Kd.Zt (Kd.R_oldK (qB.apart (show qB w0 _ g s0_0 x1001_2 from by repeat (first|(with_reducible first|exact HI0.out|apply qB.alloc|apply qB.drewN|apply qB.drew|apply qB.vZ|refine qB.far ?_ NB0_321.out _|refine qB.far ?_ NB0_322.out _)|exact HI0.out)) (byav HO_323002.out) (by decide)) hk) (Kd.kL ho0)) (Kd.kL ho1)) (fun _ h_=>h_.1)) (qJ.blkB hk BK321.out NB321_0.out (by simp)) (qJ.blkB hk BK322.out NB322_0.out (by simp)) (Kd.uZ (Kd.R_new' ho0 (Kd.R_lt (byav HO_323001.out))) (vM (w:=w) (g:=g) (row:=none) (bybr GW321.out GW322.out))) (Kd.uZ (Kd.Zw (Kd.Zw (Kd.R_new' (Kd.R_new' ho1 (Kd.R_lt (byav HO_323001.out))) (Kd.R_lt (byav HO_323002.out))) (g:=gb321) (o:=.cells #[.int .i64 0,.slice none 0 0,.slice none 0 0] 56 (0,0)) (byaf BK321.out)) (g:=gb322) (o:=.cells #[.int .i64 0,u323001,u323002] 56 (0,0)) (byaf BK322.out)) (vM (w:=w) (g:=g) (row:=none) (bybr GW321.out GW322.out))) (qJ.trans (bybr GW321.out GW322.out) hk (.inl rfl)) (hb) (hi)
           clear HO_323001 HO_323002 BK321 BK322 HK HB HI0
           obtain ⟨HO_323001,HO_323002,BK321,BK322,HO344,HO347,HK,HB,HI0⟩:=n_
           (try clear hb)
           (try clear hb2)
           (try clear hk)
           (try clear hi)
           (try clear ho0)
           (try clear ho1)
           obtain ⟨Ao37,co37,eo37⟩:=Kd.vJ HO344.out
           (first|subst eo37|(injection eo37 with f1_ f2_ f3_;have f4_:=f1_.symm;have f5_:=f3_.symm;clear f1_ f2_ f3_;subst f4_;subst f5_))
           obtain ⟨Ao38,co38,eo38⟩:=Kd.vJ HO347.out
           (first|subst eo38|(injection eo38 with f1_ f2_ f3_;have f4_:=f1_.symm;have f5_:=f3_.symm;clear f1_ f2_ f3_;subst f4_;subst f5_))
           refine hK.out _ _ (cv3 BK322.out) (fun hHeld=>?_)
           clear hK K
           refine kN (N:=some 48) ?_
           refine one_ (i:=7) (N:=some 49) (bb 11 255) rfl rfl (kC HT_.out (by kernel_rfl)) (by decide) (fun K hK=>?_)
           refine value_ (w1:=?_) (v:=?_) (by rfl) rfl ?_ ?_
           rotate_left 2
           ·go_simp
            constructor
            ·rfl
            ·rfl
           refine hK.out _ _ ⟨(qN (qE BK322.out _) 0).trans rfl,(qN (qE BK322.out _) 1).trans rfl,(qN (qE BK322.out _) 2).trans rfl⟩ (fun hHeld=>?_)
           clear hK K
           refine kN (N:=some 49) ?_
           refine one_ (i:=8) (N:=some 50) (bb 11 511) rfl rfl (kC HT_.out (by kernel_rfl)) (by decide) (fun K hK=>?_)
           refine Kd.R_append_step k56 w.heap.size (by rfl) (.tmp 43) (.tmp 49) 54 56 (.agg #[(.int .i64 0),(.slice none 0 0),(.slice none 0 0)]) 56 rfl Try.underlying54 info56 rfl (by decide) (by omega) u323002 x323002_2 (⟨t341,t342,t345⟩ : S56) [.int .i64 t341,.slice Ao37 t342.length co37,.slice Ao38 t345.length co38] (fun k_=>some k_≠(u323001 : Value).ownBlock∧k_≠gb321∧k_≠gb322) (fun k_=>((fun k_=>some k_≠(u323001 : Value).ownBlock∧k_≠gb321∧k_≠gb322)) k_∧some k_≠(u323002 : Value).ownBlock) rfl rfl ?aP (fun _ hk=>hk) ?aF ?aO (Below.refl _ _) ?aS ?aL ?_
           (case aP=>exact k56_mkM _ _ _ (⟨t341,t342,t345⟩ : S56) (Kd.zB (Kd.uB (Kd.uB (Kd.Zx (HO344.out) (Kd.Zb HO_323002.out) (by decide)) BK321.out (by decide)) BK322.out (by decide)) (fun k_ hk=>⟨⟨hk.1.1.1.2,⟨hk.1.2,hk.2⟩⟩,hk.1.1.2⟩)) (Kd.zB (HO347.out) (fun k_ hk=>⟨⟨hk.1.1.1.2,⟨hk.1.2,hk.2⟩⟩,hk.1.1.2⟩)))
           (case aF=>exact (fun k_ hk=>⟨Kd.fresh' (Kd.R_lt (byav HO_323001.out)) k_ hk,Kd.Qd (g:=gb321) (o:=.cells #[.int .i64 0,.slice none 0 0,.slice none 0 0] 56 (0,0)) (byaf BK321.out) k_ hk,Kd.Qd (g:=gb322) (o:=.cells #[.int .i64 0,u323001,u323002] 56 (0,0)) (byaf BK322.out) k_ hk⟩))
           (case aO=>exact (by (with_reducible repeat (first|apply Kd.jP|apply Kd.jO|apply Kd.jZ));exact Kd.zB HO_323002.out (fun _ hk=>⟨hk.1.1.1,⟨hk.1.1.2.1,hk.1.1.2.2⟩⟩)))
           (case aS=>exact (vM (w:=w) (g:=g) (row:=none) (bybr GW321.out GW322.out)))
           (case aL=>have:=LMc33.out;omega)
           intro v350 w36 ho hb hg hat
           rw [← Ny349.out] at ho
           have n_:=q_7 (Kd.R_over' (byav HO_323001.out) (Kd.Zb (byav HO_323002.out)) (by decide) hg) (vP (g:=gb321) (o:=.cells #[.int .i64 0,.slice none 0 0,.slice none 0 0] 56 (0,0)) (byaf BK321.out) hg (Kd.R_away HO_323002.out (fun _ hk=>hk.1.1.2.1))) (vP (g:=gb322) (o:=.cells #[.int .i64 0,u323001,u323002] 56 (0,0)) (byaf BK322.out) hg (Kd.R_away HO_323002.out (fun _ hk=>hk.1.1.2.2))) (qB.grown (bybp HI0.out NB0_321.out NB0_322.out) hg (qB.own_ne HI0.out HO_323002.out (by decide))) (kT (bybq HI0.out GE321.out GE322.out) HL.out hb) (qJ.trans (bybr GW321.out GW322.out) (qJ.Qx hg g) (Kd.Zq HO_323002.out)) (ho)
           clear HO_323001 BK321 BK322 HI0 HB HK HO_323002 HO344 HO347
           obtain ⟨HO_323001,BK321,BK322,HI0,HB,HK,HO351⟩:=n_
           clear ho hb hg hat
           obtain ⟨Ao39,co39,eo39⟩:=Kd.vJ HO351.out
           (first|subst eo39|(injection eo39 with f1_ f2_ f3_;have f4_:=f1_.symm;have f5_:=f3_.symm;clear f1_ f2_ f3_;subst f4_;subst f5_))
           refine hK.out _ _ (cv3 BK322.out) (fun hHeld=>?_)
           clear hK K
           refine kN (N:=some 50) ?_
           refine zH (i:=9) (N:=some 51) (bb 11 1023) ?_
           refine last_ (i:=10) (N:=none) (bb 11 2047) rfl rfl (kC HT_.out (by kernel_rfl)) (by decide) (fun K hK=>?_)
           have hs40 : w36.cell? ⟨gb322,2,none⟩ = some (u323002):=(qN BK322.out 2).trans rfl
           have hfs40:=kJ BK322.out 2
           have hns40_0:=NB321_322.out
           have hms40_0:=NB322_321.out
           refine skip_ (w1:=?_) (by rfl) rfl ?_ ?_
           rotate_left
           ·go_simp
            rfl
           refine hK.out _ _ ?_
           clear hK K
           refine Ze (Qz HT_.out (by kernel_rfl)) ?_
           try go_wp2
           go_roundg k2
           case measure=>have:=HK1.out;have:=HK2.out;omega
           case rel=>exact ⟨(wrap64 (x11_2 - 1)),(t348),(y349),(.slice Ao39 y349.length co39),byae,H',⟨byar⟩,⟨by (with_reducible repeat (first|apply Kd.jP|apply Kd.jO|apply Kd.jZ));exact Kd.zB (Kd.jF (p:=⟨gb322,2,none⟩) (Kd.uB HO_323001.out BK322.out (by decide)) (fun _ hk=>hk.2) (.slice Ao39 y349.length co39)) (fun _ hk=>trivial)⟩,⟨by (with_reducible repeat (first|apply Kd.jP|apply Kd.jO|apply Kd.jZ));exact Kd.zB (Kd.jF (p:=⟨gb322,2,none⟩) (Kd.zB HO351.out (fun k_ hk=>(⟨hk,hk.2.2⟩ : _∧k_≠gb322))) (fun _ hk=>hk.2) (.slice Ao39 y349.length co39)) (fun _ hk=>⟨hk.1.1,⟨hk.1.2.1,hk.1.2.2⟩⟩)⟩,⟨bybe NB321_322.out BK321.out⟩,⟨by (with_reducible repeat (first|refine qF ?_ _|refine qG ?_|refine qE ?_ _));refine qO (cs:=#[.int .i64 0,u323001,u323002]) ?_ 2 _ rfl;(with_reducible repeat (first|refine qF ?_ _|refine qG ?_|refine qE ?_ _));exact BK322.out⟩,⟨bybp HI0.out NB0_321.out NB0_322.out⟩,⟨bybr GW321.out GW322.out⟩,⟨bybq HI0.out GE321.out GE322.out⟩⟩
          ·rw [if_neg c33] at H
           exact absurd H (by simp)
         ·rw [if_neg c31] at H
          have c31b0:=decide_eq_false c31
          clear c31
          by_cases c41 : (x323002_2.length : Int) > 0
          ·rw [if_pos c41] at H
           have c41b0:=decide_eq_true c41
           have c41b1 : decide (0 < x323002_2.length) = true:=decide_eq_true (by omega)
           clear c41
           replace H:=Option.bind_eq_some_iff.mp H
           obtain ⟨⟨t352,t353⟩,A420,H⟩:=H
           try dsimp only at H
           have A42:=qA.mk A420
           clear A420
           by_cases c43 : t352 = 0
           ·rw [if_pos c43] at H
            obtain ⟨c43b0,c43b1⟩:=eqT c43
            clear c43
            replace H:=Option.bind_eq_some_iff.mp H
            obtain ⟨⟨t354,t355⟩,A440,H⟩:=H
            try dsimp only at H
            have A44:=qA.mk A440
            clear A440
            simp only [Option.some.injEq,Prod.mk.injEq] at H
            obtain ⟨rfl,rfl,rfl,rfl⟩:=H
            have hnb45:=NB322_321.out
            have hnc45:=NB321_322.out
            have hnb46:=NB322_0.out
            have hnc46:=NB0_322.out
            obtain ⟨hcz47_0,hcz47_1,hcz47_2,hfz47_0,hfz47_1,hfz47_2⟩:=cz3 BK322.out
            obtain ⟨Ao48,co48,eo48⟩:=Kd.vJ HO_323002.out
            subst eo48
            go_wp2_with (first|(go_at_call 29;(with_reducible refine (qZ.calls g s0_0 x1001_2 3 t352 t353 w0 _ ?side1 ?side2 A42.out).mono ?_);(case side1=>exact bybp HI0.out NB0_321.out NB0_322.out);(case side2=>exact bybq HI0.out GE321.out GE322.out);rintro e w49 ⟨rfl,hi,hb,hk⟩;have n_:=q_7 (Kd.zB (Kd.uO (qB.apart (show qB w0 _ g s0_0 x1001_2 from by repeat (first|(with_reducible first|exact HI0.out|apply qB.alloc|apply qB.drewN|apply qB.drew|apply qB.vZ|refine qB.far ?_ NB0_321.out _|refine qB.far ?_ NB0_322.out _)|exact HI0.out)) (byav HO_323001.out) (by decide)) hk (fun _ h=>h.2)) (fun _ h=>h.1)) (Kd.zB (Kd.uO (qB.apart (show qB w0 _ g s0_0 x1001_2 from by repeat (first|(with_reducible first|exact HI0.out|apply qB.alloc|apply qB.drewN|apply qB.drew|apply qB.vZ|refine qB.far ?_ NB0_321.out _|refine qB.far ?_ NB0_322.out _)|exact HI0.out)) (byav HO_323002.out) (by decide)) hk (fun _ h=>h.2)) (fun _ h=>h.1)) (qJ.blkB hk BK321.out NB321_0.out (by simp)) (qJ.blkB hk BK322.out NB322_0.out (by simp)) (qJ.trans (bybr GW321.out GW322.out) hk (.inl rfl)) (hb) (hi);clear HO_323001 HO_323002 BK321 BK322 HK HB HI0;obtain ⟨HO_323001,HO_323002,BK321,BK322,HK,HB,HI0⟩:=n_;clear hb hk hi;obtain ⟨hcz50_0,hcz50_1,hcz50_2,hfz50_0,hfz50_1,hfz50_2⟩:=cz3 BK322.out)|((with_reducible refine qI (f:=28) rfl ?_);refine qY (some 70) rfl rfl Try.func28 (by kernel_rfl) rfl #[.pointer (some ⟨g,0,none⟩),.int .i64 1,.int .i64 (wrap64 ((([] : List Int).length : Int) + (x323002_2.length : Int)))] rfl byah ?_;(with_reducible refine (zS.calls g s0_0 t353 1 (wrap64 ((([] : List Int).length : Int) + (x323002_2.length : Int))) t354 t355 w0 _ ?side1 ?side2 A44.out).mono ?_);(case side1=>exact bybp HI0.out NB0_321.out NB0_322.out);(case side2=>exact bybq HI0.out GE321.out GE322.out);rintro e w51 ⟨rfl,hi,hb,hk⟩;refine ⟨_,rfl,?_⟩;have n_:=q_7 (Kd.zB (Kd.uO (qB.apart (show qB w0 _ g s0_0 t353 from by repeat (first|(with_reducible first|exact HI0.out|apply qB.alloc|apply qB.drewN|apply qB.drew|apply qB.vZ|refine qB.far ?_ NB0_321.out _|refine qB.far ?_ NB0_322.out _)|exact HI0.out)) (by (with_reducible repeat (first|apply Kd.jP|apply Kd.jO|apply Kd.jZ));exact (Kd.zB (Kd.jF (p:=⟨gb322,1,none⟩) (Kd.uB HO_323001.out BK322.out (by decide)) (fun _ hk=>hk.2) (.slice none 0 0)) (fun _ h_=>h_.1))) (by decide)) hk (fun _ h=>h.2)) (fun _ h=>h.1)) (Kd.zB (Kd.uO (qB.apart (show qB w0 _ g s0_0 t353 from by repeat (first|(with_reducible first|exact HI0.out|apply qB.alloc|apply qB.drewN|apply qB.drew|apply qB.vZ|refine qB.far ?_ NB0_321.out _|refine qB.far ?_ NB0_322.out _)|exact HI0.out)) (by (with_reducible repeat (first|apply Kd.jP|apply Kd.jO|apply Kd.jZ));exact (Kd.zB (Kd.jF (p:=⟨gb322,1,none⟩) (Kd.zB HO_323002.out (fun k_ hk=>(⟨hk,hk.2.2⟩ : _∧k_≠gb322))) (fun _ hk=>hk.2) (.slice none 0 0)) (fun _ h_=>h_.1))) (by decide)) hk (fun _ h=>h.2)) (fun _ h=>h.1)) (qJ.blk hk (g':=gb321) (o:=.cells #[.int .i64 0,.slice none 0 0,.slice none 0 0] 56 (0,0)) (bybe NB321_322.out BK321.out) NB321_0.out (by simp)) (qJ.blk hk (g':=gb322) (o:=.cells #[.int .i64 0,.slice none 0 0,.slice Ao48 x323002_2.length co48] 56 (0,0)) (by (with_reducible repeat (first|refine qF ?_ _|refine qG ?_|refine qE ?_ _));refine qO (cs:=#[.int .i64 0,u323001,.slice Ao48 x323002_2.length co48]) ?_ 1 _ rfl;(with_reducible repeat (first|refine qF ?_ _|refine qG ?_|refine qE ?_ _));exact BK322.out) NB322_0.out (by simp)) (qJ.trans (bybr GW321.out GW322.out) hk (.inl rfl)) (hb) (hi);clear HO_323001 HO_323002 BK321 BK322 HK HB HI0;obtain ⟨HO_323001,HO_323002,BK321,BK322,HK,HB,HI0⟩:=n_;clear hb hk hi;obtain ⟨hcz52_0,hcz52_1,hcz52_2,hfz52_0,hfz52_1,hfz52_2⟩:=cz3 BK322.out;have hnb53:=NB321_0.out;have hnc53:=NB0_321.out;obtain ⟨hcz54_0,hcz54_1,hcz54_2,hfz54_0,hfz54_1,hfz54_2⟩:=cz3 BK321.out))
            refine bodyPost_ret (results_cell_row rfl _ _ gb321 56 #[.int .i64 t354,.slice none 0 0,.slice Ao48 x323002_2.length co48] (0,0) _ rfl (by (with_reducible repeat (first|refine qF ?_ _|refine qG ?_|refine qE ?_ _));refine qO (cs:=#[.int .i64 t354,.slice none 0 0,.slice none 0 0]) ?_ 2 _ rfl;(with_reducible repeat (first|refine qF ?_ _|refine qG ?_|refine qE ?_ _));refine qO (cs:=#[.int .i64 t354,.slice none 0 0,.slice none 0 0]) ?_ 1 _ rfl;(with_reducible repeat (first|refine qF ?_ _|refine qG ?_|refine qE ?_ _));refine qO (cs:=#[.int .i64 0,.slice none 0 0,.slice none 0 0]) ?_ 0 _ rfl;(with_reducible repeat (first|refine qF ?_ _|refine qG ?_|refine qE ?_ _));refine Zd ?_ NB321_322.out _;(with_reducible repeat (first|refine qF ?_ _|refine qG ?_|refine qE ?_ _));exact BK321.out) Try.underlying56 rfl (by kernel_rfl)) rfl ?_
            exact ⟨_,_,bybv,byau,by (with_reducible repeat (first|apply Kd.jP|apply Kd.jO|apply Kd.jZ));exact Kd.zB (Kd.jF (p:=⟨gb321,2,none⟩) (Kd.jF (p:=⟨gb321,1,none⟩) (Kd.jF (p:=⟨gb321,0,none⟩) (Kd.jF (p:=⟨gb322,0,none⟩) (Kd.zB (Kd.zB HO_323002.out (fun k_ hk=>(⟨hk,hk.2.2⟩ : _∧k_≠gb322))) (fun k_ hk=>(⟨hk,hk.1.2.1⟩ : _∧k_≠gb321))) (fun _ hk=>hk.1.2) (.int .i64 t354)) (fun _ hk=>hk.2) (.int .i64 t354)) (fun _ hk=>hk.2) (.slice none 0 0)) (fun _ hk=>hk.2) (.slice Ao48 x323002_2.length co48)) (fun _ hk=>(bybs)),bybp HI0.out NB0_321.out NB0_322.out,bybq HI0.out GE321.out GE322.out,bybr GW321.out GW322.out⟩
           ·rw [if_neg c43] at H
            obtain ⟨c43b0,c43b1⟩:=eqF c43
            replace H:=Option.bind_eq_some_iff.mp H
            obtain ⟨⟨t356,t357⟩,A550,H⟩:=H
            try dsimp only at H
            have A55:=qA.mk A550
            clear A550
            simp only [Option.some.injEq,Prod.mk.injEq] at H
            obtain ⟨rfl,rfl,rfl,rfl⟩:=H
            have hnb56:=NB322_321.out
            have hnc56:=NB321_322.out
            have hnb57:=NB322_0.out
            have hnc57:=NB0_322.out
            obtain ⟨hcz58_0,hcz58_1,hcz58_2,hfz58_0,hfz58_1,hfz58_2⟩:=cz3 BK322.out
            obtain ⟨Ao59,co59,eo59⟩:=Kd.vJ HO_323002.out
            subst eo59
            go_wp2_with (first|(go_at_call 29;(with_reducible refine (qZ.calls g s0_0 x1001_2 3 t352 t353 w0 _ ?side1 ?side2 A42.out).mono ?_);(case side1=>exact bybp HI0.out NB0_321.out NB0_322.out);(case side2=>exact bybq HI0.out GE321.out GE322.out);rintro e w60 ⟨rfl,hi,hb,hk⟩;have n_:=q_7 (Kd.zB (Kd.uO (qB.apart (show qB w0 _ g s0_0 x1001_2 from by repeat (first|(with_reducible first|exact HI0.out|apply qB.alloc|apply qB.drewN|apply qB.drew|apply qB.vZ|refine qB.far ?_ NB0_321.out _|refine qB.far ?_ NB0_322.out _)|exact HI0.out)) (byav HO_323001.out) (by decide)) hk (fun _ h=>h.2)) (fun _ h=>h.1)) (Kd.zB (Kd.uO (qB.apart (show qB w0 _ g s0_0 x1001_2 from by repeat (first|(with_reducible first|exact HI0.out|apply qB.alloc|apply qB.drewN|apply qB.drew|apply qB.vZ|refine qB.far ?_ NB0_321.out _|refine qB.far ?_ NB0_322.out _)|exact HI0.out)) (byav HO_323002.out) (by decide)) hk (fun _ h=>h.2)) (fun _ h=>h.1)) (qJ.blkB hk BK321.out NB321_0.out (by simp)) (qJ.blkB hk BK322.out NB322_0.out (by simp)) (qJ.trans (bybr GW321.out GW322.out) hk (.inl rfl)) (hb) (hi);clear HO_323001 HO_323002 BK321 BK322 HK HB HI0;obtain ⟨HO_323001,HO_323002,BK321,BK322,HK,HB,HI0⟩:=n_;clear hb hk hi;obtain ⟨hcz61_0,hcz61_1,hcz61_2,hfz61_0,hfz61_1,hfz61_2⟩:=cz3 BK322.out;obtain ⟨Ao62,co62,eo62⟩:=Kd.vJ HO_323001.out;subst eo62)|((with_reducible refine qI (f:=28) rfl ?_);refine qY (some 70) rfl rfl Try.func28 (by kernel_rfl) rfl #[.pointer (some ⟨g,0,none⟩),.int .i64 1,.int .i64 (wrap64 ((x323001_1.length : Int) + (x323002_2.length : Int)))] rfl byah ?_;(with_reducible refine (zS.calls g s0_0 t353 1 (wrap64 ((x323001_1.length : Int) + (x323002_2.length : Int))) t356 t357 w0 _ ?side1 ?side2 A55.out).mono ?_);(case side1=>exact bybp HI0.out NB0_321.out NB0_322.out);(case side2=>exact bybq HI0.out GE321.out GE322.out);rintro e w63 ⟨rfl,hi,hb,hk⟩;refine ⟨_,rfl,?_⟩;have n_:=q_7 (Kd.zB (Kd.uO (qB.apart (show qB w0 _ g s0_0 t353 from by repeat (first|(with_reducible first|exact HI0.out|apply qB.alloc|apply qB.drewN|apply qB.drew|apply qB.vZ|refine qB.far ?_ NB0_321.out _|refine qB.far ?_ NB0_322.out _)|exact HI0.out)) (byav HO_323001.out) (by decide)) hk (fun _ h=>h.2)) (fun _ h=>h.1)) (Kd.zB (Kd.uO (qB.apart (show qB w0 _ g s0_0 t353 from by repeat (first|(with_reducible first|exact HI0.out|apply qB.alloc|apply qB.drewN|apply qB.drew|apply qB.vZ|refine qB.far ?_ NB0_321.out _|refine qB.far ?_ NB0_322.out _)|exact HI0.out)) (byav HO_323002.out) (by decide)) hk (fun _ h=>h.2)) (fun _ h=>h.1)) (qJ.blkB hk BK321.out NB321_0.out (by simp)) (qJ.blkB hk BK322.out NB322_0.out (by simp)) (qJ.trans (bybr GW321.out GW322.out) hk (.inl rfl)) (hb) (hi);clear HO_323001 HO_323002 BK321 BK322 HK HB HI0;obtain ⟨HO_323001,HO_323002,BK321,BK322,HK,HB,HI0⟩:=n_;clear hb hk hi;obtain ⟨hcz64_0,hcz64_1,hcz64_2,hfz64_0,hfz64_1,hfz64_2⟩:=cz3 BK322.out;have hnb65:=NB321_0.out;have hnc65:=NB0_321.out;obtain ⟨hcz66_0,hcz66_1,hcz66_2,hfz66_0,hfz66_1,hfz66_2⟩:=cz3 BK321.out))
            refine bodyPost_ret (results_cell_row rfl _ _ gb321 56 #[.int .i64 t356,.slice Ao62 x323001_1.length co62,.slice Ao59 x323002_2.length co59] (0,0) _ rfl (by (with_reducible repeat (first|refine qF ?_ _|refine qG ?_|refine qE ?_ _));refine qO (cs:=#[.int .i64 t356,.slice Ao62 x323001_1.length co62,.slice none 0 0]) ?_ 2 _ rfl;(with_reducible repeat (first|refine qF ?_ _|refine qG ?_|refine qE ?_ _));refine qO (cs:=#[.int .i64 t356,.slice none 0 0,.slice none 0 0]) ?_ 1 _ rfl;(with_reducible repeat (first|refine qF ?_ _|refine qG ?_|refine qE ?_ _));refine qO (cs:=#[.int .i64 0,.slice none 0 0,.slice none 0 0]) ?_ 0 _ rfl;(with_reducible repeat (first|refine qF ?_ _|refine qG ?_|refine qE ?_ _));refine Zd ?_ NB321_322.out _;(with_reducible repeat (first|refine qF ?_ _|refine qG ?_|refine qE ?_ _));exact BK321.out) Try.underlying56 rfl (by kernel_rfl)) rfl ?_
            exact ⟨_,_,bybv,by (with_reducible repeat (first|apply Kd.jP|apply Kd.jO|apply Kd.jZ));exact Kd.zB (Kd.jF (p:=⟨gb321,2,none⟩) (Kd.jF (p:=⟨gb321,1,none⟩) (Kd.jF (p:=⟨gb321,0,none⟩) (Kd.jF (p:=⟨gb322,0,none⟩) (Kd.uB (Kd.uB HO_323001.out BK322.out (by decide)) BK321.out (by decide)) (fun _ hk=>hk.1.2) (.int .i64 t356)) (fun _ hk=>hk.2) (.int .i64 t356)) (fun _ hk=>hk.2) (.slice Ao62 x323001_1.length co62)) (fun _ hk=>hk.2) (.slice Ao59 x323002_2.length co59)) (fun _ hk=>trivial),by (with_reducible repeat (first|apply Kd.jP|apply Kd.jO|apply Kd.jZ));exact Kd.zB (Kd.jF (p:=⟨gb321,2,none⟩) (Kd.jF (p:=⟨gb321,1,none⟩) (Kd.jF (p:=⟨gb321,0,none⟩) (Kd.jF (p:=⟨gb322,0,none⟩) (Kd.zB (Kd.zB HO_323002.out (fun k_ hk=>(⟨hk,hk.2.2⟩ : _∧k_≠gb322))) (fun k_ hk=>(⟨hk,hk.1.2.1⟩ : _∧k_≠gb321))) (fun _ hk=>hk.1.2) (.int .i64 t356)) (fun _ hk=>hk.2) (.int .i64 t356)) (fun _ hk=>hk.2) (.slice Ao62 x323001_1.length co62)) (fun _ hk=>hk.2) (.slice Ao59 x323002_2.length co59)) (fun _ hk=>hk.1.1.1),bybp HI0.out NB0_321.out NB0_322.out,bybq HI0.out GE321.out GE322.out,bybr GW321.out GW322.out⟩
          ·rw [if_neg c41] at H
           have c41b0:=decide_eq_false c41
           have c41b1 : decide (0 < x323002_2.length) = false:=decide_eq_false (by omega)
           clear c41
           replace H:=Option.bind_eq_some_iff.mp H
           obtain ⟨⟨t358,t359⟩,A670,H⟩:=H
           try dsimp only at H
           have A67:=qA.mk A670
           clear A670
           simp only [Option.some.injEq,Prod.mk.injEq] at H
           obtain ⟨rfl,rfl,rfl,rfl⟩:=H
           have hnb68:=NB322_321.out
           have hnc68:=NB321_322.out
           have hnb69:=NB322_0.out
           have hnc69:=NB0_322.out
           obtain ⟨hcz70_0,hcz70_1,hcz70_2,hfz70_0,hfz70_1,hfz70_2⟩:=cz3 BK322.out
           obtain ⟨Ao71,co71,eo71⟩:=Kd.vJ HO_323002.out
           subst eo71
           obtain ⟨Ao72,co72,eo72⟩:=Kd.vJ HO_323001.out
           subst eo72
           go_wp2_with (first|((with_reducible refine qI (f:=28) rfl ?_);refine qY (some 70) rfl rfl Try.func28 (by kernel_rfl) rfl #[.pointer (some ⟨g,0,none⟩),.int .i64 1,.int .i64 (wrap64 ((x323001_1.length : Int) + (x323002_2.length : Int)))] rfl byah ?_;(with_reducible refine (zS.calls g s0_0 x1001_2 1 (wrap64 ((x323001_1.length : Int) + (x323002_2.length : Int))) t358 t359 w0 _ ?side1 ?side2 A67.out).mono ?_);(case side1=>exact bybp HI0.out NB0_321.out NB0_322.out);(case side2=>exact bybq HI0.out GE321.out GE322.out);rintro e w73 ⟨rfl,hi,hb,hk⟩;refine ⟨_,rfl,?_⟩;have n_:=q_7 (Kd.zB (Kd.uO (qB.apart (show qB w0 _ g s0_0 x1001_2 from by repeat (first|(with_reducible first|exact HI0.out|apply qB.alloc|apply qB.drewN|apply qB.drew|apply qB.vZ|refine qB.far ?_ NB0_321.out _|refine qB.far ?_ NB0_322.out _)|exact HI0.out)) (byav HO_323001.out) (by decide)) hk (fun _ h=>h.2)) (fun _ h=>h.1)) (Kd.zB (Kd.uO (qB.apart (show qB w0 _ g s0_0 x1001_2 from by repeat (first|(with_reducible first|exact HI0.out|apply qB.alloc|apply qB.drewN|apply qB.drew|apply qB.vZ|refine qB.far ?_ NB0_321.out _|refine qB.far ?_ NB0_322.out _)|exact HI0.out)) (byav HO_323002.out) (by decide)) hk (fun _ h=>h.2)) (fun _ h=>h.1)) (qJ.blkB hk BK321.out NB321_0.out (by simp)) (qJ.blkB hk BK322.out NB322_0.out (by simp)) (qJ.trans (bybr GW321.out GW322.out) hk (.inl rfl)) (hb) (hi);clear HO_323001 HO_323002 BK321 BK322 HK HB HI0;obtain ⟨HO_323001,HO_323002,BK321,BK322,HK,HB,HI0⟩:=n_;clear hb hk hi;obtain ⟨hcz74_0,hcz74_1,hcz74_2,hfz74_0,hfz74_1,hfz74_2⟩:=cz3 BK322.out;have hnb75:=NB321_0.out;have hnc75:=NB0_321.out;obtain ⟨hcz76_0,hcz76_1,hcz76_2,hfz76_0,hfz76_1,hfz76_2⟩:=cz3 BK321.out))
           refine bodyPost_ret (results_cell_row rfl _ _ gb321 56 #[.int .i64 t358,.slice Ao72 x323001_1.length co72,.slice Ao71 x323002_2.length co71] (0,0) _ rfl (by (with_reducible repeat (first|refine qF ?_ _|refine qG ?_|refine qE ?_ _));refine qO (cs:=#[.int .i64 t358,.slice Ao72 x323001_1.length co72,.slice none 0 0]) ?_ 2 _ rfl;(with_reducible repeat (first|refine qF ?_ _|refine qG ?_|refine qE ?_ _));refine qO (cs:=#[.int .i64 t358,.slice none 0 0,.slice none 0 0]) ?_ 1 _ rfl;(with_reducible repeat (first|refine qF ?_ _|refine qG ?_|refine qE ?_ _));refine qO (cs:=#[.int .i64 0,.slice none 0 0,.slice none 0 0]) ?_ 0 _ rfl;(with_reducible repeat (first|refine qF ?_ _|refine qG ?_|refine qE ?_ _));refine Zd ?_ NB321_322.out _;(with_reducible repeat (first|refine qF ?_ _|refine qG ?_|refine qE ?_ _));exact BK321.out) Try.underlying56 rfl (by kernel_rfl)) rfl ?_
           exact ⟨_,_,bybv,by (with_reducible repeat (first|apply Kd.jP|apply Kd.jO|apply Kd.jZ));exact Kd.zB (Kd.jF (p:=⟨gb321,2,none⟩) (Kd.jF (p:=⟨gb321,1,none⟩) (Kd.jF (p:=⟨gb321,0,none⟩) (Kd.jF (p:=⟨gb322,0,none⟩) (Kd.uB (Kd.uB HO_323001.out BK322.out (by decide)) BK321.out (by decide)) (fun _ hk=>hk.1.2) (.int .i64 t358)) (fun _ hk=>hk.2) (.int .i64 t358)) (fun _ hk=>hk.2) (.slice Ao72 x323001_1.length co72)) (fun _ hk=>hk.2) (.slice Ao71 x323002_2.length co71)) (fun _ hk=>trivial),by (with_reducible repeat (first|apply Kd.jP|apply Kd.jO|apply Kd.jZ));exact Kd.zB (Kd.jF (p:=⟨gb321,2,none⟩) (Kd.jF (p:=⟨gb321,1,none⟩) (Kd.jF (p:=⟨gb321,0,none⟩) (Kd.jF (p:=⟨gb322,0,none⟩) (Kd.zB (Kd.zB HO_323002.out (fun k_ hk=>(⟨hk,hk.2.2⟩ : _∧k_≠gb322))) (fun k_ hk=>(⟨hk,hk.1.2.1⟩ : _∧k_≠gb321))) (fun _ hk=>hk.1.2) (.int .i64 t358)) (fun _ hk=>hk.2) (.int .i64 t358)) (fun _ hk=>hk.2) (.slice Ao72 x323001_1.length co72)) (fun _ hk=>hk.2) (.slice Ao71 x323002_2.length co71)) (fun _ hk=>hk.1.1.1),bybp HI0.out NB0_321.out NB0_322.out,bybq HI0.out GE321.out GE322.out,bybr GW321.out GW322.out⟩
      ·rw [if_neg c25] at H
       have c25b0:=decide_eq_false c25
       clear c25
       replace H:=Option.bind_eq_some_iff.mp H
       obtain ⟨⟨t360,t361⟩,A770,H⟩:=H
       try dsimp only at H
       have A77:=qA.mk A770
       clear A770
       simp only [Option.some.injEq,Prod.mk.injEq] at H
       obtain ⟨rfl,rfl,rfl,rfl⟩:=H
       have hnb78:=NB322_321.out
       have hnc78:=NB321_322.out
       have hnb79:=NB322_0.out
       have hnc79:=NB0_322.out
       obtain ⟨hcz80_0,hcz80_1,hcz80_2,hfz80_0,hfz80_1,hfz80_2⟩:=cz3 BK322.out
       obtain ⟨Ao81,co81,eo81⟩:=Kd.vJ HO_323001.out
       subst eo81
       go_wp2_with (first|((with_reducible refine qI (f:=28) rfl ?_);refine qY (some 70) rfl rfl Try.func28 (by kernel_rfl) rfl #[.pointer (some ⟨g,0,none⟩),.int .i64 1,.int .i64 (wrap64 ((x323001_1.length : Int) + (([] : List (S56)).length : Int)))] rfl byah ?_;(with_reducible refine (zS.calls g s0_0 t328 1 (wrap64 ((x323001_1.length : Int) + (([] : List (S56)).length : Int))) t360 t361 w0 _ ?side1 ?side2 A77.out).mono ?_);(case side1=>exact bybp HI0.out NB0_321.out NB0_322.out);(case side2=>exact bybq HI0.out GE321.out GE322.out);rintro e w82 ⟨rfl,hi,hb,hk⟩;refine ⟨_,rfl,?_⟩;have n_:=q_7 (Kd.zB (Kd.uO (qB.apart (show qB w0 _ g s0_0 t328 from by repeat (first|(with_reducible first|exact HI0.out|apply qB.alloc|apply qB.drewN|apply qB.drew|apply qB.vZ|refine qB.far ?_ NB0_321.out _|refine qB.far ?_ NB0_322.out _)|exact HI0.out)) (byav HO_20.out) (by decide)) hk (fun _ h=>h.2)) (fun _ h=>h.1)) (Kd.zB (Kd.uO (qB.apart (show qB w0 _ g s0_0 t328 from by repeat (first|(with_reducible first|exact HI0.out|apply qB.alloc|apply qB.drewN|apply qB.drew|apply qB.vZ|refine qB.far ?_ NB0_321.out _|refine qB.far ?_ NB0_322.out _)|exact HI0.out)) (byav HO_323001.out) (by decide)) hk (fun _ h=>h.2)) (fun _ h=>h.1)) (qJ.blkB hk BK321.out NB321_0.out (by simp)) (qJ.blkB hk BK322.out NB322_0.out (by simp)) (qJ.trans (bybr GW321.out GW322.out) hk (.inl rfl)) (hb) (hi);clear HO_20 HO_323001 BK321 BK322 HK HB HI0;obtain ⟨HO_20,HO_323001,BK321,BK322,HK,HB,HI0⟩:=n_;clear hb hk hi;obtain ⟨hcz83_0,hcz83_1,hcz83_2,hfz83_0,hfz83_1,hfz83_2⟩:=cz3 BK322.out;have hnb84:=NB321_0.out;have hnc84:=NB0_321.out;obtain ⟨hcz85_0,hcz85_1,hcz85_2,hfz85_0,hfz85_1,hfz85_2⟩:=cz3 BK321.out))
       refine bodyPost_ret (results_cell_row rfl _ _ gb321 56 #[.int .i64 t360,.slice Ao81 x323001_1.length co81,.slice none 0 0] (0,0) _ rfl (by (with_reducible repeat (first|refine qF ?_ _|refine qG ?_|refine qE ?_ _));refine qO (cs:=#[.int .i64 t360,.slice Ao81 x323001_1.length co81,.slice none 0 0]) ?_ 2 _ rfl;(with_reducible repeat (first|refine qF ?_ _|refine qG ?_|refine qE ?_ _));refine qO (cs:=#[.int .i64 t360,.slice none 0 0,.slice none 0 0]) ?_ 1 _ rfl;(with_reducible repeat (first|refine qF ?_ _|refine qG ?_|refine qE ?_ _));refine qO (cs:=#[.int .i64 0,.slice none 0 0,.slice none 0 0]) ?_ 0 _ rfl;(with_reducible repeat (first|refine qF ?_ _|refine qG ?_|refine qE ?_ _));refine Zd ?_ NB321_322.out _;(with_reducible repeat (first|refine qF ?_ _|refine qG ?_|refine qE ?_ _));exact BK321.out) Try.underlying56 rfl (by kernel_rfl)) rfl ?_
       exact ⟨_,_,bybv,by (with_reducible repeat (first|apply Kd.jP|apply Kd.jO|apply Kd.jZ));exact Kd.zB (Kd.jF (p:=⟨gb321,2,none⟩) (Kd.jF (p:=⟨gb321,1,none⟩) (Kd.jF (p:=⟨gb321,0,none⟩) (Kd.jF (p:=⟨gb322,0,none⟩) (Kd.uB (Kd.uB HO_323001.out BK322.out (by decide)) BK321.out (by decide)) (fun _ hk=>hk.1.2) (.int .i64 t360)) (fun _ hk=>hk.2) (.int .i64 t360)) (fun _ hk=>hk.2) (.slice Ao81 x323001_1.length co81)) (fun _ hk=>hk.2) (.slice none 0 0)) (fun _ hk=>trivial),byau,bybp HI0.out NB0_321.out NB0_322.out,bybq HI0.out GE321.out GE322.out,bybr GW321.out GW322.out⟩
  ·rw [if_neg c8] at H
   exact absurd H (by simp)
 ·rw [if_neg c7] at H
  exact absurd H (by simp)
mutual
def jK.l0 : Nat→Int→List (S56)→Int→Int→Option (Int)
 | 0,_,_,_,_=>none
 | k + 1,x3,x7,x8,x9=>if x9 < x8 then (if 0 ≤ x9 then (if x9 < (x7.length : Int) then ((jK.f k ((qM x7 x9).f0) ((qM x7 x9).f1) ((qM x7 x9).f2)).bind fun t365=>(jK.l0 k (mx x3 t365) x7 x8 (wrap64 (x9 + 1)))) else (none)) else (none)) else (some (wrap64 (x3 + 1)))
def jK.f : Nat→Int→List Int→List (S56)→Option (Int)
 | 0,_,_,_=>none
 | k + 1,a0_0,l0_1,l0_2=>jK.l0 k 0 l0_2 (l0_2.length : Int) 0
end
set_option maxHeartbeats 8000000 in
set_option maxRecDepth 100000 in
theorem jK.calls (k : Nat) : ∀ (a0_0 : Int) (A0_1 : Option Addr) (c0_1 : Nat) (l0_1 : List Int) (A0_2 : Option Addr) (c0_2 : Nat) (l0_2 : List (S56)) (r : Int) (w : World) (hr0_1 : Kd.C (Kd.int .i64) w A0_1 l0_1.length l0_1) (hc0_1 : l0_1.length ≤ c0_1) (hr0_2 : Kd.C k56 w A0_2 l0_2.length l0_2) (hc0_2 : l0_2.length ≤ c0_2) (h : jK.f k a0_0 l0_1 l0_2 = some r),
  Calls Try.prog 65 #[.agg #[.int .i64 a0_0,.slice A0_1 l0_1.length c0_1,.slice A0_2 l0_2.length c0_2]] w fun e w'=>e = .returned (.int .i64 r)∧Below w.heap.size w w':=by
 induction k using Nat.strongRecOn with
 | _ k ih =>
 intro a0_0 A0_1 c0_1 l0_1 A0_2 c0_2 l0_2 r w hr0_1 hc0_1 hr0_2 hc0_2 h
 cases k with
 | zero=>exact absurd h (by simp [jK.f])
 | succ k =>
 simp only [jK.f] at h
 have hu56:=Try.underlying56
 have HR0_1:=qA.mk hr0_1
 have HC0_1:=qA.mk hc0_1
 clear hr0_1 hc0_1
 have HR0_2:=qA.mk hr0_2
 have HC0_2:=qA.mk hc0_2
 clear hr0_2 hc0_2
 have HB:=qA.mk (Below.refl w.heap.size w)
 have H:=h
 clear h
 have H':=qA.mk H
 clear H
 go_enter Try.func65,Try.ntmps65
 go_wp2_with (first|((with_reducible refine qP (N:=1) rfl ?_);refine zV (N:=1) (cs:=#[.int .i64 a0_0,.slice A0_1 l0_1.length c0_1,.slice A0_2 l0_2.length c0_2]) (t:=56) ?_;intro gb362 hg w2 hbox hb;have n_:=q_4 (qC byab hb) (hbox) ((byck : w.heap.size ≤ gb362)) ((byck : w.heap.size ≤ gb362));clear HB;obtain ⟨HB,BK362,GW362,GE362⟩:=n_;clear hb hbox hg;obtain ⟨hcz3_0,hcz3_1,hcz3_2,hfz3_0,hfz3_1,hfz3_2⟩:=cz3 BK362.out))
 go_loopg [3,9] k (fun kq v3 v9 w'=>∃ (x3_1 : Int) (x9_1 : Int),v3 = .int .i64 x3_1∧v9 = .int .i64 x9_1∧qA (jK.l0 kq x3_1 l0_2 (l0_2.length : Int) x9_1 = some r)∧qA (kq ≤ k)∧qA (w'.heap[gb362]? = some (.cells #[.int .i64 a0_0,(.slice A0_1 l0_1.length c0_1),(.slice A0_2 l0_2.length c0_2)] 56 (0,0)))∧qA (Below w.heap.size w w'))
 case atStart=>exact ⟨(0),(0),byae,byae,H',⟨Nat.le_refl _⟩,⟨byaf BK362.out⟩,⟨byad GE362.out⟩⟩
 case round =>
  clear H'
  obtain ⟨x3_1,x9_1,rfl,rfl,HA,HK1,BK362,HB⟩:=hrel
  cases gk with
  | zero=>exact absurd HA.out (by simp [jK.l0])
  | succ k1 =>
   have H:=HA.out
   clear HA
   simp only [jK.l0] at H
   by_cases c4 : x9_1 < (l0_2.length : Int)
   ·rw [if_pos c4] at H
    have c4b0:=decide_eq_true c4
    clear c4
    by_cases c5 : 0 ≤ x9_1
    ·rw [if_pos c5] at H
     have c5b0:=decide_eq_true c5
     clear c5
     by_cases c6 : x9_1 < (l0_2.length : Int)
     ·rw [if_pos c6] at H
      have c6b0:=decide_eq_true c6
      clear c6
      replace H:=Option.bind_eq_some_iff.mp H
      obtain ⟨t365,A70,H⟩:=H
      try dsimp only at H
      have A7:=qA.mk A70
      clear A70
      obtain ⟨ji8,hji8⟩ : ∃ j_ : Int,(mx x3_1 t365) = j_:=⟨_,rfl⟩
      (first|rw [hji8] at H|(simp only [hji8] at H))
      (try rw [hji8] at A7)
      have hji8_ : (if x3_1 < t365 then t365 else x3_1) = ji8:=hji8
      have H':=qA.mk H
      clear H
      have p363 : 0 ≤ (x9_1 : Int):=of_decide_eq_true byag
      have q363 : x9_1 < (l0_2.length : Int):=of_decide_eq_true byag
      obtain ⟨ad363,A363_1,c363_1,A363_2,c363_2,e363,hx363_0,hx363_1,hx363_2,hl363_1,hi363_1,hl363_2,hi363_2⟩:=Zj HR0_2.out x9_1 p363 q363
      cases e363
      replace hx363_0:=(HB.out.cell (World.block_lt_of_cell? w _ hx363_0)).trans hx363_0
      replace hx363_1:=(HB.out.cell (World.block_lt_of_cell? w _ hx363_1)).trans hx363_1
      replace hx363_2:=(HB.out.cell (World.block_lt_of_cell? w _ hx363_2)).trans hx363_2
      have HR363_1:=qA.mk hi363_1
      have HC363_1:=qA.mk hl363_1
      clear hi363_1 hl363_1
      have HR363_2:=qA.mk hi363_2
      have HC363_2:=qA.mk hl363_2
      clear hi363_2 hl363_2
      replace p363:=eq_true p363
      replace q363:=eq_true q363
      go_wp2_with (first|((with_reducible refine qP (N:=5) rfl ?_);refine zV (N:=5) (cs:=#[.int .i64 0,.slice none 0 0,.slice none 0 0]) (t:=56) ?_;intro gb364 hg w9 hbox hb;have n_:=q_6 (qH BK362.out hb) (qC (byad GE362.out) hb) (hbox) ((bycl GE362.out : w.heap.size ≤ gb364)) ((bycl GE362.out : w.heap.size ≤ gb364)) ((by rw [hg];exact Nat.ne_of_lt (vF BK362.out) : gb362≠gb364));clear BK362 HB;obtain ⟨BK362,HB,BK364,GW364,GE364,NB362_364⟩:=n_;have NB364_362:=ns NB362_364;clear hb hbox hg;have hnb10:=NB364_362.out;have hnc10:=NB362_364.out;obtain ⟨hcz11_0,hcz11_1,hcz11_2,hfz11_0,hfz11_1,hfz11_2⟩:=cz3 BK364.out)|((with_reducible refine qI (f:=65) rfl ?_);refine qY (some 15) rfl rfl Try.func65 (by kernel_rfl) rfl #[.agg #[.int .i64 ((qM l0_2 x9_1).f0),.slice A363_1 ((qM l0_2 x9_1).f1).length c363_1,.slice A363_2 ((qM l0_2 x9_1).f2).length c363_2]] rfl byah ?_;(with_reducible refine (ih k1 byai ((qM l0_2 x9_1).f0) _ _ ((qM l0_2 x9_1).f1) _ _ ((qM l0_2 x9_1).f2) t365 _ ?side1 ?side2 ?side3 ?side4 A7.out).mono ?_);(case side1=>exact Kd.vU HR363_1.out (byaj GE362.out GE364.out));(case side2=>exact HC363_1.out);(case side3=>exact Kd.vU HR363_2.out (byaj GE362.out GE364.out));(case side4=>exact HC363_2.out);rintro e w12 ⟨rfl,hb⟩;refine ⟨_,rfl,?_⟩;have n_:=q_3 (jQ (g:=gb362) (o:=.cells #[.int .i64 a0_0,.slice A0_1 l0_1.length c0_1,.slice (some ad363) l0_2.length c0_2] 56 (0,0)) (byak NB362_364.out BK362.out) hb) (jQ (g:=gb364) (o:=.cells #[.int .i64 ((qM l0_2 x9_1).f0),.slice A363_1 ((qM l0_2 x9_1).f1).length c363_1,.slice A363_2 ((qM l0_2 x9_1).f2).length c363_2] 56 (0,0)) (by (with_reducible repeat (first|refine qF ?_ _|refine qG ?_|refine qE ?_ _));refine qO (cs:=#[.int .i64 ((qM l0_2 x9_1).f0),.slice A363_1 ((qM l0_2 x9_1).f1).length c363_1,.slice none 0 0]) ?_ 2 _ rfl;(with_reducible repeat (first|refine qF ?_ _|refine qG ?_|refine qE ?_ _));refine qO (cs:=#[.int .i64 ((qM l0_2 x9_1).f0),.slice none 0 0,.slice none 0 0]) ?_ 1 _ rfl;(with_reducible repeat (first|refine qF ?_ _|refine qG ?_|refine qE ?_ _));refine qO (cs:=#[.int .i64 0,.slice none 0 0,.slice none 0 0]) ?_ 0 _ rfl;(with_reducible repeat (first|refine qF ?_ _|refine qG ?_|refine qE ?_ _));exact BK364.out) hb) (qC (byaj GE362.out GE364.out) hb);clear BK362 BK364 HB;obtain ⟨BK362,BK364,HB⟩:=n_;clear hb))
      go_roundg k1
      case measure=>have:=HK1.out;omega
      case rel=>exact ⟨(ji8),(wrap64 (x9_1 + 1)),byal,byae,H',⟨byai⟩,⟨byaf BK362.out⟩,⟨byaj GE362.out GE364.out⟩⟩
     ·rw [if_neg c6] at H
      exact absurd H (by simp)
    ·rw [if_neg c5] at H
     exact absurd H (by simp)
   ·rw [if_neg c4] at H
    have c4b0:=decide_eq_false c4
    clear c4
    obtain rfl:=Option.some.inj H
    go_wp2
    go_ret
    exact ⟨byac,byad GE362.out⟩
end Go.Proofs.Ytkkbdimegpdbgaa.P
