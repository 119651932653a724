/- Functions of the program as Lean functions, and the walks that show that the calls answer so; written by a program of this session (a changed print) and by hand. -/
import Derived.Test.YtkkbdimegpdbgaaQsPx0
import Derived.Test.YtkkbdimegpdbgaaQsPx11
import Derived.Test.YtkkbdimegpdbgaaQsPx13
import Derived.Test.YtkkbdimegpdbgaaQsPx14
import Derived.Test.YtkkbdimegpdbgaaQsPx15
namespace Go.Proofs.Ytkkbdimegpdbgaa.P
open Go.RowKit Go.Proofs.YtkkbdimegpdbgaaW.PrintWords Go.Proofs.YtkkbdimegpdbgaaW.PrintLast Go.Proofs.YtkkbdimegpdbgaaW.PrintMore
attribute [local go_sem] kF kD kV kU uJ uK kG kE
set_option linter.unusedVariables false
set_option linter.unusedSimpArgs false
theorem R_apart_empty {α β : Type} {d : Kd α} {d' : Kd β} {e e' : Nat} {w : World} {base base' : Nat} {ok ok' : Nat→Prop} {v v' : Value} {xs : List α} {ys : List β} (h : d.R e w base ok v xs) (hx : xs = []) (h' : d'.R e' w base' ok' v' ys) (hne : e≠e') :
  d.R e w base (fun k_=>some k_≠(v' : Value).ownBlock) v xs:=by
 subst hx
 obtain ⟨h0,inner,ho,hr⟩:=h
 obtain ⟨h0',inner',ho',hr'⟩:=h'
 refine ⟨fun k hk hk'=>?_,inner,ho,hr.1,fun j p hj=>by simp at hj⟩
 rcases own_type_ne ho ho' hne with h1|h1
 ·rw [h1] at hk;cases hk
 ·exact h1 (hk.trans hk')
theorem rd_f2_empty {xs : List S56} (h : ∀ x ∈ xs,x.f2 = []) (i : Int) : (qM xs i).f2 = []:=by
 unfold qM
 rw [List.getD_eq_getElem?_getD]
 cases e : xs[i.toNat]? with
 | none=>rfl
 | some y=>exact h y (List.mem_of_getElem? e)
mutual
def jA.l0 : Nat→Int→Int→List (S56)→Int→List Int→Int→Option (Int × List Int × (List (S56)) × Int)
 | 0,_,_,_,_,_,_=>none
 | k + 1,x1,x2,x7,x8,x1000,x1001=>if x8 < 3 then (jA.l1 k x1 x2 x7 x8 x8 x1000 x1001 1 ([] : List Int)) else ((qZ.f x1000 x1001 4).bind fun bt430=>(if bt430.1 = 0 then (if (x7.length : Int) = 0 then (none) else (if 0 ≤ (Int.tmod x2 (x7.length : Int)) then (if (Int.tmod x2 (x7.length : Int)) < (x7.length : Int) then (some ((qM x7 (Int.tmod x2 (x7.length : Int))).f0,(qM x7 (Int.tmod x2 (x7.length : Int))).f1,(qM x7 (Int.tmod x2 (x7.length : Int))).f2,bt430.2)) else (none)) else (none))) else ((zS.f x1000 bt430.2 (mx 1 (wrap64 ((x7.length : Int) - 1))) (x7.length : Int)).bind fun bt433=>(some (bt433.1,([] : List Int),x7,bt433.2)))))
def jA.l1 : Nat→Int→Int→List (S56)→Int→Int→List Int→Int→Int→List Int→Option (Int × List Int × (List (S56)) × Int)
 | 0,_,_,_,_,_,_,_,_,_=>none
 | k + 1,x1,x2,x7,x8,x10,x1000,x1001,x422000,x422001=>if x10 < x1 then (if x422001.length < 17592186044416 then (jA.l1 k x1 x2 x7 x8 (wrap64 (x10 + 3)) x1000 x1001 x422000 (x422001 ++ [x10])) else (none)) else (if (x422001.length : Int) > 0 then ((zS.f x1000 x1001 1 (x422001.length : Int)).bind fun bt425=>(if x7.length < 2513169434916 then (jA.l0 k x1 x2 (x7 ++ [(⟨bt425.1,x422001,([] : List (S56))⟩ : S56)]) (wrap64 (x8 + 1)) x1000 bt425.2) else (none))) else (jA.l0 k x1 x2 x7 (wrap64 (x8 + 1)) x1000 x1001))
end
def jA.f (k : Nat) (s0_0 : List Int) (s0_1 : Int) (a1 : Int) (a2 : Int) : Option (Int × List Int × (List (S56)) × Int):=jA.l0 k a1 a2 ([] : List (S56)) 0 s0_0 s0_1
set_option maxHeartbeats 8000000 in
set_option maxRecDepth 100000 in
theorem jA.calls (k : Nat) (g : Nat) (s0_0 : List Int) (s0_1 : Int) (a1 : Int) (a2 : Int) (r1 : Int) (r2 : List Int) (r3 : List (S56)) (r4 : Int) (w0 w : World) (hI : qB w0 w g s0_0 s0_1) (hB : Below w0.heap.size w0 w) (h : jA.f k s0_0 s0_1 a1 a2 = some (r1,r2,r3,r4)) :
  Calls Try.prog 32 #[.pointer (some ⟨g,0,none⟩),.int .i64 a1,.int .i64 a2] w fun e w'=>∃ v1_ v2_ : Value,e = .returned (.agg #[.int .i64 r1,v1_,v2_])∧Kd.R (Kd.int .i64) 3 w' w.heap.size (fun _=>True) v1_ r2∧Kd.R k56 56 w' w.heap.size (fun k_=>some k_≠(v1_ : Value).ownBlock) v2_ r3∧qB w0 w' g s0_0 r4∧Below w0.heap.size w0 w'∧qJ w w' g none:=by
 have hu56:=Try.underlying56
 have HI0:=qA.mk hI
 have HK:=qA.mk (qJ.refl w g none)
 have HL:=qA.mk hB.size
 clear hI
 have HW0:=qA.mk hB.size
 have HB:=qA.mk hB
 clear hB
 unfold jA.f at h
 have H:=h
 clear h
 have H':=qA.mk H
 clear H
 go_enter Try.func32,Try.ntmps32
 go_wp2_with (first|((with_reducible refine qP (N:=6) rfl ?_);refine zV (N:=6) (cs:=#[.int .i64 0,.slice none 0 0,.slice none 0 0]) (t:=56) ?_;intro gb420 hg w4 hbox hb;have n_:=q_7 (qB.below (bybj HI0.out) hb) (qJ.trans bybl (qJ.of_below hb g none) (.inl rfl)) (qC (bybk HI0.out) hb) (hbox) ((byco : w.heap.size ≤ gb420)) ((Nat.le_trans HW0.out (byco : w.heap.size ≤ gb420) : w0.heap.size ≤ gb420)) ((by rw [hg];exact Nat.ne_of_lt (qB.lt (show qB w0 _ g s0_0 s0_1 from by repeat (first|(with_reducible first|exact HI0.out|apply qB.alloc|apply qB.drewN|apply qB.drew|apply qB.vZ)|exact HI0.out))) : g≠gb420));clear HI0 HK HB;obtain ⟨HI0,HK,HB,BK420,GW420,GE420,NB0_420⟩:=n_;have NB420_0:=ns NB0_420;clear hb hbox hg))
 go_loopg [7,8] k (fun kq v7 v8 w'=>∃ (x7_1 : List (S56)) (x8_1 : Int) (x1001_1 : Int),v8 = .int .i64 x8_1∧qA (jA.l0 kq a1 a2 x7_1 x8_1 s0_0 x1001_1 = some (r1,r2,r3,r4))∧qA (kq ≤ k∧∀ x ∈ x7_1,x.f2 = [])∧qA (Kd.R k56 56 w' w.heap.size (fun k_=>k_≠gb420) v7 x7_1)∧qA (w'.heap[gb420]? = some (.cells #[.int .i64 0,(.slice none 0 0),(.slice none 0 0)] 56 (0,0)))∧qA (qB w0 w' g s0_0 x1001_1)∧qA (qJ w w' g none)∧qA (Below w0.heap.size w0 w'))
 case atStart=>exact ⟨(([] : List (S56))),(0),(s0_1),byae,H',⟨⟨Nat.le_refl _,by simp⟩⟩,⟨byau⟩,⟨byaf BK420.out⟩,⟨bybm HI0.out NB0_420.out⟩,⟨bybn GW420.out⟩,⟨bybo HI0.out GE420.out⟩⟩
 case round =>
  clear H'
  obtain ⟨x7_1,x8_1,x1001_1,rfl,HA,HK1,HO_7,BK420,HI0,HK,HB⟩:=hrel
  cases gk with
  | zero=>exact absurd HA.out (by simp [jA.l0])
  | succ k1 =>
   have H:=HA.out
   clear HA
   simp only [jA.l0] at H
   by_cases c5 : x8_1 < 3
   ·rw [if_pos c5] at H
    have c5b0:=decide_eq_true c5
    clear c5
    have H':=qA.mk H
    clear H
    go_wp2_with (first|((with_reducible refine qP (N:=9) rfl ?_);refine zV (N:=9) (cs:=#[.int .i64 0,.slice none 0 0,.slice none 0 0]) (t:=56) ?_;intro gb421 hg w6 hbox hb;have n_:=q_10 (Kd.uP (Kd.Zy (byav HO_7.out) gb421 (Nat.le_of_eq hg.symm)) hb) (qH BK420.out hb) (qB.below (bybm HI0.out NB0_420.out) hb) (qJ.trans (bybn GW420.out) (qJ.of_below hb g none) (.inl rfl)) (qC (bybo HI0.out GE420.out) hb) (hbox) ((bycp GW420.out : w.heap.size ≤ gb421)) ((Nat.le_trans HW0.out (bycp GW420.out : w.heap.size ≤ gb421) : w0.heap.size ≤ gb421)) ((by rw [hg];exact Nat.ne_of_lt (vF BK420.out) : gb420≠gb421)) ((by rw [hg];exact Nat.ne_of_lt (qB.lt (show qB w0 _ g s0_0 x1001_1 from by repeat (first|(with_reducible first|exact HI0.out|apply qB.alloc|apply qB.drewN|apply qB.drew|apply qB.vZ|refine qB.far ?_ NB0_420.out _)|exact HI0.out))) : g≠gb421));clear HO_7 BK420 HI0 HK HB;obtain ⟨HO_7,BK420,HI0,HK,HB,BK421,GW421,GE421,NB420_421,NB0_421⟩:=n_;have NB421_420:=ns NB420_421;have NB421_0:=ns NB0_421;clear hb hbox hg;have hnb7:=NB421_420.out;have hnc7:=NB420_421.out;have hnb8:=NB421_0.out;have hnc8:=NB0_421.out;obtain ⟨hcz9_0,hcz9_1,hcz9_2,hfz9_0,hfz9_1,hfz9_2⟩:=cz3 BK421.out))
    go_loopg [10] k1 (fun kq v10 w'=>∃ (x10_2 : Int) (x422001_2 : List Int) (u422001 : Value),v10 = .int .i64 x10_2∧qA (jA.l1 kq a1 a2 x7_1 x8_1 x10_2 s0_0 x1001_1 1 x422001_2 = some (r1,r2,r3,r4))∧qA (kq ≤ k1)∧qA (Kd.R k56 56 w' w.heap.size (fun k_=>some k_≠(u422001 : Value).ownBlock∧k_≠gb420∧k_≠gb421) u7 x7_1)∧qA (Kd.R (Kd.int .i64) 3 w' w.heap.size (fun _=>True) u422001 x422001_2)∧qA (w'.heap[gb420]? = some (.cells #[.int .i64 0,(.slice none 0 0),(.slice none 0 0)] 56 (0,0)))∧qA (w'.heap[gb421]? = some (.cells #[.int .i64 1,u422001,(.slice none 0 0)] 56 (0,0)))∧qA (qB w0 w' g s0_0 x1001_1)∧qA (qJ w w' g none)∧qA (Below w0.heap.size w0 w'))
    case atStart=>exact ⟨(x8_1),(([] : List Int)),(.slice none 0 0),byae,H',⟨Nat.le_refl _⟩,⟨by (with_reducible repeat (first|apply Kd.jP|apply Kd.jO|apply Kd.jZ));exact Kd.zB (Kd.jF (p:=⟨gb421,2,none⟩) (Kd.jF (p:=⟨gb421,1,none⟩) (Kd.jF (p:=⟨gb421,0,none⟩) (Kd.zB HO_7.out (fun k_ hk=>(⟨hk,hk.2⟩ : _∧k_≠gb421))) (fun _ hk=>hk.2) (.int .i64 1)) (fun _ hk=>hk.2) (.slice none 0 0)) (fun _ hk=>hk.2) (.slice none 0 0)) (fun _ hk=>⟨bybs,⟨hk.1.1,hk.1.2⟩⟩)⟩,⟨byau⟩,⟨byak NB420_421.out BK420.out⟩,⟨by (with_reducible repeat (first|refine qF ?_ _|refine qG ?_|refine qE ?_ _));refine qO (cs:=#[.int .i64 1,.slice none 0 0,.slice none 0 0]) ?_ 2 _ rfl;(with_reducible repeat (first|refine qF ?_ _|refine qG ?_|refine qE ?_ _));refine qO (cs:=#[.int .i64 1,.slice none 0 0,.slice none 0 0]) ?_ 1 _ rfl;(with_reducible repeat (first|refine qF ?_ _|refine qG ?_|refine qE ?_ _));refine qO (cs:=#[.int .i64 0,.slice none 0 0,.slice none 0 0]) ?_ 0 _ rfl;(with_reducible repeat (first|refine qF ?_ _|refine qG ?_|refine qE ?_ _));exact BK421.out⟩,⟨bybp HI0.out NB0_420.out NB0_421.out⟩,⟨bybr GW420.out GW421.out⟩,⟨bybq HI0.out GE420.out GE421.out⟩⟩
    case round =>
     clear H'
     obtain ⟨x10_2,x422001_2,u422001,rfl,HA,HK2,HO_7,HO_422001,BK420,BK421,HI0,HK,HB⟩:=hrel
     cases gk with
     | zero=>exact absurd HA.out (by simp [jA.l1])
     | succ k2 =>
      have H:=HA.out
      clear HA
      simp only [jA.l1] at H
      by_cases c10 : x10_2 < a1
      ·rw [if_pos c10] at H
       have c10b0:=decide_eq_true c10
       clear c10
       by_cases c11 : x422001_2.length < 17592186044416
       ·rw [if_pos c11] at H
        have LMc11:=qA.mk c11
        clear c11
        obtain ⟨y422,hy422⟩ : ∃ y_ : List Int,y_ = (x422001_2 ++ [x10_2]):=⟨_,rfl⟩
        replace H : (jA.l1 k2 a1 a2 x7_1 x8_1 (wrap64 (x10_2 + 3)) s0_0 x1001_1 1 y422) = some (r1,r2,r3,r4):=by first|(rw [hy422];with_reducible exact H)|(have H2_:=(Option.bind_some _ _).symm.trans H;rw [hy422];with_reducible exact H2_)|(have H2_:=(Option.bind_some _ _).symm.trans H;with_reducible exact H2_)|with_reducible exact H|(rw [hy422];exact H)|exact H
        have Ny422:=qA.mk hy422
        clear hy422
        have H':=qA.mk H
        clear H
        have hnb12:=NB421_420.out
        have hnc12:=NB420_421.out
        have hnb13:=NB421_0.out
        have hnc13:=NB0_421.out
        obtain ⟨hcz14_0,hcz14_1,hcz14_2,hfz14_0,hfz14_1,hfz14_2⟩:=cz3 BK421.out
        go_wp2_with (first|((with_reducible refine uU (b:=.append) (xs:=#[.tmp 23,.tmp 25]) rfl ?_);at_builtin;refine Kd.Qk (Kd.int .i64) w.heap.size rfl (.tmp 23) (.tmp 25) 22 3 (.int .i64 0) 8 rfl Try.underlying22 info3 rfl (by decide) (by omega) u422001 x422001_2 x10_2 [.int .i64 x10_2] (fun _=>True) (fun _=>False) rfl rfl ?aP (fun _ hk=>hk.elim) ?aF ?aO (Below.refl _ _) ?aS ?aL ?_;(case aP=>exact rfl);(case aF=>exact (fun _ _=>trivial));(case aO=>exact (byav HO_422001.out));(case aS=>exact (vM (w:=w) (g:=g) (row:=none) (bybr GW420.out GW421.out)));(case aL=>have:=LMc11.out;omega);intro v423 w15 ho hb hg hat;rw [← Ny422.out] at ho;have n_:=q_7 (Kd.R_after (ok:=(fun k_=>k_≠gb420∧k_≠gb421)) (by (with_reducible repeat (first|apply Kd.jP|apply Kd.jO|apply Kd.jZ));exact Kd.zB HO_7.out (fun _ hk=>⟨⟨hk.2.1,hk.2.2⟩,hk.1⟩)) hg hat) (vP (g:=gb420) (o:=.cells #[.int .i64 0,.slice none 0 0,.slice none 0 0] 56 (0,0)) (byaf BK420.out) hg (Kd.R_ne HO_422001.out BK420.out (by decide))) (vP (g:=gb421) (o:=.cells #[.int .i64 1,u422001,.slice none 0 0] 56 (0,0)) (byaf BK421.out) hg (Kd.R_ne HO_422001.out BK421.out (by decide))) (qB.grown (bybp HI0.out NB0_420.out NB0_421.out) hg (qB.own_ne HI0.out HO_422001.out (by decide))) (kT (bybq HI0.out GE420.out GE421.out) HL.out hb) (qJ.trans (bybr GW420.out GW421.out) (qJ.Qx hg g) (Kd.Zq HO_422001.out)) (ho);clear HO_7 BK420 BK421 HI0 HB HK HO_422001;obtain ⟨HO_7,BK420,BK421,HI0,HB,HK,HO424⟩:=n_;clear ho hb hg hat;obtain ⟨Ao16,co16,eo16⟩:=Kd.vJ HO424.out;subst eo16;obtain ⟨hcz17_0,hcz17_1,hcz17_2,hfz17_0,hfz17_1,hfz17_2⟩:=cz3 BK421.out))
        go_roundg k2
        case measure=>have:=HK1.out;have:=HK2.out;omega
        case rel=>exact ⟨(wrap64 (x10_2 + 3)),(y422),(.slice Ao16 y422.length co16),byae,H',⟨by have:=HK1.out.1;have:=HK2.out;omega⟩,⟨by (with_reducible repeat (first|apply Kd.jP|apply Kd.jO|apply Kd.jZ));exact Kd.zB (Kd.jF (p:=⟨gb421,1,none⟩) (Kd.zB HO_7.out (fun k_ hk=>(⟨hk,hk.1.2⟩ : _∧k_≠gb421))) (fun _ hk=>hk.2) (.slice Ao16 y422.length co16)) (fun _ hk=>⟨hk.1.2,⟨hk.1.1.1,hk.1.1.2⟩⟩)⟩,⟨by (with_reducible repeat (first|apply Kd.jP|apply Kd.jO|apply Kd.jZ));exact Kd.zB (Kd.jF (p:=⟨gb421,1,none⟩) (Kd.uB HO424.out BK421.out (by decide)) (fun _ hk=>hk.2) (.slice Ao16 y422.length co16)) (fun _ hk=>trivial)⟩,⟨bybe NB420_421.out BK420.out⟩,⟨by (with_reducible repeat (first|refine qF ?_ _|refine qG ?_|refine qE ?_ _));refine qO (cs:=#[.int .i64 1,u422001,.slice none 0 0]) ?_ 1 _ rfl;(with_reducible repeat (first|refine qF ?_ _|refine qG ?_|refine qE ?_ _));exact BK421.out⟩,⟨bybp HI0.out NB0_420.out NB0_421.out⟩,⟨bybr GW420.out GW421.out⟩,⟨bybq HI0.out GE420.out GE421.out⟩⟩
       ·rw [if_neg c11] at H
        exact absurd H (by simp)
      ·rw [if_neg c10] at H
       have c10b0:=decide_eq_false c10
       clear c10
       by_cases c18 : (x422001_2.length : Int) > 0
       ·rw [if_pos c18] at H
        have c18b0:=decide_eq_true c18
        have c18b1 : decide (0 < x422001_2.length) = true:=decide_eq_true (by omega)
        clear c18
        replace H:=Option.bind_eq_some_iff.mp H
        obtain ⟨⟨t425,t426⟩,A190,H⟩:=H
        try dsimp only at H
        have A19:=qA.mk A190
        clear A190
        by_cases c20 : x7_1.length < 2513169434916
        ·rw [if_pos c20] at H
         have LMc20:=qA.mk c20
         clear c20
         obtain ⟨y427,hy427⟩ : ∃ y_ : List (S56),y_ = (x7_1 ++ [(⟨t425,x422001_2,([] : List (S56))⟩ : S56)]):=⟨_,rfl⟩
         replace H : (jA.l0 k2 a1 a2 y427 (wrap64 (x8_1 + 1)) s0_0 t426) = some (r1,r2,r3,r4):=by first|(rw [hy427];with_reducible exact H)|(have H2_:=(Option.bind_some _ _).symm.trans H;rw [hy427];with_reducible exact H2_)|(have H2_:=(Option.bind_some _ _).symm.trans H;with_reducible exact H2_)|with_reducible exact H|(rw [hy427];exact H)|exact H
         have Ny427:=qA.mk hy427
         clear hy427
         have H':=qA.mk H
         clear H
         have hnb21:=NB421_420.out
         have hnc21:=NB420_421.out
         have hnb22:=NB421_0.out
         have hnc22:=NB0_421.out
         obtain ⟨hcz23_0,hcz23_1,hcz23_2,hfz23_0,hfz23_1,hfz23_2⟩:=cz3 BK421.out
         obtain ⟨Ao24,co24,eo24⟩:=Kd.vJ HO_422001.out
         subst eo24
         go_wp2_with (first|((with_reducible refine qI (f:=28) rfl ?_);refine qY (some 36) rfl rfl Try.func28 (by kernel_rfl) rfl #[.pointer (some ⟨g,0,none⟩),.int .i64 1,.int .i64 (x422001_2.length : Int)] rfl byah ?_;(with_reducible refine (zS.calls g s0_0 x1001_1 1 (x422001_2.length : Int) t425 t426 w0 _ ?side1 ?side2 A19.out).mono ?_);(case side1=>exact bybp HI0.out NB0_420.out NB0_421.out);(case side2=>exact bybq HI0.out GE420.out GE421.out);rintro e w25 ⟨rfl,hi,hb,hk⟩;refine ⟨_,rfl,?_⟩;have n_:=q_7 (Kd.zB (Kd.uO (qB.apart (show qB w0 _ g s0_0 x1001_1 from by repeat (first|(with_reducible first|exact HI0.out|apply qB.alloc|apply qB.drewN|apply qB.drew|apply qB.vZ|refine qB.far ?_ NB0_420.out _|refine qB.far ?_ NB0_421.out _)|exact HI0.out)) (byav HO_7.out) (by decide)) hk (fun _ h=>h.2)) (fun _ h=>h.1)) (Kd.zB (Kd.uO (qB.apart (show qB w0 _ g s0_0 x1001_1 from by repeat (first|(with_reducible first|exact HI0.out|apply qB.alloc|apply qB.drewN|apply qB.drew|apply qB.vZ|refine qB.far ?_ NB0_420.out _|refine qB.far ?_ NB0_421.out _)|exact HI0.out)) (byav HO_422001.out) (by decide)) hk (fun _ h=>h.2)) (fun _ h=>h.1)) (qJ.blkB hk BK420.out NB420_0.out (by simp)) (qJ.blkB hk BK421.out NB421_0.out (by simp)) (qJ.trans (bybr GW420.out GW421.out) hk (.inl rfl)) (hb) (hi);clear HO_7 HO_422001 BK420 BK421 HK HB HI0;obtain ⟨HO_7,HO_422001,BK420,BK421,HK,HB,HI0⟩:=n_;clear hb hk hi;obtain ⟨hcz26_0,hcz26_1,hcz26_2,hfz26_0,hfz26_1,hfz26_2⟩:=cz3 BK421.out)|((with_reducible refine gate_store (t:=3) (p:=37) rfl ?_);refine store_event (t:=3) (p:=37) (v:=?vo_w27) (w1:=(w25.setCell ⟨gb421,0,none⟩ (.int .i64 t425))) ?hg ?ho ?hn ?hr ?_;(case ho=>rfl);(case hg=>rfl);(case hn=>rfl);(case hr=>exact byaa);intro w27 hw;have n0_ : qA (Kd.R k56 56 w27 w.heap.size (fun k_=>some k_≠(.slice Ao24 x422001_2.length co24 : Value).ownBlock∧k_≠gb420∧k_≠gb421) u7 x7_1):=⟨(by rw [hw];exact (by (with_reducible repeat (first|apply Kd.jP|apply Kd.jO|apply Kd.jZ));exact Kd.zB (Kd.jF (p:=⟨gb421,0,none⟩) (Kd.zB HO_7.out (fun k_ hk=>(⟨hk,hk.2.2⟩ : _∧k_≠gb421))) (fun _ hk=>hk.2) (.int .i64 t425)) (fun _ hk=>⟨hk.1.1,⟨hk.1.2.1,hk.1.2.2⟩⟩)))⟩;have n1_ : qA (Kd.R (Kd.int .i64) 3 w27 w.heap.size (fun _=>True) (.slice Ao24 x422001_2.length co24) x422001_2):=⟨(by rw [hw];exact (by (with_reducible repeat (first|apply Kd.jP|apply Kd.jO|apply Kd.jZ));exact Kd.zB (Kd.jF (p:=⟨gb421,0,none⟩) (Kd.uB HO_422001.out BK421.out (by decide)) (fun _ hk=>hk.2) (.int .i64 t425)) (fun _ hk=>trivial)))⟩;have n2_ : qA (w27.heap[gb420]? = some (.cells #[.int .i64 0,.slice none 0 0,.slice none 0 0] 56 (0,0))):=⟨(by rw [hw];exact (bybe NB420_421.out BK420.out))⟩;have n3_ : qA (w27.heap[gb421]? = some (.cells #[.int .i64 t425,.slice Ao24 x422001_2.length co24,.slice none 0 0] 56 (0,0))):=⟨(by rw [hw];exact (by (with_reducible repeat (first|refine qF ?_ _|refine qG ?_|refine qE ?_ _));refine qO (cs:=#[.int .i64 1,.slice Ao24 x422001_2.length co24,.slice none 0 0]) ?_ 0 _ rfl;(with_reducible repeat (first|refine qF ?_ _|refine qG ?_|refine qE ?_ _));exact BK421.out))⟩;have n4_ : qA (qB w0 w27 g s0_0 t426):=⟨(by rw [hw];exact (bybp HI0.out NB0_420.out NB0_421.out))⟩;have n5_ : qA (qJ w w27 g none):=⟨(by rw [hw];exact (bybr GW420.out GW421.out))⟩;have n6_ : qA (Below w0.heap.size w0 w27):=⟨(by rw [hw];exact (bybq HI0.out GE420.out GE421.out))⟩;clear hw;clear HO_7;clear HO_422001;clear BK420;clear BK421;clear HI0;clear HK;clear HB;have HO_7:=n0_;have HO_422001:=n1_;have BK420:=n2_;have BK421:=n3_;have HI0:=n4_;have HK:=n5_;have HB:=n6_;clear n0_ n1_ n2_ n3_ n4_ n5_ n6_;obtain ⟨hcz28_0,hcz28_1,hcz28_2,hfz28_0,hfz28_1,hfz28_2⟩:=cz3 BK421.out)|((with_reducible refine uU (b:=.append) (xs:=#[.tmp 38,.tmp 40]) rfl ?_);at_builtin;refine Kd.Qk k56 w.heap.size rfl (.tmp 38) (.tmp 40) 54 56 (.agg #[(.int .i64 0),(.slice none 0 0),(.slice none 0 0)]) 56 rfl Try.underlying54 info56 rfl (by decide) (by omega) u7 x7_1 (⟨t425,x422001_2,([] : List (S56))⟩ : S56) [.int .i64 t425,.slice Ao24 x422001_2.length co24,.slice none 0 0] (fun k_=>k_≠gb420∧k_≠gb421) (fun k_=>((fun k_=>k_≠gb420∧k_≠gb421)) k_∧some k_≠(u7 : Value).ownBlock) rfl rfl ?aP (fun _ hk=>hk) ?aF ?aO (Below.refl _ _) ?aS ?aL ?_;(case aP=>exact k56_mkM _ _ _ (⟨t425,x422001_2,([] : List (S56))⟩ : S56) (Kd.zB (Kd.uB (Kd.uB (Kd.Zx (HO_422001.out) (Kd.Zb HO_7.out) (by decide)) BK420.out (by decide)) BK421.out (by decide)) (fun k_ hk=>⟨⟨hk.1.2,hk.2⟩,hk.1.1.2⟩)) (Kd.R_nil _ _ _ _ _));(case aF=>exact (fun k_ hk=>⟨Kd.Qd (g:=gb420) (o:=.cells #[.int .i64 0,.slice none 0 0,.slice none 0 0] 56 (0,0)) (byaf BK420.out) k_ hk,Kd.Qd (g:=gb421) (o:=.cells #[.int .i64 t425,.slice Ao24 x422001_2.length co24,.slice none 0 0] 56 (0,0)) (byaf BK421.out) k_ hk⟩));(case aO=>exact (by (with_reducible repeat (first|apply Kd.jP|apply Kd.jO|apply Kd.jZ));exact Kd.zB HO_7.out (fun _ hk=>⟨hk.2.1,hk.2.2⟩)));(case aS=>exact (vM (w:=w) (g:=g) (row:=none) (bybr GW420.out GW421.out)));(case aL=>have:=LMc20.out;omega);intro v428 w29 ho hb hg hat;rw [← Ny427.out] at ho;have n_:=q_6 (vP (g:=gb420) (o:=.cells #[.int .i64 0,.slice none 0 0,.slice none 0 0] 56 (0,0)) (byaf BK420.out) hg (Kd.R_away HO_7.out (fun _ hk=>hk.2.1))) (vP (g:=gb421) (o:=.cells #[.int .i64 t425,.slice Ao24 x422001_2.length co24,.slice none 0 0] 56 (0,0)) (byaf BK421.out) hg (Kd.R_away HO_7.out (fun _ hk=>hk.2.2))) (qB.grown (bybp HI0.out NB0_420.out NB0_421.out) hg (qB.own_ne HI0.out HO_7.out (by decide))) (kT (bybq HI0.out GE420.out GE421.out) HL.out hb) (qJ.trans (bybr GW420.out GW421.out) (qJ.Qx hg g) (Kd.Zq HO_7.out)) (ho);clear BK420 BK421 HI0 HB HK HO_7 HO_422001;obtain ⟨BK420,BK421,HI0,HB,HK,HO429⟩:=n_;clear ho hb hg hat))
         go_roundg k2
         case measure=>have:=HK1.out;have:=HK2.out;omega
         case rel=>exact ⟨(y427),(wrap64 (x8_1 + 1)),(t426),byae,H',⟨⟨by have:=HK1.out.1;have:=HK2.out;omega,by first|(rw [Ny427.out];intro x hx;exact (List.mem_append.1 hx).elim (HK1.out.2 x) (fun hx=>by rw [List.mem_singleton.1 hx]))|exact HK1.out.2⟩⟩,⟨by (with_reducible repeat (first|apply Kd.jP|apply Kd.jO|apply Kd.jZ));exact Kd.zB HO429.out (fun _ hk=>hk.1)⟩,⟨byaf BK420.out⟩,⟨bybp HI0.out NB0_420.out NB0_421.out⟩,⟨bybr GW420.out GW421.out⟩,⟨bybq HI0.out GE420.out GE421.out⟩⟩
        ·rw [if_neg c20] at H
         exact absurd H (by simp)
       ·rw [if_neg c18] at H
        have c18b0:=decide_eq_false c18
        have c18b1 : decide (0 < x422001_2.length) = false:=decide_eq_false (by omega)
        clear c18
        have H':=qA.mk H
        clear H
        have hnb30:=NB421_420.out
        have hnc30:=NB420_421.out
        have hnb31:=NB421_0.out
        have hnc31:=NB0_421.out
        obtain ⟨hcz32_0,hcz32_1,hcz32_2,hfz32_0,hfz32_1,hfz32_2⟩:=cz3 BK421.out
        obtain ⟨Ao33,co33,eo33⟩:=Kd.vJ HO_422001.out
        subst eo33
        go_wp2
        go_roundg k2
        case measure=>have:=HK1.out;have:=HK2.out;omega
        case rel=>exact ⟨(x7_1),(wrap64 (x8_1 + 1)),(x1001_1),byae,H',⟨⟨by have:=HK1.out.1;have:=HK2.out;omega,HK1.out.2⟩⟩,⟨by (with_reducible repeat (first|apply Kd.jP|apply Kd.jO|apply Kd.jZ));exact Kd.zB HO_7.out (fun _ hk=>hk.2.1)⟩,⟨byaf BK420.out⟩,⟨bybp HI0.out NB0_420.out NB0_421.out⟩,⟨bybr GW420.out GW421.out⟩,⟨bybq HI0.out GE420.out GE421.out⟩⟩
   ·rw [if_neg c5] at H
    have c5b0:=decide_eq_false c5
    clear c5
    replace H:=Option.bind_eq_some_iff.mp H
    obtain ⟨⟨t430,t431⟩,A340,H⟩:=H
    try dsimp only at H
    have A34:=qA.mk A340
    clear A340
    by_cases c35 : t430 = 0
    ·rw [if_pos c35] at H
     obtain ⟨c35b0,c35b1⟩:=eqT c35
     clear c35
     by_cases c36 : (x7_1.length : Int) = 0
     ·rw [if_pos c36] at H
      exact absurd H (by simp)
     ·rw [if_neg c36] at H
      obtain ⟨c36b0,c36b1⟩:=eqF c36
      have c36b2 : ¬ (x7_1 = []):=fun h_=>c36 (by rw [h_];rfl)
      obtain ⟨ji37,hji37⟩ : ∃ j_ : Int,(Int.tmod a2 (x7_1.length : Int)) = j_:=⟨_,rfl⟩
      (first|rw [hji37] at H|(simp only [hji37] at H))
      (try rw [hji37] at A34)
      by_cases c38 : 0 ≤ (ji37)
      ·rw [if_pos c38] at H
       have c38b0:=decide_eq_true c38
       clear c38
       by_cases c39 : (ji37) < (x7_1.length : Int)
       ·rw [if_pos c39] at H
        have c39b0:=decide_eq_true c39
        clear c39
        simp only [Option.some.injEq,Prod.mk.injEq] at H
        obtain ⟨rfl,rfl,rfl,rfl⟩:=H
        go_wp2_with (first|((with_reducible refine qI (f:=29) rfl ?_);refine qY (some 43) rfl rfl Try.func29 (by kernel_rfl) rfl #[.pointer (some ⟨g,0,none⟩),.int .i64 4] rfl byah ?_;(with_reducible refine (qZ.calls g s0_0 x1001_1 4 t430 t431 w0 _ ?side1 ?side2 A34.out).mono ?_);(case side1=>exact bybm HI0.out NB0_420.out);(case side2=>exact bybo HI0.out GE420.out);rintro e w40 ⟨rfl,hi,hb,hk⟩;refine ⟨_,rfl,?_⟩;have n_:=q_5 (Kd.zB (Kd.uO (qB.apart (show qB w0 _ g s0_0 x1001_1 from by repeat (first|(with_reducible first|exact HI0.out|apply qB.alloc|apply qB.drewN|apply qB.drew|apply qB.vZ|refine qB.far ?_ NB0_420.out _)|exact HI0.out)) (byav HO_7.out) (by decide)) hk (fun _ h=>h.2)) (fun _ h=>h.1)) (qJ.blkB hk BK420.out NB420_0.out (by simp)) (qJ.trans (bybn GW420.out) hk (.inl rfl)) (hb) (hi);clear HO_7 BK420 HK HB HI0;obtain ⟨HO_7,BK420,HK,HB,HI0⟩:=n_;clear hb hk hi;obtain ⟨Ao41,co41,eo41⟩:=Kd.vJ HO_7.out;subst eo41;have p432 : 0 ≤ ((ji37) : Int):=of_decide_eq_true byag;have q432 : (ji37) < (x7_1.length : Int):=of_decide_eq_true byag;obtain ⟨ad432,A432_1,c432_1,A432_2,c432_2,e432,hx432_0,hx432_1,hx432_2,hl432_1,hi432_1,hl432_2,hi432_2⟩:=Zj (Kd.uM HO_7.out).2.2 (ji37) p432 q432;cases e432;obtain ⟨ce432,hce432,hMe432,hcc432⟩:=Kd.R_get HO_7.out z56 (ji37) p432 (by first|exact q432|exact of_decide_eq_true byag|(have e_:=(Kd.uM HO_7.out).1;omega));obtain ⟨ve432_1,ve432_2,rfl,ge432_1,ge432_2⟩:=k56_openM hMe432;have hv432_1:=hcc432 1 _ rfl;rw [Za _ _ 1 (by omega)] at hv432_1;replace hv432_1:=Option.some.inj (hv432_1.symm.trans hx432_1);rw [hv432_1] at ge432_1;have HL432_1:=qA.mk (show Kd.R (Kd.int .i64) 3 _ _ _ _ ((qM x7_1 (ji37)).f1) from ge432_1);clear hv432_1 ge432_1;have hv432_2:=hcc432 2 _ rfl;rw [Za _ _ 2 (by omega)] at hv432_2;replace hv432_2:=Option.some.inj (hv432_2.symm.trans hx432_2);rw [hv432_2] at ge432_2;have HL432_2:=qA.mk (show Kd.R k56 56 _ _ _ _ ((qM x7_1 (ji37)).f2) from ge432_2);clear hv432_2 ge432_2;clear hcc432 hce432;have HR432_1:=qA.mk hi432_1;have HC432_1:=qA.mk hl432_1;clear hi432_1 hl432_1;have HR432_2:=qA.mk hi432_2;have HC432_2:=qA.mk hl432_2;clear hi432_2 hl432_2;replace p432:=eq_true p432;replace q432:=eq_true q432;have hnb42:=NB420_0.out;have hnc42:=NB0_420.out;obtain ⟨hcz43_0,hcz43_1,hcz43_2,hfz43_0,hfz43_1,hfz43_2⟩:=cz3 BK420.out))
        refine bodyPost_ret (results_cell_row rfl _ _ gb420 56 #[.int .i64 ((qM x7_1 (ji37)).f0),.slice A432_1 ((qM x7_1 (ji37)).f1).length c432_1,.slice A432_2 ((qM x7_1 (ji37)).f2).length c432_2] (0,0) _ rfl (by (with_reducible repeat (first|refine qF ?_ _|refine qG ?_|refine qE ?_ _));refine qO (cs:=#[.int .i64 ((qM x7_1 (ji37)).f0),.slice A432_1 ((qM x7_1 (ji37)).f1).length c432_1,.slice none 0 0]) ?_ 2 _ rfl;(with_reducible repeat (first|refine qF ?_ _|refine qG ?_|refine qE ?_ _));refine qO (cs:=#[.int .i64 ((qM x7_1 (ji37)).f0),.slice none 0 0,.slice none 0 0]) ?_ 1 _ rfl;(with_reducible repeat (first|refine qF ?_ _|refine qG ?_|refine qE ?_ _));refine qO (cs:=#[.int .i64 0,.slice none 0 0,.slice none 0 0]) ?_ 0 _ rfl;(with_reducible repeat (first|refine qF ?_ _|refine qG ?_|refine qE ?_ _));exact BK420.out) Try.underlying56 rfl (by kernel_rfl)) rfl ?_
        exact ⟨_,_,by first|rfl|(simp [uC,uD]<;>rfl)|(simp only [← hji37];first|rfl|(simp [uC,uD]<;>rfl))|(simp [*,uC,uD]<;>rfl),by (with_reducible repeat (first|apply Kd.jP|apply Kd.jO|apply Kd.jZ));exact Kd.zB (Kd.jF (p:=⟨gb420,2,none⟩) (Kd.jF (p:=⟨gb420,1,none⟩) (Kd.jF (p:=⟨gb420,0,none⟩) (Kd.uB HL432_1.out BK420.out (by decide)) (fun _ hk=>hk.2) (.int .i64 ((qM x7_1 (ji37)).f0))) (fun _ hk=>hk.2) (.slice A432_1 ((qM x7_1 (ji37)).f1).length c432_1)) (fun _ hk=>hk.2) (.slice A432_2 ((qM x7_1 (ji37)).f2).length c432_2)) (fun _ hk=>trivial),by (with_reducible repeat (first|apply Kd.jP|apply Kd.jO|apply Kd.jZ));exact R_apart_empty (Kd.jF (p:=⟨gb420,2,none⟩) (Kd.jF (p:=⟨gb420,1,none⟩) (Kd.jF (p:=⟨gb420,0,none⟩) (Kd.zB HL432_2.out (fun k_ hk=>(⟨hk,hk.1⟩ : _∧k_≠gb420))) (fun _ hk=>hk.2) (.int .i64 ((qM x7_1 (ji37)).f0))) (fun _ hk=>hk.2) (.slice A432_1 ((qM x7_1 (ji37)).f1).length c432_1)) (fun _ hk=>hk.2) (.slice A432_2 ((qM x7_1 (ji37)).f2).length c432_2)) (rd_f2_empty HK1.out.2 _) (Kd.jF (p:=⟨gb420,2,none⟩) (Kd.jF (p:=⟨gb420,1,none⟩) (Kd.jF (p:=⟨gb420,0,none⟩) (Kd.uB HL432_1.out BK420.out (by decide)) (fun _ hk=>hk.2) (.int .i64 ((qM x7_1 (ji37)).f0))) (fun _ hk=>hk.2) (.slice A432_1 ((qM x7_1 (ji37)).f1).length c432_1)) (fun _ hk=>hk.2) (.slice A432_2 ((qM x7_1 (ji37)).f2).length c432_2)) (by decide),bybm HI0.out NB0_420.out,bybo HI0.out GE420.out,bybn GW420.out⟩
       ·rw [if_neg c39] at H
        exact absurd H (by simp)
      ·rw [if_neg c38] at H
       exact absurd H (by simp)
    ·rw [if_neg c35] at H
     obtain ⟨c35b0,c35b1⟩:=eqF c35
     obtain ⟨ji44,hji44⟩ : ∃ j_ : Int,(mx 1 (wrap64 ((x7_1.length : Int) - 1))) = j_:=⟨_,rfl⟩
     (first|rw [hji44] at H|(simp only [hji44] at H))
     (try rw [hji44] at A34)
     have hji44_ : (if 1 < (wrap64 ((x7_1.length : Int) - 1)) then (wrap64 ((x7_1.length : Int) - 1)) else 1) = ji44:=hji44
     replace H:=Option.bind_eq_some_iff.mp H
     obtain ⟨⟨t433,t434⟩,A450,H⟩:=H
     try dsimp only at H
     have A45:=qA.mk A450
     clear A450
     simp only [Option.some.injEq,Prod.mk.injEq] at H
     obtain ⟨rfl,rfl,rfl,rfl⟩:=H
     go_wp2_with (first|((with_reducible refine qI (f:=29) rfl ?_);refine qY (some 43) rfl rfl Try.func29 (by kernel_rfl) rfl #[.pointer (some ⟨g,0,none⟩),.int .i64 4] rfl byah ?_;(with_reducible refine (qZ.calls g s0_0 x1001_1 4 t430 t431 w0 _ ?side1 ?side2 A34.out).mono ?_);(case side1=>exact bybm HI0.out NB0_420.out);(case side2=>exact bybo HI0.out GE420.out);rintro e w46 ⟨rfl,hi,hb,hk⟩;refine ⟨_,rfl,?_⟩;have n_:=q_5 (Kd.zB (Kd.uO (qB.apart (show qB w0 _ g s0_0 x1001_1 from by repeat (first|(with_reducible first|exact HI0.out|apply qB.alloc|apply qB.drewN|apply qB.drew|apply qB.vZ|refine qB.far ?_ NB0_420.out _)|exact HI0.out)) (byav HO_7.out) (by decide)) hk (fun _ h=>h.2)) (fun _ h=>h.1)) (qJ.blkB hk BK420.out NB420_0.out (by simp)) (qJ.trans (bybn GW420.out) hk (.inl rfl)) (hb) (hi);clear HO_7 BK420 HK HB HI0;obtain ⟨HO_7,BK420,HK,HB,HI0⟩:=n_;clear hb hk hi;obtain ⟨Ao47,co47,eo47⟩:=Kd.vJ HO_7.out;subst eo47)|((with_reducible refine qI (f:=28) rfl ?_);refine qY (some 59) rfl rfl Try.func28 (by kernel_rfl) rfl #[.pointer (some ⟨g,0,none⟩),.int .i64 ji44,.int .i64 (x7_1.length : Int)] rfl bybc ?_;(with_reducible refine (zS.calls g s0_0 t431 ji44 (x7_1.length : Int) t433 t434 w0 _ ?side1 ?side2 A45.out).mono ?_);(case side1=>exact bybm HI0.out NB0_420.out);(case side2=>exact bybo HI0.out GE420.out);rintro e w48 ⟨rfl,hi,hb,hk⟩;refine ⟨_,rfl,?_⟩;have n_:=q_5 (Kd.zB (Kd.uO (qB.apart (show qB w0 _ g s0_0 t431 from by repeat (first|(with_reducible first|exact HI0.out|apply qB.alloc|apply qB.drewN|apply qB.drew|apply qB.vZ|refine qB.far ?_ NB0_420.out _)|exact HI0.out)) (byav HO_7.out) (by decide)) hk (fun _ h=>h.2)) (fun _ h=>h.1)) (qJ.blkB hk BK420.out NB420_0.out (by simp)) (qJ.trans (bybn GW420.out) hk (.inl rfl)) (hb) (hi);clear HO_7 BK420 HK HB HI0;obtain ⟨HO_7,BK420,HK,HB,HI0⟩:=n_;clear hb hk hi;have hnb49:=NB420_0.out;have hnc49:=NB0_420.out;obtain ⟨hcz50_0,hcz50_1,hcz50_2,hfz50_0,hfz50_1,hfz50_2⟩:=cz3 BK420.out))
     refine bodyPost_ret (results_cell_row rfl _ _ gb420 56 #[.int .i64 t433,.slice none 0 0,.slice Ao47 x7_1.length co47] (0,0) _ rfl (by (with_reducible repeat (first|refine qF ?_ _|refine qG ?_|refine qE ?_ _));refine qO (cs:=#[.int .i64 t433,.slice none 0 0,.slice none 0 0]) ?_ 2 _ rfl;(with_reducible repeat (first|refine qF ?_ _|refine qG ?_|refine qE ?_ _));refine qO (cs:=#[.int .i64 t433,.slice none 0 0,.slice none 0 0]) ?_ 1 _ rfl;(with_reducible repeat (first|refine qF ?_ _|refine qG ?_|refine qE ?_ _));refine qO (cs:=#[.int .i64 0,.slice none 0 0,.slice none 0 0]) ?_ 0 _ rfl;(with_reducible repeat (first|refine qF ?_ _|refine qG ?_|refine qE ?_ _));exact BK420.out) Try.underlying56 rfl (by kernel_rfl)) rfl ?_
     exact ⟨_,_,bybd,byau,by (with_reducible repeat (first|apply Kd.jP|apply Kd.jO|apply Kd.jZ));exact Kd.zB (Kd.jF (p:=⟨gb420,2,none⟩) (Kd.jF (p:=⟨gb420,1,none⟩) (Kd.jF (p:=⟨gb420,0,none⟩) (Kd.zB HO_7.out (fun k_ hk=>(⟨hk,hk⟩ : _∧k_≠gb420))) (fun _ hk=>hk.2) (.int .i64 t433)) (fun _ hk=>hk.2) (.slice none 0 0)) (fun _ hk=>hk.2) (.slice Ao47 x7_1.length co47)) (fun _ hk=>(bybs)),bybm HI0.out NB0_420.out,bybo HI0.out GE420.out,bybn GW420.out⟩
def zY.l0 : Nat→Int→Int→Int→List Int→Int→List (S58)→Option ((List (S58)) × Int)
 | 0,_,_,_,_,_,_=>none
 | k + 1,x5,x6,x8,x1000,x1001,x441000=>if x8 < x5 then (if x6 = 0 then ((kH.f k x1000 x1001 x5 2).bind fun bt442=>((qZ.f x1000 bt442.2.2.2 12).bind fun bt450=>(if bt450.1 = 11 then (if x441000.length < 2199023255552 then (zY.l0 k x5 x6 (wrap64 (x8 + 1)) x1000 bt450.2 (x441000 ++ [(⟨false,(⟨0,([] : List Int),([] : List (S56))⟩ : S56)⟩ : S58)])) else (none)) else (if x441000.length < 2199023255552 then (zY.l0 k x5 x6 (wrap64 (x8 + 1)) x1000 bt450.2 (x441000 ++ [(⟨true,(⟨bt442.1,bt442.2.1,bt442.2.2.1⟩ : S56)⟩ : S58)])) else (none))))) else (if x6 = 1 then ((jB.f k x1000 x1001 x5).bind fun bt458=>((qZ.f x1000 bt458.2.2.2 12).bind fun bt466=>(if bt466.1 = 11 then (if x441000.length < 2199023255552 then (zY.l0 k x5 x6 (wrap64 (x8 + 1)) x1000 bt466.2 (x441000 ++ [(⟨false,(⟨0,([] : List Int),([] : List (S56))⟩ : S56)⟩ : S58)])) else (none)) else (if x441000.length < 2199023255552 then (zY.l0 k x5 x6 (wrap64 (x8 + 1)) x1000 bt466.2 (x441000 ++ [(⟨true,(⟨bt458.1,bt458.2.1,bt458.2.2.1⟩ : S56)⟩ : S58)])) else (none))))) else ((jA.f k x1000 x1001 x5 x8).bind fun bt474=>((qZ.f x1000 bt474.2.2.2 12).bind fun bt482=>(if bt482.1 = 11 then (if x441000.length < 2199023255552 then (zY.l0 k x5 x6 (wrap64 (x8 + 1)) x1000 bt482.2 (x441000 ++ [(⟨false,(⟨0,([] : List Int),([] : List (S56))⟩ : S56)⟩ : S58)])) else (none)) else (if x441000.length < 2199023255552 then (zY.l0 k x5 x6 (wrap64 (x8 + 1)) x1000 bt482.2 (x441000 ++ [(⟨true,(⟨bt474.1,bt474.2.1,bt474.2.2.1⟩ : S56)⟩ : S58)])) else (none))))))) else (some (x441000,x1001))
def zY.f (k : Nat) (s0_0 : List Int) (s0_1 : Int) (a1 : Int) : Option ((List (S58)) × Int):=(zS.f s0_0 s0_1 1 a1).bind fun bt436=>((qZ.f s0_0 bt436.2 3).bind fun bt438=>(zY.l0 k bt436.1 bt438.1 0 s0_0 bt438.2 ([] : List (S58))))
set_option maxHeartbeats 8000000 in
set_option maxRecDepth 100000 in
theorem zY.calls (k : Nat) (g : Nat) (s0_0 : List Int) (s0_1 : Int) (a1 : Int) (r1 : List (S58)) (r2 : Int) (w0 w : World) (hI : qB w0 w g s0_0 s0_1) (hB : Below w0.heap.size w0 w) (h : zY.f k s0_0 s0_1 a1 = some (r1,r2)) :
  Calls Try.prog 12 #[.pointer (some ⟨g,0,none⟩),.int .i64 a1] w fun e w'=>∃ v0_ : Value,e = .returned (.agg #[v0_])∧Kd.R k58 58 w' w.heap.size (fun _=>True) v0_ r1∧qB w0 w' g s0_0 r2∧Below w0.heap.size w0 w'∧qJ w w' g none:=by
 have hu25:=Try.underlying25
 have hu56:=Try.underlying56
 have hu58:=Try.underlying58
 have HI0:=qA.mk hI
 have HK:=qA.mk (qJ.refl w g none)
 have HL:=qA.mk hB.size
 clear hI
 have HW0:=qA.mk hB.size
 have HB:=qA.mk hB
 clear hB
 unfold zY.f at h
 have H:=h
 clear h
 replace H:=Option.bind_eq_some_iff.mp H
 obtain ⟨⟨t436,t437⟩,A30,H⟩:=H
 try dsimp only at H
 have A3:=qA.mk A30
 clear A30
 replace H:=Option.bind_eq_some_iff.mp H
 obtain ⟨⟨t438,t439⟩,A40,H⟩:=H
 try dsimp only at H
 have A4:=qA.mk A40
 clear A40
 have H':=qA.mk H
 clear H
 go_enter Try.func12,Try.ntmps12
 go_wp2_with (first|((with_reducible refine qP (N:=4) rfl ?_);refine zV (N:=4) (cs:=#[.slice none 0 0]) (t:=25) ?_;intro gb435 hg w5 hbox hb;have n_:=q_7 (qB.below (bybj HI0.out) hb) (qJ.trans bybl (qJ.of_below hb g none) (.inl rfl)) (qC (bybk HI0.out) hb) (hbox) ((byco : w.heap.size ≤ gb435)) ((Nat.le_trans HW0.out (byco : w.heap.size ≤ gb435) : w0.heap.size ≤ gb435)) ((by rw [hg];exact Nat.ne_of_lt (qB.lt (show qB w0 _ g s0_0 s0_1 from by repeat (first|(with_reducible first|exact HI0.out|apply qB.alloc|apply qB.drewN|apply qB.drew|apply qB.vZ)|exact HI0.out))) : g≠gb435));clear HI0 HK HB;obtain ⟨HI0,HK,HB,BK435,GW435,GE435,NB0_435⟩:=n_;have NB435_0:=ns NB0_435;clear hb hbox hg)|((with_reducible refine qI (f:=28) rfl ?_);refine qY (some 12) rfl rfl Try.func28 (by kernel_rfl) rfl #[.pointer (some ⟨g,0,none⟩),.int .i64 1,.int .i64 a1] rfl byah ?_;(with_reducible refine (zS.calls g s0_0 s0_1 1 a1 t436 t437 w0 _ ?side1 ?side2 A3.out).mono ?_);(case side1=>exact bybm HI0.out NB0_435.out);(case side2=>exact bybo HI0.out GE435.out);rintro e w6 ⟨rfl,hi,hb,hk⟩;refine ⟨_,rfl,?_⟩;have n_:=q_4 (qJ.blkB hk BK435.out NB435_0.out (by simp)) (qJ.trans (bybn GW435.out) hk (.inl rfl)) (hb) (hi);clear BK435 HK HB HI0;obtain ⟨BK435,HK,HB,HI0⟩:=n_;clear hb hk hi)|((with_reducible refine qI (f:=29) rfl ?_);refine qY (some 14) rfl rfl Try.func29 (by kernel_rfl) rfl #[.pointer (some ⟨g,0,none⟩),.int .i64 3] rfl byah ?_;(with_reducible refine (qZ.calls g s0_0 t437 3 t438 t439 w0 _ ?side1 ?side2 A4.out).mono ?_);(case side1=>exact bybm HI0.out NB0_435.out);(case side2=>exact bybo HI0.out GE435.out);rintro e w7 ⟨rfl,hi,hb,hk⟩;refine ⟨_,rfl,?_⟩;have n_:=q_4 (qJ.blkB hk BK435.out NB435_0.out (by simp)) (qJ.trans (bybn GW435.out) hk (.inl rfl)) (hb) (hi);clear BK435 HK HB HI0;obtain ⟨BK435,HK,HB,HI0⟩:=n_;clear hb hk hi)|((with_reducible refine qP (N:=7) rfl ?_);refine zV (N:=7) (cs:=#[.slice none 0 0]) (t:=25) ?_;intro gb440 hg w8 hbox hb;have n_:=q_9 (qB.below (bybm HI0.out NB0_435.out) hb) (qH BK435.out hb) (qJ.trans (bybn GW435.out) (qJ.of_below hb g none) (.inl rfl)) (qC (bybo HI0.out GE435.out) hb) (hbox) ((bycp GW435.out : w.heap.size ≤ gb440)) ((Nat.le_trans HW0.out (bycp GW435.out : w.heap.size ≤ gb440) : w0.heap.size ≤ gb440)) ((by rw [hg];exact Nat.ne_of_lt (vF BK435.out) : gb435≠gb440)) ((by rw [hg];exact Nat.ne_of_lt (qB.lt (show qB w0 _ g s0_0 t439 from by repeat (first|(with_reducible first|exact HI0.out|apply qB.alloc|apply qB.drewN|apply qB.drew|apply qB.vZ|refine qB.far ?_ NB0_435.out _)|exact HI0.out))) : g≠gb440));clear HI0 BK435 HK HB;obtain ⟨HI0,BK435,HK,HB,BK440,GW440,GE440,NB435_440,NB0_440⟩:=n_;have NB440_435:=ns NB435_440;have NB440_0:=ns NB0_440;clear hb hbox hg))
 go_loopg [8] k (fun kq v8 w'=>∃ (x8_1 : Int) (x1001_1 : Int) (x441000_1 : List (S58)) (u441000 : Value),v8 = .int .i64 x8_1∧qA (zY.l0 kq t436 t438 x8_1 s0_0 x1001_1 x441000_1 = some (r1,r2))∧qA (kq ≤ k)∧qA (Kd.R k58 58 w' w.heap.size (fun _=>True) u441000 x441000_1)∧qA (w'.heap[gb435]? = some (.cells #[(.slice none 0 0)] 25 (0,0)))∧qA (w'.heap[gb440]? = some (.cells #[u441000] 25 (0,0)))∧qA (qB w0 w' g s0_0 x1001_1)∧qA (qJ w w' g none)∧qA (Below w0.heap.size w0 w'))
 case atStart=>exact ⟨(0),(t439),(([] : List (S58))),(.slice none 0 0),byae,H',⟨Nat.le_refl _⟩,⟨byau⟩,⟨byaf BK435.out⟩,⟨byaf BK440.out⟩,⟨bybp HI0.out NB0_435.out NB0_440.out⟩,⟨bybr GW435.out GW440.out⟩,⟨bybq HI0.out GE435.out GE440.out⟩⟩
 case round =>
  clear H'
  obtain ⟨x8_1,x1001_1,x441000_1,u441000,rfl,HA,HK1,HO_441000,BK435,BK440,HI0,HK,HB⟩:=hrel
  cases gk with
  | zero=>exact absurd HA.out (by simp [zY.l0])
  | succ k1 =>
   have H:=HA.out
   clear HA
   simp only [zY.l0] at H
   by_cases c9 : x8_1 < t436
   ·rw [if_pos c9] at H
    have c9b0:=decide_eq_true c9
    clear c9
    by_cases c10 : t438 = 0
    ·rw [if_pos c10] at H
     obtain ⟨c10b0,c10b1⟩:=eqT c10
     clear c10
     replace H:=Option.bind_eq_some_iff.mp H
     obtain ⟨⟨t442,t443,t446,t449⟩,A110,H⟩:=H
     try dsimp only at H
     have A11:=qA.mk A110
     clear A110
     replace H:=Option.bind_eq_some_iff.mp H
     obtain ⟨⟨t450,t451⟩,A120,H⟩:=H
     try dsimp only at H
     have A12:=qA.mk A120
     clear A120
     by_cases c13 : t450 = 11
     ·rw [if_pos c13] at H
      obtain ⟨c13b0,c13b1⟩:=eqT c13
      clear c13
      by_cases c14 : x441000_1.length < 2199023255552
      ·rw [if_pos c14] at H
       have LMc14:=qA.mk c14
       clear c14
       obtain ⟨y452,hy452⟩ : ∃ y_ : List (S58),y_ = (x441000_1 ++ [(⟨false,(⟨0,([] : List Int),([] : List (S56))⟩ : S56)⟩ : S58)]):=⟨_,rfl⟩
       replace H : (zY.l0 k1 t436 t438 (wrap64 (x8_1 + 1)) s0_0 t451 y452) = some (r1,r2):=by first|(rw [hy452];with_reducible exact H)|(have H2_:=(Option.bind_some _ _).symm.trans H;rw [hy452];with_reducible exact H2_)|(have H2_:=(Option.bind_some _ _).symm.trans H;with_reducible exact H2_)|with_reducible exact H|(rw [hy452];exact H)|exact H
       have Ny452:=qA.mk hy452
       clear hy452
       have H':=qA.mk H
       clear H
       go_wp2_with (first|((with_reducible refine qP (N:=9) rfl ?_);refine zV (N:=9) (cs:=#[.int .i64 0,.slice none 0 0,.slice none 0 0]) (t:=56) ?_;intro gb441 hg w15 hbox hb;have n_:=q_12 (Kd.uP (Kd.Zy (byav HO_441000.out) gb441 (Nat.le_of_eq hg.symm)) hb) (qH BK435.out hb) (qH BK440.out hb) (qB.below (bybp HI0.out NB0_435.out NB0_440.out) hb) (qJ.trans (bybr GW435.out GW440.out) (qJ.of_below hb g none) (.inl rfl)) (qC (bybq HI0.out GE435.out GE440.out) hb) (hbox) ((bycq GW435.out GW440.out : w.heap.size ≤ gb441)) ((Nat.le_trans HW0.out (bycq GW435.out GW440.out : w.heap.size ≤ gb441) : w0.heap.size ≤ gb441)) ((by rw [hg];exact Nat.ne_of_lt (vF BK435.out) : gb435≠gb441)) ((by rw [hg];exact Nat.ne_of_lt (vF BK440.out) : gb440≠gb441)) ((by rw [hg];exact Nat.ne_of_lt (qB.lt (show qB w0 _ g s0_0 x1001_1 from by repeat (first|(with_reducible first|exact HI0.out|apply qB.alloc|apply qB.drewN|apply qB.drew|apply qB.vZ|refine qB.far ?_ NB0_435.out _|refine qB.far ?_ NB0_440.out _)|exact HI0.out))) : g≠gb441));clear HO_441000 BK435 BK440 HI0 HK HB;obtain ⟨HO_441000,BK435,BK440,HI0,HK,HB,BK441,GW441,GE441,NB435_441,NB440_441,NB0_441⟩:=n_;have NB441_435:=ns NB435_441;have NB441_440:=ns NB440_441;have NB441_0:=ns NB0_441;clear hb hbox hg)|((with_reducible refine qI (f:=30) rfl ?_);refine qY (some 29) rfl rfl Try.func30 (by kernel_rfl) rfl #[.pointer (some ⟨g,0,none⟩),.int .i64 t436,.int .i64 2] rfl byah ?_;(with_reducible refine (kH.calls k1 g s0_0 x1001_1 t436 2 t442 t443 t446 t449 w0 _ ?side1 ?side2 A11.out).mono ?_);(case side1=>exact bybw HI0.out NB0_435.out NB0_440.out NB0_441.out);(case side2=>exact bybx HI0.out GE435.out GE440.out GE441.out);rintro e w16 ⟨v444,v447,rfl,ho0,ho1,hi,hb,hk⟩;refine ⟨_,rfl,?_⟩;have n_:=q_9 (Kd.zB (Kd.Zt (Kd.Zt (Kd.R_oldK (qB.apart (show qB w0 _ g s0_0 x1001_1 from by repeat (first|(with_reducible first|exact HI0.out|apply qB.alloc|apply qB.drewN|apply qB.drew|apply qB.vZ|refine qB.far ?_ NB0_435.out _|refine qB.far ?_ NB0_440.out _|refine qB.far ?_ NB0_441.out _)|exact HI0.out)) (byav HO_441000.out) (by decide)) hk) (Kd.kL ho0)) (Kd.kL ho1)) (fun _ h_=>h_.1)) (qJ.blkB hk BK435.out NB435_0.out (by simp)) (qJ.blkB hk BK440.out NB440_0.out (by simp)) (qJ.blkB hk BK441.out NB441_0.out (by simp)) (Kd.uZ ho0 (vM (w:=w) (g:=g) (row:=none) (byby GW435.out GW440.out GW441.out))) (Kd.uZ (Kd.Zw ho1 (g:=gb441) (o:=.cells #[.int .i64 0,.slice none 0 0,.slice none 0 0] 56 (0,0)) (byaf BK441.out)) (vM (w:=w) (g:=g) (row:=none) (byby GW435.out GW440.out GW441.out))) (qJ.trans (byby GW435.out GW440.out GW441.out) hk (.inl rfl)) (hb) (hi);clear HO_441000 BK435 BK440 BK441 HK HB HI0;obtain ⟨HO_441000,BK435,BK440,BK441,HO445,HO448,HK,HB,HI0⟩:=n_;clear hb hk hi;(try clear ho0);(try clear ho1);have hnb17:=NB441_435.out;have hnc17:=NB435_441.out;have hnb18:=NB441_440.out;have hnc18:=NB440_441.out;have hnb19:=NB441_0.out;have hnc19:=NB0_441.out;obtain ⟨hcz20_0,hcz20_1,hcz20_2,hfz20_0,hfz20_1,hfz20_2⟩:=cz3 BK441.out;obtain ⟨Ao21,co21,eo21⟩:=Kd.vJ HO445.out;subst eo21;obtain ⟨Ao22,co22,eo22⟩:=Kd.vJ HO448.out;subst eo22)|((with_reducible refine qI (f:=29) rfl ?_);refine qY (some 36) rfl rfl Try.func29 (by kernel_rfl) rfl #[.pointer (some ⟨g,0,none⟩),.int .i64 12] rfl byah ?_;(with_reducible refine (qZ.calls g s0_0 t449 12 t450 t451 w0 _ ?side1 ?side2 A12.out).mono ?_);(case side1=>exact bybw HI0.out NB0_435.out NB0_440.out NB0_441.out);(case side2=>exact bybx HI0.out GE435.out GE440.out GE441.out);rintro e w23 ⟨rfl,hi,hb,hk⟩;refine ⟨_,rfl,?_⟩;have n_:=q_9 (Kd.zB (Kd.uO (qB.apart (show qB w0 _ g s0_0 t449 from by repeat (first|(with_reducible first|exact HI0.out|apply qB.alloc|apply qB.drewN|apply qB.drew|apply qB.vZ|refine qB.far ?_ NB0_435.out _|refine qB.far ?_ NB0_440.out _|refine qB.far ?_ NB0_441.out _)|exact HI0.out)) (by (with_reducible repeat (first|apply Kd.jP|apply Kd.jO|apply Kd.jZ));exact (Kd.zB (Kd.jF (p:=⟨gb441,2,none⟩) (Kd.jF (p:=⟨gb441,1,none⟩) (Kd.jF (p:=⟨gb441,0,none⟩) (Kd.zB HO_441000.out (fun k_ hk=>(⟨hk,hk.1.1.2⟩ : _∧k_≠gb441))) (fun _ hk=>hk.2) (.int .i64 t442)) (fun _ hk=>hk.2) (.slice Ao21 t443.length co21)) (fun _ hk=>hk.2) (.slice Ao22 t446.length co22)) (fun _ h_=>h_.1))) (by decide)) hk (fun _ h=>h.2)) (fun _ h=>h.1)) (qJ.blk hk (g':=gb435) (o:=.cells #[.slice none 0 0] 25 (0,0)) (byak NB435_441.out BK435.out) NB435_0.out (by simp)) (qJ.blk hk (g':=gb440) (o:=.cells #[u441000] 25 (0,0)) (byak NB440_441.out BK440.out) NB440_0.out (by simp)) (qJ.blk hk (g':=gb441) (o:=.cells #[.int .i64 t442,.slice Ao21 t443.length co21,.slice Ao22 t446.length co22] 56 (0,0)) (by (with_reducible repeat (first|refine qF ?_ _|refine qG ?_|refine qE ?_ _));refine qO (cs:=#[.int .i64 t442,.slice Ao21 t443.length co21,.slice none 0 0]) ?_ 2 _ rfl;(with_reducible repeat (first|refine qF ?_ _|refine qG ?_|refine qE ?_ _));refine qO (cs:=#[.int .i64 t442,.slice none 0 0,.slice none 0 0]) ?_ 1 _ rfl;(with_reducible repeat (first|refine qF ?_ _|refine qG ?_|refine qE ?_ _));refine qO (cs:=#[.int .i64 0,.slice none 0 0,.slice none 0 0]) ?_ 0 _ rfl;(with_reducible repeat (first|refine qF ?_ _|refine qG ?_|refine qE ?_ _));exact BK441.out) NB441_0.out (by simp)) (Kd.zB (Kd.uO (qB.apart (show qB w0 _ g s0_0 t449 from by repeat (first|(with_reducible first|exact HI0.out|apply qB.alloc|apply qB.drewN|apply qB.drew|apply qB.vZ|refine qB.far ?_ NB0_435.out _|refine qB.far ?_ NB0_440.out _|refine qB.far ?_ NB0_441.out _)|exact HI0.out)) (by (with_reducible repeat (first|apply Kd.jP|apply Kd.jO|apply Kd.jZ));exact (Kd.zB (Kd.jF (p:=⟨gb441,2,none⟩) (Kd.jF (p:=⟨gb441,1,none⟩) (Kd.jF (p:=⟨gb441,0,none⟩) (Kd.uB HO445.out BK441.out (by decide)) (fun _ hk=>hk.2) (.int .i64 t442)) (fun _ hk=>hk.2) (.slice Ao21 t443.length co21)) (fun _ hk=>hk.2) (.slice Ao22 t446.length co22)) (fun _ h_=>h_.1))) (by decide)) hk (fun _ h=>h.2)) (fun _ h=>h.1)) (Kd.zB (Kd.uO (qB.apart (show qB w0 _ g s0_0 t449 from by repeat (first|(with_reducible first|exact HI0.out|apply qB.alloc|apply qB.drewN|apply qB.drew|apply qB.vZ|refine qB.far ?_ NB0_435.out _|refine qB.far ?_ NB0_440.out _|refine qB.far ?_ NB0_441.out _)|exact HI0.out)) (by (with_reducible repeat (first|apply Kd.jP|apply Kd.jO|apply Kd.jZ));exact (Kd.zB (Kd.jF (p:=⟨gb441,2,none⟩) (Kd.jF (p:=⟨gb441,1,none⟩) (Kd.jF (p:=⟨gb441,0,none⟩) (Kd.zB HO448.out (fun k_ hk=>(⟨hk,hk.2⟩ : _∧k_≠gb441))) (fun _ hk=>hk.2) (.int .i64 t442)) (fun _ hk=>hk.2) (.slice Ao21 t443.length co21)) (fun _ hk=>hk.2) (.slice Ao22 t446.length co22)) (fun _ h_=>h_.1))) (by decide)) hk (fun _ h=>h.2)) (fun _ h=>h.1)) (qJ.trans (byby GW435.out GW440.out GW441.out) hk (.inl rfl)) (hb) (hi);clear HO_441000 BK435 BK440 BK441 HO445 HO448 HK HB HI0;obtain ⟨HO_441000,BK435,BK440,BK441,HO445,HO448,HK,HB,HI0⟩:=n_;clear hb hk hi;have hnb24:=NB440_435.out;have hnc24:=NB435_440.out;have hnb25:=NB440_0.out;have hnc25:=NB0_440.out;obtain ⟨hcz26_0,hfz26_0⟩:=cz1 BK440.out)|((with_reducible refine uU (b:=.append) (xs:=#[.tmp 39,.tmp 41]) rfl ?_);at_builtin;refine Kd.Qk k58 w.heap.size rfl (.tmp 39) (.tmp 41) 23 58 (.agg #[(.bool false),(.int .i64 0),(.slice none 0 0),(.slice none 0 0)]) 64 rfl Try.underlying23 info58 rfl (by decide) (by omega) u441000 x441000_1 (⟨false,(⟨0,([] : List Int),([] : List (S56))⟩ : S56)⟩ : S58) [.bool false,.int .i64 0,.slice none 0 0,.slice none 0 0] (fun k_=>some k_≠(.slice Ao21 t443.length co21 : Value).ownBlock∧some k_≠(.slice Ao22 t446.length co22 : Value).ownBlock∧k_≠gb441) (fun k_=>((fun k_=>some k_≠(.slice Ao21 t443.length co21 : Value).ownBlock∧some k_≠(.slice Ao22 t446.length co22 : Value).ownBlock∧k_≠gb441)) k_∧some k_≠(u441000 : Value).ownBlock) rfl rfl ?aP (fun _ hk=>hk) ?aF ?aO (Below.refl _ _) ?aS ?aL ?_;(case aP=>exact k58_mkM _ _ _ (⟨false,(⟨0,([] : List Int),([] : List (S56))⟩ : S56)⟩ : S58) (Kd.R_nil _ _ _ _ _) (Kd.R_nil _ _ _ _ _));(case aF=>exact (fun k_ hk=>⟨Kd.fresh' (Kd.R_lt (byav HO445.out)) k_ hk,Kd.fresh' (Kd.R_lt (byav HO448.out)) k_ hk,Kd.Qd (g:=gb441) (o:=.cells #[.int .i64 t442,.slice Ao21 t443.length co21,.slice Ao22 t446.length co22] 56 (0,0)) (byaf BK441.out) k_ hk⟩));(case aO=>exact (bybz HO_441000.out));(case aS=>exact (vM (w:=w) (g:=g) (row:=none) (byby GW435.out GW440.out GW441.out)));(case aL=>have:=LMc14.out;omega);intro v453 w27 ho hb hg hat;rw [← Ny452.out] at ho;have n_:=q_9 (vP (g:=gb435) (o:=.cells #[.slice none 0 0] 25 (0,0)) (byaf BK435.out) hg (Kd.R_ne HO_441000.out BK435.out (by decide))) (vP (g:=gb440) (o:=.cells #[u441000] 25 (0,0)) (byaf BK440.out) hg (Kd.R_ne HO_441000.out BK440.out (by decide))) (qB.grown (bybw HI0.out NB0_435.out NB0_440.out NB0_441.out) hg (qB.own_ne HI0.out HO_441000.out (by decide))) (vP (g:=gb441) (o:=.cells #[.int .i64 t442,.slice Ao21 t443.length co21,.slice Ao22 t446.length co22] 56 (0,0)) (byaf BK441.out) hg (Kd.R_ne HO_441000.out BK441.out (by decide))) (Kd.R_over' (byav HO445.out) (Kd.Zb (byav HO_441000.out)) (by decide) hg) (Kd.R_over' (byav HO448.out) (Kd.Zb (byav HO_441000.out)) (by decide) hg) (kT (bybx HI0.out GE435.out GE440.out GE441.out) HL.out hb) (qJ.trans (byby GW435.out GW440.out GW441.out) (qJ.Qx hg g) (Kd.Zq HO_441000.out)) (ho);clear BK435 BK440 HI0 BK441 HO445 HO448 HB HK HO_441000;obtain ⟨BK435,BK440,HI0,BK441,HO445,HO448,HB,HK,HO454⟩:=n_;clear ho hb hg hat;obtain ⟨Ao28,co28,eo28⟩:=Kd.vJ HO454.out;subst eo28;obtain ⟨hcz29_0,hfz29_0⟩:=cz1 BK440.out))
       go_roundg k1
       case measure=>have:=HK1.out;omega
       case rel=>exact ⟨(wrap64 (x8_1 + 1)),(t451),(y452),(.slice Ao28 y452.length co28),byae,H',⟨byai⟩,⟨by (with_reducible repeat (first|apply Kd.jP|apply Kd.jO|apply Kd.jZ));exact Kd.zB (Kd.jF (p:=⟨gb440,0,none⟩) (Kd.uB HO454.out BK440.out (by decide)) (fun _ hk=>hk.2) (.slice Ao28 y452.length co28)) (fun _ hk=>trivial)⟩,⟨bybe NB435_440.out BK435.out⟩,⟨by (with_reducible repeat (first|refine qF ?_ _|refine qG ?_|refine qE ?_ _));refine qO (cs:=#[u441000]) ?_ 0 _ rfl;(with_reducible repeat (first|refine qF ?_ _|refine qG ?_|refine qE ?_ _));exact BK440.out⟩,⟨bybw HI0.out NB0_435.out NB0_440.out NB0_441.out⟩,⟨byby GW435.out GW440.out GW441.out⟩,⟨bybx HI0.out GE435.out GE440.out GE441.out⟩⟩
      ·rw [if_neg c14] at H
       exact absurd H (by simp)
     ·rw [if_neg c13] at H
      obtain ⟨c13b0,c13b1⟩:=eqF c13
      by_cases c30 : x441000_1.length < 2199023255552
      ·rw [if_pos c30] at H
       have LMc30:=qA.mk c30
       clear c30
       obtain ⟨y455,hy455⟩ : ∃ y_ : List (S58),y_ = (x441000_1 ++ [(⟨true,(⟨t442,t443,t446⟩ : S56)⟩ : S58)]):=⟨_,rfl⟩
       replace H : (zY.l0 k1 t436 t438 (wrap64 (x8_1 + 1)) s0_0 t451 y455) = some (r1,r2):=by first|(rw [hy455];with_reducible exact H)|(have H2_:=(Option.bind_some _ _).symm.trans H;rw [hy455];with_reducible exact H2_)|(have H2_:=(Option.bind_some _ _).symm.trans H;with_reducible exact H2_)|with_reducible exact H|(rw [hy455];exact H)|exact H
       have Ny455:=qA.mk hy455
       clear hy455
       have H':=qA.mk H
       clear H
       go_wp2_with (first|((with_reducible refine qP (N:=9) rfl ?_);refine zV (N:=9) (cs:=#[.int .i64 0,.slice none 0 0,.slice none 0 0]) (t:=56) ?_;intro gb441 hg w31 hbox hb;have n_:=q_12 (Kd.uP (Kd.Zy (byav HO_441000.out) gb441 (Nat.le_of_eq hg.symm)) hb) (qH BK435.out hb) (qH BK440.out hb) (qB.below (bybp HI0.out NB0_435.out NB0_440.out) hb) (qJ.trans (bybr GW435.out GW440.out) (qJ.of_below hb g none) (.inl rfl)) (qC (bybq HI0.out GE435.out GE440.out) hb) (hbox) ((bycq GW435.out GW440.out : w.heap.size ≤ gb441)) ((Nat.le_trans HW0.out (bycq GW435.out GW440.out : w.heap.size ≤ gb441) : w0.heap.size ≤ gb441)) ((by rw [hg];exact Nat.ne_of_lt (vF BK435.out) : gb435≠gb441)) ((by rw [hg];exact Nat.ne_of_lt (vF BK440.out) : gb440≠gb441)) ((by rw [hg];exact Nat.ne_of_lt (qB.lt (show qB w0 _ g s0_0 x1001_1 from by repeat (first|(with_reducible first|exact HI0.out|apply qB.alloc|apply qB.drewN|apply qB.drew|apply qB.vZ|refine qB.far ?_ NB0_435.out _|refine qB.far ?_ NB0_440.out _)|exact HI0.out))) : g≠gb441));clear HO_441000 BK435 BK440 HI0 HK HB;obtain ⟨HO_441000,BK435,BK440,HI0,HK,HB,BK441,GW441,GE441,NB435_441,NB440_441,NB0_441⟩:=n_;have NB441_435:=ns NB435_441;have NB441_440:=ns NB440_441;have NB441_0:=ns NB0_441;clear hb hbox hg)|((with_reducible refine qI (f:=30) rfl ?_);refine qY (some 29) rfl rfl Try.func30 (by kernel_rfl) rfl #[.pointer (some ⟨g,0,none⟩),.int .i64 t436,.int .i64 2] rfl byah ?_;(with_reducible refine (kH.calls k1 g s0_0 x1001_1 t436 2 t442 t443 t446 t449 w0 _ ?side1 ?side2 A11.out).mono ?_);(case side1=>exact bybw HI0.out NB0_435.out NB0_440.out NB0_441.out);(case side2=>exact bybx HI0.out GE435.out GE440.out GE441.out);rintro e w32 ⟨v444,v447,rfl,ho0,ho1,hi,hb,hk⟩;refine ⟨_,rfl,?_⟩;have n_:=q_9 (Kd.zB (Kd.Zt (Kd.Zt (Kd.R_oldK (qB.apart (show qB w0 _ g s0_0 x1001_1 from by repeat (first|(with_reducible first|exact HI0.out|apply qB.alloc|apply qB.drewN|apply qB.drew|apply qB.vZ|refine qB.far ?_ NB0_435.out _|refine qB.far ?_ NB0_440.out _|refine qB.far ?_ NB0_441.out _)|exact HI0.out)) (byav HO_441000.out) (by decide)) hk) (Kd.kL ho0)) (Kd.kL ho1)) (fun _ h_=>h_.1)) (qJ.blkB hk BK435.out NB435_0.out (by simp)) (qJ.blkB hk BK440.out NB440_0.out (by simp)) (qJ.blkB hk BK441.out NB441_0.out (by simp)) (Kd.uZ ho0 (vM (w:=w) (g:=g) (row:=none) (byby GW435.out GW440.out GW441.out))) (Kd.uZ (Kd.Zw ho1 (g:=gb441) (o:=.cells #[.int .i64 0,.slice none 0 0,.slice none 0 0] 56 (0,0)) (byaf BK441.out)) (vM (w:=w) (g:=g) (row:=none) (byby GW435.out GW440.out GW441.out))) (qJ.trans (byby GW435.out GW440.out GW441.out) hk (.inl rfl)) (hb) (hi);clear HO_441000 BK435 BK440 BK441 HK HB HI0;obtain ⟨HO_441000,BK435,BK440,BK441,HO445,HO448,HK,HB,HI0⟩:=n_;clear hb hk hi;(try clear ho0);(try clear ho1);have hnb33:=NB441_435.out;have hnc33:=NB435_441.out;have hnb34:=NB441_440.out;have hnc34:=NB440_441.out;have hnb35:=NB441_0.out;have hnc35:=NB0_441.out;obtain ⟨hcz36_0,hcz36_1,hcz36_2,hfz36_0,hfz36_1,hfz36_2⟩:=cz3 BK441.out;obtain ⟨Ao37,co37,eo37⟩:=Kd.vJ HO445.out;subst eo37;obtain ⟨Ao38,co38,eo38⟩:=Kd.vJ HO448.out;subst eo38)|((with_reducible refine qI (f:=29) rfl ?_);refine qY (some 36) rfl rfl Try.func29 (by kernel_rfl) rfl #[.pointer (some ⟨g,0,none⟩),.int .i64 12] rfl byah ?_;(with_reducible refine (qZ.calls g s0_0 t449 12 t450 t451 w0 _ ?side1 ?side2 A12.out).mono ?_);(case side1=>exact bybw HI0.out NB0_435.out NB0_440.out NB0_441.out);(case side2=>exact bybx HI0.out GE435.out GE440.out GE441.out);rintro e w39 ⟨rfl,hi,hb,hk⟩;refine ⟨_,rfl,?_⟩;have n_:=q_9 (Kd.zB (Kd.uO (qB.apart (show qB w0 _ g s0_0 t449 from by repeat (first|(with_reducible first|exact HI0.out|apply qB.alloc|apply qB.drewN|apply qB.drew|apply qB.vZ|refine qB.far ?_ NB0_435.out _|refine qB.far ?_ NB0_440.out _|refine qB.far ?_ NB0_441.out _)|exact HI0.out)) (by (with_reducible repeat (first|apply Kd.jP|apply Kd.jO|apply Kd.jZ));exact (Kd.zB (Kd.jF (p:=⟨gb441,2,none⟩) (Kd.jF (p:=⟨gb441,1,none⟩) (Kd.jF (p:=⟨gb441,0,none⟩) (Kd.zB HO_441000.out (fun k_ hk=>(⟨hk,hk.1.1.2⟩ : _∧k_≠gb441))) (fun _ hk=>hk.2) (.int .i64 t442)) (fun _ hk=>hk.2) (.slice Ao37 t443.length co37)) (fun _ hk=>hk.2) (.slice Ao38 t446.length co38)) (fun _ h_=>h_.1))) (by decide)) hk (fun _ h=>h.2)) (fun _ h=>h.1)) (qJ.blk hk (g':=gb435) (o:=.cells #[.slice none 0 0] 25 (0,0)) (byak NB435_441.out BK435.out) NB435_0.out (by simp)) (qJ.blk hk (g':=gb440) (o:=.cells #[u441000] 25 (0,0)) (byak NB440_441.out BK440.out) NB440_0.out (by simp)) (qJ.blk hk (g':=gb441) (o:=.cells #[.int .i64 t442,.slice Ao37 t443.length co37,.slice Ao38 t446.length co38] 56 (0,0)) (by (with_reducible repeat (first|refine qF ?_ _|refine qG ?_|refine qE ?_ _));refine qO (cs:=#[.int .i64 t442,.slice Ao37 t443.length co37,.slice none 0 0]) ?_ 2 _ rfl;(with_reducible repeat (first|refine qF ?_ _|refine qG ?_|refine qE ?_ _));refine qO (cs:=#[.int .i64 t442,.slice none 0 0,.slice none 0 0]) ?_ 1 _ rfl;(with_reducible repeat (first|refine qF ?_ _|refine qG ?_|refine qE ?_ _));refine qO (cs:=#[.int .i64 0,.slice none 0 0,.slice none 0 0]) ?_ 0 _ rfl;(with_reducible repeat (first|refine qF ?_ _|refine qG ?_|refine qE ?_ _));exact BK441.out) NB441_0.out (by simp)) (Kd.zB (Kd.uO (qB.apart (show qB w0 _ g s0_0 t449 from by repeat (first|(with_reducible first|exact HI0.out|apply qB.alloc|apply qB.drewN|apply qB.drew|apply qB.vZ|refine qB.far ?_ NB0_435.out _|refine qB.far ?_ NB0_440.out _|refine qB.far ?_ NB0_441.out _)|exact HI0.out)) (by (with_reducible repeat (first|apply Kd.jP|apply Kd.jO|apply Kd.jZ));exact (Kd.zB (Kd.jF (p:=⟨gb441,2,none⟩) (Kd.jF (p:=⟨gb441,1,none⟩) (Kd.jF (p:=⟨gb441,0,none⟩) (Kd.uB HO445.out BK441.out (by decide)) (fun _ hk=>hk.2) (.int .i64 t442)) (fun _ hk=>hk.2) (.slice Ao37 t443.length co37)) (fun _ hk=>hk.2) (.slice Ao38 t446.length co38)) (fun _ h_=>h_.1))) (by decide)) hk (fun _ h=>h.2)) (fun _ h=>h.1)) (Kd.zB (Kd.uO (qB.apart (show qB w0 _ g s0_0 t449 from by repeat (first|(with_reducible first|exact HI0.out|apply qB.alloc|apply qB.drewN|apply qB.drew|apply qB.vZ|refine qB.far ?_ NB0_435.out _|refine qB.far ?_ NB0_440.out _|refine qB.far ?_ NB0_441.out _)|exact HI0.out)) (by (with_reducible repeat (first|apply Kd.jP|apply Kd.jO|apply Kd.jZ));exact (Kd.zB (Kd.jF (p:=⟨gb441,2,none⟩) (Kd.jF (p:=⟨gb441,1,none⟩) (Kd.jF (p:=⟨gb441,0,none⟩) (Kd.zB HO448.out (fun k_ hk=>(⟨hk,hk.2⟩ : _∧k_≠gb441))) (fun _ hk=>hk.2) (.int .i64 t442)) (fun _ hk=>hk.2) (.slice Ao37 t443.length co37)) (fun _ hk=>hk.2) (.slice Ao38 t446.length co38)) (fun _ h_=>h_.1))) (by decide)) hk (fun _ h=>h.2)) (fun _ h=>h.1)) (qJ.trans (byby GW435.out GW440.out GW441.out) hk (.inl rfl)) (hb) (hi);clear HO_441000 BK435 BK440 BK441 HO445 HO448 HK HB HI0;obtain ⟨HO_441000,BK435,BK440,BK441,HO445,HO448,HK,HB,HI0⟩:=n_;clear hb hk hi;have hnb40:=NB440_435.out;have hnc40:=NB435_440.out;have hnb41:=NB440_0.out;have hnc41:=NB0_440.out;obtain ⟨hcz42_0,hfz42_0⟩:=cz1 BK440.out;obtain ⟨hcz43_0,hcz43_1,hcz43_2,hfz43_0,hfz43_1,hfz43_2⟩:=cz3 BK441.out)|((with_reducible refine uU (b:=.append) (xs:=#[.tmp 45,.tmp 48]) rfl ?_);at_builtin;refine Kd.Qk k58 w.heap.size rfl (.tmp 45) (.tmp 48) 23 58 (.agg #[(.bool false),(.int .i64 0),(.slice none 0 0),(.slice none 0 0)]) 64 rfl Try.underlying23 info58 rfl (by decide) (by omega) u441000 x441000_1 (⟨true,(⟨t442,t443,t446⟩ : S56)⟩ : S58) [.bool true,.int .i64 t442,.slice Ao37 t443.length co37,.slice Ao38 t446.length co38] (fun k_=>k_≠gb441) (fun k_=>((fun k_=>k_≠gb441)) k_∧some k_≠(u441000 : Value).ownBlock) rfl rfl ?aP (fun _ hk=>hk) ?aF ?aO (Below.refl _ _) ?aS ?aL ?_;(case aP=>exact k58_mkM _ _ _ (⟨true,(⟨t442,t443,t446⟩ : S56)⟩ : S58) (Kd.zB (Kd.uB (Kd.Zx (HO445.out) (Kd.Zb HO_441000.out) (by decide)) BK441.out (by decide)) (fun k_ hk=>⟨hk.2,hk.1.2⟩)) (Kd.zB (Kd.Zx (HO448.out) (Kd.Zb HO_441000.out) (by decide)) (fun k_ hk=>⟨hk.1.2,hk.2⟩)));(case aF=>exact (fun k_ hk=>Kd.Qd (g:=gb441) (o:=.cells #[.int .i64 t442,.slice Ao37 t443.length co37,.slice Ao38 t446.length co38] 56 (0,0)) (byaf BK441.out) k_ hk));(case aO=>exact (byca HO_441000.out));(case aS=>exact (vM (w:=w) (g:=g) (row:=none) (byby GW435.out GW440.out GW441.out)));(case aL=>have:=LMc30.out;omega);intro v456 w44 ho hb hg hat;rw [← Ny455.out] at ho;have n_:=q_7 (vP (g:=gb435) (o:=.cells #[.slice none 0 0] 25 (0,0)) (byaf BK435.out) hg (Kd.R_ne HO_441000.out BK435.out (by decide))) (vP (g:=gb440) (o:=.cells #[u441000] 25 (0,0)) (byaf BK440.out) hg (Kd.R_ne HO_441000.out BK440.out (by decide))) (qB.grown (bybw HI0.out NB0_435.out NB0_440.out NB0_441.out) hg (qB.own_ne HI0.out HO_441000.out (by decide))) (vP (g:=gb441) (o:=.cells #[.int .i64 t442,.slice Ao37 t443.length co37,.slice Ao38 t446.length co38] 56 (0,0)) (byaf BK441.out) hg (Kd.R_ne HO_441000.out BK441.out (by decide))) (kT (bybx HI0.out GE435.out GE440.out GE441.out) HL.out hb) (qJ.trans (byby GW435.out GW440.out GW441.out) (qJ.Qx hg g) (Kd.Zq HO_441000.out)) (ho);clear BK435 BK440 HI0 BK441 HB HK HO_441000 HO445 HO448;obtain ⟨BK435,BK440,HI0,BK441,HB,HK,HO457⟩:=n_;clear ho hb hg hat;obtain ⟨Ao45,co45,eo45⟩:=Kd.vJ HO457.out;subst eo45;obtain ⟨hcz46_0,hfz46_0⟩:=cz1 BK440.out))
       go_roundg k1
       case measure=>have:=HK1.out;omega
       case rel=>exact ⟨(wrap64 (x8_1 + 1)),(t451),(y455),(.slice Ao45 y455.length co45),byae,H',⟨byai⟩,⟨by (with_reducible repeat (first|apply Kd.jP|apply Kd.jO|apply Kd.jZ));exact Kd.zB (Kd.jF (p:=⟨gb440,0,none⟩) (Kd.uB HO457.out BK440.out (by decide)) (fun _ hk=>hk.2) (.slice Ao45 y455.length co45)) (fun _ hk=>trivial)⟩,⟨bybe NB435_440.out BK435.out⟩,⟨by (with_reducible repeat (first|refine qF ?_ _|refine qG ?_|refine qE ?_ _));refine qO (cs:=#[u441000]) ?_ 0 _ rfl;(with_reducible repeat (first|refine qF ?_ _|refine qG ?_|refine qE ?_ _));exact BK440.out⟩,⟨bybw HI0.out NB0_435.out NB0_440.out NB0_441.out⟩,⟨byby GW435.out GW440.out GW441.out⟩,⟨bybx HI0.out GE435.out GE440.out GE441.out⟩⟩
      ·rw [if_neg c30] at H
       exact absurd H (by simp)
    ·rw [if_neg c10] at H
     obtain ⟨c10b0,c10b1⟩:=eqF c10
     by_cases c47 : t438 = 1
     ·rw [if_pos c47] at H
      obtain ⟨c47b0,c47b1⟩:=eqT c47
      clear c47
      replace H:=Option.bind_eq_some_iff.mp H
      obtain ⟨⟨t458,t459,t462,t465⟩,A480,H⟩:=H
      try dsimp only at H
      have A48:=qA.mk A480
      clear A480
      replace H:=Option.bind_eq_some_iff.mp H
      obtain ⟨⟨t466,t467⟩,A490,H⟩:=H
      try dsimp only at H
      have A49:=qA.mk A490
      clear A490
      by_cases c50 : t466 = 11
      ·rw [if_pos c50] at H
       obtain ⟨c50b0,c50b1⟩:=eqT c50
       clear c50
       by_cases c51 : x441000_1.length < 2199023255552
       ·rw [if_pos c51] at H
        have LMc51:=qA.mk c51
        clear c51
        obtain ⟨y468,hy468⟩ : ∃ y_ : List (S58),y_ = (x441000_1 ++ [(⟨false,(⟨0,([] : List Int),([] : List (S56))⟩ : S56)⟩ : S58)]):=⟨_,rfl⟩
        replace H : (zY.l0 k1 t436 t438 (wrap64 (x8_1 + 1)) s0_0 t467 y468) = some (r1,r2):=by first|(rw [hy468];with_reducible exact H)|(have H2_:=(Option.bind_some _ _).symm.trans H;rw [hy468];with_reducible exact H2_)|(have H2_:=(Option.bind_some _ _).symm.trans H;with_reducible exact H2_)|with_reducible exact H|(rw [hy468];exact H)|exact H
        have Ny468:=qA.mk hy468
        clear hy468
        have H':=qA.mk H
        clear H
        go_wp2_with (first|((with_reducible refine qP (N:=9) rfl ?_);refine zV (N:=9) (cs:=#[.int .i64 0,.slice none 0 0,.slice none 0 0]) (t:=56) ?_;intro gb441 hg w52 hbox hb;have n_:=q_12 (Kd.uP (Kd.Zy (byav HO_441000.out) gb441 (Nat.le_of_eq hg.symm)) hb) (qH BK435.out hb) (qH BK440.out hb) (qB.below (bybp HI0.out NB0_435.out NB0_440.out) hb) (qJ.trans (bybr GW435.out GW440.out) (qJ.of_below hb g none) (.inl rfl)) (qC (bybq HI0.out GE435.out GE440.out) hb) (hbox) ((bycq GW435.out GW440.out : w.heap.size ≤ gb441)) ((Nat.le_trans HW0.out (bycq GW435.out GW440.out : w.heap.size ≤ gb441) : w0.heap.size ≤ gb441)) ((by rw [hg];exact Nat.ne_of_lt (vF BK435.out) : gb435≠gb441)) ((by rw [hg];exact Nat.ne_of_lt (vF BK440.out) : gb440≠gb441)) ((by rw [hg];exact Nat.ne_of_lt (qB.lt (show qB w0 _ g s0_0 x1001_1 from by repeat (first|(with_reducible first|exact HI0.out|apply qB.alloc|apply qB.drewN|apply qB.drew|apply qB.vZ|refine qB.far ?_ NB0_435.out _|refine qB.far ?_ NB0_440.out _)|exact HI0.out))) : g≠gb441));clear HO_441000 BK435 BK440 HI0 HK HB;obtain ⟨HO_441000,BK435,BK440,HI0,HK,HB,BK441,GW441,GE441,NB435_441,NB440_441,NB0_441⟩:=n_;have NB441_435:=ns NB435_441;have NB441_440:=ns NB440_441;have NB441_0:=ns NB0_441;clear hb hbox hg)|((with_reducible refine qI (f:=31) rfl ?_);refine qY (some 34) rfl rfl Try.func31 (by kernel_rfl) rfl #[.pointer (some ⟨g,0,none⟩),.int .i64 t436] rfl byah ?_;(with_reducible refine (jB.calls k1 g s0_0 x1001_1 t436 t458 t459 t462 t465 w0 _ ?side1 ?side2 A48.out).mono ?_);(case side1=>exact bybw HI0.out NB0_435.out NB0_440.out NB0_441.out);(case side2=>exact bybx HI0.out GE435.out GE440.out GE441.out);rintro e w53 ⟨v460,v463,rfl,ho0,ho1,hi,hb,hk⟩;refine ⟨_,rfl,?_⟩;have n_:=q_9 (Kd.zB (Kd.Zt (Kd.Zt (Kd.R_oldK (qB.apart (show qB w0 _ g s0_0 x1001_1 from by repeat (first|(with_reducible first|exact HI0.out|apply qB.alloc|apply qB.drewN|apply qB.drew|apply qB.vZ|refine qB.far ?_ NB0_435.out _|refine qB.far ?_ NB0_440.out _|refine qB.far ?_ NB0_441.out _)|exact HI0.out)) (byav HO_441000.out) (by decide)) hk) (Kd.kL ho0)) (Kd.kL ho1)) (fun _ h_=>h_.1)) (qJ.blkB hk BK435.out NB435_0.out (by simp)) (qJ.blkB hk BK440.out NB440_0.out (by simp)) (qJ.blkB hk BK441.out NB441_0.out (by simp)) (Kd.uZ ho0 (vM (w:=w) (g:=g) (row:=none) (byby GW435.out GW440.out GW441.out))) (Kd.uZ (Kd.Zw ho1 (g:=gb441) (o:=.cells #[.int .i64 0,.slice none 0 0,.slice none 0 0] 56 (0,0)) (byaf BK441.out)) (vM (w:=w) (g:=g) (row:=none) (byby GW435.out GW440.out GW441.out))) (qJ.trans (byby GW435.out GW440.out GW441.out) hk (.inl rfl)) (hb) (hi);clear HO_441000 BK435 BK440 BK441 HK HB HI0;obtain ⟨HO_441000,BK435,BK440,BK441,HO461,HO464,HK,HB,HI0⟩:=n_;clear hb hk hi;(try clear ho0);(try clear ho1);have hnb54:=NB441_435.out;have hnc54:=NB435_441.out;have hnb55:=NB441_440.out;have hnc55:=NB440_441.out;have hnb56:=NB441_0.out;have hnc56:=NB0_441.out;obtain ⟨hcz57_0,hcz57_1,hcz57_2,hfz57_0,hfz57_1,hfz57_2⟩:=cz3 BK441.out;obtain ⟨Ao58,co58,eo58⟩:=Kd.vJ HO461.out;subst eo58;obtain ⟨Ao59,co59,eo59⟩:=Kd.vJ HO464.out;subst eo59)|((with_reducible refine qI (f:=29) rfl ?_);refine qY (some 36) rfl rfl Try.func29 (by kernel_rfl) rfl #[.pointer (some ⟨g,0,none⟩),.int .i64 12] rfl byah ?_;(with_reducible refine (qZ.calls g s0_0 t465 12 t466 t467 w0 _ ?side1 ?side2 A49.out).mono ?_);(case side1=>exact bybw HI0.out NB0_435.out NB0_440.out NB0_441.out);(case side2=>exact bybx HI0.out GE435.out GE440.out GE441.out);rintro e w60 ⟨rfl,hi,hb,hk⟩;refine ⟨_,rfl,?_⟩;have n_:=q_9 (Kd.zB (Kd.uO (qB.apart (show qB w0 _ g s0_0 t465 from by repeat (first|(with_reducible first|exact HI0.out|apply qB.alloc|apply qB.drewN|apply qB.drew|apply qB.vZ|refine qB.far ?_ NB0_435.out _|refine qB.far ?_ NB0_440.out _|refine qB.far ?_ NB0_441.out _)|exact HI0.out)) (by (with_reducible repeat (first|apply Kd.jP|apply Kd.jO|apply Kd.jZ));exact (Kd.zB (Kd.jF (p:=⟨gb441,2,none⟩) (Kd.jF (p:=⟨gb441,1,none⟩) (Kd.jF (p:=⟨gb441,0,none⟩) (Kd.zB HO_441000.out (fun k_ hk=>(⟨hk,hk.1.1.2⟩ : _∧k_≠gb441))) (fun _ hk=>hk.2) (.int .i64 t458)) (fun _ hk=>hk.2) (.slice Ao58 t459.length co58)) (fun _ hk=>hk.2) (.slice Ao59 t462.length co59)) (fun _ h_=>h_.1))) (by decide)) hk (fun _ h=>h.2)) (fun _ h=>h.1)) (qJ.blk hk (g':=gb435) (o:=.cells #[.slice none 0 0] 25 (0,0)) (byak NB435_441.out BK435.out) NB435_0.out (by simp)) (qJ.blk hk (g':=gb440) (o:=.cells #[u441000] 25 (0,0)) (byak NB440_441.out BK440.out) NB440_0.out (by simp)) (qJ.blk hk (g':=gb441) (o:=.cells #[.int .i64 t458,.slice Ao58 t459.length co58,.slice Ao59 t462.length co59] 56 (0,0)) (by (with_reducible repeat (first|refine qF ?_ _|refine qG ?_|refine qE ?_ _));refine qO (cs:=#[.int .i64 t458,.slice Ao58 t459.length co58,.slice none 0 0]) ?_ 2 _ rfl;(with_reducible repeat (first|refine qF ?_ _|refine qG ?_|refine qE ?_ _));refine qO (cs:=#[.int .i64 t458,.slice none 0 0,.slice none 0 0]) ?_ 1 _ rfl;(with_reducible repeat (first|refine qF ?_ _|refine qG ?_|refine qE ?_ _));refine qO (cs:=#[.int .i64 0,.slice none 0 0,.slice none 0 0]) ?_ 0 _ rfl;(with_reducible repeat (first|refine qF ?_ _|refine qG ?_|refine qE ?_ _));exact BK441.out) NB441_0.out (by simp)) (Kd.zB (Kd.uO (qB.apart (show qB w0 _ g s0_0 t465 from by repeat (first|(with_reducible first|exact HI0.out|apply qB.alloc|apply qB.drewN|apply qB.drew|apply qB.vZ|refine qB.far ?_ NB0_435.out _|refine qB.far ?_ NB0_440.out _|refine qB.far ?_ NB0_441.out _)|exact HI0.out)) (by (with_reducible repeat (first|apply Kd.jP|apply Kd.jO|apply Kd.jZ));exact (Kd.zB (Kd.jF (p:=⟨gb441,2,none⟩) (Kd.jF (p:=⟨gb441,1,none⟩) (Kd.jF (p:=⟨gb441,0,none⟩) (Kd.uB HO461.out BK441.out (by decide)) (fun _ hk=>hk.2) (.int .i64 t458)) (fun _ hk=>hk.2) (.slice Ao58 t459.length co58)) (fun _ hk=>hk.2) (.slice Ao59 t462.length co59)) (fun _ h_=>h_.1))) (by decide)) hk (fun _ h=>h.2)) (fun _ h=>h.1)) (Kd.zB (Kd.uO (qB.apart (show qB w0 _ g s0_0 t465 from by repeat (first|(with_reducible first|exact HI0.out|apply qB.alloc|apply qB.drewN|apply qB.drew|apply qB.vZ|refine qB.far ?_ NB0_435.out _|refine qB.far ?_ NB0_440.out _|refine qB.far ?_ NB0_441.out _)|exact HI0.out)) (by (with_reducible repeat (first|apply Kd.jP|apply Kd.jO|apply Kd.jZ));exact (Kd.zB (Kd.jF (p:=⟨gb441,2,none⟩) (Kd.jF (p:=⟨gb441,1,none⟩) (Kd.jF (p:=⟨gb441,0,none⟩) (Kd.zB HO464.out (fun k_ hk=>(⟨hk,hk.2⟩ : _∧k_≠gb441))) (fun _ hk=>hk.2) (.int .i64 t458)) (fun _ hk=>hk.2) (.slice Ao58 t459.length co58)) (fun _ hk=>hk.2) (.slice Ao59 t462.length co59)) (fun _ h_=>h_.1))) (by decide)) hk (fun _ h=>h.2)) (fun _ h=>h.1)) (qJ.trans (byby GW435.out GW440.out GW441.out) hk (.inl rfl)) (hb) (hi);clear HO_441000 BK435 BK440 BK441 HO461 HO464 HK HB HI0;obtain ⟨HO_441000,BK435,BK440,BK441,HO461,HO464,HK,HB,HI0⟩:=n_;clear hb hk hi;have hnb61:=NB440_435.out;have hnc61:=NB435_440.out;have hnb62:=NB440_0.out;have hnc62:=NB0_440.out;obtain ⟨hcz63_0,hfz63_0⟩:=cz1 BK440.out)|((with_reducible refine uU (b:=.append) (xs:=#[.tmp 39,.tmp 41]) rfl ?_);at_builtin;refine Kd.Qk k58 w.heap.size rfl (.tmp 39) (.tmp 41) 23 58 (.agg #[(.bool false),(.int .i64 0),(.slice none 0 0),(.slice none 0 0)]) 64 rfl Try.underlying23 info58 rfl (by decide) (by omega) u441000 x441000_1 (⟨false,(⟨0,([] : List Int),([] : List (S56))⟩ : S56)⟩ : S58) [.bool false,.int .i64 0,.slice none 0 0,.slice none 0 0] (fun k_=>some k_≠(.slice Ao58 t459.length co58 : Value).ownBlock∧some k_≠(.slice Ao59 t462.length co59 : Value).ownBlock∧k_≠gb441) (fun k_=>((fun k_=>some k_≠(.slice Ao58 t459.length co58 : Value).ownBlock∧some k_≠(.slice Ao59 t462.length co59 : Value).ownBlock∧k_≠gb441)) k_∧some k_≠(u441000 : Value).ownBlock) rfl rfl ?aP (fun _ hk=>hk) ?aF ?aO (Below.refl _ _) ?aS ?aL ?_;(case aP=>exact k58_mkM _ _ _ (⟨false,(⟨0,([] : List Int),([] : List (S56))⟩ : S56)⟩ : S58) (Kd.R_nil _ _ _ _ _) (Kd.R_nil _ _ _ _ _));(case aF=>exact (fun k_ hk=>⟨Kd.fresh' (Kd.R_lt (byav HO461.out)) k_ hk,Kd.fresh' (Kd.R_lt (byav HO464.out)) k_ hk,Kd.Qd (g:=gb441) (o:=.cells #[.int .i64 t458,.slice Ao58 t459.length co58,.slice Ao59 t462.length co59] 56 (0,0)) (byaf BK441.out) k_ hk⟩));(case aO=>exact (bybz HO_441000.out));(case aS=>exact (vM (w:=w) (g:=g) (row:=none) (byby GW435.out GW440.out GW441.out)));(case aL=>have:=LMc51.out;omega);intro v469 w64 ho hb hg hat;rw [← Ny468.out] at ho;have n_:=q_9 (vP (g:=gb435) (o:=.cells #[.slice none 0 0] 25 (0,0)) (byaf BK435.out) hg (Kd.R_ne HO_441000.out BK435.out (by decide))) (vP (g:=gb440) (o:=.cells #[u441000] 25 (0,0)) (byaf BK440.out) hg (Kd.R_ne HO_441000.out BK440.out (by decide))) (qB.grown (bybw HI0.out NB0_435.out NB0_440.out NB0_441.out) hg (qB.own_ne HI0.out HO_441000.out (by decide))) (vP (g:=gb441) (o:=.cells #[.int .i64 t458,.slice Ao58 t459.length co58,.slice Ao59 t462.length co59] 56 (0,0)) (byaf BK441.out) hg (Kd.R_ne HO_441000.out BK441.out (by decide))) (Kd.R_over' (byav HO461.out) (Kd.Zb (byav HO_441000.out)) (by decide) hg) (Kd.R_over' (byav HO464.out) (Kd.Zb (byav HO_441000.out)) (by decide) hg) (kT (bybx HI0.out GE435.out GE440.out GE441.out) HL.out hb) (qJ.trans (byby GW435.out GW440.out GW441.out) (qJ.Qx hg g) (Kd.Zq HO_441000.out)) (ho);clear BK435 BK440 HI0 BK441 HO461 HO464 HB HK HO_441000;obtain ⟨BK435,BK440,HI0,BK441,HO461,HO464,HB,HK,HO470⟩:=n_;clear ho hb hg hat;obtain ⟨Ao65,co65,eo65⟩:=Kd.vJ HO470.out;subst eo65;obtain ⟨hcz66_0,hfz66_0⟩:=cz1 BK440.out))
        go_roundg k1
        case measure=>have:=HK1.out;omega
        case rel=>exact ⟨(wrap64 (x8_1 + 1)),(t467),(y468),(.slice Ao65 y468.length co65),byae,H',⟨byai⟩,⟨by (with_reducible repeat (first|apply Kd.jP|apply Kd.jO|apply Kd.jZ));exact Kd.zB (Kd.jF (p:=⟨gb440,0,none⟩) (Kd.uB HO470.out BK440.out (by decide)) (fun _ hk=>hk.2) (.slice Ao65 y468.length co65)) (fun _ hk=>trivial)⟩,⟨bybe NB435_440.out BK435.out⟩,⟨by (with_reducible repeat (first|refine qF ?_ _|refine qG ?_|refine qE ?_ _));refine qO (cs:=#[u441000]) ?_ 0 _ rfl;(with_reducible repeat (first|refine qF ?_ _|refine qG ?_|refine qE ?_ _));exact BK440.out⟩,⟨bybw HI0.out NB0_435.out NB0_440.out NB0_441.out⟩,⟨byby GW435.out GW440.out GW441.out⟩,⟨bybx HI0.out GE435.out GE440.out GE441.out⟩⟩
       ·rw [if_neg c51] at H
        exact absurd H (by simp)
      ·rw [if_neg c50] at H
       obtain ⟨c50b0,c50b1⟩:=eqF c50
       by_cases c67 : x441000_1.length < 2199023255552
       ·rw [if_pos c67] at H
        have LMc67:=qA.mk c67
        clear c67
        obtain ⟨y471,hy471⟩ : ∃ y_ : List (S58),y_ = (x441000_1 ++ [(⟨true,(⟨t458,t459,t462⟩ : S56)⟩ : S58)]):=⟨_,rfl⟩
        replace H : (zY.l0 k1 t436 t438 (wrap64 (x8_1 + 1)) s0_0 t467 y471) = some (r1,r2):=by first|(rw [hy471];with_reducible exact H)|(have H2_:=(Option.bind_some _ _).symm.trans H;rw [hy471];with_reducible exact H2_)|(have H2_:=(Option.bind_some _ _).symm.trans H;with_reducible exact H2_)|with_reducible exact H|(rw [hy471];exact H)|exact H
        have Ny471:=qA.mk hy471
        clear hy471
        have H':=qA.mk H
        clear H
        go_wp2_with (first|((with_reducible refine qP (N:=9) rfl ?_);refine zV (N:=9) (cs:=#[.int .i64 0,.slice none 0 0,.slice none 0 0]) (t:=56) ?_;intro gb441 hg w68 hbox hb;have n_:=q_12 (Kd.uP (Kd.Zy (byav HO_441000.out) gb441 (Nat.le_of_eq hg.symm)) hb) (qH BK435.out hb) (qH BK440.out hb) (qB.below (bybp HI0.out NB0_435.out NB0_440.out) hb) (qJ.trans (bybr GW435.out GW440.out) (qJ.of_below hb g none) (.inl rfl)) (qC (bybq HI0.out GE435.out GE440.out) hb) (hbox) ((bycq GW435.out GW440.out : w.heap.size ≤ gb441)) ((Nat.le_trans HW0.out (bycq GW435.out GW440.out : w.heap.size ≤ gb441) : w0.heap.size ≤ gb441)) ((by rw [hg];exact Nat.ne_of_lt (vF BK435.out) : gb435≠gb441)) ((by rw [hg];exact Nat.ne_of_lt (vF BK440.out) : gb440≠gb441)) ((by rw [hg];exact Nat.ne_of_lt (qB.lt (show qB w0 _ g s0_0 x1001_1 from by repeat (first|(with_reducible first|exact HI0.out|apply qB.alloc|apply qB.drewN|apply qB.drew|apply qB.vZ|refine qB.far ?_ NB0_435.out _|refine qB.far ?_ NB0_440.out _)|exact HI0.out))) : g≠gb441));clear HO_441000 BK435 BK440 HI0 HK HB;obtain ⟨HO_441000,BK435,BK440,HI0,HK,HB,BK441,GW441,GE441,NB435_441,NB440_441,NB0_441⟩:=n_;have NB441_435:=ns NB435_441;have NB441_440:=ns NB440_441;have NB441_0:=ns NB0_441;clear hb hbox hg)|((with_reducible refine qI (f:=31) rfl ?_);refine qY (some 34) rfl rfl Try.func31 (by kernel_rfl) rfl #[.pointer (some ⟨g,0,none⟩),.int .i64 t436] rfl byah ?_;(with_reducible refine (jB.calls k1 g s0_0 x1001_1 t436 t458 t459 t462 t465 w0 _ ?side1 ?side2 A48.out).mono ?_);(case side1=>exact bybw HI0.out NB0_435.out NB0_440.out NB0_441.out);(case side2=>exact bybx HI0.out GE435.out GE440.out GE441.out);rintro e w69 ⟨v460,v463,rfl,ho0,ho1,hi,hb,hk⟩;refine ⟨_,rfl,?_⟩;have n_:=q_9 (Kd.zB (Kd.Zt (Kd.Zt (Kd.R_oldK (qB.apart (show qB w0 _ g s0_0 x1001_1 from by repeat (first|(with_reducible first|exact HI0.out|apply qB.alloc|apply qB.drewN|apply qB.drew|apply qB.vZ|refine qB.far ?_ NB0_435.out _|refine qB.far ?_ NB0_440.out _|refine qB.far ?_ NB0_441.out _)|exact HI0.out)) (byav HO_441000.out) (by decide)) hk) (Kd.kL ho0)) (Kd.kL ho1)) (fun _ h_=>h_.1)) (qJ.blkB hk BK435.out NB435_0.out (by simp)) (qJ.blkB hk BK440.out NB440_0.out (by simp)) (qJ.blkB hk BK441.out NB441_0.out (by simp)) (Kd.uZ ho0 (vM (w:=w) (g:=g) (row:=none) (byby GW435.out GW440.out GW441.out))) (Kd.uZ (Kd.Zw ho1 (g:=gb441) (o:=.cells #[.int .i64 0,.slice none 0 0,.slice none 0 0] 56 (0,0)) (byaf BK441.out)) (vM (w:=w) (g:=g) (row:=none) (byby GW435.out GW440.out GW441.out))) (qJ.trans (byby GW435.out GW440.out GW441.out) hk (.inl rfl)) (hb) (hi);clear HO_441000 BK435 BK440 BK441 HK HB HI0;obtain ⟨HO_441000,BK435,BK440,BK441,HO461,HO464,HK,HB,HI0⟩:=n_;clear hb hk hi;(try clear ho0);(try clear ho1);have hnb70:=NB441_435.out;have hnc70:=NB435_441.out;have hnb71:=NB441_440.out;have hnc71:=NB440_441.out;have hnb72:=NB441_0.out;have hnc72:=NB0_441.out;obtain ⟨hcz73_0,hcz73_1,hcz73_2,hfz73_0,hfz73_1,hfz73_2⟩:=cz3 BK441.out;obtain ⟨Ao74,co74,eo74⟩:=Kd.vJ HO461.out;subst eo74;obtain ⟨Ao75,co75,eo75⟩:=Kd.vJ HO464.out;subst eo75)|((with_reducible refine qI (f:=29) rfl ?_);refine qY (some 36) rfl rfl Try.func29 (by kernel_rfl) rfl #[.pointer (some ⟨g,0,none⟩),.int .i64 12] rfl byah ?_;(with_reducible refine (qZ.calls g s0_0 t465 12 t466 t467 w0 _ ?side1 ?side2 A49.out).mono ?_);(case side1=>exact bybw HI0.out NB0_435.out NB0_440.out NB0_441.out);(case side2=>exact bybx HI0.out GE435.out GE440.out GE441.out);rintro e w76 ⟨rfl,hi,hb,hk⟩;refine ⟨_,rfl,?_⟩;have n_:=q_9 (Kd.zB (Kd.uO (qB.apart (show qB w0 _ g s0_0 t465 from by repeat (first|(with_reducible first|exact HI0.out|apply qB.alloc|apply qB.drewN|apply qB.drew|apply qB.vZ|refine qB.far ?_ NB0_435.out _|refine qB.far ?_ NB0_440.out _|refine qB.far ?_ NB0_441.out _)|exact HI0.out)) (by (with_reducible repeat (first|apply Kd.jP|apply Kd.jO|apply Kd.jZ));exact (Kd.zB (Kd.jF (p:=⟨gb441,2,none⟩) (Kd.jF (p:=⟨gb441,1,none⟩) (Kd.jF (p:=⟨gb441,0,none⟩) (Kd.zB HO_441000.out (fun k_ hk=>(⟨hk,hk.1.1.2⟩ : _∧k_≠gb441))) (fun _ hk=>hk.2) (.int .i64 t458)) (fun _ hk=>hk.2) (.slice Ao74 t459.length co74)) (fun _ hk=>hk.2) (.slice Ao75 t462.length co75)) (fun _ h_=>h_.1))) (by decide)) hk (fun _ h=>h.2)) (fun _ h=>h.1)) (qJ.blk hk (g':=gb435) (o:=.cells #[.slice none 0 0] 25 (0,0)) (byak NB435_441.out BK435.out) NB435_0.out (by simp)) (qJ.blk hk (g':=gb440) (o:=.cells #[u441000] 25 (0,0)) (byak NB440_441.out BK440.out) NB440_0.out (by simp)) (qJ.blk hk (g':=gb441) (o:=.cells #[.int .i64 t458,.slice Ao74 t459.length co74,.slice Ao75 t462.length co75] 56 (0,0)) (by (with_reducible repeat (first|refine qF ?_ _|refine qG ?_|refine qE ?_ _));refine qO (cs:=#[.int .i64 t458,.slice Ao74 t459.length co74,.slice none 0 0]) ?_ 2 _ rfl;(with_reducible repeat (first|refine qF ?_ _|refine qG ?_|refine qE ?_ _));refine qO (cs:=#[.int .i64 t458,.slice none 0 0,.slice none 0 0]) ?_ 1 _ rfl;(with_reducible repeat (first|refine qF ?_ _|refine qG ?_|refine qE ?_ _));refine qO (cs:=#[.int .i64 0,.slice none 0 0,.slice none 0 0]) ?_ 0 _ rfl;(with_reducible repeat (first|refine qF ?_ _|refine qG ?_|refine qE ?_ _));exact BK441.out) NB441_0.out (by simp)) (Kd.zB (Kd.uO (qB.apart (show qB w0 _ g s0_0 t465 from by repeat (first|(with_reducible first|exact HI0.out|apply qB.alloc|apply qB.drewN|apply qB.drew|apply qB.vZ|refine qB.far ?_ NB0_435.out _|refine qB.far ?_ NB0_440.out _|refine qB.far ?_ NB0_441.out _)|exact HI0.out)) (by (with_reducible repeat (first|apply Kd.jP|apply Kd.jO|apply Kd.jZ));exact (Kd.zB (Kd.jF (p:=⟨gb441,2,none⟩) (Kd.jF (p:=⟨gb441,1,none⟩) (Kd.jF (p:=⟨gb441,0,none⟩) (Kd.uB HO461.out BK441.out (by decide)) (fun _ hk=>hk.2) (.int .i64 t458)) (fun _ hk=>hk.2) (.slice Ao74 t459.length co74)) (fun _ hk=>hk.2) (.slice Ao75 t462.length co75)) (fun _ h_=>h_.1))) (by decide)) hk (fun _ h=>h.2)) (fun _ h=>h.1)) (Kd.zB (Kd.uO (qB.apart (show qB w0 _ g s0_0 t465 from by repeat (first|(with_reducible first|exact HI0.out|apply qB.alloc|apply qB.drewN|apply qB.drew|apply qB.vZ|refine qB.far ?_ NB0_435.out _|refine qB.far ?_ NB0_440.out _|refine qB.far ?_ NB0_441.out _)|exact HI0.out)) (by (with_reducible repeat (first|apply Kd.jP|apply Kd.jO|apply Kd.jZ));exact (Kd.zB (Kd.jF (p:=⟨gb441,2,none⟩) (Kd.jF (p:=⟨gb441,1,none⟩) (Kd.jF (p:=⟨gb441,0,none⟩) (Kd.zB HO464.out (fun k_ hk=>(⟨hk,hk.2⟩ : _∧k_≠gb441))) (fun _ hk=>hk.2) (.int .i64 t458)) (fun _ hk=>hk.2) (.slice Ao74 t459.length co74)) (fun _ hk=>hk.2) (.slice Ao75 t462.length co75)) (fun _ h_=>h_.1))) (by decide)) hk (fun _ h=>h.2)) (fun _ h=>h.1)) (qJ.trans (byby GW435.out GW440.out GW441.out) hk (.inl rfl)) (hb) (hi);clear HO_441000 BK435 BK440 BK441 HO461 HO464 HK HB HI0;obtain ⟨HO_441000,BK435,BK440,BK441,HO461,HO464,HK,HB,HI0⟩:=n_;clear hb hk hi;have hnb77:=NB440_435.out;have hnc77:=NB435_440.out;have hnb78:=NB440_0.out;have hnc78:=NB0_440.out;obtain ⟨hcz79_0,hfz79_0⟩:=cz1 BK440.out;obtain ⟨hcz80_0,hcz80_1,hcz80_2,hfz80_0,hfz80_1,hfz80_2⟩:=cz3 BK441.out)|((with_reducible refine uU (b:=.append) (xs:=#[.tmp 45,.tmp 48]) rfl ?_);at_builtin;refine Kd.Qk k58 w.heap.size rfl (.tmp 45) (.tmp 48) 23 58 (.agg #[(.bool false),(.int .i64 0),(.slice none 0 0),(.slice none 0 0)]) 64 rfl Try.underlying23 info58 rfl (by decide) (by omega) u441000 x441000_1 (⟨true,(⟨t458,t459,t462⟩ : S56)⟩ : S58) [.bool true,.int .i64 t458,.slice Ao74 t459.length co74,.slice Ao75 t462.length co75] (fun k_=>k_≠gb441) (fun k_=>((fun k_=>k_≠gb441)) k_∧some k_≠(u441000 : Value).ownBlock) rfl rfl ?aP (fun _ hk=>hk) ?aF ?aO (Below.refl _ _) ?aS ?aL ?_;(case aP=>exact k58_mkM _ _ _ (⟨true,(⟨t458,t459,t462⟩ : S56)⟩ : S58) (Kd.zB (Kd.uB (Kd.Zx (HO461.out) (Kd.Zb HO_441000.out) (by decide)) BK441.out (by decide)) (fun k_ hk=>⟨hk.2,hk.1.2⟩)) (Kd.zB (Kd.Zx (HO464.out) (Kd.Zb HO_441000.out) (by decide)) (fun k_ hk=>⟨hk.1.2,hk.2⟩)));(case aF=>exact (fun k_ hk=>Kd.Qd (g:=gb441) (o:=.cells #[.int .i64 t458,.slice Ao74 t459.length co74,.slice Ao75 t462.length co75] 56 (0,0)) (byaf BK441.out) k_ hk));(case aO=>exact (byca HO_441000.out));(case aS=>exact (vM (w:=w) (g:=g) (row:=none) (byby GW435.out GW440.out GW441.out)));(case aL=>have:=LMc67.out;omega);intro v472 w81 ho hb hg hat;rw [← Ny471.out] at ho;have n_:=q_7 (vP (g:=gb435) (o:=.cells #[.slice none 0 0] 25 (0,0)) (byaf BK435.out) hg (Kd.R_ne HO_441000.out BK435.out (by decide))) (vP (g:=gb440) (o:=.cells #[u441000] 25 (0,0)) (byaf BK440.out) hg (Kd.R_ne HO_441000.out BK440.out (by decide))) (qB.grown (bybw HI0.out NB0_435.out NB0_440.out NB0_441.out) hg (qB.own_ne HI0.out HO_441000.out (by decide))) (vP (g:=gb441) (o:=.cells #[.int .i64 t458,.slice Ao74 t459.length co74,.slice Ao75 t462.length co75] 56 (0,0)) (byaf BK441.out) hg (Kd.R_ne HO_441000.out BK441.out (by decide))) (kT (bybx HI0.out GE435.out GE440.out GE441.out) HL.out hb) (qJ.trans (byby GW435.out GW440.out GW441.out) (qJ.Qx hg g) (Kd.Zq HO_441000.out)) (ho);clear BK435 BK440 HI0 BK441 HB HK HO_441000 HO461 HO464;obtain ⟨BK435,BK440,HI0,BK441,HB,HK,HO473⟩:=n_;clear ho hb hg hat;obtain ⟨Ao82,co82,eo82⟩:=Kd.vJ HO473.out;subst eo82;obtain ⟨hcz83_0,hfz83_0⟩:=cz1 BK440.out))
        go_roundg k1
        case measure=>have:=HK1.out;omega
        case rel=>exact ⟨(wrap64 (x8_1 + 1)),(t467),(y471),(.slice Ao82 y471.length co82),byae,H',⟨byai⟩,⟨by (with_reducible repeat (first|apply Kd.jP|apply Kd.jO|apply Kd.jZ));exact Kd.zB (Kd.jF (p:=⟨gb440,0,none⟩) (Kd.uB HO473.out BK440.out (by decide)) (fun _ hk=>hk.2) (.slice Ao82 y471.length co82)) (fun _ hk=>trivial)⟩,⟨bybe NB435_440.out BK435.out⟩,⟨by (with_reducible repeat (first|refine qF ?_ _|refine qG ?_|refine qE ?_ _));refine qO (cs:=#[u441000]) ?_ 0 _ rfl;(with_reducible repeat (first|refine qF ?_ _|refine qG ?_|refine qE ?_ _));exact BK440.out⟩,⟨bybw HI0.out NB0_435.out NB0_440.out NB0_441.out⟩,⟨byby GW435.out GW440.out GW441.out⟩,⟨bybx HI0.out GE435.out GE440.out GE441.out⟩⟩
       ·rw [if_neg c67] at H
        exact absurd H (by simp)
     ·rw [if_neg c47] at H
      obtain ⟨c47b0,c47b1⟩:=eqF c47
      replace H:=Option.bind_eq_some_iff.mp H
      obtain ⟨⟨t474,t475,t478,t481⟩,A840,H⟩:=H
      try dsimp only at H
      have A84:=qA.mk A840
      clear A840
      replace H:=Option.bind_eq_some_iff.mp H
      obtain ⟨⟨t482,t483⟩,A850,H⟩:=H
      try dsimp only at H
      have A85:=qA.mk A850
      clear A850
      by_cases c86 : t482 = 11
      ·rw [if_pos c86] at H
       obtain ⟨c86b0,c86b1⟩:=eqT c86
       clear c86
       by_cases c87 : x441000_1.length < 2199023255552
       ·rw [if_pos c87] at H
        have LMc87:=qA.mk c87
        clear c87
        obtain ⟨y484,hy484⟩ : ∃ y_ : List (S58),y_ = (x441000_1 ++ [(⟨false,(⟨0,([] : List Int),([] : List (S56))⟩ : S56)⟩ : S58)]):=⟨_,rfl⟩
        replace H : (zY.l0 k1 t436 t438 (wrap64 (x8_1 + 1)) s0_0 t483 y484) = some (r1,r2):=by first|(rw [hy484];with_reducible exact H)|(have H2_:=(Option.bind_some _ _).symm.trans H;rw [hy484];with_reducible exact H2_)|(have H2_:=(Option.bind_some _ _).symm.trans H;with_reducible exact H2_)|with_reducible exact H|(rw [hy484];exact H)|exact H
        have Ny484:=qA.mk hy484
        clear hy484
        have H':=qA.mk H
        clear H
        go_wp2_with (first|((with_reducible refine qP (N:=9) rfl ?_);refine zV (N:=9) (cs:=#[.int .i64 0,.slice none 0 0,.slice none 0 0]) (t:=56) ?_;intro gb441 hg w88 hbox hb;have n_:=q_12 (Kd.uP (Kd.Zy (byav HO_441000.out) gb441 (Nat.le_of_eq hg.symm)) hb) (qH BK435.out hb) (qH BK440.out hb) (qB.below (bybp HI0.out NB0_435.out NB0_440.out) hb) (qJ.trans (bybr GW435.out GW440.out) (qJ.of_below hb g none) (.inl rfl)) (qC (bybq HI0.out GE435.out GE440.out) hb) (hbox) ((bycq GW435.out GW440.out : w.heap.size ≤ gb441)) ((Nat.le_trans HW0.out (bycq GW435.out GW440.out : w.heap.size ≤ gb441) : w0.heap.size ≤ gb441)) ((by rw [hg];exact Nat.ne_of_lt (vF BK435.out) : gb435≠gb441)) ((by rw [hg];exact Nat.ne_of_lt (vF BK440.out) : gb440≠gb441)) ((by rw [hg];exact Nat.ne_of_lt (qB.lt (show qB w0 _ g s0_0 x1001_1 from by repeat (first|(with_reducible first|exact HI0.out|apply qB.alloc|apply qB.drewN|apply qB.drew|apply qB.vZ|refine qB.far ?_ NB0_435.out _|refine qB.far ?_ NB0_440.out _)|exact HI0.out))) : g≠gb441));clear HO_441000 BK435 BK440 HI0 HK HB;obtain ⟨HO_441000,BK435,BK440,HI0,HK,HB,BK441,GW441,GE441,NB435_441,NB440_441,NB0_441⟩:=n_;have NB441_435:=ns NB435_441;have NB441_440:=ns NB440_441;have NB441_0:=ns NB0_441;clear hb hbox hg)|((with_reducible refine qI (f:=32) rfl ?_);refine qY (some 24) rfl rfl Try.func32 (by kernel_rfl) rfl #[.pointer (some ⟨g,0,none⟩),.int .i64 t436,.int .i64 x8_1] rfl byah ?_;(with_reducible refine (jA.calls k1 g s0_0 x1001_1 t436 x8_1 t474 t475 t478 t481 w0 _ ?side1 ?side2 A84.out).mono ?_);(case side1=>exact bybw HI0.out NB0_435.out NB0_440.out NB0_441.out);(case side2=>exact bybx HI0.out GE435.out GE440.out GE441.out);rintro e w89 ⟨v476,v479,rfl,ho0,ho1,hi,hb,hk⟩;refine ⟨_,rfl,?_⟩;have n_:=q_9 (Kd.zB (Kd.Zt (Kd.Zt (Kd.R_oldK (qB.apart (show qB w0 _ g s0_0 x1001_1 from by repeat (first|(with_reducible first|exact HI0.out|apply qB.alloc|apply qB.drewN|apply qB.drew|apply qB.vZ|refine qB.far ?_ NB0_435.out _|refine qB.far ?_ NB0_440.out _|refine qB.far ?_ NB0_441.out _)|exact HI0.out)) (byav HO_441000.out) (by decide)) hk) (Kd.kL ho0)) (Kd.kL ho1)) (fun _ h_=>h_.1)) (qJ.blkB hk BK435.out NB435_0.out (by simp)) (qJ.blkB hk BK440.out NB440_0.out (by simp)) (qJ.blkB hk BK441.out NB441_0.out (by simp)) (Kd.uZ ho0 (vM (w:=w) (g:=g) (row:=none) (byby GW435.out GW440.out GW441.out))) (Kd.uZ (Kd.Zw ho1 (g:=gb441) (o:=.cells #[.int .i64 0,.slice none 0 0,.slice none 0 0] 56 (0,0)) (byaf BK441.out)) (vM (w:=w) (g:=g) (row:=none) (byby GW435.out GW440.out GW441.out))) (qJ.trans (byby GW435.out GW440.out GW441.out) hk (.inl rfl)) (hb) (hi);clear HO_441000 BK435 BK440 BK441 HK HB HI0;obtain ⟨HO_441000,BK435,BK440,BK441,HO477,HO480,HK,HB,HI0⟩:=n_;clear hb hk hi;(try clear ho0);(try clear ho1);have hnb90:=NB441_435.out;have hnc90:=NB435_441.out;have hnb91:=NB441_440.out;have hnc91:=NB440_441.out;have hnb92:=NB441_0.out;have hnc92:=NB0_441.out;obtain ⟨hcz93_0,hcz93_1,hcz93_2,hfz93_0,hfz93_1,hfz93_2⟩:=cz3 BK441.out;obtain ⟨Ao94,co94,eo94⟩:=Kd.vJ HO477.out;subst eo94;obtain ⟨Ao95,co95,eo95⟩:=Kd.vJ HO480.out;subst eo95)|((with_reducible refine qI (f:=29) rfl ?_);refine qY (some 36) rfl rfl Try.func29 (by kernel_rfl) rfl #[.pointer (some ⟨g,0,none⟩),.int .i64 12] rfl byah ?_;(with_reducible refine (qZ.calls g s0_0 t481 12 t482 t483 w0 _ ?side1 ?side2 A85.out).mono ?_);(case side1=>exact bybw HI0.out NB0_435.out NB0_440.out NB0_441.out);(case side2=>exact bybx HI0.out GE435.out GE440.out GE441.out);rintro e w96 ⟨rfl,hi,hb,hk⟩;refine ⟨_,rfl,?_⟩;have n_:=q_9 (Kd.zB (Kd.uO (qB.apart (show qB w0 _ g s0_0 t481 from by repeat (first|(with_reducible first|exact HI0.out|apply qB.alloc|apply qB.drewN|apply qB.drew|apply qB.vZ|refine qB.far ?_ NB0_435.out _|refine qB.far ?_ NB0_440.out _|refine qB.far ?_ NB0_441.out _)|exact HI0.out)) (by (with_reducible repeat (first|apply Kd.jP|apply Kd.jO|apply Kd.jZ));exact (Kd.zB (Kd.jF (p:=⟨gb441,2,none⟩) (Kd.jF (p:=⟨gb441,1,none⟩) (Kd.jF (p:=⟨gb441,0,none⟩) (Kd.zB HO_441000.out (fun k_ hk=>(⟨hk,hk.1.1.2⟩ : _∧k_≠gb441))) (fun _ hk=>hk.2) (.int .i64 t474)) (fun _ hk=>hk.2) (.slice Ao94 t475.length co94)) (fun _ hk=>hk.2) (.slice Ao95 t478.length co95)) (fun _ h_=>h_.1))) (by decide)) hk (fun _ h=>h.2)) (fun _ h=>h.1)) (qJ.blk hk (g':=gb435) (o:=.cells #[.slice none 0 0] 25 (0,0)) (byak NB435_441.out BK435.out) NB435_0.out (by simp)) (qJ.blk hk (g':=gb440) (o:=.cells #[u441000] 25 (0,0)) (byak NB440_441.out BK440.out) NB440_0.out (by simp)) (qJ.blk hk (g':=gb441) (o:=.cells #[.int .i64 t474,.slice Ao94 t475.length co94,.slice Ao95 t478.length co95] 56 (0,0)) (by (with_reducible repeat (first|refine qF ?_ _|refine qG ?_|refine qE ?_ _));refine qO (cs:=#[.int .i64 t474,.slice Ao94 t475.length co94,.slice none 0 0]) ?_ 2 _ rfl;(with_reducible repeat (first|refine qF ?_ _|refine qG ?_|refine qE ?_ _));refine qO (cs:=#[.int .i64 t474,.slice none 0 0,.slice none 0 0]) ?_ 1 _ rfl;(with_reducible repeat (first|refine qF ?_ _|refine qG ?_|refine qE ?_ _));refine qO (cs:=#[.int .i64 0,.slice none 0 0,.slice none 0 0]) ?_ 0 _ rfl;(with_reducible repeat (first|refine qF ?_ _|refine qG ?_|refine qE ?_ _));exact BK441.out) NB441_0.out (by simp)) (Kd.zB (Kd.uO (qB.apart (show qB w0 _ g s0_0 t481 from by repeat (first|(with_reducible first|exact HI0.out|apply qB.alloc|apply qB.drewN|apply qB.drew|apply qB.vZ|refine qB.far ?_ NB0_435.out _|refine qB.far ?_ NB0_440.out _|refine qB.far ?_ NB0_441.out _)|exact HI0.out)) (by (with_reducible repeat (first|apply Kd.jP|apply Kd.jO|apply Kd.jZ));exact (Kd.zB (Kd.jF (p:=⟨gb441,2,none⟩) (Kd.jF (p:=⟨gb441,1,none⟩) (Kd.jF (p:=⟨gb441,0,none⟩) (Kd.uB HO477.out BK441.out (by decide)) (fun _ hk=>hk.2) (.int .i64 t474)) (fun _ hk=>hk.2) (.slice Ao94 t475.length co94)) (fun _ hk=>hk.2) (.slice Ao95 t478.length co95)) (fun _ h_=>h_.1))) (by decide)) hk (fun _ h=>h.2)) (fun _ h=>h.1)) (Kd.zB (Kd.uO (qB.apart (show qB w0 _ g s0_0 t481 from by repeat (first|(with_reducible first|exact HI0.out|apply qB.alloc|apply qB.drewN|apply qB.drew|apply qB.vZ|refine qB.far ?_ NB0_435.out _|refine qB.far ?_ NB0_440.out _|refine qB.far ?_ NB0_441.out _)|exact HI0.out)) (by (with_reducible repeat (first|apply Kd.jP|apply Kd.jO|apply Kd.jZ));exact (Kd.zB (Kd.jF (p:=⟨gb441,2,none⟩) (Kd.jF (p:=⟨gb441,1,none⟩) (Kd.jF (p:=⟨gb441,0,none⟩) (Kd.zB HO480.out (fun k_ hk=>(⟨hk,hk.2⟩ : _∧k_≠gb441))) (fun _ hk=>hk.2) (.int .i64 t474)) (fun _ hk=>hk.2) (.slice Ao94 t475.length co94)) (fun _ hk=>hk.2) (.slice Ao95 t478.length co95)) (fun _ h_=>h_.1))) (by decide)) hk (fun _ h=>h.2)) (fun _ h=>h.1)) (qJ.trans (byby GW435.out GW440.out GW441.out) hk (.inl rfl)) (hb) (hi);clear HO_441000 BK435 BK440 BK441 HO477 HO480 HK HB HI0;obtain ⟨HO_441000,BK435,BK440,BK441,HO477,HO480,HK,HB,HI0⟩:=n_;clear hb hk hi;have hnb97:=NB440_435.out;have hnc97:=NB435_440.out;have hnb98:=NB440_0.out;have hnc98:=NB0_440.out;obtain ⟨hcz99_0,hfz99_0⟩:=cz1 BK440.out)|((with_reducible refine uU (b:=.append) (xs:=#[.tmp 39,.tmp 41]) rfl ?_);at_builtin;refine Kd.Qk k58 w.heap.size rfl (.tmp 39) (.tmp 41) 23 58 (.agg #[(.bool false),(.int .i64 0),(.slice none 0 0),(.slice none 0 0)]) 64 rfl Try.underlying23 info58 rfl (by decide) (by omega) u441000 x441000_1 (⟨false,(⟨0,([] : List Int),([] : List (S56))⟩ : S56)⟩ : S58) [.bool false,.int .i64 0,.slice none 0 0,.slice none 0 0] (fun k_=>some k_≠(.slice Ao94 t475.length co94 : Value).ownBlock∧some k_≠(.slice Ao95 t478.length co95 : Value).ownBlock∧k_≠gb441) (fun k_=>((fun k_=>some k_≠(.slice Ao94 t475.length co94 : Value).ownBlock∧some k_≠(.slice Ao95 t478.length co95 : Value).ownBlock∧k_≠gb441)) k_∧some k_≠(u441000 : Value).ownBlock) rfl rfl ?aP (fun _ hk=>hk) ?aF ?aO (Below.refl _ _) ?aS ?aL ?_;(case aP=>exact k58_mkM _ _ _ (⟨false,(⟨0,([] : List Int),([] : List (S56))⟩ : S56)⟩ : S58) (Kd.R_nil _ _ _ _ _) (Kd.R_nil _ _ _ _ _));(case aF=>exact (fun k_ hk=>⟨Kd.fresh' (Kd.R_lt (byav HO477.out)) k_ hk,Kd.fresh' (Kd.R_lt (byav HO480.out)) k_ hk,Kd.Qd (g:=gb441) (o:=.cells #[.int .i64 t474,.slice Ao94 t475.length co94,.slice Ao95 t478.length co95] 56 (0,0)) (byaf BK441.out) k_ hk⟩));(case aO=>exact (bybz HO_441000.out));(case aS=>exact (vM (w:=w) (g:=g) (row:=none) (byby GW435.out GW440.out GW441.out)));(case aL=>have:=LMc87.out;omega);intro v485 w100 ho hb hg hat;rw [← Ny484.out] at ho;have n_:=q_9 (vP (g:=gb435) (o:=.cells #[.slice none 0 0] 25 (0,0)) (byaf BK435.out) hg (Kd.R_ne HO_441000.out BK435.out (by decide))) (vP (g:=gb440) (o:=.cells #[u441000] 25 (0,0)) (byaf BK440.out) hg (Kd.R_ne HO_441000.out BK440.out (by decide))) (qB.grown (bybw HI0.out NB0_435.out NB0_440.out NB0_441.out) hg (qB.own_ne HI0.out HO_441000.out (by decide))) (vP (g:=gb441) (o:=.cells #[.int .i64 t474,.slice Ao94 t475.length co94,.slice Ao95 t478.length co95] 56 (0,0)) (byaf BK441.out) hg (Kd.R_ne HO_441000.out BK441.out (by decide))) (Kd.R_over' (byav HO477.out) (Kd.Zb (byav HO_441000.out)) (by decide) hg) (Kd.R_over' (byav HO480.out) (Kd.Zb (byav HO_441000.out)) (by decide) hg) (kT (bybx HI0.out GE435.out GE440.out GE441.out) HL.out hb) (qJ.trans (byby GW435.out GW440.out GW441.out) (qJ.Qx hg g) (Kd.Zq HO_441000.out)) (ho);clear BK435 BK440 HI0 BK441 HO477 HO480 HB HK HO_441000;obtain ⟨BK435,BK440,HI0,BK441,HO477,HO480,HB,HK,HO486⟩:=n_;clear ho hb hg hat;obtain ⟨Ao101,co101,eo101⟩:=Kd.vJ HO486.out;subst eo101;obtain ⟨hcz102_0,hfz102_0⟩:=cz1 BK440.out))
        go_roundg k1
        case measure=>have:=HK1.out;omega
        case rel=>exact ⟨(wrap64 (x8_1 + 1)),(t483),(y484),(.slice Ao101 y484.length co101),byae,H',⟨byai⟩,⟨by (with_reducible repeat (first|apply Kd.jP|apply Kd.jO|apply Kd.jZ));exact Kd.zB (Kd.jF (p:=⟨gb440,0,none⟩) (Kd.uB HO486.out BK440.out (by decide)) (fun _ hk=>hk.2) (.slice Ao101 y484.length co101)) (fun _ hk=>trivial)⟩,⟨bybe NB435_440.out BK435.out⟩,⟨by (with_reducible repeat (first|refine qF ?_ _|refine qG ?_|refine qE ?_ _));refine qO (cs:=#[u441000]) ?_ 0 _ rfl;(with_reducible repeat (first|refine qF ?_ _|refine qG ?_|refine qE ?_ _));exact BK440.out⟩,⟨bybw HI0.out NB0_435.out NB0_440.out NB0_441.out⟩,⟨byby GW435.out GW440.out GW441.out⟩,⟨bybx HI0.out GE435.out GE440.out GE441.out⟩⟩
       ·rw [if_neg c87] at H
        exact absurd H (by simp)
      ·rw [if_neg c86] at H
       obtain ⟨c86b0,c86b1⟩:=eqF c86
       by_cases c103 : x441000_1.length < 2199023255552
       ·rw [if_pos c103] at H
        have LMc103:=qA.mk c103
        clear c103
        obtain ⟨y487,hy487⟩ : ∃ y_ : List (S58),y_ = (x441000_1 ++ [(⟨true,(⟨t474,t475,t478⟩ : S56)⟩ : S58)]):=⟨_,rfl⟩
        replace H : (zY.l0 k1 t436 t438 (wrap64 (x8_1 + 1)) s0_0 t483 y487) = some (r1,r2):=by first|(rw [hy487];with_reducible exact H)|(have H2_:=(Option.bind_some _ _).symm.trans H;rw [hy487];with_reducible exact H2_)|(have H2_:=(Option.bind_some _ _).symm.trans H;with_reducible exact H2_)|with_reducible exact H|(rw [hy487];exact H)|exact H
        have Ny487:=qA.mk hy487
        clear hy487
        have H':=qA.mk H
        clear H
        go_wp2_with (first|((with_reducible refine qP (N:=9) rfl ?_);refine zV (N:=9) (cs:=#[.int .i64 0,.slice none 0 0,.slice none 0 0]) (t:=56) ?_;intro gb441 hg w104 hbox hb;have n_:=q_12 (Kd.uP (Kd.Zy (byav HO_441000.out) gb441 (Nat.le_of_eq hg.symm)) hb) (qH BK435.out hb) (qH BK440.out hb) (qB.below (bybp HI0.out NB0_435.out NB0_440.out) hb) (qJ.trans (bybr GW435.out GW440.out) (qJ.of_below hb g none) (.inl rfl)) (qC (bybq HI0.out GE435.out GE440.out) hb) (hbox) ((bycq GW435.out GW440.out : w.heap.size ≤ gb441)) ((Nat.le_trans HW0.out (bycq GW435.out GW440.out : w.heap.size ≤ gb441) : w0.heap.size ≤ gb441)) ((by rw [hg];exact Nat.ne_of_lt (vF BK435.out) : gb435≠gb441)) ((by rw [hg];exact Nat.ne_of_lt (vF BK440.out) : gb440≠gb441)) ((by rw [hg];exact Nat.ne_of_lt (qB.lt (show qB w0 _ g s0_0 x1001_1 from by repeat (first|(with_reducible first|exact HI0.out|apply qB.alloc|apply qB.drewN|apply qB.drew|apply qB.vZ|refine qB.far ?_ NB0_435.out _|refine qB.far ?_ NB0_440.out _)|exact HI0.out))) : g≠gb441));clear HO_441000 BK435 BK440 HI0 HK HB;obtain ⟨HO_441000,BK435,BK440,HI0,HK,HB,BK441,GW441,GE441,NB435_441,NB440_441,NB0_441⟩:=n_;have NB441_435:=ns NB435_441;have NB441_440:=ns NB440_441;have NB441_0:=ns NB0_441;clear hb hbox hg)|((with_reducible refine qI (f:=32) rfl ?_);refine qY (some 24) rfl rfl Try.func32 (by kernel_rfl) rfl #[.pointer (some ⟨g,0,none⟩),.int .i64 t436,.int .i64 x8_1] rfl byah ?_;(with_reducible refine (jA.calls k1 g s0_0 x1001_1 t436 x8_1 t474 t475 t478 t481 w0 _ ?side1 ?side2 A84.out).mono ?_);(case side1=>exact bybw HI0.out NB0_435.out NB0_440.out NB0_441.out);(case side2=>exact bybx HI0.out GE435.out GE440.out GE441.out);rintro e w105 ⟨v476,v479,rfl,ho0,ho1,hi,hb,hk⟩;refine ⟨_,rfl,?_⟩;have n_:=q_9 (Kd.zB (Kd.Zt (Kd.Zt (Kd.R_oldK (qB.apart (show qB w0 _ g s0_0 x1001_1 from by repeat (first|(with_reducible first|exact HI0.out|apply qB.alloc|apply qB.drewN|apply qB.drew|apply qB.vZ|refine qB.far ?_ NB0_435.out _|refine qB.far ?_ NB0_440.out _|refine qB.far ?_ NB0_441.out _)|exact HI0.out)) (byav HO_441000.out) (by decide)) hk) (Kd.kL ho0)) (Kd.kL ho1)) (fun _ h_=>h_.1)) (qJ.blkB hk BK435.out NB435_0.out (by simp)) (qJ.blkB hk BK440.out NB440_0.out (by simp)) (qJ.blkB hk BK441.out NB441_0.out (by simp)) (Kd.uZ ho0 (vM (w:=w) (g:=g) (row:=none) (byby GW435.out GW440.out GW441.out))) (Kd.uZ (Kd.Zw ho1 (g:=gb441) (o:=.cells #[.int .i64 0,.slice none 0 0,.slice none 0 0] 56 (0,0)) (byaf BK441.out)) (vM (w:=w) (g:=g) (row:=none) (byby GW435.out GW440.out GW441.out))) (qJ.trans (byby GW435.out GW440.out GW441.out) hk (.inl rfl)) (hb) (hi);clear HO_441000 BK435 BK440 BK441 HK HB HI0;obtain ⟨HO_441000,BK435,BK440,BK441,HO477,HO480,HK,HB,HI0⟩:=n_;clear hb hk hi;(try clear ho0);(try clear ho1);have hnb106:=NB441_435.out;have hnc106:=NB435_441.out;have hnb107:=NB441_440.out;have hnc107:=NB440_441.out;have hnb108:=NB441_0.out;have hnc108:=NB0_441.out;obtain ⟨hcz109_0,hcz109_1,hcz109_2,hfz109_0,hfz109_1,hfz109_2⟩:=cz3 BK441.out;obtain ⟨Ao110,co110,eo110⟩:=Kd.vJ HO477.out;subst eo110;obtain ⟨Ao111,co111,eo111⟩:=Kd.vJ HO480.out;subst eo111)|((with_reducible refine qI (f:=29) rfl ?_);refine qY (some 36) rfl rfl Try.func29 (by kernel_rfl) rfl #[.pointer (some ⟨g,0,none⟩),.int .i64 12] rfl byah ?_;(with_reducible refine (qZ.calls g s0_0 t481 12 t482 t483 w0 _ ?side1 ?side2 A85.out).mono ?_);(case side1=>exact bybw HI0.out NB0_435.out NB0_440.out NB0_441.out);(case side2=>exact bybx HI0.out GE435.out GE440.out GE441.out);rintro e w112 ⟨rfl,hi,hb,hk⟩;refine ⟨_,rfl,?_⟩;have n_:=q_9 (Kd.zB (Kd.uO (qB.apart (show qB w0 _ g s0_0 t481 from by repeat (first|(with_reducible first|exact HI0.out|apply qB.alloc|apply qB.drewN|apply qB.drew|apply qB.vZ|refine qB.far ?_ NB0_435.out _|refine qB.far ?_ NB0_440.out _|refine qB.far ?_ NB0_441.out _)|exact HI0.out)) (by (with_reducible repeat (first|apply Kd.jP|apply Kd.jO|apply Kd.jZ));exact (Kd.zB (Kd.jF (p:=⟨gb441,2,none⟩) (Kd.jF (p:=⟨gb441,1,none⟩) (Kd.jF (p:=⟨gb441,0,none⟩) (Kd.zB HO_441000.out (fun k_ hk=>(⟨hk,hk.1.1.2⟩ : _∧k_≠gb441))) (fun _ hk=>hk.2) (.int .i64 t474)) (fun _ hk=>hk.2) (.slice Ao110 t475.length co110)) (fun _ hk=>hk.2) (.slice Ao111 t478.length co111)) (fun _ h_=>h_.1))) (by decide)) hk (fun _ h=>h.2)) (fun _ h=>h.1)) (qJ.blk hk (g':=gb435) (o:=.cells #[.slice none 0 0] 25 (0,0)) (byak NB435_441.out BK435.out) NB435_0.out (by simp)) (qJ.blk hk (g':=gb440) (o:=.cells #[u441000] 25 (0,0)) (byak NB440_441.out BK440.out) NB440_0.out (by simp)) (qJ.blk hk (g':=gb441) (o:=.cells #[.int .i64 t474,.slice Ao110 t475.length co110,.slice Ao111 t478.length co111] 56 (0,0)) (by (with_reducible repeat (first|refine qF ?_ _|refine qG ?_|refine qE ?_ _));refine qO (cs:=#[.int .i64 t474,.slice Ao110 t475.length co110,.slice none 0 0]) ?_ 2 _ rfl;(with_reducible repeat (first|refine qF ?_ _|refine qG ?_|refine qE ?_ _));refine qO (cs:=#[.int .i64 t474,.slice none 0 0,.slice none 0 0]) ?_ 1 _ rfl;(with_reducible repeat (first|refine qF ?_ _|refine qG ?_|refine qE ?_ _));refine qO (cs:=#[.int .i64 0,.slice none 0 0,.slice none 0 0]) ?_ 0 _ rfl;(with_reducible repeat (first|refine qF ?_ _|refine qG ?_|refine qE ?_ _));exact BK441.out) NB441_0.out (by simp)) (Kd.zB (Kd.uO (qB.apart (show qB w0 _ g s0_0 t481 from by repeat (first|(with_reducible first|exact HI0.out|apply qB.alloc|apply qB.drewN|apply qB.drew|apply qB.vZ|refine qB.far ?_ NB0_435.out _|refine qB.far ?_ NB0_440.out _|refine qB.far ?_ NB0_441.out _)|exact HI0.out)) (by (with_reducible repeat (first|apply Kd.jP|apply Kd.jO|apply Kd.jZ));exact (Kd.zB (Kd.jF (p:=⟨gb441,2,none⟩) (Kd.jF (p:=⟨gb441,1,none⟩) (Kd.jF (p:=⟨gb441,0,none⟩) (Kd.uB HO477.out BK441.out (by decide)) (fun _ hk=>hk.2) (.int .i64 t474)) (fun _ hk=>hk.2) (.slice Ao110 t475.length co110)) (fun _ hk=>hk.2) (.slice Ao111 t478.length co111)) (fun _ h_=>h_.1))) (by decide)) hk (fun _ h=>h.2)) (fun _ h=>h.1)) (Kd.zB (Kd.uO (qB.apart (show qB w0 _ g s0_0 t481 from by repeat (first|(with_reducible first|exact HI0.out|apply qB.alloc|apply qB.drewN|apply qB.drew|apply qB.vZ|refine qB.far ?_ NB0_435.out _|refine qB.far ?_ NB0_440.out _|refine qB.far ?_ NB0_441.out _)|exact HI0.out)) (by (with_reducible repeat (first|apply Kd.jP|apply Kd.jO|apply Kd.jZ));exact (Kd.zB (Kd.jF (p:=⟨gb441,2,none⟩) (Kd.jF (p:=⟨gb441,1,none⟩) (Kd.jF (p:=⟨gb441,0,none⟩) (Kd.zB HO480.out (fun k_ hk=>(⟨hk,hk.2⟩ : _∧k_≠gb441))) (fun _ hk=>hk.2) (.int .i64 t474)) (fun _ hk=>hk.2) (.slice Ao110 t475.length co110)) (fun _ hk=>hk.2) (.slice Ao111 t478.length co111)) (fun _ h_=>h_.1))) (by decide)) hk (fun _ h=>h.2)) (fun _ h=>h.1)) (qJ.trans (byby GW435.out GW440.out GW441.out) hk (.inl rfl)) (hb) (hi);clear HO_441000 BK435 BK440 BK441 HO477 HO480 HK HB HI0;obtain ⟨HO_441000,BK435,BK440,BK441,HO477,HO480,HK,HB,HI0⟩:=n_;clear hb hk hi;have hnb113:=NB440_435.out;have hnc113:=NB435_440.out;have hnb114:=NB440_0.out;have hnc114:=NB0_440.out;obtain ⟨hcz115_0,hfz115_0⟩:=cz1 BK440.out;obtain ⟨hcz116_0,hcz116_1,hcz116_2,hfz116_0,hfz116_1,hfz116_2⟩:=cz3 BK441.out)|((with_reducible refine uU (b:=.append) (xs:=#[.tmp 45,.tmp 48]) rfl ?_);at_builtin;refine Kd.Qk k58 w.heap.size rfl (.tmp 45) (.tmp 48) 23 58 (.agg #[(.bool false),(.int .i64 0),(.slice none 0 0),(.slice none 0 0)]) 64 rfl Try.underlying23 info58 rfl (by decide) (by omega) u441000 x441000_1 (⟨true,(⟨t474,t475,t478⟩ : S56)⟩ : S58) [.bool true,.int .i64 t474,.slice Ao110 t475.length co110,.slice Ao111 t478.length co111] (fun k_=>k_≠gb441) (fun k_=>((fun k_=>k_≠gb441)) k_∧some k_≠(u441000 : Value).ownBlock) rfl rfl ?aP (fun _ hk=>hk) ?aF ?aO (Below.refl _ _) ?aS ?aL ?_;(case aP=>exact k58_mkM _ _ _ (⟨true,(⟨t474,t475,t478⟩ : S56)⟩ : S58) (Kd.zB (Kd.uB (Kd.Zx (HO477.out) (Kd.Zb HO_441000.out) (by decide)) BK441.out (by decide)) (fun k_ hk=>⟨hk.2,hk.1.2⟩)) (Kd.zB (Kd.Zx (HO480.out) (Kd.Zb HO_441000.out) (by decide)) (fun k_ hk=>⟨hk.1.2,hk.2⟩)));(case aF=>exact (fun k_ hk=>Kd.Qd (g:=gb441) (o:=.cells #[.int .i64 t474,.slice Ao110 t475.length co110,.slice Ao111 t478.length co111] 56 (0,0)) (byaf BK441.out) k_ hk));(case aO=>exact (byca HO_441000.out));(case aS=>exact (vM (w:=w) (g:=g) (row:=none) (byby GW435.out GW440.out GW441.out)));(case aL=>have:=LMc103.out;omega);intro v488 w117 ho hb hg hat;rw [← Ny487.out] at ho;have n_:=q_7 (vP (g:=gb435) (o:=.cells #[.slice none 0 0] 25 (0,0)) (byaf BK435.out) hg (Kd.R_ne HO_441000.out BK435.out (by decide))) (vP (g:=gb440) (o:=.cells #[u441000] 25 (0,0)) (byaf BK440.out) hg (Kd.R_ne HO_441000.out BK440.out (by decide))) (qB.grown (bybw HI0.out NB0_435.out NB0_440.out NB0_441.out) hg (qB.own_ne HI0.out HO_441000.out (by decide))) (vP (g:=gb441) (o:=.cells #[.int .i64 t474,.slice Ao110 t475.length co110,.slice Ao111 t478.length co111] 56 (0,0)) (byaf BK441.out) hg (Kd.R_ne HO_441000.out BK441.out (by decide))) (kT (bybx HI0.out GE435.out GE440.out GE441.out) HL.out hb) (qJ.trans (byby GW435.out GW440.out GW441.out) (qJ.Qx hg g) (Kd.Zq HO_441000.out)) (ho);clear BK435 BK440 HI0 BK441 HB HK HO_441000 HO477 HO480;obtain ⟨BK435,BK440,HI0,BK441,HB,HK,HO489⟩:=n_;clear ho hb hg hat;obtain ⟨Ao118,co118,eo118⟩:=Kd.vJ HO489.out;subst eo118;obtain ⟨hcz119_0,hfz119_0⟩:=cz1 BK440.out))
        go_roundg k1
        case measure=>have:=HK1.out;omega
        case rel=>exact ⟨(wrap64 (x8_1 + 1)),(t483),(y487),(.slice Ao118 y487.length co118),byae,H',⟨byai⟩,⟨by (with_reducible repeat (first|apply Kd.jP|apply Kd.jO|apply Kd.jZ));exact Kd.zB (Kd.jF (p:=⟨gb440,0,none⟩) (Kd.uB HO489.out BK440.out (by decide)) (fun _ hk=>hk.2) (.slice Ao118 y487.length co118)) (fun _ hk=>trivial)⟩,⟨bybe NB435_440.out BK435.out⟩,⟨by (with_reducible repeat (first|refine qF ?_ _|refine qG ?_|refine qE ?_ _));refine qO (cs:=#[u441000]) ?_ 0 _ rfl;(with_reducible repeat (first|refine qF ?_ _|refine qG ?_|refine qE ?_ _));exact BK440.out⟩,⟨bybw HI0.out NB0_435.out NB0_440.out NB0_441.out⟩,⟨byby GW435.out GW440.out GW441.out⟩,⟨bybx HI0.out GE435.out GE440.out GE441.out⟩⟩
       ·rw [if_neg c103] at H
        exact absurd H (by simp)
   ·rw [if_neg c9] at H
    have c9b0:=decide_eq_false c9
    clear c9
    simp only [Option.some.injEq,Prod.mk.injEq] at H
    obtain ⟨rfl,rfl⟩:=H
    have hnb120:=NB440_435.out
    have hnc120:=NB435_440.out
    have hnb121:=NB440_0.out
    have hnc121:=NB0_440.out
    obtain ⟨hcz122_0,hfz122_0⟩:=cz1 BK440.out
    obtain ⟨Ao123,co123,eo123⟩:=Kd.vJ HO_441000.out
    subst eo123
    have hnb124:=NB435_0.out
    have hnc124:=NB0_435.out
    obtain ⟨hcz125_0,hfz125_0⟩:=cz1 BK435.out
    go_wp2
    refine bodyPost_ret (results_cell_row rfl _ _ gb435 25 #[.slice Ao123 x441000_1.length co123] (0,0) _ rfl (bybg BK435.out) Try.underlying25 rfl (by kernel_rfl)) rfl ?_
    exact ⟨_,byac,by (with_reducible repeat (first|apply Kd.jP|apply Kd.jO|apply Kd.jZ));exact Kd.zB (Kd.jF (p:=⟨gb435,0,none⟩) (Kd.uB HO_441000.out BK435.out (by decide)) (fun _ hk=>hk.2) (.slice Ao123 x441000_1.length co123)) (fun _ hk=>trivial),bybp HI0.out NB0_435.out NB0_440.out,bybq HI0.out GE435.out GE440.out,bybr GW435.out GW440.out⟩
def zU.l0 : Nat→Int→List (S58)→Int→Int→Option (Int)
 | 0,_,_,_,_=>none
 | k + 1,x3,x7,x8,x9=>if x9 < x8 then (if 0 ≤ x9 then (if x9 < (x7.length : Int) then (if x9 < 10 then (if (zD x7 x9).f0 = true then (zU.l0 k (Go.bits .or .i64 x3 (shl .i64 1 x9)) x7 x8 (wrap64 (x9 + 1))) else (zU.l0 k x3 x7 x8 (wrap64 (x9 + 1)))) else (zU.l0 k x3 x7 x8 (wrap64 (x9 + 1)))) else (none)) else (none)) else (some x3)
def zU.f (k : Nat) (l0_0 : List (S58)) : Option (Int):=zU.l0 k 0 l0_0 (l0_0.length : Int) 0
set_option maxHeartbeats 8000000 in
set_option maxRecDepth 100000 in
theorem zU.calls (k : Nat) (A0_0 : Option Addr) (c0_0 : Nat) (l0_0 : List (S58)) (r : Int) (w : World) (hr0_0 : Kd.C k58 w A0_0 l0_0.length l0_0) (hc0_0 : l0_0.length ≤ c0_0) (h : zU.f k l0_0 = some r) :
  Calls Try.prog 44 #[.agg #[.slice A0_0 l0_0.length c0_0]] w fun e w'=>e = .returned (.int .i64 r)∧Below w.heap.size w w':=by
 have hu25:=Try.underlying25
 have hu58:=Try.underlying58
 have HR0_0:=qA.mk hr0_0
 have HC0_0:=qA.mk hc0_0
 clear hr0_0 hc0_0
 have HB:=qA.mk (Below.refl w.heap.size w)
 unfold zU.f at h
 have H:=h
 clear h
 have H':=qA.mk H
 clear H
 go_enter Try.func44,Try.ntmps44
 go_wp2_with (first|((with_reducible refine qP (N:=1) rfl ?_);refine zV (N:=1) (cs:=#[.slice A0_0 l0_0.length c0_0]) (t:=25) ?_;intro gb490 hg w2 hbox hb;have n_:=q_4 (qC byab hb) (hbox) ((byck : w.heap.size ≤ gb490)) ((byck : w.heap.size ≤ gb490));clear HB;obtain ⟨HB,BK490,GW490,GE490⟩:=n_;clear hb hbox hg;obtain ⟨hcz3_0,hfz3_0⟩:=cz1 BK490.out))
 go_loopg [3,9] k (fun kq v3 v9 w'=>∃ (x3_1 : Int) (x9_1 : Int),v3 = .int .i64 x3_1∧v9 = .int .i64 x9_1∧qA (zU.l0 kq x3_1 l0_0 (l0_0.length : Int) x9_1 = some r)∧qA (kq ≤ k)∧qA (w'.heap[gb490]? = some (.cells #[(.slice A0_0 l0_0.length c0_0)] 25 (0,0)))∧qA (Below w.heap.size w w'))
 case atStart=>exact ⟨(0),(0),byae,byae,H',⟨Nat.le_refl _⟩,⟨byaf BK490.out⟩,⟨byad GE490.out⟩⟩
 case round =>
  clear H'
  obtain ⟨x3_1,x9_1,rfl,rfl,HA,HK1,BK490,HB⟩:=hrel
  cases gk with
  | zero=>exact absurd HA.out (by simp [zU.l0])
  | succ k1 =>
   have H:=HA.out
   clear HA
   simp only [zU.l0] at H
   by_cases c4 : x9_1 < (l0_0.length : Int)
   ·rw [if_pos c4] at H
    have c4b0:=decide_eq_true c4
    clear c4
    by_cases c5 : 0 ≤ x9_1
    ·rw [if_pos c5] at H
     have c5b0:=decide_eq_true c5
     clear c5
     by_cases c6 : x9_1 < (l0_0.length : Int)
     ·rw [if_pos c6] at H
      have c6b0:=decide_eq_true c6
      clear c6
      by_cases c7 : x9_1 < 10
      ·rw [if_pos c7] at H
       have c7b0:=decide_eq_true c7
       clear c7
       obtain ⟨bq8,hbq8⟩ : ∃ b_ : Bool,b_ = ((zD l0_0 x9_1).f0):=⟨_,rfl⟩
       replace H : (if bq8 = true then (zU.l0 k1 (Go.bits .or .i64 x3_1 (shl .i64 1 x9_1)) l0_0 (l0_0.length : Int) (wrap64 (x9_1 + 1))) else (zU.l0 k1 x3_1 l0_0 (l0_0.length : Int) (wrap64 (x9_1 + 1)))) = some r:=by rw [← hbq8] at H;exact H
       have Nbq8:=qA.mk hbq8
       clear hbq8
       by_cases c9 : bq8 = true
       ·subst c9
        rw [if_pos rfl] at H
        have c10b0:=eq_true (of_decide_eq_true byag : 0 ≤ x9_1)
        obtain ⟨ji11,hji11⟩ : ∃ j_ : Int,(shl .i64 1 x9_1) = j_:=⟨_,rfl⟩
        (first|rw [hji11] at H|(simp only [hji11] at H))
        obtain ⟨hji11_,hji11z,hji11u,hji11v,hji11y,hji11x⟩:=jiA hji11
        have H':=qA.mk H
        clear H
        have p491 : 0 ≤ (x9_1 : Int):=of_decide_eq_true byag
        have q491 : x9_1 < (l0_0.length : Int):=of_decide_eq_true byag
        obtain ⟨ad491,A491_2,c491_2,A491_3,c491_3,e491,hx491_0,hx491_1,hx491_2,hx491_3,hl491_2,hi491_2,hl491_3,hi491_3⟩:=Zm HR0_0.out x9_1 p491 q491
        (try rw [← Nbq8.out] at hx491_0)
        cases e491
        replace hx491_0:=(HB.out.cell (World.block_lt_of_cell? w _ hx491_0)).trans hx491_0
        replace hx491_1:=(HB.out.cell (World.block_lt_of_cell? w _ hx491_1)).trans hx491_1
        replace hx491_2:=(HB.out.cell (World.block_lt_of_cell? w _ hx491_2)).trans hx491_2
        replace hx491_3:=(HB.out.cell (World.block_lt_of_cell? w _ hx491_3)).trans hx491_3
        have HR491_2:=qA.mk hi491_2
        have HC491_2:=qA.mk hl491_2
        clear hi491_2 hl491_2
        have HR491_3:=qA.mk hi491_3
        have HC491_3:=qA.mk hl491_3
        clear hi491_3 hl491_3
        replace p491:=eq_true p491
        replace q491:=eq_true q491
        go_wp2_with (first|((with_reducible refine qP (N:=5) rfl ?_);refine zV (N:=5) (cs:=#[.bool false,.int .i64 0,.slice none 0 0,.slice none 0 0]) (t:=58) ?_;intro gb492 hg w12 hbox hb;have n_:=q_6 (qH BK490.out hb) (qC (byad GE490.out) hb) (hbox) ((bycl GE490.out : w.heap.size ≤ gb492)) ((bycl GE490.out : w.heap.size ≤ gb492)) ((by rw [hg];exact Nat.ne_of_lt (vF BK490.out) : gb490≠gb492));clear BK490 HB;obtain ⟨BK490,HB,BK492,GW492,GE492,NB490_492⟩:=n_;have NB492_490:=ns NB490_492;clear hb hbox hg;have hnb13:=NB492_490.out;have hnc13:=NB490_492.out;obtain ⟨hcz14_0,hcz14_1,hcz14_2,hcz14_3,hfz14_0,hfz14_1,hfz14_2,hfz14_3⟩:=cz4 BK492.out))
        go_roundg k1
        case measure=>have:=HK1.out;omega
        case rel=>exact ⟨(Go.bits .or .i64 x3_1 (ji11)),(wrap64 (x9_1 + 1)),byao,byae,H',⟨byai⟩,⟨byat NB490_492.out BK490.out⟩,⟨byaj GE490.out GE492.out⟩⟩
       ·replace c9:=Bool.eq_false_iff.mpr c9
        subst c9
        rw [if_neg (show ¬ (false = true) by decide)] at H
        have H':=qA.mk H
        clear H
        have p491 : 0 ≤ (x9_1 : Int):=of_decide_eq_true byag
        have q491 : x9_1 < (l0_0.length : Int):=of_decide_eq_true byag
        obtain ⟨ad491,A491_2,c491_2,A491_3,c491_3,e491,hx491_0,hx491_1,hx491_2,hx491_3,hl491_2,hi491_2,hl491_3,hi491_3⟩:=Zm HR0_0.out x9_1 p491 q491
        (try rw [← Nbq8.out] at hx491_0)
        cases e491
        replace hx491_0:=(HB.out.cell (World.block_lt_of_cell? w _ hx491_0)).trans hx491_0
        replace hx491_1:=(HB.out.cell (World.block_lt_of_cell? w _ hx491_1)).trans hx491_1
        replace hx491_2:=(HB.out.cell (World.block_lt_of_cell? w _ hx491_2)).trans hx491_2
        replace hx491_3:=(HB.out.cell (World.block_lt_of_cell? w _ hx491_3)).trans hx491_3
        have HR491_2:=qA.mk hi491_2
        have HC491_2:=qA.mk hl491_2
        clear hi491_2 hl491_2
        have HR491_3:=qA.mk hi491_3
        have HC491_3:=qA.mk hl491_3
        clear hi491_3 hl491_3
        replace p491:=eq_true p491
        replace q491:=eq_true q491
        go_wp2_with (first|((with_reducible refine qP (N:=5) rfl ?_);refine zV (N:=5) (cs:=#[.bool false,.int .i64 0,.slice none 0 0,.slice none 0 0]) (t:=58) ?_;intro gb492 hg w15 hbox hb;have n_:=q_6 (qH BK490.out hb) (qC (byad GE490.out) hb) (hbox) ((bycl GE490.out : w.heap.size ≤ gb492)) ((bycl GE490.out : w.heap.size ≤ gb492)) ((by rw [hg];exact Nat.ne_of_lt (vF BK490.out) : gb490≠gb492));clear BK490 HB;obtain ⟨BK490,HB,BK492,GW492,GE492,NB490_492⟩:=n_;have NB492_490:=ns NB490_492;clear hb hbox hg;have hnb16:=NB492_490.out;have hnc16:=NB490_492.out;obtain ⟨hcz17_0,hcz17_1,hcz17_2,hcz17_3,hfz17_0,hfz17_1,hfz17_2,hfz17_3⟩:=cz4 BK492.out))
        go_roundg k1
        case measure=>have:=HK1.out;omega
        case rel=>exact ⟨(x3_1),(wrap64 (x9_1 + 1)),byae,byae,H',⟨byai⟩,⟨byat NB490_492.out BK490.out⟩,⟨byaj GE490.out GE492.out⟩⟩
      ·rw [if_neg c7] at H
       have c7b0:=decide_eq_false c7
       clear c7
       have H':=qA.mk H
       clear H
       have p491 : 0 ≤ (x9_1 : Int):=of_decide_eq_true byag
       have q491 : x9_1 < (l0_0.length : Int):=of_decide_eq_true byag
       obtain ⟨ad491,A491_2,c491_2,A491_3,c491_3,e491,hx491_0,hx491_1,hx491_2,hx491_3,hl491_2,hi491_2,hl491_3,hi491_3⟩:=Zm HR0_0.out x9_1 p491 q491
       cases e491
       replace hx491_0:=(HB.out.cell (World.block_lt_of_cell? w _ hx491_0)).trans hx491_0
       replace hx491_1:=(HB.out.cell (World.block_lt_of_cell? w _ hx491_1)).trans hx491_1
       replace hx491_2:=(HB.out.cell (World.block_lt_of_cell? w _ hx491_2)).trans hx491_2
       replace hx491_3:=(HB.out.cell (World.block_lt_of_cell? w _ hx491_3)).trans hx491_3
       have HR491_2:=qA.mk hi491_2
       have HC491_2:=qA.mk hl491_2
       clear hi491_2 hl491_2
       have HR491_3:=qA.mk hi491_3
       have HC491_3:=qA.mk hl491_3
       clear hi491_3 hl491_3
       replace p491:=eq_true p491
       replace q491:=eq_true q491
       go_wp2_with (first|((with_reducible refine qP (N:=5) rfl ?_);refine zV (N:=5) (cs:=#[.bool false,.int .i64 0,.slice none 0 0,.slice none 0 0]) (t:=58) ?_;intro gb492 hg w18 hbox hb;have n_:=q_6 (qH BK490.out hb) (qC (byad GE490.out) hb) (hbox) ((bycl GE490.out : w.heap.size ≤ gb492)) ((bycl GE490.out : w.heap.size ≤ gb492)) ((by rw [hg];exact Nat.ne_of_lt (vF BK490.out) : gb490≠gb492));clear BK490 HB;obtain ⟨BK490,HB,BK492,GW492,GE492,NB490_492⟩:=n_;have NB492_490:=ns NB490_492;clear hb hbox hg;have hnb19:=NB492_490.out;have hnc19:=NB490_492.out;obtain ⟨hcz20_0,hcz20_1,hcz20_2,hcz20_3,hfz20_0,hfz20_1,hfz20_2,hfz20_3⟩:=cz4 BK492.out))
       go_roundg k1
       case measure=>have:=HK1.out;omega
       case rel=>exact ⟨(x3_1),(wrap64 (x9_1 + 1)),byae,byae,H',⟨byai⟩,⟨byat NB490_492.out BK490.out⟩,⟨byaj GE490.out GE492.out⟩⟩
     ·rw [if_neg c6] at H
      exact absurd H (by simp)
    ·rw [if_neg c5] at H
     exact absurd H (by simp)
   ·rw [if_neg c4] at H
    have c4b0:=decide_eq_false c4
    clear c4
    obtain rfl:=Option.some.inj H
    go_wp2
    go_ret
    exact ⟨byac,byad GE490.out⟩
def jT.l0 : Nat→Int→List Int→Int→Option (List Int)
 | 0,_,_,_=>none
 | k + 1,x0,x3,x4=>if x4 < 10 then ((uA.f x0 x4).bind fun t493=>(if t493 = true then (if x3.length < 17592186044416 then (jT.l0 k x0 (x3 ++ [x4]) (wrap64 (x4 + 1))) else (none)) else (jT.l0 k x0 x3 (wrap64 (x4 + 1))))) else (some x3)
def jT.f (k : Nat) (a0 : Int) : Option (List Int):=jT.l0 k a0 ([] : List Int) 0
set_option maxHeartbeats 8000000 in
set_option maxRecDepth 100000 in
theorem jT.calls (k : Nat) (a0 : Int) (r : List Int) (w : World) (h : jT.f k a0 = some r) :
  Calls Try.prog 45 #[.int .i64 a0] w fun e w'=>∃ v0_ : Value,e = .returned (v0_)∧Kd.R (Kd.int .i64) 3 w' w.heap.size (fun _=>True) v0_ r∧Below w.heap.size w w':=by
 have HB:=qA.mk (Below.refl w.heap.size w)
 unfold jT.f at h
 have H:=h
 clear h
 have H':=qA.mk H
 clear H
 go_enter Try.func45,Try.ntmps45
 go_wp2
 go_loopg [3,4] k (fun kq v3 v4 w'=>∃ (x3_1 : List Int) (x4_1 : Int),v4 = .int .i64 x4_1∧qA (jT.l0 kq a0 x3_1 x4_1 = some r)∧qA (kq ≤ k)∧qA (Kd.R (Kd.int .i64) 3 w' w.heap.size (fun _=>True) v3 x3_1)∧qA (Below w.heap.size w w'))
 case atStart=>exact ⟨(([] : List Int)),(0),byae,H',⟨Nat.le_refl _⟩,⟨byau⟩,⟨byab⟩⟩
 case round =>
  clear H'
  obtain ⟨x3_1,x4_1,rfl,HA,HK1,HO_3,HB⟩:=hrel
  cases gk with
  | zero=>exact absurd HA.out (by simp [jT.l0])
  | succ k1 =>
   have H:=HA.out
   clear HA
   simp only [jT.l0] at H
   by_cases c2 : x4_1 < 10
   ·rw [if_pos c2] at H
    have c2b0:=decide_eq_true c2
    clear c2
    replace H:=Option.bind_eq_some_iff.mp H
    obtain ⟨t493,A30,H⟩:=H
    try dsimp only at H
    have A3:=qA.mk A30
    clear A30
    by_cases c4 : t493 = true
    ·subst c4
     rw [if_pos rfl] at H
     by_cases c5 : x3_1.length < 17592186044416
     ·rw [if_pos c5] at H
      have LMc5:=qA.mk c5
      clear c5
      obtain ⟨y494,hy494⟩ : ∃ y_ : List Int,y_ = (x3_1 ++ [x4_1]):=⟨_,rfl⟩
      replace H : (jT.l0 k1 a0 y494 (wrap64 (x4_1 + 1))) = some r:=by first|(rw [hy494];with_reducible exact H)|(have H2_:=(Option.bind_some _ _).symm.trans H;rw [hy494];with_reducible exact H2_)|(have H2_:=(Option.bind_some _ _).symm.trans H;with_reducible exact H2_)|with_reducible exact H|(rw [hy494];exact H)|exact H
      have Ny494:=qA.mk hy494
      clear hy494
      have H':=qA.mk H
      clear H
      go_wp2_with (first|((with_reducible refine qI (f:=63) rfl ?_);refine qY (some 11) rfl rfl Try.func63 (by kernel_rfl) rfl #[.int .i64 a0,.int .i64 x4_1] rfl byah ?_;(with_reducible refine (uA.calls a0 x4_1 true _ A3.out).mono ?_);rintro e w' ⟨rfl,⟨nd,rfl⟩⟩;refine ⟨_,rfl,?_⟩)|((with_reducible refine uU (b:=.append) (xs:=#[.tmp 12,.tmp 14]) rfl ?_);at_builtin;refine Kd.Qk (Kd.int .i64) (w0:=w) w.heap.size rfl (.tmp 12) (.tmp 14) 22 3 (.int .i64 0) 8 rfl Try.underlying22 info3 rfl (by decide) (by omega) u3 x3_1 x4_1 [.int .i64 x4_1] (fun _=>True) (fun _=>False) rfl rfl ?aP (fun _ hk=>hk.elim) ?aF ?aO ?aB ?aS ?aL ?_;(case aP=>exact rfl);(case aB=>exact byab);(case aF=>exact (fun _ _=>trivial));(case aO=>exact (byav HO_3.out));(case aS=>exact (jX byab));(case aL=>have:=LMc5.out;omega);intro v495 w6 ho hb hg hat;rw [← Ny494.out] at ho;have n_:=q_2 (hb) (ho);clear HB HO_3;obtain ⟨HB,HO496⟩:=n_;clear ho hb hg hat))
      go_roundg k1
      case measure=>have:=HK1.out;omega
      case rel=>exact ⟨(y494),(wrap64 (x4_1 + 1)),byae,H',⟨byai⟩,⟨byav HO496.out⟩,⟨byab⟩⟩
     ·rw [if_neg c5] at H
      exact absurd H (by simp)
    ·replace c4:=Bool.eq_false_iff.mpr c4
     subst c4
     rw [if_neg (show ¬ (false = true) by decide)] at H
     have H':=qA.mk H
     clear H
     go_wp2_with (first|((with_reducible refine qI (f:=63) rfl ?_);refine qY (some 11) rfl rfl Try.func63 (by kernel_rfl) rfl #[.int .i64 a0,.int .i64 x4_1] rfl byah ?_;(with_reducible refine (uA.calls a0 x4_1 false _ A3.out).mono ?_);rintro e w' ⟨rfl,⟨nd,rfl⟩⟩;refine ⟨_,rfl,?_⟩))
     go_roundg k1
     case measure=>have:=HK1.out;omega
     case rel=>exact ⟨(x3_1),(wrap64 (x4_1 + 1)),byae,H',⟨byai⟩,⟨byav HO_3.out⟩,⟨byab⟩⟩
   ·rw [if_neg c2] at H
    have c2b0:=decide_eq_false c2
    clear c2
    obtain rfl:=Option.some.inj H
    go_wp2
    go_ret
    exact ⟨_,byac,byav HO_3.out,byab⟩
end Go.Proofs.Ytkkbdimegpdbgaa.P
