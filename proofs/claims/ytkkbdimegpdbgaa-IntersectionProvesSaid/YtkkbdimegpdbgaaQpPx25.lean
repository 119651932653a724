/- Functions of the program as Lean functions, and the walks that show that the calls answer so; written by a program of this session (a changed print) and by hand. -/
import Derived.Test.YtkkbdimegpdbgaaQpPx0
import Derived.Test.YtkkbdimegpdbgaaQpPx11
import Derived.Test.YtkkbdimegpdbgaaQpPx24
namespace Go.Proofs.Ytkkbdimegpdbgaa.P
open Go.RowKit Go.Proofs.YtkkbdimegpdbgaaW.PrintWords Go.Proofs.YtkkbdimegpdbgaaW.PrintLast Go.Proofs.YtkkbdimegpdbgaaW.PrintMore
attribute [local go_sem] kK kM Qb Qc uV uU kL kN
set_option linter.unusedVariables false
set_option linter.unusedSimpArgs false
def uJ.f (k : Nat) (s0_0 : List Int) (s0_1 : Int) (l1_0 : List (S58)) (a2 : Bool) : Option (Int × Int × (List (S28)) × Int):=(qL.f k s0_0 s0_1 l1_0 0 0 a2).bind fun bt628=>(some (bt628.1,bt628.2.1,bt628.2.2.1,bt628.2.2.2))
set_option maxHeartbeats 8000000 in
set_option maxRecDepth 100000 in
theorem uJ.calls (k : Nat) (g : Nat) (s0_0 : List Int) (s0_1 : Int) (A1_0 : Option Addr) (c1_0 : Nat) (l1_0 : List (S58)) (a2 : Bool) (r1 : Int) (r2 : Int) (r3 : List (S28)) (r4 : Int) (w0 w : World) (hI : qC w0 w g s0_0 s0_1) (hB : Below w0.heap.size w0 w) (hr1_0 : ∀ W_,qJ w W_ g none→Kd.C k58 W_ A1_0 l1_0.length l1_0) (hc1_0 : l1_0.length ≤ c1_0) (h : uJ.f k s0_0 s0_1 l1_0 a2 = some (r1,r2,r3,r4)) :
  Calls Try.prog 19 #[.pointer (some ⟨g,0,none⟩),.agg #[.slice A1_0 l1_0.length c1_0],.bool a2] w fun e w'=>∃ v2_ : Value,e = .returned (.agg #[.int .i64 r1,.int .i64 r2,v2_])∧Kd.R k28 28 w' w.heap.size (fun _=>True) v2_ r3∧qC w0 w' g s0_0 r4∧Below w0.heap.size w0 w'∧qJ w w' g none:=by
 have hu25:=Try.underlying25
 have hu28:=Try.underlying28
 have HR1_0:=qA.mk hr1_0
 have HC1_0:=qA.mk hc1_0
 clear hr1_0 hc1_0
 have HI0:=qA.mk hI
 have HK:=qA.mk (qJ.refl w g none)
 have HL:=qA.mk hB.size
 clear hI
 have HW0:=qA.mk hB.size
 have HB:=qA.mk hB
 clear hB
 unfold uJ.f at h
 have H:=h
 clear h
 replace H:=Option.bind_eq_some_iff.mp H
 obtain ⟨⟨t628,t629,t630,t633⟩,A40,H⟩:=H
 try dsimp only at H
 have A4:=qA.mk A40
 clear A40
 simp only [Option.some.injEq,Prod.mk.injEq] at H
 obtain ⟨rfl,rfl,rfl,rfl⟩:=H
 go_enter Try.func19,Try.ntmps19
 go_wp2_with (first|((with_reducible refine qO (N:=4) rfl ?_);refine zM (N:=4) (cs:=#[.slice A1_0 l1_0.length c1_0]) (t:=25) ?_;intro gb626 hg w5 hbox hb;have n_:=q_7 (qC.below (bybj HI0.out) hb) (qJ.trans bybl (qJ.of_below hb g none) (.inl rfl)) (qB (bybk HI0.out) hb) (hbox) ((bycl : w.heap.size ≤ gb626)) ((Nat.le_trans HW0.out (bycl : w.heap.size ≤ gb626) : w0.heap.size ≤ gb626)) ((by rw [hg];exact Nat.ne_of_lt (qC.lt (show qC w0 _ g s0_0 s0_1 from by repeat (first|(with_reducible first|exact HI0.out|apply qC.alloc|apply qC.drewN|apply qC.drew|apply qC.vX)|exact HI0.out))) : g≠gb626));clear HI0 HK HB;obtain ⟨HI0,HK,HB,BK626,GW626,GE626,NB0_626⟩:=n_;have NB626_0:=ns NB0_626;clear hb hbox hg)|((with_reducible refine qO (N:=6) rfl ?_);refine zM (N:=6) (cs:=#[.int .i64 0,.int .i64 0,.slice none 0 0]) (t:=28) ?_;intro gb627 hg w6 hbox hb;have n_:=q_9 (qC.below (bybm HI0.out NB0_626.out) hb) (qE BK626.out hb) (qJ.trans (bybn GW626.out) (qJ.of_below hb g none) (.inl rfl)) (qB (bybo HI0.out GE626.out) hb) (hbox) ((bycm GW626.out : w.heap.size ≤ gb627)) ((Nat.le_trans HW0.out (bycm GW626.out : w.heap.size ≤ gb627) : w0.heap.size ≤ gb627)) ((by rw [hg];exact Nat.ne_of_lt (jZ BK626.out) : gb626≠gb627)) ((by rw [hg];exact Nat.ne_of_lt (qC.lt (show qC w0 _ g s0_0 s0_1 from by repeat (first|(with_reducible first|exact HI0.out|apply qC.alloc|apply qC.drewN|apply qC.drew|apply qC.vX|refine qC.far ?_ NB0_626.out _)|exact HI0.out))) : g≠gb627));clear HI0 BK626 HK HB;obtain ⟨HI0,BK626,HK,HB,BK627,GW627,GE627,NB626_627,NB0_627⟩:=n_;have NB627_626:=ns NB626_627;have NB627_0:=ns NB0_627;clear hb hbox hg;have hnb7:=NB626_627.out;have hnc7:=NB627_626.out;have hnb8:=NB626_0.out;have hnc8:=NB0_626.out;obtain ⟨hcz9_0,hfz9_0⟩:=cz1 BK626.out)|((with_reducible refine qI (f:=40) rfl ?_);refine zA (some 10) rfl rfl Try.func40 (by kernel_rfl) rfl #[.pointer (some ⟨g,0,none⟩),.agg #[.slice A1_0 l1_0.length c1_0],.int .i64 0,.int .i64 0,.bool a2] rfl byah ?_;(with_reducible refine (qL.calls k g s0_0 s0_1 _ _ l1_0 0 0 a2 t628 t629 t630 t633 w0 _ ?side1 ?side2 ?side3 ?side4 A4.out).mono ?_);(case side1=>exact bybp HI0.out NB0_626.out NB0_627.out);(case side2=>exact bybq HI0.out GE626.out GE627.out);(case side3=>exact Kd.C_foot_step HR1_0.out (bybr GW626.out GW627.out));(case side4=>exact HC1_0.out);rintro e w10 ⟨v631,rfl,ho0,hi,hb,hk⟩;refine ⟨_,rfl,?_⟩;have n_:=q_6 (qJ.blkB hk BK626.out NB626_0.out (by simp)) (qJ.blkB hk BK627.out NB627_0.out (by simp)) (Kd.kC (Kd.Zq ho0 (g:=gb627) (o:=.cells #[.int .i64 0,.int .i64 0,.slice none 0 0] 28 (0,0)) (byaf BK627.out)) (vS (w:=w) (g:=g) (row:=none) (bybr GW626.out GW627.out))) (qJ.trans (bybr GW626.out GW627.out) hk (.inl rfl)) (hb) (hi);clear BK626 BK627 HK HB HI0;obtain ⟨BK626,BK627,HO632,HK,HB,HI0⟩:=n_;clear hb hk hi;(try clear ho0);have hnb11:=NB627_0.out;have hnc11:=NB0_627.out;obtain ⟨hcz12_0,hcz12_1,hcz12_2,hfz12_0,hfz12_1,hfz12_2⟩:=cz3 BK627.out;obtain ⟨Ao13,co13,eo13⟩:=Kd.vN HO632.out;subst eo13))
 refine bodyPost_ret (results_cell_row rfl _ _ gb627 28 #[.int .i64 t628,.int .i64 t629,.slice Ao13 t630.length co13] (0,0) _ rfl (by (with_reducible repeat (first|refine qH ?_ _|refine qF ?_|refine qG ?_ _));refine qQ (cs:=#[.int .i64 t628,.int .i64 t629,.slice none 0 0]) ?_ 2 _ rfl;(with_reducible repeat (first|refine qH ?_ _|refine qF ?_|refine qG ?_ _));refine qQ (cs:=#[.int .i64 t628,.int .i64 0,.slice none 0 0]) ?_ 1 _ rfl;(with_reducible repeat (first|refine qH ?_ _|refine qF ?_|refine qG ?_ _));refine qQ (cs:=#[.int .i64 0,.int .i64 0,.slice none 0 0]) ?_ 0 _ rfl;(with_reducible repeat (first|refine qH ?_ _|refine qF ?_|refine qG ?_ _));exact BK627.out) Try.underlying28 rfl (by kernel_rfl)) rfl ?_
 exact ⟨_,byac,by (with_reducible repeat (first|apply Kd.jR|apply Kd.jQ|apply Kd.vH));exact Kd.zF (Kd.jG (p:=⟨gb627,2,none⟩) (Kd.jG (p:=⟨gb627,1,none⟩) (Kd.jG (p:=⟨gb627,0,none⟩) (Kd.zF HO632.out (fun k_ hk=>(⟨hk,hk.2⟩ : _∧k_≠gb627))) (fun _ hk=>hk.2) (.int .i64 t628)) (fun _ hk=>hk.2) (.int .i64 t629)) (fun _ hk=>hk.2) (.slice Ao13 t630.length co13)) (fun _ hk=>trivial),bybp HI0.out NB0_626.out NB0_627.out,bybq HI0.out GE626.out GE627.out,bybr GW626.out GW627.out⟩
mutual
def jW.l0 : Nat→Int→List (S28)→Int→Int→Option (Int)
 | 0,_,_,_,_=>none
 | k + 1,x3,x7,x8,x9=>if x9 < x8 then (if 0 ≤ x9 then (if x9 < (x7.length : Int) then ((jW.f k ((jP x7 x9).f0) ((jP x7 x9).f1) ((jP x7 x9).f2)).bind fun t662=>(jW.l0 k (wrap64 (x3 + t662)) x7 x8 (wrap64 (x9 + 1)))) else (none)) else (none)) else (some x3)
def jW.f : Nat→Int→Int→List (S28)→Option (Int)
 | 0,_,_,_=>none
 | k + 1,a0_0,a0_1,l0_2=>jW.l0 k 1 l0_2 (l0_2.length : Int) 0
end
set_option maxHeartbeats 8000000 in
set_option maxRecDepth 100000 in
theorem jW.calls (k : Nat) : ∀ (a0_0 : Int) (a0_1 : Int) (A0_2 : Option Addr) (c0_2 : Nat) (l0_2 : List (S28)) (r : Int) (w : World) (hr0_2 : Kd.C k28 w A0_2 l0_2.length l0_2) (hc0_2 : l0_2.length ≤ c0_2) (h : jW.f k a0_0 a0_1 l0_2 = some r),
  Calls Try.prog 23 #[.agg #[.int .i64 a0_0,.int .i64 a0_1,.slice A0_2 l0_2.length c0_2]] w fun e w'=>e = .returned (.int .i64 r)∧Below w.heap.size w w':=by
 induction k using Nat.strongRecOn with
 | _ k ih =>
 intro a0_0 a0_1 A0_2 c0_2 l0_2 r w hr0_2 hc0_2 h
 cases k with
 | zero=>exact absurd h (by simp [jW.f])
 | succ k =>
 simp only [jW.f] at h
 have hu28:=Try.underlying28
 have HR0_2:=qA.mk hr0_2
 have HC0_2:=qA.mk hc0_2
 clear hr0_2 hc0_2
 have HB:=qA.mk (Below.refl w.heap.size w)
 have H:=h
 clear h
 have H':=qA.mk H
 clear H
 go_enter Try.func23,Try.ntmps23
 go_wp2_with (first|((with_reducible refine qO (N:=1) rfl ?_);refine zM (N:=1) (cs:=#[.int .i64 a0_0,.int .i64 a0_1,.slice A0_2 l0_2.length c0_2]) (t:=28) ?_;intro gb659 hg w2 hbox hb;have n_:=q_4 (qB byab hb) (hbox) ((bych : w.heap.size ≤ gb659)) ((bych : w.heap.size ≤ gb659));clear HB;obtain ⟨HB,BK659,GW659,GE659⟩:=n_;clear hb hbox hg;obtain ⟨hcz3_0,hcz3_1,hcz3_2,hfz3_0,hfz3_1,hfz3_2⟩:=cz3 BK659.out))
 go_loopg [3,9] k (fun kq v3 v9 w'=>∃ (x3_1 : Int) (x9_1 : Int),v3 = .int .i64 x3_1∧v9 = .int .i64 x9_1∧qA (jW.l0 kq x3_1 l0_2 (l0_2.length : Int) x9_1 = some r)∧qA (kq ≤ k)∧qA (w'.heap[gb659]? = some (.cells #[.int .i64 a0_0,.int .i64 a0_1,(.slice A0_2 l0_2.length c0_2)] 28 (0,0)))∧qA (Below w.heap.size w w'))
 case atStart=>exact ⟨(1),(0),byae,byae,H',⟨Nat.le_refl _⟩,⟨byaf BK659.out⟩,⟨byad GE659.out⟩⟩
 case round =>
  clear H'
  obtain ⟨x3_1,x9_1,rfl,rfl,HA,HK1,BK659,HB⟩:=hrel
  cases gk with
  | zero=>exact absurd HA.out (by simp [jW.l0])
  | succ k1 =>
   have H:=HA.out
   clear HA
   simp only [jW.l0] at H
   by_cases c4 : x9_1 < (l0_2.length : Int)
   ·rw [if_pos c4] at H
    have c4b0:=decide_eq_true c4
    clear c4
    by_cases c5 : 0 ≤ x9_1
    ·rw [if_pos c5] at H
     have c5b0:=decide_eq_true c5
     clear c5
     by_cases c6 : x9_1 < (l0_2.length : Int)
     ·rw [if_pos c6] at H
      have c6b0:=decide_eq_true c6
      clear c6
      replace H:=Option.bind_eq_some_iff.mp H
      obtain ⟨t662,A70,H⟩:=H
      try dsimp only at H
      have A7:=qA.mk A70
      clear A70
      have H':=qA.mk H
      clear H
      have p660 : 0 ≤ (x9_1 : Int):=of_decide_eq_true byag
      have q660 : x9_1 < (l0_2.length : Int):=of_decide_eq_true byag
      obtain ⟨ad660,A660_2,c660_2,e660,hx660_0,hx660_1,hx660_2,hl660_2,hi660_2⟩:=at_T28 HR0_2.out x9_1 p660 q660
      cases e660
      replace hx660_0:=(HB.out.cell (World.block_lt_of_cell? w _ hx660_0)).trans hx660_0
      replace hx660_1:=(HB.out.cell (World.block_lt_of_cell? w _ hx660_1)).trans hx660_1
      replace hx660_2:=(HB.out.cell (World.block_lt_of_cell? w _ hx660_2)).trans hx660_2
      have HR660_2:=qA.mk hi660_2
      have HC660_2:=qA.mk hl660_2
      clear hi660_2 hl660_2
      replace p660:=eq_true p660
      replace q660:=eq_true q660
      go_wp2_with (first|((with_reducible refine qO (N:=5) rfl ?_);refine zM (N:=5) (cs:=#[.int .i64 0,.int .i64 0,.slice none 0 0]) (t:=28) ?_;intro gb661 hg w8 hbox hb;have n_:=q_6 (qE BK659.out hb) (qB (byad GE659.out) hb) (hbox) ((byci GE659.out : w.heap.size ≤ gb661)) ((byci GE659.out : w.heap.size ≤ gb661)) ((by rw [hg];exact Nat.ne_of_lt (jZ BK659.out) : gb659≠gb661));clear BK659 HB;obtain ⟨BK659,HB,BK661,GW661,GE661,NB659_661⟩:=n_;have NB661_659:=ns NB659_661;clear hb hbox hg;have hnb9:=NB661_659.out;have hnc9:=NB659_661.out;obtain ⟨hcz10_0,hcz10_1,hcz10_2,hfz10_0,hfz10_1,hfz10_2⟩:=cz3 BK661.out)|((with_reducible refine qI (f:=23) rfl ?_);refine zA (some 15) rfl rfl Try.func23 (by kernel_rfl) rfl #[.agg #[.int .i64 ((jP l0_2 x9_1).f0),.int .i64 ((jP l0_2 x9_1).f1),.slice A660_2 ((jP l0_2 x9_1).f2).length c660_2]] rfl byah ?_;(with_reducible refine (ih k1 byai ((jP l0_2 x9_1).f0) ((jP l0_2 x9_1).f1) _ _ ((jP l0_2 x9_1).f2) t662 _ ?side1 ?side2 A7.out).mono ?_);(case side1=>exact Kd.uH HR660_2.out (byaj GE659.out GE661.out));(case side2=>exact HC660_2.out);rintro e w11 ⟨rfl,hb⟩;refine ⟨_,rfl,?_⟩;have n_:=q_3 (jY (g:=gb659) (o:=.cells #[.int .i64 a0_0,.int .i64 a0_1,.slice (some ad660) l0_2.length c0_2] 28 (0,0)) (byak NB659_661.out BK659.out) hb) (jY (g:=gb661) (o:=.cells #[.int .i64 ((jP l0_2 x9_1).f0),.int .i64 ((jP l0_2 x9_1).f1),.slice A660_2 ((jP l0_2 x9_1).f2).length c660_2] 28 (0,0)) (by (with_reducible repeat (first|refine qH ?_ _|refine qF ?_|refine qG ?_ _));refine qQ (cs:=#[.int .i64 ((jP l0_2 x9_1).f0),.int .i64 ((jP l0_2 x9_1).f1),.slice none 0 0]) ?_ 2 _ rfl;(with_reducible repeat (first|refine qH ?_ _|refine qF ?_|refine qG ?_ _));refine qQ (cs:=#[.int .i64 ((jP l0_2 x9_1).f0),.int .i64 0,.slice none 0 0]) ?_ 1 _ rfl;(with_reducible repeat (first|refine qH ?_ _|refine qF ?_|refine qG ?_ _));refine qQ (cs:=#[.int .i64 0,.int .i64 0,.slice none 0 0]) ?_ 0 _ rfl;(with_reducible repeat (first|refine qH ?_ _|refine qF ?_|refine qG ?_ _));exact BK661.out) hb) (qB (byaj GE659.out GE661.out) hb);clear BK659 BK661 HB;obtain ⟨BK659,BK661,HB⟩:=n_;clear hb))
      go_roundg k1
      case measure=>have:=HK1.out;omega
      case rel=>exact ⟨(wrap64 (x3_1 + t662)),(wrap64 (x9_1 + 1)),byae,byae,H',⟨byai⟩,⟨byaf BK659.out⟩,⟨byaj GE659.out GE661.out⟩⟩
     ·rw [if_neg c6] at H
      exact absurd H (by simp)
    ·rw [if_neg c5] at H
     exact absurd H (by simp)
   ·rw [if_neg c4] at H
    have c4b0:=decide_eq_false c4
    clear c4
    obtain rfl:=Option.some.inj H
    go_wp2
    go_ret
    exact ⟨byac,byad GE659.out⟩
end Go.Proofs.Ytkkbdimegpdbgaa.P
