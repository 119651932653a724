/- Functions of the program as Lean functions, and the walks that show that the calls answer so; written by a program of this session (a changed print) and by hand. -/
import Derived.Test.YtkkbdimegpdbgaaQsPx0
import Derived.Test.YtkkbdimegpdbgaaQsPx11
import Derived.Test.YtkkbdimegpdbgaaQsPx24
namespace Go.Proofs.Ytkkbdimegpdbgaa.P
open Go.RowKit Go.Proofs.YtkkbdimegpdbgaaW.PrintWords Go.Proofs.YtkkbdimegpdbgaaW.PrintLast Go.Proofs.YtkkbdimegpdbgaaW.PrintMore
attribute [local go_sem] kF kD kV kU uJ uK kG kE
set_option linter.unusedVariables false
set_option linter.unusedSimpArgs false
def uX.f (k : Nat) (s0_0 : List Int) (s0_1 : Int) (l1_0 : List (S58)) (a2 : Bool) : Option (Int × Int × (List (S28)) × Int):=(qK.f k s0_0 s0_1 l1_0 0 0 a2).bind fun bt628=>(some (bt628.1,bt628.2.1,bt628.2.2.1,bt628.2.2.2))
set_option maxHeartbeats 8000000 in
set_option maxRecDepth 100000 in
theorem uX.calls (k : Nat) (g : Nat) (s0_0 : List Int) (s0_1 : Int) (A1_0 : Option Addr) (c1_0 : Nat) (l1_0 : List (S58)) (a2 : Bool) (r1 : Int) (r2 : Int) (r3 : List (S28)) (r4 : Int) (w0 w : World) (hI : qB w0 w g s0_0 s0_1) (hB : Below w0.heap.size w0 w) (hr1_0 : ∀ W_,qJ w W_ g none→Kd.C k58 W_ A1_0 l1_0.length l1_0) (hc1_0 : l1_0.length ≤ c1_0) (h : uX.f k s0_0 s0_1 l1_0 a2 = some (r1,r2,r3,r4)) :
  Calls Try.prog 19 #[.pointer (some ⟨g,0,none⟩),.agg #[.slice A1_0 l1_0.length c1_0],.bool a2] w fun e w'=>∃ v2_ : Value,e = .returned (.agg #[.int .i64 r1,.int .i64 r2,v2_])∧Kd.R k28 28 w' w.heap.size (fun _=>True) v2_ r3∧qB w0 w' g s0_0 r4∧Below w0.heap.size w0 w'∧qJ w w' g none:=by
 have hu25:=Try.underlying25
 have hu28:=Try.underlying28
 have HR1_0:=qA.mk hr1_0
 have HC1_0:=qA.mk hc1_0
 clear hr1_0 hc1_0
 have HI0:=qA.mk hI
 have HK:=qA.mk (qJ.refl w g none)
 have HL:=qA.mk hB.size
 clear hI
 have HW0:=qA.mk hB.size
 have HB:=qA.mk hB
 clear hB
 unfold uX.f at h
 have H:=h
 clear h
 replace H:=Option.bind_eq_some_iff.mp H
 obtain ⟨⟨t628,t629,t630,t633⟩,A40,H⟩:=H
 try dsimp only at H
 have A4:=qA.mk A40
 clear A40
 simp only [Option.some.injEq,Prod.mk.injEq] at H
 obtain ⟨rfl,rfl,rfl,rfl⟩:=H
 go_enter Try.func19,Try.ntmps19
 go_wp2_with (first|((with_reducible refine qP (N:=4) rfl ?_);refine zV (N:=4) (cs:=#[.slice A1_0 l1_0.length c1_0]) (t:=25) ?_;intro gb626 hg w5 hbox hb;have n_:=q_7 (qB.below (bybj HI0.out) hb) (qJ.trans bybl (qJ.of_below hb g none) (.inl rfl)) (qC (bybk HI0.out) hb) (hbox) ((byco : w.heap.size ≤ gb626)) ((Nat.le_trans HW0.out (byco : w.heap.size ≤ gb626) : w0.heap.size ≤ gb626)) ((by rw [hg];exact Nat.ne_of_lt (qB.lt (show qB w0 _ g s0_0 s0_1 from by repeat (first|(with_reducible first|exact HI0.out|apply qB.alloc|apply qB.drewN|apply qB.drew|apply qB.vZ)|exact HI0.out))) : g≠gb626));clear HI0 HK HB;obtain ⟨HI0,HK,HB,BK626,GW626,GE626,NB0_626⟩:=n_;have NB626_0:=ns NB0_626;clear hb hbox hg)|((with_reducible refine qP (N:=6) rfl ?_);refine zV (N:=6) (cs:=#[.int .i64 0,.int .i64 0,.slice none 0 0]) (t:=28) ?_;intro gb627 hg w6 hbox hb;have n_:=q_9 (qB.below (bybm HI0.out NB0_626.out) hb) (qH BK626.out hb) (qJ.trans (bybn GW626.out) (qJ.of_below hb g none) (.inl rfl)) (qC (bybo HI0.out GE626.out) hb) (hbox) ((bycp GW626.out : w.heap.size ≤ gb627)) ((Nat.le_trans HW0.out (bycp GW626.out : w.heap.size ≤ gb627) : w0.heap.size ≤ gb627)) ((by rw [hg];exact Nat.ne_of_lt (vF BK626.out) : gb626≠gb627)) ((by rw [hg];exact Nat.ne_of_lt (qB.lt (show qB w0 _ g s0_0 s0_1 from by repeat (first|(with_reducible first|exact HI0.out|apply qB.alloc|apply qB.drewN|apply qB.drew|apply qB.vZ|refine qB.far ?_ NB0_626.out _)|exact HI0.out))) : g≠gb627));clear HI0 BK626 HK HB;obtain ⟨HI0,BK626,HK,HB,BK627,GW627,GE627,NB626_627,NB0_627⟩:=n_;have NB627_626:=ns NB626_627;have NB627_0:=ns NB0_627;clear hb hbox hg;have hnb7:=NB626_627.out;have hnc7:=NB627_626.out;have hnb8:=NB626_0.out;have hnc8:=NB0_626.out;obtain ⟨hcz9_0,hfz9_0⟩:=cz1 BK626.out)|((with_reducible refine qI (f:=40) rfl ?_);refine qY (some 10) rfl rfl Try.func40 (by kernel_rfl) rfl #[.pointer (some ⟨g,0,none⟩),.agg #[.slice A1_0 l1_0.length c1_0],.int .i64 0,.int .i64 0,.bool a2] rfl byah ?_;(with_reducible refine (qK.calls k g s0_0 s0_1 _ _ l1_0 0 0 a2 t628 t629 t630 t633 w0 _ ?side1 ?side2 ?side3 ?side4 A4.out).mono ?_);(case side1=>exact bybp HI0.out NB0_626.out NB0_627.out);(case side2=>exact bybq HI0.out GE626.out GE627.out);(case side3=>exact Kd.C_foot_step HR1_0.out (bybr GW626.out GW627.out));(case side4=>exact HC1_0.out);rintro e w10 ⟨v631,rfl,ho0,hi,hb,hk⟩;refine ⟨_,rfl,?_⟩;have n_:=q_6 (qJ.blkB hk BK626.out NB626_0.out (by simp)) (qJ.blkB hk BK627.out NB627_0.out (by simp)) (Kd.uZ (Kd.Zw ho0 (g:=gb627) (o:=.cells #[.int .i64 0,.int .i64 0,.slice none 0 0] 28 (0,0)) (byaf BK627.out)) (vM (w:=w) (g:=g) (row:=none) (bybr GW626.out GW627.out))) (qJ.trans (bybr GW626.out GW627.out) hk (.inl rfl)) (hb) (hi);clear BK626 BK627 HK HB HI0;obtain ⟨BK626,BK627,HO632,HK,HB,HI0⟩:=n_;clear hb hk hi;(try clear ho0);have hnb11:=NB627_0.out;have hnc11:=NB0_627.out;obtain ⟨hcz12_0,hcz12_1,hcz12_2,hfz12_0,hfz12_1,hfz12_2⟩:=cz3 BK627.out;obtain ⟨Ao13,co13,eo13⟩:=Kd.vJ HO632.out;subst eo13))
 refine bodyPost_ret (results_cell_row rfl _ _ gb627 28 #[.int .i64 t628,.int .i64 t629,.slice Ao13 t630.length co13] (0,0) _ rfl (by (with_reducible repeat (first|refine qF ?_ _|refine qG ?_|refine qE ?_ _));refine qO (cs:=#[.int .i64 t628,.int .i64 t629,.slice none 0 0]) ?_ 2 _ rfl;(with_reducible repeat (first|refine qF ?_ _|refine qG ?_|refine qE ?_ _));refine qO (cs:=#[.int .i64 t628,.int .i64 0,.slice none 0 0]) ?_ 1 _ rfl;(with_reducible repeat (first|refine qF ?_ _|refine qG ?_|refine qE ?_ _));refine qO (cs:=#[.int .i64 0,.int .i64 0,.slice none 0 0]) ?_ 0 _ rfl;(with_reducible repeat (first|refine qF ?_ _|refine qG ?_|refine qE ?_ _));exact BK627.out) Try.underlying28 rfl (by kernel_rfl)) rfl ?_
 exact ⟨_,byac,by (with_reducible repeat (first|apply Kd.jP|apply Kd.jO|apply Kd.jZ));exact Kd.zB (Kd.jF (p:=⟨gb627,2,none⟩) (Kd.jF (p:=⟨gb627,1,none⟩) (Kd.jF (p:=⟨gb627,0,none⟩) (Kd.zB HO632.out (fun k_ hk=>(⟨hk,hk.2⟩ : _∧k_≠gb627))) (fun _ hk=>hk.2) (.int .i64 t628)) (fun _ hk=>hk.2) (.int .i64 t629)) (fun _ hk=>hk.2) (.slice Ao13 t630.length co13)) (fun _ hk=>trivial),bybp HI0.out NB0_626.out NB0_627.out,bybq HI0.out GE626.out GE627.out,bybr GW626.out GW627.out⟩
end Go.Proofs.Ytkkbdimegpdbgaa.P
