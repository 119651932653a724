/- Functions of the program as Lean functions, and the walks that show that the calls answer so; written by a program of this session (a changed print) and by hand. -/
import Derived.Test.YtoofabolcbbjnaaQaPx0
import Derived.Test.YtoofabolcbbjnaaQaPx2
namespace Go.Proofs.Ytoofabolcbbjnaa.P
open Go.RowKit Go.Proofs.YtoofabolcbbjnaaW.PrintWords Go.Proofs.YtoofabolcbbjnaaW.PrintLast Go.Proofs.YtoofabolcbbjnaaW.PrintMore
attribute [local go_sem] kR kP Qa Qc kE kD kQ kN
set_option linter.unusedVariables false
set_option linter.unusedSimpArgs false
def zA.f  : Option ((List (S51))):=(some (([0,1,2] : List Int) : List Int)).bind fun y161=>(some (([(⟨true,(⟨2,y161,([] : List (S49))⟩ : S49)⟩ : S51),(⟨true,(⟨2,y161,([] : List (S49))⟩ : S49)⟩ : S51),(⟨true,(⟨2,y161,([] : List (S49))⟩ : S49)⟩ : S51)] : List (S51))))
set_option maxHeartbeats 8000000 in
set_option maxRecDepth 100000 in
theorem zA.calls  (r : List (S51)) (w : World) (h : zA.f  = some r) :
  Calls Try.prog 29 #[] w fun e w'=>∃ v0_ : Value,e = .returned (.agg #[v0_])∧Kd.N k51 51 w' w.heap.size (fun k_=>(w.heap.size ≤ k_)) v0_ r∧Below w.heap.size w w':=by
 have hu25:=Try.underlying25
 have hu49:=Try.underlying49
 have hu51:=Try.underlying51
 have HB:=qA.mk (Below.refl w.heap.size w)
 unfold zA.f at h
 have H:=h
 clear h
 obtain ⟨y161,hy161⟩ : ∃ y_ : List Int,y_ = (([0,1,2] : List Int)):=⟨_,rfl⟩
 replace H : (some (([(⟨true,(⟨2,y161,([] : List (S49))⟩ : S49)⟩ : S51),(⟨true,(⟨2,y161,([] : List (S49))⟩ : S49)⟩ : S51),(⟨true,(⟨2,y161,([] : List (S49))⟩ : S49)⟩ : S51)] : List (S51)))) = some r:=by first|(rw [hy161];with_reducible exact H)|(have H2_:=(Option.bind_some _ _).symm.trans H;rw [hy161];with_reducible exact H2_)|(have H2_:=(Option.bind_some _ _).symm.trans H;with_reducible exact H2_)|with_reducible exact H|(rw [hy161];exact H)|exact H
 have Ny161:=qA.mk hy161
 clear hy161
 obtain ⟨y165,hy165⟩ : ∃ y_ : List (S51),y_ = (([(⟨true,(⟨2,y161,([] : List (S49))⟩ : S49)⟩ : S51),(⟨true,(⟨2,y161,([] : List (S49))⟩ : S49)⟩ : S51),(⟨true,(⟨2,y161,([] : List (S49))⟩ : S49)⟩ : S51)] : List (S51))):=⟨_,rfl⟩
 replace H : (some y165) = some r:=by first|(rw [hy165];with_reducible exact H)|(have H2_:=(Option.bind_some _ _).symm.trans H;rw [hy165];with_reducible exact H2_)|(have H2_:=(Option.bind_some _ _).symm.trans H;with_reducible exact H2_)|with_reducible exact H|(rw [hy165];exact H)|exact H
 have Ny165:=qA.mk hy165
 clear hy165
 obtain rfl:=Option.some.inj H
 go_enter Try.func29,Try.ntmps29
 go_wp2_with (first|((with_reducible refine qX (N:=0) rfl ?_);refine zD ?hg (N:=0) ?hd (cs:=#[.slice none 0 0]) (t:=25) ?hr ?_;(case hd=>rfl);(case hg=>rfl);(case hr=>exact byad);intro gb160 hg w1 hbox hb;have n_:=q_4 (qE byae hb) (hbox) ((byck : w.heap.size ≤ gb160)) ((byck : w.heap.size ≤ gb160));clear HB;obtain ⟨HB,BK160,GW160,GE160⟩:=n_;clear hb hbox hg)|((with_reducible refine qX (N:=2) rfl ?_);refine Kd.Qk (Kd.int .i64) _ 3 ?hg (N:=2) ?hd (xs:=([0,1,2] : List Int)) (inner:=[.int .i64 0,.int .i64 1,.int .i64 2]) (ok:=fun _=>True) (okp:=fun _=>True) ?hr ?hp (fun _ hk=>hk) trivial (Below.refl _ _) (Nat.le_refl _) (by simp) ?_;(case hd=>rfl);(case hg=>rfl);(case hr=>exact byad);(case hp=>exact (Reps.one (show Kd.M (Kd.int .i64) _ _ _ 0 [.int .i64 0] from rfl) (Reps.one (show Kd.M (Kd.int .i64) _ _ _ 1 [.int .i64 1] from rfl) (Reps.one (show Kd.M (Kd.int .i64) _ _ _ 2 [.int .i64 2] from rfl) (Reps.none _ _)))));intro v162 w2 ho3 hb hg_ hnew_;clear hg_ hnew_;(first|rw [← Ny161.out] at ho3|(simp only [Int.reduceToNat] at ho3;rw [← Ny161.out] at ho3));have n_:=q_3 (Kd.vG (Kd.R_newM (M:=fun k_=>(w.heap.size ≤ k_)) ho3 (zJ (byag GE160.out)) (fun k_ h_=>h_)) (zJ (byag GE160.out))) (qI BK160.out hb) (qE (byag GE160.out) hb);clear BK160 HB;obtain ⟨HO163,BK160,HB⟩:=n_;clear hb ho3;obtain ⟨Ao4,co4,eo4⟩:=Kd.jI HO163.out;subst eo4)|((with_reducible refine qX (N:=1) rfl ?_);refine zD ?hg (N:=1) ?hd (cs:=#[.int .i64 0,.slice none 0 0,.slice none 0 0]) (t:=49) ?hr ?_;(case hd=>rfl);(case hg=>rfl);(case hr=>exact byad);intro gb164 hg w5 hbox hb;have n_:=q_7 (Kd.jH (byas HO163.out) hb) (qI BK160.out hb) (qE (byag GE160.out) hb) (hbox) ((bycl GE160.out : w.heap.size ≤ gb164)) ((bycl GE160.out : w.heap.size ≤ gb164)) ((by rw [hg];exact Nat.ne_of_lt (vH BK160.out) : gb160≠gb164));clear HO163 BK160 HB;obtain ⟨HO163,BK160,HB,BK164,GW164,GE164,NB160_164⟩:=n_;have NB164_160:=ns NB160_164;clear hb hbox hg;have hnb6:=NB164_160.out;have hnc6:=NB160_164.out;obtain ⟨hcz7_0,hcz7_1,hcz7_2,hfz7_0,hfz7_1,hfz7_2⟩:=cz3 BK164.out)|((with_reducible refine qX (N:=10) rfl ?_);refine Kd.N_lit k51 _ 51 ?hg (N':=10) ?hd (xs:=([(⟨true,(⟨2,y161,([] : List (S49))⟩ : S49)⟩ : S51),(⟨true,(⟨2,y161,([] : List (S49))⟩ : S49)⟩ : S51),(⟨true,(⟨2,y161,([] : List (S49))⟩ : S49)⟩ : S51)] : List (S51))) (inner:=[.bool true,.int .i64 2,.slice Ao4 y161.length co4,.slice none 0 0,.bool true,.int .i64 2,.slice Ao4 y161.length co4,.slice none 0 0,.bool true,.int .i64 2,.slice Ao4 y161.length co4,.slice none 0 0]) (ok:=(fun k_=>(w.heap.size ≤ k_)∧k_≠gb160∧k_≠gb164)) (okp:=(fun k_=>(w.heap.size ≤ k_)∧k_≠gb160∧k_≠gb164)) ?hr ?hp (fun _ hk=>hk) ((show ∀ k_,w5.heap.size ≤ k_→(fun k_=>(w.heap.size ≤ k_)∧k_≠gb160∧k_≠gb164) k_ from fun k_ hk=>⟨(Nat.le_trans (zJ (byal GE160.out GE164.out)) hk),Kd.jW (g:=gb160) (o:=.cells #[.slice none 0 0] 25 (0,0)) BK160.out k_ hk,Kd.jW (g:=gb164) (o:=.cells #[.int .i64 0,.slice none 0 0,.slice none 0 0] 49 (0,0)) BK164.out k_ hk⟩) _ (by simp)) (Below.refl _ _) (Nat.le_refl _) (by simp) ?_;(case hd=>rfl);(case hg=>rfl);(case hr=>exact byad);(case hp=>exact (Reps.c4 (show Kd.FK k51 _ _ (⟨true,(⟨2,y161,([] : List (S49))⟩ : S49)⟩ : S51) [.bool true,.int .i64 2,.slice Ao4 y161.length co4,.slice none 0 0] from (k51_mkF _ _ (⟨true,(⟨2,y161,([] : List (S49))⟩ : S49)⟩ : S51) (Kd.vS (Kd.qV (ok':=(fun k_=>(w.heap.size ≤ k_)∧k_≠gb160∧k_≠gb164)) ((Kd.zT (p:=⟨gb164,2,none⟩) (Kd.zT (p:=⟨gb164,1,none⟩) (Kd.zT (p:=⟨gb164,0,none⟩) (Kd.zX (Kd.zX (Kd.zX HO163.out BK160.out (by decide)) BK164.out (by decide)) BK164.out (by decide)) (fun _ hk=>hk.2) (.int .i64 2)) (fun _ hk=>hk.2) (.slice Ao4 y161.length co4)) (fun _ hk=>hk.2) (.slice none 0 0))) (fun k_ hk=>⟨hk.1.1.1.1,⟨hk.1.1.2,hk.1.2⟩⟩))).2.1 (Kd.R_F (Kd.qV (ok':=(fun k_=>(w.heap.size ≤ k_)∧k_≠gb160∧k_≠gb164)) ((Kd.zT (p:=⟨gb164,2,none⟩) (Kd.zT (p:=⟨gb164,1,none⟩) (Kd.zT (p:=⟨gb164,0,none⟩) (Kd.zX (Kd.zX (Kd.zX HO163.out BK160.out (by decide)) BK164.out (by decide)) BK164.out (by decide)) (fun _ hk=>hk.2) (.int .i64 2)) (fun _ hk=>hk.2) (.slice Ao4 y161.length co4)) (fun _ hk=>hk.2) (.slice none 0 0))) (fun k_ hk=>⟨hk.1.1.1.1,⟨hk.1.1.2,hk.1.2⟩⟩))) (Nat.le_refl _) (Kd.F_nil _ _ _))) (Reps.c4 (show Kd.FK k51 _ _ (⟨true,(⟨2,y161,([] : List (S49))⟩ : S49)⟩ : S51) [.bool true,.int .i64 2,.slice Ao4 y161.length co4,.slice none 0 0] from (k51_mkF _ _ (⟨true,(⟨2,y161,([] : List (S49))⟩ : S49)⟩ : S51) (Kd.vS (Kd.qV (ok':=(fun k_=>(w.heap.size ≤ k_)∧k_≠gb160∧k_≠gb164)) ((Kd.zT (p:=⟨gb164,2,none⟩) (Kd.zT (p:=⟨gb164,1,none⟩) (Kd.zT (p:=⟨gb164,0,none⟩) (Kd.zX (Kd.zX (Kd.zX HO163.out BK160.out (by decide)) BK164.out (by decide)) BK164.out (by decide)) (fun _ hk=>hk.2) (.int .i64 2)) (fun _ hk=>hk.2) (.slice Ao4 y161.length co4)) (fun _ hk=>hk.2) (.slice none 0 0))) (fun k_ hk=>⟨hk.1.1.1.1,⟨hk.1.1.2,hk.1.2⟩⟩))).2.1 (Kd.R_F (Kd.qV (ok':=(fun k_=>(w.heap.size ≤ k_)∧k_≠gb160∧k_≠gb164)) ((Kd.zT (p:=⟨gb164,2,none⟩) (Kd.zT (p:=⟨gb164,1,none⟩) (Kd.zT (p:=⟨gb164,0,none⟩) (Kd.zX (Kd.zX (Kd.zX HO163.out BK160.out (by decide)) BK164.out (by decide)) BK164.out (by decide)) (fun _ hk=>hk.2) (.int .i64 2)) (fun _ hk=>hk.2) (.slice Ao4 y161.length co4)) (fun _ hk=>hk.2) (.slice none 0 0))) (fun k_ hk=>⟨hk.1.1.1.1,⟨hk.1.1.2,hk.1.2⟩⟩))) (Nat.le_refl _) (Kd.F_nil _ _ _))) (Reps.c4 (show Kd.FK k51 _ _ (⟨true,(⟨2,y161,([] : List (S49))⟩ : S49)⟩ : S51) [.bool true,.int .i64 2,.slice Ao4 y161.length co4,.slice none 0 0] from (k51_mkF _ _ (⟨true,(⟨2,y161,([] : List (S49))⟩ : S49)⟩ : S51) (Kd.vS (Kd.qV (ok':=(fun k_=>(w.heap.size ≤ k_)∧k_≠gb160∧k_≠gb164)) ((Kd.zT (p:=⟨gb164,2,none⟩) (Kd.zT (p:=⟨gb164,1,none⟩) (Kd.zT (p:=⟨gb164,0,none⟩) (Kd.zX (Kd.zX (Kd.zX HO163.out BK160.out (by decide)) BK164.out (by decide)) BK164.out (by decide)) (fun _ hk=>hk.2) (.int .i64 2)) (fun _ hk=>hk.2) (.slice Ao4 y161.length co4)) (fun _ hk=>hk.2) (.slice none 0 0))) (fun k_ hk=>⟨hk.1.1.1.1,⟨hk.1.1.2,hk.1.2⟩⟩))).2.1 (Kd.R_F (Kd.qV (ok':=(fun k_=>(w.heap.size ≤ k_)∧k_≠gb160∧k_≠gb164)) ((Kd.zT (p:=⟨gb164,2,none⟩) (Kd.zT (p:=⟨gb164,1,none⟩) (Kd.zT (p:=⟨gb164,0,none⟩) (Kd.zX (Kd.zX (Kd.zX HO163.out BK160.out (by decide)) BK164.out (by decide)) BK164.out (by decide)) (fun _ hk=>hk.2) (.int .i64 2)) (fun _ hk=>hk.2) (.slice Ao4 y161.length co4)) (fun _ hk=>hk.2) (.slice none 0 0))) (fun k_ hk=>⟨hk.1.1.1.1,⟨hk.1.1.2,hk.1.2⟩⟩))) (Nat.le_refl _) (Kd.F_nil _ _ _))) (Reps.none _ _)))));intro v166 w8 ho9 hb hg_ hnew_;clear hg_ hnew_;(first|rw [← Ny165.out] at ho9|(simp only [Int.reduceToNat] at ho9;rw [← Ny165.out] at ho9));have n_:=q_4 (Kd.vW ho9 (zJ (byal GE160.out GE164.out))) (uA (g:=gb160) (o:=.cells #[.slice none 0 0] 25 (0,0)) (byaq NB160_164.out BK160.out) hb) (uA (g:=gb164) (o:=.cells #[.int .i64 2,.slice Ao4 y161.length co4,.slice none 0 0] 49 (0,0)) (by (with_reducible repeat (first|refine qH ?_ _|refine qJ ?_|refine qG ?_ _));refine zG (cs:=#[.int .i64 2,.slice Ao4 y161.length co4,.slice none 0 0]) ?_ 2 _ rfl;(with_reducible repeat (first|refine qH ?_ _|refine qJ ?_|refine qG ?_ _));refine zG (cs:=#[.int .i64 2,.slice none 0 0,.slice none 0 0]) ?_ 1 _ rfl;(with_reducible repeat (first|refine qH ?_ _|refine qJ ?_|refine qG ?_ _));refine zG (cs:=#[.int .i64 0,.slice none 0 0,.slice none 0 0]) ?_ 0 _ rfl;(with_reducible repeat (first|refine qH ?_ _|refine qJ ?_|refine qG ?_ _));exact BK164.out) hb) (qE (byal GE160.out GE164.out) hb);clear BK160 BK164 HB HO163;obtain ⟨HO167,BK160,BK164,HB⟩:=n_;clear hb ho9;obtain ⟨Ao10,co10,eo10⟩:=Kd.vT HO167.out;subst eo10;obtain ⟨hcz11_0,hfz11_0⟩:=cz1 BK160.out))
 refine bodyPost_ret (results_cell_row rfl _ _ gb160 25 #[.slice Ao10 y165.length co10] (0,0) _ rfl (byat BK160.out) Try.underlying25 rfl (by kernel_rfl)) rfl ?_
 exact ⟨_,byam,by (with_reducible repeat (first|apply Kd.uJ|apply Kd.uI|apply Kd.uM));exact Kd.zV (Kd.kW (p:=⟨gb160,0,none⟩) (Kd.zV HO167.out (fun k_ hk=>(⟨hk,hk.2.1⟩ : _∧k_≠gb160))) (fun _ hk=>hk.2) (.slice Ao10 y165.length co10)) (fun _ hk=>hk.1.1),byal GE160.out GE164.out⟩
def jV.f (k : Nat)  : Option (Bool):=(zA.f).bind fun t168=>((closure_Check.f k t168 1 (([0] : List Int))).bind fun bt174=>((zA.f).bind fun t176=>((closure_Quorum.f k t176 3).bind fun t179=>(if t179 = true then ((zA.f).bind fun t180=>((closure_Greatest.f k t180 7).bind fun t183=>(if t183 = 7 then ((zA.f).bind fun t184=>((closure_Greatest.f k t184 1).bind fun t187=>(if t187 = 0 then ((zA.f).bind fun t188=>((closure_Elimination.f k t188 1).bind fun t191=>((zH.f k t191 (([0] : List Int))).bind fun t197=>(if t197 = true then (if bt174.2 = 0 then (some (bt174.1 == 0)) else (some false)) else (some false))))) else (some false)))) else (some false)))) else (some false)))))
theorem jV.mono : ∀ k,LeO (jV.f k ) (jV.f (k + 1) ):=by
 intro  k
 unfold jV.f
 repeat' first
   | (with_reducible exact closure_Check.mono _ _ _ _)
   | (with_reducible exact closure_Elimination.mono _ _ _)
   | (with_reducible exact closure_Greatest.mono _ _ _)
   | (with_reducible exact closure_Quorum.mono _ _ _)
   | (with_reducible exact zH.mono _ _ _)
   | (with_reducible exact LeO.refl _)
   | (with_reducible exact LeO.none _)
   | (with_reducible refine LeO.ite ?_ ?_)
   | (with_reducible refine LeO.bind ?_ (fun _=>?_))
   | exact closure_Check.mono _ _ _ _
   | exact closure_Elimination.mono _ _ _
   | exact closure_Greatest.mono _ _ _
   | exact closure_Quorum.mono _ _ _
   | exact zH.mono _ _ _
   | exact LeO.none _
   | refine LeO.ite ?_ ?_
   | refine LeO.bind ?_ (fun _=>?_)
set_option maxHeartbeats 8000000 in
set_option maxRecDepth 100000 in
theorem jV.calls (k : Nat)  (r : Bool) (w : World) (h : jV.f k  = some r) :
  Calls Try.prog 9 #[] w fun e w'=>e = .returned (.bool r)∧Below w.heap.size w w':=by
 have HB:=qA.mk (Below.refl w.heap.size w)
 unfold jV.f at h
 have H:=h
 clear h
 replace H:=Option.bind_eq_some_iff.mp H
 obtain ⟨t168,A10,H⟩:=H
 try dsimp only at H
 have A1:=qA.mk A10
 clear A10
 obtain ⟨y171,hy171⟩ : ∃ y_ : List Int,y_ = (([0] : List Int)):=⟨_,rfl⟩
 replace H : ((closure_Check.f k t168 1 y171).bind fun bt174=>((zA.f).bind fun t176=>((closure_Quorum.f k t176 3).bind fun t179=>(if t179 = true then ((zA.f).bind fun t180=>((closure_Greatest.f k t180 7).bind fun t183=>(if t183 = 7 then ((zA.f).bind fun t184=>((closure_Greatest.f k t184 1).bind fun t187=>(if t187 = 0 then ((zA.f).bind fun t188=>((closure_Elimination.f k t188 1).bind fun t191=>((zH.f k t191 (([0] : List Int))).bind fun t197=>(if t197 = true then (if bt174.2 = 0 then (some (bt174.1 == 0)) else (some false)) else (some false))))) else (some false)))) else (some false)))) else (some false))))) = some r:=by first|(rw [hy171];with_reducible exact H)|(have H2_:=(Option.bind_some _ _).symm.trans H;rw [hy171];with_reducible exact H2_)|(have H2_:=(Option.bind_some _ _).symm.trans H;with_reducible exact H2_)|with_reducible exact H|(rw [hy171];exact H)|exact H
 have Ny171:=qA.mk hy171
 clear hy171
 replace H:=Option.bind_eq_some_iff.mp H
 obtain ⟨⟨t174,t175⟩,A20,H⟩:=H
 try dsimp only at H
 have A2:=qA.mk A20
 clear A20
 replace H:=Option.bind_eq_some_iff.mp H
 obtain ⟨t176,A30,H⟩:=H
 try dsimp only at H
 have A3:=qA.mk A30
 clear A30
 replace H:=Option.bind_eq_some_iff.mp H
 obtain ⟨t179,A40,H⟩:=H
 try dsimp only at H
 have A4:=qA.mk A40
 clear A40
 by_cases c5 : t179 = true
 ·subst c5
  rw [if_pos rfl] at H
  replace H:=Option.bind_eq_some_iff.mp H
  obtain ⟨t180,A60,H⟩:=H
  try dsimp only at H
  have A6:=qA.mk A60
  clear A60
  replace H:=Option.bind_eq_some_iff.mp H
  obtain ⟨t183,A70,H⟩:=H
  try dsimp only at H
  have A7:=qA.mk A70
  clear A70
  by_cases c8 : t183 = 7
  ·rw [if_pos c8] at H
   obtain ⟨c8b0,c8b1⟩:=eqT c8
   clear c8
   replace H:=Option.bind_eq_some_iff.mp H
   obtain ⟨t184,A90,H⟩:=H
   try dsimp only at H
   have A9:=qA.mk A90
   clear A90
   replace H:=Option.bind_eq_some_iff.mp H
   obtain ⟨t187,A100,H⟩:=H
   try dsimp only at H
   have A10:=qA.mk A100
   clear A100
   by_cases c11 : t187 = 0
   ·rw [if_pos c11] at H
    obtain ⟨c11b0,c11b1⟩:=eqT c11
    clear c11
    replace H:=Option.bind_eq_some_iff.mp H
    obtain ⟨t188,A120,H⟩:=H
    try dsimp only at H
    have A12:=qA.mk A120
    clear A120
    replace H:=Option.bind_eq_some_iff.mp H
    obtain ⟨t191,A130,H⟩:=H
    try dsimp only at H
    have A13:=qA.mk A130
    clear A130
    obtain ⟨y194,hy194⟩ : ∃ y_ : List Int,y_ = (([0] : List Int)):=⟨_,rfl⟩
    replace H : ((zH.f k t191 y194).bind fun t197=>(if t197 = true then (if t175 = 0 then (some (t174 == 0)) else (some false)) else (some false))) = some r:=by first|(rw [hy194];with_reducible exact H)|(have H2_:=(Option.bind_some _ _).symm.trans H;rw [hy194];with_reducible exact H2_)|(have H2_:=(Option.bind_some _ _).symm.trans H;with_reducible exact H2_)|with_reducible exact H|(rw [hy194];exact H)|exact H
    have Ny194:=qA.mk hy194
    clear hy194
    replace H:=Option.bind_eq_some_iff.mp H
    obtain ⟨t197,A140,H⟩:=H
    try dsimp only at H
    have A14:=qA.mk A140
    clear A140
    by_cases c15 : t197 = true
    ·subst c15
     rw [if_pos rfl] at H
     by_cases c16 : t175 = 0
     ·rw [if_pos c16] at H
      obtain ⟨c16b0,c16b1⟩:=eqT c16
      clear c16
      obtain rfl:=Option.some.inj H
      go_enter Try.func9,Try.ntmps9
      go_wp2_with (first|((with_reducible refine qF (f:=29) rfl ?_);refine zC (some 4) rfl rfl Try.func29 (by kernel_rfl) rfl #[] rfl byac ?_;(with_reducible refine (zA.calls  t168 _ A1.out).mono ?_);rintro e w17 ⟨v169,rfl,ho0,hb⟩;refine ⟨_,rfl,?_⟩;have n_:=q_2 (Kd.vW (Kd.zV (ok':=fun k_=>True) ho0 (fun k_ hk_=>trivial)) (zJ byae)) (qE byae hb);clear HB;obtain ⟨HO170,HB⟩:=n_;clear hb;(try clear ho0))|((with_reducible refine qX (N:=5) rfl ?_);(try (refine uB (by rfl) ?_;dsimp only));refine Kd.Qk (Kd.int .i64) _ 3 ?hg (N:=5) ?hd (xs:=([0] : List Int)) (inner:=[.int .i64 0]) (ok:=fun _=>True) (okp:=fun _=>True) ?hr ?hp (fun _ hk=>hk) trivial (Below.refl _ _) (Nat.le_refl _) (by simp) ?_;(case hd=>rfl);(case hg=>rfl);(case hr=>exact byad);(case hp=>exact (Reps.one (show Kd.M (Kd.int .i64) _ _ _ 0 [.int .i64 0] from rfl) (Reps.none _ _)));intro v172 w18 ho19 hb hg_ hnew_;clear hg_ hnew_;(first|rw [← Ny171.out] at ho19|(simp only [Int.reduceToNat] at ho19;rw [← Ny171.out] at ho19));have n_:=q_3 (Kd.zU (byau HO170.out) (Kd.zW ho19) hb) (Kd.vG ho19 (zJ byae)) (qE byae hb);clear HO170 HB;obtain ⟨HO170,HO173,HB⟩:=n_;clear hb ho19;obtain ⟨Ao20,co20,eo20⟩:=Kd.vT HO170.out;subst eo20;obtain ⟨Ao21,co21,eo21⟩:=Kd.jI HO173.out;subst eo21)|((with_reducible refine qF (f:=22) rfl ?_);refine zC (some 6) rfl rfl Try.func22 (by kernel_rfl) rfl #[.agg #[.slice Ao20 t168.length co20],.int .i64 1,.slice Ao21 y171.length co21] rfl byac ?_;(with_reducible refine (closure_Check.calls k _ _ t168 1 _ _ y171 t174 t175 _ ?side1 ?side2 ?side3 ?side4 A2.out).mono ?_);(case side1=>exact byav HO170.out);(case side2=>exact byaw HO170.out);(case side3=>exact byax HO173.out);(case side4=>exact byay HO173.out);rintro e w22 ⟨rfl,hb⟩;refine ⟨_,rfl,?_⟩;have n_:=q_3 (Kd.jP (byau HO170.out) hb) (Kd.jH (byas HO173.out) hb) (qE byae hb);clear HO170 HO173 HB;obtain ⟨HO170,HO173,HB⟩:=n_;clear hb)|((with_reducible refine qF (f:=29) rfl ?_);refine zC (some 9) rfl rfl Try.func29 (by kernel_rfl) rfl #[] rfl byac ?_;(with_reducible refine (zA.calls  t176 _ A3.out).mono ?_);rintro e w23 ⟨v177,rfl,ho0,hb⟩;refine ⟨_,rfl,?_⟩;have n_:=q_4 (Kd.zU (byau HO170.out) (Kd.vI ho0) hb) (Kd.jH (byas HO173.out) hb) (Kd.vW (Kd.zV (ok':=fun k_=>some k_≠(.slice Ao20 t168.length co20 : Value).ownBlock∧some k_≠(.slice Ao21 y171.length co21 : Value).ownBlock) ho0 (fun k_ hk_=>⟨(Kd.fresh' (Kd.N_lt (byau HO170.out)) k_ hk_),(Kd.fresh' (Kd.R_lt (byas HO173.out)) k_ hk_)⟩)) (zJ byae)) (qE byae hb);clear HO170 HO173 HB;obtain ⟨HO170,HO173,HO178,HB⟩:=n_;clear hb;(try clear ho0);obtain ⟨Ao24,co24,eo24⟩:=Kd.vT HO178.out;subst eo24)|((with_reducible refine qF (f:=15) rfl ?_);refine zC (some 10) rfl rfl Try.func15 (by kernel_rfl) rfl #[.agg #[.slice Ao24 t176.length co24],.int .i64 3] rfl byac ?_;(with_reducible refine (closure_Quorum.calls k _ _ t176 3 true _ ?side1 ?side2 A4.out).mono ?_);(case side1=>exact byav HO178.out);(case side2=>exact byaw HO178.out);rintro e w25 ⟨rfl,hb⟩;refine ⟨_,rfl,?_⟩;have n_:=q_4 (Kd.jP (byau HO170.out) hb) (Kd.jH (byas HO173.out) hb) (Kd.jP (byau HO178.out) hb) (qE byae hb);clear HO170 HO173 HO178 HB;obtain ⟨HO170,HO173,HO178,HB⟩:=n_;clear hb)|(go_at_call 29;(with_reducible refine (zA.calls  t180 _ A6.out).mono ?_);rintro e w26 ⟨v181,rfl,ho0,hb⟩;have n_:=q_5 (Kd.zU (byau HO170.out) (Kd.vI ho0) hb) (Kd.jH (byas HO173.out) hb) (Kd.zU (byau HO178.out) (Kd.vI ho0) hb) (Kd.vW (Kd.zV (ok':=fun k_=>some k_≠(.slice Ao20 t168.length co20 : Value).ownBlock∧some k_≠(.slice Ao21 y171.length co21 : Value).ownBlock∧some k_≠(.slice Ao24 t176.length co24 : Value).ownBlock) ho0 (fun k_ hk_=>⟨(Kd.fresh' (Kd.N_lt (byau HO170.out)) k_ hk_),(Kd.fresh' (Kd.R_lt (byas HO173.out)) k_ hk_),(Kd.fresh' (Kd.N_lt (byau HO178.out)) k_ hk_)⟩)) (zJ byae)) (qE byae hb);clear HO170 HO173 HO178 HB;obtain ⟨HO170,HO173,HO178,HO182,HB⟩:=n_;clear hb;(try clear ho0);obtain ⟨Ao27,co27,eo27⟩:=Kd.vT HO182.out;subst eo27;clear A6)|(go_at_call 17;(with_reducible refine (closure_Greatest.calls k _ _ t180 7 t183 _ ?side1 ?side2 A7.out).mono ?_);(case side1=>exact byav HO182.out);(case side2=>exact byaw HO182.out);rintro e w28 ⟨rfl,hb⟩;have n_:=q_5 (Kd.jP (byau HO170.out) hb) (Kd.jH (byas HO173.out) hb) (Kd.jP (byau HO178.out) hb) (Kd.jP (byau HO182.out) hb) (qE byae hb);clear HO170 HO173 HO178 HO182 HB;obtain ⟨HO170,HO173,HO178,HO182,HB⟩:=n_;clear hb)|(go_at_call 29;(with_reducible refine (zA.calls  t184 _ A9.out).mono ?_);rintro e w29 ⟨v185,rfl,ho0,hb⟩;have n_:=q_6 (Kd.zU (byau HO170.out) (Kd.vI ho0) hb) (Kd.jH (byas HO173.out) hb) (Kd.zU (byau HO178.out) (Kd.vI ho0) hb) (Kd.zU (byau HO182.out) (Kd.vI ho0) hb) (Kd.vW (Kd.zV (ok':=fun k_=>some k_≠(.slice Ao20 t168.length co20 : Value).ownBlock∧some k_≠(.slice Ao21 y171.length co21 : Value).ownBlock∧some k_≠(.slice Ao24 t176.length co24 : Value).ownBlock∧some k_≠(.slice Ao27 t180.length co27 : Value).ownBlock) ho0 (fun k_ hk_=>⟨(Kd.fresh' (Kd.N_lt (byau HO170.out)) k_ hk_),(Kd.fresh' (Kd.R_lt (byas HO173.out)) k_ hk_),(Kd.fresh' (Kd.N_lt (byau HO178.out)) k_ hk_),(Kd.fresh' (Kd.N_lt (byau HO182.out)) k_ hk_)⟩)) (zJ byae)) (qE byae hb);clear HO170 HO173 HO178 HO182 HB;obtain ⟨HO170,HO173,HO178,HO182,HO186,HB⟩:=n_;clear hb;(try clear ho0);obtain ⟨Ao30,co30,eo30⟩:=Kd.vT HO186.out;subst eo30;clear A9)|(go_at_call 17;(with_reducible refine (closure_Greatest.calls k _ _ t184 1 t187 _ ?side1 ?side2 A10.out).mono ?_);(case side1=>exact byav HO186.out);(case side2=>exact byaw HO186.out);rintro e w31 ⟨rfl,hb⟩;have n_:=q_6 (Kd.jP (byau HO170.out) hb) (Kd.jH (byas HO173.out) hb) (Kd.jP (byau HO178.out) hb) (Kd.jP (byau HO182.out) hb) (Kd.jP (byau HO186.out) hb) (qE byae hb);clear HO170 HO173 HO178 HO182 HO186 HB;obtain ⟨HO170,HO173,HO178,HO182,HO186,HB⟩:=n_;clear hb)|(go_at_call 29;(with_reducible refine (zA.calls  t188 _ A12.out).mono ?_);rintro e w32 ⟨v189,rfl,ho0,hb⟩;have n_:=q_7 (Kd.zU (byau HO170.out) (Kd.vI ho0) hb) (Kd.jH (byas HO173.out) hb) (Kd.zU (byau HO178.out) (Kd.vI ho0) hb) (Kd.zU (byau HO182.out) (Kd.vI ho0) hb) (Kd.zU (byau HO186.out) (Kd.vI ho0) hb) (Kd.vW (Kd.zV (ok':=fun k_=>some k_≠(.slice Ao20 t168.length co20 : Value).ownBlock∧some k_≠(.slice Ao21 y171.length co21 : Value).ownBlock∧some k_≠(.slice Ao24 t176.length co24 : Value).ownBlock∧some k_≠(.slice Ao27 t180.length co27 : Value).ownBlock∧some k_≠(.slice Ao30 t184.length co30 : Value).ownBlock) ho0 (fun k_ hk_=>⟨(Kd.fresh' (Kd.N_lt (byau HO170.out)) k_ hk_),(Kd.fresh' (Kd.R_lt (byas HO173.out)) k_ hk_),(Kd.fresh' (Kd.N_lt (byau HO178.out)) k_ hk_),(Kd.fresh' (Kd.N_lt (byau HO182.out)) k_ hk_),(Kd.fresh' (Kd.N_lt (byau HO186.out)) k_ hk_)⟩)) (zJ byae)) (qE byae hb);clear HO170 HO173 HO178 HO182 HO186 HB;obtain ⟨HO170,HO173,HO178,HO182,HO186,HO190,HB⟩:=n_;clear hb;(try clear ho0);obtain ⟨Ao33,co33,eo33⟩:=Kd.vT HO190.out;subst eo33;clear A12)|(go_at_call 20;(with_reducible refine (closure_Elimination.calls k _ _ t188 1 t191 _ ?side1 ?side2 A13.out).mono ?_);(case side1=>exact byav HO190.out);(case side2=>exact byaw HO190.out);rintro e w34 ⟨v192,rfl,ho0,hb⟩;have n_:=q_8 (Kd.zU (byau HO170.out) (Kd.zW ho0) hb) (Kd.uH (byas HO173.out) (Kd.zW ho0) hb) (Kd.zU (byau HO178.out) (Kd.zW ho0) hb) (Kd.zU (byau HO182.out) (Kd.zW ho0) hb) (Kd.zU (byau HO186.out) (Kd.zW ho0) hb) (Kd.zU (byau HO190.out) (Kd.zW ho0) hb) (Kd.vG (Kd.uY ho0 (Kd.R_lt (byas HO173.out))) (zJ byae)) (qE byae hb);clear HO170 HO173 HO178 HO182 HO186 HO190 HB;obtain ⟨HO170,HO173,HO178,HO182,HO186,HO190,HO193,HB⟩:=n_;clear hb;(try clear ho0))|((with_reducible refine qX (N:=24) rfl ?_);(try (refine uB (by rfl) ?_;dsimp only));refine Kd.Qk (Kd.int .i64) _ 3 ?hg (N:=24) ?hd (xs:=([0] : List Int)) (inner:=[.int .i64 0]) (ok:=fun _=>True) (okp:=fun _=>True) ?hr ?hp (fun _ hk=>hk) trivial (Below.refl _ _) (Nat.le_refl _) (by simp) ?_;(case hd=>rfl);(case hg=>rfl);(case hr=>exact byad);(case hp=>exact (Reps.one (show Kd.M (Kd.int .i64) _ _ _ 0 [.int .i64 0] from rfl) (Reps.none _ _)));intro v195 w35 ho36 hb hg_ hnew_;clear hg_ hnew_;(first|rw [← Ny194.out] at ho36|(simp only [Int.reduceToNat] at ho36;rw [← Ny194.out] at ho36));have n_:=q_9 (Kd.zU (byau HO170.out) (Kd.zW ho36) hb) (Kd.uH (byas HO173.out) (Kd.zW ho36) hb) (Kd.zU (byau HO178.out) (Kd.zW ho36) hb) (Kd.zU (byau HO182.out) (Kd.zW ho36) hb) (Kd.zU (byau HO186.out) (Kd.zW ho36) hb) (Kd.zU (byau HO190.out) (Kd.zW ho36) hb) (Kd.uH (byas HO193.out) (Kd.zW ho36) hb) (Kd.vG (Kd.uY (Kd.uY ho36 (Kd.R_lt (byas HO173.out))) (Kd.R_lt (byas HO193.out))) (zJ byae)) (qE byae hb);clear HO170 HO173 HO178 HO182 HO186 HO190 HO193 HB;obtain ⟨HO170,HO173,HO178,HO182,HO186,HO190,HO193,HO196,HB⟩:=n_;clear hb ho36;obtain ⟨Ao37,co37,eo37⟩:=Kd.jI HO193.out;subst eo37;obtain ⟨Ao38,co38,eo38⟩:=Kd.jI HO196.out;subst eo38)|(go_at_call 19;(with_reducible refine (zH.calls k _ _ t191 _ _ y194 true _ ?side1 ?side2 ?side3 ?side4 A14.out).mono ?_);(case side1=>exact byax HO193.out);(case side2=>exact byay HO193.out);(case side3=>exact byax HO196.out);(case side4=>exact byay HO196.out);rintro e w' ⟨rfl,⟨nd,rfl⟩⟩))
      go_ret
      exact ⟨byam,byae⟩
     ·rw [if_neg c16] at H
      obtain ⟨c16b0,c16b1⟩:=eqF c16
      obtain rfl:=Option.some.inj H
      go_enter Try.func9,Try.ntmps9
      go_wp2_with (first|((with_reducible refine qF (f:=29) rfl ?_);refine zC (some 4) rfl rfl Try.func29 (by kernel_rfl) rfl #[] rfl byac ?_;(with_reducible refine (zA.calls  t168 _ A1.out).mono ?_);rintro e w39 ⟨v169,rfl,ho0,hb⟩;refine ⟨_,rfl,?_⟩;have n_:=q_2 (Kd.vW (Kd.zV (ok':=fun k_=>True) ho0 (fun k_ hk_=>trivial)) (zJ byae)) (qE byae hb);clear HB;obtain ⟨HO170,HB⟩:=n_;clear hb;(try clear ho0))|((with_reducible refine qX (N:=5) rfl ?_);(try (refine uB (by rfl) ?_;dsimp only));refine Kd.Qk (Kd.int .i64) _ 3 ?hg (N:=5) ?hd (xs:=([0] : List Int)) (inner:=[.int .i64 0]) (ok:=fun _=>True) (okp:=fun _=>True) ?hr ?hp (fun _ hk=>hk) trivial (Below.refl _ _) (Nat.le_refl _) (by simp) ?_;(case hd=>rfl);(case hg=>rfl);(case hr=>exact byad);(case hp=>exact (Reps.one (show Kd.M (Kd.int .i64) _ _ _ 0 [.int .i64 0] from rfl) (Reps.none _ _)));intro v172 w40 ho41 hb hg_ hnew_;clear hg_ hnew_;(first|rw [← Ny171.out] at ho41|(simp only [Int.reduceToNat] at ho41;rw [← Ny171.out] at ho41));have n_:=q_3 (Kd.zU (byau HO170.out) (Kd.zW ho41) hb) (Kd.vG ho41 (zJ byae)) (qE byae hb);clear HO170 HB;obtain ⟨HO170,HO173,HB⟩:=n_;clear hb ho41;obtain ⟨Ao42,co42,eo42⟩:=Kd.vT HO170.out;subst eo42;obtain ⟨Ao43,co43,eo43⟩:=Kd.jI HO173.out;subst eo43)|((with_reducible refine qF (f:=22) rfl ?_);refine zC (some 6) rfl rfl Try.func22 (by kernel_rfl) rfl #[.agg #[.slice Ao42 t168.length co42],.int .i64 1,.slice Ao43 y171.length co43] rfl byac ?_;(with_reducible refine (closure_Check.calls k _ _ t168 1 _ _ y171 t174 t175 _ ?side1 ?side2 ?side3 ?side4 A2.out).mono ?_);(case side1=>exact byav HO170.out);(case side2=>exact byaw HO170.out);(case side3=>exact byax HO173.out);(case side4=>exact byay HO173.out);rintro e w44 ⟨rfl,hb⟩;refine ⟨_,rfl,?_⟩;have n_:=q_3 (Kd.jP (byau HO170.out) hb) (Kd.jH (byas HO173.out) hb) (qE byae hb);clear HO170 HO173 HB;obtain ⟨HO170,HO173,HB⟩:=n_;clear hb)|((with_reducible refine qF (f:=29) rfl ?_);refine zC (some 9) rfl rfl Try.func29 (by kernel_rfl) rfl #[] rfl byac ?_;(with_reducible refine (zA.calls  t176 _ A3.out).mono ?_);rintro e w45 ⟨v177,rfl,ho0,hb⟩;refine ⟨_,rfl,?_⟩;have n_:=q_4 (Kd.zU (byau HO170.out) (Kd.vI ho0) hb) (Kd.jH (byas HO173.out) hb) (Kd.vW (Kd.zV (ok':=fun k_=>some k_≠(.slice Ao42 t168.length co42 : Value).ownBlock∧some k_≠(.slice Ao43 y171.length co43 : Value).ownBlock) ho0 (fun k_ hk_=>⟨(Kd.fresh' (Kd.N_lt (byau HO170.out)) k_ hk_),(Kd.fresh' (Kd.R_lt (byas HO173.out)) k_ hk_)⟩)) (zJ byae)) (qE byae hb);clear HO170 HO173 HB;obtain ⟨HO170,HO173,HO178,HB⟩:=n_;clear hb;(try clear ho0);obtain ⟨Ao46,co46,eo46⟩:=Kd.vT HO178.out;subst eo46)|((with_reducible refine qF (f:=15) rfl ?_);refine zC (some 10) rfl rfl Try.func15 (by kernel_rfl) rfl #[.agg #[.slice Ao46 t176.length co46],.int .i64 3] rfl byac ?_;(with_reducible refine (closure_Quorum.calls k _ _ t176 3 true _ ?side1 ?side2 A4.out).mono ?_);(case side1=>exact byav HO178.out);(case side2=>exact byaw HO178.out);rintro e w47 ⟨rfl,hb⟩;refine ⟨_,rfl,?_⟩;have n_:=q_4 (Kd.jP (byau HO170.out) hb) (Kd.jH (byas HO173.out) hb) (Kd.jP (byau HO178.out) hb) (qE byae hb);clear HO170 HO173 HO178 HB;obtain ⟨HO170,HO173,HO178,HB⟩:=n_;clear hb)|(go_at_call 29;(with_reducible refine (zA.calls  t180 _ A6.out).mono ?_);rintro e w48 ⟨v181,rfl,ho0,hb⟩;have n_:=q_5 (Kd.zU (byau HO170.out) (Kd.vI ho0) hb) (Kd.jH (byas HO173.out) hb) (Kd.zU (byau HO178.out) (Kd.vI ho0) hb) (Kd.vW (Kd.zV (ok':=fun k_=>some k_≠(.slice Ao42 t168.length co42 : Value).ownBlock∧some k_≠(.slice Ao43 y171.length co43 : Value).ownBlock∧some k_≠(.slice Ao46 t176.length co46 : Value).ownBlock) ho0 (fun k_ hk_=>⟨(Kd.fresh' (Kd.N_lt (byau HO170.out)) k_ hk_),(Kd.fresh' (Kd.R_lt (byas HO173.out)) k_ hk_),(Kd.fresh' (Kd.N_lt (byau HO178.out)) k_ hk_)⟩)) (zJ byae)) (qE byae hb);clear HO170 HO173 HO178 HB;obtain ⟨HO170,HO173,HO178,HO182,HB⟩:=n_;clear hb;(try clear ho0);obtain ⟨Ao49,co49,eo49⟩:=Kd.vT HO182.out;subst eo49;clear A6)|(go_at_call 17;(with_reducible refine (closure_Greatest.calls k _ _ t180 7 t183 _ ?side1 ?side2 A7.out).mono ?_);(case side1=>exact byav HO182.out);(case side2=>exact byaw HO182.out);rintro e w50 ⟨rfl,hb⟩;have n_:=q_5 (Kd.jP (byau HO170.out) hb) (Kd.jH (byas HO173.out) hb) (Kd.jP (byau HO178.out) hb) (Kd.jP (byau HO182.out) hb) (qE byae hb);clear HO170 HO173 HO178 HO182 HB;obtain ⟨HO170,HO173,HO178,HO182,HB⟩:=n_;clear hb)|(go_at_call 29;(with_reducible refine (zA.calls  t184 _ A9.out).mono ?_);rintro e w51 ⟨v185,rfl,ho0,hb⟩;have n_:=q_6 (Kd.zU (byau HO170.out) (Kd.vI ho0) hb) (Kd.jH (byas HO173.out) hb) (Kd.zU (byau HO178.out) (Kd.vI ho0) hb) (Kd.zU (byau HO182.out) (Kd.vI ho0) hb) (Kd.vW (Kd.zV (ok':=fun k_=>some k_≠(.slice Ao42 t168.length co42 : Value).ownBlock∧some k_≠(.slice Ao43 y171.length co43 : Value).ownBlock∧some k_≠(.slice Ao46 t176.length co46 : Value).ownBlock∧some k_≠(.slice Ao49 t180.length co49 : Value).ownBlock) ho0 (fun k_ hk_=>⟨(Kd.fresh' (Kd.N_lt (byau HO170.out)) k_ hk_),(Kd.fresh' (Kd.R_lt (byas HO173.out)) k_ hk_),(Kd.fresh' (Kd.N_lt (byau HO178.out)) k_ hk_),(Kd.fresh' (Kd.N_lt (byau HO182.out)) k_ hk_)⟩)) (zJ byae)) (qE byae hb);clear HO170 HO173 HO178 HO182 HB;obtain ⟨HO170,HO173,HO178,HO182,HO186,HB⟩:=n_;clear hb;(try clear ho0);obtain ⟨Ao52,co52,eo52⟩:=Kd.vT HO186.out;subst eo52;clear A9)|(go_at_call 17;(with_reducible refine (closure_Greatest.calls k _ _ t184 1 t187 _ ?side1 ?side2 A10.out).mono ?_);(case side1=>exact byav HO186.out);(case side2=>exact byaw HO186.out);rintro e w53 ⟨rfl,hb⟩;have n_:=q_6 (Kd.jP (byau HO170.out) hb) (Kd.jH (byas HO173.out) hb) (Kd.jP (byau HO178.out) hb) (Kd.jP (byau HO182.out) hb) (Kd.jP (byau HO186.out) hb) (qE byae hb);clear HO170 HO173 HO178 HO182 HO186 HB;obtain ⟨HO170,HO173,HO178,HO182,HO186,HB⟩:=n_;clear hb)|(go_at_call 29;(with_reducible refine (zA.calls  t188 _ A12.out).mono ?_);rintro e w54 ⟨v189,rfl,ho0,hb⟩;have n_:=q_7 (Kd.zU (byau HO170.out) (Kd.vI ho0) hb) (Kd.jH (byas HO173.out) hb) (Kd.zU (byau HO178.out) (Kd.vI ho0) hb) (Kd.zU (byau HO182.out) (Kd.vI ho0) hb) (Kd.zU (byau HO186.out) (Kd.vI ho0) hb) (Kd.vW (Kd.zV (ok':=fun k_=>some k_≠(.slice Ao42 t168.length co42 : Value).ownBlock∧some k_≠(.slice Ao43 y171.length co43 : Value).ownBlock∧some k_≠(.slice Ao46 t176.length co46 : Value).ownBlock∧some k_≠(.slice Ao49 t180.length co49 : Value).ownBlock∧some k_≠(.slice Ao52 t184.length co52 : Value).ownBlock) ho0 (fun k_ hk_=>⟨(Kd.fresh' (Kd.N_lt (byau HO170.out)) k_ hk_),(Kd.fresh' (Kd.R_lt (byas HO173.out)) k_ hk_),(Kd.fresh' (Kd.N_lt (byau HO178.out)) k_ hk_),(Kd.fresh' (Kd.N_lt (byau HO182.out)) k_ hk_),(Kd.fresh' (Kd.N_lt (byau HO186.out)) k_ hk_)⟩)) (zJ byae)) (qE byae hb);clear HO170 HO173 HO178 HO182 HO186 HB;obtain ⟨HO170,HO173,HO178,HO182,HO186,HO190,HB⟩:=n_;clear hb;(try clear ho0);obtain ⟨Ao55,co55,eo55⟩:=Kd.vT HO190.out;subst eo55;clear A12)|(go_at_call 20;(with_reducible refine (closure_Elimination.calls k _ _ t188 1 t191 _ ?side1 ?side2 A13.out).mono ?_);(case side1=>exact byav HO190.out);(case side2=>exact byaw HO190.out);rintro e w56 ⟨v192,rfl,ho0,hb⟩;have n_:=q_8 (Kd.zU (byau HO170.out) (Kd.zW ho0) hb) (Kd.uH (byas HO173.out) (Kd.zW ho0) hb) (Kd.zU (byau HO178.out) (Kd.zW ho0) hb) (Kd.zU (byau HO182.out) (Kd.zW ho0) hb) (Kd.zU (byau HO186.out) (Kd.zW ho0) hb) (Kd.zU (byau HO190.out) (Kd.zW ho0) hb) (Kd.vG (Kd.uY ho0 (Kd.R_lt (byas HO173.out))) (zJ byae)) (qE byae hb);clear HO170 HO173 HO178 HO182 HO186 HO190 HB;obtain ⟨HO170,HO173,HO178,HO182,HO186,HO190,HO193,HB⟩:=n_;clear hb;(try clear ho0))|((with_reducible refine qX (N:=24) rfl ?_);(try (refine uB (by rfl) ?_;dsimp only));refine Kd.Qk (Kd.int .i64) _ 3 ?hg (N:=24) ?hd (xs:=([0] : List Int)) (inner:=[.int .i64 0]) (ok:=fun _=>True) (okp:=fun _=>True) ?hr ?hp (fun _ hk=>hk) trivial (Below.refl _ _) (Nat.le_refl _) (by simp) ?_;(case hd=>rfl);(case hg=>rfl);(case hr=>exact byad);(case hp=>exact (Reps.one (show Kd.M (Kd.int .i64) _ _ _ 0 [.int .i64 0] from rfl) (Reps.none _ _)));intro v195 w57 ho58 hb hg_ hnew_;clear hg_ hnew_;(first|rw [← Ny194.out] at ho58|(simp only [Int.reduceToNat] at ho58;rw [← Ny194.out] at ho58));have n_:=q_9 (Kd.zU (byau HO170.out) (Kd.zW ho58) hb) (Kd.uH (byas HO173.out) (Kd.zW ho58) hb) (Kd.zU (byau HO178.out) (Kd.zW ho58) hb) (Kd.zU (byau HO182.out) (Kd.zW ho58) hb) (Kd.zU (byau HO186.out) (Kd.zW ho58) hb) (Kd.zU (byau HO190.out) (Kd.zW ho58) hb) (Kd.uH (byas HO193.out) (Kd.zW ho58) hb) (Kd.vG (Kd.uY (Kd.uY ho58 (Kd.R_lt (byas HO173.out))) (Kd.R_lt (byas HO193.out))) (zJ byae)) (qE byae hb);clear HO170 HO173 HO178 HO182 HO186 HO190 HO193 HB;obtain ⟨HO170,HO173,HO178,HO182,HO186,HO190,HO193,HO196,HB⟩:=n_;clear hb ho58;obtain ⟨Ao59,co59,eo59⟩:=Kd.jI HO193.out;subst eo59;obtain ⟨Ao60,co60,eo60⟩:=Kd.jI HO196.out;subst eo60)|(go_at_call 19;(with_reducible refine (zH.calls k _ _ t191 _ _ y194 true _ ?side1 ?side2 ?side3 ?side4 A14.out).mono ?_);(case side1=>exact byax HO193.out);(case side2=>exact byay HO193.out);(case side3=>exact byax HO196.out);(case side4=>exact byay HO196.out);rintro e w' ⟨rfl,⟨nd,rfl⟩⟩))
      go_ret
      exact ⟨byam,byae⟩
    ·replace c15:=Bool.eq_false_iff.mpr c15
     subst c15
     rw [if_neg (show ¬ (false = true) by decide)] at H
     obtain rfl:=Option.some.inj H
     go_enter Try.func9,Try.ntmps9
     go_wp2_with (first|((with_reducible refine qF (f:=29) rfl ?_);refine zC (some 4) rfl rfl Try.func29 (by kernel_rfl) rfl #[] rfl byac ?_;(with_reducible refine (zA.calls  t168 _ A1.out).mono ?_);rintro e w61 ⟨v169,rfl,ho0,hb⟩;refine ⟨_,rfl,?_⟩;have n_:=q_2 (Kd.vW (Kd.zV (ok':=fun k_=>True) ho0 (fun k_ hk_=>trivial)) (zJ byae)) (qE byae hb);clear HB;obtain ⟨HO170,HB⟩:=n_;clear hb;(try clear ho0))|((with_reducible refine qX (N:=5) rfl ?_);(try (refine uB (by rfl) ?_;dsimp only));refine Kd.Qk (Kd.int .i64) _ 3 ?hg (N:=5) ?hd (xs:=([0] : List Int)) (inner:=[.int .i64 0]) (ok:=fun _=>True) (okp:=fun _=>True) ?hr ?hp (fun _ hk=>hk) trivial (Below.refl _ _) (Nat.le_refl _) (by simp) ?_;(case hd=>rfl);(case hg=>rfl);(case hr=>exact byad);(case hp=>exact (Reps.one (show Kd.M (Kd.int .i64) _ _ _ 0 [.int .i64 0] from rfl) (Reps.none _ _)));intro v172 w62 ho63 hb hg_ hnew_;clear hg_ hnew_;(first|rw [← Ny171.out] at ho63|(simp only [Int.reduceToNat] at ho63;rw [← Ny171.out] at ho63));have n_:=q_3 (Kd.zU (byau HO170.out) (Kd.zW ho63) hb) (Kd.vG ho63 (zJ byae)) (qE byae hb);clear HO170 HB;obtain ⟨HO170,HO173,HB⟩:=n_;clear hb ho63;obtain ⟨Ao64,co64,eo64⟩:=Kd.vT HO170.out;subst eo64;obtain ⟨Ao65,co65,eo65⟩:=Kd.jI HO173.out;subst eo65)|((with_reducible refine qF (f:=22) rfl ?_);refine zC (some 6) rfl rfl Try.func22 (by kernel_rfl) rfl #[.agg #[.slice Ao64 t168.length co64],.int .i64 1,.slice Ao65 y171.length co65] rfl byac ?_;(with_reducible refine (closure_Check.calls k _ _ t168 1 _ _ y171 t174 t175 _ ?side1 ?side2 ?side3 ?side4 A2.out).mono ?_);(case side1=>exact byav HO170.out);(case side2=>exact byaw HO170.out);(case side3=>exact byax HO173.out);(case side4=>exact byay HO173.out);rintro e w66 ⟨rfl,hb⟩;refine ⟨_,rfl,?_⟩;have n_:=q_3 (Kd.jP (byau HO170.out) hb) (Kd.jH (byas HO173.out) hb) (qE byae hb);clear HO170 HO173 HB;obtain ⟨HO170,HO173,HB⟩:=n_;clear hb)|((with_reducible refine qF (f:=29) rfl ?_);refine zC (some 9) rfl rfl Try.func29 (by kernel_rfl) rfl #[] rfl byac ?_;(with_reducible refine (zA.calls  t176 _ A3.out).mono ?_);rintro e w67 ⟨v177,rfl,ho0,hb⟩;refine ⟨_,rfl,?_⟩;have n_:=q_4 (Kd.zU (byau HO170.out) (Kd.vI ho0) hb) (Kd.jH (byas HO173.out) hb) (Kd.vW (Kd.zV (ok':=fun k_=>some k_≠(.slice Ao64 t168.length co64 : Value).ownBlock∧some k_≠(.slice Ao65 y171.length co65 : Value).ownBlock) ho0 (fun k_ hk_=>⟨(Kd.fresh' (Kd.N_lt (byau HO170.out)) k_ hk_),(Kd.fresh' (Kd.R_lt (byas HO173.out)) k_ hk_)⟩)) (zJ byae)) (qE byae hb);clear HO170 HO173 HB;obtain ⟨HO170,HO173,HO178,HB⟩:=n_;clear hb;(try clear ho0);obtain ⟨Ao68,co68,eo68⟩:=Kd.vT HO178.out;subst eo68)|((with_reducible refine qF (f:=15) rfl ?_);refine zC (some 10) rfl rfl Try.func15 (by kernel_rfl) rfl #[.agg #[.slice Ao68 t176.length co68],.int .i64 3] rfl byac ?_;(with_reducible refine (closure_Quorum.calls k _ _ t176 3 true _ ?side1 ?side2 A4.out).mono ?_);(case side1=>exact byav HO178.out);(case side2=>exact byaw HO178.out);rintro e w69 ⟨rfl,hb⟩;refine ⟨_,rfl,?_⟩;have n_:=q_4 (Kd.jP (byau HO170.out) hb) (Kd.jH (byas HO173.out) hb) (Kd.jP (byau HO178.out) hb) (qE byae hb);clear HO170 HO173 HO178 HB;obtain ⟨HO170,HO173,HO178,HB⟩:=n_;clear hb)|(go_at_call 29;(with_reducible refine (zA.calls  t180 _ A6.out).mono ?_);rintro e w70 ⟨v181,rfl,ho0,hb⟩;have n_:=q_5 (Kd.zU (byau HO170.out) (Kd.vI ho0) hb) (Kd.jH (byas HO173.out) hb) (Kd.zU (byau HO178.out) (Kd.vI ho0) hb) (Kd.vW (Kd.zV (ok':=fun k_=>some k_≠(.slice Ao64 t168.length co64 : Value).ownBlock∧some k_≠(.slice Ao65 y171.length co65 : Value).ownBlock∧some k_≠(.slice Ao68 t176.length co68 : Value).ownBlock) ho0 (fun k_ hk_=>⟨(Kd.fresh' (Kd.N_lt (byau HO170.out)) k_ hk_),(Kd.fresh' (Kd.R_lt (byas HO173.out)) k_ hk_),(Kd.fresh' (Kd.N_lt (byau HO178.out)) k_ hk_)⟩)) (zJ byae)) (qE byae hb);clear HO170 HO173 HO178 HB;obtain ⟨HO170,HO173,HO178,HO182,HB⟩:=n_;clear hb;(try clear ho0);obtain ⟨Ao71,co71,eo71⟩:=Kd.vT HO182.out;subst eo71;clear A6)|(go_at_call 17;(with_reducible refine (closure_Greatest.calls k _ _ t180 7 t183 _ ?side1 ?side2 A7.out).mono ?_);(case side1=>exact byav HO182.out);(case side2=>exact byaw HO182.out);rintro e w72 ⟨rfl,hb⟩;have n_:=q_5 (Kd.jP (byau HO170.out) hb) (Kd.jH (byas HO173.out) hb) (Kd.jP (byau HO178.out) hb) (Kd.jP (byau HO182.out) hb) (qE byae hb);clear HO170 HO173 HO178 HO182 HB;obtain ⟨HO170,HO173,HO178,HO182,HB⟩:=n_;clear hb)|(go_at_call 29;(with_reducible refine (zA.calls  t184 _ A9.out).mono ?_);rintro e w73 ⟨v185,rfl,ho0,hb⟩;have n_:=q_6 (Kd.zU (byau HO170.out) (Kd.vI ho0) hb) (Kd.jH (byas HO173.out) hb) (Kd.zU (byau HO178.out) (Kd.vI ho0) hb) (Kd.zU (byau HO182.out) (Kd.vI ho0) hb) (Kd.vW (Kd.zV (ok':=fun k_=>some k_≠(.slice Ao64 t168.length co64 : Value).ownBlock∧some k_≠(.slice Ao65 y171.length co65 : Value).ownBlock∧some k_≠(.slice Ao68 t176.length co68 : Value).ownBlock∧some k_≠(.slice Ao71 t180.length co71 : Value).ownBlock) ho0 (fun k_ hk_=>⟨(Kd.fresh' (Kd.N_lt (byau HO170.out)) k_ hk_),(Kd.fresh' (Kd.R_lt (byas HO173.out)) k_ hk_),(Kd.fresh' (Kd.N_lt (byau HO178.out)) k_ hk_),(Kd.fresh' (Kd.N_lt (byau HO182.out)) k_ hk_)⟩)) (zJ byae)) (qE byae hb);clear HO170 HO173 HO178 HO182 HB;obtain ⟨HO170,HO173,HO178,HO182,HO186,HB⟩:=n_;clear hb;(try clear ho0);obtain ⟨Ao74,co74,eo74⟩:=Kd.vT HO186.out;subst eo74;clear A9)|(go_at_call 17;(with_reducible refine (closure_Greatest.calls k _ _ t184 1 t187 _ ?side1 ?side2 A10.out).mono ?_);(case side1=>exact byav HO186.out);(case side2=>exact byaw HO186.out);rintro e w75 ⟨rfl,hb⟩;have n_:=q_6 (Kd.jP (byau HO170.out) hb) (Kd.jH (byas HO173.out) hb) (Kd.jP (byau HO178.out) hb) (Kd.jP (byau HO182.out) hb) (Kd.jP (byau HO186.out) hb) (qE byae hb);clear HO170 HO173 HO178 HO182 HO186 HB;obtain ⟨HO170,HO173,HO178,HO182,HO186,HB⟩:=n_;clear hb)|(go_at_call 29;(with_reducible refine (zA.calls  t188 _ A12.out).mono ?_);rintro e w76 ⟨v189,rfl,ho0,hb⟩;have n_:=q_7 (Kd.zU (byau HO170.out) (Kd.vI ho0) hb) (Kd.jH (byas HO173.out) hb) (Kd.zU (byau HO178.out) (Kd.vI ho0) hb) (Kd.zU (byau HO182.out) (Kd.vI ho0) hb) (Kd.zU (byau HO186.out) (Kd.vI ho0) hb) (Kd.vW (Kd.zV (ok':=fun k_=>some k_≠(.slice Ao64 t168.length co64 : Value).ownBlock∧some k_≠(.slice Ao65 y171.length co65 : Value).ownBlock∧some k_≠(.slice Ao68 t176.length co68 : Value).ownBlock∧some k_≠(.slice Ao71 t180.length co71 : Value).ownBlock∧some k_≠(.slice Ao74 t184.length co74 : Value).ownBlock) ho0 (fun k_ hk_=>⟨(Kd.fresh' (Kd.N_lt (byau HO170.out)) k_ hk_),(Kd.fresh' (Kd.R_lt (byas HO173.out)) k_ hk_),(Kd.fresh' (Kd.N_lt (byau HO178.out)) k_ hk_),(Kd.fresh' (Kd.N_lt (byau HO182.out)) k_ hk_),(Kd.fresh' (Kd.N_lt (byau HO186.out)) k_ hk_)⟩)) (zJ byae)) (qE byae hb);clear HO170 HO173 HO178 HO182 HO186 HB;obtain ⟨HO170,HO173,HO178,HO182,HO186,HO190,HB⟩:=n_;clear hb;(try clear ho0);obtain ⟨Ao77,co77,eo77⟩:=Kd.vT HO190.out;subst eo77;clear A12)|(go_at_call 20;(with_reducible refine (closure_Elimination.calls k _ _ t188 1 t191 _ ?side1 ?side2 A13.out).mono ?_);(case side1=>exact byav HO190.out);(case side2=>exact byaw HO190.out);rintro e w78 ⟨v192,rfl,ho0,hb⟩;have n_:=q_8 (Kd.zU (byau HO170.out) (Kd.zW ho0) hb) (Kd.uH (byas HO173.out) (Kd.zW ho0) hb) (Kd.zU (byau HO178.out) (Kd.zW ho0) hb) (Kd.zU (byau HO182.out) (Kd.zW ho0) hb) (Kd.zU (byau HO186.out) (Kd.zW ho0) hb) (Kd.zU (byau HO190.out) (Kd.zW ho0) hb) (Kd.vG (Kd.uY ho0 (Kd.R_lt (byas HO173.out))) (zJ byae)) (qE byae hb);clear HO170 HO173 HO178 HO182 HO186 HO190 HB;obtain ⟨HO170,HO173,HO178,HO182,HO186,HO190,HO193,HB⟩:=n_;clear hb;(try clear ho0))|((with_reducible refine qX (N:=24) rfl ?_);(try (refine uB (by rfl) ?_;dsimp only));refine Kd.Qk (Kd.int .i64) _ 3 ?hg (N:=24) ?hd (xs:=([0] : List Int)) (inner:=[.int .i64 0]) (ok:=fun _=>True) (okp:=fun _=>True) ?hr ?hp (fun _ hk=>hk) trivial (Below.refl _ _) (Nat.le_refl _) (by simp) ?_;(case hd=>rfl);(case hg=>rfl);(case hr=>exact byad);(case hp=>exact (Reps.one (show Kd.M (Kd.int .i64) _ _ _ 0 [.int .i64 0] from rfl) (Reps.none _ _)));intro v195 w79 ho80 hb hg_ hnew_;clear hg_ hnew_;(first|rw [← Ny194.out] at ho80|(simp only [Int.reduceToNat] at ho80;rw [← Ny194.out] at ho80));have n_:=q_9 (Kd.zU (byau HO170.out) (Kd.zW ho80) hb) (Kd.uH (byas HO173.out) (Kd.zW ho80) hb) (Kd.zU (byau HO178.out) (Kd.zW ho80) hb) (Kd.zU (byau HO182.out) (Kd.zW ho80) hb) (Kd.zU (byau HO186.out) (Kd.zW ho80) hb) (Kd.zU (byau HO190.out) (Kd.zW ho80) hb) (Kd.uH (byas HO193.out) (Kd.zW ho80) hb) (Kd.vG (Kd.uY (Kd.uY ho80 (Kd.R_lt (byas HO173.out))) (Kd.R_lt (byas HO193.out))) (zJ byae)) (qE byae hb);clear HO170 HO173 HO178 HO182 HO186 HO190 HO193 HB;obtain ⟨HO170,HO173,HO178,HO182,HO186,HO190,HO193,HO196,HB⟩:=n_;clear hb ho80;obtain ⟨Ao81,co81,eo81⟩:=Kd.jI HO193.out;subst eo81;obtain ⟨Ao82,co82,eo82⟩:=Kd.jI HO196.out;subst eo82)|(go_at_call 19;(with_reducible refine (zH.calls k _ _ t191 _ _ y194 false _ ?side1 ?side2 ?side3 ?side4 A14.out).mono ?_);(case side1=>exact byax HO193.out);(case side2=>exact byay HO193.out);(case side3=>exact byax HO196.out);(case side4=>exact byay HO196.out);rintro e w' ⟨rfl,⟨nd,rfl⟩⟩))
     go_ret
     exact ⟨byam,byae⟩
   ·rw [if_neg c11] at H
    obtain ⟨c11b0,c11b1⟩:=eqF c11
    obtain rfl:=Option.some.inj H
    go_enter Try.func9,Try.ntmps9
    go_wp2_with (first|((with_reducible refine qF (f:=29) rfl ?_);refine zC (some 4) rfl rfl Try.func29 (by kernel_rfl) rfl #[] rfl byac ?_;(with_reducible refine (zA.calls  t168 _ A1.out).mono ?_);rintro e w83 ⟨v169,rfl,ho0,hb⟩;refine ⟨_,rfl,?_⟩;have n_:=q_2 (Kd.vW (Kd.zV (ok':=fun k_=>True) ho0 (fun k_ hk_=>trivial)) (zJ byae)) (qE byae hb);clear HB;obtain ⟨HO170,HB⟩:=n_;clear hb;(try clear ho0))|((with_reducible refine qX (N:=5) rfl ?_);(try (refine uB (by rfl) ?_;dsimp only));refine Kd.Qk (Kd.int .i64) _ 3 ?hg (N:=5) ?hd (xs:=([0] : List Int)) (inner:=[.int .i64 0]) (ok:=fun _=>True) (okp:=fun _=>True) ?hr ?hp (fun _ hk=>hk) trivial (Below.refl _ _) (Nat.le_refl _) (by simp) ?_;(case hd=>rfl);(case hg=>rfl);(case hr=>exact byad);(case hp=>exact (Reps.one (show Kd.M (Kd.int .i64) _ _ _ 0 [.int .i64 0] from rfl) (Reps.none _ _)));intro v172 w84 ho85 hb hg_ hnew_;clear hg_ hnew_;(first|rw [← Ny171.out] at ho85|(simp only [Int.reduceToNat] at ho85;rw [← Ny171.out] at ho85));have n_:=q_3 (Kd.zU (byau HO170.out) (Kd.zW ho85) hb) (Kd.vG ho85 (zJ byae)) (qE byae hb);clear HO170 HB;obtain ⟨HO170,HO173,HB⟩:=n_;clear hb ho85;obtain ⟨Ao86,co86,eo86⟩:=Kd.vT HO170.out;subst eo86;obtain ⟨Ao87,co87,eo87⟩:=Kd.jI HO173.out;subst eo87)|((with_reducible refine qF (f:=22) rfl ?_);refine zC (some 6) rfl rfl Try.func22 (by kernel_rfl) rfl #[.agg #[.slice Ao86 t168.length co86],.int .i64 1,.slice Ao87 y171.length co87] rfl byac ?_;(with_reducible refine (closure_Check.calls k _ _ t168 1 _ _ y171 t174 t175 _ ?side1 ?side2 ?side3 ?side4 A2.out).mono ?_);(case side1=>exact byav HO170.out);(case side2=>exact byaw HO170.out);(case side3=>exact byax HO173.out);(case side4=>exact byay HO173.out);rintro e w88 ⟨rfl,hb⟩;refine ⟨_,rfl,?_⟩;have n_:=q_3 (Kd.jP (byau HO170.out) hb) (Kd.jH (byas HO173.out) hb) (qE byae hb);clear HO170 HO173 HB;obtain ⟨HO170,HO173,HB⟩:=n_;clear hb)|((with_reducible refine qF (f:=29) rfl ?_);refine zC (some 9) rfl rfl Try.func29 (by kernel_rfl) rfl #[] rfl byac ?_;(with_reducible refine (zA.calls  t176 _ A3.out).mono ?_);rintro e w89 ⟨v177,rfl,ho0,hb⟩;refine ⟨_,rfl,?_⟩;have n_:=q_4 (Kd.zU (byau HO170.out) (Kd.vI ho0) hb) (Kd.jH (byas HO173.out) hb) (Kd.vW (Kd.zV (ok':=fun k_=>some k_≠(.slice Ao86 t168.length co86 : Value).ownBlock∧some k_≠(.slice Ao87 y171.length co87 : Value).ownBlock) ho0 (fun k_ hk_=>⟨(Kd.fresh' (Kd.N_lt (byau HO170.out)) k_ hk_),(Kd.fresh' (Kd.R_lt (byas HO173.out)) k_ hk_)⟩)) (zJ byae)) (qE byae hb);clear HO170 HO173 HB;obtain ⟨HO170,HO173,HO178,HB⟩:=n_;clear hb;(try clear ho0);obtain ⟨Ao90,co90,eo90⟩:=Kd.vT HO178.out;subst eo90)|((with_reducible refine qF (f:=15) rfl ?_);refine zC (some 10) rfl rfl Try.func15 (by kernel_rfl) rfl #[.agg #[.slice Ao90 t176.length co90],.int .i64 3] rfl byac ?_;(with_reducible refine (closure_Quorum.calls k _ _ t176 3 true _ ?side1 ?side2 A4.out).mono ?_);(case side1=>exact byav HO178.out);(case side2=>exact byaw HO178.out);rintro e w91 ⟨rfl,hb⟩;refine ⟨_,rfl,?_⟩;have n_:=q_4 (Kd.jP (byau HO170.out) hb) (Kd.jH (byas HO173.out) hb) (Kd.jP (byau HO178.out) hb) (qE byae hb);clear HO170 HO173 HO178 HB;obtain ⟨HO170,HO173,HO178,HB⟩:=n_;clear hb)|(go_at_call 29;(with_reducible refine (zA.calls  t180 _ A6.out).mono ?_);rintro e w92 ⟨v181,rfl,ho0,hb⟩;have n_:=q_5 (Kd.zU (byau HO170.out) (Kd.vI ho0) hb) (Kd.jH (byas HO173.out) hb) (Kd.zU (byau HO178.out) (Kd.vI ho0) hb) (Kd.vW (Kd.zV (ok':=fun k_=>some k_≠(.slice Ao86 t168.length co86 : Value).ownBlock∧some k_≠(.slice Ao87 y171.length co87 : Value).ownBlock∧some k_≠(.slice Ao90 t176.length co90 : Value).ownBlock) ho0 (fun k_ hk_=>⟨(Kd.fresh' (Kd.N_lt (byau HO170.out)) k_ hk_),(Kd.fresh' (Kd.R_lt (byas HO173.out)) k_ hk_),(Kd.fresh' (Kd.N_lt (byau HO178.out)) k_ hk_)⟩)) (zJ byae)) (qE byae hb);clear HO170 HO173 HO178 HB;obtain ⟨HO170,HO173,HO178,HO182,HB⟩:=n_;clear hb;(try clear ho0);obtain ⟨Ao93,co93,eo93⟩:=Kd.vT HO182.out;subst eo93;clear A6)|(go_at_call 17;(with_reducible refine (closure_Greatest.calls k _ _ t180 7 t183 _ ?side1 ?side2 A7.out).mono ?_);(case side1=>exact byav HO182.out);(case side2=>exact byaw HO182.out);rintro e w94 ⟨rfl,hb⟩;have n_:=q_5 (Kd.jP (byau HO170.out) hb) (Kd.jH (byas HO173.out) hb) (Kd.jP (byau HO178.out) hb) (Kd.jP (byau HO182.out) hb) (qE byae hb);clear HO170 HO173 HO178 HO182 HB;obtain ⟨HO170,HO173,HO178,HO182,HB⟩:=n_;clear hb)|(go_at_call 29;(with_reducible refine (zA.calls  t184 _ A9.out).mono ?_);rintro e w95 ⟨v185,rfl,ho0,hb⟩;have n_:=q_6 (Kd.zU (byau HO170.out) (Kd.vI ho0) hb) (Kd.jH (byas HO173.out) hb) (Kd.zU (byau HO178.out) (Kd.vI ho0) hb) (Kd.zU (byau HO182.out) (Kd.vI ho0) hb) (Kd.vW (Kd.zV (ok':=fun k_=>some k_≠(.slice Ao86 t168.length co86 : Value).ownBlock∧some k_≠(.slice Ao87 y171.length co87 : Value).ownBlock∧some k_≠(.slice Ao90 t176.length co90 : Value).ownBlock∧some k_≠(.slice Ao93 t180.length co93 : Value).ownBlock) ho0 (fun k_ hk_=>⟨(Kd.fresh' (Kd.N_lt (byau HO170.out)) k_ hk_),(Kd.fresh' (Kd.R_lt (byas HO173.out)) k_ hk_),(Kd.fresh' (Kd.N_lt (byau HO178.out)) k_ hk_),(Kd.fresh' (Kd.N_lt (byau HO182.out)) k_ hk_)⟩)) (zJ byae)) (qE byae hb);clear HO170 HO173 HO178 HO182 HB;obtain ⟨HO170,HO173,HO178,HO182,HO186,HB⟩:=n_;clear hb;(try clear ho0);obtain ⟨Ao96,co96,eo96⟩:=Kd.vT HO186.out;subst eo96;clear A9)|(go_at_call 17;(with_reducible refine (closure_Greatest.calls k _ _ t184 1 t187 _ ?side1 ?side2 A10.out).mono ?_);(case side1=>exact byav HO186.out);(case side2=>exact byaw HO186.out);rintro e w97 ⟨rfl,hb⟩;have n_:=q_6 (Kd.jP (byau HO170.out) hb) (Kd.jH (byas HO173.out) hb) (Kd.jP (byau HO178.out) hb) (Kd.jP (byau HO182.out) hb) (Kd.jP (byau HO186.out) hb) (qE byae hb);clear HO170 HO173 HO178 HO182 HO186 HB;obtain ⟨HO170,HO173,HO178,HO182,HO186,HB⟩:=n_;clear hb))
    go_ret
    exact ⟨byam,byae⟩
  ·rw [if_neg c8] at H
   obtain ⟨c8b0,c8b1⟩:=eqF c8
   obtain rfl:=Option.some.inj H
   go_enter Try.func9,Try.ntmps9
   go_wp2_with (first|((with_reducible refine qF (f:=29) rfl ?_);refine zC (some 4) rfl rfl Try.func29 (by kernel_rfl) rfl #[] rfl byac ?_;(with_reducible refine (zA.calls  t168 _ A1.out).mono ?_);rintro e w98 ⟨v169,rfl,ho0,hb⟩;refine ⟨_,rfl,?_⟩;have n_:=q_2 (Kd.vW (Kd.zV (ok':=fun k_=>True) ho0 (fun k_ hk_=>trivial)) (zJ byae)) (qE byae hb);clear HB;obtain ⟨HO170,HB⟩:=n_;clear hb;(try clear ho0))|((with_reducible refine qX (N:=5) rfl ?_);(try (refine uB (by rfl) ?_;dsimp only));refine Kd.Qk (Kd.int .i64) _ 3 ?hg (N:=5) ?hd (xs:=([0] : List Int)) (inner:=[.int .i64 0]) (ok:=fun _=>True) (okp:=fun _=>True) ?hr ?hp (fun _ hk=>hk) trivial (Below.refl _ _) (Nat.le_refl _) (by simp) ?_;(case hd=>rfl);(case hg=>rfl);(case hr=>exact byad);(case hp=>exact (Reps.one (show Kd.M (Kd.int .i64) _ _ _ 0 [.int .i64 0] from rfl) (Reps.none _ _)));intro v172 w99 ho100 hb hg_ hnew_;clear hg_ hnew_;(first|rw [← Ny171.out] at ho100|(simp only [Int.reduceToNat] at ho100;rw [← Ny171.out] at ho100));have n_:=q_3 (Kd.zU (byau HO170.out) (Kd.zW ho100) hb) (Kd.vG ho100 (zJ byae)) (qE byae hb);clear HO170 HB;obtain ⟨HO170,HO173,HB⟩:=n_;clear hb ho100;obtain ⟨Ao101,co101,eo101⟩:=Kd.vT HO170.out;subst eo101;obtain ⟨Ao102,co102,eo102⟩:=Kd.jI HO173.out;subst eo102)|((with_reducible refine qF (f:=22) rfl ?_);refine zC (some 6) rfl rfl Try.func22 (by kernel_rfl) rfl #[.agg #[.slice Ao101 t168.length co101],.int .i64 1,.slice Ao102 y171.length co102] rfl byac ?_;(with_reducible refine (closure_Check.calls k _ _ t168 1 _ _ y171 t174 t175 _ ?side1 ?side2 ?side3 ?side4 A2.out).mono ?_);(case side1=>exact byav HO170.out);(case side2=>exact byaw HO170.out);(case side3=>exact byax HO173.out);(case side4=>exact byay HO173.out);rintro e w103 ⟨rfl,hb⟩;refine ⟨_,rfl,?_⟩;have n_:=q_3 (Kd.jP (byau HO170.out) hb) (Kd.jH (byas HO173.out) hb) (qE byae hb);clear HO170 HO173 HB;obtain ⟨HO170,HO173,HB⟩:=n_;clear hb)|((with_reducible refine qF (f:=29) rfl ?_);refine zC (some 9) rfl rfl Try.func29 (by kernel_rfl) rfl #[] rfl byac ?_;(with_reducible refine (zA.calls  t176 _ A3.out).mono ?_);rintro e w104 ⟨v177,rfl,ho0,hb⟩;refine ⟨_,rfl,?_⟩;have n_:=q_4 (Kd.zU (byau HO170.out) (Kd.vI ho0) hb) (Kd.jH (byas HO173.out) hb) (Kd.vW (Kd.zV (ok':=fun k_=>some k_≠(.slice Ao101 t168.length co101 : Value).ownBlock∧some k_≠(.slice Ao102 y171.length co102 : Value).ownBlock) ho0 (fun k_ hk_=>⟨(Kd.fresh' (Kd.N_lt (byau HO170.out)) k_ hk_),(Kd.fresh' (Kd.R_lt (byas HO173.out)) k_ hk_)⟩)) (zJ byae)) (qE byae hb);clear HO170 HO173 HB;obtain ⟨HO170,HO173,HO178,HB⟩:=n_;clear hb;(try clear ho0);obtain ⟨Ao105,co105,eo105⟩:=Kd.vT HO178.out;subst eo105)|((with_reducible refine qF (f:=15) rfl ?_);refine zC (some 10) rfl rfl Try.func15 (by kernel_rfl) rfl #[.agg #[.slice Ao105 t176.length co105],.int .i64 3] rfl byac ?_;(with_reducible refine (closure_Quorum.calls k _ _ t176 3 true _ ?side1 ?side2 A4.out).mono ?_);(case side1=>exact byav HO178.out);(case side2=>exact byaw HO178.out);rintro e w106 ⟨rfl,hb⟩;refine ⟨_,rfl,?_⟩;have n_:=q_4 (Kd.jP (byau HO170.out) hb) (Kd.jH (byas HO173.out) hb) (Kd.jP (byau HO178.out) hb) (qE byae hb);clear HO170 HO173 HO178 HB;obtain ⟨HO170,HO173,HO178,HB⟩:=n_;clear hb)|(go_at_call 29;(with_reducible refine (zA.calls  t180 _ A6.out).mono ?_);rintro e w107 ⟨v181,rfl,ho0,hb⟩;have n_:=q_5 (Kd.zU (byau HO170.out) (Kd.vI ho0) hb) (Kd.jH (byas HO173.out) hb) (Kd.zU (byau HO178.out) (Kd.vI ho0) hb) (Kd.vW (Kd.zV (ok':=fun k_=>some k_≠(.slice Ao101 t168.length co101 : Value).ownBlock∧some k_≠(.slice Ao102 y171.length co102 : Value).ownBlock∧some k_≠(.slice Ao105 t176.length co105 : Value).ownBlock) ho0 (fun k_ hk_=>⟨(Kd.fresh' (Kd.N_lt (byau HO170.out)) k_ hk_),(Kd.fresh' (Kd.R_lt (byas HO173.out)) k_ hk_),(Kd.fresh' (Kd.N_lt (byau HO178.out)) k_ hk_)⟩)) (zJ byae)) (qE byae hb);clear HO170 HO173 HO178 HB;obtain ⟨HO170,HO173,HO178,HO182,HB⟩:=n_;clear hb;(try clear ho0);obtain ⟨Ao108,co108,eo108⟩:=Kd.vT HO182.out;subst eo108;clear A6)|(go_at_call 17;(with_reducible refine (closure_Greatest.calls k _ _ t180 7 t183 _ ?side1 ?side2 A7.out).mono ?_);(case side1=>exact byav HO182.out);(case side2=>exact byaw HO182.out);rintro e w109 ⟨rfl,hb⟩;have n_:=q_5 (Kd.jP (byau HO170.out) hb) (Kd.jH (byas HO173.out) hb) (Kd.jP (byau HO178.out) hb) (Kd.jP (byau HO182.out) hb) (qE byae hb);clear HO170 HO173 HO178 HO182 HB;obtain ⟨HO170,HO173,HO178,HO182,HB⟩:=n_;clear hb))
   go_ret
   exact ⟨byam,byae⟩
 ·replace c5:=Bool.eq_false_iff.mpr c5
  subst c5
  rw [if_neg (show ¬ (false = true) by decide)] at H
  obtain rfl:=Option.some.inj H
  go_enter Try.func9,Try.ntmps9
  go_wp2_with (first|((with_reducible refine qF (f:=29) rfl ?_);refine zC (some 4) rfl rfl Try.func29 (by kernel_rfl) rfl #[] rfl byac ?_;(with_reducible refine (zA.calls  t168 _ A1.out).mono ?_);rintro e w110 ⟨v169,rfl,ho0,hb⟩;refine ⟨_,rfl,?_⟩;have n_:=q_2 (Kd.vW (Kd.zV (ok':=fun k_=>True) ho0 (fun k_ hk_=>trivial)) (zJ byae)) (qE byae hb);clear HB;obtain ⟨HO170,HB⟩:=n_;clear hb;(try clear ho0))|((with_reducible refine qX (N:=5) rfl ?_);(try (refine uB (by rfl) ?_;dsimp only));refine Kd.Qk (Kd.int .i64) _ 3 ?hg (N:=5) ?hd (xs:=([0] : List Int)) (inner:=[.int .i64 0]) (ok:=fun _=>True) (okp:=fun _=>True) ?hr ?hp (fun _ hk=>hk) trivial (Below.refl _ _) (Nat.le_refl _) (by simp) ?_;(case hd=>rfl);(case hg=>rfl);(case hr=>exact byad);(case hp=>exact (Reps.one (show Kd.M (Kd.int .i64) _ _ _ 0 [.int .i64 0] from rfl) (Reps.none _ _)));intro v172 w111 ho112 hb hg_ hnew_;clear hg_ hnew_;(first|rw [← Ny171.out] at ho112|(simp only [Int.reduceToNat] at ho112;rw [← Ny171.out] at ho112));have n_:=q_3 (Kd.zU (byau HO170.out) (Kd.zW ho112) hb) (Kd.vG ho112 (zJ byae)) (qE byae hb);clear HO170 HB;obtain ⟨HO170,HO173,HB⟩:=n_;clear hb ho112;obtain ⟨Ao113,co113,eo113⟩:=Kd.vT HO170.out;subst eo113;obtain ⟨Ao114,co114,eo114⟩:=Kd.jI HO173.out;subst eo114)|((with_reducible refine qF (f:=22) rfl ?_);refine zC (some 6) rfl rfl Try.func22 (by kernel_rfl) rfl #[.agg #[.slice Ao113 t168.length co113],.int .i64 1,.slice Ao114 y171.length co114] rfl byac ?_;(with_reducible refine (closure_Check.calls k _ _ t168 1 _ _ y171 t174 t175 _ ?side1 ?side2 ?side3 ?side4 A2.out).mono ?_);(case side1=>exact byav HO170.out);(case side2=>exact byaw HO170.out);(case side3=>exact byax HO173.out);(case side4=>exact byay HO173.out);rintro e w115 ⟨rfl,hb⟩;refine ⟨_,rfl,?_⟩;have n_:=q_3 (Kd.jP (byau HO170.out) hb) (Kd.jH (byas HO173.out) hb) (qE byae hb);clear HO170 HO173 HB;obtain ⟨HO170,HO173,HB⟩:=n_;clear hb)|((with_reducible refine qF (f:=29) rfl ?_);refine zC (some 9) rfl rfl Try.func29 (by kernel_rfl) rfl #[] rfl byac ?_;(with_reducible refine (zA.calls  t176 _ A3.out).mono ?_);rintro e w116 ⟨v177,rfl,ho0,hb⟩;refine ⟨_,rfl,?_⟩;have n_:=q_4 (Kd.zU (byau HO170.out) (Kd.vI ho0) hb) (Kd.jH (byas HO173.out) hb) (Kd.vW (Kd.zV (ok':=fun k_=>some k_≠(.slice Ao113 t168.length co113 : Value).ownBlock∧some k_≠(.slice Ao114 y171.length co114 : Value).ownBlock) ho0 (fun k_ hk_=>⟨(Kd.fresh' (Kd.N_lt (byau HO170.out)) k_ hk_),(Kd.fresh' (Kd.R_lt (byas HO173.out)) k_ hk_)⟩)) (zJ byae)) (qE byae hb);clear HO170 HO173 HB;obtain ⟨HO170,HO173,HO178,HB⟩:=n_;clear hb;(try clear ho0);obtain ⟨Ao117,co117,eo117⟩:=Kd.vT HO178.out;subst eo117)|((with_reducible refine qF (f:=15) rfl ?_);refine zC (some 10) rfl rfl Try.func15 (by kernel_rfl) rfl #[.agg #[.slice Ao117 t176.length co117],.int .i64 3] rfl byac ?_;(with_reducible refine (closure_Quorum.calls k _ _ t176 3 false _ ?side1 ?side2 A4.out).mono ?_);(case side1=>exact byav HO178.out);(case side2=>exact byaw HO178.out);rintro e w118 ⟨rfl,hb⟩;refine ⟨_,rfl,?_⟩;have n_:=q_4 (Kd.jP (byau HO170.out) hb) (Kd.jH (byas HO173.out) hb) (Kd.jP (byau HO178.out) hb) (qE byae hb);clear HO170 HO173 HO178 HB;obtain ⟨HO170,HO173,HO178,HB⟩:=n_;clear hb))
  go_ret
  exact ⟨byam,byae⟩
def qB (w0 W : World) (g : Nat) (f0 : List Int) (f1 : Int) : Prop:=∃ A0 c0,W.heap[g]? = some (.cells #[.slice A0 f0.length c0,.int .i64 f1] 56 (0,0))∧w0.heap.size ≤ g∧Kd.C (Kd.int .i64) w0 A0 f0.length f0
theorem qB.grown {w0 W : World} {g : Nat} {f0 : List Int} {f1 : Int} {W1 : World} {row : Option Nat} (h : qB w0 W g f0 f1) (hw : W.grownBy W1 row) (hne : some g≠row) : qB w0 W1 g f0 f1:=by
 obtain ⟨A0,c0,hb,hg,hr0⟩:=h
 exact ⟨A0,c0,zS hb hw hne,hg,hr0⟩
theorem qB.kS {w0 W : World} {g : Nat} {f0 : List Int} {f1 : Int} {α : Type} {d : Kd α} {e : Nat} {base : Nat} {ok : Nat→Prop} {v : Value} {xs : List α} (h : qB w0 W g f0 f1) (ho : Kd.N d e W base ok v xs) (ht : e≠56) : some g≠v.ownBlock:=by
 obtain ⟨A0,c0,hb,hg,hr0⟩:=h
 exact Kd.N_ne ho hb ht
theorem qB.fresh {w0 W : World} {g : Nat} {f0 : List Int} {f1 : Int} (h : qB w0 W g f0 f1) : ∀ k,W.heap.size ≤ k→k≠g:=by
 obtain ⟨A0,c0,hb,hg,hr0⟩:=h
 exact Kd.jW hb
theorem qB.kept {w0 W : World} {g : Nat} {f0 : List Int} {f1 : Int} {W1 : World} {S : Nat→Prop} (h : qB w0 W g f0 f1) (hk : Kept W W1 S) (hne : ¬ S g) : qB w0 W1 g f0 f1:=by
 obtain ⟨A0,c0,hb,hg,hr0⟩:=h
 exact ⟨A0,c0,blk_kept hb hk hne,hg,hr0⟩
theorem qB.below {w0 W : World} {g : Nat} {f0 : List Int} {f1 : Int} {W1 : World} (h : qB w0 W g f0 f1) (hw : Below W.heap.size W W1) : qB w0 W1 g f0 f1:=h.grown (grown_of_below hw none) (by simp)
theorem qB.alloc {w0 W : World} {g : Nat} {f0 : List Int} {f1 : Int} (h : qB w0 W g f0 f1) (o : Obj) : qB w0 (W.alloc o) g f0 f1:=h.below (vZ (Below.refl _ _) o)
theorem qB.drewN {w0 W : World} {g : Nat} {f0 : List Int} {f1 : Int} (h : qB w0 W g f0 f1) (m : Nat) : qB w0 (W.drewN m) g f0 f1:=h
theorem qB.drew {w0 W : World} {g : Nat} {f0 : List Int} {f1 : Int} (h : qB w0 W g f0 f1) : qB w0 W.drew g f0 f1:=h
theorem qB.at_ {w0 W : World} {g : Nat} {f0 : List Int} {f1 : Int} {w' : World} {m : Nat} (hq : W.drewN m = w') (h : qB w0 W g f0 f1) : qB w0 w' g f0 f1:=by subst hq;exact qB.drewN h m
theorem qB.apart {w0 W : World} {g : Nat} {f0 : List Int} {f1 : Int} {α : Type} {d : Kd α} {e : Nat} {base : Nat} {ok : Nat→Prop} {v : Value} {xs : List α} (h : qB w0 W g f0 f1) (ho : d.R e W base ok v xs) (ht : ∀ q,q ∈ e :: d.E→q≠56) : d.R e W base (fun k=>ok k∧k≠g) v xs:=by
 obtain ⟨A0,c0,hb,hg,hr0⟩:=h
 exact Kd.zX ho hb ht
theorem qB.own_ne {w0 W : World} {g : Nat} {f0 : List Int} {f1 : Int} {α : Type} {d : Kd α} {e : Nat} {base : Nat} {ok : Nat→Prop} {v : Value} {xs : List α} (h : qB w0 W g f0 f1) (ho : d.R e W base ok v xs) (ht : e≠56) : some g≠v.ownBlock:=by
 obtain ⟨A0,c0,hb,hg,hr0⟩:=h
 exact Kd.R_ne ho hb ht
theorem qB.lt {w0 W : World} {g : Nat} {f0 : List Int} {f1 : Int} (h : qB w0 W g f0 f1) : g < W.heap.size:=by
 obtain ⟨A0,c0,hb,hg,hr0⟩:=h
 exact blk_lt hb
theorem qB.ge {w0 W : World} {g : Nat} {f0 : List Int} {f1 : Int} (h : qB w0 W g f0 f1) : w0.heap.size ≤ g:=by
 obtain ⟨A0,c0,hb,hg,hr0⟩:=h
 exact hg
theorem qB.ne_blk {w0 W : World} {g : Nat} {f0 : List Int} {f1 : Int} {a : Nat} {cs : Array Value} {t : TypeId} {fr : Nat × Nat} (h : qB w0 W g f0 f1) (hb2 : W.heap[a]? = some (.cells cs t fr)) (ht : t≠56) : g≠a:=by
 obtain ⟨A0,c0,hb,hg,hr0⟩:=h
 rintro rfl
 rw [hb] at hb2
 injection hb2 with hb2
 injection hb2 with _ ht2
 exact ht ht2.symm
theorem qB.far {w0 W : World} {g : Nat} {f0 : List Int} {f1 : Int} {p : Addr} (h : qB w0 W g f0 f1) (hne : g≠p.block) (u : Value) : qB w0 (W.setCell p u) g f0 f1:=by
 obtain ⟨A0,c0,hb,hg,hr0⟩:=h
 exact ⟨A0,c0,uT hb hne u,hg,hr0⟩
theorem cellS56_0 {W : World} {g : Nat} {A0 : Option Addr} {c0 : Nat} {f0 : List Int} {f1 : Int} (h : W.heap[g]? = some (.cells #[.slice A0 f0.length c0,.int .i64 f1] 56 (0,0))) : W.cell? ⟨g,0,none⟩ = some (.slice A0 f0.length c0):=(vF h 0).trans rfl
theorem cellS56_1 {W : World} {g : Nat} {A0 : Option Addr} {c0 : Nat} {f0 : List Int} {f1 : Int} (h : W.heap[g]? = some (.cells #[.slice A0 f0.length c0,.int .i64 f1] 56 (0,0))) : W.cell? ⟨g,1,none⟩ = some (.int .i64 f1):=(vF h 1).trans rfl
theorem qB.jO {w0 W : World} {g : Nat} {f0 : List Int} {f1 : Int} (h : qB w0 W g f0 f1) (x : Int) : qB w0 (W.setCell ⟨g,1,none⟩ (.int .i64 x)) g f0 x:=by
 obtain ⟨A0,c0,hb,hg,hr0⟩:=h
 exact ⟨A0,c0,by simpa using blk_set hb 1 (.int .i64 x),hg,hr0⟩
def uU.f (l0 : List Int) : Option (List Int × Int):=if 0 ≤ (mn (l0.length : Int) 400) then (if (mn (l0.length : Int) 400) ≤ (l0.length : Int) then (some (l0.take ((mn (l0.length : Int) 400) : Int).toNat,0)) else (none)) else (none)
set_option maxHeartbeats 8000000 in
set_option maxRecDepth 100000 in
theorem uU.calls (A0 : Option Addr) (c0 : Nat) (l0 : List Int) (r1 : List Int) (r2 : Int) (w0 w : World) (hB : Below w0.heap.size w0 w) (hr0 : Kd.C (Kd.int .i64) w0 A0 l0.length l0) (hc0 : l0.length ≤ c0) (h : uU.f l0 = some (r1,r2)) :
  Calls Try.prog 10 #[.slice A0 l0.length c0] w fun e w'=>∃ g_ : Nat,e = .returned (.pointer (some ⟨g_,0,none⟩))∧qB w0 w' g_ r1 r2∧Below w0.heap.size w0 w'∧Below w.heap.size w w':=by
 have hu56:=Try.underlying56
 have HR0:=qA.mk hr0
 have HC0:=qA.mk hc0
 clear hr0 hc0
 have HBW:=qA.mk (Below.refl w.heap.size w)
 have HW0:=qA.mk hB.size
 have HB:=qA.mk hB
 clear hB
 unfold uU.f at h
 have H:=h
 clear h
 obtain ⟨ji2,hji2⟩ : ∃ j_ : Int,(mn (l0.length : Int) 400) = j_:=⟨_,rfl⟩
 (first|rw [hji2] at H|(simp only [hji2] at H))
 (try (have hji2h : ji2 ≤ 400:=by (rw [← hji2];unfold mn;(repeat' split)<;>omega)))
 (try (have hji2g : ji2 ≤ 64:=by omega))
 (try (have hji2l : 0 ≤ ji2:=by (rw [← hji2];unfold mn;(repeat' split)<;>omega)))
 (try (have hji2m : 0 ≤ ji2:=by omega))
 have hji2_ : (if 400 < (l0.length : Int) then 400 else (l0.length : Int)) = ji2:=hji2
 by_cases c3 : 0 ≤ (ji2)
 ·rw [if_pos c3] at H
  have c3b0:=eq_true c3
  have c3b1:=decide_eq_true c3
  clear c3
  by_cases c4 : (ji2) ≤ (l0.length : Int)
  ·rw [if_pos c4] at H
   have c4b0:=eq_true c4
   have c4b1:=decide_eq_true c4
   clear c4
   simp only [Option.some.injEq,Prod.mk.injEq] at H
   obtain ⟨rfl,rfl⟩:=H
   obtain ⟨i05,hi05,_,hsz5,_⟩:=info_parts info3
   obtain ⟨hcut5,hA5,hC5⟩:=print_take_of (P:=Try.prog) (Value.int .i64) 0 22 3 .i64 Try.underlying22 hi05 hsz5 A0 c0 l0 (ji2) (of_decide_eq_true byah) (of_decide_eq_true byah) HC0.out
   have HR198:=qA.mk (Kd.C_of_reads (h1:=fun _=>rfl) (hA5 _ (Kd.reads_of_C HR0.out)))
   have HC198:=qA.mk hC5
   clear hA5 hC5 hi05 hsz5
   go_enter Try.func10,Try.ntmps10
   go_wp2_with (first|((with_reducible refine qX (N:=9) rfl ?_);refine zD ?hg (N:=9) ?hd (cs:=#[.slice A0 (l0.take ((ji2) : Int).toNat).length c0,.int .i64 0]) (t:=56) ?hr ?_;(case hd=>rfl);(case hg=>rfl);(case hr=>exact byad);intro gb199 hg w6 hbox hb;have n_:=q_5 (qE HBW.out hb) (qE byae hb) (hbox) ((bycn : w.heap.size ≤ gb199)) ((Nat.le_trans HW0.out (bycn : w.heap.size ≤ gb199) : w0.heap.size ≤ gb199));clear HBW HB;obtain ⟨HBW,HB,BK199,GW199,GE199⟩:=n_;clear hb hbox hg))
   go_ret
   exact ⟨_,rfl,(show qB w0 _ gb199 (l0.take ((ji2) : Int).toNat) 0 from ⟨_,_,byaf BK199.out,GE199.out,HR198.out⟩),byag GE199.out,by repeat (first|(with_reducible first|exact HBW.out|apply vZ|apply vY|apply vU|refine vV ?_ GW199.out)|exact HBW.out)⟩
  ·rw [if_neg c4] at H
   exact absurd H (by simp)
 ·rw [if_neg c3] at H
  exact absurd H (by simp)
def qK.f (s0_0 : List Int) (s0_1 : Int) (a1 : Int) : Option (Int × Int):=if s0_1 ≥ (s0_0.length : Int) then (some (0,s0_1)) else (if 0 ≤ s0_1 then (if s0_1 < (s0_0.length : Int) then (if a1 = 0 then (none) else (if (Int.tmod (rd s0_0 s0_1) a1) < 0 then (some (wrap64 ((Int.tmod (rd s0_0 s0_1) a1) + a1),wrap64 (s0_1 + 1))) else (some (Int.tmod (rd s0_0 s0_1) a1,wrap64 (s0_1 + 1))))) else (none)) else (none))
set_option maxHeartbeats 8000000 in
set_option maxRecDepth 100000 in
theorem qK.calls (g : Nat) (s0_0 : List Int) (s0_1 : Int) (a1 : Int) (r1 : Int) (r2 : Int) (w0 w : World) (hI : qB w0 w g s0_0 s0_1) (hB : Below w0.heap.size w0 w) (h : qK.f s0_0 s0_1 a1 = some (r1,r2)) :
  Calls Try.prog 13 #[.pointer (some ⟨g,0,none⟩),.int .i64 a1] w fun e w'=>e = .returned (.int .i64 r1)∧qB w0 w' g s0_0 r2∧Below w0.heap.size w0 w'∧qC w w' g none:=by
 have HI0:=qA.mk hI
 have HK:=qA.mk (qC.refl w g none)
 have HL:=qA.mk hB.size
 clear hI
 have HW0:=qA.mk hB.size
 have HB:=qA.mk hB
 clear hB
 unfold qK.f at h
 have H:=h
 clear h
 by_cases c3 : s0_1 ≥ (s0_0.length : Int)
 ·rw [if_pos c3] at H
  have c3b0:=decide_eq_true c3
  clear c3
  simp only [Option.some.injEq,Prod.mk.injEq] at H
  obtain ⟨rfl,rfl⟩:=H
  obtain ⟨ASz4_0,cSz4_0,HGz4,hgz4,HSz4_0⟩:=HI0.out
  have hcz4_0:=cellS56_0 HGz4
  have hcz4_1:=cellS56_1 HGz4
  have hfz4_1:=uZ HGz4 1
  clear HGz4 hgz4
  go_enter Try.func13,Try.ntmps13
  go_wp2
  repeat (go_quiet (fail);try go_wp2)
  go_ret
  exact ⟨byam,byaz HI0.out,byba HI0.out,bybb⟩
 ·rw [if_neg c3] at H
  have c3b0:=decide_eq_false c3
  clear c3
  by_cases c5 : 0 ≤ s0_1
  ·rw [if_pos c5] at H
   have c5b0:=decide_eq_true c5
   clear c5
   by_cases c6 : s0_1 < (s0_0.length : Int)
   ·rw [if_pos c6] at H
    have c6b0:=decide_eq_true c6
    clear c6
    by_cases c7 : a1 = 0
    ·rw [if_pos c7] at H
     exact absurd H (by simp)
    ·rw [if_neg c7] at H
     obtain ⟨c7b0,c7b1⟩:=eqF c7
     by_cases c8 : (Int.tmod (rd s0_0 s0_1) a1) < 0
     ·rw [if_pos c8] at H
      have c8b0:=decide_eq_true c8
      clear c8
      simp only [Option.some.injEq,Prod.mk.injEq] at H
      obtain ⟨rfl,rfl⟩:=H
      obtain ⟨ASz9_0,cSz9_0,HGz9,hgz9,HSz9_0⟩:=HI0.out
      have hcz9_0:=cellS56_0 HGz9
      have hcz9_1:=cellS56_1 HGz9
      have hfz9_1:=uZ HGz9 1
      clear HGz9 hgz9
      have p200 : 0 ≤ (s0_1 : Int):=of_decide_eq_true byah
      have q200 : s0_1 < (s0_0.length : Int):=of_decide_eq_true byah
      obtain ⟨ad200,e200,hx200_0⟩:=Kd.uV HSz9_0 s0_1 p200 q200
      cases e200
      replace hx200_0:=Qo HB.out hx200_0
      replace p200:=eq_true p200
      replace q200:=eq_true q200
      go_enter Try.func13,Try.ntmps13
      go_wp2
      repeat (go_quiet (fail);try go_wp2)
      go_ret
      exact ⟨byam,byaz HI0.out,byba HI0.out,bybb⟩
     ·rw [if_neg c8] at H
      have c8b0:=decide_eq_false c8
      clear c8
      simp only [Option.some.injEq,Prod.mk.injEq] at H
      obtain ⟨rfl,rfl⟩:=H
      obtain ⟨ASz10_0,cSz10_0,HGz10,hgz10,HSz10_0⟩:=HI0.out
      have hcz10_0:=cellS56_0 HGz10
      have hcz10_1:=cellS56_1 HGz10
      have hfz10_1:=uZ HGz10 1
      clear HGz10 hgz10
      have p200 : 0 ≤ (s0_1 : Int):=of_decide_eq_true byah
      have q200 : s0_1 < (s0_0.length : Int):=of_decide_eq_true byah
      obtain ⟨ad200,e200,hx200_0⟩:=Kd.uV HSz10_0 s0_1 p200 q200
      cases e200
      replace hx200_0:=Qo HB.out hx200_0
      replace p200:=eq_true p200
      replace q200:=eq_true q200
      go_enter Try.func13,Try.ntmps13
      go_wp2
      repeat (go_quiet (fail);try go_wp2)
      go_ret
      exact ⟨byam,byaz HI0.out,byba HI0.out,bybb⟩
   ·rw [if_neg c6] at H
    exact absurd H (by simp)
  ·rw [if_neg c5] at H
   exact absurd H (by simp)
def zK.f (s0_0 : List Int) (s0_1 : Int) (a1 : Int) (a2 : Int) : Option (Int × Int):=(qK.f s0_0 s0_1 (wrap64 ((wrap64 (a2 - a1)) + 1))).bind fun bt201=>(some (wrap64 (a1 + bt201.1),bt201.2))
set_option maxHeartbeats 8000000 in
set_option maxRecDepth 100000 in
theorem zK.calls (g : Nat) (s0_0 : List Int) (s0_1 : Int) (a1 : Int) (a2 : Int) (r1 : Int) (r2 : Int) (w0 w : World) (hI : qB w0 w g s0_0 s0_1) (hB : Below w0.heap.size w0 w) (h : zK.f s0_0 s0_1 a1 a2 = some (r1,r2)) :
  Calls Try.prog 30 #[.pointer (some ⟨g,0,none⟩),.int .i64 a1,.int .i64 a2] w fun e w'=>e = .returned (.int .i64 r1)∧qB w0 w' g s0_0 r2∧Below w0.heap.size w0 w'∧qC w w' g none:=by
 have HI0:=qA.mk hI
 have HK:=qA.mk (qC.refl w g none)
 have HL:=qA.mk hB.size
 clear hI
 have HW0:=qA.mk hB.size
 have HB:=qA.mk hB
 clear hB
 unfold zK.f at h
 have H:=h
 clear h
 replace H:=Option.bind_eq_some_iff.mp H
 obtain ⟨⟨t201,t202⟩,A40,H⟩:=H
 try dsimp only at H
 have A4:=qA.mk A40
 clear A40
 simp only [Option.some.injEq,Prod.mk.injEq] at H
 obtain ⟨rfl,rfl⟩:=H
 go_enter Try.func30,Try.ntmps30
 go_wp2_with (first|((with_reducible refine qF (f:=13) rfl ?_);refine zC (some 13) rfl rfl Try.func13 (by kernel_rfl) rfl #[.pointer (some ⟨g,0,none⟩),.int .i64 (wrap64 ((wrap64 (a2 - a1)) + 1))] rfl byac ?_;(with_reducible refine (qK.calls g s0_0 s0_1 (wrap64 ((wrap64 (a2 - a1)) + 1)) t201 t202 w0 _ ?side1 ?side2 A4.out).mono ?_);(case side1=>exact byaz HI0.out);(case side2=>exact byba HI0.out);rintro e w5 ⟨rfl,hi,hb,hk⟩;refine ⟨_,rfl,?_⟩;have n_:=q_3 (qC.trans bybb hk (.inl rfl)) (hb) (hi);clear HK HB HI0;obtain ⟨HK,HB,HI0⟩:=n_;clear hb hk hi))
 go_ret
 exact ⟨byam,byaz HI0.out,byba HI0.out,bybb⟩
mutual
def qN.l0 : Nat→Int→List Int→Int→List Int→Int→Option (List Int × Int)
 | 0,_,_,_,_,_=>none
 | k + 1,x1,x5,x6,x1000,x1001=>if x6 < x1 then (if x5.length < 17592186044416 then (qN.l0 k x1 (x5 ++ [x6]) (wrap64 (x6 + 1)) x1000 x1001) else (none)) else (qN.l1 k x5 (wrap64 (x1 - 1)) x1000 x1001)
def qN.l1 : Nat→List Int→Int→List Int→Int→Option (List Int × Int)
 | 0,_,_,_,_=>none
 | k + 1,x5,x7,x1000,x1001=>if x7 > 0 then ((qK.f x1000 x1001 (wrap64 (x7 + 1))).bind fun bt206=>(if 0 ≤ bt206.1 then (if bt206.1 < (x5.length : Int) then (if 0 ≤ x7 then (if x7 < (x5.length : Int) then (qN.l1 k ((x5.set (x7 : Int).toNat (rd x5 bt206.1)).set (bt206.1 : Int).toNat (rd x5 x7)) (wrap64 (x7 - 1)) x1000 bt206.2) else (none)) else (none)) else (none)) else (none))) else (some (x5,x1001))
end
def qN.f (k : Nat) (s0_0 : List Int) (s0_1 : Int) (a1 : Int) : Option (List Int × Int):=qN.l0 k a1 ([] : List Int) 0 s0_0 s0_1
def qN.T10 : Bool × List (List Nat × List Nat):=(true,[([],[]),([],[]),([],[]),([],[]),([],[]),([],[]),([4,5],[4,5]),([6],[6]),([],[]),([],[]),([8,9],[8,9]),([10],[10]),([0,1,0,1,4,5,6,7,11],[0,1]),([12,7,0,1,4,5,6,7,11],[7,12]),([2,3,0,1,2,3,4,5,6,7,8,9,10,11,12,13],[2,3]),([14,11,13,0,1,2,3,4,5,6,7,8,9,10,11,12,13],[11,14])])
def qN.B10 : List Nat:=[0,0,0,0,0,0,48,112,0,0,768,1792,4083,8179,16383,32767]
theorem qN.tab10 : rtab .any (opsOf Try.f21 10) = qN.T10:=by kernel_rfl
theorem qN.bits10 : Qy qN.T10.2 qN.B10 = true:=by kernel_rfl
set_option maxHeartbeats 8000000 in
set_option maxRecDepth 100000 in
theorem qN.calls (k : Nat) (g : Nat) (s0_0 : List Int) (s0_1 : Int) (a1 : Int) (r1 : List Int) (r2 : Int) (w0 w : World) (hI : qB w0 w g s0_0 s0_1) (hB : Below w0.heap.size w0 w) (h : qN.f k s0_0 s0_1 a1 = some (r1,r2)) :
  Calls Try.prog 21 #[.pointer (some ⟨g,0,none⟩),.int .i64 a1] w fun e w'=>∃ v0_ : Value,e = .returned (v0_)∧Kd.R (Kd.int .i64) 3 w' w.heap.size (fun _=>True) v0_ r1∧qB w0 w' g s0_0 r2∧Below w0.heap.size w0 w'∧qC w w' g none:=by
 have HI0:=qA.mk hI
 have HK:=qA.mk (qC.refl w g none)
 have HL:=qA.mk hB.size
 clear hI
 have HW0:=qA.mk hB.size
 have HB:=qA.mk hB
 clear hB
 unfold qN.f at h
 have H:=h
 clear h
 have H':=qA.mk H
 clear H
 go_enter Try.func21,Try.ntmps21
 go_wp2
 go_loopg [5,6] k (fun kq v5 v6 w'=>∃ (x5_1 : List Int) (x6_1 : Int),v6 = .int .i64 x6_1∧qA (qN.l0 kq a1 x5_1 x6_1 s0_0 s0_1 = some (r1,r2))∧qA (kq ≤ k)∧qA (Kd.R (Kd.int .i64) 3 w' w.heap.size (fun _=>True) v5 x5_1)∧qA (qB w0 w' g s0_0 s0_1)∧qA (qC w w' g none)∧qA (Below w0.heap.size w0 w'))
 case atStart=>exact ⟨(([] : List Int)),(0),byab,H',⟨Nat.le_refl _⟩,⟨byar⟩,⟨byaz HI0.out⟩,⟨bybb⟩,⟨byba HI0.out⟩⟩
 case round =>
  clear H'
  obtain ⟨x5_1,x6_1,rfl,HA,HK1,HO_5,HI0,HK,HB⟩:=hrel
  cases gk with
  | zero=>exact absurd HA.out (by simp [qN.l0])
  | succ k1 =>
   have H:=HA.out
   clear HA
   simp only [qN.l0] at H
   by_cases c3 : x6_1 < a1
   ·rw [if_pos c3] at H
    have c3b0:=decide_eq_true c3
    clear c3
    by_cases c4 : x5_1.length < 17592186044416
    ·rw [if_pos c4] at H
     have LMc4:=qA.mk c4
     clear c4
     obtain ⟨y203,hy203⟩ : ∃ y_ : List Int,y_ = (x5_1 ++ [x6_1]):=⟨_,rfl⟩
     replace H : (qN.l0 k1 a1 y203 (wrap64 (x6_1 + 1)) s0_0 s0_1) = some (r1,r2):=by first|(rw [hy203];with_reducible exact H)|(have H2_:=(Option.bind_some _ _).symm.trans H;rw [hy203];with_reducible exact H2_)|(have H2_:=(Option.bind_some _ _).symm.trans H;with_reducible exact H2_)|with_reducible exact H|(rw [hy203];exact H)|exact H
     have Ny203:=qA.mk hy203
     clear hy203
     have H':=qA.mk H
     clear H
     go_wp2_with (first|((with_reducible refine jU (b:=.append) (xs:=#[.tmp 14,.tmp 16]) rfl ?_);at_builtin;refine Kd.kF (Kd.int .i64) w.heap.size rfl (.tmp 14) (.tmp 16) 22 3 (.int .i64 0) 8 rfl Try.underlying22 info3 rfl (by decide) (by omega) u5 x5_1 x6_1 [.int .i64 x6_1] (fun _=>True) (fun _=>False) rfl rfl ?aP (fun _ hk=>hk.elim) ?aF ?aO (Below.refl _ _) ?aS ?aL ?_;(case aP=>exact rfl);(case aF=>exact (fun _ _=>trivial));(case aO=>exact (byas HO_5.out));(case aS=>exact (qY (w:=w) (g:=g) (row:=none) bybb));(case aL=>have:=LMc4.out;omega);intro v204 w5 ho hb hg hat;rw [← Ny203.out] at ho;have n_:=q_4 (qB.grown (byaz HI0.out) hg (qB.own_ne HI0.out HO_5.out (by decide))) (vJ (byba HI0.out) HL.out hb) (qC.trans bybb (qC.vX hg g) (Kd.Qg HO_5.out)) (ho);clear HI0 HB HK HO_5;obtain ⟨HI0,HB,HK,HO205⟩:=n_;clear ho hb hg hat))
     go_roundg k1
     case measure=>have:=HK1.out;omega
     case rel=>exact ⟨(y203),(wrap64 (x6_1 + 1)),byab,H',⟨byaj⟩,⟨byas HO205.out⟩,⟨byaz HI0.out⟩,⟨bybb⟩,⟨byba HI0.out⟩⟩
    ·rw [if_neg c4] at H
     exact absurd H (by simp)
   ·rw [if_neg c3] at H
    have c3b0:=decide_eq_false c3
    clear c3
    have H':=qA.mk H
    clear H
    go_wp2
    go_loopg [7] k1 (fun kq v7 w'=>∃ (x5_2 : List Int) (x7_2 : Int) (x1001_2 : Int),v7 = .int .i64 x7_2∧qA (qN.l1 kq x5_2 x7_2 s0_0 x1001_2 = some (r1,r2))∧qA (kq ≤ k1)∧qA (Kd.R (Kd.int .i64) 3 w' w.heap.size (fun _=>True) u5 x5_2)∧qA (qB w0 w' g s0_0 x1001_2)∧qA (qC w w' g none)∧qA (Below w0.heap.size w0 w'))
    case atStart=>exact ⟨(x5_1),(wrap64 (a1 - 1)),(s0_1),byab,H',⟨Nat.le_refl _⟩,⟨byas HO_5.out⟩,⟨byaz HI0.out⟩,⟨bybb⟩,⟨byba HI0.out⟩⟩
    case round =>
     clear H'
     obtain ⟨x5_2,x7_2,x1001_2,rfl,HA,HK2,HO_5,HI0,HK,HB⟩:=hrel
     cases gk with
     | zero=>exact absurd HA.out (by simp [qN.l1])
     | succ k2 =>
      have H:=HA.out
      clear HA
      simp only [qN.l1] at H
      by_cases c6 : x7_2 > 0
      ·rw [if_pos c6] at H
       have c6b0:=decide_eq_true c6
       clear c6
       replace H:=Option.bind_eq_some_iff.mp H
       obtain ⟨⟨t206,t207⟩,A70,H⟩:=H
       try dsimp only at H
       have A7:=qA.mk A70
       clear A70
       by_cases c8 : 0 ≤ t206
       ·rw [if_pos c8] at H
        have c8b0:=decide_eq_true c8
        clear c8
        by_cases c9 : t206 < (x5_2.length : Int)
        ·rw [if_pos c9] at H
         have c9b0:=decide_eq_true c9
         clear c9
         by_cases c10 : 0 ≤ x7_2
         ·rw [if_pos c10] at H
          have c10b0:=decide_eq_true c10
          clear c10
          by_cases c11 : x7_2 < (x5_2.length : Int)
          ·rw [if_pos c11] at H
           have c11b0:=decide_eq_true c11
           clear c11
           obtain ⟨y210,hy210⟩ : ∃ y_ : List Int,y_ = (x5_2.set (x7_2 : Int).toNat (rd x5_2 t206)):=⟨_,rfl⟩
           replace H : (qN.l1 k2 (y210.set (t206 : Int).toNat (rd x5_2 x7_2)) (wrap64 (x7_2 - 1)) s0_0 t207) = some (r1,r2):=by first|(rw [hy210];with_reducible exact H)|(have H2_:=(Option.bind_some _ _).symm.trans H;rw [hy210];with_reducible exact H2_)|(have H2_:=(Option.bind_some _ _).symm.trans H;with_reducible exact H2_)|with_reducible exact H|(rw [hy210];exact H)|exact H
           have Ny210:=qA.mk hy210
           clear hy210
           obtain ⟨y211,hy211⟩ : ∃ y_ : List Int,y_ = (y210.set (t206 : Int).toNat (rd x5_2 x7_2)):=⟨_,rfl⟩
           replace H : (qN.l1 k2 y211 (wrap64 (x7_2 - 1)) s0_0 t207) = some (r1,r2):=by first|(rw [hy211];with_reducible exact H)|(have H2_:=(Option.bind_some _ _).symm.trans H;rw [hy211];with_reducible exact H2_)|(have H2_:=(Option.bind_some _ _).symm.trans H;with_reducible exact H2_)|with_reducible exact H|(rw [hy211];exact H)|exact H
           have Ny211:=qA.mk hy211
           clear hy211
           have H':=qA.mk H
           clear H
           try go_wp2_with (first|((with_reducible refine qF (f:=13) rfl ?_);refine zC (some 27) rfl rfl Try.func13 (by kernel_rfl) rfl #[.pointer (some ⟨g,0,none⟩),.int .i64 (wrap64 (x7_2 + 1))] rfl byac ?_;(with_reducible refine (qK.calls g s0_0 x1001_2 (wrap64 (x7_2 + 1)) t206 t207 w0 _ ?side1 ?side2 A7.out).mono ?_);(case side1=>exact byaz HI0.out);(case side2=>exact byba HI0.out);rintro e w14 ⟨rfl,hi,hb,hk⟩;refine ⟨_,rfl,?_⟩;have n_:=q_4 (Kd.qV (Kd.vK (qB.apart (show qB w0 _ g s0_0 x1001_2 from by repeat (first|(with_reducible first|exact HI0.out|apply qB.alloc|apply qB.drewN|apply qB.drew|apply qB.jO)|exact HI0.out)) (byas HO_5.out) (by decide)) hk (fun _ h=>h.2)) (fun _ h=>h.1)) (qC.trans bybb hk (.inl rfl)) (hb) (hi);clear HO_5 HK HB HI0;obtain ⟨HO_5,HK,HB,HI0⟩:=n_;clear hb hk hi))
           have n_:=q_4 (Kd.jM HO_5.out) (qB.drew HI0.out) (kC HK.out) (vU HB.out)
           clear HO_5 HI0 HK HB
           obtain ⟨HO_5,HI0,HK,HB⟩:=n_
           obtain ⟨Ao16,co16,eo16⟩:=Kd.jI HO_5.out
           (first|subst eo16|(injection eo16 with f1_ f2_ f3_;have f4_:=f1_.symm;have f5_:=f3_.symm;clear f1_ f2_ f3_;subst f4_;subst f5_))
           have p208 : 0 ≤ (t206 : Int):=of_decide_eq_true byah
           have q208 : t206 < (x5_2.length : Int):=of_decide_eq_true byah
           obtain ⟨ad208,e208,hx208_0⟩:=Kd.uV (Kd.vS HO_5.out).2.2 t206 p208 q208
           cases e208
           replace p208:=eq_true p208
           replace q208:=eq_true q208
           have p209 : 0 ≤ (x7_2 : Int):=of_decide_eq_true byah
           have q209 : x7_2 < (x5_2.length : Int):=of_decide_eq_true byah
           obtain ⟨ad209,e209,hx209_0⟩:=Kd.uV (Kd.vS HO_5.out).2.2 x7_2 p209 q209
           obtain rfl : ad208 = ad209:=(by injection e209)
           replace p209:=eq_true p209
           replace q209:=eq_true q209
           have p12 : 0 ≤ (x7_2 : Int):=of_decide_eq_true byah
           have q12 : (x7_2 : Int) < ((x5_2.length : Int) : Int):=of_decide_eq_true byah
           obtain ⟨go12,co12,eo12,gb12,gl12,cl12,HG12⟩:=Kd.R_form HO_5.out (by omega)
           (first|cases eo12|(injection eo12 with ea_ en_ ec_;(first|subst ea_|(injection ea_ with ea_;subst ea_));subst ec_;clear en_))
           have GB12:=qA.mk gb12
           have GG12:=qA.mk HG12
           clear gb12 gl12 HG12
           (first|simp only [add_plain] at hx208_0|skip)
           (first|simp only [add_plain] at hx209_0|skip)
           obtain ⟨hx12_0,hf12_0⟩:=Kd.R_celln 0 HO_5.out (x7_2 : Int) p12 q12
           replace p12:=eq_true p12
           replace q12:=eq_true q12
           have HN0_go12:=qA.mk (show g≠go12 from by have h_:=qB.own_ne HI0.out HO_5.out (by decide);intro e_;exact h_ (by rw [e_];rfl))
           have HP17:=Kd.R_putn HO_5.out (x7_2 : Int) (rd x5_2 t206)
           rw [← Ny210.out] at HP17
           have HQ17:=qA.mk HP17
           clear HP17
           have p13 : 0 ≤ (t206 : Int):=of_decide_eq_true byah
           have q13 : (t206 : Int) < ((x5_2.length : Int) : Int):=of_decide_eq_true byah
           obtain ⟨hx13_0,hf13_0⟩:=Kd.R_celln 0 HQ17.out (t206 : Int) p13 q13
           replace p13:=eq_true p13
           replace q13:=eq_true q13
           have HN0_go12:=qA.mk (show g≠go12 from by have h_:=qB.own_ne HI0.out HO_5.out (by decide);intro e_;exact h_ (by rw [e_];rfl))
           have HP18:=Kd.R_putn HQ17.out (t206 : Int) (rd x5_2 x7_2)
           rw [← Ny211.out] at HP18
           have HQ18:=qA.mk HP18
           clear HP18
           refine start_ (n:=16) (S:=fun w'=>w'.cell? ⟨go12,(t206).toNat,none⟩ = some (.int .i64 (rd x5_2 t206))∧w'.cell? ⟨go12,(x7_2).toNat,none⟩ = some (.int .i64 (rd x5_2 x7_2))) (ds:=[13,15]) (bb 16 0) (by kernel_rfl) rfl rfl ⟨hx208_0,hx209_0⟩ (fun hHeld=>?_);refine kX qN.tab10 qN.bits10 (fun HT_ HW_=>?_)
           generalize w14.drew = w15 at HO_5 HI0 HK HB GG12 HQ17 HQ18 hf12_0 hf13_0 hx12_0 hx13_0 hx208_0 hx209_0 hHeld ⊢
           refine jK (i:=0) (N:=some 28) (bb 16 1) ?_
           refine jK (i:=1) (N:=some 29) (bb 16 3) ?_
           refine jK (i:=2) (N:=some 30) (bb 16 7) ?_
           refine jK (i:=3) (N:=some 31) (bb 16 15) ?_
           refine jK (i:=4) (N:=some 32) (bb 16 31) ?_
           refine jK (i:=5) (N:=some 33) (bb 16 63) ?_
           refine jK (i:=6) (N:=some 34) (bb 16 127) ?_
           refine jK (i:=8) (N:=some 36) (bb 16 383) ?_
           refine jK (i:=9) (N:=some 37) (bb 16 895) ?_
           refine jK (i:=10) (N:=some 38) (bb 16 1919) ?_
           refine takeZA (i:=7) (N:=some 35) (bb 16 2047) hHeld ?_
           refine takeZA (i:=11) (N:=some 39) (bb 16 4095) hHeld ?_
           refine jK (i:=12) (N:=some 40) (bb 16 8191) ?_
           refine last_ (i:=13) (N:=none) (bb 16 16383) rfl rfl (kJ HT_.out (by kernel_rfl)) (by decide) (fun K hK=>?_)
           refine skip_ (w1:=?_) (by rfl) rfl ?_ ?_
           rotate_left
           ·go_simp
            rfl
           refine hK.out _ _ ?_
           clear hK K
           refine jK (i:=14) (N:=some 41) (bb 16 32767) ?_
           refine last_ (i:=15) (N:=none) (bb 16 65535) rfl rfl (kJ HT_.out (by kernel_rfl)) (by decide) (fun K hK=>?_)
           refine skip_ (w1:=?_) (by rfl) rfl ?_ ?_
           rotate_left
           ·go_simp
            rfl
           refine hK.out _ _ ?_
           clear hK K
           refine done_ (Qr HT_.out (by kernel_rfl)) ?_
           try go_wp2
           go_roundg k2
           case measure=>have:=HK1.out;have:=HK2.out;omega
           case rel=>exact ⟨(y211),(wrap64 (x7_2 - 1)),(t207),byab,H',⟨byap⟩,⟨by (with_reducible repeat (first|apply Kd.jF|apply Kd.jG|apply Kd.jM));exact HQ18.out⟩,⟨by repeat (first|(with_reducible first|exact HI0.out|apply qB.alloc|apply qB.drewN|apply qB.drew|apply qB.jO|refine qB.far ?_ HN0_go12.out _|refine qB.far ?_ HN0_go12.out _)|exact HI0.out)⟩,⟨by repeat (first|(with_reducible first|exact HK.out|apply qC.set_|apply keep_drewN|apply kC|apply keep_alloc|refine Qd ?_ GB12.out _|refine Qd ?_ GB12.out _)|exact HK.out)⟩,⟨by repeat (first|(with_reducible first|exact HB.out|apply vZ|apply vY|apply vU|refine vV ?_ (Nat.le_trans HL.out GB12.out)|refine vV ?_ (Nat.le_trans HL.out GB12.out)|refine vV ?_ (qB.ge HI0.out))|exact HB.out)⟩⟩
          ·rw [if_neg c11] at H
           exact absurd H (by simp)
         ·rw [if_neg c10] at H
          exact absurd H (by simp)
        ·rw [if_neg c9] at H
         exact absurd H (by simp)
       ·rw [if_neg c8] at H
        exact absurd H (by simp)
      ·rw [if_neg c6] at H
       have c6b0:=decide_eq_false c6
       clear c6
       simp only [Option.some.injEq,Prod.mk.injEq] at H
       obtain ⟨rfl,rfl⟩:=H
       go_wp2
       go_ret
       exact ⟨_,byam,byas HO_5.out,byaz HI0.out,byba HI0.out,bybb⟩
def qZ.f (s0_0 : List Int) (s0_1 : Int) (l1 : List Int) : Option (Int × Int):=(qK.f s0_0 s0_1 (l1.length : Int)).bind fun bt212=>(if 0 ≤ bt212.1 then (if bt212.1 < (l1.length : Int) then (some (rd l1 bt212.1,bt212.2)) else (none)) else (none))
set_option maxHeartbeats 8000000 in
set_option maxRecDepth 100000 in
theorem qZ.calls (g : Nat) (s0_0 : List Int) (s0_1 : Int) (A1 : Option Addr) (c1 : Nat) (l1 : List Int) (r1 : Int) (r2 : Int) (w0 w : World) (hI : qB w0 w g s0_0 s0_1) (hB : Below w0.heap.size w0 w) (hr1 : Kd.C (Kd.int .i64) w A1 l1.length l1) (hc1 : l1.length ≤ c1) (hf1 : ∀ ad,A1 = some ad→0 < l1.length→ad.block≠g) (h : qZ.f s0_0 s0_1 l1 = some (r1,r2)) :
  Calls Try.prog 34 #[.pointer (some ⟨g,0,none⟩),.slice A1 l1.length c1] w fun e w'=>e = .returned (.int .i64 r1)∧qB w0 w' g s0_0 r2∧Below w0.heap.size w0 w'∧qC w w' g none:=by
 have HR1:=qA.mk hr1
 have HC1:=qA.mk hc1
 clear hr1 hc1
 have HI0:=qA.mk hI
 have HK:=qA.mk (qC.refl w g none)
 have HL:=qA.mk hB.size
 clear hI
 have HW0:=qA.mk hB.size
 have HB:=qA.mk hB
 clear hB
 unfold qZ.f at h
 have H:=h
 clear h
 replace H:=Option.bind_eq_some_iff.mp H
 obtain ⟨⟨t212,t213⟩,A30,H⟩:=H
 try dsimp only at H
 have A3:=qA.mk A30
 clear A30
 by_cases c4 : 0 ≤ t212
 ·rw [if_pos c4] at H
  have c4b0:=decide_eq_true c4
  clear c4
  by_cases c5 : t212 < (l1.length : Int)
  ·rw [if_pos c5] at H
   have c5b0:=decide_eq_true c5
   clear c5
   simp only [Option.some.injEq,Prod.mk.injEq] at H
   obtain ⟨rfl,rfl⟩:=H
   go_enter Try.func34,Try.ntmps34
   go_wp2_with (first|((with_reducible refine qF (f:=13) rfl ?_);refine zC (some 9) rfl rfl Try.func13 (by kernel_rfl) rfl #[.pointer (some ⟨g,0,none⟩),.int .i64 (l1.length : Int)] rfl byac ?_;(with_reducible refine (qK.calls g s0_0 s0_1 (l1.length : Int) t212 t213 w0 _ ?side1 ?side2 A3.out).mono ?_);(case side1=>exact byaz HI0.out);(case side2=>exact byba HI0.out);rintro e w6 ⟨rfl,hi,hb,hk⟩;refine ⟨_,rfl,?_⟩;have n_:=q_3 (qC.trans bybb hk (.inl rfl)) (hb) (hi);clear HK HB HI0;obtain ⟨HK,HB,HI0⟩:=n_;clear hb hk hi;have p214 : 0 ≤ (t212 : Int):=of_decide_eq_true byah;have q214 : t212 < (l1.length : Int):=of_decide_eq_true byah;obtain ⟨ad214,e214,hx214_0⟩:=Kd.uV HR1.out t212 p214 q214;cases e214;replace hx214_0:=keep_cell HK.out hx214_0 (by first|(rw [add_block];exact hf1 _ rfl (by omega))|exact hf1 _ rfl (by omega)|exact hf1 ad214 rfl (by omega));replace p214:=eq_true p214;replace q214:=eq_true q214))
   go_ret
   exact ⟨byam,byaz HI0.out,byba HI0.out,bybb⟩
  ·rw [if_neg c5] at H
   exact absurd H (by simp)
 ·rw [if_neg c4] at H
  exact absurd H (by simp)
end Go.Proofs.Ytoofabolcbbjnaa.P
