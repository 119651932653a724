/- Functions of the program as Lean functions, and the walks that show that the calls answer so; written by a program of this session (a changed print) and by hand. -/
import Derived.Test.YtoofabolcbbjnaaQaPx0
import Derived.Test.YtoofabolcbbjnaaQaPx5
namespace Go.Proofs.Ytoofabolcbbjnaa.P
open Go.RowKit Go.Proofs.YtoofabolcbbjnaaW.PrintWords Go.Proofs.YtoofabolcbbjnaaW.PrintLast Go.Proofs.YtoofabolcbbjnaaW.PrintMore
attribute [local go_sem] kR kP Qa Qc kE kD kQ kN
set_option linter.unusedVariables false
set_option linter.unusedSimpArgs false
def zI.l0 : Nat→Int→List (S51)→Int→Int→Option (Int)
 | 0,_,_,_,_=>none
 | k + 1,x3,x7,x8,x9=>if x9 < x8 then (if 0 ≤ x9 then (if x9 < (x7.length : Int) then (if x9 < 10 then (if (zF x7 x9).f0 = true then (zI.l0 k (Go.bits .or .i64 x3 (shl .i64 1 x9)) x7 x8 (wrap64 (x9 + 1))) else (zI.l0 k x3 x7 x8 (wrap64 (x9 + 1)))) else (zI.l0 k x3 x7 x8 (wrap64 (x9 + 1)))) else (none)) else (none)) else (some x3)
def zI.f (k : Nat) (l0_0 : List (S51)) : Option (Int):=zI.l0 k 0 l0_0 (l0_0.length : Int) 0
set_option maxHeartbeats 8000000 in
set_option maxRecDepth 100000 in
theorem zI.calls (k : Nat) (A0_0 : Option Addr) (c0_0 : Nat) (l0_0 : List (S51)) (r : Int) (w : World) (hr0_0 : Kd.C k51 w A0_0 l0_0.length l0_0) (hc0_0 : l0_0.length ≤ c0_0) (h : zI.f k l0_0 = some r) :
  Calls Try.prog 24 #[.agg #[.slice A0_0 l0_0.length c0_0]] w fun e w'=>e = .returned (.int .i64 r)∧Below w.heap.size w w':=by
 have hu25:=Try.underlying25
 have hu51:=Try.underlying51
 have HR0_0:=qA.mk hr0_0
 have HC0_0:=qA.mk hc0_0
 clear hr0_0 hc0_0
 have HB:=qA.mk (Below.refl w.heap.size w)
 unfold zI.f at h
 have H:=h
 clear h
 have H':=qA.mk H
 clear H
 go_enter Try.func24,Try.ntmps24
 go_wp2_with (first|((with_reducible refine qX (N:=1) rfl ?_);refine zD ?hg (N:=1) ?hd (cs:=#[.slice A0_0 l0_0.length c0_0]) (t:=25) ?hr ?_;(case hd=>rfl);(case hg=>rfl);(case hr=>exact byad);intro gb422 hg w2 hbox hb;have n_:=q_4 (qE byae hb) (hbox) ((byck : w.heap.size ≤ gb422)) ((byck : w.heap.size ≤ gb422));clear HB;obtain ⟨HB,BK422,GW422,GE422⟩:=n_;clear hb hbox hg;obtain ⟨hcz3_0,hfz3_0⟩:=cz1 BK422.out))
 go_loopg [3,9] k (fun kq v3 v9 w'=>∃ (x3_1 : Int) (x9_1 : Int),v3 = .int .i64 x3_1∧v9 = .int .i64 x9_1∧qA (zI.l0 kq x3_1 l0_0 (l0_0.length : Int) x9_1 = some r)∧qA (kq ≤ k)∧qA (w'.heap[gb422]? = some (.cells #[(.slice A0_0 l0_0.length c0_0)] 25 (0,0)))∧qA (Below w.heap.size w w'))
 case atStart=>exact ⟨(0),(0),byab,byab,H',⟨Nat.le_refl _⟩,⟨byaf BK422.out⟩,⟨byag GE422.out⟩⟩
 case round =>
  clear H'
  obtain ⟨x3_1,x9_1,rfl,rfl,HA,HK1,BK422,HB⟩:=hrel
  cases gk with
  | zero=>exact absurd HA.out (by simp [zI.l0])
  | succ k1 =>
   have H:=HA.out
   clear HA
   simp only [zI.l0] at H
   by_cases c4 : x9_1 < (l0_0.length : Int)
   ·rw [if_pos c4] at H
    have c4b0:=decide_eq_true c4
    clear c4
    by_cases c5 : 0 ≤ x9_1
    ·rw [if_pos c5] at H
     have c5b0:=decide_eq_true c5
     clear c5
     by_cases c6 : x9_1 < (l0_0.length : Int)
     ·rw [if_pos c6] at H
      have c6b0:=decide_eq_true c6
      clear c6
      by_cases c7 : x9_1 < 10
      ·rw [if_pos c7] at H
       have c7b0:=decide_eq_true c7
       clear c7
       obtain ⟨bq8,hbq8⟩ : ∃ b_ : Bool,b_ = ((zF l0_0 x9_1).f0):=⟨_,rfl⟩
       replace H : (if bq8 = true then (zI.l0 k1 (Go.bits .or .i64 x3_1 (shl .i64 1 x9_1)) l0_0 (l0_0.length : Int) (wrap64 (x9_1 + 1))) else (zI.l0 k1 x3_1 l0_0 (l0_0.length : Int) (wrap64 (x9_1 + 1)))) = some r:=by rw [← hbq8] at H;exact H
       have Nbq8:=qA.mk hbq8
       clear hbq8
       by_cases c9 : bq8 = true
       ·subst c9
        rw [if_pos rfl] at H
        have c10b0:=eq_true (of_decide_eq_true byah : 0 ≤ x9_1)
        obtain ⟨ji11,hji11⟩ : ∃ j_ : Int,(shl .i64 1 x9_1) = j_:=⟨_,rfl⟩
        (first|rw [hji11] at H|(simp only [hji11] at H))
        obtain ⟨hji11_,hji11z,hji11u,hji11v,hji11y,hji11x⟩:=jiA hji11
        have H':=qA.mk H
        clear H
        have p423 : 0 ≤ (x9_1 : Int):=of_decide_eq_true byah
        have q423 : x9_1 < (l0_0.length : Int):=of_decide_eq_true byah
        obtain ⟨ad423,A423_2,c423_2,A423_3,c423_3,e423,hx423_0,hx423_1,hx423_2,hx423_3,hl423_2,hi423_2,hl423_3,hi423_3⟩:=Qm HR0_0.out x9_1 p423 q423
        (try rw [← Nbq8.out] at hx423_0)
        cases e423
        replace hx423_0:=(HB.out.cell (World.block_lt_of_cell? w _ hx423_0)).trans hx423_0
        replace hx423_1:=(HB.out.cell (World.block_lt_of_cell? w _ hx423_1)).trans hx423_1
        replace hx423_2:=(HB.out.cell (World.block_lt_of_cell? w _ hx423_2)).trans hx423_2
        replace hx423_3:=(HB.out.cell (World.block_lt_of_cell? w _ hx423_3)).trans hx423_3
        have HR423_2:=qA.mk hi423_2
        have HC423_2:=qA.mk hl423_2
        clear hi423_2 hl423_2
        have HR423_3:=qA.mk hi423_3
        have HC423_3:=qA.mk hl423_3
        clear hi423_3 hl423_3
        replace p423:=eq_true p423
        replace q423:=eq_true q423
        go_wp2_with (first|((with_reducible refine qX (N:=5) rfl ?_);refine zD ?hg (N:=5) ?hd (cs:=#[.bool false,.int .i64 0,.slice none 0 0,.slice none 0 0]) (t:=51) ?hr ?_;(case hd=>rfl);(case hg=>rfl);(case hr=>exact byad);intro gb424 hg w12 hbox hb;have n_:=q_6 (qI BK422.out hb) (qE (byag GE422.out) hb) (hbox) ((bycl GE422.out : w.heap.size ≤ gb424)) ((bycl GE422.out : w.heap.size ≤ gb424)) ((by rw [hg];exact Nat.ne_of_lt (vH BK422.out) : gb422≠gb424));clear BK422 HB;obtain ⟨BK422,HB,BK424,GW424,GE424,NB422_424⟩:=n_;have NB424_422:=ns NB422_424;clear hb hbox hg;have hnb13:=NB424_422.out;have hnc13:=NB422_424.out;obtain ⟨hcz14_0,hcz14_1,hcz14_2,hcz14_3,hfz14_0,hfz14_1,hfz14_2,hfz14_3⟩:=cz4 BK424.out))
        go_roundg k1
        case measure=>have:=HK1.out;omega
        case rel=>exact ⟨(Go.bits .or .i64 x3_1 (ji11)),(wrap64 (x9_1 + 1)),byai,byab,H',⟨byaj⟩,⟨byak NB422_424.out BK422.out⟩,⟨byal GE422.out GE424.out⟩⟩
       ·replace c9:=Bool.eq_false_iff.mpr c9
        subst c9
        rw [if_neg (show ¬ (false = true) by decide)] at H
        have H':=qA.mk H
        clear H
        have p423 : 0 ≤ (x9_1 : Int):=of_decide_eq_true byah
        have q423 : x9_1 < (l0_0.length : Int):=of_decide_eq_true byah
        obtain ⟨ad423,A423_2,c423_2,A423_3,c423_3,e423,hx423_0,hx423_1,hx423_2,hx423_3,hl423_2,hi423_2,hl423_3,hi423_3⟩:=Qm HR0_0.out x9_1 p423 q423
        (try rw [← Nbq8.out] at hx423_0)
        cases e423
        replace hx423_0:=(HB.out.cell (World.block_lt_of_cell? w _ hx423_0)).trans hx423_0
        replace hx423_1:=(HB.out.cell (World.block_lt_of_cell? w _ hx423_1)).trans hx423_1
        replace hx423_2:=(HB.out.cell (World.block_lt_of_cell? w _ hx423_2)).trans hx423_2
        replace hx423_3:=(HB.out.cell (World.block_lt_of_cell? w _ hx423_3)).trans hx423_3
        have HR423_2:=qA.mk hi423_2
        have HC423_2:=qA.mk hl423_2
        clear hi423_2 hl423_2
        have HR423_3:=qA.mk hi423_3
        have HC423_3:=qA.mk hl423_3
        clear hi423_3 hl423_3
        replace p423:=eq_true p423
        replace q423:=eq_true q423
        go_wp2_with (first|((with_reducible refine qX (N:=5) rfl ?_);refine zD ?hg (N:=5) ?hd (cs:=#[.bool false,.int .i64 0,.slice none 0 0,.slice none 0 0]) (t:=51) ?hr ?_;(case hd=>rfl);(case hg=>rfl);(case hr=>exact byad);intro gb424 hg w15 hbox hb;have n_:=q_6 (qI BK422.out hb) (qE (byag GE422.out) hb) (hbox) ((bycl GE422.out : w.heap.size ≤ gb424)) ((bycl GE422.out : w.heap.size ≤ gb424)) ((by rw [hg];exact Nat.ne_of_lt (vH BK422.out) : gb422≠gb424));clear BK422 HB;obtain ⟨BK422,HB,BK424,GW424,GE424,NB422_424⟩:=n_;have NB424_422:=ns NB422_424;clear hb hbox hg;have hnb16:=NB424_422.out;have hnc16:=NB422_424.out;obtain ⟨hcz17_0,hcz17_1,hcz17_2,hcz17_3,hfz17_0,hfz17_1,hfz17_2,hfz17_3⟩:=cz4 BK424.out))
        go_roundg k1
        case measure=>have:=HK1.out;omega
        case rel=>exact ⟨(x3_1),(wrap64 (x9_1 + 1)),byab,byab,H',⟨byaj⟩,⟨byak NB422_424.out BK422.out⟩,⟨byal GE422.out GE424.out⟩⟩
      ·rw [if_neg c7] at H
       have c7b0:=decide_eq_false c7
       clear c7
       have H':=qA.mk H
       clear H
       have p423 : 0 ≤ (x9_1 : Int):=of_decide_eq_true byah
       have q423 : x9_1 < (l0_0.length : Int):=of_decide_eq_true byah
       obtain ⟨ad423,A423_2,c423_2,A423_3,c423_3,e423,hx423_0,hx423_1,hx423_2,hx423_3,hl423_2,hi423_2,hl423_3,hi423_3⟩:=Qm HR0_0.out x9_1 p423 q423
       cases e423
       replace hx423_0:=(HB.out.cell (World.block_lt_of_cell? w _ hx423_0)).trans hx423_0
       replace hx423_1:=(HB.out.cell (World.block_lt_of_cell? w _ hx423_1)).trans hx423_1
       replace hx423_2:=(HB.out.cell (World.block_lt_of_cell? w _ hx423_2)).trans hx423_2
       replace hx423_3:=(HB.out.cell (World.block_lt_of_cell? w _ hx423_3)).trans hx423_3
       have HR423_2:=qA.mk hi423_2
       have HC423_2:=qA.mk hl423_2
       clear hi423_2 hl423_2
       have HR423_3:=qA.mk hi423_3
       have HC423_3:=qA.mk hl423_3
       clear hi423_3 hl423_3
       replace p423:=eq_true p423
       replace q423:=eq_true q423
       go_wp2_with (first|((with_reducible refine qX (N:=5) rfl ?_);refine zD ?hg (N:=5) ?hd (cs:=#[.bool false,.int .i64 0,.slice none 0 0,.slice none 0 0]) (t:=51) ?hr ?_;(case hd=>rfl);(case hg=>rfl);(case hr=>exact byad);intro gb424 hg w18 hbox hb;have n_:=q_6 (qI BK422.out hb) (qE (byag GE422.out) hb) (hbox) ((bycl GE422.out : w.heap.size ≤ gb424)) ((bycl GE422.out : w.heap.size ≤ gb424)) ((by rw [hg];exact Nat.ne_of_lt (vH BK422.out) : gb422≠gb424));clear BK422 HB;obtain ⟨BK422,HB,BK424,GW424,GE424,NB422_424⟩:=n_;have NB424_422:=ns NB422_424;clear hb hbox hg;have hnb19:=NB424_422.out;have hnc19:=NB422_424.out;obtain ⟨hcz20_0,hcz20_1,hcz20_2,hcz20_3,hfz20_0,hfz20_1,hfz20_2,hfz20_3⟩:=cz4 BK424.out))
       go_roundg k1
       case measure=>have:=HK1.out;omega
       case rel=>exact ⟨(x3_1),(wrap64 (x9_1 + 1)),byab,byab,H',⟨byaj⟩,⟨byak NB422_424.out BK422.out⟩,⟨byal GE422.out GE424.out⟩⟩
     ·rw [if_neg c6] at H
      exact absurd H (by simp)
    ·rw [if_neg c5] at H
     exact absurd H (by simp)
   ·rw [if_neg c4] at H
    have c4b0:=decide_eq_false c4
    clear c4
    obtain rfl:=Option.some.inj H
    go_wp2
    go_ret
    exact ⟨byam,byag GE422.out⟩
def jE.l0 : Nat→Int→List Int→Int→Option (List Int)
 | 0,_,_,_=>none
 | k + 1,x0,x3,x4=>if x4 < 10 then ((jS.f x0 x4).bind fun t425=>(if t425 = true then (if x3.length < 17592186044416 then (jE.l0 k x0 (x3 ++ [x4]) (wrap64 (x4 + 1))) else (none)) else (jE.l0 k x0 x3 (wrap64 (x4 + 1))))) else (some x3)
def jE.f (k : Nat) (a0 : Int) : Option (List Int):=jE.l0 k a0 ([] : List Int) 0
set_option maxHeartbeats 8000000 in
set_option maxRecDepth 100000 in
theorem jE.calls (k : Nat) (a0 : Int) (r : List Int) (w : World) (h : jE.f k a0 = some r) :
  Calls Try.prog 25 #[.int .i64 a0] w fun e w'=>∃ v0_ : Value,e = .returned (v0_)∧Kd.R (Kd.int .i64) 3 w' w.heap.size (fun _=>True) v0_ r∧Below w.heap.size w w':=by
 have HB:=qA.mk (Below.refl w.heap.size w)
 unfold jE.f at h
 have H:=h
 clear h
 have H':=qA.mk H
 clear H
 go_enter Try.func25,Try.ntmps25
 go_wp2
 go_loopg [3,4] k (fun kq v3 v4 w'=>∃ (x3_1 : List Int) (x4_1 : Int),v4 = .int .i64 x4_1∧qA (jE.l0 kq a0 x3_1 x4_1 = some r)∧qA (kq ≤ k)∧qA (Kd.R (Kd.int .i64) 3 w' w.heap.size (fun _=>True) v3 x3_1)∧qA (Below w.heap.size w w'))
 case atStart=>exact ⟨(([] : List Int)),(0),byab,H',⟨Nat.le_refl _⟩,⟨byar⟩,⟨byae⟩⟩
 case round =>
  clear H'
  obtain ⟨x3_1,x4_1,rfl,HA,HK1,HO_3,HB⟩:=hrel
  cases gk with
  | zero=>exact absurd HA.out (by simp [jE.l0])
  | succ k1 =>
   have H:=HA.out
   clear HA
   simp only [jE.l0] at H
   by_cases c2 : x4_1 < 10
   ·rw [if_pos c2] at H
    have c2b0:=decide_eq_true c2
    clear c2
    replace H:=Option.bind_eq_some_iff.mp H
    obtain ⟨t425,A30,H⟩:=H
    try dsimp only at H
    have A3:=qA.mk A30
    clear A30
    by_cases c4 : t425 = true
    ·subst c4
     rw [if_pos rfl] at H
     by_cases c5 : x3_1.length < 17592186044416
     ·rw [if_pos c5] at H
      have LMc5:=qA.mk c5
      clear c5
      obtain ⟨y426,hy426⟩ : ∃ y_ : List Int,y_ = (x3_1 ++ [x4_1]):=⟨_,rfl⟩
      replace H : (jE.l0 k1 a0 y426 (wrap64 (x4_1 + 1))) = some r:=by first|(rw [hy426];with_reducible exact H)|(have H2_:=(Option.bind_some _ _).symm.trans H;rw [hy426];with_reducible exact H2_)|(have H2_:=(Option.bind_some _ _).symm.trans H;with_reducible exact H2_)|with_reducible exact H|(rw [hy426];exact H)|exact H
      have Ny426:=qA.mk hy426
      clear hy426
      have H':=qA.mk H
      clear H
      go_wp2_with (first|((with_reducible refine qF (f:=44) rfl ?_);refine zC (some 11) rfl rfl Try.func44 (by kernel_rfl) rfl #[.int .i64 a0,.int .i64 x4_1] rfl byac ?_;(with_reducible refine (jS.calls a0 x4_1 true _ A3.out).mono ?_);rintro e w' ⟨rfl,⟨nd,rfl⟩⟩;refine ⟨_,rfl,?_⟩)|((with_reducible refine jU (b:=.append) (xs:=#[.tmp 12,.tmp 14]) rfl ?_);at_builtin;refine Kd.kF (Kd.int .i64) (w0:=w) w.heap.size rfl (.tmp 12) (.tmp 14) 22 3 (.int .i64 0) 8 rfl Try.underlying22 info3 rfl (by decide) (by omega) u3 x3_1 x4_1 [.int .i64 x4_1] (fun _=>True) (fun _=>False) rfl rfl ?aP (fun _ hk=>hk.elim) ?aF ?aO ?aB ?aS ?aL ?_;(case aP=>exact rfl);(case aB=>exact byae);(case aF=>exact (fun _ _=>trivial));(case aO=>exact (byas HO_3.out));(case aS=>exact (zJ byae));(case aL=>have:=LMc5.out;omega);intro v427 w6 ho hb hg hat;rw [← Ny426.out] at ho;have n_:=q_2 (hb) (ho);clear HB HO_3;obtain ⟨HB,HO428⟩:=n_;clear ho hb hg hat))
      go_roundg k1
      case measure=>have:=HK1.out;omega
      case rel=>exact ⟨(y426),(wrap64 (x4_1 + 1)),byab,H',⟨byaj⟩,⟨byas HO428.out⟩,⟨byae⟩⟩
     ·rw [if_neg c5] at H
      exact absurd H (by simp)
    ·replace c4:=Bool.eq_false_iff.mpr c4
     subst c4
     rw [if_neg (show ¬ (false = true) by decide)] at H
     have H':=qA.mk H
     clear H
     go_wp2_with (first|((with_reducible refine qF (f:=44) rfl ?_);refine zC (some 11) rfl rfl Try.func44 (by kernel_rfl) rfl #[.int .i64 a0,.int .i64 x4_1] rfl byac ?_;(with_reducible refine (jS.calls a0 x4_1 false _ A3.out).mono ?_);rintro e w' ⟨rfl,⟨nd,rfl⟩⟩;refine ⟨_,rfl,?_⟩))
     go_roundg k1
     case measure=>have:=HK1.out;omega
     case rel=>exact ⟨(x3_1),(wrap64 (x4_1 + 1)),byab,H',⟨byaj⟩,⟨byas HO_3.out⟩,⟨byae⟩⟩
   ·rw [if_neg c2] at H
    have c2b0:=decide_eq_false c2
    clear c2
    obtain rfl:=Option.some.inj H
    go_wp2
    go_ret
    exact ⟨_,byam,byas HO_3.out,byae⟩
mutual
def qP.l0 : Nat→Int→Int→List Int→Int→Int→Int→List Int→List (S49)→Option (Bool)
 | 0,_,_,_,_,_,_,_,_=>none
 | k + 1,x1,x5,x14,x15,x16,x430000,x430001,x430002=>if x16 < x15 then (if 0 ≤ x16 then (if x16 < (x14.length : Int) then ((jS.f x1 (rd x14 x16)).bind fun t432=>(if t432 = true then (qP.l0 k x1 (wrap64 (x5 + 1)) x14 x15 (wrap64 (x16 + 1)) x430000 x430001 x430002) else (qP.l0 k x1 x5 x14 x15 (wrap64 (x16 + 1)) x430000 x430001 x430002))) else (none)) else (none)) else (qP.l1 k x1 x5 x430002 (x430002.length : Int) 0 x430000 x430001 x430002)
def qP.l1 : Nat→Int→Int→List (S49)→Int→Int→Int→List Int→List (S49)→Option (Bool)
 | 0,_,_,_,_,_,_,_,_=>none
 | k + 1,x1,x5,x27,x28,x29,x430000,x430001,x430002=>if x29 < x28 then (if 0 ≤ x29 then (if x29 < (x27.length : Int) then ((qP.f k ((zB x27 x29).f0) ((zB x27 x29).f1) ((zB x27 x29).f2) x1).bind fun t435=>(if t435 = true then (qP.l1 k x1 (wrap64 (x5 + 1)) x27 x28 (wrap64 (x29 + 1)) x430000 x430001 x430002) else (qP.l1 k x1 x5 x27 x28 (wrap64 (x29 + 1)) x430000 x430001 x430002))) else (none)) else (none)) else (some (decide (x5 ≥ x430000)))
def qP.f : Nat→Int→List Int→List (S49)→Int→Option (Bool)
 | 0,_,_,_,_=>none
 | k + 1,a0_0,l0_1,l0_2,a1=>(zL.f a1).bind fun t430=>(if t430 = true then (qP.l0 k a1 0 l0_1 (l0_1.length : Int) 0 a0_0 l0_1 l0_2) else (some false))
end
set_option maxHeartbeats 8000000 in
set_option maxRecDepth 100000 in
theorem qP.calls (k : Nat) : ∀ (a0_0 : Int) (A0_1 : Option Addr) (c0_1 : Nat) (l0_1 : List Int) (A0_2 : Option Addr) (c0_2 : Nat) (l0_2 : List (S49)) (a1 : Int) (r : Bool) (w : World) (hr0_1 : Kd.C (Kd.int .i64) w A0_1 l0_1.length l0_1) (hc0_1 : l0_1.length ≤ c0_1) (hr0_2 : Kd.C k49 w A0_2 l0_2.length l0_2) (hc0_2 : l0_2.length ≤ c0_2) (h : qP.f k a0_0 l0_1 l0_2 a1 = some r),
  Calls Try.prog 26 #[.agg #[.int .i64 a0_0,.slice A0_1 l0_1.length c0_1,.slice A0_2 l0_2.length c0_2],.int .i64 a1] w fun e w'=>e = .returned (.bool r)∧Below w.heap.size w w':=by
 induction k using Nat.strongRecOn with
 | _ k ih =>
 intro a0_0 A0_1 c0_1 l0_1 A0_2 c0_2 l0_2 a1 r w hr0_1 hc0_1 hr0_2 hc0_2 h
 cases k with
 | zero=>exact absurd h (by simp [qP.f])
 | succ k =>
 simp only [qP.f] at h
 have hu49:=Try.underlying49
 have HR0_1:=qA.mk hr0_1
 have HC0_1:=qA.mk hc0_1
 clear hr0_1 hc0_1
 have HR0_2:=qA.mk hr0_2
 have HC0_2:=qA.mk hc0_2
 clear hr0_2 hc0_2
 have HB:=qA.mk (Below.refl w.heap.size w)
 have H:=h
 clear h
 replace H:=Option.bind_eq_some_iff.mp H
 obtain ⟨t430,A30,H⟩:=H
 try dsimp only at H
 have A3:=qA.mk A30
 clear A30
 by_cases c4 : t430 = true
 ·subst c4
  rw [if_pos rfl] at H
  have H':=qA.mk H
  clear H
  go_enter Try.func26,Try.ntmps26
  go_wp2_with (first|((with_reducible refine qX (N:=2) rfl ?_);refine zD ?hg (N:=2) ?hd (cs:=#[.int .i64 a0_0,.slice A0_1 l0_1.length c0_1,.slice A0_2 l0_2.length c0_2]) (t:=49) ?hr ?_;(case hd=>rfl);(case hg=>rfl);(case hr=>exact byad);intro gb429 hg w5 hbox hb;have n_:=q_4 (qE byae hb) (hbox) ((byck : w.heap.size ≤ gb429)) ((byck : w.heap.size ≤ gb429));clear HB;obtain ⟨HB,BK429,GW429,GE429⟩:=n_;clear hb hbox hg)|((with_reducible refine qF (f:=36) rfl ?_);refine zC (some 11) rfl rfl Try.func36 (by kernel_rfl) rfl #[.int .i64 a1] rfl byac ?_;(with_reducible refine (zL.calls a1 true _ A3.out).mono ?_);rintro e w' ⟨rfl,⟨nd,rfl⟩⟩;refine ⟨_,rfl,?_⟩;obtain ⟨hcz6_0,hcz6_1,hcz6_2,hfz6_0,hfz6_1,hfz6_2⟩:=cz3 BK429.out))
  go_loopg [5,16] k (fun kq v5 v16 w'=>∃ (x5_1 : Int) (x16_1 : Int),v5 = .int .i64 x5_1∧v16 = .int .i64 x16_1∧qA (qP.l0 kq a1 x5_1 l0_1 (l0_1.length : Int) x16_1 a0_0 l0_1 l0_2 = some r)∧qA (kq ≤ k)∧qA (w'.heap[gb429]? = some (.cells #[.int .i64 a0_0,(.slice A0_1 l0_1.length c0_1),(.slice A0_2 l0_2.length c0_2)] 49 (0,0)))∧qA (Below w.heap.size w w'))
  case atStart=>exact ⟨(0),(0),byab,byab,H',⟨Nat.le_refl _⟩,⟨byaf BK429.out⟩,⟨byag GE429.out⟩⟩
  case round =>
   clear H'
   obtain ⟨x5_1,x16_1,rfl,rfl,HA,HK1,BK429,HB⟩:=hrel
   cases gk with
   | zero=>exact absurd HA.out (by simp [qP.l0])
   | succ k1 =>
    have H:=HA.out
    clear HA
    simp only [qP.l0] at H
    by_cases c7 : x16_1 < (l0_1.length : Int)
    ·rw [if_pos c7] at H
     have c7b0:=decide_eq_true c7
     clear c7
     by_cases c8 : 0 ≤ x16_1
     ·rw [if_pos c8] at H
      have c8b0:=decide_eq_true c8
      clear c8
      by_cases c9 : x16_1 < (l0_1.length : Int)
      ·rw [if_pos c9] at H
       have c9b0:=decide_eq_true c9
       clear c9
       replace H:=Option.bind_eq_some_iff.mp H
       obtain ⟨t432,A100,H⟩:=H
       try dsimp only at H
       have A10:=qA.mk A100
       clear A100
       by_cases c11 : t432 = true
       ·subst c11
        rw [if_pos rfl] at H
        have H':=qA.mk H
        clear H
        have p431 : 0 ≤ (x16_1 : Int):=of_decide_eq_true byah
        have q431 : x16_1 < (l0_1.length : Int):=of_decide_eq_true byah
        obtain ⟨ad431,e431,hx431_0⟩:=Kd.uV HR0_1.out x16_1 p431 q431
        cases e431
        replace hx431_0:=(HB.out.cell (World.block_lt_of_cell? w _ hx431_0)).trans hx431_0
        replace p431:=eq_true p431
        replace q431:=eq_true q431
        go_wp2_with (first|((with_reducible refine qF (f:=44) rfl ?_);refine zC (some 22) rfl rfl Try.func44 (by kernel_rfl) rfl #[.int .i64 a1,.int .i64 (rd l0_1 x16_1)] rfl byac ?_;(with_reducible refine (jS.calls a1 (rd l0_1 x16_1) true _ A10.out).mono ?_);rintro e w' ⟨rfl,⟨nd,rfl⟩⟩;refine ⟨_,rfl,?_⟩))
        go_roundg k1
        case measure=>have:=HK1.out;omega
        case rel=>exact ⟨(wrap64 (x5_1 + 1)),(wrap64 (x16_1 + 1)),byab,byab,H',⟨byaj⟩,⟨byaf BK429.out⟩,⟨byag GE429.out⟩⟩
       ·replace c11:=Bool.eq_false_iff.mpr c11
        subst c11
        rw [if_neg (show ¬ (false = true) by decide)] at H
        have H':=qA.mk H
        clear H
        have p431 : 0 ≤ (x16_1 : Int):=of_decide_eq_true byah
        have q431 : x16_1 < (l0_1.length : Int):=of_decide_eq_true byah
        obtain ⟨ad431,e431,hx431_0⟩:=Kd.uV HR0_1.out x16_1 p431 q431
        cases e431
        replace hx431_0:=(HB.out.cell (World.block_lt_of_cell? w _ hx431_0)).trans hx431_0
        replace p431:=eq_true p431
        replace q431:=eq_true q431
        go_wp2_with (first|((with_reducible refine qF (f:=44) rfl ?_);refine zC (some 22) rfl rfl Try.func44 (by kernel_rfl) rfl #[.int .i64 a1,.int .i64 (rd l0_1 x16_1)] rfl byac ?_;(with_reducible refine (jS.calls a1 (rd l0_1 x16_1) false _ A10.out).mono ?_);rintro e w' ⟨rfl,⟨nd,rfl⟩⟩;refine ⟨_,rfl,?_⟩))
        go_roundg k1
        case measure=>have:=HK1.out;omega
        case rel=>exact ⟨(x5_1),(wrap64 (x16_1 + 1)),byab,byab,H',⟨byaj⟩,⟨byaf BK429.out⟩,⟨byag GE429.out⟩⟩
      ·rw [if_neg c9] at H
       exact absurd H (by simp)
     ·rw [if_neg c8] at H
      exact absurd H (by simp)
    ·rw [if_neg c7] at H
     have c7b0:=decide_eq_false c7
     clear c7
     have H':=qA.mk H
     clear H
     obtain ⟨hcz12_0,hcz12_1,hcz12_2,hfz12_0,hfz12_1,hfz12_2⟩:=cz3 BK429.out
     go_wp2
     go_loopg [5,29] k1 (fun kq v5 v29 w'=>∃ (x5_2 : Int) (x29_2 : Int),v5 = .int .i64 x5_2∧v29 = .int .i64 x29_2∧qA (qP.l1 kq a1 x5_2 l0_2 (l0_2.length : Int) x29_2 a0_0 l0_1 l0_2 = some r)∧qA (kq ≤ k1)∧qA (w'.heap[gb429]? = some (.cells #[.int .i64 a0_0,(.slice A0_1 l0_1.length c0_1),(.slice A0_2 l0_2.length c0_2)] 49 (0,0)))∧qA (Below w.heap.size w w'))
     case atStart=>exact ⟨(x5_1),(0),byab,byab,H',⟨Nat.le_refl _⟩,⟨byaf BK429.out⟩,⟨byag GE429.out⟩⟩
     case round =>
      clear H'
      try clear hx4
      try clear hx431_0
      obtain ⟨x5_2,x29_2,rfl,rfl,HA,HK2,BK429,HB⟩:=hrel
      cases gk with
      | zero=>exact absurd HA.out (by simp [qP.l1])
      | succ k2 =>
       have H:=HA.out
       clear HA
       simp only [qP.l1] at H
       by_cases c13 : x29_2 < (l0_2.length : Int)
       ·rw [if_pos c13] at H
        have c13b0:=decide_eq_true c13
        clear c13
        by_cases c14 : 0 ≤ x29_2
        ·rw [if_pos c14] at H
         have c14b0:=decide_eq_true c14
         clear c14
         by_cases c15 : x29_2 < (l0_2.length : Int)
         ·rw [if_pos c15] at H
          have c15b0:=decide_eq_true c15
          clear c15
          replace H:=Option.bind_eq_some_iff.mp H
          obtain ⟨t435,A160,H⟩:=H
          try dsimp only at H
          have A16:=qA.mk A160
          clear A160
          by_cases c17 : t435 = true
          ·subst c17
           rw [if_pos rfl] at H
           have H':=qA.mk H
           clear H
           have p433 : 0 ≤ (x29_2 : Int):=of_decide_eq_true byah
           have q433 : x29_2 < (l0_2.length : Int):=of_decide_eq_true byah
           obtain ⟨ad433,A433_1,c433_1,A433_2,c433_2,e433,hx433_0,hx433_1,hx433_2,hl433_1,hi433_1,hl433_2,hi433_2⟩:=at_T49 HR0_2.out x29_2 p433 q433
           cases e433
           replace hx433_0:=(HB.out.cell (World.block_lt_of_cell? w _ hx433_0)).trans hx433_0
           replace hx433_1:=(HB.out.cell (World.block_lt_of_cell? w _ hx433_1)).trans hx433_1
           replace hx433_2:=(HB.out.cell (World.block_lt_of_cell? w _ hx433_2)).trans hx433_2
           have HR433_1:=qA.mk hi433_1
           have HC433_1:=qA.mk hl433_1
           clear hi433_1 hl433_1
           have HR433_2:=qA.mk hi433_2
           have HC433_2:=qA.mk hl433_2
           clear hi433_2 hl433_2
           replace p433:=eq_true p433
           replace q433:=eq_true q433
           go_wp2_with (first|((with_reducible refine qX (N:=9) rfl ?_);refine zD ?hg (N:=9) ?hd (cs:=#[.int .i64 0,.slice none 0 0,.slice none 0 0]) (t:=49) ?hr ?_;(case hd=>rfl);(case hg=>rfl);(case hr=>exact byad);intro gb434 hg w18 hbox hb;have n_:=q_6 (qI BK429.out hb) (qE (byag GE429.out) hb) (hbox) ((bycl GE429.out : w.heap.size ≤ gb434)) ((bycl GE429.out : w.heap.size ≤ gb434)) ((by rw [hg];exact Nat.ne_of_lt (vH BK429.out) : gb429≠gb434));clear BK429 HB;obtain ⟨BK429,HB,BK434,GW434,GE434,NB429_434⟩:=n_;have NB434_429:=ns NB429_434;clear hb hbox hg;have hnb19:=NB434_429.out;have hnc19:=NB429_434.out;obtain ⟨hcz20_0,hcz20_1,hcz20_2,hfz20_0,hfz20_1,hfz20_2⟩:=cz3 BK434.out)|((with_reducible refine qF (f:=26) rfl ?_);refine zC (some 35) rfl rfl Try.func26 (by kernel_rfl) rfl #[.agg #[.int .i64 ((zB l0_2 x29_2).f0),.slice A433_1 ((zB l0_2 x29_2).f1).length c433_1,.slice A433_2 ((zB l0_2 x29_2).f2).length c433_2],.int .i64 a1] rfl byac ?_;(with_reducible refine (ih k2 byap ((zB l0_2 x29_2).f0) _ _ ((zB l0_2 x29_2).f1) _ _ ((zB l0_2 x29_2).f2) a1 true _ ?side1 ?side2 ?side3 ?side4 A16.out).mono ?_);(case side1=>exact Kd.uX HR433_1.out (byal GE429.out GE434.out));(case side2=>exact HC433_1.out);(case side3=>exact Kd.uX HR433_2.out (byal GE429.out GE434.out));(case side4=>exact HC433_2.out);rintro e w21 ⟨rfl,hb⟩;refine ⟨_,rfl,?_⟩;have n_:=q_3 (uA (g:=gb429) (o:=.cells #[.int .i64 a0_0,.slice A0_1 l0_1.length c0_1,.slice (some ad433) l0_2.length c0_2] 49 (0,0)) (byaq NB429_434.out BK429.out) hb) (uA (g:=gb434) (o:=.cells #[.int .i64 ((zB l0_2 x29_2).f0),.slice A433_1 ((zB l0_2 x29_2).f1).length c433_1,.slice A433_2 ((zB l0_2 x29_2).f2).length c433_2] 49 (0,0)) (by (with_reducible repeat (first|refine qH ?_ _|refine qJ ?_|refine qG ?_ _));refine zG (cs:=#[.int .i64 ((zB l0_2 x29_2).f0),.slice A433_1 ((zB l0_2 x29_2).f1).length c433_1,.slice none 0 0]) ?_ 2 _ rfl;(with_reducible repeat (first|refine qH ?_ _|refine qJ ?_|refine qG ?_ _));refine zG (cs:=#[.int .i64 ((zB l0_2 x29_2).f0),.slice none 0 0,.slice none 0 0]) ?_ 1 _ rfl;(with_reducible repeat (first|refine qH ?_ _|refine qJ ?_|refine qG ?_ _));refine zG (cs:=#[.int .i64 0,.slice none 0 0,.slice none 0 0]) ?_ 0 _ rfl;(with_reducible repeat (first|refine qH ?_ _|refine qJ ?_|refine qG ?_ _));exact BK434.out) hb) (qE (byal GE429.out GE434.out) hb);clear BK429 BK434 HB;obtain ⟨BK429,BK434,HB⟩:=n_;clear hb))
           go_roundg k2
           case measure=>have:=HK1.out;have:=HK2.out;omega
           case rel=>exact ⟨(wrap64 (x5_2 + 1)),(wrap64 (x29_2 + 1)),byab,byab,H',⟨byap⟩,⟨byaf BK429.out⟩,⟨byal GE429.out GE434.out⟩⟩
          ·replace c17:=Bool.eq_false_iff.mpr c17
           subst c17
           rw [if_neg (show ¬ (false = true) by decide)] at H
           have H':=qA.mk H
           clear H
           have p433 : 0 ≤ (x29_2 : Int):=of_decide_eq_true byah
           have q433 : x29_2 < (l0_2.length : Int):=of_decide_eq_true byah
           obtain ⟨ad433,A433_1,c433_1,A433_2,c433_2,e433,hx433_0,hx433_1,hx433_2,hl433_1,hi433_1,hl433_2,hi433_2⟩:=at_T49 HR0_2.out x29_2 p433 q433
           cases e433
           replace hx433_0:=(HB.out.cell (World.block_lt_of_cell? w _ hx433_0)).trans hx433_0
           replace hx433_1:=(HB.out.cell (World.block_lt_of_cell? w _ hx433_1)).trans hx433_1
           replace hx433_2:=(HB.out.cell (World.block_lt_of_cell? w _ hx433_2)).trans hx433_2
           have HR433_1:=qA.mk hi433_1
           have HC433_1:=qA.mk hl433_1
           clear hi433_1 hl433_1
           have HR433_2:=qA.mk hi433_2
           have HC433_2:=qA.mk hl433_2
           clear hi433_2 hl433_2
           replace p433:=eq_true p433
           replace q433:=eq_true q433
           go_wp2_with (first|((with_reducible refine qX (N:=9) rfl ?_);refine zD ?hg (N:=9) ?hd (cs:=#[.int .i64 0,.slice none 0 0,.slice none 0 0]) (t:=49) ?hr ?_;(case hd=>rfl);(case hg=>rfl);(case hr=>exact byad);intro gb434 hg w22 hbox hb;have n_:=q_6 (qI BK429.out hb) (qE (byag GE429.out) hb) (hbox) ((bycl GE429.out : w.heap.size ≤ gb434)) ((bycl GE429.out : w.heap.size ≤ gb434)) ((by rw [hg];exact Nat.ne_of_lt (vH BK429.out) : gb429≠gb434));clear BK429 HB;obtain ⟨BK429,HB,BK434,GW434,GE434,NB429_434⟩:=n_;have NB434_429:=ns NB429_434;clear hb hbox hg;have hnb23:=NB434_429.out;have hnc23:=NB429_434.out;obtain ⟨hcz24_0,hcz24_1,hcz24_2,hfz24_0,hfz24_1,hfz24_2⟩:=cz3 BK434.out)|((with_reducible refine qF (f:=26) rfl ?_);refine zC (some 35) rfl rfl Try.func26 (by kernel_rfl) rfl #[.agg #[.int .i64 ((zB l0_2 x29_2).f0),.slice A433_1 ((zB l0_2 x29_2).f1).length c433_1,.slice A433_2 ((zB l0_2 x29_2).f2).length c433_2],.int .i64 a1] rfl byac ?_;(with_reducible refine (ih k2 byap ((zB l0_2 x29_2).f0) _ _ ((zB l0_2 x29_2).f1) _ _ ((zB l0_2 x29_2).f2) a1 false _ ?side1 ?side2 ?side3 ?side4 A16.out).mono ?_);(case side1=>exact Kd.uX HR433_1.out (byal GE429.out GE434.out));(case side2=>exact HC433_1.out);(case side3=>exact Kd.uX HR433_2.out (byal GE429.out GE434.out));(case side4=>exact HC433_2.out);rintro e w25 ⟨rfl,hb⟩;refine ⟨_,rfl,?_⟩;have n_:=q_3 (uA (g:=gb429) (o:=.cells #[.int .i64 a0_0,.slice A0_1 l0_1.length c0_1,.slice (some ad433) l0_2.length c0_2] 49 (0,0)) (byaq NB429_434.out BK429.out) hb) (uA (g:=gb434) (o:=.cells #[.int .i64 ((zB l0_2 x29_2).f0),.slice A433_1 ((zB l0_2 x29_2).f1).length c433_1,.slice A433_2 ((zB l0_2 x29_2).f2).length c433_2] 49 (0,0)) (by (with_reducible repeat (first|refine qH ?_ _|refine qJ ?_|refine qG ?_ _));refine zG (cs:=#[.int .i64 ((zB l0_2 x29_2).f0),.slice A433_1 ((zB l0_2 x29_2).f1).length c433_1,.slice none 0 0]) ?_ 2 _ rfl;(with_reducible repeat (first|refine qH ?_ _|refine qJ ?_|refine qG ?_ _));refine zG (cs:=#[.int .i64 ((zB l0_2 x29_2).f0),.slice none 0 0,.slice none 0 0]) ?_ 1 _ rfl;(with_reducible repeat (first|refine qH ?_ _|refine qJ ?_|refine qG ?_ _));refine zG (cs:=#[.int .i64 0,.slice none 0 0,.slice none 0 0]) ?_ 0 _ rfl;(with_reducible repeat (first|refine qH ?_ _|refine qJ ?_|refine qG ?_ _));exact BK434.out) hb) (qE (byal GE429.out GE434.out) hb);clear BK429 BK434 HB;obtain ⟨BK429,BK434,HB⟩:=n_;clear hb))
           go_roundg k2
           case measure=>have:=HK1.out;have:=HK2.out;omega
           case rel=>exact ⟨(x5_2),(wrap64 (x29_2 + 1)),byab,byab,H',⟨byap⟩,⟨byaf BK429.out⟩,⟨byal GE429.out GE434.out⟩⟩
         ·rw [if_neg c15] at H
          exact absurd H (by simp)
        ·rw [if_neg c14] at H
         exact absurd H (by simp)
       ·rw [if_neg c13] at H
        have c13b0:=decide_eq_false c13
        clear c13
        obtain rfl:=Option.some.inj H
        obtain ⟨hcz26_0,hcz26_1,hcz26_2,hfz26_0,hfz26_1,hfz26_2⟩:=cz3 BK429.out
        go_wp2
        go_ret
        exact ⟨byam,byag GE429.out⟩
 ·replace c4:=Bool.eq_false_iff.mpr c4
  subst c4
  rw [if_neg (show ¬ (false = true) by decide)] at H
  obtain rfl:=Option.some.inj H
  go_enter Try.func26,Try.ntmps26
  go_wp2_with (first|((with_reducible refine qX (N:=2) rfl ?_);refine zD ?hg (N:=2) ?hd (cs:=#[.int .i64 a0_0,.slice A0_1 l0_1.length c0_1,.slice A0_2 l0_2.length c0_2]) (t:=49) ?hr ?_;(case hd=>rfl);(case hg=>rfl);(case hr=>exact byad);intro gb429 hg w27 hbox hb;have n_:=q_4 (qE byae hb) (hbox) ((byck : w.heap.size ≤ gb429)) ((byck : w.heap.size ≤ gb429));clear HB;obtain ⟨HB,BK429,GW429,GE429⟩:=n_;clear hb hbox hg)|((with_reducible refine qF (f:=36) rfl ?_);refine zC (some 11) rfl rfl Try.func36 (by kernel_rfl) rfl #[.int .i64 a1] rfl byac ?_;(with_reducible refine (zL.calls a1 false _ A3.out).mono ?_);rintro e w' ⟨rfl,⟨nd,rfl⟩⟩;refine ⟨_,rfl,?_⟩))
  go_ret
  exact ⟨byam,byag GE429.out⟩
end Go.Proofs.Ytoofabolcbbjnaa.P
