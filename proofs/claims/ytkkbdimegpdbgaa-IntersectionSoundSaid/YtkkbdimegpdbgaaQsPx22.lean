/- Functions of the program as Lean functions, and the walks that show that the calls answer so; written by a program of this session (a changed print) and by hand. -/
import Derived.Test.YtkkbdimegpdbgaaQsPx0
import Derived.Test.YtkkbdimegpdbgaaQsPx13
import Derived.Test.YtkkbdimegpdbgaaQsPx16
import Derived.Test.YtkkbdimegpdbgaaQsPx17
namespace Go.Proofs.Ytkkbdimegpdbgaa.P
open Go.RowKit Go.Proofs.YtkkbdimegpdbgaaW.PrintWords Go.Proofs.YtkkbdimegpdbgaaW.PrintLast Go.Proofs.YtkkbdimegpdbgaaW.PrintMore
attribute [local go_sem] kF kD kV kU uJ uK kG kE
set_option linter.unusedVariables false
set_option linter.unusedSimpArgs false
def zZ.l0 : Nat→Int→Int→Int→Option (Int)
 | 0,_,_,_=>none
 | k + 1,x0,x3,x4=>if x4 < 10 then ((zX.f x0).bind fun t555=>(if t555 = true then (if 0 ≤ x4 then (zZ.l0 k x0 (wrap64 (x3 + (Go.bits .and .i64 (shr .i64 x0 x4) 1))) (wrap64 (x4 + 1))) else (none)) else (some x3))) else (some x3)
def zZ.f (k : Nat) (a0 : Int) : Option (Int):=zZ.l0 k a0 0 0
theorem zZ.mono_l : ∀ k,(∀ y0 y1 y2,LeO (zZ.l0 k y0 y1 y2) (zZ.l0 (k + 1) y0 y1 y2))
 | 0=>fun _ _ _ r h=>by simp [zZ.l0] at h
 | k + 1=>by
  have ih0:=zZ.mono_l k
  ·intro y0 y1 y2
   unfold zZ.l0
   repeat' first
   | (with_reducible exact ih0 _ _ _)
   | (with_reducible exact LeO.refl _)
   | (with_reducible exact LeO.none _)
   | (with_reducible refine LeO.ite ?_ ?_)
   | (with_reducible refine LeO.bind ?_ (fun _=>?_))
   | exact ih0 _ _ _
   | exact LeO.none _
   | refine LeO.ite ?_ ?_
   | refine LeO.bind ?_ (fun _=>?_)
theorem zZ.mono : ∀ a0 k,LeO (zZ.f k a0) (zZ.f (k + 1) a0):=by
 intro a0 k
 have ih0:=zZ.mono_l k
 unfold zZ.f
 repeat' first
   | (with_reducible exact ih0 _ _ _)
   | (with_reducible exact LeO.refl _)
   | (with_reducible exact LeO.none _)
   | (with_reducible refine LeO.ite ?_ ?_)
   | (with_reducible refine LeO.bind ?_ (fun _=>?_))
   | exact ih0 _ _ _
   | exact LeO.none _
   | refine LeO.ite ?_ ?_
   | refine LeO.bind ?_ (fun _=>?_)
set_option maxHeartbeats 8000000 in
set_option maxRecDepth 100000 in
theorem zZ.calls (k : Nat) (a0 : Int) (r : Int) (w : World) (h : zZ.f k a0 = some r) :
  Calls Try.prog 78 #[.int .i64 a0] w fun e w'=>e = .returned (.int .i64 r)∧kZ w w':=by
 unfold zZ.f at h
 have H:=h
 clear h
 have H':=qA.mk H
 clear H
 go_enter Try.func78,Try.ntmps78
 go_wp2
 go_loopg [3,4] k (fun kq v3 v4 w'=>∃ (x3_1 : Int) (x4_1 : Int),v3 = .int .i64 x3_1∧v4 = .int .i64 x4_1∧qA (zZ.l0 kq a0 x3_1 x4_1 = some r)∧qA (kq ≤ k)∧kZ w w')
 case atStart=>exact ⟨(0),(0),byae,byae,H',⟨Nat.le_refl _⟩,byam⟩
 case round =>
  clear H'
  obtain ⟨x3_1,x4_1,rfl,rfl,HA,HK1,⟨m1,rfl⟩⟩:=hrel
  cases gk with
  | zero=>exact absurd HA.out (by simp [zZ.l0])
  | succ k1 =>
   have H:=HA.out
   clear HA
   simp only [zZ.l0] at H
   by_cases c2 : x4_1 < 10
   ·rw [if_pos c2] at H
    have c2b0:=decide_eq_true c2
    clear c2
    replace H:=Option.bind_eq_some_iff.mp H
    obtain ⟨t555,A30,H⟩:=H
    try dsimp only at H
    have A3:=qA.mk A30
    clear A30
    by_cases c4 : t555 = true
    ·subst c4
     rw [if_pos rfl] at H
     by_cases c5 : 0 ≤ x4_1
     ·rw [if_pos c5] at H
      have c5b0:=eq_true c5
      have c5b1:=decide_eq_true c5
      clear c5
      obtain ⟨ji6,hji6⟩ : ∃ j_ : Int,(shr .i64 a0 x4_1) = j_:=⟨_,rfl⟩
      (first|rw [hji6] at H|(simp only [hji6] at H))
      (try rw [hji6] at A3)
      have hji6_ : (a0 / 2 ^ min x4_1.toNat 64) = ji6:=hji6
      have hji6z : x4_1 ≤ 64→(a0 / 2 ^ x4_1.toNat) = ji6:=shr_small hji6
      have H':=qA.mk H
      clear H
      go_wp2_with (first|(go_at_call 43;(with_reducible refine (zX.calls a0 true _ A3.out).mono ?_);rintro e w' ⟨rfl,⟨nd,rfl⟩⟩))
      go_roundg k1
      case measure=>have:=HK1.out;omega
      case rel=>exact ⟨(wrap64 (x3_1 + (Go.bits .and .i64 (ji6) 1))),(wrap64 (x4_1 + 1)),(by first|rfl|(simp;done)|(simp only [← hji6]<;>(first|rfl|simp))|(simp [*];done)),byae,H',⟨byai⟩,byam⟩
     ·rw [if_neg c5] at H
      exact absurd H (by simp)
    ·replace c4:=Bool.eq_false_iff.mpr c4
     subst c4
     rw [if_neg (show ¬ (false = true) by decide)] at H
     obtain rfl:=Option.some.inj H
     go_wp2_with (first|(go_at_call 43;(with_reducible refine (zX.calls a0 false _ A3.out).mono ?_);rintro e w' ⟨rfl,⟨nd,rfl⟩⟩))
     go_ret
     exact ⟨byae,byam⟩
   ·rw [if_neg c2] at H
    have c2b0:=decide_eq_false c2
    clear c2
    obtain rfl:=Option.some.inj H
    go_wp2
    go_ret
    exact ⟨byae,byam⟩
mutual
def qX.l0 : Nat→Int→List Int→Int→Option (List Int)
 | 0,_,_,_=>none
 | k + 1,x0,x3,x4=>(zZ.f k x0).bind fun t556=>(if x4 ≤ t556 then ((zX.f x0).bind fun t557=>(qX.j1 k x0 x3 x4 t557)) else (qX.j1 k x0 x3 x4 false))
def qX.j1 : Nat→Int→List Int→Int→Bool→Option (List Int)
 | 0,_,_,_,_=>none
 | k + 1,x0,x3,x4,x13=>if x13 = true then (qX.l1 k x0 x3 x4 0) else (some x3)
def qX.l1 : Nat→Int→List Int→Int→Int→Option (List Int)
 | 0,_,_,_,_=>none
 | k + 1,x0,x3,x4,x5=>if x5 ≤ x0 then (if (Go.bits .and .i64 x5 x0) = x5 then ((zZ.f k x5).bind fun t558=>(if t558 = x4 then (if x3.length < 17592186044416 then (qX.l1 k x0 (x3 ++ [x5]) x4 (wrap64 (x5 + 1))) else (none)) else (qX.l1 k x0 x3 x4 (wrap64 (x5 + 1))))) else (qX.l1 k x0 x3 x4 (wrap64 (x5 + 1)))) else (qX.l0 k x0 x3 (wrap64 (x4 + 1)))
end
def qX.f (k : Nat) (a0 : Int) : Option (List Int):=qX.l0 k a0 ([] : List Int) 0
set_option maxHeartbeats 8000000 in
set_option maxRecDepth 100000 in
theorem qX.calls (k : Nat) (a0 : Int) (r : List Int) (w : World) (h : qX.f k a0 = some r) :
  Calls Try.prog 56 #[.int .i64 a0] w fun e w'=>∃ v0_ : Value,e = .returned (v0_)∧Kd.R (Kd.int .i64) 3 w' w.heap.size (fun _=>True) v0_ r∧Below w.heap.size w w':=by
 have HB:=qA.mk (Below.refl w.heap.size w)
 unfold qX.f at h
 have H:=h
 clear h
 have H':=qA.mk H
 clear H
 go_enter Try.func56,Try.ntmps56
 go_wp2
 go_loopg [3,4] k (fun kq v3 v4 w'=>∃ (x3_1 : List Int) (x4_1 : Int),v4 = .int .i64 x4_1∧qA (qX.l0 kq a0 x3_1 x4_1 = some r)∧qA (kq ≤ k)∧qA (Kd.R (Kd.int .i64) 3 w' w.heap.size (fun _=>True) v3 x3_1)∧qA (Below w.heap.size w w'))
 case atStart=>exact ⟨(([] : List Int)),(0),byae,H',⟨Nat.le_refl _⟩,⟨byau⟩,⟨byab⟩⟩
 case round =>
  clear H'
  obtain ⟨x3_1,x4_1,rfl,HA,HK1,HO_3,HB⟩:=hrel
  cases gk with
  | zero=>exact absurd HA.out (by simp [qX.l0])
  | succ k1 =>
   have H:=HA.out
   clear HA
   simp only [qX.l0] at H
   have HC2:=qA.mk H
   clear H
   go_upto_region 3 with (fail)
   go_cut [13] (fun v13 wc=>∃ (kq : Nat) (x13_1 : Bool),v13 = .bool x13_1∧qA (qX.j1 kq a0 x3_1 x4_1 x13_1 = some r)∧qA (kq ≤ k1)∧qA (Kd.R (Kd.int .i64) 3 wc w.heap.size (fun _=>True) u3 x3_1)∧qA (Below w.heap.size w wc))
   case first =>
    have H:=HC2.out
    clear HC2
    replace H:=Option.bind_eq_some_iff.mp H
    obtain ⟨t556,A30,H⟩:=H
    try dsimp only at H
    have A3:=qA.mk A30
    clear A30
    by_cases c4 : x4_1 ≤ t556
    ·rw [if_pos c4] at H
     have c4b0:=decide_eq_true c4
     clear c4
     (first|rw [c4b0]|(simp only [Qe,Qh];rw [c4b0])|skip)
     replace H:=Option.bind_eq_some_iff.mp H
     obtain ⟨t557,A50,H⟩:=H
     try dsimp only at H
     have A5:=qA.mk A50
     clear A50
     have H':=qA.mk H
     clear H
     go_wp2_with (first|((with_reducible refine qI (f:=78) rfl ?_);refine qY (some 8) rfl rfl Try.func78 (by kernel_rfl) rfl #[.int .i64 a0] rfl byah ?_;(with_reducible refine (zZ.calls k1 a0 t556 _ A3.out).mono ?_);rintro e w' ⟨rfl,⟨nd,rfl⟩⟩;refine ⟨_,rfl,?_⟩)|(go_at_call 43;(with_reducible refine (zX.calls a0 t557 _ A5.out).mono ?_);rintro e w' ⟨rfl,⟨nd,rfl⟩⟩))
     go_meet
     case rel=>exact ⟨_,(t557),byae,H',⟨byan⟩,⟨byav HO_3.out⟩,⟨byab⟩⟩
    ·rw [if_neg c4] at H
     have c4b0:=decide_eq_false c4
     clear c4
     (first|rw [c4b0]|(simp only [Qe,Qh];rw [c4b0])|skip)
     have H':=qA.mk H
     clear H
     go_wp2_with (first|((with_reducible refine qI (f:=78) rfl ?_);refine qY (some 8) rfl rfl Try.func78 (by kernel_rfl) rfl #[.int .i64 a0] rfl byah ?_;(with_reducible refine (zZ.calls k1 a0 t556 _ A3.out).mono ?_);rintro e w' ⟨rfl,⟨nd,rfl⟩⟩;refine ⟨_,rfl,?_⟩))
     go_meet
     case rel=>exact ⟨_,(false),byae,H',⟨byan⟩,⟨byav HO_3.out⟩,⟨byab⟩⟩
   case rest =>
    clear HC2
    obtain ⟨kq,x13_1,rfl,HA,HJ1,HO_3,HB⟩:=hcut
    cases kq with
    | zero=>exact absurd HA.out (by simp [qX.j1])
    | succ kj1 =>
     have H:=HA.out
     clear HA
     simp only [qX.j1] at H
     by_cases c6 : x13_1 = true
     ·subst c6
      rw [if_pos rfl] at H
      have H':=qA.mk H
      clear H
      go_wp2
      go_loopg [3,5] kj1 (fun kq v3 v5 w'=>∃ (x3_3 : List Int) (x5_3 : Int),v5 = .int .i64 x5_3∧qA (qX.l1 kq a0 x3_3 x4_1 x5_3 = some r)∧qA (kq ≤ kj1)∧qA (Kd.R (Kd.int .i64) 3 w' w.heap.size (fun _=>True) v3 x3_3)∧qA (Below w.heap.size w w'))
      case atStart=>exact ⟨(x3_1),(0),byae,H',⟨Nat.le_refl _⟩,⟨byav HO_3.out⟩,⟨byab⟩⟩
      case round =>
       clear H'
       obtain ⟨x3_3,x5_3,rfl,HA,HK3,HO_3,HB⟩:=hrel
       cases gk with
       | zero=>exact absurd HA.out (by simp [qX.l1])
       | succ k3 =>
        have H:=HA.out
        clear HA
        simp only [qX.l1] at H
        by_cases c7 : x5_3 ≤ a0
        ·rw [if_pos c7] at H
         have c7b0:=decide_eq_true c7
         clear c7
         by_cases c8 : (Go.bits .and .i64 x5_3 a0) = x5_3
         ·rw [if_pos c8] at H
          obtain ⟨c8b0,c8b1⟩:=eqT c8
          clear c8
          replace H:=Option.bind_eq_some_iff.mp H
          obtain ⟨t558,A90,H⟩:=H
          try dsimp only at H
          have A9:=qA.mk A90
          clear A90
          by_cases c10 : t558 = x4_1
          ·rw [if_pos c10] at H
           obtain ⟨c10b0,c10b1⟩:=eqT c10
           clear c10
           by_cases c11 : x3_3.length < 17592186044416
           ·rw [if_pos c11] at H
            have LMc11:=qA.mk c11
            clear c11
            obtain ⟨y559,hy559⟩ : ∃ y_ : List Int,y_ = (x3_3 ++ [x5_3]):=⟨_,rfl⟩
            replace H : (qX.l1 k3 a0 y559 x4_1 (wrap64 (x5_3 + 1))) = some r:=by first|(rw [hy559];with_reducible exact H)|(have H2_:=(Option.bind_some _ _).symm.trans H;rw [hy559];with_reducible exact H2_)|(have H2_:=(Option.bind_some _ _).symm.trans H;with_reducible exact H2_)|with_reducible exact H|(rw [hy559];exact H)|exact H
            have Ny559:=qA.mk hy559
            clear hy559
            have H':=qA.mk H
            clear H
            go_wp2_with (first|(go_at_call 78;(with_reducible refine (zZ.calls k3 x5_3 t558 _ A9.out).mono ?_);rintro e w' ⟨rfl,⟨nd,rfl⟩⟩)|((with_reducible refine uU (b:=.append) (xs:=#[.tmp 32,.tmp 34]) rfl ?_);at_builtin;refine Kd.Qk (Kd.int .i64) (w0:=w) w.heap.size rfl (.tmp 32) (.tmp 34) 22 3 (.int .i64 0) 8 rfl Try.underlying22 info3 rfl (by decide) (by omega) u3 x3_3 x5_3 [.int .i64 x5_3] (fun _=>True) (fun _=>False) rfl rfl ?aP (fun _ hk=>hk.elim) ?aF ?aO ?aB ?aS ?aL ?_;(case aP=>exact rfl);(case aB=>exact byab);(case aF=>exact (fun _ _=>trivial));(case aO=>exact (byav HO_3.out));(case aS=>exact (jX byab));(case aL=>have:=LMc11.out;omega);intro v560 w12 ho hb hg hat;rw [← Ny559.out] at ho;have n_:=q_2 (hb) (ho);clear HB HO_3;obtain ⟨HB,HO561⟩:=n_;clear ho hb hg hat))
            go_roundg k3
            case measure=>have:=HK1.out;have:=HJ1.out;have:=HK3.out;omega
            case rel=>exact ⟨(y559),(wrap64 (x5_3 + 1)),byae,H',⟨bycb⟩,⟨byav HO561.out⟩,⟨byab⟩⟩
           ·rw [if_neg c11] at H
            exact absurd H (by simp)
          ·rw [if_neg c10] at H
           obtain ⟨c10b0,c10b1⟩:=eqF c10
           have H':=qA.mk H
           clear H
           go_wp2_with (first|(go_at_call 78;(with_reducible refine (zZ.calls k3 x5_3 t558 _ A9.out).mono ?_);rintro e w' ⟨rfl,⟨nd,rfl⟩⟩))
           go_roundg k3
           case measure=>have:=HK1.out;have:=HJ1.out;have:=HK3.out;omega
           case rel=>exact ⟨(x3_3),(wrap64 (x5_3 + 1)),byae,H',⟨bycb⟩,⟨byav HO_3.out⟩,⟨byab⟩⟩
         ·rw [if_neg c8] at H
          obtain ⟨c8b0,c8b1⟩:=eqF c8
          have H':=qA.mk H
          clear H
          go_wp2
          go_roundg k3
          case measure=>have:=HK1.out;have:=HJ1.out;have:=HK3.out;omega
          case rel=>exact ⟨(x3_3),(wrap64 (x5_3 + 1)),byae,H',⟨bycb⟩,⟨byav HO_3.out⟩,⟨byab⟩⟩
        ·rw [if_neg c7] at H
         have c7b0:=decide_eq_false c7
         clear c7
         have H':=qA.mk H
         clear H
         go_wp2
         go_roundg k3
         case measure=>have:=HK1.out;have:=HJ1.out;have:=HK3.out;omega
         case rel=>exact ⟨(x3_3),(wrap64 (x4_1 + 1)),byae,H',⟨bycb⟩,⟨byav HO_3.out⟩,⟨byab⟩⟩
     ·replace c6:=Bool.eq_false_iff.mpr c6
      subst c6
      rw [if_neg (show ¬ (false = true) by decide)] at H
      obtain rfl:=Option.some.inj H
      go_wp2
      go_ret
      exact ⟨_,byac,byav HO_3.out,byab⟩
def uF.f (l0_0 : List (S58)) : Option (Int):=some (wrap64 ((shl .i64 1 (l0_0.length : Int)) - 1))
set_option maxHeartbeats 8000000 in
set_option maxRecDepth 100000 in
theorem uF.calls (A0_0 : Option Addr) (c0_0 : Nat) (l0_0 : List (S58)) (r : Int) (w : World) (hr0_0 : Kd.C k58 w A0_0 l0_0.length l0_0) (hc0_0 : l0_0.length ≤ c0_0) (h : uF.f l0_0 = some r) :
  Calls Try.prog 57 #[.agg #[.slice A0_0 l0_0.length c0_0]] w fun e w'=>e = .returned (.int .i64 r)∧Below w.heap.size w w':=by
 have hu25:=Try.underlying25
 have HR0_0:=qA.mk hr0_0
 have HC0_0:=qA.mk hc0_0
 clear hr0_0 hc0_0
 have HB:=qA.mk (Below.refl w.heap.size w)
 unfold uF.f at h
 have H:=h
 clear h
 obtain ⟨ji2,hji2⟩ : ∃ j_ : Int,(shl .i64 1 (l0_0.length : Int)) = j_:=⟨_,rfl⟩
 (first|rw [hji2] at H|(simp only [hji2] at H))
 obtain ⟨hji2_,hji2z,hji2p,hji2q,hji2r,hji2s,hji2u,hji2v,hji2y,hji2x⟩:=jiB hji2
 obtain rfl:=Option.some.inj H
 go_enter Try.func57,Try.ntmps57
 go_wp2_with (first|((with_reducible refine qP (N:=1) rfl ?_);refine zV (N:=1) (cs:=#[.slice A0_0 l0_0.length c0_0]) (t:=25) ?_;intro gb562 hg w3 hbox hb;have n_:=q_4 (qC byab hb) (hbox) ((byck : w.heap.size ≤ gb562)) ((byck : w.heap.size ≤ gb562));clear HB;obtain ⟨HB,BK562,GW562,GE562⟩:=n_;clear hb hbox hg;obtain ⟨hcz4_0,hfz4_0⟩:=cz1 BK562.out))
 go_ret
 exact ⟨byaw,byad GE562.out⟩
mutual
def zF.l0 : Nat→Int→List Int→Bool→List (S58)→Option (List Int)
 | 0,_,_,_,_=>none
 | k + 1,x5,x6,x7,x564000=>if x7 = true then ((jT.f k x5).bind fun t566=>(zF.l1 k x5 x6 false t566 (t566.length : Int) 0 x564000)) else (some x6)
def zF.l1 : Nat→Int→List Int→Bool→List Int→Int→Int→List (S58)→Option (List Int)
 | 0,_,_,_,_,_,_,_=>none
 | k + 1,x5,x6,x7,x19,x20,x21,x564000=>if x21 < x20 then (if 0 ≤ x21 then (if x21 < (x19.length : Int) then (if 0 ≤ (rd x19 x21) then (if (rd x19 x21) < (x564000.length : Int) then ((qV.f k ((zD x564000 (rd x19 x21)).f1.f0) ((zD x564000 (rd x19 x21)).f1.f1) ((zD x564000 (rd x19 x21)).f1.f2) x5).bind fun t571=>(if t571 = true then (zF.l1 k x5 x6 x7 x19 x20 (wrap64 (x21 + 1)) x564000) else (if x6.length < 17592186044416 then (zF.l0 k (wrap64 (x5 - (shl .i64 1 (rd x19 x21)))) (x6 ++ [rd x19 x21]) true x564000) else (none)))) else (none)) else (none)) else (none)) else (none)) else (zF.l0 k x5 x6 x7 x564000)
end
def zF.f (k : Nat) (l0_0 : List (S58)) (a1 : Int) : Option (List Int):=(zX.f a1).bind fun t564=>(if t564 = true then ((zU.f k l0_0).bind fun t565=>(zF.l0 k (Go.bits .and .i64 a1 t565) ([] : List Int) true l0_0)) else (some ([] : List Int)))
set_option maxHeartbeats 8000000 in
set_option maxRecDepth 100000 in
theorem zF.calls (k : Nat) (A0_0 : Option Addr) (c0_0 : Nat) (l0_0 : List (S58)) (a1 : Int) (r : List Int) (w : World) (hr0_0 : Kd.C k58 w A0_0 l0_0.length l0_0) (hc0_0 : l0_0.length ≤ c0_0) (h : zF.f k l0_0 a1 = some r) :
  Calls Try.prog 79 #[.agg #[.slice A0_0 l0_0.length c0_0],.int .i64 a1] w fun e w'=>∃ v0_ : Value,e = .returned (v0_)∧Kd.R (Kd.int .i64) 3 w' w.heap.size (fun _=>True) v0_ r∧Below w.heap.size w w':=by
 have hu25:=Try.underlying25
 have hu56:=Try.underlying56
 have HR0_0:=qA.mk hr0_0
 have HC0_0:=qA.mk hc0_0
 clear hr0_0 hc0_0
 have HB:=qA.mk (Below.refl w.heap.size w)
 unfold zF.f at h
 have H:=h
 clear h
 replace H:=Option.bind_eq_some_iff.mp H
 obtain ⟨t564,A30,H⟩:=H
 try dsimp only at H
 have A3:=qA.mk A30
 clear A30
 by_cases c4 : t564 = true
 ·subst c4
  rw [if_pos rfl] at H
  replace H:=Option.bind_eq_some_iff.mp H
  obtain ⟨t565,A50,H⟩:=H
  try dsimp only at H
  have A5:=qA.mk A50
  clear A50
  have H':=qA.mk H
  clear H
  go_enter Try.func79,Try.ntmps79
  go_wp2_with (first|((with_reducible refine qP (N:=2) rfl ?_);refine zV (N:=2) (cs:=#[.slice A0_0 l0_0.length c0_0]) (t:=25) ?_;intro gb563 hg w6 hbox hb;have n_:=q_4 (qC byab hb) (hbox) ((byck : w.heap.size ≤ gb563)) ((byck : w.heap.size ≤ gb563));clear HB;obtain ⟨HB,BK563,GW563,GE563⟩:=n_;clear hb hbox hg)|((with_reducible refine qI (f:=43) rfl ?_);refine qY (some 11) rfl rfl Try.func43 (by kernel_rfl) rfl #[.int .i64 a1] rfl byah ?_;(with_reducible refine (zX.calls a1 true _ A3.out).mono ?_);rintro e w' ⟨rfl,⟨nd,rfl⟩⟩;refine ⟨_,rfl,?_⟩;obtain ⟨hcz7_0,hfz7_0⟩:=cz1 BK563.out)|((with_reducible refine qI (f:=44) rfl ?_);refine qY (some 15) rfl rfl Try.func44 (by kernel_rfl) rfl #[.agg #[.slice A0_0 l0_0.length c0_0]] rfl byah ?_;(with_reducible refine (zU.calls k _ _ l0_0 t565 _ ?side1 ?side2 A5.out).mono ?_);(case side1=>exact bycm HR0_0.out GE563.out);(case side2=>exact HC0_0.out);rintro e w8 ⟨rfl,hb⟩;refine ⟨_,rfl,?_⟩;have n_:=q_2 (qH BK563.out hb) (qC (byad GE563.out) hb);clear BK563 HB;obtain ⟨BK563,HB⟩:=n_;clear hb))
  go_loopg [5,6,7] k (fun kq v5 v6 v7 w'=>∃ (x5_1 : Int) (x6_1 : List Int) (x7_1 : Bool),v5 = .int .i64 x5_1∧v7 = .bool x7_1∧qA (zF.l0 kq x5_1 x6_1 x7_1 l0_0 = some r)∧qA (kq ≤ k)∧qA (Kd.R (Kd.int .i64) 3 w' w.heap.size (fun _=>True) v6 x6_1)∧qA (w'.heap[gb563]? = some (.cells #[(.slice A0_0 l0_0.length c0_0)] 25 (0,0)))∧qA (Below w.heap.size w w'))
  case atStart=>exact ⟨(Go.bits .and .i64 a1 t565),(([] : List Int)),(true),byae,byae,H',⟨Nat.le_refl _⟩,⟨byau⟩,⟨byaf BK563.out⟩,⟨byad GE563.out⟩⟩
  case round =>
   clear H'
   obtain ⟨x5_1,x6_1,x7_1,rfl,rfl,HA,HK1,HO_6,BK563,HB⟩:=hrel
   cases gk with
   | zero=>exact absurd HA.out (by simp [zF.l0])
   | succ k1 =>
    have H:=HA.out
    clear HA
    simp only [zF.l0] at H
    by_cases c9 : x7_1 = true
    ·subst c9
     rw [if_pos rfl] at H
     replace H:=Option.bind_eq_some_iff.mp H
     obtain ⟨t566,A100,H⟩:=H
     try dsimp only at H
     have A10:=qA.mk A100
     clear A100
     have H':=qA.mk H
     clear H
     go_wp2_with (first|((with_reducible refine qI (f:=45) rfl ?_);refine qY (some 19) rfl rfl Try.func45 (by kernel_rfl) rfl #[.int .i64 x5_1] rfl byah ?_;(with_reducible refine (jT.calls k1 x5_1 t566 _ A10.out).mono ?_);rintro e w11 ⟨v567,rfl,ho0,hb⟩;refine ⟨_,rfl,?_⟩;have n_:=q_4 (Kd.Zz (byav HO_6.out) (Kd.kL ho0) hb) (Kd.uZ (Kd.R_new' ho0 (Kd.R_lt (byav HO_6.out))) (jX (byad GE563.out))) (qH BK563.out hb) (qC (byad GE563.out) hb);clear HO_6 BK563 HB;obtain ⟨HO_6,HO568,BK563,HB⟩:=n_;clear hb;(try clear ho0);obtain ⟨Ao12,co12,eo12⟩:=Kd.vJ HO568.out;subst eo12))
     go_loopg [5,6,7,21] k1 (fun kq v5 v6 v7 v21 w'=>∃ (x5_2 : Int) (x6_2 : List Int) (x7_2 : Bool) (x21_2 : Int),v5 = .int .i64 x5_2∧v7 = .bool x7_2∧v21 = .int .i64 x21_2∧qA (zF.l1 kq x5_2 x6_2 x7_2 t566 (t566.length : Int) x21_2 l0_0 = some r)∧qA (kq ≤ k1)∧qA (Kd.R (Kd.int .i64) 3 w' w.heap.size (fun k_=>some k_≠((.slice Ao12 t566.length co12) : Value).ownBlock) v6 x6_2)∧qA (Kd.R (Kd.int .i64) 3 w' w.heap.size (fun k_=>some k_≠(v6 : Value).ownBlock) (.slice Ao12 t566.length co12) t566)∧qA (w'.heap[gb563]? = some (.cells #[(.slice A0_0 l0_0.length c0_0)] 25 (0,0)))∧qA (Below w.heap.size w w'))
     case atStart=>exact ⟨(x5_1),(x6_1),(false),(0),byae,byae,byae,H',⟨Nat.le_refl _⟩,⟨by (with_reducible repeat (first|apply Kd.jP|apply Kd.jO|apply Kd.jZ));exact Kd.zB HO_6.out (fun _ hk=>hk.2)⟩,⟨by (with_reducible repeat (first|apply Kd.jP|apply Kd.jO|apply Kd.jZ));exact Kd.zB HO568.out (fun _ hk=>hk.2)⟩,⟨byaf BK563.out⟩,⟨byad GE563.out⟩⟩
     case round =>
      clear H'
      obtain ⟨x5_2,x6_2,x7_2,x21_2,rfl,rfl,rfl,HA,HK2,HO_6,HO_19,BK563,HB⟩:=hrel
      cases gk with
      | zero=>exact absurd HA.out (by simp [zF.l1])
      | succ k2 =>
       have H:=HA.out
       clear HA
       simp only [zF.l1] at H
       by_cases c13 : x21_2 < (t566.length : Int)
       ·rw [if_pos c13] at H
        have c13b0:=decide_eq_true c13
        clear c13
        by_cases c14 : 0 ≤ x21_2
        ·rw [if_pos c14] at H
         have c14b0:=decide_eq_true c14
         clear c14
         by_cases c15 : x21_2 < (t566.length : Int)
         ·rw [if_pos c15] at H
          have c15b0:=decide_eq_true c15
          clear c15
          by_cases c16 : 0 ≤ (rd t566 x21_2)
          ·rw [if_pos c16] at H
           have c16b0:=decide_eq_true c16
           clear c16
           by_cases c17 : (rd t566 x21_2) < (l0_0.length : Int)
           ·rw [if_pos c17] at H
            have c17b0:=decide_eq_true c17
            clear c17
            replace H:=Option.bind_eq_some_iff.mp H
            obtain ⟨t571,A180,H⟩:=H
            try dsimp only at H
            have A18:=qA.mk A180
            clear A180
            by_cases c19 : t571 = true
            ·subst c19
             rw [if_pos rfl] at H
             have H':=qA.mk H
             clear H
             have p569 : 0 ≤ (x21_2 : Int):=of_decide_eq_true byag
             have q569 : x21_2 < (t566.length : Int):=of_decide_eq_true byag
             obtain ⟨ad569,e569,hx569_0⟩:=Kd.kW (Kd.uM HO_19.out).2.2 x21_2 p569 q569
             cases e569
             replace p569:=eq_true p569
             replace q569:=eq_true q569
             obtain ⟨hcz20_0,hfz20_0⟩:=cz1 BK563.out
             have p570 : 0 ≤ ((rd t566 x21_2) : Int):=of_decide_eq_true byag
             have q570 : (rd t566 x21_2) < (l0_0.length : Int):=of_decide_eq_true byag
             obtain ⟨ad570,A570_2,c570_2,A570_3,c570_3,e570,hx570_0,hx570_1,hx570_2,hx570_3,hl570_2,hi570_2,hl570_3,hi570_3⟩:=Zm HR0_0.out (rd t566 x21_2) p570 q570
             cases e570
             replace hx570_0:=(HB.out.cell (World.block_lt_of_cell? w _ hx570_0)).trans hx570_0
             replace hx570_1:=(HB.out.cell (World.block_lt_of_cell? w _ hx570_1)).trans hx570_1
             replace hx570_2:=(HB.out.cell (World.block_lt_of_cell? w _ hx570_2)).trans hx570_2
             replace hx570_3:=(HB.out.cell (World.block_lt_of_cell? w _ hx570_3)).trans hx570_3
             have HR570_2:=qA.mk hi570_2
             have HC570_2:=qA.mk hl570_2
             clear hi570_2 hl570_2
             have HR570_3:=qA.mk hi570_3
             have HC570_3:=qA.mk hl570_3
             clear hi570_3 hl570_3
             replace p570:=eq_true p570
             replace q570:=eq_true q570
             go_wp2_with (first|((with_reducible refine qI (f:=46) rfl ?_);refine qY (some 32) rfl rfl Try.func46 (by kernel_rfl) rfl #[.agg #[.int .i64 ((zD l0_0 (rd t566 x21_2)).f1.f0),.slice A570_2 ((zD l0_0 (rd t566 x21_2)).f1.f1).length c570_2,.slice A570_3 ((zD l0_0 (rd t566 x21_2)).f1.f2).length c570_3],.int .i64 x5_2] rfl byah ?_;(with_reducible refine (qV.calls k2 ((zD l0_0 (rd t566 x21_2)).f1.f0) _ _ ((zD l0_0 (rd t566 x21_2)).f1.f1) _ _ ((zD l0_0 (rd t566 x21_2)).f1.f2) x5_2 true _ ?side1 ?side2 ?side3 ?side4 A18.out).mono ?_);(case side1=>exact byaq HR570_2.out);(case side2=>exact HC570_2.out);(case side3=>exact byaq HR570_3.out);(case side4=>exact HC570_3.out);rintro e w21 ⟨rfl,hb⟩;refine ⟨_,rfl,?_⟩;have n_:=q_4 (Kd.uP (byav HO_6.out) hb) (Kd.uP (byav HO_19.out) hb) (qH BK563.out hb) (qC (byad GE563.out) hb);clear HO_6 HO_19 BK563 HB;obtain ⟨HO_6,HO_19,BK563,HB⟩:=n_;clear hb))
             go_roundg k2
             case measure=>have:=HK1.out;have:=HK2.out;omega
             case rel=>exact ⟨(x5_2),(x6_2),(x7_2),(wrap64 (x21_2 + 1)),byae,byae,byae,H',⟨byar⟩,⟨byav HO_6.out⟩,⟨byav HO_19.out⟩,⟨byaf BK563.out⟩,⟨byad GE563.out⟩⟩
            ·replace c19:=Bool.eq_false_iff.mpr c19
             subst c19
             rw [if_neg (show ¬ (false = true) by decide)] at H
             have c22b0:=eq_true (of_decide_eq_true byag : 0 ≤ (rd t566 x21_2))
             obtain ⟨ji23,hji23⟩ : ∃ j_ : Int,(shl .i64 1 (rd t566 x21_2)) = j_:=⟨_,rfl⟩
             (first|rw [hji23] at H|(simp only [hji23] at H))
             (try rw [hji23] at A18)
             obtain ⟨hji23_,hji23z,hji23u,hji23v,hji23y,hji23x⟩:=jiA hji23
             by_cases c24 : x6_2.length < 17592186044416
             ·rw [if_pos c24] at H
              have LMc24:=qA.mk c24
              clear c24
              obtain ⟨y572,hy572⟩ : ∃ y_ : List Int,y_ = (x6_2 ++ [rd t566 x21_2]):=⟨_,rfl⟩
              replace H : (zF.l0 k2 (wrap64 (x5_2 - (ji23))) y572 true l0_0) = some r:=by first|(rw [hy572];with_reducible exact H)|(have H2_:=(Option.bind_some _ _).symm.trans H;rw [hy572];with_reducible exact H2_)|(have H2_:=(Option.bind_some _ _).symm.trans H;with_reducible exact H2_)|with_reducible exact H|(rw [hy572];exact H)|exact H
              have Ny572:=qA.mk hy572
              clear hy572
              have H':=qA.mk H
              clear H
              have p569 : 0 ≤ (x21_2 : Int):=of_decide_eq_true byag
              have q569 : x21_2 < (t566.length : Int):=of_decide_eq_true byag
              obtain ⟨ad569,e569,hx569_0⟩:=Kd.kW (Kd.uM HO_19.out).2.2 x21_2 p569 q569
              cases e569
              replace p569:=eq_true p569
              replace q569:=eq_true q569
              obtain ⟨hcz25_0,hfz25_0⟩:=cz1 BK563.out
              have p570 : 0 ≤ ((rd t566 x21_2) : Int):=of_decide_eq_true byag
              have q570 : (rd t566 x21_2) < (l0_0.length : Int):=of_decide_eq_true byag
              obtain ⟨ad570,A570_2,c570_2,A570_3,c570_3,e570,hx570_0,hx570_1,hx570_2,hx570_3,hl570_2,hi570_2,hl570_3,hi570_3⟩:=Zm HR0_0.out (rd t566 x21_2) p570 q570
              cases e570
              replace hx570_0:=(HB.out.cell (World.block_lt_of_cell? w _ hx570_0)).trans hx570_0
              replace hx570_1:=(HB.out.cell (World.block_lt_of_cell? w _ hx570_1)).trans hx570_1
              replace hx570_2:=(HB.out.cell (World.block_lt_of_cell? w _ hx570_2)).trans hx570_2
              replace hx570_3:=(HB.out.cell (World.block_lt_of_cell? w _ hx570_3)).trans hx570_3
              have HR570_2:=qA.mk hi570_2
              have HC570_2:=qA.mk hl570_2
              clear hi570_2 hl570_2
              have HR570_3:=qA.mk hi570_3
              have HC570_3:=qA.mk hl570_3
              clear hi570_3 hl570_3
              replace p570:=eq_true p570
              replace q570:=eq_true q570
              go_wp2_with (first|((with_reducible refine qI (f:=46) rfl ?_);refine qY (some 32) rfl rfl Try.func46 (by kernel_rfl) rfl #[.agg #[.int .i64 ((zD l0_0 (rd t566 x21_2)).f1.f0),.slice A570_2 ((zD l0_0 (rd t566 x21_2)).f1.f1).length c570_2,.slice A570_3 ((zD l0_0 (rd t566 x21_2)).f1.f2).length c570_3],.int .i64 x5_2] rfl byah ?_;(with_reducible refine (qV.calls k2 ((zD l0_0 (rd t566 x21_2)).f1.f0) _ _ ((zD l0_0 (rd t566 x21_2)).f1.f1) _ _ ((zD l0_0 (rd t566 x21_2)).f1.f2) x5_2 false _ ?side1 ?side2 ?side3 ?side4 A18.out).mono ?_);(case side1=>exact byaq HR570_2.out);(case side2=>exact HC570_2.out);(case side3=>exact byaq HR570_3.out);(case side4=>exact HC570_3.out);rintro e w26 ⟨rfl,hb⟩;refine ⟨_,rfl,?_⟩;have n_:=q_4 (Kd.uP (byav HO_6.out) hb) (Kd.uP (byav HO_19.out) hb) (qH BK563.out hb) (qC (byad GE563.out) hb);clear HO_6 HO_19 BK563 HB;obtain ⟨HO_6,HO_19,BK563,HB⟩:=n_;clear hb)|((with_reducible refine uU (b:=.append) (xs:=#[.tmp 38,.tmp 40]) rfl ?_);at_builtin;refine Kd.Qk (Kd.int .i64) (w0:=w) w.heap.size rfl (.tmp 38) (.tmp 40) 22 3 (.int .i64 0) 8 rfl Try.underlying22 info3 rfl (by decide) (by omega) u6 x6_2 (rd t566 x21_2) [.int .i64 (rd t566 x21_2)] (fun k_=>some k_≠(.slice (some ad569) t566.length co12 : Value).ownBlock) (fun _=>False) rfl rfl ?aP (fun _ hk=>hk.elim) ?aF ?aO ?aB ?aS ?aL ?_;(case aP=>exact rfl);(case aB=>exact (byad GE563.out));(case aF=>exact (fun k_ hk=>Kd.fresh' (Kd.R_lt (byav HO_19.out)) k_ hk));(case aO=>exact (byav HO_6.out));(case aS=>exact (jX (byad GE563.out)));(case aL=>have:=LMc24.out;omega);intro v573 w27 ho hb hg hat;rw [← Ny572.out] at ho;have n_:=q_4 (Kd.R_after (ok:=(fun _=>True)) (by (with_reducible repeat (first|apply Kd.jP|apply Kd.jO|apply Kd.jZ));exact Kd.zB HO_19.out (fun _ hk=>⟨trivial,hk⟩)) hg hat) (vP (g:=gb563) (o:=.cells #[.slice (some ad570) l0_0.length c0_0] 25 (0,0)) (byaf BK563.out) hg (Kd.R_ne HO_6.out BK563.out (by decide))) (hb) (ho);clear HO_19 BK563 HB HO_6;obtain ⟨HO_19,BK563,HB,HO574⟩:=n_;clear ho hb hg hat))
              go_roundg k2
              case measure=>have:=HK1.out;have:=HK2.out;omega
              case rel=>exact ⟨(wrap64 (x5_2 - (ji23))),(y572),(true),(by first|rfl|(simp;done)|(simp only [← hji23]<;>(first|rfl|simp))|(simp [*];done)),byae,H',⟨byar⟩,⟨bybu HO574.out⟩,⟨byaf BK563.out⟩,⟨byad GE563.out⟩⟩
             ·rw [if_neg c24] at H
              exact absurd H (by simp)
           ·rw [if_neg c17] at H
            exact absurd H (by simp)
          ·rw [if_neg c16] at H
           exact absurd H (by simp)
         ·rw [if_neg c15] at H
          exact absurd H (by simp)
        ·rw [if_neg c14] at H
         exact absurd H (by simp)
       ·rw [if_neg c13] at H
        have c13b0:=decide_eq_false c13
        clear c13
        have H':=qA.mk H
        clear H
        go_wp2
        go_roundg k2
        case measure=>have:=HK1.out;have:=HK2.out;omega
        case rel=>exact ⟨(x5_2),(x6_2),(x7_2),byae,byae,H',⟨byar⟩,⟨bybu HO_6.out⟩,⟨byaf BK563.out⟩,⟨byad GE563.out⟩⟩
    ·replace c9:=Bool.eq_false_iff.mpr c9
     subst c9
     rw [if_neg (show ¬ (false = true) by decide)] at H
     obtain rfl:=Option.some.inj H
     go_wp2
     go_ret
     exact ⟨_,byac,byav HO_6.out,byad GE563.out⟩
 ·replace c4:=Bool.eq_false_iff.mpr c4
  subst c4
  rw [if_neg (show ¬ (false = true) by decide)] at H
  obtain rfl:=Option.some.inj H
  go_enter Try.func79,Try.ntmps79
  go_wp2_with (first|((with_reducible refine qP (N:=2) rfl ?_);refine zV (N:=2) (cs:=#[.slice A0_0 l0_0.length c0_0]) (t:=25) ?_;intro gb563 hg w28 hbox hb;have n_:=q_4 (qC byab hb) (hbox) ((byck : w.heap.size ≤ gb563)) ((byck : w.heap.size ≤ gb563));clear HB;obtain ⟨HB,BK563,GW563,GE563⟩:=n_;clear hb hbox hg)|((with_reducible refine qI (f:=43) rfl ?_);refine qY (some 11) rfl rfl Try.func43 (by kernel_rfl) rfl #[.int .i64 a1] rfl byah ?_;(with_reducible refine (zX.calls a1 false _ A3.out).mono ?_);rintro e w' ⟨rfl,⟨nd,rfl⟩⟩;refine ⟨_,rfl,?_⟩))
  go_ret
  exact ⟨_,byac,byau,byad GE563.out⟩
def jC.l0 : Nat→Int→List Int→Int→Int→Option (Int)
 | 0,_,_,_,_=>none
 | k + 1,x5,x17,x18,x19=>if x19 < x18 then (if 0 ≤ x19 then (if x19 < (x17.length : Int) then (if 0 ≤ (rd x17 x19) then (jC.l0 k (wrap64 (x5 - (shl .i64 1 (rd x17 x19)))) x17 x18 (wrap64 (x19 + 1))) else (none)) else (none)) else (none)) else (some x5)
def jC.f (k : Nat) (l0_0 : List (S58)) (a1 : Int) : Option (Int):=(zX.f a1).bind fun t576=>(if t576 = true then ((zU.f k l0_0).bind fun t577=>((zF.f k l0_0 a1).bind fun t578=>(jC.l0 k (Go.bits .and .i64 a1 t577) t578 (t578.length : Int) 0))) else (some 0))
set_option maxHeartbeats 8000000 in
set_option maxRecDepth 100000 in
theorem jC.calls (k : Nat) (A0_0 : Option Addr) (c0_0 : Nat) (l0_0 : List (S58)) (a1 : Int) (r : Int) (w : World) (hr0_0 : Kd.C k58 w A0_0 l0_0.length l0_0) (hc0_0 : l0_0.length ≤ c0_0) (h : jC.f k l0_0 a1 = some r) :
  Calls Try.prog 58 #[.agg #[.slice A0_0 l0_0.length c0_0],.int .i64 a1] w fun e w'=>e = .returned (.int .i64 r)∧Below w.heap.size w w':=by
 have hu25:=Try.underlying25
 have HR0_0:=qA.mk hr0_0
 have HC0_0:=qA.mk hc0_0
 clear hr0_0 hc0_0
 have HB:=qA.mk (Below.refl w.heap.size w)
 unfold jC.f at h
 have H:=h
 clear h
 replace H:=Option.bind_eq_some_iff.mp H
 obtain ⟨t576,A30,H⟩:=H
 try dsimp only at H
 have A3:=qA.mk A30
 clear A30
 by_cases c4 : t576 = true
 ·subst c4
  rw [if_pos rfl] at H
  replace H:=Option.bind_eq_some_iff.mp H
  obtain ⟨t577,A50,H⟩:=H
  try dsimp only at H
  have A5:=qA.mk A50
  clear A50
  replace H:=Option.bind_eq_some_iff.mp H
  obtain ⟨t578,A60,H⟩:=H
  try dsimp only at H
  have A6:=qA.mk A60
  clear A60
  have H':=qA.mk H
  clear H
  go_enter Try.func58,Try.ntmps58
  go_wp2_with (first|((with_reducible refine qP (N:=2) rfl ?_);refine zV (N:=2) (cs:=#[.slice A0_0 l0_0.length c0_0]) (t:=25) ?_;intro gb575 hg w7 hbox hb;have n_:=q_4 (qC byab hb) (hbox) ((byck : w.heap.size ≤ gb575)) ((byck : w.heap.size ≤ gb575));clear HB;obtain ⟨HB,BK575,GW575,GE575⟩:=n_;clear hb hbox hg)|((with_reducible refine qI (f:=43) rfl ?_);refine qY (some 9) rfl rfl Try.func43 (by kernel_rfl) rfl #[.int .i64 a1] rfl byah ?_;(with_reducible refine (zX.calls a1 true _ A3.out).mono ?_);rintro e w' ⟨rfl,⟨nd,rfl⟩⟩;refine ⟨_,rfl,?_⟩;obtain ⟨hcz8_0,hfz8_0⟩:=cz1 BK575.out)|((with_reducible refine qI (f:=44) rfl ?_);refine qY (some 13) rfl rfl Try.func44 (by kernel_rfl) rfl #[.agg #[.slice A0_0 l0_0.length c0_0]] rfl byah ?_;(with_reducible refine (zU.calls k _ _ l0_0 t577 _ ?side1 ?side2 A5.out).mono ?_);(case side1=>exact bycm HR0_0.out GE575.out);(case side2=>exact HC0_0.out);rintro e w9 ⟨rfl,hb⟩;refine ⟨_,rfl,?_⟩;have n_:=q_2 (qH BK575.out hb) (qC (byad GE575.out) hb);clear BK575 HB;obtain ⟨BK575,HB⟩:=n_;clear hb;obtain ⟨hcz10_0,hfz10_0⟩:=cz1 BK575.out)|((with_reducible refine qI (f:=79) rfl ?_);refine qY (some 17) rfl rfl Try.func79 (by kernel_rfl) rfl #[.agg #[.slice A0_0 l0_0.length c0_0],.int .i64 a1] rfl byah ?_;(with_reducible refine (zF.calls k _ _ l0_0 a1 t578 _ ?side1 ?side2 A6.out).mono ?_);(case side1=>exact byaq HR0_0.out);(case side2=>exact HC0_0.out);rintro e w11 ⟨v579,rfl,ho0,hb⟩;refine ⟨_,rfl,?_⟩;have n_:=q_3 (Kd.uZ ho0 (jX (byad GE575.out))) (qH BK575.out hb) (qC (byad GE575.out) hb);clear BK575 HB;obtain ⟨HO580,BK575,HB⟩:=n_;clear hb;(try clear ho0);obtain ⟨Ao12,co12,eo12⟩:=Kd.vJ HO580.out;subst eo12))
  go_loopg [5,19] k (fun kq v5 v19 w'=>∃ (x5_1 : Int) (x19_1 : Int),v5 = .int .i64 x5_1∧v19 = .int .i64 x19_1∧qA (jC.l0 kq x5_1 t578 (t578.length : Int) x19_1 = some r)∧qA (kq ≤ k)∧qA (Kd.R (Kd.int .i64) 3 w' w.heap.size (fun _=>True) (.slice Ao12 t578.length co12) t578)∧qA (w'.heap[gb575]? = some (.cells #[(.slice A0_0 l0_0.length c0_0)] 25 (0,0)))∧qA (Below w.heap.size w w'))
  case atStart=>exact ⟨(Go.bits .and .i64 a1 t577),(0),byae,byae,H',⟨Nat.le_refl _⟩,⟨byav HO580.out⟩,⟨byaf BK575.out⟩,⟨byad GE575.out⟩⟩
  case round =>
   clear H'
   obtain ⟨x5_1,x19_1,rfl,rfl,HA,HK1,HO_17,BK575,HB⟩:=hrel
   cases gk with
   | zero=>exact absurd HA.out (by simp [jC.l0])
   | succ k1 =>
    have H:=HA.out
    clear HA
    simp only [jC.l0] at H
    by_cases c13 : x19_1 < (t578.length : Int)
    ·rw [if_pos c13] at H
     have c13b0:=decide_eq_true c13
     clear c13
     by_cases c14 : 0 ≤ x19_1
     ·rw [if_pos c14] at H
      have c14b0:=decide_eq_true c14
      clear c14
      by_cases c15 : x19_1 < (t578.length : Int)
      ·rw [if_pos c15] at H
       have c15b0:=decide_eq_true c15
       clear c15
       by_cases c16 : 0 ≤ (rd t578 x19_1)
       ·rw [if_pos c16] at H
        have c16b0:=eq_true c16
        have c16b1:=decide_eq_true c16
        clear c16
        obtain ⟨ji17,hji17⟩ : ∃ j_ : Int,(shl .i64 1 (rd t578 x19_1)) = j_:=⟨_,rfl⟩
        (first|rw [hji17] at H|(simp only [hji17] at H))
        obtain ⟨hji17_,hji17z,hji17u,hji17v,hji17y,hji17x⟩:=jiA hji17
        have H':=qA.mk H
        clear H
        have p581 : 0 ≤ (x19_1 : Int):=of_decide_eq_true byag
        have q581 : x19_1 < (t578.length : Int):=of_decide_eq_true byag
        obtain ⟨ad581,e581,hx581_0⟩:=Kd.kW (Kd.uM HO_17.out).2.2 x19_1 p581 q581
        cases e581
        replace p581:=eq_true p581
        replace q581:=eq_true q581
        go_wp2
        go_roundg k1
        case measure=>have:=HK1.out;omega
        case rel=>exact ⟨(wrap64 (x5_1 - (ji17))),(wrap64 (x19_1 + 1)),(by first|rfl|(simp;done)|(simp only [← hji17]<;>(first|rfl|simp))|(simp [*];done)),byae,H',⟨byai⟩,⟨byav HO_17.out⟩,⟨byaf BK575.out⟩,⟨byad GE575.out⟩⟩
       ·rw [if_neg c16] at H
        exact absurd H (by simp)
      ·rw [if_neg c15] at H
       exact absurd H (by simp)
     ·rw [if_neg c14] at H
      exact absurd H (by simp)
    ·rw [if_neg c13] at H
     have c13b0:=decide_eq_false c13
     clear c13
     obtain rfl:=Option.some.inj H
     go_wp2
     go_ret
     exact ⟨byac,byad GE575.out⟩
 ·replace c4:=Bool.eq_false_iff.mpr c4
  subst c4
  rw [if_neg (show ¬ (false = true) by decide)] at H
  obtain rfl:=Option.some.inj H
  go_enter Try.func58,Try.ntmps58
  go_wp2_with (first|((with_reducible refine qP (N:=2) rfl ?_);refine zV (N:=2) (cs:=#[.slice A0_0 l0_0.length c0_0]) (t:=25) ?_;intro gb575 hg w18 hbox hb;have n_:=q_4 (qC byab hb) (hbox) ((byck : w.heap.size ≤ gb575)) ((byck : w.heap.size ≤ gb575));clear HB;obtain ⟨HB,BK575,GW575,GE575⟩:=n_;clear hb hbox hg)|((with_reducible refine qI (f:=43) rfl ?_);refine qY (some 9) rfl rfl Try.func43 (by kernel_rfl) rfl #[.int .i64 a1] rfl byah ?_;(with_reducible refine (zX.calls a1 false _ A3.out).mono ?_);rintro e w' ⟨rfl,⟨nd,rfl⟩⟩;refine ⟨_,rfl,?_⟩))
  go_ret
  exact ⟨byac,byad GE575.out⟩
end Go.Proofs.Ytkkbdimegpdbgaa.P
