/- Functions of the program as Lean functions, and the walks that show that the calls answer so; written by a program of this session (a changed print) and by hand. -/
import Derived.Test.YtoofabolcbbjnaaQaPx0
import Derived.Test.YtoofabolcbbjnaaQaPx3
namespace Go.Proofs.Ytoofabolcbbjnaa.P
open Go.RowKit Go.Proofs.YtoofabolcbbjnaaW.PrintWords Go.Proofs.YtoofabolcbbjnaaW.PrintLast Go.Proofs.YtoofabolcbbjnaaW.PrintMore
attribute [local go_sem] kR kP Qa Qc kE kD kQ kN
set_option linter.unusedVariables false
set_option linter.unusedSimpArgs false
mutual
def qQ.l0 : Nat→Int→Int→List Int→Int→Int→List Int→Int→Int→List Int→Option (Int × List Int × (List (S49)) × Int)
 | 0,_,_,_,_,_,_,_,_,_=>none
 | k + 1,x1,x2,x20,x21,x22,x1000,x1001,x217000,x217001=>if x22 < x21 then (if 0 ≤ x22 then (if x22 < (x20.length : Int) then (if x217001.length < 17592186044416 then (qQ.l0 k x1 x2 x20 x21 (wrap64 (x22 + 1)) x1000 x1001 x217000 (x217001 ++ [rd x20 x22])) else (none)) else (none)) else (none)) else (if x2 > 1 then ((qZ.f x1000 x1001 (([0,0,1,1,2,3] : List Int))).bind fun bt233=>(qQ.l1 k x1 x2 bt233.1 x1000 bt233.2 x217000 x217001 ([] : List (S49)))) else ((zK.f x1000 x1001 1 (wrap64 ((x217001.length : Int) + (([] : List (S49)).length : Int)))).bind fun bt254=>(some (bt254.1,x217001,([] : List (S49)),bt254.2))))
def qQ.l1 : Nat→Int→Int→Int→List Int→Int→Int→List Int→List (S49)→Option (Int × List Int × (List (S49)) × Int)
 | 0,_,_,_,_,_,_,_,_=>none
 | k + 1,x1,x2,x11,x1000,x1001,x217000,x217001,x217002=>if x11 > 0 then ((qQ.f k x1000 x1001 x1 (wrap64 (x2 - 1))).bind fun bt235=>(if x217002.length < 2513169434916 then (qQ.l1 k x1 x2 (wrap64 (x11 - 1)) x1000 bt235.2.2.2 x217000 x217001 (x217002 ++ [(⟨bt235.1,bt235.2.1,bt235.2.2.1⟩ : S49)])) else (none))) else (if (x217002.length : Int) > 0 then ((qK.f x1000 x1001 3).bind fun bt246=>(if bt246.1 = 0 then ((zK.f x1000 bt246.2 1 (wrap64 ((([] : List Int).length : Int) + (x217002.length : Int)))).bind fun bt248=>(some (bt248.1,([] : List Int),x217002,bt248.2))) else ((zK.f x1000 bt246.2 1 (wrap64 ((x217001.length : Int) + (x217002.length : Int)))).bind fun bt250=>(some (bt250.1,x217001,x217002,bt250.2))))) else ((zK.f x1000 x1001 1 (wrap64 ((x217001.length : Int) + (x217002.length : Int)))).bind fun bt252=>(some (bt252.1,x217001,x217002,bt252.2))))
def qQ.f : Nat→List Int→Int→Int→Int→Option (Int × List Int × (List (S49)) × Int)
 | 0,_,_,_,_=>none
 | k + 1,s0_0,s0_1,a1,a2=>(qN.f k s0_0 s0_1 a1).bind fun bt217=>((zK.f s0_0 bt217.2 1 (mn a1 5)).bind fun bt221=>(if 0 ≤ bt221.1 then (if bt221.1 ≤ (bt217.1.length : Int) then ((some (bt217.1.take (bt221.1 : Int).toNat : List Int)).bind fun y223=>(qQ.l0 k a1 a2 y223 (y223.length : Int) 0 s0_0 bt221.2 0 ([] : List Int))) else (none)) else (none)))
end
def qQ.T12 : Bool × List (List Nat × List Nat):=(true,[([],[]),([0],[0]),([],[]),([],[]),([],[]),([4],[4]),([2,3,5],[2,3,5]),([6],[6]),([1,7,6],[1,7]),([0,1,2,3,4,5,6,7,8],[]),([9,8,8,0,1,2,3,4,5,6,7,8],[8,9])])
def qQ.B12 : List Nat:=[0,1,0,0,0,16,60,124,255,511,1023]
theorem qQ.tab12 : rtab .any (opsOf Try.f45 12) = qQ.T12:=by kernel_rfl
theorem qQ.bits12 : Qy qQ.T12.2 qQ.B12 = true:=by kernel_rfl
set_option maxHeartbeats 8000000 in
set_option maxRecDepth 100000 in
theorem qQ.calls (k : Nat) : ∀ (g : Nat) (s0_0 : List Int) (s0_1 : Int) (a1 : Int) (a2 : Int) (r1 : Int) (r2 : List Int) (r3 : List (S49)) (r4 : Int) (w0 w : World) (hI : qB w0 w g s0_0 s0_1) (hB : Below w0.heap.size w0 w) (h : qQ.f k s0_0 s0_1 a1 a2 = some (r1,r2,r3,r4)),
  Calls Try.prog 45 #[.pointer (some ⟨g,0,none⟩),.int .i64 a1,.int .i64 a2] w fun e w'=>∃ v1_ v2_ : Value,e = .returned (.agg #[.int .i64 r1,v1_,v2_])∧Kd.R (Kd.int .i64) 3 w' w.heap.size (fun _=>True) v1_ r2∧Kd.R k49 49 w' w.heap.size (fun k_=>some k_≠(v1_ : Value).ownBlock) v2_ r3∧qB w0 w' g s0_0 r4∧Below w0.heap.size w0 w'∧qC w w' g none:=by
 induction k using Nat.strongRecOn with
 | _ k ih =>
 intro g s0_0 s0_1 a1 a2 r1 r2 r3 r4 w0 w hI hB h
 cases k with
 | zero=>exact absurd h (by simp [qQ.f])
 | succ k =>
 simp only [qQ.f] at h
 have hu49:=Try.underlying49
 have HI0:=qA.mk hI
 have HK:=qA.mk (qC.refl w g none)
 have HL:=qA.mk hB.size
 clear hI
 have HW0:=qA.mk hB.size
 have HB:=qA.mk hB
 clear hB
 have H:=h
 clear h
 replace H:=Option.bind_eq_some_iff.mp H
 obtain ⟨⟨t217,t220⟩,A40,H⟩:=H
 try dsimp only at H
 have A4:=qA.mk A40
 clear A40
 obtain ⟨ji5,hji5⟩ : ∃ j_ : Int,(mn a1 5) = j_:=⟨_,rfl⟩
 (first|rw [hji5] at H|(simp only [hji5] at H))
 (try rw [hji5] at A4)
 (try (have hji5h : ji5 ≤ 5:=by (rw [← hji5];unfold mn;(repeat' split)<;>omega)))
 (try (have hji5g : ji5 ≤ 64:=by omega))
 have hji5_ : (if 5 < a1 then 5 else a1) = ji5:=hji5
 replace H:=Option.bind_eq_some_iff.mp H
 obtain ⟨⟨t221,t222⟩,A60,H⟩:=H
 try dsimp only at H
 have A6:=qA.mk A60
 clear A60
 by_cases c7 : 0 ≤ t221
 ·rw [if_pos c7] at H
  have c7b0:=eq_true c7
  have c7b1:=decide_eq_true c7
  clear c7
  by_cases c8 : t221 ≤ (t217.length : Int)
  ·rw [if_pos c8] at H
   have c8b0:=eq_true c8
   have c8b1:=decide_eq_true c8
   clear c8
   obtain ⟨y223,hy223⟩ : ∃ y_ : List Int,y_ = (t217.take (t221 : Int).toNat):=⟨_,rfl⟩
   replace H : (qQ.l0 k a1 a2 y223 (y223.length : Int) 0 s0_0 t222 0 ([] : List Int)) = some (r1,r2,r3,r4):=by first|(rw [hy223];with_reducible exact H)|(have H2_:=(Option.bind_some _ _).symm.trans H;rw [hy223];with_reducible exact H2_)|(have H2_:=(Option.bind_some _ _).symm.trans H;with_reducible exact H2_)|with_reducible exact H|(rw [hy223];exact H)|exact H
   have Ny223:=qA.mk hy223
   clear hy223
   have H':=qA.mk H
   clear H
   go_enter Try.func45,Try.ntmps45
   go_wp2_with (first|((with_reducible refine qX (N:=6) rfl ?_);refine zD ?hg (N:=6) ?hd (cs:=#[.int .i64 0,.slice none 0 0,.slice none 0 0]) (t:=49) ?hr ?_;(case hd=>rfl);(case hg=>rfl);(case hr=>exact byad);intro gb215 hg w9 hbox hb;have n_:=q_7 (qB.below (byaz HI0.out) hb) (qC.trans bybb (qC.of_below hb g none) (.inl rfl)) (qE (byba HI0.out) hb) (hbox) ((byco : w.heap.size ≤ gb215)) ((Nat.le_trans HW0.out (byco : w.heap.size ≤ gb215) : w0.heap.size ≤ gb215)) ((by rw [hg];exact Nat.ne_of_lt (qB.lt (show qB w0 _ g s0_0 s0_1 from by repeat (first|(with_reducible first|exact HI0.out|apply qB.alloc|apply qB.drewN|apply qB.drew|apply qB.jO)|exact HI0.out))) : g≠gb215));clear HI0 HK HB;obtain ⟨HI0,HK,HB,BK215,GW215,GE215,NB0_215⟩:=n_;have NB215_0:=ns NB0_215;clear hb hbox hg)|((with_reducible refine qX (N:=7) rfl ?_);refine zD ?hg (N:=7) ?hd (cs:=#[.int .i64 0,.slice none 0 0,.slice none 0 0]) (t:=49) ?hr ?_;(case hd=>rfl);(case hg=>rfl);(case hr=>exact byad);intro gb216 hg w10 hbox hb;have n_:=q_9 (qB.below (bybc HI0.out NB0_215.out) hb) (qI BK215.out hb) (qC.trans (bybd GW215.out) (qC.of_below hb g none) (.inl rfl)) (qE (bybe HI0.out GE215.out) hb) (hbox) ((bycp GW215.out : w.heap.size ≤ gb216)) ((Nat.le_trans HW0.out (bycp GW215.out : w.heap.size ≤ gb216) : w0.heap.size ≤ gb216)) ((by rw [hg];exact Nat.ne_of_lt (vH BK215.out) : gb215≠gb216)) ((by rw [hg];exact Nat.ne_of_lt (qB.lt (show qB w0 _ g s0_0 s0_1 from by repeat (first|(with_reducible first|exact HI0.out|apply qB.alloc|apply qB.drewN|apply qB.drew|apply qB.jO|refine qB.far ?_ NB0_215.out _)|exact HI0.out))) : g≠gb216));clear HI0 BK215 HK HB;obtain ⟨HI0,BK215,HK,HB,BK216,GW216,GE216,NB215_216,NB0_216⟩:=n_;have NB216_215:=ns NB215_216;have NB216_0:=ns NB0_216;clear hb hbox hg)|((with_reducible refine qF (f:=21) rfl ?_);refine zC (some 14) rfl rfl Try.func21 (by kernel_rfl) rfl #[.pointer (some ⟨g,0,none⟩),.int .i64 a1] rfl byac ?_;(with_reducible refine (qN.calls k g s0_0 s0_1 a1 t217 t220 w0 _ ?side1 ?side2 A4.out).mono ?_);(case side1=>exact bybf HI0.out NB0_215.out NB0_216.out);(case side2=>exact bybg HI0.out GE215.out GE216.out);rintro e w11 ⟨v218,rfl,ho0,hi,hb,hk⟩;refine ⟨_,rfl,?_⟩;have n_:=q_6 (qC.blkB hk BK215.out NB215_0.out (by simp)) (qC.blkB hk BK216.out NB216_0.out (by simp)) (Kd.vG ho0 (qY (w:=w) (g:=g) (row:=none) (bybh GW215.out GW216.out))) (qC.trans (bybh GW215.out GW216.out) hk (.inl rfl)) (hb) (hi);clear BK215 BK216 HK HB HI0;obtain ⟨BK215,BK216,HO219,HK,HB,HI0⟩:=n_;clear hb hk hi;(try clear ho0))|((with_reducible refine qF (f:=30) rfl ?_);refine zC (some 19) rfl rfl Try.func30 (by kernel_rfl) rfl #[.pointer (some ⟨g,0,none⟩),.int .i64 1,.int .i64 ji5] rfl (by (try simp only [List.map_toArray,List.map_cons,List.map_nil]);first|done|(simp only [hji5];rfl)|rfl|(simp only [List.length_drop,List.length_take];rfl)) ?_;(with_reducible refine (zK.calls g s0_0 t220 1 ji5 t221 t222 w0 _ ?side1 ?side2 A6.out).mono ?_);(case side1=>exact bybf HI0.out NB0_215.out NB0_216.out);(case side2=>exact bybg HI0.out GE215.out GE216.out);rintro e w12 ⟨rfl,hi,hb,hk⟩;refine ⟨_,rfl,?_⟩;have n_:=q_6 (qC.blkB hk BK215.out NB215_0.out (by simp)) (qC.blkB hk BK216.out NB216_0.out (by simp)) (Kd.qV (Kd.vK (qB.apart (show qB w0 _ g s0_0 t220 from by repeat (first|(with_reducible first|exact HI0.out|apply qB.alloc|apply qB.drewN|apply qB.drew|apply qB.jO|refine qB.far ?_ NB0_215.out _|refine qB.far ?_ NB0_216.out _)|exact HI0.out)) (byas HO219.out) (by decide)) hk (fun _ h=>h.2)) (fun _ h=>h.1)) (qC.trans (bybh GW215.out GW216.out) hk (.inl rfl)) (hb) (hi);clear BK215 BK216 HO219 HK HB HI0;obtain ⟨BK215,BK216,HO219,HK,HB,HI0⟩:=n_;clear hb hk hi;obtain ⟨Ao13,co13,eo13⟩:=Kd.jI HO219.out;subst eo13;have q14 : (t221 : Int) ≤ ((t217.length : Int) : Int):=of_decide_eq_true byah;obtain ⟨i014,hi014,_,hsz14,_⟩:=info_parts info3;have hcut14:=cut_to (P:=Try.prog) 22 3 .i64 Try.underlying22 hi014 Ao13 t217.length co13 t221 (of_decide_eq_true byah) q14 (Kd.vS HO219.out).2.1;have hr14:=Kd.R_take (m:=(t221 : Int).toNat) HO219.out (by omega);have hy14 : y223.length = (t221 : Int).toNat:=(by rw [Ny223.out,List.length_take];omega);rw [← Ny223.out] at hr14;rw [← hy14] at hr14 hcut14;clear hy14 hi014 hsz14 HO219;have HO225:=qA.mk hr14;clear hr14;replace q14:=eq_true q14))
   go_loopg [22] k (fun kq v22 w'=>∃ (x22_1 : Int) (x217001_1 : List Int) (u217001 : Value),v22 = .int .i64 x22_1∧qA (qQ.l0 kq a1 a2 y223 (y223.length : Int) x22_1 s0_0 t222 0 x217001_1 = some (r1,r2,r3,r4))∧qA (kq ≤ k)∧qA (Kd.R (Kd.int .i64) 3 w' w.heap.size (fun k_=>some k_≠(u217001 : Value).ownBlock) (.slice Ao13 y223.length co13) y223)∧qA (Kd.R (Kd.int .i64) 3 w' w.heap.size (fun k_=>some k_≠((.slice Ao13 y223.length co13) : Value).ownBlock) u217001 x217001_1)∧qA (w'.heap[gb215]? = some (.cells #[.int .i64 0,(.slice none 0 0),(.slice none 0 0)] 49 (0,0)))∧qA (w'.heap[gb216]? = some (.cells #[.int .i64 0,u217001,(.slice none 0 0)] 49 (0,0)))∧qA (qB w0 w' g s0_0 t222)∧qA (qC w w' g none)∧qA (Below w0.heap.size w0 w'))
   case atStart=>exact ⟨(0),(([] : List Int)),(.slice none 0 0),byab,H',⟨Nat.le_refl _⟩,⟨by (with_reducible repeat (first|apply Kd.jF|apply Kd.jG|apply Kd.jM));exact Kd.qV HO225.out (fun _ hk=>(by simp [Value.ownBlock]))⟩,⟨byar⟩,⟨byaf BK215.out⟩,⟨byaf BK216.out⟩,⟨bybf HI0.out NB0_215.out NB0_216.out⟩,⟨bybh GW215.out GW216.out⟩,⟨bybg HI0.out GE215.out GE216.out⟩⟩
   case round =>
    clear H'
    obtain ⟨x22_1,x217001_1,u217001,rfl,HA,HK1,HO_20,HO_217001,BK215,BK216,HI0,HK,HB⟩:=hrel
    cases gk with
    | zero=>exact absurd HA.out (by simp [qQ.l0])
    | succ k1 =>
     have H:=HA.out
     clear HA
     simp only [qQ.l0] at H
     by_cases c15 : x22_1 < (y223.length : Int)
     ·rw [if_pos c15] at H
      have c15b0:=decide_eq_true c15
      clear c15
      by_cases c16 : 0 ≤ x22_1
      ·rw [if_pos c16] at H
       have c16b0:=decide_eq_true c16
       clear c16
       by_cases c17 : x22_1 < (y223.length : Int)
       ·rw [if_pos c17] at H
        have c17b0:=decide_eq_true c17
        clear c17
        by_cases c18 : x217001_1.length < 17592186044416
        ·rw [if_pos c18] at H
         have LMc18:=qA.mk c18
         clear c18
         obtain ⟨y227,hy227⟩ : ∃ y_ : List Int,y_ = (x217001_1 ++ [rd y223 x22_1]):=⟨_,rfl⟩
         replace H : (qQ.l0 k1 a1 a2 y223 (y223.length : Int) (wrap64 (x22_1 + 1)) s0_0 t222 0 y227) = some (r1,r2,r3,r4):=by first|(rw [hy227];with_reducible exact H)|(have H2_:=(Option.bind_some _ _).symm.trans H;rw [hy227];with_reducible exact H2_)|(have H2_:=(Option.bind_some _ _).symm.trans H;with_reducible exact H2_)|with_reducible exact H|(rw [hy227];exact H)|exact H
         have Ny227:=qA.mk hy227
         clear hy227
         have H':=qA.mk H
         clear H
         have p226 : 0 ≤ (x22_1 : Int):=of_decide_eq_true byah
         have q226 : x22_1 < (y223.length : Int):=of_decide_eq_true byah
         obtain ⟨ad226,e226,hx226_0⟩:=Kd.uV (Kd.vS HO_20.out).2.2 x22_1 p226 q226
         cases e226
         replace p226:=eq_true p226
         replace q226:=eq_true q226
         have hnb19:=NB216_215.out
         have hnc19:=NB215_216.out
         have hnb20:=NB216_0.out
         have hnc20:=NB0_216.out
         obtain ⟨hcz21_0,hcz21_1,hcz21_2,hfz21_0,hfz21_1,hfz21_2⟩:=cz3 BK216.out
         go_wp2_with (first|((with_reducible refine jU (b:=.append) (xs:=#[.tmp 27,.tmp 29]) rfl ?_);at_builtin;refine Kd.kF (Kd.int .i64) w.heap.size rfl (.tmp 27) (.tmp 29) 22 3 (.int .i64 0) 8 rfl Try.underlying22 info3 rfl (by decide) (by omega) u217001 x217001_1 (rd y223 x22_1) [.int .i64 (rd y223 x22_1)] (fun k_=>some k_≠(.slice (some ad226) y223.length co13 : Value).ownBlock) (fun _=>False) rfl rfl ?aP (fun _ hk=>hk.elim) ?aF ?aO (Below.refl _ _) ?aS ?aL ?_;(case aP=>exact rfl);(case aF=>exact (fun k_ hk=>Kd.fresh' (Kd.R_lt (byas HO_20.out)) k_ hk));(case aO=>exact (byas HO_217001.out));(case aS=>exact (qY (w:=w) (g:=g) (row:=none) (bybh GW215.out GW216.out)));(case aL=>have:=LMc18.out;omega);intro v228 w22 ho hb hg hat;rw [← Ny227.out] at ho;have n_:=q_7 (Kd.Qq (ok:=(fun _=>True)) (by (with_reducible repeat (first|apply Kd.jF|apply Kd.jG|apply Kd.jM));exact Kd.qV HO_20.out (fun _ hk=>⟨trivial,hk⟩)) hg hat) (zS (g:=gb215) (o:=.cells #[.int .i64 0,.slice none 0 0,.slice none 0 0] 49 (0,0)) (byaf BK215.out) hg (Kd.R_ne HO_217001.out BK215.out (by decide))) (zS (g:=gb216) (o:=.cells #[.int .i64 0,u217001,.slice none 0 0] 49 (0,0)) (byaf BK216.out) hg (Kd.R_ne HO_217001.out BK216.out (by decide))) (qB.grown (bybf HI0.out NB0_215.out NB0_216.out) hg (qB.own_ne HI0.out HO_217001.out (by decide))) (vJ (bybg HI0.out GE215.out GE216.out) HL.out hb) (qC.trans (bybh GW215.out GW216.out) (qC.vX hg g) (Kd.Qg HO_217001.out)) (ho);clear HO_20 BK215 BK216 HI0 HB HK HO_217001;obtain ⟨HO_20,BK215,BK216,HI0,HB,HK,HO229⟩:=n_;clear ho hb hg hat;obtain ⟨Ao23,co23,eo23⟩:=Kd.jI HO229.out;subst eo23;obtain ⟨hcz24_0,hcz24_1,hcz24_2,hfz24_0,hfz24_1,hfz24_2⟩:=cz3 BK216.out))
         go_roundg k1
         case measure=>have:=HK1.out;omega
         case rel=>exact ⟨(wrap64 (x22_1 + 1)),(y227),(.slice Ao23 y227.length co23),byab,H',⟨byaj⟩,⟨by (with_reducible repeat (first|apply Kd.jF|apply Kd.jG|apply Kd.jM));exact Kd.qV (Kd.zT (p:=⟨gb216,1,none⟩) (Kd.zX HO_20.out BK216.out (by decide)) (fun _ hk=>hk.2) (.slice Ao23 y227.length co23)) (fun _ hk=>hk.1.2)⟩,⟨by (with_reducible repeat (first|apply Kd.jF|apply Kd.jG|apply Kd.jM));exact Kd.qV (Kd.zT (p:=⟨gb216,1,none⟩) (Kd.zX HO229.out BK216.out (by decide)) (fun _ hk=>hk.2) (.slice Ao23 y227.length co23)) (fun _ hk=>hk.1)⟩,⟨bybi NB215_216.out BK215.out⟩,⟨by (with_reducible repeat (first|refine qH ?_ _|refine qJ ?_|refine qG ?_ _));refine zG (cs:=#[.int .i64 0,u217001,.slice none 0 0]) ?_ 1 _ rfl;(with_reducible repeat (first|refine qH ?_ _|refine qJ ?_|refine qG ?_ _));exact BK216.out⟩,⟨bybf HI0.out NB0_215.out NB0_216.out⟩,⟨bybh GW215.out GW216.out⟩,⟨bybg HI0.out GE215.out GE216.out⟩⟩
        ·rw [if_neg c18] at H
         exact absurd H (by simp)
       ·rw [if_neg c17] at H
        exact absurd H (by simp)
      ·rw [if_neg c16] at H
       exact absurd H (by simp)
     ·rw [if_neg c15] at H
      have c15b0:=decide_eq_false c15
      clear c15
      by_cases c25 : a2 > 1
      ·rw [if_pos c25] at H
       have c25b0:=decide_eq_true c25
       clear c25
       obtain ⟨y230,hy230⟩ : ∃ y_ : List Int,y_ = (([0,0,1,1,2,3] : List Int)):=⟨_,rfl⟩
       replace H : ((qZ.f s0_0 t222 y230).bind fun bt233=>(qQ.l1 k1 a1 a2 bt233.1 s0_0 bt233.2 0 x217001_1 ([] : List (S49)))) = some (r1,r2,r3,r4):=by first|(rw [hy230];with_reducible exact H)|(have H2_:=(Option.bind_some _ _).symm.trans H;rw [hy230];with_reducible exact H2_)|(have H2_:=(Option.bind_some _ _).symm.trans H;with_reducible exact H2_)|with_reducible exact H|(rw [hy230];exact H)|exact H
       have Ny230:=qA.mk hy230
       clear hy230
       replace H:=Option.bind_eq_some_iff.mp H
       obtain ⟨⟨t233,t234⟩,A260,H⟩:=H
       try dsimp only at H
       have A26:=qA.mk A260
       clear A260
       have H':=qA.mk H
       clear H
       go_wp2_with (first|((with_reducible refine qX (N:=36) rfl ?_);refine Kd.Qk (Kd.int .i64) _ 3 ?hg (N:=36) ?hd (xs:=([0,0,1,1,2,3] : List Int)) (inner:=[.int .i64 0,.int .i64 0,.int .i64 1,.int .i64 1,.int .i64 2,.int .i64 3]) (ok:=fun _=>True) (okp:=fun _=>True) ?hr ?hp (fun _ hk=>hk) trivial (Below.refl _ _) (Nat.le_refl _) (by simp) ?_;(case hd=>rfl);(case hg=>rfl);(case hr=>exact byad);(case hp=>exact (Reps.one (show Kd.M (Kd.int .i64) _ _ _ 0 [.int .i64 0] from rfl) (Reps.one (show Kd.M (Kd.int .i64) _ _ _ 0 [.int .i64 0] from rfl) (Reps.one (show Kd.M (Kd.int .i64) _ _ _ 1 [.int .i64 1] from rfl) (Reps.one (show Kd.M (Kd.int .i64) _ _ _ 1 [.int .i64 1] from rfl) (Reps.one (show Kd.M (Kd.int .i64) _ _ _ 2 [.int .i64 2] from rfl) (Reps.one (show Kd.M (Kd.int .i64) _ _ _ 3 [.int .i64 3] from rfl) (Reps.none _ _))))))));intro v231 w27 ho28 hb hg_ hnew_;clear hg_ hnew_;(first|rw [← Ny230.out] at ho28|(simp only [Int.reduceToNat] at ho28;rw [← Ny230.out] at ho28));have n_:=q_8 (Kd.uH (byas HO_20.out) (Kd.zW ho28) hb) (Kd.uH (byas HO_217001.out) (Kd.zW ho28) hb) (Kd.vG (Kd.uY (Kd.uY ho28 (Kd.R_lt (byas HO_20.out))) (Kd.R_lt (byas HO_217001.out))) (qY (w:=w) (g:=g) (row:=none) (bybh GW215.out GW216.out))) (qI BK215.out hb) (qI BK216.out hb) (qB.below (bybf HI0.out NB0_215.out NB0_216.out) hb) (qC.trans (bybh GW215.out GW216.out) (qC.of_below hb g none) (.inl rfl)) (qE (bybg HI0.out GE215.out GE216.out) hb);clear HO_20 HO_217001 BK215 BK216 HI0 HK HB;obtain ⟨HO_20,HO_217001,HO232,BK215,BK216,HI0,HK,HB⟩:=n_;clear hb ho28;obtain ⟨Ao29,co29,eo29⟩:=Kd.jI HO232.out;subst eo29)|((with_reducible refine qF (f:=34) rfl ?_);refine zC (some 37) rfl rfl Try.func34 (by kernel_rfl) rfl #[.pointer (some ⟨g,0,none⟩),.slice Ao29 y230.length co29] rfl byac ?_;(with_reducible refine (qZ.calls g s0_0 t222 _ _ y230 t233 t234 w0 _ ?side1 ?side2 ?side3 ?side4 ?side5 A26.out).mono ?_);(case side1=>exact bybf HI0.out NB0_215.out NB0_216.out);(case side2=>exact bybg HI0.out GE215.out GE216.out);(case side3=>exact byax HO232.out);(case side4=>exact byay HO232.out);(case side5=>exact far_slice (qB.own_ne HI0.out HO232.out (by decide)));rintro e w30 ⟨rfl,hi,hb,hk⟩;refine ⟨_,rfl,?_⟩;have n_:=q_8 (Kd.qV (Kd.vK (qB.apart (show qB w0 _ g s0_0 t222 from by repeat (first|(with_reducible first|exact HI0.out|apply qB.alloc|apply qB.drewN|apply qB.drew|apply qB.jO|refine qB.far ?_ NB0_215.out _|refine qB.far ?_ NB0_216.out _)|exact HI0.out)) (byas HO_20.out) (by decide)) hk (fun _ h=>h.2)) (fun _ h=>h.1)) (Kd.qV (Kd.vK (qB.apart (show qB w0 _ g s0_0 t222 from by repeat (first|(with_reducible first|exact HI0.out|apply qB.alloc|apply qB.drewN|apply qB.drew|apply qB.jO|refine qB.far ?_ NB0_215.out _|refine qB.far ?_ NB0_216.out _)|exact HI0.out)) (byas HO_217001.out) (by decide)) hk (fun _ h=>h.2)) (fun _ h=>h.1)) (qC.blkB hk BK215.out NB215_0.out (by simp)) (qC.blkB hk BK216.out NB216_0.out (by simp)) (Kd.qV (Kd.vK (qB.apart (show qB w0 _ g s0_0 t222 from by repeat (first|(with_reducible first|exact HI0.out|apply qB.alloc|apply qB.drewN|apply qB.drew|apply qB.jO|refine qB.far ?_ NB0_215.out _|refine qB.far ?_ NB0_216.out _)|exact HI0.out)) (byas HO232.out) (by decide)) hk (fun _ h=>h.2)) (fun _ h=>h.1)) (qC.trans (bybh GW215.out GW216.out) hk (.inl rfl)) (hb) (hi);clear HO_20 HO_217001 BK215 BK216 HO232 HK HB HI0;obtain ⟨HO_20,HO_217001,BK215,BK216,HO232,HK,HB,HI0⟩:=n_;clear hb hk hi))
       go_loopg [11] k1 (fun kq v11 w'=>∃ (x11_2 : Int) (x1001_2 : Int) (x217002_2 : List (S49)) (u217002 : Value),v11 = .int .i64 x11_2∧qA (qQ.l1 kq a1 a2 x11_2 s0_0 x1001_2 0 x217001_1 x217002_2 = some (r1,r2,r3,r4))∧qA (kq ≤ k1)∧qA (Kd.R (Kd.int .i64) 3 w' w.heap.size (fun _=>True) u217001 x217001_1)∧qA (Kd.R k49 49 w' w.heap.size (fun k_=>some k_≠(u217001 : Value).ownBlock∧k_≠gb215∧k_≠gb216) u217002 x217002_2)∧qA (w'.heap[gb215]? = some (.cells #[.int .i64 0,(.slice none 0 0),(.slice none 0 0)] 49 (0,0)))∧qA (w'.heap[gb216]? = some (.cells #[.int .i64 0,u217001,u217002] 49 (0,0)))∧qA (qB w0 w' g s0_0 x1001_2)∧qA (qC w w' g none)∧qA (Below w0.heap.size w0 w'))
       case atStart=>exact ⟨(t233),(t234),(([] : List (S49))),(.slice none 0 0),byab,H',⟨Nat.le_refl _⟩,⟨bybj HO_217001.out⟩,⟨byar⟩,⟨byaf BK215.out⟩,⟨byaf BK216.out⟩,⟨bybf HI0.out NB0_215.out NB0_216.out⟩,⟨bybh GW215.out GW216.out⟩,⟨bybg HI0.out GE215.out GE216.out⟩⟩
       case round =>
        clear H'
        try clear hx2
        try clear hx22
        try clear hx226_0
        obtain ⟨x11_2,x1001_2,x217002_2,u217002,rfl,HA,HK2,HO_217001,HO_217002,BK215,BK216,HI0,HK,HB⟩:=hrel
        cases gk with
        | zero=>exact absurd HA.out (by simp [qQ.l1])
        | succ k2 =>
         have H:=HA.out
         clear HA
         simp only [qQ.l1] at H
         by_cases c31 : x11_2 > 0
         ·rw [if_pos c31] at H
          have c31b0:=decide_eq_true c31
          clear c31
          replace H:=Option.bind_eq_some_iff.mp H
          obtain ⟨⟨t235,t236,t239,t242⟩,A320,H⟩:=H
          try dsimp only at H
          have A32:=qA.mk A320
          clear A320
          by_cases c33 : x217002_2.length < 2513169434916
          ·rw [if_pos c33] at H
           have LMc33:=qA.mk c33
           clear c33
           obtain ⟨y243,hy243⟩ : ∃ y_ : List (S49),y_ = (x217002_2 ++ [(⟨t235,t236,t239⟩ : S49)]):=⟨_,rfl⟩
           replace H : (qQ.l1 k2 a1 a2 (wrap64 (x11_2 - 1)) s0_0 t242 0 x217001_1 y243) = some (r1,r2,r3,r4):=by first|(rw [hy243];with_reducible exact H)|(have H2_:=(Option.bind_some _ _).symm.trans H;rw [hy243];with_reducible exact H2_)|(have H2_:=(Option.bind_some _ _).symm.trans H;with_reducible exact H2_)|with_reducible exact H|(rw [hy243];exact H)|exact H
           have Ny243:=qA.mk hy243
           clear hy243
           have H':=qA.mk H
           clear H
           try go_wp2
           have n_:=q_7 (Kd.jM HO_217001.out) (Kd.jM HO_217002.out) (qJ BK215.out) (qJ BK216.out) (qB.drew HI0.out) (kC HK.out) (vU HB.out)
           clear HO_217001 HO_217002 BK215 BK216 HI0 HK HB
           obtain ⟨HO_217001,HO_217002,BK215,BK216,HI0,HK,HB⟩:=n_
           refine start_ (n:=11) (S:=fun w'=>w'.cell? ⟨gb216,0,none⟩ = some (.int .i64 0)∧w'.cell? ⟨gb216,1,none⟩ = some (u217001)∧w'.cell? ⟨gb216,2,none⟩ = some (u217002)) (ds:=[10]) (bb 11 0) (by kernel_rfl) rfl rfl (cv3 BK216.out) (fun hHeld=>?_);refine kX qQ.tab12 qQ.bits12 (fun HT_ HW_=>?_)
           generalize wr.drew = w34 at HO_217001 HO_217002 BK215 BK216 HI0 HK HB hHeld ⊢
           refine jK (i:=0) (N:=some 42) (bb 11 1) ?_
           refine jK (i:=2) (N:=some 44) (bb 11 5) ?_
           refine jK (i:=3) (N:=some 45) (bb 11 13) ?_
           refine jK (i:=4) (N:=some 46) (bb 11 29) ?_
           refine jK (i:=5) (N:=some 47) (bb 11 61) ?_
           refine takeZB (i:=1) (N:=some 43) (bb 11 63) hHeld ?_
           refine one_ (i:=6) (N:=some 48) (bb 11 127) rfl rfl (kJ HT_.out (by kernel_rfl)) (by decide) (fun K hK=>?_)
           refine goes_ Try.func45 (by kernel_rfl) rfl #[.pointer (some ⟨g,0,none⟩),.int .i64 a1,.int .i64 (wrap64 (a2 - 1))] (by rfl) rfl rfl byac ?_
           with_reducible refine (ih k2 byap g s0_0 x1001_2 a1 (wrap64 (a2 - 1)) t235 t236 t239 t242 w0 _ ?side1 ?side2 A32.out).mono ?_
           (case side1=>exact bybf HI0.out NB0_215.out NB0_216.out)
           (case side2=>exact bybg HI0.out GE215.out GE216.out)
           rintro e w35 ⟨v237,v240,rfl,ho0,ho1,hi,hb,hk⟩
           refine ⟨_,rfl,?_⟩
           have n_:=q_9 (Kd.qV (Kd.Qi (Kd.R_oldK (qB.apart (show qB w0 _ g s0_0 x1001_2 from by repeat (first|(with_reducible first|exact HI0.out|apply qB.alloc|apply qB.drewN|apply qB.drew|apply qB.jO|refine qB.far ?_ NB0_215.out _|refine qB.far ?_ NB0_216.out _)|exact HI0.out)) (byas HO_217001.out) (by decide)) hk) (Kd.zW ho0)) (fun _ h_=>h_.1)) (Kd.qV (Kd.Qi (Kd.Qi (Kd.R_oldK (qB.apart (show qB w0 _ g s0_0 x1001_2 from by repeat (first|(with_reducible first|exact HI0.out|apply qB.alloc|apply qB.drewN|apply qB.drew|apply qB.jO|refine qB.far ?_ NB0_215.out _|refine qB.far ?_ NB0_216.out _)|exact HI0.out)) (byas HO_217002.out) (by decide)) hk) (Kd.zW ho0)) (Kd.zW ho1)) (fun _ h_=>h_.1)) (qC.blkB hk BK215.out NB215_0.out (by simp)) (qC.blkB hk BK216.out NB216_0.out (by simp)) (Kd.vG (Kd.uY ho0 (Kd.R_lt (byas HO_217001.out))) (qY (w:=w) (g:=g) (row:=none) (bybh GW215.out GW216.out))) (Kd.vG (Kd.R_newB (Kd.R_newB (Kd.uY (Kd.uY ho1 (Kd.R_lt (byas HO_217001.out))) (Kd.R_lt (byas HO_217002.out))) (g:=gb215) (o:=.cells #[.int .i64 0,.slice none 0 0,.slice none 0 0] 49 (0,0)) (byaf BK215.out)) (g:=gb216) (o:=.cells #[.int .i64 0,u217001,u217002] 49 (0,0)) (byaf BK216.out)) (qY (w:=w) (g:=g) (row:=none) (bybh GW215.out GW216.out))) (qC.trans (bybh GW215.out GW216.out) hk (.inl rfl)) (hb) (hi)
           clear HO_217001 HO_217002 BK215 BK216 HK HB HI0
           obtain ⟨HO_217001,HO_217002,BK215,BK216,HO238,HO241,HK,HB,HI0⟩:=n_
           (try clear hb)
           (try clear hb2)
           (try clear hk)
           (try clear hi)
           (try clear ho0)
           (try clear ho1)
           obtain ⟨Ao37,co37,eo37⟩:=Kd.jI HO238.out
           (first|subst eo37|(injection eo37 with f1_ f2_ f3_;have f4_:=f1_.symm;have f5_:=f3_.symm;clear f1_ f2_ f3_;subst f4_;subst f5_))
           obtain ⟨Ao38,co38,eo38⟩:=Kd.jI HO241.out
           (first|subst eo38|(injection eo38 with f1_ f2_ f3_;have f4_:=f1_.symm;have f5_:=f3_.symm;clear f1_ f2_ f3_;subst f4_;subst f5_))
           refine hK.out _ _ (cv3 BK216.out) (fun hHeld=>?_)
           clear hK K
           refine Qp (N:=some 48) ?_
           refine one_ (i:=7) (N:=some 49) (bb 11 255) rfl rfl (kJ HT_.out (by kernel_rfl)) (by decide) (fun K hK=>?_)
           refine value_ (w1:=?_) (v:=?_) (by rfl) rfl ?_ ?_
           rotate_left 2
           ·go_simp
            constructor
            ·rfl
            ·rfl
           refine hK.out _ _ ⟨(vF (qG BK216.out _) 0).trans rfl,(vF (qG BK216.out _) 1).trans rfl,(vF (qG BK216.out _) 2).trans rfl⟩ (fun hHeld=>?_)
           clear hK K
           refine Qp (N:=some 49) ?_
           refine one_ (i:=8) (N:=some 50) (bb 11 511) rfl rfl (kJ HT_.out (by kernel_rfl)) (by decide) (fun K hK=>?_)
           refine Kd.R_append_step k49 w.heap.size (by rfl) (.tmp 43) (.tmp 49) 47 49 (.agg #[(.int .i64 0),(.slice none 0 0),(.slice none 0 0)]) 56 rfl Try.underlying47 info49 rfl (by decide) (by omega) u217002 x217002_2 (⟨t235,t236,t239⟩ : S49) [.int .i64 t235,.slice Ao37 t236.length co37,.slice Ao38 t239.length co38] (fun k_=>some k_≠(u217001 : Value).ownBlock∧k_≠gb215∧k_≠gb216) (fun k_=>((fun k_=>some k_≠(u217001 : Value).ownBlock∧k_≠gb215∧k_≠gb216)) k_∧some k_≠(u217002 : Value).ownBlock) rfl rfl ?aP (fun _ hk=>hk) ?aF ?aO (Below.refl _ _) ?aS ?aL ?_
           (case aP=>exact k49_mkM _ _ _ (⟨t235,t236,t239⟩ : S49) (Kd.qV (Kd.zX (Kd.zX (Kd.kH (HO238.out) (Kd.Qb HO_217002.out) (by decide)) BK215.out (by decide)) BK216.out (by decide)) (fun k_ hk=>⟨⟨hk.1.1.1.2,⟨hk.1.2,hk.2⟩⟩,hk.1.1.2⟩)) (Kd.qV (HO241.out) (fun k_ hk=>⟨⟨hk.1.1.1.2,⟨hk.1.2,hk.2⟩⟩,hk.1.1.2⟩)))
           (case aF=>exact (fun k_ hk=>⟨Kd.fresh' (Kd.R_lt (byas HO_217001.out)) k_ hk,Kd.jW (g:=gb215) (o:=.cells #[.int .i64 0,.slice none 0 0,.slice none 0 0] 49 (0,0)) (byaf BK215.out) k_ hk,Kd.jW (g:=gb216) (o:=.cells #[.int .i64 0,u217001,u217002] 49 (0,0)) (byaf BK216.out) k_ hk⟩))
           (case aO=>exact (by (with_reducible repeat (first|apply Kd.jF|apply Kd.jG|apply Kd.jM));exact Kd.qV HO_217002.out (fun _ hk=>⟨hk.1.1.1,⟨hk.1.1.2.1,hk.1.1.2.2⟩⟩)))
           (case aS=>exact (qY (w:=w) (g:=g) (row:=none) (bybh GW215.out GW216.out)))
           (case aL=>have:=LMc33.out;omega)
           intro v244 w36 ho hb hg hat
           rw [← Ny243.out] at ho
           have n_:=q_7 (Kd.R_over' (byas HO_217001.out) (Kd.Qb (byas HO_217002.out)) (by decide) hg) (zS (g:=gb215) (o:=.cells #[.int .i64 0,.slice none 0 0,.slice none 0 0] 49 (0,0)) (byaf BK215.out) hg (Kd.R_away HO_217002.out (fun _ hk=>hk.1.1.2.1))) (zS (g:=gb216) (o:=.cells #[.int .i64 0,u217001,u217002] 49 (0,0)) (byaf BK216.out) hg (Kd.R_away HO_217002.out (fun _ hk=>hk.1.1.2.2))) (qB.grown (bybf HI0.out NB0_215.out NB0_216.out) hg (qB.own_ne HI0.out HO_217002.out (by decide))) (vJ (bybg HI0.out GE215.out GE216.out) HL.out hb) (qC.trans (bybh GW215.out GW216.out) (qC.vX hg g) (Kd.Qg HO_217002.out)) (ho)
           clear HO_217001 BK215 BK216 HI0 HB HK HO_217002 HO238 HO241
           obtain ⟨HO_217001,BK215,BK216,HI0,HB,HK,HO245⟩:=n_
           clear ho hb hg hat
           obtain ⟨Ao39,co39,eo39⟩:=Kd.jI HO245.out
           (first|subst eo39|(injection eo39 with f1_ f2_ f3_;have f4_:=f1_.symm;have f5_:=f3_.symm;clear f1_ f2_ f3_;subst f4_;subst f5_))
           refine hK.out _ _ (cv3 BK216.out) (fun hHeld=>?_)
           clear hK K
           refine Qp (N:=some 50) ?_
           refine jK (i:=9) (N:=some 51) (bb 11 1023) ?_
           refine last_ (i:=10) (N:=none) (bb 11 2047) rfl rfl (kJ HT_.out (by kernel_rfl)) (by decide) (fun K hK=>?_)
           have hs40 : w36.cell? ⟨gb216,2,none⟩ = some (u217002):=(vF BK216.out 2).trans rfl
           have hfs40:=uZ BK216.out 2
           have hns40_0:=NB215_216.out
           have hms40_0:=NB216_215.out
           refine skip_ (w1:=?_) (by rfl) rfl ?_ ?_
           rotate_left
           ·go_simp
            rfl
           refine hK.out _ _ ?_
           clear hK K
           refine done_ (Qr HT_.out (by kernel_rfl)) ?_
           try go_wp2
           go_roundg k2
           case measure=>have:=HK1.out;have:=HK2.out;omega
           case rel=>exact ⟨(wrap64 (x11_2 - 1)),(t242),(y243),(.slice Ao39 y243.length co39),byab,H',⟨byap⟩,⟨by (with_reducible repeat (first|apply Kd.jF|apply Kd.jG|apply Kd.jM));exact Kd.qV (Kd.zT (p:=⟨gb216,2,none⟩) (Kd.zX HO_217001.out BK216.out (by decide)) (fun _ hk=>hk.2) (.slice Ao39 y243.length co39)) (fun _ hk=>trivial)⟩,⟨by (with_reducible repeat (first|apply Kd.jF|apply Kd.jG|apply Kd.jM));exact Kd.qV (Kd.zT (p:=⟨gb216,2,none⟩) (Kd.qV HO245.out (fun k_ hk=>(⟨hk,hk.2.2⟩ : _∧k_≠gb216))) (fun _ hk=>hk.2) (.slice Ao39 y243.length co39)) (fun _ hk=>⟨hk.1.1,⟨hk.1.2.1,hk.1.2.2⟩⟩)⟩,⟨bybi NB215_216.out BK215.out⟩,⟨by (with_reducible repeat (first|refine qH ?_ _|refine qJ ?_|refine qG ?_ _));refine zG (cs:=#[.int .i64 0,u217001,u217002]) ?_ 2 _ rfl;(with_reducible repeat (first|refine qH ?_ _|refine qJ ?_|refine qG ?_ _));exact BK216.out⟩,⟨bybf HI0.out NB0_215.out NB0_216.out⟩,⟨bybh GW215.out GW216.out⟩,⟨bybg HI0.out GE215.out GE216.out⟩⟩
          ·rw [if_neg c33] at H
           exact absurd H (by simp)
         ·rw [if_neg c31] at H
          have c31b0:=decide_eq_false c31
          clear c31
          by_cases c41 : (x217002_2.length : Int) > 0
          ·rw [if_pos c41] at H
           have c41b0:=decide_eq_true c41
           have c41b1 : decide (0 < x217002_2.length) = true:=decide_eq_true (by omega)
           clear c41
           replace H:=Option.bind_eq_some_iff.mp H
           obtain ⟨⟨t246,t247⟩,A420,H⟩:=H
           try dsimp only at H
           have A42:=qA.mk A420
           clear A420
           by_cases c43 : t246 = 0
           ·rw [if_pos c43] at H
            obtain ⟨c43b0,c43b1⟩:=eqT c43
            clear c43
            replace H:=Option.bind_eq_some_iff.mp H
            obtain ⟨⟨t248,t249⟩,A440,H⟩:=H
            try dsimp only at H
            have A44:=qA.mk A440
            clear A440
            simp only [Option.some.injEq,Prod.mk.injEq] at H
            obtain ⟨rfl,rfl,rfl,rfl⟩:=H
            have hnb45:=NB216_215.out
            have hnc45:=NB215_216.out
            have hnb46:=NB216_0.out
            have hnc46:=NB0_216.out
            obtain ⟨hcz47_0,hcz47_1,hcz47_2,hfz47_0,hfz47_1,hfz47_2⟩:=cz3 BK216.out
            obtain ⟨Ao48,co48,eo48⟩:=Kd.jI HO_217002.out
            subst eo48
            go_wp2_with (first|(go_at_call 13;(with_reducible refine (qK.calls g s0_0 x1001_2 3 t246 t247 w0 _ ?side1 ?side2 A42.out).mono ?_);(case side1=>exact bybf HI0.out NB0_215.out NB0_216.out);(case side2=>exact bybg HI0.out GE215.out GE216.out);rintro e w49 ⟨rfl,hi,hb,hk⟩;have n_:=q_7 (Kd.qV (Kd.vK (qB.apart (show qB w0 _ g s0_0 x1001_2 from by repeat (first|(with_reducible first|exact HI0.out|apply qB.alloc|apply qB.drewN|apply qB.drew|apply qB.jO|refine qB.far ?_ NB0_215.out _|refine qB.far ?_ NB0_216.out _)|exact HI0.out)) (byas HO_217001.out) (by decide)) hk (fun _ h=>h.2)) (fun _ h=>h.1)) (Kd.qV (Kd.vK (qB.apart (show qB w0 _ g s0_0 x1001_2 from by repeat (first|(with_reducible first|exact HI0.out|apply qB.alloc|apply qB.drewN|apply qB.drew|apply qB.jO|refine qB.far ?_ NB0_215.out _|refine qB.far ?_ NB0_216.out _)|exact HI0.out)) (byas HO_217002.out) (by decide)) hk (fun _ h=>h.2)) (fun _ h=>h.1)) (qC.blkB hk BK215.out NB215_0.out (by simp)) (qC.blkB hk BK216.out NB216_0.out (by simp)) (qC.trans (bybh GW215.out GW216.out) hk (.inl rfl)) (hb) (hi);clear HO_217001 HO_217002 BK215 BK216 HK HB HI0;obtain ⟨HO_217001,HO_217002,BK215,BK216,HK,HB,HI0⟩:=n_;clear hb hk hi;obtain ⟨hcz50_0,hcz50_1,hcz50_2,hfz50_0,hfz50_1,hfz50_2⟩:=cz3 BK216.out)|((with_reducible refine qF (f:=30) rfl ?_);refine zC (some 70) rfl rfl Try.func30 (by kernel_rfl) rfl #[.pointer (some ⟨g,0,none⟩),.int .i64 1,.int .i64 (wrap64 ((([] : List Int).length : Int) + (x217002_2.length : Int)))] rfl byac ?_;(with_reducible refine (zK.calls g s0_0 t247 1 (wrap64 ((([] : List Int).length : Int) + (x217002_2.length : Int))) t248 t249 w0 _ ?side1 ?side2 A44.out).mono ?_);(case side1=>exact bybf HI0.out NB0_215.out NB0_216.out);(case side2=>exact bybg HI0.out GE215.out GE216.out);rintro e w51 ⟨rfl,hi,hb,hk⟩;refine ⟨_,rfl,?_⟩;have n_:=q_7 (Kd.qV (Kd.vK (qB.apart (show qB w0 _ g s0_0 t247 from by repeat (first|(with_reducible first|exact HI0.out|apply qB.alloc|apply qB.drewN|apply qB.drew|apply qB.jO|refine qB.far ?_ NB0_215.out _|refine qB.far ?_ NB0_216.out _)|exact HI0.out)) (by (with_reducible repeat (first|apply Kd.jF|apply Kd.jG|apply Kd.jM));exact (Kd.qV (Kd.zT (p:=⟨gb216,1,none⟩) (Kd.zX HO_217001.out BK216.out (by decide)) (fun _ hk=>hk.2) (.slice none 0 0)) (fun _ h_=>h_.1))) (by decide)) hk (fun _ h=>h.2)) (fun _ h=>h.1)) (Kd.qV (Kd.vK (qB.apart (show qB w0 _ g s0_0 t247 from by repeat (first|(with_reducible first|exact HI0.out|apply qB.alloc|apply qB.drewN|apply qB.drew|apply qB.jO|refine qB.far ?_ NB0_215.out _|refine qB.far ?_ NB0_216.out _)|exact HI0.out)) (by (with_reducible repeat (first|apply Kd.jF|apply Kd.jG|apply Kd.jM));exact (Kd.qV (Kd.zT (p:=⟨gb216,1,none⟩) (Kd.qV HO_217002.out (fun k_ hk=>(⟨hk,hk.2.2⟩ : _∧k_≠gb216))) (fun _ hk=>hk.2) (.slice none 0 0)) (fun _ h_=>h_.1))) (by decide)) hk (fun _ h=>h.2)) (fun _ h=>h.1)) (qC.blk hk (g':=gb215) (o:=.cells #[.int .i64 0,.slice none 0 0,.slice none 0 0] 49 (0,0)) (bybi NB215_216.out BK215.out) NB215_0.out (by simp)) (qC.blk hk (g':=gb216) (o:=.cells #[.int .i64 0,.slice none 0 0,.slice Ao48 x217002_2.length co48] 49 (0,0)) (by (with_reducible repeat (first|refine qH ?_ _|refine qJ ?_|refine qG ?_ _));refine zG (cs:=#[.int .i64 0,u217001,.slice Ao48 x217002_2.length co48]) ?_ 1 _ rfl;(with_reducible repeat (first|refine qH ?_ _|refine qJ ?_|refine qG ?_ _));exact BK216.out) NB216_0.out (by simp)) (qC.trans (bybh GW215.out GW216.out) hk (.inl rfl)) (hb) (hi);clear HO_217001 HO_217002 BK215 BK216 HK HB HI0;obtain ⟨HO_217001,HO_217002,BK215,BK216,HK,HB,HI0⟩:=n_;clear hb hk hi;obtain ⟨hcz52_0,hcz52_1,hcz52_2,hfz52_0,hfz52_1,hfz52_2⟩:=cz3 BK216.out;have hnb53:=NB215_0.out;have hnc53:=NB0_215.out;obtain ⟨hcz54_0,hcz54_1,hcz54_2,hfz54_0,hfz54_1,hfz54_2⟩:=cz3 BK215.out))
            refine bodyPost_ret (results_cell_row rfl _ _ gb215 49 #[.int .i64 t248,.slice none 0 0,.slice Ao48 x217002_2.length co48] (0,0) _ rfl (by (with_reducible repeat (first|refine qH ?_ _|refine qJ ?_|refine qG ?_ _));refine zG (cs:=#[.int .i64 t248,.slice none 0 0,.slice none 0 0]) ?_ 2 _ rfl;(with_reducible repeat (first|refine qH ?_ _|refine qJ ?_|refine qG ?_ _));refine zG (cs:=#[.int .i64 t248,.slice none 0 0,.slice none 0 0]) ?_ 1 _ rfl;(with_reducible repeat (first|refine qH ?_ _|refine qJ ?_|refine qG ?_ _));refine zG (cs:=#[.int .i64 0,.slice none 0 0,.slice none 0 0]) ?_ 0 _ rfl;(with_reducible repeat (first|refine qH ?_ _|refine qJ ?_|refine qG ?_ _));refine uT ?_ NB215_216.out _;(with_reducible repeat (first|refine qH ?_ _|refine qJ ?_|refine qG ?_ _));exact BK215.out) Try.underlying49 rfl (by kernel_rfl)) rfl ?_
            exact ⟨_,_,bybk,byar,by (with_reducible repeat (first|apply Kd.jF|apply Kd.jG|apply Kd.jM));exact Kd.qV (Kd.zT (p:=⟨gb215,2,none⟩) (Kd.zT (p:=⟨gb215,1,none⟩) (Kd.zT (p:=⟨gb215,0,none⟩) (Kd.zT (p:=⟨gb216,0,none⟩) (Kd.qV (Kd.qV HO_217002.out (fun k_ hk=>(⟨hk,hk.2.2⟩ : _∧k_≠gb216))) (fun k_ hk=>(⟨hk,hk.1.2.1⟩ : _∧k_≠gb215))) (fun _ hk=>hk.1.2) (.int .i64 t248)) (fun _ hk=>hk.2) (.int .i64 t248)) (fun _ hk=>hk.2) (.slice none 0 0)) (fun _ hk=>hk.2) (.slice Ao48 x217002_2.length co48)) (fun _ hk=>(by simp [Value.ownBlock])),bybf HI0.out NB0_215.out NB0_216.out,bybg HI0.out GE215.out GE216.out,bybh GW215.out GW216.out⟩
           ·rw [if_neg c43] at H
            obtain ⟨c43b0,c43b1⟩:=eqF c43
            replace H:=Option.bind_eq_some_iff.mp H
            obtain ⟨⟨t250,t251⟩,A550,H⟩:=H
            try dsimp only at H
            have A55:=qA.mk A550
            clear A550
            simp only [Option.some.injEq,Prod.mk.injEq] at H
            obtain ⟨rfl,rfl,rfl,rfl⟩:=H
            have hnb56:=NB216_215.out
            have hnc56:=NB215_216.out
            have hnb57:=NB216_0.out
            have hnc57:=NB0_216.out
            obtain ⟨hcz58_0,hcz58_1,hcz58_2,hfz58_0,hfz58_1,hfz58_2⟩:=cz3 BK216.out
            obtain ⟨Ao59,co59,eo59⟩:=Kd.jI HO_217002.out
            subst eo59
            go_wp2_with (first|(go_at_call 13;(with_reducible refine (qK.calls g s0_0 x1001_2 3 t246 t247 w0 _ ?side1 ?side2 A42.out).mono ?_);(case side1=>exact bybf HI0.out NB0_215.out NB0_216.out);(case side2=>exact bybg HI0.out GE215.out GE216.out);rintro e w60 ⟨rfl,hi,hb,hk⟩;have n_:=q_7 (Kd.qV (Kd.vK (qB.apart (show qB w0 _ g s0_0 x1001_2 from by repeat (first|(with_reducible first|exact HI0.out|apply qB.alloc|apply qB.drewN|apply qB.drew|apply qB.jO|refine qB.far ?_ NB0_215.out _|refine qB.far ?_ NB0_216.out _)|exact HI0.out)) (byas HO_217001.out) (by decide)) hk (fun _ h=>h.2)) (fun _ h=>h.1)) (Kd.qV (Kd.vK (qB.apart (show qB w0 _ g s0_0 x1001_2 from by repeat (first|(with_reducible first|exact HI0.out|apply qB.alloc|apply qB.drewN|apply qB.drew|apply qB.jO|refine qB.far ?_ NB0_215.out _|refine qB.far ?_ NB0_216.out _)|exact HI0.out)) (byas HO_217002.out) (by decide)) hk (fun _ h=>h.2)) (fun _ h=>h.1)) (qC.blkB hk BK215.out NB215_0.out (by simp)) (qC.blkB hk BK216.out NB216_0.out (by simp)) (qC.trans (bybh GW215.out GW216.out) hk (.inl rfl)) (hb) (hi);clear HO_217001 HO_217002 BK215 BK216 HK HB HI0;obtain ⟨HO_217001,HO_217002,BK215,BK216,HK,HB,HI0⟩:=n_;clear hb hk hi;obtain ⟨hcz61_0,hcz61_1,hcz61_2,hfz61_0,hfz61_1,hfz61_2⟩:=cz3 BK216.out;obtain ⟨Ao62,co62,eo62⟩:=Kd.jI HO_217001.out;subst eo62)|((with_reducible refine qF (f:=30) rfl ?_);refine zC (some 70) rfl rfl Try.func30 (by kernel_rfl) rfl #[.pointer (some ⟨g,0,none⟩),.int .i64 1,.int .i64 (wrap64 ((x217001_1.length : Int) + (x217002_2.length : Int)))] rfl byac ?_;(with_reducible refine (zK.calls g s0_0 t247 1 (wrap64 ((x217001_1.length : Int) + (x217002_2.length : Int))) t250 t251 w0 _ ?side1 ?side2 A55.out).mono ?_);(case side1=>exact bybf HI0.out NB0_215.out NB0_216.out);(case side2=>exact bybg HI0.out GE215.out GE216.out);rintro e w63 ⟨rfl,hi,hb,hk⟩;refine ⟨_,rfl,?_⟩;have n_:=q_7 (Kd.qV (Kd.vK (qB.apart (show qB w0 _ g s0_0 t247 from by repeat (first|(with_reducible first|exact HI0.out|apply qB.alloc|apply qB.drewN|apply qB.drew|apply qB.jO|refine qB.far ?_ NB0_215.out _|refine qB.far ?_ NB0_216.out _)|exact HI0.out)) (byas HO_217001.out) (by decide)) hk (fun _ h=>h.2)) (fun _ h=>h.1)) (Kd.qV (Kd.vK (qB.apart (show qB w0 _ g s0_0 t247 from by repeat (first|(with_reducible first|exact HI0.out|apply qB.alloc|apply qB.drewN|apply qB.drew|apply qB.jO|refine qB.far ?_ NB0_215.out _|refine qB.far ?_ NB0_216.out _)|exact HI0.out)) (byas HO_217002.out) (by decide)) hk (fun _ h=>h.2)) (fun _ h=>h.1)) (qC.blkB hk BK215.out NB215_0.out (by simp)) (qC.blkB hk BK216.out NB216_0.out (by simp)) (qC.trans (bybh GW215.out GW216.out) hk (.inl rfl)) (hb) (hi);clear HO_217001 HO_217002 BK215 BK216 HK HB HI0;obtain ⟨HO_217001,HO_217002,BK215,BK216,HK,HB,HI0⟩:=n_;clear hb hk hi;obtain ⟨hcz64_0,hcz64_1,hcz64_2,hfz64_0,hfz64_1,hfz64_2⟩:=cz3 BK216.out;have hnb65:=NB215_0.out;have hnc65:=NB0_215.out;obtain ⟨hcz66_0,hcz66_1,hcz66_2,hfz66_0,hfz66_1,hfz66_2⟩:=cz3 BK215.out))
            refine bodyPost_ret (results_cell_row rfl _ _ gb215 49 #[.int .i64 t250,.slice Ao62 x217001_1.length co62,.slice Ao59 x217002_2.length co59] (0,0) _ rfl (by (with_reducible repeat (first|refine qH ?_ _|refine qJ ?_|refine qG ?_ _));refine zG (cs:=#[.int .i64 t250,.slice Ao62 x217001_1.length co62,.slice none 0 0]) ?_ 2 _ rfl;(with_reducible repeat (first|refine qH ?_ _|refine qJ ?_|refine qG ?_ _));refine zG (cs:=#[.int .i64 t250,.slice none 0 0,.slice none 0 0]) ?_ 1 _ rfl;(with_reducible repeat (first|refine qH ?_ _|refine qJ ?_|refine qG ?_ _));refine zG (cs:=#[.int .i64 0,.slice none 0 0,.slice none 0 0]) ?_ 0 _ rfl;(with_reducible repeat (first|refine qH ?_ _|refine qJ ?_|refine qG ?_ _));refine uT ?_ NB215_216.out _;(with_reducible repeat (first|refine qH ?_ _|refine qJ ?_|refine qG ?_ _));exact BK215.out) Try.underlying49 rfl (by kernel_rfl)) rfl ?_
            exact ⟨_,_,bybk,by (with_reducible repeat (first|apply Kd.jF|apply Kd.jG|apply Kd.jM));exact Kd.qV (Kd.zT (p:=⟨gb215,2,none⟩) (Kd.zT (p:=⟨gb215,1,none⟩) (Kd.zT (p:=⟨gb215,0,none⟩) (Kd.zT (p:=⟨gb216,0,none⟩) (Kd.zX (Kd.zX HO_217001.out BK216.out (by decide)) BK215.out (by decide)) (fun _ hk=>hk.1.2) (.int .i64 t250)) (fun _ hk=>hk.2) (.int .i64 t250)) (fun _ hk=>hk.2) (.slice Ao62 x217001_1.length co62)) (fun _ hk=>hk.2) (.slice Ao59 x217002_2.length co59)) (fun _ hk=>trivial),by (with_reducible repeat (first|apply Kd.jF|apply Kd.jG|apply Kd.jM));exact Kd.qV (Kd.zT (p:=⟨gb215,2,none⟩) (Kd.zT (p:=⟨gb215,1,none⟩) (Kd.zT (p:=⟨gb215,0,none⟩) (Kd.zT (p:=⟨gb216,0,none⟩) (Kd.qV (Kd.qV HO_217002.out (fun k_ hk=>(⟨hk,hk.2.2⟩ : _∧k_≠gb216))) (fun k_ hk=>(⟨hk,hk.1.2.1⟩ : _∧k_≠gb215))) (fun _ hk=>hk.1.2) (.int .i64 t250)) (fun _ hk=>hk.2) (.int .i64 t250)) (fun _ hk=>hk.2) (.slice Ao62 x217001_1.length co62)) (fun _ hk=>hk.2) (.slice Ao59 x217002_2.length co59)) (fun _ hk=>hk.1.1.1),bybf HI0.out NB0_215.out NB0_216.out,bybg HI0.out GE215.out GE216.out,bybh GW215.out GW216.out⟩
          ·rw [if_neg c41] at H
           have c41b0:=decide_eq_false c41
           have c41b1 : decide (0 < x217002_2.length) = false:=decide_eq_false (by omega)
           clear c41
           replace H:=Option.bind_eq_some_iff.mp H
           obtain ⟨⟨t252,t253⟩,A670,H⟩:=H
           try dsimp only at H
           have A67:=qA.mk A670
           clear A670
           simp only [Option.some.injEq,Prod.mk.injEq] at H
           obtain ⟨rfl,rfl,rfl,rfl⟩:=H
           have hnb68:=NB216_215.out
           have hnc68:=NB215_216.out
           have hnb69:=NB216_0.out
           have hnc69:=NB0_216.out
           obtain ⟨hcz70_0,hcz70_1,hcz70_2,hfz70_0,hfz70_1,hfz70_2⟩:=cz3 BK216.out
           obtain ⟨Ao71,co71,eo71⟩:=Kd.jI HO_217002.out
           subst eo71
           obtain ⟨Ao72,co72,eo72⟩:=Kd.jI HO_217001.out
           subst eo72
           go_wp2_with (first|((with_reducible refine qF (f:=30) rfl ?_);refine zC (some 70) rfl rfl Try.func30 (by kernel_rfl) rfl #[.pointer (some ⟨g,0,none⟩),.int .i64 1,.int .i64 (wrap64 ((x217001_1.length : Int) + (x217002_2.length : Int)))] rfl byac ?_;(with_reducible refine (zK.calls g s0_0 x1001_2 1 (wrap64 ((x217001_1.length : Int) + (x217002_2.length : Int))) t252 t253 w0 _ ?side1 ?side2 A67.out).mono ?_);(case side1=>exact bybf HI0.out NB0_215.out NB0_216.out);(case side2=>exact bybg HI0.out GE215.out GE216.out);rintro e w73 ⟨rfl,hi,hb,hk⟩;refine ⟨_,rfl,?_⟩;have n_:=q_7 (Kd.qV (Kd.vK (qB.apart (show qB w0 _ g s0_0 x1001_2 from by repeat (first|(with_reducible first|exact HI0.out|apply qB.alloc|apply qB.drewN|apply qB.drew|apply qB.jO|refine qB.far ?_ NB0_215.out _|refine qB.far ?_ NB0_216.out _)|exact HI0.out)) (byas HO_217001.out) (by decide)) hk (fun _ h=>h.2)) (fun _ h=>h.1)) (Kd.qV (Kd.vK (qB.apart (show qB w0 _ g s0_0 x1001_2 from by repeat (first|(with_reducible first|exact HI0.out|apply qB.alloc|apply qB.drewN|apply qB.drew|apply qB.jO|refine qB.far ?_ NB0_215.out _|refine qB.far ?_ NB0_216.out _)|exact HI0.out)) (byas HO_217002.out) (by decide)) hk (fun _ h=>h.2)) (fun _ h=>h.1)) (qC.blkB hk BK215.out NB215_0.out (by simp)) (qC.blkB hk BK216.out NB216_0.out (by simp)) (qC.trans (bybh GW215.out GW216.out) hk (.inl rfl)) (hb) (hi);clear HO_217001 HO_217002 BK215 BK216 HK HB HI0;obtain ⟨HO_217001,HO_217002,BK215,BK216,HK,HB,HI0⟩:=n_;clear hb hk hi;obtain ⟨hcz74_0,hcz74_1,hcz74_2,hfz74_0,hfz74_1,hfz74_2⟩:=cz3 BK216.out;have hnb75:=NB215_0.out;have hnc75:=NB0_215.out;obtain ⟨hcz76_0,hcz76_1,hcz76_2,hfz76_0,hfz76_1,hfz76_2⟩:=cz3 BK215.out))
           refine bodyPost_ret (results_cell_row rfl _ _ gb215 49 #[.int .i64 t252,.slice Ao72 x217001_1.length co72,.slice Ao71 x217002_2.length co71] (0,0) _ rfl (by (with_reducible repeat (first|refine qH ?_ _|refine qJ ?_|refine qG ?_ _));refine zG (cs:=#[.int .i64 t252,.slice Ao72 x217001_1.length co72,.slice none 0 0]) ?_ 2 _ rfl;(with_reducible repeat (first|refine qH ?_ _|refine qJ ?_|refine qG ?_ _));refine zG (cs:=#[.int .i64 t252,.slice none 0 0,.slice none 0 0]) ?_ 1 _ rfl;(with_reducible repeat (first|refine qH ?_ _|refine qJ ?_|refine qG ?_ _));refine zG (cs:=#[.int .i64 0,.slice none 0 0,.slice none 0 0]) ?_ 0 _ rfl;(with_reducible repeat (first|refine qH ?_ _|refine qJ ?_|refine qG ?_ _));refine uT ?_ NB215_216.out _;(with_reducible repeat (first|refine qH ?_ _|refine qJ ?_|refine qG ?_ _));exact BK215.out) Try.underlying49 rfl (by kernel_rfl)) rfl ?_
           exact ⟨_,_,bybk,by (with_reducible repeat (first|apply Kd.jF|apply Kd.jG|apply Kd.jM));exact Kd.qV (Kd.zT (p:=⟨gb215,2,none⟩) (Kd.zT (p:=⟨gb215,1,none⟩) (Kd.zT (p:=⟨gb215,0,none⟩) (Kd.zT (p:=⟨gb216,0,none⟩) (Kd.zX (Kd.zX HO_217001.out BK216.out (by decide)) BK215.out (by decide)) (fun _ hk=>hk.1.2) (.int .i64 t252)) (fun _ hk=>hk.2) (.int .i64 t252)) (fun _ hk=>hk.2) (.slice Ao72 x217001_1.length co72)) (fun _ hk=>hk.2) (.slice Ao71 x217002_2.length co71)) (fun _ hk=>trivial),by (with_reducible repeat (first|apply Kd.jF|apply Kd.jG|apply Kd.jM));exact Kd.qV (Kd.zT (p:=⟨gb215,2,none⟩) (Kd.zT (p:=⟨gb215,1,none⟩) (Kd.zT (p:=⟨gb215,0,none⟩) (Kd.zT (p:=⟨gb216,0,none⟩) (Kd.qV (Kd.qV HO_217002.out (fun k_ hk=>(⟨hk,hk.2.2⟩ : _∧k_≠gb216))) (fun k_ hk=>(⟨hk,hk.1.2.1⟩ : _∧k_≠gb215))) (fun _ hk=>hk.1.2) (.int .i64 t252)) (fun _ hk=>hk.2) (.int .i64 t252)) (fun _ hk=>hk.2) (.slice Ao72 x217001_1.length co72)) (fun _ hk=>hk.2) (.slice Ao71 x217002_2.length co71)) (fun _ hk=>hk.1.1.1),bybf HI0.out NB0_215.out NB0_216.out,bybg HI0.out GE215.out GE216.out,bybh GW215.out GW216.out⟩
      ·rw [if_neg c25] at H
       have c25b0:=decide_eq_false c25
       clear c25
       replace H:=Option.bind_eq_some_iff.mp H
       obtain ⟨⟨t254,t255⟩,A770,H⟩:=H
       try dsimp only at H
       have A77:=qA.mk A770
       clear A770
       simp only [Option.some.injEq,Prod.mk.injEq] at H
       obtain ⟨rfl,rfl,rfl,rfl⟩:=H
       have hnb78:=NB216_215.out
       have hnc78:=NB215_216.out
       have hnb79:=NB216_0.out
       have hnc79:=NB0_216.out
       obtain ⟨hcz80_0,hcz80_1,hcz80_2,hfz80_0,hfz80_1,hfz80_2⟩:=cz3 BK216.out
       obtain ⟨Ao81,co81,eo81⟩:=Kd.jI HO_217001.out
       subst eo81
       go_wp2_with (first|((with_reducible refine qF (f:=30) rfl ?_);refine zC (some 70) rfl rfl Try.func30 (by kernel_rfl) rfl #[.pointer (some ⟨g,0,none⟩),.int .i64 1,.int .i64 (wrap64 ((x217001_1.length : Int) + (([] : List (S49)).length : Int)))] rfl byac ?_;(with_reducible refine (zK.calls g s0_0 t222 1 (wrap64 ((x217001_1.length : Int) + (([] : List (S49)).length : Int))) t254 t255 w0 _ ?side1 ?side2 A77.out).mono ?_);(case side1=>exact bybf HI0.out NB0_215.out NB0_216.out);(case side2=>exact bybg HI0.out GE215.out GE216.out);rintro e w82 ⟨rfl,hi,hb,hk⟩;refine ⟨_,rfl,?_⟩;have n_:=q_7 (Kd.qV (Kd.vK (qB.apart (show qB w0 _ g s0_0 t222 from by repeat (first|(with_reducible first|exact HI0.out|apply qB.alloc|apply qB.drewN|apply qB.drew|apply qB.jO|refine qB.far ?_ NB0_215.out _|refine qB.far ?_ NB0_216.out _)|exact HI0.out)) (byas HO_20.out) (by decide)) hk (fun _ h=>h.2)) (fun _ h=>h.1)) (Kd.qV (Kd.vK (qB.apart (show qB w0 _ g s0_0 t222 from by repeat (first|(with_reducible first|exact HI0.out|apply qB.alloc|apply qB.drewN|apply qB.drew|apply qB.jO|refine qB.far ?_ NB0_215.out _|refine qB.far ?_ NB0_216.out _)|exact HI0.out)) (byas HO_217001.out) (by decide)) hk (fun _ h=>h.2)) (fun _ h=>h.1)) (qC.blkB hk BK215.out NB215_0.out (by simp)) (qC.blkB hk BK216.out NB216_0.out (by simp)) (qC.trans (bybh GW215.out GW216.out) hk (.inl rfl)) (hb) (hi);clear HO_20 HO_217001 BK215 BK216 HK HB HI0;obtain ⟨HO_20,HO_217001,BK215,BK216,HK,HB,HI0⟩:=n_;clear hb hk hi;obtain ⟨hcz83_0,hcz83_1,hcz83_2,hfz83_0,hfz83_1,hfz83_2⟩:=cz3 BK216.out;have hnb84:=NB215_0.out;have hnc84:=NB0_215.out;obtain ⟨hcz85_0,hcz85_1,hcz85_2,hfz85_0,hfz85_1,hfz85_2⟩:=cz3 BK215.out))
       refine bodyPost_ret (results_cell_row rfl _ _ gb215 49 #[.int .i64 t254,.slice Ao81 x217001_1.length co81,.slice none 0 0] (0,0) _ rfl (by (with_reducible repeat (first|refine qH ?_ _|refine qJ ?_|refine qG ?_ _));refine zG (cs:=#[.int .i64 t254,.slice Ao81 x217001_1.length co81,.slice none 0 0]) ?_ 2 _ rfl;(with_reducible repeat (first|refine qH ?_ _|refine qJ ?_|refine qG ?_ _));refine zG (cs:=#[.int .i64 t254,.slice none 0 0,.slice none 0 0]) ?_ 1 _ rfl;(with_reducible repeat (first|refine qH ?_ _|refine qJ ?_|refine qG ?_ _));refine zG (cs:=#[.int .i64 0,.slice none 0 0,.slice none 0 0]) ?_ 0 _ rfl;(with_reducible repeat (first|refine qH ?_ _|refine qJ ?_|refine qG ?_ _));refine uT ?_ NB215_216.out _;(with_reducible repeat (first|refine qH ?_ _|refine qJ ?_|refine qG ?_ _));exact BK215.out) Try.underlying49 rfl (by kernel_rfl)) rfl ?_
       exact ⟨_,_,bybk,by (with_reducible repeat (first|apply Kd.jF|apply Kd.jG|apply Kd.jM));exact Kd.qV (Kd.zT (p:=⟨gb215,2,none⟩) (Kd.zT (p:=⟨gb215,1,none⟩) (Kd.zT (p:=⟨gb215,0,none⟩) (Kd.zT (p:=⟨gb216,0,none⟩) (Kd.zX (Kd.zX HO_217001.out BK216.out (by decide)) BK215.out (by decide)) (fun _ hk=>hk.1.2) (.int .i64 t254)) (fun _ hk=>hk.2) (.int .i64 t254)) (fun _ hk=>hk.2) (.slice Ao81 x217001_1.length co81)) (fun _ hk=>hk.2) (.slice none 0 0)) (fun _ hk=>trivial),byar,bybf HI0.out NB0_215.out NB0_216.out,bybg HI0.out GE215.out GE216.out,bybh GW215.out GW216.out⟩
  ·rw [if_neg c8] at H
   exact absurd H (by simp)
 ·rw [if_neg c7] at H
  exact absurd H (by simp)
mutual
def jA.l0 : Nat→Int→List (S49)→Int→Int→Option (Int)
 | 0,_,_,_,_=>none
 | k + 1,x3,x7,x8,x9=>if x9 < x8 then (if 0 ≤ x9 then (if x9 < (x7.length : Int) then ((jA.f k ((zB x7 x9).f0) ((zB x7 x9).f1) ((zB x7 x9).f2)).bind fun t259=>(jA.l0 k (mx x3 t259) x7 x8 (wrap64 (x9 + 1)))) else (none)) else (none)) else (some (wrap64 (x3 + 1)))
def jA.f : Nat→Int→List Int→List (S49)→Option (Int)
 | 0,_,_,_=>none
 | k + 1,a0_0,l0_1,l0_2=>jA.l0 k 0 l0_2 (l0_2.length : Int) 0
end
set_option maxHeartbeats 8000000 in
set_option maxRecDepth 100000 in
theorem jA.calls (k : Nat) : ∀ (a0_0 : Int) (A0_1 : Option Addr) (c0_1 : Nat) (l0_1 : List Int) (A0_2 : Option Addr) (c0_2 : Nat) (l0_2 : List (S49)) (r : Int) (w : World) (hr0_1 : Kd.C (Kd.int .i64) w A0_1 l0_1.length l0_1) (hc0_1 : l0_1.length ≤ c0_1) (hr0_2 : Kd.C k49 w A0_2 l0_2.length l0_2) (hc0_2 : l0_2.length ≤ c0_2) (h : jA.f k a0_0 l0_1 l0_2 = some r),
  Calls Try.prog 50 #[.agg #[.int .i64 a0_0,.slice A0_1 l0_1.length c0_1,.slice A0_2 l0_2.length c0_2]] w fun e w'=>e = .returned (.int .i64 r)∧Below w.heap.size w w':=by
 induction k using Nat.strongRecOn with
 | _ k ih =>
 intro a0_0 A0_1 c0_1 l0_1 A0_2 c0_2 l0_2 r w hr0_1 hc0_1 hr0_2 hc0_2 h
 cases k with
 | zero=>exact absurd h (by simp [jA.f])
 | succ k =>
 simp only [jA.f] at h
 have hu49:=Try.underlying49
 have HR0_1:=qA.mk hr0_1
 have HC0_1:=qA.mk hc0_1
 clear hr0_1 hc0_1
 have HR0_2:=qA.mk hr0_2
 have HC0_2:=qA.mk hc0_2
 clear hr0_2 hc0_2
 have HB:=qA.mk (Below.refl w.heap.size w)
 have H:=h
 clear h
 have H':=qA.mk H
 clear H
 go_enter Try.func50,Try.ntmps50
 go_wp2_with (first|((with_reducible refine qX (N:=1) rfl ?_);refine zD ?hg (N:=1) ?hd (cs:=#[.int .i64 a0_0,.slice A0_1 l0_1.length c0_1,.slice A0_2 l0_2.length c0_2]) (t:=49) ?hr ?_;(case hd=>rfl);(case hg=>rfl);(case hr=>exact byad);intro gb256 hg w2 hbox hb;have n_:=q_4 (qE byae hb) (hbox) ((byck : w.heap.size ≤ gb256)) ((byck : w.heap.size ≤ gb256));clear HB;obtain ⟨HB,BK256,GW256,GE256⟩:=n_;clear hb hbox hg;obtain ⟨hcz3_0,hcz3_1,hcz3_2,hfz3_0,hfz3_1,hfz3_2⟩:=cz3 BK256.out))
 go_loopg [3,9] k (fun kq v3 v9 w'=>∃ (x3_1 : Int) (x9_1 : Int),v3 = .int .i64 x3_1∧v9 = .int .i64 x9_1∧qA (jA.l0 kq x3_1 l0_2 (l0_2.length : Int) x9_1 = some r)∧qA (kq ≤ k)∧qA (w'.heap[gb256]? = some (.cells #[.int .i64 a0_0,(.slice A0_1 l0_1.length c0_1),(.slice A0_2 l0_2.length c0_2)] 49 (0,0)))∧qA (Below w.heap.size w w'))
 case atStart=>exact ⟨(0),(0),byab,byab,H',⟨Nat.le_refl _⟩,⟨byaf BK256.out⟩,⟨byag GE256.out⟩⟩
 case round =>
  clear H'
  obtain ⟨x3_1,x9_1,rfl,rfl,HA,HK1,BK256,HB⟩:=hrel
  cases gk with
  | zero=>exact absurd HA.out (by simp [jA.l0])
  | succ k1 =>
   have H:=HA.out
   clear HA
   simp only [jA.l0] at H
   by_cases c4 : x9_1 < (l0_2.length : Int)
   ·rw [if_pos c4] at H
    have c4b0:=decide_eq_true c4
    clear c4
    by_cases c5 : 0 ≤ x9_1
    ·rw [if_pos c5] at H
     have c5b0:=decide_eq_true c5
     clear c5
     by_cases c6 : x9_1 < (l0_2.length : Int)
     ·rw [if_pos c6] at H
      have c6b0:=decide_eq_true c6
      clear c6
      replace H:=Option.bind_eq_some_iff.mp H
      obtain ⟨t259,A70,H⟩:=H
      try dsimp only at H
      have A7:=qA.mk A70
      clear A70
      obtain ⟨ji8,hji8⟩ : ∃ j_ : Int,(mx x3_1 t259) = j_:=⟨_,rfl⟩
      (first|rw [hji8] at H|(simp only [hji8] at H))
      (try rw [hji8] at A7)
      have hji8_ : (if x3_1 < t259 then t259 else x3_1) = ji8:=hji8
      have H':=qA.mk H
      clear H
      have p257 : 0 ≤ (x9_1 : Int):=of_decide_eq_true byah
      have q257 : x9_1 < (l0_2.length : Int):=of_decide_eq_true byah
      obtain ⟨ad257,A257_1,c257_1,A257_2,c257_2,e257,hx257_0,hx257_1,hx257_2,hl257_1,hi257_1,hl257_2,hi257_2⟩:=at_T49 HR0_2.out x9_1 p257 q257
      cases e257
      replace hx257_0:=(HB.out.cell (World.block_lt_of_cell? w _ hx257_0)).trans hx257_0
      replace hx257_1:=(HB.out.cell (World.block_lt_of_cell? w _ hx257_1)).trans hx257_1
      replace hx257_2:=(HB.out.cell (World.block_lt_of_cell? w _ hx257_2)).trans hx257_2
      have HR257_1:=qA.mk hi257_1
      have HC257_1:=qA.mk hl257_1
      clear hi257_1 hl257_1
      have HR257_2:=qA.mk hi257_2
      have HC257_2:=qA.mk hl257_2
      clear hi257_2 hl257_2
      replace p257:=eq_true p257
      replace q257:=eq_true q257
      go_wp2_with (first|((with_reducible refine qX (N:=5) rfl ?_);refine zD ?hg (N:=5) ?hd (cs:=#[.int .i64 0,.slice none 0 0,.slice none 0 0]) (t:=49) ?hr ?_;(case hd=>rfl);(case hg=>rfl);(case hr=>exact byad);intro gb258 hg w9 hbox hb;have n_:=q_6 (qI BK256.out hb) (qE (byag GE256.out) hb) (hbox) ((bycl GE256.out : w.heap.size ≤ gb258)) ((bycl GE256.out : w.heap.size ≤ gb258)) ((by rw [hg];exact Nat.ne_of_lt (vH BK256.out) : gb256≠gb258));clear BK256 HB;obtain ⟨BK256,HB,BK258,GW258,GE258,NB256_258⟩:=n_;have NB258_256:=ns NB256_258;clear hb hbox hg;have hnb10:=NB258_256.out;have hnc10:=NB256_258.out;obtain ⟨hcz11_0,hcz11_1,hcz11_2,hfz11_0,hfz11_1,hfz11_2⟩:=cz3 BK258.out)|((with_reducible refine qF (f:=50) rfl ?_);refine zC (some 15) rfl rfl Try.func50 (by kernel_rfl) rfl #[.agg #[.int .i64 ((zB l0_2 x9_1).f0),.slice A257_1 ((zB l0_2 x9_1).f1).length c257_1,.slice A257_2 ((zB l0_2 x9_1).f2).length c257_2]] rfl byac ?_;(with_reducible refine (ih k1 byaj ((zB l0_2 x9_1).f0) _ _ ((zB l0_2 x9_1).f1) _ _ ((zB l0_2 x9_1).f2) t259 _ ?side1 ?side2 ?side3 ?side4 A7.out).mono ?_);(case side1=>exact Kd.uX HR257_1.out (byal GE256.out GE258.out));(case side2=>exact HC257_1.out);(case side3=>exact Kd.uX HR257_2.out (byal GE256.out GE258.out));(case side4=>exact HC257_2.out);rintro e w12 ⟨rfl,hb⟩;refine ⟨_,rfl,?_⟩;have n_:=q_3 (uA (g:=gb256) (o:=.cells #[.int .i64 a0_0,.slice A0_1 l0_1.length c0_1,.slice (some ad257) l0_2.length c0_2] 49 (0,0)) (byaq NB256_258.out BK256.out) hb) (uA (g:=gb258) (o:=.cells #[.int .i64 ((zB l0_2 x9_1).f0),.slice A257_1 ((zB l0_2 x9_1).f1).length c257_1,.slice A257_2 ((zB l0_2 x9_1).f2).length c257_2] 49 (0,0)) (by (with_reducible repeat (first|refine qH ?_ _|refine qJ ?_|refine qG ?_ _));refine zG (cs:=#[.int .i64 ((zB l0_2 x9_1).f0),.slice A257_1 ((zB l0_2 x9_1).f1).length c257_1,.slice none 0 0]) ?_ 2 _ rfl;(with_reducible repeat (first|refine qH ?_ _|refine qJ ?_|refine qG ?_ _));refine zG (cs:=#[.int .i64 ((zB l0_2 x9_1).f0),.slice none 0 0,.slice none 0 0]) ?_ 1 _ rfl;(with_reducible repeat (first|refine qH ?_ _|refine qJ ?_|refine qG ?_ _));refine zG (cs:=#[.int .i64 0,.slice none 0 0,.slice none 0 0]) ?_ 0 _ rfl;(with_reducible repeat (first|refine qH ?_ _|refine qJ ?_|refine qG ?_ _));exact BK258.out) hb) (qE (byal GE256.out GE258.out) hb);clear BK256 BK258 HB;obtain ⟨BK256,BK258,HB⟩:=n_;clear hb))
      go_roundg k1
      case measure=>have:=HK1.out;omega
      case rel=>exact ⟨(ji8),(wrap64 (x9_1 + 1)),byao,byab,H',⟨byaj⟩,⟨byaf BK256.out⟩,⟨byal GE256.out GE258.out⟩⟩
     ·rw [if_neg c6] at H
      exact absurd H (by simp)
    ·rw [if_neg c5] at H
     exact absurd H (by simp)
   ·rw [if_neg c4] at H
    have c4b0:=decide_eq_false c4
    clear c4
    obtain rfl:=Option.some.inj H
    go_wp2
    go_ret
    exact ⟨byam,byag GE256.out⟩
end Go.Proofs.Ytoofabolcbbjnaa.P
