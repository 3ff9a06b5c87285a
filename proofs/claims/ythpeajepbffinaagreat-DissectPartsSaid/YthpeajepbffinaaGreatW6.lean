/- Walks: each function computes its model, printed. -/
import Derived.Test.YthpeajepbffinaaGreatW5
namespace Go.Proofs.YthpeajepbffinaaGreat
open Go Sx M
set_option maxRecDepth 100000
set_option maxHeartbeats 40000000
set_option linter.unusedVariables false
attribute [local irreducible] wpList Code.wp Calls DR QR QS LA LS St
variable {w0 : World} {ros : List Fact} {rs : List Res} {w : World}
theorem sparseref12_Table_ok {j : L2} {i : Hdr} {out : (List (List Bool))} (z : sparseref12_Table j = some out) (q : imm S1 i.v j ∈ ros) (b : St w0 ros rs w) :
  Calls Tryz.prog 70 #[.agg #[i.v]] w (fun e w => ∃ (I : Hdr) (J : List Hdr), e = .returned (I.v) ∧ St w0 ros (row 93 rH I.v J :: fam 4 rB J out :: rs) w) := by
 refine enterQ Tryz.func70 rfl Tryz.ntmps70 rfl fun Q W => sR fun _ X => YB wn rfl (r_box (vals := [i.v]) b e0 rfl) ?_
 intro p w b
 refine Ya hnil.v rfl (wK X (sR fun _ Z => yY (yFb FL_26_0 e0) (yY (lb_ i.v O_24 e0 b R0) (yY (yLen SL_24 e0 b (rdI q)) (Ya (iV (j.length : Int)) e0 (wK Z (sR fun _ a0 => Ya hnil.v rfl ?_)))))))
 refine wK a0 (sQ fun _ a1 => sR fun _ a2 => Ya (iV 0) rfl (wK a2 (blockQ fun a3 a4 => ?_)))
 obtain ⟨a5, a6, z⟩ := bs z
 have a7 : ∀ (A : List (List Bool)) (r : Hdr) (B : List Hdr) (f : FV) (w : World), f 4 = r.v → St w0 ros (row 93 rH r.v B :: fam 4 rB B A :: rs) w → A = a5 → a3 (.exit 0) (fr 43 f) w := by
  intro A r B f w a8 b ho
  subst ho
  refine a4 _ _ _ (a1 _ _ (sR fun _ a9 => Ym r.v (eh a8) (Ya r.v e0 (wK a9 (wp_ret ?_)))))
  obtain rfl := someI z
  exact W _ _ _ (fin1r Tryz.results70 ⟨rfl, rfl⟩ ⟨_, _, rfl, b⟩)
 replace b := ((b.rowNh 93 rH).fNew 4 rB).pk 2 [1, 0] rfl
 refine loopQ (fun s a w => ∃ (t : List (List Bool)) (g : Int) (f : FV) (k : Hdr) (m : List Hdr), (t, g) = s ∧ a = fr 43 f ∧ f 1 = (pB p) ∧ f 3 = iV (j.length : Int) ∧ f 4 = k.v ∧ f 5 = iV g ∧ St w0 ros (box p 26 [i.v] :: row 93 rH k.v m :: fam 4 rB m t :: rs) w) a6 ⟨_, _, _, _, _, rfl, rfl, rfl, rfl, rfl, rfl, (b.pk 3 [2, 0, 0] rfl)⟩ ?_
 rintro _ _ w e5 ⟨t, g, f, k, m, rfl, rfl, b0, C, K, L, b⟩ d b1 e6 b2 b4
 refine seqQ fun e7 b5 b6 => sR fun _ b7 => Ym (iV g) (eh L) (Ym (iV (j.length : Int)) (eh C) (yY (ylss e0 e0) (wK b7 ?_)))
 rcases iteS d with ⟨D, d⟩ | ⟨D, d⟩
 ·refine cT e0 D (wp_skip (b5 _ _ (sQ fun _ b8 => blockQ fun _ b9 => sR fun _ c0 => Ym (iV (j.length : Int)) (eh C) ?_)))
  obtain ⟨e8, c1, d⟩ := bs d
  refine YH wn rfl (rMk b SL_93 e0 c1) ?_
  intro h w b
  refine Ya h.v e0 (wK c0 (sQ fun _ c2 => sR fun _ c3 => Ya (iV 0) rfl (wK c3 (blockQ fun c4 c5 => ?_))))
  obtain ⟨c6, c7, d⟩ := bs d
  have c8 : ∀ (u : List Bool) (f : FV) (w : World), f 1 = (pB p) → f 3 = iV (j.length : Int) → f 4 = k.v → f 5 = iV g → f 6 = h.v → St w0 ros (box p 26 [i.v] :: row 93 rH k.v m :: fam 4 rB m t :: row 4 rB h.v u :: rs) w → u = c6 → c4 (.exit 2) (fr 43 f) w := by
   intro u f w c9 d0 d1 d2 d3 b ho
   subst ho
   refine c5 _ _ _ (c2 _ _ (wR (Ym k.v (eh d1) (Ym h.v (eh d3) (YH wn rfl (rLt (n := 1) (l := [h]) b SLH_98 [h.v] (bp1 e0) rfl rfl (mks1 rfl (mkF rfl) mks0)) ?_)))))
   intro e9 w b
   obtain ⟨f0, N, d⟩ := bs d
   replace b := b.pk 3 [2, 0, 0] rfl
   obtain ⟨f1, ey112, d4⟩ := app_rep N (b.famL R3) (show [h].length = [u].length from rfl)
   refine YH wn rfl (rAp b SLH_98 e0 e0 rO1 d4) ?_
   intro d5 w b
   replace b := b.pk 5 [4, 3, 0, 0, 0] rfl
   replace b := b.fPush
   rw [← ey112, ← (app_some N).1] at b
   refine Ya d5.v e0 (wN (b9 _ _ _ (b8 _ _ (wR (Ym (iV g) (eh d2) (yY (yadd e0 rfl) (Ya (iV (wa .i64 g 1)) e0 (wN ?_))))))))
   obtain rfl := someI d
   exact b2 _ _ _ rfl ⟨_, _, _, _, _, rfl, rfl, c9, d0, rfl, rfl, (b.pk 4 [3, 1, 0] rfl)⟩
  refine loopQ (fun s a w => ∃ (E : List Bool) (o : Int) (f : FV), (E, o) = s ∧ a = fr 43 f ∧ f 1 = (pB p) ∧ f 3 = iV (j.length : Int) ∧ f 4 = k.v ∧ f 5 = iV g ∧ f 6 = h.v ∧ f 7 = iV o ∧ St w0 ros (box p 26 [i.v] :: row 93 rH k.v m :: fam 4 rB m t :: row 4 rB h.v E :: rs) w) c7 ⟨_, _, _, rfl, rfl, b0, C, K, L, rfl, rfl, (b.pk 4 [1, 1, 1, 0] rfl)⟩ ?_
  rintro _ _ w f2 ⟨E, o, f, rfl, rfl, x, O, R, y, F, G, b⟩ c d6 f3 d7 d8
  refine seqQ fun f4 d9 e1 => sR fun _ e2 => Ym (iV o) (eh G) (yY (yFb FL_26_0 (eh x)) (yY (lb_ i.v O_24 e0 b R0) (Ym (iV g) (eh y) ?_)))
  obtain ⟨f5, S, c⟩ := bs c
  refine yY (yIa SL_24 e0 e0 b (rdI q) S) ?_
  obtain ⟨f6, b⟩ := iLs b q S
  refine yY (yCt O_22 e0 b F1 rfl) (yY (yLen SL_22 e0 b (rdI F0)) (yY (ylss e0 e0) (wK e2 ?_)))
  rcases iteS c with ⟨H, c⟩ | ⟨H, c⟩
  ·refine cT e0 H (wp_skip (d9 _ _ (sQ fun _ e3 => blockQ fun _ e4 => wR (Ym h.v (eh F) (yY (yFb FL_26_0 (eh x)) (yY (lb_ i.v O_24 e0 b R0) (Ym (iV g) (eh y) ?_)))))))
   obtain ⟨f7, T, c⟩ := bs c
   refine yY (yIa SL_24 e0 e0 b (rdI (F_2 q)) T) ?_
   obtain ⟨f8, b⟩ := iLs b (F_2 q) T
   refine yY (yCt O_22 e0 b F1 rfl) (Ym (iV o) (eh G) ?_)
   obtain ⟨f9, U, c⟩ := bs c
   refine yY (yIa SL_22 e0 e0 b (rdI F0) U) (yY (yI O_3 e0 b (rdI F0) U) ?_)
   obtain ⟨g0, V, c⟩ := bs c
   refine yY (yIs SL_93 e0 e0 b rO3 V) ?_
   replace b := b.pk 4 [3, 0, 0, 0] rfl
   refine YT wn rfl (r_sti (cs := [.bool true]) b O_4 rfl e0 rfl rfl mkB V) ?_
   intro w b
   refine wN (e4 _ _ _ (e3 _ _ (wR (Ym (iV o) (eh G) (yY (yadd e0 rfl) (Ya (iV (wa .i64 o 1)) e0 (wN ?_)))))))
   obtain rfl := someI c
   exact d7 _ _ _ rfl ⟨_, _, _, rfl, rfl, x, O, R, y, F, rfl, ((b.pk 4 [1, 1, 1, 0] rfl).facts (allT (allT (allT (allT allI)))))⟩
  ·refine cF e0 H (wp_exit (e1 _ _ _ rfl ?_))
   obtain rfl := someI c
   exact d8 _ _ _ _ rfl rfl (c8 _ _ _ x O R y F (b.facts (allT (allT allI))) (d6 _ rfl))
 ·refine cF e0 D (wp_exit (b6 _ _ _ rfl ?_))
  obtain rfl := someI d
  exact b4 _ _ _ _ rfl rfl (a7 _ _ _ _ _ K (b.pk 3 [1, 1] rfl) (b1 _ rfl))
theorem sparseref12_empty_ok {g : Int} {out : (List (List Bool))} (j : sparseref12_empty g = some out) (b : St w0 ros rs w) :
  Calls Tryz.prog 71 #[iV g] w (fun e w => ∃ (u : Hdr) (x : List Hdr), e = .returned (u.v) ∧ St w0 ros (row 93 rH u.v x :: fam 4 rB x out :: rs) w) := by
 refine enterQ Tryz.func71 rfl Tryz.ntmps71 rfl fun Q B => sR fun _ C => Ya hnil.v rfl (wK C (sR fun _ D => Ya hnil.v rfl (wK D (sQ fun _ E => sR fun _ F => ?_))))
 refine Ya (iV 0) rfl (wK F (blockQ fun G H => ?_))
 obtain ⟨I, J, j⟩ := bs j
 have K : ∀ (k : List (List Bool)) (h : Hdr) (m : List Hdr) (f : FV) (w : World), f 3 = h.v → St w0 ros (row 93 rH h.v m :: fam 4 rB m k :: rs) w → k = I → G (.exit 0) (fr 16 f) w := by
  intro k h m f w L b ho
  subst ho
  refine H _ _ _ (E _ _ (sR fun _ N => Ym h.v (eh L) (Ya h.v e0 (wK N (wp_ret ?_)))))
  obtain rfl := someI j
  exact B _ _ _ (fin1r Tryz.results71 ⟨rfl, rfl⟩ ⟨_, _, rfl, b⟩)
 replace b := ((b.rowNh 93 rH).fNew 4 rB).pk 2 [1, 0] rfl
 refine loopQ (fun s a w => ∃ (o : List (List Bool)) (d : Int) (f : FV) (i : Hdr) (p : List Hdr), (o, d) = s ∧ a = fr 16 f ∧ f 0 = iV g ∧ f 3 = i.v ∧ f 4 = iV d ∧ St w0 ros (row 93 rH i.v p :: fam 4 rB p o :: rs) w) J ⟨_, _, _, _, _, rfl, rfl, rfl, rfl, rfl, b⟩ ?_
 rintro _ _ w a3 ⟨o, d, f, i, p, rfl, rfl, q, y, z, b⟩ c O a4 R S
 refine seqQ fun a5 T U => sR fun _ V => Ym (iV d) (eh z) (Ym (iV g) (eh q) (yY (ylss e0 e0) (wK V ?_)))
 rcases iteS c with ⟨r, c⟩ | ⟨r, c⟩
 ·refine cT e0 r (wp_skip (T _ _ (sQ fun _ W => blockQ fun _ X => wR (Ym i.v (eh y) (Ym (iV g) (eh q) ?_)))))
  obtain ⟨Z, a0, c⟩ := bs c
  refine YH wn rfl (rMk b SL_93 e0 a0) ?_
  intro t w b
  refine YH wn rfl (rLt (n := 1) (l := [t]) b SLH_98 [t.v] (bp1 e0) rfl rfl (mks1 rfl (mkF rfl) mks0)) ?_
  intro a6 w b
  obtain ⟨a7, A, c⟩ := bs c
  replace b := b.pk 3 [2, 0, 0] rfl
  obtain ⟨a8, ey39, a1⟩ := app_rep A (b.famL R3) (show [t].length = [Z].length from rfl)
  refine YH wn rfl (rAp b SLH_98 e0 e0 rO1 a1) ?_
  intro a2 w b
  replace b := b.pk 4 [2, 2, 0, 0] rfl
  replace b := b.fPush
  rw [← ey39, ← (app_some A).1] at b
  refine Ya a2.v e0 (wN (X _ _ _ (W _ _ (wR (Ym (iV d) (eh z) (yY (yadd e0 rfl) (Ya (iV (wa .i64 d 1)) e0 (wN ?_))))))))
  obtain rfl := someI c
  exact R _ _ _ rfl ⟨_, _, _, _, _, rfl, rfl, q, rfl, rfl, (b.pk 3 [1, 0] rfl)⟩
 ·refine cF e0 r (wp_exit (U _ _ _ rfl ?_))
  obtain rfl := someI c
  exact S _ _ _ _ rfl rfl (K _ _ _ _ _ y b (O _ rfl))
theorem sparseref12_Induced_ok {T : L2} {U : LI} {p g : Hdr} {out : L2 × Int} (c : sparseref12_Induced T U = some out) (B : imm S1 p.v T ∈ ros) (j : imm I1 g.v U ∈ ros) (b : St w0 ros rs w) :
  Calls Tryz.prog 38 #[.agg #[p.v], g.v] w (fun e w => ∃ (V : Hdr), e = .returned (.tuple #[.agg #[V.v], iV out.2]) ∧ St w0 ros (row 22 S1 V.v out.1 :: rs) w) := by
 refine enterQ Tryz.func38 rfl Tryz.ntmps38 rfl fun Q u => sR fun _ b0 => YB wn rfl (r_box (vals := [p.v]) b e0 rfl) ?_
 intro h7 w b
 refine YB wn rfl (rAl b ZT_26) ?_
 intro k w b
 refine Ya (iV 0) rfl (wK b0 (seqQ fun h8 b1 b2 => sR fun _ b3 => yY (lbs_ [p.v] ST_26 e0 b R1) ?_))
 obtain ⟨x, b4, c⟩ := bs c
 refine Yc wn rfl (yCall FN_54 (a1 e0)) (sparseref12_Check_ok b4 B b) ?_
 rintro _ w ⟨rfl, b⟩
 refine ⟨_, rfl, ?_⟩
 refine Ya (iV x) e0 (wK b3 (sR fun _ b7 => Ym (iV x) e0 (yY (yneq e0 rfl) (wK b7 ?_))))
 rcases iteS c with ⟨C, c⟩ | ⟨C, c⟩
 ·refine condF e0 (nF (dT C)) (wp_skip (b1 _ _ (seqQ fun h9 b8 b9 => sR fun _ c0 => Ym g.v e0 (yY (yFb FL_26_0 e0) (yY (lb_ p.v O_24 e0 b R1) (yY (yLen SL_24 e0 b (rdI B)) ?_))))))
  obtain ⟨i0, c1, c⟩ := bs c
  refine Yc wn rfl (yCall FN_68 (a2 e0 e0)) (sparseref09_Range_ok c1 j b) ?_
  rintro _ w ⟨rfl, b⟩
  refine ⟨_, rfl, ?_⟩
  refine yY (ynot e0) (wK c0 ?_)
  rcases iteS c with ⟨D, c⟩ | ⟨D, c⟩
  ·refine condF e0 (nF D) (wp_skip (b8 _ _ (seqQ fun i1 c2 c3 => sR fun _ c4 => Ym g.v e0 ?_)))
   obtain ⟨i2, c5, c⟩ := bs c
   refine Yc wn rfl (yCall FN_69 (a1 e0)) (sparseref09_Twice_ok c5 j b) ?_
   rintro _ w ⟨rfl, b⟩
   refine ⟨_, rfl, ?_⟩
   refine wK c4 ?_
   rcases iteS c with ⟨E, c⟩ | ⟨E, c⟩
   ·refine condT e0 E (sR fun _ c6 => yY (ybuild (us := [hnil.v]) [] SO_26 bp0 rfl) (YT wn rfl (r_stbn (vals' := [hnil.v]) (us := [hnil.v]) b ST_26 e0 e0 rfl rfl (one_of rfl) rfl) ?_))
    intro w b
    refine Ya (iV 90) rfl (wK c6 (wp_ret (c3 _ _ _ rfl ?_)))
    obtain rfl := someI c
    replace b := b.rowNh 22 S1
    exact u _ _ _ (fin2r Tryz.results38 (rcs2 rfl rfl b R1 ST_26 rfl) ⟨rfl, rfl⟩ ⟨_, rfl, (b.pk 3 [0] rfl)⟩)
   ·refine condF e0 (bfalse E) (wp_skip (c2 _ _ (sR fun _ c7 => yY (lbs_ [p.v] ST_26 e0 b R1) ?_)))
    obtain ⟨F, c9, c⟩ := bs c
    refine Yc wn rfl (yCall FN_70 (a1 e0)) (sparseref12_Table_ok c9 B b) ?_
    rintro _ w ⟨l, q, rfl, b⟩
    refine ⟨_, rfl, ?_⟩
    refine Ya l.v e0 (wK c7 (sR fun _ d0 => Ym g.v e0 (yY (yLen SL_22 e0 b (rdI j)) ?_)))
    obtain ⟨i3, d1, c⟩ := bs c
    refine Yc wn rfl (yCall FN_71 (a1 e0)) (sparseref12_empty_ok d1 b) ?_
    rintro _ w ⟨h, m, rfl, b⟩
    refine ⟨_, rfl, ?_⟩
    refine Ya h.v e0 (wK d0 (sQ fun _ d2 => sR fun _ d3 => Ya (iV 0) rfl (wK d3 (blockQ fun d4 d5 => ?_))))
    obtain ⟨d6, d7, c⟩ := bs c
    have d8 : ∀ (G : List (List Bool)) (f : FV) (w : World), f 4 = (pB k) → f 8 = h.v → St w0 ros (box k 26 [hnil.v] :: row 93 rH h.v m :: fam 4 rB m G :: rs) w → G = d6 → d4 (.exit 0) (fr 65 f) w := by
     intro G f w W d9 b ho
     subst ho
     refine d5 _ _ _ (d2 _ _ (sR fun _ e1 => Ym h.v (eh d9) ?_))
     obtain ⟨i4, e2, c⟩ := bs c
     replace b := b.pk 3 [1, 1, 0] rfl
     replace b := b.ffz
     refine Yc wn rfl (yCall FN_67 (a1 e0)) (sparseref12_FromTable_ok e2 F0 b) ?_
     rintro _ w ⟨X, rfl, b⟩
     refine ⟨_, rfl, ?_⟩
     replace b := b.pk 2 [1, 0] rfl
     refine YT wn rfl (r_stbn (vals' := [X.v]) (us := [X.v]) b ST_26 (eh W) e0 rfl rfl (one_of rfl) rfl) ?_
     intro w b
     refine Ya (iV 0) rfl (wK e1 (wp_ret ?_))
     obtain rfl := someI c
     exact u _ _ _ (fin2r Tryz.results38 (rcs2 rfl W b R0 ST_26 rfl) ⟨rfl, rfl⟩ ⟨_, rfl, ((b.pk 2 [1] rfl).facts (allT allI))⟩)
    refine loopQ (fun s a w => ∃ (H : List (List Bool)) (i : Int) (f : FV), (H, i) = s ∧ a = fr 65 f ∧ f 1 = g.v ∧ f 4 = (pB k) ∧ f 7 = l.v ∧ f 8 = h.v ∧ f 9 = iV i ∧ St w0 ros (box k 26 [hnil.v] :: row 93 rH l.v q :: fam 4 rB q F :: row 93 rH h.v m :: fam 4 rB m H :: rs) w) d7 ⟨_, _, _, rfl, rfl, rfl, rfl, rfl, rfl, rfl, (b.pk 6 [4, 2, 2, 0, 0] rfl)⟩ ?_
    rintro _ _ w i5 ⟨H, i, f, rfl, rfl, Z, a0, e3, a3, a4, b⟩ o e4 i6 e5 e6
    refine seqQ fun i7 e7 e8 => sR fun _ e9 => Ym (iV i) (eh a4) (Ym g.v (eh Z) (yY (yLen SL_22 e0 b (rdI j)) (yY (ylss e0 e0) (wK e9 ?_))))
    rcases iteS o with ⟨I, o⟩ | ⟨I, o⟩
    ·refine cT e0 I (wp_skip (e7 _ _ (sQ fun _ f0 => blockQ fun _ f1 => sR fun _ f2 => Ya (iV 0) rfl (wK f2 (blockQ fun f3 f4 => ?_)))))
     obtain ⟨f5, f6, o⟩ := bs o
     have f7 : ∀ (J : List (List Bool)) (f : FV) (w : World), f 1 = g.v → f 4 = (pB k) → f 7 = l.v → f 8 = h.v → f 9 = iV i → St w0 ros (box k 26 [hnil.v] :: row 93 rH l.v q :: fam 4 rB q F :: row 93 rH h.v m :: fam 4 rB m J :: rs) w → J = f5 → f3 (.exit 2) (fr 65 f) w := by
      intro J f w f8 f9 g0 g1 g2 b ho
      subst ho
      refine f4 _ _ _ (f1 _ _ _ (f0 _ _ (wR (Ym (iV i) (eh g2) (yY (yadd e0 rfl) (Ya (iV (wa .i64 i 1)) e0 (wN ?_)))))))
      obtain rfl := someI o
      exact e5 _ _ _ rfl ⟨_, _, _, rfl, rfl, f8, f9, g0, g1, rfl, b⟩
     refine loopQ (fun s a w => ∃ (K : List (List Bool)) (n : Int) (f : FV), (K, n) = s ∧ a = fr 65 f ∧ f 1 = g.v ∧ f 4 = (pB k) ∧ f 7 = l.v ∧ f 8 = h.v ∧ f 9 = iV i ∧ f 10 = iV n ∧ St w0 ros (box k 26 [hnil.v] :: row 93 rH l.v q :: fam 4 rB q F :: row 93 rH h.v m :: fam 4 rB m K :: rs) w) f6 ⟨_, _, _, rfl, rfl, Z, a0, e3, a3, a4, rfl, b⟩ ?_
     rintro _ _ w i8 ⟨K, n, f, rfl, rfl, r, a5, L, N, y, z, b⟩ d g3 i9 g4 g5
     refine seqQ fun j0 g6 g7 => sR fun _ g8 => Ym (iV n) (eh z) (Ym g.v (eh r) (yY (yLen SL_22 e0 b (rdI j)) (yY (ylss e0 e0) (wK g8 ?_))))
     rcases iteS d with ⟨O, d⟩ | ⟨O, d⟩
     ·refine cT e0 O (wp_skip (g6 _ _ (sQ fun _ g9 => blockQ fun _ h0 => ?_)))
      obtain ⟨j1, R, d⟩ := bs d
      obtain ⟨j2, a6, d⟩ := bs d
      obtain ⟨j3, S, d⟩ := bs d
      obtain ⟨j4, a7, d⟩ := bs d
      obtain ⟨h1, a8, d⟩ := bs d
      obtain ⟨j5, a9, d⟩ := bs d
      obtain ⟨j6, h3, d⟩ := bs d
      refine dR [0, 0, 3, 7, 0, 0, 0, 0, 192, 448, 992, 2016, 0, 0, 12288, 28672, 65504, 131040, 262143, 524287] [19] 1 folM ?_
      replace b := b.drew
      refine Dn [0, 1, 2, 3, 4, 5, 6, 7, 8, 9, 10, 11, 12, 13, 14, 15, 16, 17, 18] [] [19] (yR rfl (m_ h.v (eh N)) (yR rfl (m_ (iV i) (eh y)) ?_))
      obtain ⟨j7, t⟩ := b.famI R4 R
      refine yR rfl (yIa SLH_98 e0 e0 b rO3 t) (yR rfl (yF1 O_93 e0 b rO3 t rfl) (yR rfl (m_ (iV n) (eh z)) (yR rfl (m_ l.v (eh L)) (yR rfl (m_ g.v (eh r)) (yR rfl (m_ (iV i) (eh y)) (yR rfl (yIa SL_22 e0 e0 b (rdI j) a6) (yR rfl (yI O_3 e0 b (rdI j) a6) ?_)))))))
      obtain ⟨j8, A⟩ := b.famI R2 S
      refine yR rfl (yIa SLH_98 e0 e0 b rO1 A) (yR rfl (yF1 O_93 e0 b rO1 A rfl) (yR rfl (m_ g.v (eh r)) (yR rfl (m_ (iV n) (eh z)) (yR rfl (yIa SL_22 e0 e0 b (rdI j) a7) (yR rfl (yI O_3 e0 b (rdI j) a7) (yR rfl (yIa SL_93 e0 e0 b (rdF R2 A S) a8) (yR rfl (yB O_4 e0 b (rdF R2 A S) a8) (yR rfl (yIs SL_93 e0 e0 b (rdF R4 t R) a9) (Rn QSn ?_)))))))))
      refine Lc1 rfl ?_
      replace b := b.pk 5 [4, 0, 0, 0, 0] rfl
      refine LT wn (r_sti (cs := [.bool h1]) (b.foc t R) O_4 rfl e0 e0 rfl mkB a9) ?_
      intro w b
      replace b := b.unfoc' t h3
      refine Dz [] [] (Rn QSn (h0 _ _ _ (g9 _ _ (wR (Ym (iV n) (eh z) (yY (yadd e0 rfl) (Ya (iV (wa .i64 n 1)) e0 (wN ?_))))))))
      obtain rfl := someI d
      exact g4 _ _ _ rfl ⟨_, _, _, rfl, rfl, r, a5, L, N, y, rfl, (b.pk 5 [1, 1, 1, 1, 0] rfl)⟩
     ·refine cF e0 O (wp_exit (g7 _ _ _ rfl ?_))
      obtain rfl := someI d
      exact g5 _ _ _ _ rfl rfl (f7 _ _ _ r a5 L N y b (g3 _ rfl))
    ·refine cF e0 I (wp_exit (e8 _ _ _ rfl ?_))
     obtain rfl := someI o
     exact e6 _ _ _ _ rfl rfl (d8 _ _ _ a0 a3 (b.pk 5 [0, 2, 2] rfl) (e4 _ rfl))
  ·refine condT e0 (nT (bfalse D)) (sR fun _ h5 => yY (ybuild (us := [hnil.v]) [] SO_26 bp0 rfl) (YT wn rfl (r_stbn (vals' := [hnil.v]) (us := [hnil.v]) b ST_26 e0 e0 rfl rfl (one_of rfl) rfl) ?_))
   intro w b
   refine Ya (iV 3) rfl (wK h5 (wp_ret (b9 _ _ _ rfl ?_)))
   obtain rfl := someI c
   replace b := b.rowNh 22 S1
   exact u _ _ _ (fin2r Tryz.results38 (rcs2 rfl rfl b R1 ST_26 rfl) ⟨rfl, rfl⟩ ⟨_, rfl, (b.pk 3 [0] rfl)⟩)
 ·refine condT e0 (nT (dF C)) (sR fun _ h6 => yY (ybuild (us := [hnil.v]) [] SO_26 bp0 rfl) (Ym (iV x) e0 (YT wn rfl (r_stbn (vals' := [hnil.v]) (us := [hnil.v]) b ST_26 e0 e0 rfl rfl (one_of rfl) rfl) ?_)))
  intro w b
  refine Ya (iV x) e0 (wK h6 (wp_ret (b2 _ _ _ rfl ?_)))
  obtain rfl := someI c
  replace b := b.rowNh 22 S1
  exact u _ _ _ (fin2r Tryz.results38 (rcs2 rfl rfl b R1 ST_26 rfl) ⟨rfl, rfl⟩ ⟨_, rfl, (b.pk 3 [0] rfl)⟩)
theorem sparselaw18_DissectParts_ok {b0 : Int} {e1 : LI} {b1 : Int} {a3 : Hdr} {out : Bool} (c : sparselaw18_DissectParts b0 e1 b1 = some out) (v6 : out = true) (e2 : imm I1 a3.v e1 ∈ ros) (b : St w0 ros rs w) :
  Calls Tryz.prog 7 #[iV b0, a3.v, iV b1] w (fun e w => e = .returned (.bool out) ∧ St w0 ros rs w) := by
 refine enterQ Tryz.func7 rfl Tryz.ntmps7 rfl fun Q N => sR fun _ j0 => Ya (.bool false) rfl (wK j0 (seqQ fun v7 j5 j6 => sR fun _ j7 => Ym a3.v e0 (yY (yLen SL_22 e0 b (rdI e2)) (yY (ygtr e0 rfl) (wK j7 ?_)))))
 rcases iteS c with ⟨b2, c⟩ | ⟨b2, c⟩
 ·refine cT e0 b2 (sR fun _ j8 => ?_)
  obtain ⟨j9, k0, c⟩ := bs c
  refine Yc wn rfl (yCall FN_8 a0) (sparselaw18_awake_ok k0 b) ?_
  rintro _ w ⟨rfl, b⟩
  refine ⟨_, rfl, ?_⟩
  refine Ya (.bool j9) e0 (wK j8 (wp_ret (j6 _ _ _ rfl ?_)))
  obtain rfl := someI c
  exact N _ _ _ (fin1r Tryz.results7 ⟨rfl, rfl⟩ ⟨rfl, b⟩)
 ·refine cF e0 b2 (wp_skip (j5 _ _ (sR fun _ l0 => Ym (iV b0) e0 ?_)))
  obtain ⟨q, l1, c⟩ := bs c
  refine Yc wn rfl (yCall FN_10 (a2 e0 rfl)) (sparsekit_Place_ok l1 b) ?_
  rintro _ w ⟨rfl, b⟩
  refine ⟨_, rfl, ?_⟩
  refine Ya (iV q) e0 (wK l0 (sR fun _ l2 => Ym (iV b1) e0 ?_))
  obtain ⟨r, l3, c⟩ := bs c
  refine Yc wn rfl (yCall FN_10 (a2 e0 rfl)) (sparsekit_Place_ok l3 b) ?_
  rintro _ w ⟨rfl, b⟩
  refine ⟨_, rfl, ?_⟩
  refine yY (yadd rfl e0) (Ya (iV (wa .i64 1 r)) e0 (wK l2 (sR fun _ l4 => Ym (iV q) e0 (Ym a3.v e0 ?_))))
  obtain ⟨O, l5, c⟩ := bs c
  refine Yc wn rfl (yCall FN_35 (a2 e0 e0)) (sparsemake_Graph_ok l5 e2 b) ?_
  rintro _ w ⟨o, rfl, b⟩
  refine ⟨_, rfl, ?_⟩
  refine YB wn rfl (rAl b ZT_26) ?_
  intro x w b
  refine YT wn rfl (r_stbn (vals' := [o.v]) (us := [o.v]) b ST_26 e0 e0 rfl rfl (one_of rfl) rfl) ?_
  intro w b
  refine wK l4 (sR fun _ l6 => yY (lbs_ [o.v] ST_26 e0 b R0) ?_)
  obtain ⟨d, l7, c⟩ := bs c
  replace b := b.pk 2 [1, 0] rfl
  replace b := b.fz
  refine Yc wn rfl (yCall FN_27 (a1 e0)) (dissect_Separate_ok l7 F0 b) ?_
  rintro _ w ⟨g, h, i, rfl, b⟩
  refine ⟨_, rfl, ?_⟩
  refine Ym (.tuple #[.agg #[g.v, h.v, i.v], iV d.2.2.2]) e0 (yY (x_ (.agg #[g.v, h.v, i.v]) e0) (yY (x_ (iV d.2.2.2) e0) (YB wn rfl (rAl b ZT_46) ?_)))
  intro m w b
  refine YT wn rfl (r_stbn (vals' := [g.v, h.v, i.v]) (us := [g.v, h.v, i.v]) b ST_46 e0 e0 rfl rfl (one_of rfl) rfl) ?_
  intro w b
  refine Ya (iV d.2.2.2) e0 (wK l6 (sR fun _ l8 => yY (lbs_ [o.v] ST_26 e0 b R4) (Ym (iV (wa .i64 1 r)) e0 ?_)))
  obtain ⟨p, l9, c⟩ := bs c
  refine Yc wn rfl (yCall FN_29 (a2 e0 e0)) (dissect_Order_ok l9 F0 b) ?_
  rintro _ w ⟨k, rfl, b⟩
  refine ⟨_, rfl, ?_⟩
  refine Ym (.tuple #[k.v, iV p.2]) e0 (yY (x_ k.v e0) (yY (x_ (iV p.2) e0) (Ya k.v e0 (Ya (iV p.2) e0 (wK l8 (seqQ fun v8 m0 m1 => sR fun _ m2 => Ym (iV d.2.2.2) e0 (yY (yneq e0 rfl) (Ym (.bool (!(decide (d.2.2.2 = 0)))) e0 ?_))))))))
  refine joinW 3 (fun f w => f 0 = iV q ∧ f 2 = iV (wa .i64 1 r) ∧ f 7 = (pB x) ∧ f 8 = (pB m) ∧ f 10 = k.v ∧ f 47 = .bool ((!(decide (d.2.2.2 = 0))) || (!(decide (p.2 = 0)))) ∧ St w0 (imm S1 o.v O :: ros) (box x 26 [o.v] :: row 3 I1 g.v d.1 :: row 3 I1 h.v d.2.1 :: row 3 I1 i.v d.2.2.1 :: box m 46 [g.v, h.v, i.v] :: row 3 I1 k.v p.1 :: rs) w) (fun e3 => ?_) ?_
  ·rcases Bool.eq_false_or_eq_true (!(decide (d.2.2.2 = 0))) with K | K
   ·exact gN K (gN K (yY (pt_ (.bool true) e0 K rfl) (e3 _ _ ⟨rfl, rfl, rfl, rfl, rfl, (congrArg Value.bool (orT K)), (b.pk 6 [5, 2, 2, 2, 1, 0] rfl)⟩)))
   ·exact yG K (m_ (iV p.2) e0) (yG K (yneq e0 rfl) (yY (pf_ (.bool (!(decide (p.2 = 0)))) e0 K e0) (e3 _ _ ⟨rfl, rfl, rfl, rfl, rfl, (congrArg Value.bool (orF K)), (b.pk 6 [5, 2, 2, 2, 1, 0] rfl)⟩)))
  rintro f w ⟨b3, e4, e5, e6, b4, m3, b⟩
  refine Ym (.bool ((!(decide (d.2.2.2 = 0))) || (!(decide (p.2 = 0))))) (eh m3) ?_
  obtain ⟨m4, R, c⟩ := bs c
  refine joinW 5 (fun f w => f 0 = iV q ∧ f 2 = iV (wa .i64 1 r) ∧ f 7 = (pB x) ∧ f 8 = (pB m) ∧ f 10 = k.v ∧ f 53 = .bool m4 ∧ St w0 (imm S1 o.v O :: imm I1 k.v p.1 :: ros) (box x 26 [o.v] :: row 3 I1 g.v d.1 :: row 3 I1 h.v d.2.1 :: row 3 I1 i.v d.2.2.1 :: box m 46 [g.v, h.v, i.v] :: rs) w) (fun e7 => ?_) ?_
  ·rcases iteS R with ⟨G, R⟩ | ⟨G, R⟩
   ·refine gN G (gN G (gN G (gN G (yY (pt_ (.bool true) e0 G rfl) ?_))))
    obtain rfl := someI R
    replace b := b.pk 6 [5, 0, 0, 0, 0, 0] rfl
    replace b := b.fz
    exact e7 _ _ ⟨b3, e4, e5, e6, b4, rfl, (b.facts (allC F1 (allC F0 (allT (allT allI)))))⟩
   ·refine yG (bfalse G) (m_ k.v (eh b4)) (yG (bfalse G) (m_ (iV q) (eh b3)) ?_)
    obtain ⟨m5, m6, R⟩ := bs R
    replace b := b.pk 6 [5, 0, 0, 0, 0, 0] rfl
    replace b := b.fz
    refine Yc (wG (bfalse G)) rfl (yCall FN_36 (a2 e0 e0)) (sparsekit_Perm_ok m6 F0 b) ?_
    rintro _ w ⟨rfl, b⟩
    refine ⟨_, rfl, ?_⟩
    refine yG (bfalse G) (ynot e0) (yY (pf_ (.bool (!m5)) e0 (bfalse G) e0) ?_)
    obtain rfl := someI R
    exact e7 _ _ ⟨b3, e4, e5, e6, b4, rfl, (b.facts (allC F1 (allC F0 (allT (allT allI)))))⟩
  rintro f w ⟨b5, b6, e8, I, S, e9, b⟩
  refine wK m2 ?_
  rcases iteS c with ⟨b7, c⟩ | ⟨b7, c⟩
  ·refine condT (eh e9) b7 (sR fun _ m7 => Ya (.bool false) rfl (wK m7 (wp_ret (m1 _ _ _ rfl ?_))))
   obtain rfl := someI c
   exact N _ _ _ (fin1r Tryz.results7 ⟨rfl, rfl⟩ ⟨rfl, ((b.pk 5 [] rfl).facts (allT (allT allI)))⟩)
  ·refine condF (eh e9) (bfalse b7) (wp_skip (m0 _ _ (seqQ fun v9 m8 m9 => sR fun _ n0 => Ym (iV q) (eh b5) (Ym (iV (wa .i64 1 r)) (eh b6) (yY (yleq e0 e0) (Ym (.bool (decide (q ≤ (wa .i64 1 r)))) e0 ?_))))))
   refine joinW 5 (fun f w => f 0 = iV q ∧ f 2 = iV (wa .i64 1 r) ∧ f 7 = (pB x) ∧ f 8 = (pB m) ∧ f 10 = k.v ∧ f 62 = .bool ((decide (q ≤ (wa .i64 1 r))) || (decide ((d.1.length : Int) = 0))) ∧ St w0 (imm S1 o.v O :: imm I1 k.v p.1 :: ros) (box x 26 [o.v] :: row 3 I1 g.v d.1 :: row 3 I1 h.v d.2.1 :: row 3 I1 i.v d.2.2.1 :: box m 46 [g.v, h.v, i.v] :: rs) w) (fun f0 => ?_) ?_
   ·rcases Bool.eq_false_or_eq_true (decide (q ≤ (wa .i64 1 r))) with B | B
    ·exact gN B (gN B (gN B (gN B (yY (pt_ (.bool true) e0 B rfl) (f0 _ _ ⟨b5, b6, e8, I, S, (congrArg Value.bool (orT B)), b⟩)))))
    ·exact yG B (yFb FL_46_0 (eh I)) (yG B (lb_ g.v O_22 e0 b R4) (yG B (yLen SL_22 e0 b rO1) (yG B (yeql e0 rfl) (yY (pf_ (.bool (decide ((d.1.length : Int) = 0))) e0 B e0) (f0 _ _ ⟨b5, b6, e8, I, S, (congrArg Value.bool (orF B)), b⟩)))))
   rintro f w ⟨f1, f2, f3, b8, f4, n1, b⟩
   refine Ym (.bool ((decide (q ≤ (wa .i64 1 r))) || (decide ((d.1.length : Int) = 0)))) (eh n1) ?_
   refine joinW 5 (fun f w => f 0 = iV q ∧ f 2 = iV (wa .i64 1 r) ∧ f 7 = (pB x) ∧ f 8 = (pB m) ∧ f 10 = k.v ∧ f 68 = .bool (((decide (q ≤ (wa .i64 1 r))) || (decide ((d.1.length : Int) = 0))) || (decide ((d.2.1.length : Int) = 0))) ∧ St w0 (imm S1 o.v O :: imm I1 k.v p.1 :: ros) (box x 26 [o.v] :: row 3 I1 g.v d.1 :: row 3 I1 h.v d.2.1 :: row 3 I1 i.v d.2.2.1 :: box m 46 [g.v, h.v, i.v] :: rs) w) (fun f5 => ?_) ?_
   ·rcases Bool.eq_false_or_eq_true ((decide (q ≤ (wa .i64 1 r))) || (decide ((d.1.length : Int) = 0))) with C | C
    ·exact gN C (gN C (gN C (gN C (yY (pt_ (.bool true) e0 C rfl) (f5 _ _ ⟨f1, f2, f3, b8, f4, (congrArg Value.bool (orT C)), b⟩)))))
    ·exact yG C (yFb FL_46_1 (eh b8)) (yG C (lb_ h.v O_22 e0 b R4) (yG C (yLen SL_22 e0 b rO2) (yG C (yeql e0 rfl) (yY (pf_ (.bool (decide ((d.2.1.length : Int) = 0))) e0 C e0) (f5 _ _ ⟨f1, f2, f3, b8, f4, (congrArg Value.bool (orF C)), b⟩)))))
   rintro f w ⟨f6, n2, n3, a4, n4, f7, b⟩
   refine wK n0 ?_
   rcases iteS c with ⟨b9, c⟩ | ⟨b9, c⟩
   ·refine condT (eh f7) b9 (sR fun _ n5 => ?_)
    obtain ⟨n6, n7, c⟩ := bs c
    refine Yc wn rfl (yCall FN_8 a0) (sparselaw18_awake_ok n7 b) ?_
    rintro _ w ⟨rfl, b⟩
    refine ⟨_, rfl, ?_⟩
    refine Ya (.bool n6) e0 (wK n5 (wp_ret (m9 _ _ _ rfl ?_)))
    obtain rfl := someI c
    exact N _ _ _ (fin1r Tryz.results7 ⟨rfl, rfl⟩ ⟨rfl, ((b.pk 5 [] rfl).facts (allT (allT allI)))⟩)
   ·refine condF (eh f7) (bfalse b9) (wp_skip (m8 _ _ (seqQ fun w1 n8 o0 => sR fun _ o1 => yY (yFb FL_46_0 (eh a4)) (yY (lb_ g.v O_22 e0 b R4) (yY (yLen SL_22 e0 b rO1) (yY (yFb FL_46_1 (eh a4)) (yY (lb_ h.v O_22 e0 b R4) (yY (yLen SL_22 e0 b rO2) (yY (yadd e0 e0) (yY (yFb FL_46_2 (eh a4)) ?_))))))))))
    refine yY (lb_ i.v O_22 e0 b R4) (yY (yLen SL_22 e0 b rO3) (yY (yadd e0 e0) (Ym (iV q) (eh f6) (yY (yneq e0 e0) (wK o1 ?_)))))
    rcases iteS c with ⟨c0, c⟩ | ⟨c0, c⟩
    ·refine condF e0 (nF (dT c0)) (wp_skip (n8 _ _ (seqQ fun w2 o2 o3 => sR fun _ o4 => Ya (iV 0) rfl (wK o4 (blockQ fun f8 f9 => ?_)))))
     replace b := b.pk 2 [1, 0] rfl
     replace b := b.fz
     replace b := b.pk 2 [1, 0] rfl
     replace b := b.fz
     replace b := b.pk 2 [1, 0] rfl
     replace b := b.fz
     obtain ⟨g0, o5, c⟩ := bs c
     have o6 : ∀ (f : FV) (w : World), f 2 = iV (wa .i64 1 r) → f 7 = (pB x) → f 8 = (pB m) → f 10 = k.v → St w0 (imm S1 o.v O :: imm I1 g.v d.1 :: imm I1 h.v d.2.1 :: imm I1 i.v d.2.2.1 :: imm I1 k.v p.1 :: ros) (box x 26 [o.v] :: box m 46 [g.v, h.v, i.v] :: rs) w → .inl () = g0 → f8 (.exit 0) (fr 175 f) w := by
      intro f w o7 o8 a5 g1 b ho
      subst ho
      refine f9 _ _ _ (o2 _ _ (sR fun _ p0 => yY (lbs_ [o.v] ST_26 (eh o8) b R0) (yY (yFb FL_46_0 (eh a5)) (yY (lb_ g.v O_22 e0 b R1) ?_))))
      obtain ⟨c1, p1, c⟩ := bs c
      refine Yc wn rfl (yCall FN_38 (a2 e0 e0)) (sparseref12_Induced_ok p1 F0 F1 b) ?_
      rintro _ w ⟨X, rfl, b⟩
      refine ⟨_, rfl, ?_⟩
      refine Ym (.tuple #[.agg #[X.v], iV c1.2]) e0 (yY (x_ (.agg #[X.v]) e0) (yY (x_ (iV c1.2) e0) (YB wn rfl (rAl b ZT_26) ?_)))
      intro w3 w b
      refine YT wn rfl (r_stbn (vals' := [X.v]) (us := [X.v]) b ST_26 e0 e0 rfl rfl (one_of rfl) rfl) ?_
      intro w b
      refine Ya (iV c1.2) e0 (wK p0 (sR fun _ p2 => yY (lbs_ [X.v] ST_26 e0 b R0) (Ym (iV (wa .i64 1 r)) (eh o7) ?_)))
      obtain ⟨F, p3, c⟩ := bs c
      replace b := b.pk 2 [1, 0] rfl
      replace b := b.fz
      refine Yc wn rfl (yCall FN_29 (a2 e0 e0)) (dissect_Order_ok p3 F0 b) ?_
      rintro _ w ⟨t, rfl, b⟩
      refine ⟨_, rfl, ?_⟩
      refine Ym (.tuple #[t.v, iV F.2]) e0 (yY (x_ t.v e0) (yY (x_ (iV F.2) e0) (Ya t.v e0 (Ya (iV F.2) e0 (wK p2 (seqQ fun w4 p4 p5 => sR fun _ p6 => Ym (iV F.2) e0 (yY (yneq e0 rfl) (Ym (.bool (!(decide (F.2 = 0)))) e0 ?_))))))))
      refine joinW 7 (fun f w => f 8 = (pB m) ∧ f 10 = k.v ∧ f 16 = t.v ∧ f 137 = .bool ((!(decide (F.2 = 0))) || (!(decide ((F.1.length : Int) = (d.1.length : Int))))) ∧ St w0 (imm I1 g.v d.1 :: imm I1 h.v d.2.1 :: imm I1 i.v d.2.2.1 :: imm I1 k.v p.1 :: ros) (box m 46 [g.v, h.v, i.v] :: row 3 I1 t.v F.1 :: rs) w) (fun g2 => ?_) ?_
      ·rcases Bool.eq_false_or_eq_true (!(decide (F.2 = 0))) with u | u
       ·exact gN u (gN u (gN u (gN u (gN u (gN u (yY (pt_ (.bool true) e0 u rfl) (g2 _ _ ⟨a5, g1, rfl, (congrArg Value.bool (orT u)), ((b.pk 4 [3, 0] rfl).facts (allC F2 (allC F3 (allC F4 (allC F5 (allT (allT (allT (allT (allT (allT allI)))))))))))⟩)))))))
       ·exact yG u (m_ t.v e0) (yG u (yLen SL_22 e0 b rO0) (yG u (yFb FL_46_0 (eh a5)) (yG u (lb_ g.v O_22 e0 b R3) (yG u (yLen SL_22 e0 b (rdI F2)) (yG u (yneq e0 e0) (yY (pf_ (.bool (!(decide ((F.1.length : Int) = (d.1.length : Int))))) e0 u e0) (g2 _ _ ⟨a5, g1, rfl, (congrArg Value.bool (orF u)), ((b.pk 4 [3, 0] rfl).facts (allC F2 (allC F3 (allC F4 (allC F5 (allT (allT (allT (allT (allT (allT allI)))))))))))⟩)))))))
      rintro f w ⟨p7, p8, p9, g3, b⟩
      refine wK p6 ?_
      rcases iteS c with ⟨c2, c⟩ | ⟨c2, c⟩
      ·refine condT (eh g3) c2 (sR fun _ q0 => Ya (.bool false) rfl (wK q0 (wp_ret (p5 _ _ _ rfl ?_))))
       obtain rfl := someI c
       exact N _ _ _ (fin1r Tryz.results7 ⟨rfl, rfl⟩ ⟨rfl, ((b.pk 2 [] rfl).facts (allT (allT (allT (allT allI)))))⟩)
      ·refine condF (eh g3) (bfalse c2) (wp_skip (p4 _ _ (seqQ fun w5 q2 q3 => sR fun _ q4 => Ya (iV 0) rfl (wK q4 (blockQ fun g4 g5 => ?_)))))
       obtain ⟨g6, q5, c⟩ := bs c
       have q6 : ∀ (f : FV) (w : World), St w0 ros rs w → .inl () = g6 → g4 (.exit 2) (fr 175 f) w := by
        intro f w b ho
        subst ho
        refine g5 _ _ _ (q2 _ _ (sR fun _ q7 => ?_))
        obtain ⟨q8, q9, c⟩ := bs c
        refine Yc wn rfl (yCall FN_8 a0) (sparselaw18_awake_ok q9 b) ?_
        rintro _ w ⟨rfl, b⟩
        refine ⟨_, rfl, ?_⟩
        refine Ya (.bool q8) e0 (wK q7 (wp_ret ?_))
        obtain rfl := someI c
        exact N _ _ _ (fin1r Tryz.results7 ⟨rfl, rfl⟩ ⟨rfl, b⟩)
       have r0 : ∀ (f : FV) (w : World), f 6 = .bool false → St w0 ros rs w → .inr () = g6 → g4 .ret (fr 175 f) w := by
        intro f w r1 b ho
        subst ho
        refine g5 _ _ _ (q3 _ _ _ rfl ?_)
        obtain rfl := someI c
        exact N _ _ _ (fin1r Tryz.results7 ⟨rfl, r1⟩ ⟨rfl, b⟩)
       refine loopQ (fun s a w => ∃ (A : Int) (f : FV), A = s ∧ a = fr 175 f ∧ f 8 = (pB m) ∧ f 10 = k.v ∧ f 16 = t.v ∧ f 18 = iV A ∧ St w0 (imm I1 g.v d.1 :: imm I1 h.v d.2.1 :: imm I1 i.v d.2.2.1 :: imm I1 k.v p.1 :: ros) (box m 46 [g.v, h.v, i.v] :: row 3 I1 t.v F.1 :: rs) w) q5 ⟨_, _, rfl, rfl, p7, p8, p9, rfl, b⟩ ?_
       rintro _ _ w w6 ⟨A, f, rfl, rfl, I, S, J, H, b⟩ y g7 w7 r2 g8
       refine seqQ fun w8 r3 r4 => sR fun _ r5 => Ym (iV A) (eh H) (Ym t.v (eh J) (yY (yLen SL_22 e0 b rO1) (yY (ylss e0 e0) (wK r5 ?_))))
       rcases iteS y with ⟨c3, y⟩ | ⟨c3, y⟩
       ·refine cT e0 c3 (wp_skip (r3 _ _ (seqQ fun w9 s0 s1 => blockQ fun _ g9 => sQ fun _ s2 => ?_)))
        obtain ⟨c4, V, y⟩ := bs y
        obtain ⟨T, U, y⟩ := bs y
        obtain ⟨a6, D, y⟩ := bs y
        refine joinN (n := 175) (fun f w => f 8 = (pB m) ∧ f 10 = k.v ∧ f 16 = t.v ∧ f 18 = iV A ∧ f 173 = .bool a6 ∧ St w0 (imm I1 g.v d.1 :: imm I1 h.v d.2.1 :: imm I1 i.v d.2.2.1 :: imm I1 k.v p.1 :: ros) (box m 46 [g.v, h.v, i.v] :: row 3 I1 t.v F.1 :: rs) w) (fun c6 => ?_) ?_
        ·rcases iteS U with ⟨l, U⟩ | ⟨l, U⟩
         ·have h0 := someI U
          have z : T = true := h0.symm
          rw [if_pos z] at D
          have s3 := someI D
          refine dR [0, 0, 3, 7, 15, 31, 63, 63, 255, 511, 63, 1087, 3135, 8191, 16383, 32767, 65535, 65535, 262143, 524287, 65535, 1114111, 65535, 65535, 12648447, 29425663, 66125823, 133234687, 268435455, 536870911] [] 0 folM ?_
          replace b := b.drew
          refine Dz [0, 1, 2, 3, 4, 5, 6, 7, 8, 9, 10, 11, 12, 13, 14, 15, 16, 17, 18, 19, 20, 21, 22, 23, 24, 25, 26, 27, 28, 29] [] (yR rfl (m_ t.v (eh J)) (yR rfl (m_ (iV A) (eh H)) (yR rfl (yIa SL_22 e0 e0 b rO1 V) (yR rfl (yI O_3 e0 b rO1 V) (yR rfl (ylss e0 rfl) (yR rfl (m_ (.bool (decide (c4 < 0))) e0) (Rx rfl rfl (wX (dT l)) (Rx rfl rfl (wX (dT l)) (Rx rfl rfl (wX (dT l)) (Rx rfl rfl (wX (dT l)) (Rx rfl rfl (wX (dT l)) (Rx rfl rfl (wX (dT l)) (Rx rfl rfl (wX (dT l)) ?_)))))))))))))
          refine Rx rfl rfl (wX (dT l)) (yR rfl (pt_ (.bool T) e0 (dT l) (eqv h0 rfl)) (yR rfl (m_ (.bool T) e0) (Rx rfl rfl (wX z) (Rx rfl rfl (wX z) (Rx rfl rfl (wX z) (Rx rfl rfl (wX z) (Rx rfl rfl (wX z) (Rx rfl rfl (wX z) (Rx rfl rfl (wX z) (Rx rfl rfl (wX z) (Rx rfl rfl (wX z) (Rx rfl rfl (wX z) (Rx rfl rfl (wX z) ?_)))))))))))))
          exact Rx rfl rfl (wX z) (Rx rfl rfl (wX z) (yR rfl (pt_ (.bool a6) e0 z (eqv s3 rfl)) (Rn QSn (c6 _ _ ⟨I, S, J, H, rfl, b⟩))))
         ·obtain ⟨x0, a7, U⟩ := bs U
          have h1 := someI U
          rcases iteS D with ⟨j, D⟩ | ⟨j, D⟩
          ·have s4 := someI D
           refine dR [0, 0, 3, 7, 15, 31, 63, 63, 255, 511, 63, 1087, 3135, 8191, 16383, 32767, 65535, 65535, 262143, 524287, 65535, 1114111, 65535, 65535, 12648447, 29425663, 66125823, 133234687, 268435455, 536870911] [] 0 folM ?_
           replace b := b.drew
           refine Dz [0, 1, 2, 3, 4, 5, 6, 7, 8, 9, 10, 11, 12, 13, 14, 15, 16, 17, 18, 19, 20, 21, 22, 23, 24, 25, 26, 27, 28, 29] [] (yR rfl (m_ t.v (eh J)) (yR rfl (m_ (iV A) (eh H)) (yR rfl (yIa SL_22 e0 e0 b rO1 V) (yR rfl (yI O_3 e0 b rO1 V) (yR rfl (ylss e0 rfl) (yR rfl (m_ (.bool (decide (c4 < 0))) e0) (Ry rfl rfl (wG (dF l)) (m_ t.v (eh J)) (Ry rfl rfl (wG (dF l)) (m_ (iV A) (eh H)) (Ry rfl rfl (wG (dF l)) (yIa SL_22 e0 e0 b rO1 a7) (Ry rfl rfl (wG (dF l)) (yI O_3 e0 b rO1 a7) (Ry rfl rfl (wG (dF l)) (yFb FL_46_0 (eh I)) (Ry rfl rfl (wG (dF l)) (lb_ g.v O_22 e0 b R0) (Ry rfl rfl (wG (dF l)) (yLen SL_22 e0 b (rdI F0)) ?_)))))))))))))
           refine Ry rfl rfl (wG (dF l)) (ygeq e0 e0) (yR rfl (pf_ (.bool T) e0 (dF l) (eqv h1 e0)) (yR rfl (m_ (.bool T) e0) (Rx rfl rfl (wX j) (Rx rfl rfl (wX j) (Rx rfl rfl (wX j) (Rx rfl rfl (wX j) (Rx rfl rfl (wX j) (Rx rfl rfl (wX j) (Rx rfl rfl (wX j) (Rx rfl rfl (wX j) (Rx rfl rfl (wX j) (Rx rfl rfl (wX j) (Rx rfl rfl (wX j) ?_)))))))))))))
           exact Rx rfl rfl (wX j) (Rx rfl rfl (wX j) (yR rfl (pt_ (.bool a6) e0 j (eqv s4 rfl)) (Rn QSn (c6 _ _ ⟨I, S, J, H, rfl, b⟩))))
          ·obtain ⟨x3, h2, D⟩ := bs D
           obtain ⟨x5, h4, D⟩ := bs D
           obtain ⟨x6, h5, D⟩ := bs D
           have s5 := someI D
           refine dR [0, 0, 3, 7, 15, 31, 63, 63, 255, 511, 63, 1087, 3135, 8191, 16383, 32767, 65535, 65535, 262143, 524287, 65535, 1114111, 65535, 65535, 12648447, 29425663, 66125823, 133234687, 268435455, 536870911] [] 0 folM ?_
           replace b := b.drew
           refine Dz [0, 1, 2, 3, 4, 5, 6, 7, 8, 9, 10, 11, 12, 13, 14, 15, 16, 17, 18, 19, 20, 21, 22, 23, 24, 25, 26, 27, 28, 29] [] (yR rfl (m_ t.v (eh J)) (yR rfl (m_ (iV A) (eh H)) (yR rfl (yIa SL_22 e0 e0 b rO1 V) (yR rfl (yI O_3 e0 b rO1 V) (yR rfl (ylss e0 rfl) (yR rfl (m_ (.bool (decide (c4 < 0))) e0) (Ry rfl rfl (wG (dF l)) (m_ t.v (eh J)) (Ry rfl rfl (wG (dF l)) (m_ (iV A) (eh H)) (Ry rfl rfl (wG (dF l)) (yIa SL_22 e0 e0 b rO1 a7) (Ry rfl rfl (wG (dF l)) (yI O_3 e0 b rO1 a7) (Ry rfl rfl (wG (dF l)) (yFb FL_46_0 (eh I)) (Ry rfl rfl (wG (dF l)) (lb_ g.v O_22 e0 b R0) (Ry rfl rfl (wG (dF l)) (yLen SL_22 e0 b (rdI F0)) ?_)))))))))))))
           refine Ry rfl rfl (wG (dF l)) (ygeq e0 e0) (yR rfl (pf_ (.bool T) e0 (dF l) (eqv h1 e0)) (yR rfl (m_ (.bool T) e0) (Ry rfl rfl (wG (bfalse j)) (m_ k.v (eh S)) (Ry rfl rfl (wG (bfalse j)) (m_ (iV A) (eh H)) (Ry rfl rfl (wG (bfalse j)) (yIa SL_22 e0 e0 b (rdI F3) h2) (Ry rfl rfl (wG (bfalse j)) (yI O_3 e0 b (rdI F3) h2) (Ry rfl rfl (wG (bfalse j)) (yFb FL_46_0 (eh I)) (Ry rfl rfl (wG (bfalse j)) (lb_ g.v O_22 e0 b R0) (Ry rfl rfl (wG (bfalse j)) (m_ t.v (eh J)) (Ry rfl rfl (wG (bfalse j)) (m_ (iV A) (eh H)) (Ry rfl rfl (wG (bfalse j)) (yIa SL_22 e0 e0 b rO1 h4) (Ry rfl rfl (wG (bfalse j)) (yI O_3 e0 b rO1 h4) (Ry rfl rfl (wG (bfalse j)) (yIa SL_22 e0 e0 b (rdI F0) h5) ?_)))))))))))))
           exact Ry rfl rfl (wG (bfalse j)) (yI O_3 e0 b (rdI F0) h5) (Ry rfl rfl (wG (bfalse j)) (yneq e0 e0) (yR rfl (pf_ (.bool a6) e0 (bfalse j) (eqv s5 e0)) (Rn QSn (c6 _ _ ⟨I, S, J, H, rfl, b⟩))))
        rintro f w ⟨s6, s7, s8, s9, h6, b⟩
        refine s2 _ _ ?_
        rcases iteS y with ⟨c7, y⟩ | ⟨c7, y⟩
        ·refine condT (eh h6) c7 (sR fun _ t0 => Ya (.bool false) rfl (wK t0 (wp_ret (g9 _ _ _ (s1 _ _ _ rfl ?_)))))
         obtain rfl := someI y
         exact g8 _ _ _ _ rfl rfl (r0 _ _ rfl ((b.pk 2 [] rfl).facts (allT (allT (allT (allT allI))))) (g7 _ rfl))
        ·refine condF (eh h6) (bfalse c7) (wp_skip (g9 _ _ _ (s0 _ _ (wR (Ym (iV A) (eh s9) (yY (yadd e0 rfl) (Ya (iV (wa .i64 A 1)) e0 (wN ?_))))))))
         obtain rfl := someI y
         exact r2 _ _ _ rfl ⟨_, _, rfl, rfl, s6, s7, s8, rfl, b⟩
       ·refine cF e0 c3 (wp_exit (r4 _ _ _ rfl ?_))
        obtain rfl := someI y
        exact g8 _ _ _ _ rfl rfl (q6 _ _ ((b.pk 2 [] rfl).facts (allT (allT (allT (allT allI))))) (g7 _ rfl))
     have t1 : ∀ (f : FV) (w : World), f 6 = .bool false → St w0 ros rs w → .inr () = g0 → f8 .ret (fr 175 f) w := by
      intro f w t2 b ho
      subst ho
      refine f9 _ _ _ (o3 _ _ _ rfl ?_)
      obtain rfl := someI c
      exact N _ _ _ (fin1r Tryz.results7 ⟨rfl, t2⟩ ⟨rfl, b⟩)
     refine loopQ (fun s a w => ∃ (E : Int) (f : FV), E = s ∧ a = fr 175 f ∧ f 0 = iV q ∧ f 2 = iV (wa .i64 1 r) ∧ f 7 = (pB x) ∧ f 8 = (pB m) ∧ f 10 = k.v ∧ f 12 = iV E ∧ St w0 (imm S1 o.v O :: imm I1 g.v d.1 :: imm I1 h.v d.2.1 :: imm I1 i.v d.2.2.1 :: imm I1 k.v p.1 :: ros) (box x 26 [o.v] :: box m 46 [g.v, h.v, i.v] :: rs) w) o5 ⟨_, _, rfl, rfl, f6, n2, n3, a4, n4, rfl, (b.facts (allC F3 (allC F2 (allC F1 (allC F0 (allC F4 (allT (allT (allT (allT (allT allI)))))))))))⟩ ?_
     rintro _ _ w h7 ⟨E, f, rfl, rfl, c8, c9, d0, W, d1, a8, b⟩ L h8 x7 t3 h9
     refine seqQ fun x8 t4 t5 => sR fun _ t6 => Ym (iV E) (eh a8) (Ym (iV q) (eh c8) (yY (ylss e0 e0) (wK t6 ?_)))
     rcases iteS L with ⟨d2, L⟩ | ⟨d2, L⟩
     ·refine cT e0 d2 (wp_skip (t4 _ _ (seqQ fun x9 t7 t8 => blockQ fun _ i0 => sR fun _ t9 => yY (yFb FL_46_0 (eh W)) (yY (lb_ g.v O_22 e0 b R1) (Ya g.v e0 (wK t9 (sQ fun u0 u1 => sQ fun _ u2 => ?_)))))))
      refine wR (Ym (iV E) (eh a8) (yY (yFb FL_46_0 (eh W)) (yY (lb_ g.v O_22 e0 b R1) (yY (yLen SL_22 e0 b (rdI F1)) (yY (ygeq e0 e0) (wK u2 ?_))))))
      have i1 : ∀ (d3 : LI) (d4 : Hdr) (f : FV) (w : World), f 0 = iV q → f 2 = iV (wa .i64 1 r) → f 7 = (pB x) → f 8 = (pB m) → f 10 = k.v → f 12 = iV E → f 13 = d4.v → St w0 (imm S1 o.v O :: imm I1 g.v d.1 :: imm I1 h.v d.2.1 :: imm I1 i.v d.2.2.1 :: imm I1 k.v p.1 :: imm I1 d4.v d3 :: ros) (box x 26 [o.v] :: box m 46 [g.v, h.v, i.v] :: rs) w → sparselaw18_DissectParts_j30 d E p d3 = some h7 → u0 .normal (fr 175 f) w := by
       intro d3 d4 f w i2 i3 i4 Z i5 d5 u3 b c
       refine u1 _ _ (sQ fun u4 u5 => sR fun _ u6 => Ym (iV E) (eh d5) (yY (yFb FL_46_0 (eh Z)) (yY (lb_ g.v O_22 e0 b R1) (yY (yLen SL_22 e0 b (rdI F1)) (yY (yFb FL_46_1 (eh Z)) (yY (lb_ h.v O_22 e0 b R1) (yY (yLen SL_22 e0 b (rdI F2)) (yY (yadd e0 e0) (yY (ygeq e0 e0) (wN ?_))))))))))
       refine u6 _ _ ?_
       have i6 : ∀ (d6 : LI) (a9 : Hdr) (f : FV) (w : World), f 0 = iV q → f 2 = iV (wa .i64 1 r) → f 7 = (pB x) → f 8 = (pB m) → f 10 = k.v → f 12 = iV E → f 13 = a9.v → St w0 (imm S1 o.v O :: imm I1 g.v d.1 :: imm I1 h.v d.2.1 :: imm I1 i.v d.2.2.1 :: imm I1 k.v p.1 :: imm I1 a9.v d6 :: ros) (box x 26 [o.v] :: box m 46 [g.v, h.v, i.v] :: rs) w → sparselaw18_DissectParts_j31 p E d6 = some h7 → u4 .normal (fr 175 f) w := by
        intro d6 a9 f w u7 u8 u9 v0 i7 i8 v1 b c
        refine u5 _ _ (sR fun _ v2 => Ym a9.v (eh v1) (Ym k.v (eh i7) (Ym (iV E) (eh i8) ?_)))
        obtain ⟨y0, i9, c⟩ := bs c
        refine yY (yIa SL_22 e0 e0 b (rdI F4) i9) (yY (yI O_3 e0 b (rdI F4) i9) ?_)
        obtain ⟨y1, v3, c⟩ := bs c
        refine Yc wn rfl (yCall FN_37 (a2 e0 e0)) (sparsekit_In_ok v3 F5 b) ?_
        rintro _ w ⟨rfl, b⟩
        refine ⟨_, rfl, ?_⟩
        refine yY (ynot e0) (wK v2 ?_)
        rcases iteS c with ⟨d7, c⟩ | ⟨d7, c⟩
        ·refine condF e0 (nF d7) (wp_skip (i0 _ _ _ (t7 _ _ (wR (Ym (iV E) (eh i8) (yY (yadd e0 rfl) (Ya (iV (wa .i64 E 1)) e0 (wN ?_))))))))
         obtain rfl := someI c
         exact t3 _ _ _ rfl ⟨_, _, rfl, rfl, u7, u8, u9, v0, i7, rfl, (b.facts (allC F0 (allC F1 (allC F2 (allC F3 (allC F4 (allT (allT (allT (allT (allT (allT allI))))))))))))⟩
        ·refine condT e0 (nT (bfalse d7)) (sR fun _ v4 => Ya (.bool false) rfl (wK v4 (wp_ret (i0 _ _ _ (t8 _ _ _ rfl ?_)))))
         obtain rfl := someI c
         exact h9 _ _ _ _ rfl rfl (t1 _ _ rfl ((b.pk 2 [] rfl).facts (allT (allT (allT (allT (allT (allT allI))))))) (h8 _ rfl))
       rcases iteS c with ⟨d8, c⟩ | ⟨d8, c⟩
       ·exact cT e0 d8 (wR (yY (yFb FL_46_2 (eh Z)) (yY (lb_ i.v O_22 e0 b R1) (Ya i.v e0 (wN (i6 _ _ _ _ i2 i3 i4 Z i5 d5 rfl (b.facts (allC F0 (allC F1 (allC F2 (allC F3 (allC F4 (allC F3 (allT (allT (allT (allT (allT (allT allI))))))))))))) c))))))
       ·exact cF e0 d8 (wp_skip (i6 _ _ _ _ i2 i3 i4 Z i5 d5 u3 b c))
      rcases iteS L with ⟨d9, L⟩ | ⟨d9, L⟩
      ·exact cT e0 d9 (wR (yY (yFb FL_46_1 (eh W)) (yY (lb_ h.v O_22 e0 b R1) (Ya h.v e0 (wN (i1 _ _ _ _ c8 c9 d0 W d1 a8 rfl (b.facts (allC F0 (allC F1 (allC F2 (allC F3 (allC F4 (allC F2 (allT (allT (allT (allT (allT allI)))))))))))) L))))))
      ·exact cF e0 d9 (wp_skip (i1 _ _ _ _ c8 c9 d0 W d1 a8 rfl (b.facts (allC F0 (allC F1 (allC F2 (allC F3 (allC F4 (allC F1 (allT (allT (allT (allT (allT allI)))))))))))) L))
     ·refine cF e0 d2 (wp_exit (t5 _ _ _ rfl ?_))
      obtain rfl := someI L
      exact h9 _ _ _ _ rfl rfl (o6 _ _ c9 d0 W d1 b (h8 _ rfl))
    ·refine condT e0 (nT (dF c0)) (sR fun _ v5 => Ya (.bool false) rfl (wK v5 (wp_ret (o0 _ _ _ rfl ?_))))
     obtain rfl := someI c
     exact N _ _ _ (fin1r Tryz.results7 ⟨rfl, rfl⟩ ⟨rfl, ((b.pk 5 [] rfl).facts (allT (allT allI)))⟩)
end Go.Proofs.YthpeajepbffinaaGreat
