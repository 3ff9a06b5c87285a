/- Walks: each function computes its model, printed. -/
import Derived.Test.YthpeajepbffinaaW0
namespace Go.Proofs.Ythpeajepbffinaa
open Go Sx M
set_option maxRecDepth 100000
set_option maxHeartbeats 40000000
set_option linter.unusedVariables false
attribute [local irreducible] wpList Code.wp Calls DR QR QS LA LS St
variable {w0 : World} {ros : List Fact} {rs : List Res} {w : World}
theorem slices_Concat_int_ok {l : L2} {d : Hdr} {out : LI} (g : slices_Concat_int l = some out) (j : imm S1 d.v l ∈ ros) (b : St w0 ros rs w) :
  Calls Try.prog 70 #[d.v] w (fun e w => ∃ (B : Hdr), e = .returned (B.v) ∧ St w0 ros (row 3 I1 B.v out :: rs) w) := by
 refine enterQ Try.func70 rfl Try.ntmps70 rfl fun Q O => sR fun _ R => Ya hnil.v rfl (wK R (sR fun _ S => Ya (iV 0) rfl (wK S (sQ fun _ T => sR fun _ U => ?_))))
 refine Ym d.v e0 (yY (yLen SL_25 e0 b (rdI j)) (Ym (iV 0) rfl (wK U (blockQ fun V W => ?_))))
 obtain ⟨X, Z, g⟩ := bs g
 have a0 : ∀ (n : Int) (f : FV) (w : World), f 0 = d.v → f 3 = iV n → St w0 ros rs w → n = X → V (.exit 0) (fr 36 f) w := by
  intro n f w a1 a3 b ho
  subst ho
  refine W _ _ _ (T _ _ (sR fun _ a4 => Ym (iV n) (eh a3) ?_))
  obtain ⟨e7, a5, g⟩ := bs g
  refine Yc wn rfl (yCall FN_86 (a2 rfl e0)) (slices_Grow_int_ok a5 b) ?_
  rintro _ w ⟨a6, rfl, b⟩
  refine ⟨_, rfl, ?_⟩
  refine Ya a6.v e0 (wK a4 (sQ fun _ a7 => sR fun _ a8 => Ym d.v (eh a1) (yY (yLen SL_25 e0 b (rdI j)) (Ym (iV 0) rfl (wK a8 (blockQ fun a9 b0 => ?_))))))
  obtain ⟨b1, b2, g⟩ := bs g
  have b3 : ∀ (r : LI) (m : Hdr) (f : FV) (w : World), f 6 = m.v → St w0 ros (row 3 I1 m.v r :: rs) w → r = b1 → a9 (.exit 2) (fr 36 f) w := by
   intro r m f w b4 b ho
   subst ho
   refine b0 _ _ _ (a7 _ _ (sR fun _ b5 => Ym m.v (eh b4) (Ya m.v e0 (wK b5 (wp_ret ?_)))))
   obtain rfl := someI g
   exact O _ _ _ (fin1r Try.results70 ⟨rfl, rfl⟩ ⟨_, rfl, b⟩)
  refine loopQ (fun s a w => ∃ (t : LI) (o : Int) (f : FV) (p : Hdr), (t, o) = s ∧ a = fr 36 f ∧ f 6 = p.v ∧ f 25 = d.v ∧ f 26 = iV (l.length : Int) ∧ f 27 = iV o ∧ St w0 ros (row 3 I1 p.v t :: rs) w) b2 ⟨_, _, _, _, rfl, rfl, rfl, rfl, rfl, rfl, b⟩ ?_
  rintro _ _ w e8 ⟨t, o, f, p, rfl, rfl, C, D, E, u, b⟩ h b6 e9 b7 b8
  refine sR fun _ b9 => yY (ylss (eh u) (eh E)) (wK b9 (seqQ fun f0 c0 c1 => ?_))
  rcases iteS h with ⟨x, h⟩ | ⟨x, h⟩
  ·refine cT e0 x (wp_skip (c0 _ _ (sQ fun _ c2 => blockQ fun _ c3 => sR fun _ c4 => ?_)))
   obtain ⟨f1, F, h⟩ := bs h
   refine yY (yIa SL_25 (eh D) (eh u) b (rdI j) F) ?_
   obtain ⟨G, b⟩ := iLs b j F
   refine yY (yCt O_22 e0 b F1 rfl) (Ya G.v e0 (wK c4 (wR (Ym p.v (eh C) (Ym G.v e0 ?_)))))
   obtain ⟨f2, c5, h⟩ := bs h
   refine YH wn rfl (rAp b SL_22 e0 e0 (rdI F0) c5) ?_
   intro c6 w b
   refine Ya c6.v e0 (wN (c3 _ _ _ (c2 _ _ (wR (yY (yadd (eh u) rfl) (Ym (iV (wa .i64 o 1)) e0 (wN ?_)))))))
   obtain rfl := someI h
   exact b7 _ _ _ rfl ⟨_, _, _, _, rfl, rfl, rfl, D, E, rfl, (b.facts (allT (allT allI)))⟩
  ·refine cF e0 x (wp_exit (c1 _ _ _ rfl ?_))
   obtain rfl := someI h
   exact b8 _ _ _ _ rfl rfl (b3 _ _ _ _ C b (b6 _ rfl))
 refine loopQ (fun s a w => ∃ (i k : Int) (f : FV), (i, k) = s ∧ a = fr 36 f ∧ f 0 = d.v ∧ f 3 = iV i ∧ f 9 = d.v ∧ f 10 = iV (l.length : Int) ∧ f 11 = iV k ∧ St w0 ros rs w) Z ⟨_, _, _, rfl, rfl, rfl, rfl, rfl, rfl, rfl, b⟩ ?_
 rintro _ _ w c7 ⟨i, k, f, rfl, rfl, H, I, J, K, y, b⟩ c c8 f3 c9 d0
 refine sR fun _ d1 => yY (ylss (eh y) (eh K)) (wK d1 (seqQ fun f4 d2 d3 => ?_))
 rcases iteS c with ⟨z, c⟩ | ⟨z, c⟩
 ·refine cT e0 z (wp_skip (d2 _ _ (sQ fun _ d4 => blockQ fun d5 d6 => sR fun _ d7 => ?_)))
  obtain ⟨q, L, c⟩ := bs c
  refine yY (yIa SL_25 (eh J) (eh y) b (rdI j) L) ?_
  obtain ⟨N, b⟩ := iLs b j L
  refine yY (yCt O_22 e0 b F1 rfl) (Ya N.v e0 (wK d7 (sR fun _ d8 => Ym (iV i) (eh I) (Ym N.v e0 (yY (yLen SL_22 e0 b (rdI F0)) (yY (yadd e0 e0) (Ya (iV (wa .i64 i (q.length : Int))) e0 (wK d8 (sQ fun _ d9 => ?_)))))))))
  refine wR (Ym (iV (wa .i64 i (q.length : Int))) e0 (yY (ylss e0 rfl) (wK d9 ?_)))
  have e1 : ∀ (f : FV) (w : World), f 0 = d.v → f 3 = iV (wa .i64 i (q.length : Int)) → f 9 = d.v → f 10 = iV (l.length : Int) → f 11 = iV k → St w0 ros rs w → slices_Concat_int_j5 i q k = some c7 → d5 .normal (fr 36 f) w := by
   intro f w e2 e3 e4 e5 e6 b g
   refine d6 _ _ _ (d4 _ _ (wR (yY (yadd (eh e6) rfl) (Ym (iV (wa .i64 k 1)) e0 (wN ?_)))))
   obtain rfl := someI g
   exact c9 _ _ _ rfl ⟨_, _, _, rfl, rfl, e2, e3, e4, e5, rfl, b⟩
  rcases iteS c with ⟨A, c⟩ | ⟨A, c⟩
  ·refine cT e0 A ?_
   cases c
  ·exact cF e0 A (wp_skip (e1 _ _ H rfl J K y (b.facts (allT (allT allI))) c))
 ·refine cF e0 z (wp_exit (d3 _ _ _ rfl ?_))
  obtain rfl := someI c
  exact d0 _ _ _ _ rfl rfl (a0 _ _ _ H I b (c8 _ rfl))
theorem graph_Components_ok {p : L2} {h : Hdr} {out : L2} (d : graph_Components p = some out) (t : imm S1 h.v p ∈ ros) (b : St w0 ros rs w) :
  Calls Try.prog 69 #[.agg #[h.v]] w (fun e w => ∃ (T : Hdr), e = .returned (T.v) ∧ St w0 ros (row 22 S1 T.v out :: rs) w) := by
 refine enterQ Try.func69 rfl Try.ntmps69 rfl fun Q U => sR fun _ b1 => YB wn rfl (r_box (vals := [h.v]) b e0 rfl) ?_
 intro m w b
 refine Ya hnil.v rfl (wK b1 (seqQ fun i1 b2 b4 => sR fun _ b5 => yY (lbs_ [h.v] ST_27 e0 b R0) ?_))
 obtain ⟨i2, b6, d⟩ := bs d
 refine Yc wn rfl (yCall FN_30 (a1 e0)) (graph_Check_ok b6 t b) ?_
 rintro _ w ⟨rfl, b⟩
 refine ⟨_, rfl, ?_⟩
 refine yY (yneq e0 rfl) (wK b5 ?_)
 rcases iteS d with ⟨z, d⟩ | ⟨z, d⟩
 ·refine condF e0 (nF (dT z)) (wp_skip (b2 _ _ (sR fun _ b7 => yY (yFb FL_27_0 e0) (yY (lb_ h.v O_25 e0 b R0) (yY (yLen SL_25 e0 b (rdI t)) ?_)))))
  obtain ⟨i3, b8, d⟩ := bs d
  refine YH wn rfl (rMk b SL_67 e0 b8) ?_
  intro i w b
  refine Ya i.v e0 (wK b7 (sR fun _ b9 => Ya hnil.v rfl (wK b9 (sQ fun _ c0 => sR fun _ c1 => yY (yFb FL_27_0 e0) (yY (lb_ h.v O_25 e0 b R1) (yY (yLen SL_25 e0 b (rdI t)) ?_))))))
  refine Ym (iV 0) rfl (wK c1 (blockQ fun c2 c3 => ?_))
  obtain ⟨c4, c6, d⟩ := bs d
  have c7 : ∀ (A : L2) (q : Hdr) (f : FV) (w : World), f 4 = q.v → St w0 ros (row 22 S1 q.v A :: rs) w → A = c4 → c2 (.exit 0) (fr 48 f) w := by
   intro A q f w c8 b ho
   subst ho
   refine c3 _ _ _ (c0 _ _ (sR fun _ c9 => Ym q.v (eh c8) (Ya q.v e0 (wK c9 (wp_ret ?_)))))
   obtain rfl := someI d
   exact U _ _ _ (fin1r Try.results69 ⟨rfl, rfl⟩ ⟨_, rfl, b⟩)
  replace b := b.rowNh 22 S1
  refine loopQ (fun s a w => ∃ (B : List Bool) (r : L2) (g : Int) (f : FV) (o : Hdr), (B, r, g) = s ∧ a = fr 48 f ∧ f 1 = (pB m) ∧ f 3 = i.v ∧ f 4 = o.v ∧ f 18 = iV (p.length : Int) ∧ f 19 = iV g ∧ St w0 ros (box m 27 [h.v] :: row 4 rB i.v B :: row 22 S1 o.v r :: rs) w) c6 ⟨_, _, _, _, _, rfl, rfl, rfl, rfl, rfl, rfl, rfl, (b.pk 3 [2, 1, 0] rfl)⟩ ?_
  rintro _ _ w d0 ⟨B, r, g, f, o, rfl, rfl, C, D, E, F, u, b⟩ c d1 i4 d2 d3
  refine sR fun _ d4 => yY (ylss (eh u) (eh F)) (wK d4 (seqQ fun i5 d5 d6 => ?_))
  rcases iteS c with ⟨G, c⟩ | ⟨G, c⟩
  ·refine cT e0 G (wp_skip (d5 _ _ (sQ fun d7 d8 => ?_)))
   have V : ∀ (H : List Bool) (I : L2) (J : Hdr) (f : FV) (w : World), f 1 = (pB m) → f 3 = i.v → f 4 = J.v → f 18 = iV (p.length : Int) → f 19 = iV g → St w0 ros (box m 27 [h.v] :: row 4 rB i.v H :: row 22 S1 J.v I :: rs) w → graph_Components_j12 g H I = some d0 → d7 .normal (fr 48 f) w := by
    intro H I J f w d9 e1 e2 e3 e4 b d
    refine d8 _ _ (wR (yY (yadd (eh e4) rfl) (Ym (iV (wa .i64 g 1)) e0 (wN ?_))))
    obtain rfl := someI d
    exact d2 _ _ _ rfl ⟨_, _, _, _, _, rfl, rfl, d9, e1, e2, e3, rfl, b⟩
   refine blockQ fun _ W => sR fun _ e5 => Ym (iV g) (eh u) (Ya (iV g) e0 (wK e5 (seqQ fun i6 e6 e7 => sR fun _ e8 => Ym i.v (eh D) (Ym (iV g) e0 ?_))))
   obtain ⟨i7, X, c⟩ := bs c
   refine yY (yIa SL_67 e0 e0 b rO1 X) (yY (yB O_4 e0 b rO1 X) (wK e8 ?_))
   rcases iteS c with ⟨K, c⟩ | ⟨K, c⟩
   ·exact condT e0 K (wp_exit (e7 _ _ _ rfl (W _ _ _ (V _ _ _ _ _ C D E F u b c))))
   ·refine condF e0 (bfalse K) (wp_skip (e6 _ _ (sR fun _ e9 => yY (lbs_ [h.v] ST_27 (eh C) b R0) (Ym (iV g) e0 ?_))))
    obtain ⟨i8, f0, c⟩ := bs c
    refine Yc wn rfl (yCall FN_84 (a2 e0 e0)) (graph_levels_ok f0 t b) ?_
    rintro _ w ⟨i9, rfl, b⟩
    refine ⟨_, rfl, ?_⟩
    obtain ⟨j0, f1, c⟩ := bs c
    replace b := b.fz
    refine Yc wn rfl (yCall FN_70 (a1 e0)) (slices_Concat_int_ok f1 F0 b) ?_
    rintro _ w ⟨j, rfl, b⟩
    refine ⟨_, rfl, ?_⟩
    refine Ya j.v e0 (wK e9 (sR fun _ f2 => Ym j.v e0 ?_))
    obtain ⟨x, f3, c⟩ := bs c
    refine Yc wn rfl (yCall FN_85 (a1 e0)) (sortI_ok f3 b) ?_
    rintro _ w ⟨rfl, b⟩
    refine ⟨_, rfl, ?_⟩
    refine wK f2 (sQ fun _ f4 => sR fun _ f5 => Ym j.v e0 (yY (yLen SL_22 e0 b rO0) (Ym (iV 0) rfl (wK f5 (blockQ fun f6 f7 => ?_)))))
    obtain ⟨f8, f9, c⟩ := bs c
    have g0 : ∀ (L : List Bool) (f : FV) (w : World), f 1 = (pB m) → f 3 = i.v → f 4 = o.v → f 6 = j.v → f 18 = iV (p.length : Int) → f 19 = iV g → St w0 ros (box m 27 [h.v] :: row 4 rB i.v L :: row 22 S1 o.v r :: row 3 I1 j.v x :: rs) w → L = f8 → f6 (.exit 2) (fr 48 f) w := by
     intro L f w g1 g2 g3 g4 g5 g6 b ho
     subst ho
     refine f7 _ _ _ (f4 _ _ (wR (Ym o.v (eh g3) (Ym j.v (eh g4) ?_))))
     replace b := b.pk 4 [3, 0, 0, 0] rfl
     replace b := b.fz
     refine YH wn rfl (rLt (n := 1) (l := [x]) b SL_25 [j.v] (bp1 e0) rfl rfl (mks1 (cs := [j.v]) rfl (mkS F0) mks0)) ?_
     intro j1 w b
     obtain ⟨j2, g7, c⟩ := bs c
     replace b := b.pk 4 [3, 0, 0, 0] rfl
     refine YH wn rfl (rAp b SL_25 e0 e0 rO1 g7) ?_
     intro g8 w b
     exact Ya g8.v e0 (wN (W _ _ _ (V _ _ _ _ _ g1 g2 rfl g5 g6 ((b.pk 4 [2, 2, 0] rfl).facts (allT allI)) c)))
    refine loopQ (fun s a w => ∃ (N : List Bool) (y : Int) (f : FV), (N, y) = s ∧ a = fr 48 f ∧ f 1 = (pB m) ∧ f 3 = i.v ∧ f 4 = o.v ∧ f 6 = j.v ∧ f 18 = iV (p.length : Int) ∧ f 19 = iV g ∧ f 32 = j.v ∧ f 33 = iV (x.length : Int) ∧ f 34 = iV y ∧ St w0 ros (box m 27 [h.v] :: row 4 rB i.v N :: row 22 S1 o.v r :: row 3 I1 j.v x :: rs) w) f9 ⟨_, _, _, rfl, rfl, C, D, E, rfl, F, u, rfl, rfl, rfl, ((b.pk 4 [1, 1, 1, 0] rfl).facts (allT allI))⟩ ?_
    rintro _ _ w j3 ⟨N, y, f, rfl, rfl, Z, O, a0, a3, a4, a5, a6, a7, R, b⟩ k g9 j4 h0 h1
    refine sR fun _ h3 => yY (ylss (eh R) (eh a7)) (wK h3 (seqQ fun j5 h4 h5 => ?_))
    rcases iteS k with ⟨S, k⟩ | ⟨S, k⟩
    ·refine cT e0 S (wp_skip (h4 _ _ (sQ fun _ h7 => blockQ fun _ h8 => sR fun _ h9 => ?_)))
     obtain ⟨a8, a9, k⟩ := bs k
     refine yY (yIa SL_22 (eh a6) (eh R) b rO3 a9) (yY (yI O_3 e0 b rO3 a9) (Ya (iV a8) e0 (wK h9 (wR (Ym i.v (eh O) (Ym (iV a8) e0 ?_))))))
     obtain ⟨j6, b0, k⟩ := bs k
     refine yY (yIs SL_67 e0 e0 b rO1 b0) ?_
     replace b := b.pk 2 [1, 0] rfl
     refine YT wn rfl (r_sti (cs := [.bool true]) b O_4 rfl e0 rfl rfl mkB b0) ?_
     intro w b
     refine wN (h8 _ _ _ (h7 _ _ (wR (yY (yadd (eh R) rfl) (Ym (iV (wa .i64 y 1)) e0 (wN ?_))))))
     obtain rfl := someI k
     exact h0 _ _ _ rfl ⟨_, _, _, rfl, rfl, Z, O, a0, a3, a4, a5, a6, a7, rfl, (b.pk 4 [1, 0, 0, 0] rfl)⟩
    ·refine cF e0 S (wp_exit (h5 _ _ _ rfl ?_))
     obtain rfl := someI k
     exact h1 _ _ _ _ rfl rfl (g0 _ _ _ Z O a0 a3 a4 a5 b (g9 _ rfl))
  ·refine cF e0 G (wp_exit (d6 _ _ _ rfl ?_))
   obtain rfl := someI c
   exact d3 _ _ _ _ rfl rfl (c7 _ _ _ _ E (b.pk 3 [2] rfl) (d1 _ rfl))
 ·refine condT e0 (nT (dF z)) (sR fun _ i0 => Ya hnil.v rfl (wK i0 (wp_ret (b4 _ _ _ rfl ?_))))
  obtain rfl := someI d
  replace b := b.rowNh 22 S1
  exact U _ _ _ (fin1r Try.results69 ⟨rfl, rfl⟩ ⟨_, rfl, (b.pk 2 [0] rfl)⟩)
theorem graph_vertex_ok {d : L2} {b : Int} {g : Hdr} {out : Bool} (i : graph_vertex d b = some out) (j : imm S1 g.v d ∈ ros) (c : St w0 ros rs w) :
  Calls Try.prog 87 #[.agg #[g.v], iV b] w (fun e w => e = .returned (.bool out) ∧ St w0 ros rs w) := by
 refine enterQ Try.func87 rfl Try.ntmps87 rfl fun Q k => sR fun _ l => YB wn rfl (r_box (vals := [g.v]) c e0 rfl) ?_
 intro o w c
 refine Ya (.bool false) rfl (wK l (sR fun _ m => Ym (iV b) e0 (yY (ygeq e0 rfl) (Ym (.bool (decide ((0 : Int) ≤ b))) e0 ?_))))
 refine joinW 6 (fun f w => f 13 = .bool ((decide ((0 : Int) ≤ b)) && (decide (b < (d.length : Int)))) ∧ St w0 ros rs w) (fun h => ?_) ?_
 ·rcases Bool.eq_false_or_eq_true (decide ((0 : Int) ≤ b)) with a | a
  ·exact yG a (m_ (iV b) e0) (yG a (yFb FL_27_0 e0) (yG a (lb_ g.v O_25 e0 c R0) (yG a (yLen SL_25 e0 c (rdI j)) (yG a (ylss e0 e0) (yY (pt_ (.bool (decide (b < (d.length : Int)))) e0 a e0) (h _ _ ⟨(congrArg Value.bool (andT a)), (c.pk 1 [] rfl)⟩))))))
  ·exact gN a (gN a (gN a (gN a (gN a (yY (pf_ (.bool false) e0 a rfl) (h _ _ ⟨(congrArg Value.bool (andF a)), (c.pk 1 [] rfl)⟩))))))
 rintro f w ⟨n, c⟩
 refine Ya (.bool ((decide ((0 : Int) ≤ b)) && (decide (b < (d.length : Int))))) (eh n) (wK m (wp_ret ?_))
 obtain rfl := someI i
 exact k _ _ _ (fin1r Try.results87 ⟨rfl, rfl⟩ ⟨rfl, c⟩)
theorem graph_Peripheral_ok {R : L2} {t : Int} {g : Hdr} {out : Int} (c : graph_Peripheral R t = some out) (l : imm S1 g.v R ∈ ros) (b : St w0 ros rs w) :
  Calls Try.prog 72 #[.agg #[g.v], iV t] w (fun e w => e = .returned (iV out) ∧ St w0 ros rs w) := by
 refine enterQ Try.func72 rfl Try.ntmps72 rfl fun Q S => sR fun _ a9 => YB wn rfl (r_box (vals := [g.v]) b e0 rfl) ?_
 intro k w b
 refine Ya (iV 0) rfl (wK a9 (seqQ fun h5 b0 b1 => sR fun _ b2 => yY (lbs_ [g.v] ST_27 e0 b R0) ?_))
 obtain ⟨b3, b5, c⟩ := bs c
 refine Yc wn rfl (yCall FN_30 (a1 e0)) (graph_Check_ok b5 l b) ?_
 rintro _ w ⟨rfl, b⟩
 refine ⟨_, rfl, ?_⟩
 refine yY (yneq e0 rfl) (Ym (.bool (!(decide (b3 = 0)))) e0 ?_)
 obtain ⟨b6, n, c⟩ := bs c
 refine joinW 5 (fun f w => f 1 = iV t ∧ f 2 = (pB k) ∧ f 19 = .bool b6 ∧ St w0 ros (box k 27 [g.v] :: rs) w) (fun T => ?_) ?_
 ·rcases iteS n with ⟨j, n⟩ | ⟨j, n⟩
  ·refine yG (nF (dT j)) (lbs_ [g.v] ST_27 e0 b R0) (yG (nF (dT j)) (m_ (iV t) e0) ?_)
   obtain ⟨b7, b8, n⟩ := bs n
   refine Yc (wG (nF (dT j))) rfl (yCall FN_87 (a2 e0 e0)) (graph_vertex_ok b8 l b) ?_
   rintro _ w ⟨rfl, b⟩
   refine ⟨_, rfl, ?_⟩
   refine yG (nF (dT j)) (ynot e0) (yY (pf_ (.bool (!b7)) e0 (nF (dT j)) e0) ?_)
   obtain rfl := someI n
   exact T _ _ ⟨rfl, rfl, rfl, b⟩
  ·refine gN (nT (dF j)) (gN (nT (dF j)) (gN (nT (dF j)) (gN (nT (dF j)) (yY (pt_ (.bool true) e0 (nT (dF j)) rfl) ?_))))
   obtain rfl := someI n
   exact T _ _ ⟨rfl, rfl, rfl, b⟩
 rintro f w ⟨U, V, W, b⟩
 refine wK b2 ?_
 rcases iteS c with ⟨C, c⟩ | ⟨C, c⟩
 ·refine condT (eh W) C (sR fun _ b9 => Ya (iV (-1)) rfl (wK b9 (wp_ret (b1 _ _ _ rfl ?_))))
  obtain rfl := someI c
  exact S _ _ _ (fin1r Try.results72 ⟨rfl, rfl⟩ ⟨rfl, (b.pk 1 [] rfl)⟩)
 ·refine condF (eh W) (bfalse C) (wp_skip (b0 _ _ (sR fun _ c0 => yY (lbs_ [g.v] ST_27 (eh V) b R0) (Ym (iV t) (eh U) ?_))))
  obtain ⟨h6, c1, c⟩ := bs c
  refine Yc wn rfl (yCall FN_84 (a2 e0 e0)) (graph_levels_ok c1 l b) ?_
  rintro _ w ⟨c2, rfl, b⟩
  refine ⟨_, rfl, ?_⟩
  refine Ya c2.v e0 (wK c0 (blockQ fun c3 c4 => ?_))
  obtain ⟨c5, c6, c⟩ := bs c
  have c7 : ∀ (D : Int) (f : FV) (w : World), f 4 = iV D → St w0 ros rs w → D = c5 → c3 .ret (fr 64 f) w := by
   intro D f w c8 b ho
   subst ho
   refine c4 _ _ _ ?_
   obtain rfl := someI c
   exact S _ _ _ (fin1r Try.results72 ⟨rfl, c8⟩ ⟨rfl, b⟩)
  refine loopQ (fun s a w => ∃ (m : Int) (p : L2) (f : FV) (i : Hdr), (m, p) = s ∧ a = fr 64 f ∧ f 1 = iV m ∧ f 2 = (pB k) ∧ f 5 = i.v ∧ St w0 ros (box k 27 [g.v] :: row 22 S1 i.v p :: rs) w) c6 ⟨_, _, _, _, rfl, rfl, U, V, rfl, (b.pk 2 [1, 0] rfl)⟩ ?_
  rintro _ _ w h7 ⟨m, p, f, i, rfl, rfl, d0, d1, E, b⟩ h d2 h8 d3 d4
  refine blockQ fun _ X => sR fun _ d5 => Ym i.v (eh E) (Ym i.v (eh E) (yY (yLen SL_25 e0 b rO1) (yY (ysub e0 rfl) ?_)))
  obtain ⟨x, Z, h⟩ := bs h
  refine yY (yIa SL_25 e0 e0 b rO1 Z) ?_
  obtain ⟨o, d6, b⟩ := rLs b rO1 Z
  refine yY (yCe O_22 e0 d6 rfl) (Ya o.v e0 (wK d5 (sR fun _ d7 => Ym o.v e0 ?_)))
  obtain ⟨d8, a0, h⟩ := bs h
  refine yY (yIa SL_22 e0 rfl b (rdI F0) a0) (yY (yI O_3 e0 b (rdI F0) a0) (Ya (iV d8) e0 (wK d7 (sQ fun _ d9 => sR fun _ e1 => Ym o.v e0 (yY (yLen SL_22 e0 b (rdI F0)) (Ym (iV 0) rfl (wK e1 (blockQ fun e2 e3 => ?_))))))))
  obtain ⟨e4, e5, h⟩ := bs h
  have e6 : ∀ (q : Int) (f : FV) (w : World), f 1 = iV m → f 2 = (pB k) → f 5 = i.v → f 7 = iV q → St w0 ros (box k 27 [g.v] :: row 22 S1 i.v p :: rs) w → q = e4 → e2 (.exit 2) (fr 64 f) w := by
   intro q f w e7 a3 e8 a4 b ho
   subst ho
   refine e3 _ _ _ (d9 _ _ (sR fun _ e9 => yY (lbs_ [g.v] ST_27 (eh a3) b R0) (Ym (iV q) (eh a4) ?_)))
   obtain ⟨h9, f0, h⟩ := bs h
   refine Yc wn rfl (yCall FN_84 (a2 e0 e0)) (graph_levels_ok f0 l b) ?_
   rintro _ w ⟨y, rfl, b⟩
   refine ⟨_, rfl, ?_⟩
   refine Ya y.v e0 (wK e9 (seqQ fun i0 f1 f2 => sR fun _ f3 => Ym y.v e0 (yY (yLen SL_25 e0 b rO0) (Ym i.v (eh e8) (yY (yLen SL_25 e0 b rO2) (yY (yleq e0 e0) (wK f3 ?_)))))))
   rcases iteS h with ⟨F, h⟩ | ⟨F, h⟩
   ·refine cT e0 F (sR fun _ f4 => Ym (iV m) (eh e7) (Ya (iV m) e0 (wK f4 (wp_ret (f2 _ _ _ rfl (X _ _ _ ?_))))))
    obtain rfl := someI h
    exact d4 _ _ _ _ rfl rfl (c7 _ _ _ rfl (b.pk 3 [] rfl) (d2 _ rfl))
   ·refine cF e0 F (wp_skip (f1 _ _ (wR (Ym (iV q) (eh a4) (Ym y.v e0 (Ya (iV q) e0 (Ya y.v e0 (wN (X _ _ _ ?_)))))))))
    obtain rfl := someI h
    exact d3 _ _ _ rfl ⟨_, _, _, _, rfl, rfl, rfl, a3, rfl, (b.pk 3 [1, 0] rfl)⟩
  refine loopQ (fun s a w => ∃ (z r : Int) (f : FV), (z, r) = s ∧ a = fr 64 f ∧ f 1 = iV m ∧ f 2 = (pB k) ∧ f 5 = i.v ∧ f 7 = iV z ∧ f 32 = o.v ∧ f 33 = iV (x.length : Int) ∧ f 34 = iV r ∧ St w0 (imm I1 o.v x :: ros) (box k 27 [g.v] :: row 22 S1 i.v p :: rs) w) e5 ⟨_, _, _, rfl, rfl, d0, d1, E, rfl, rfl, rfl, rfl, b⟩ ?_
  rintro _ _ w f5 ⟨z, r, f, rfl, rfl, G, u, H, I, J, K, A, b⟩ d f6 i1 f7 f8
  refine sR fun _ f9 => yY (ylss (eh A) (eh K)) (wK f9 (seqQ fun i2 g0 g1 => ?_))
  rcases iteS d with ⟨L, d⟩ | ⟨L, d⟩
  ·refine cT e0 L (wp_skip (g0 _ _ (sQ fun _ g2 => blockQ fun g3 g4 => sR fun _ g5 => ?_)))
   obtain ⟨B, a5, d⟩ := bs d
   refine yY (yIa SL_22 (eh J) (eh A) b (rdI F0) a5) (yY (yI O_3 e0 b (rdI F0) a5) (Ya (iV B) e0 (wK g5 (sQ fun _ g6 => ?_))))
   obtain ⟨i3, a6, d⟩ := bs d
   obtain ⟨i4, a7, d⟩ := bs d
   refine dR [0, 1, 0, 7, 15, 31, 0, 64, 0, 448, 960, 1984, 4095] [] 0 folM ?_
   replace b := b.drew
   refine Dz [0, 1, 2, 3, 4, 5, 6, 7, 8, 9, 10, 11, 12] [] (yR rfl (yFb FL_27_0 (eh u)) (yR rfl (lb_ g.v O_25 e0 b R0) (yR rfl (m_ (iV B) e0) (yR rfl (yIa SL_25 e0 e0 b (rdI (mtF l)) a6) ?_))))
   obtain ⟨i5, b⟩ := iLs b (mtF l) a6
   refine yR rfl (yCt O_22 e0 b F1 rfl) (yR rfl (yLen SL_22 e0 b (rdI F0)) (yR rfl (yFb FL_27_0 (eh u)) (yR rfl (lb_ g.v O_25 e0 b R0) (yR rfl (m_ (iV z) (eh I)) (yR rfl (yIa SL_25 e0 e0 b (rdI (F_3 l)) a7) ?_)))))
   obtain ⟨i6, b⟩ := iLs b (F_3 l) a7
   refine yR rfl (yCt O_22 e0 b F1 rfl) (yR rfl (yLen SL_22 e0 b (rdI F0)) (yR rfl (ylss e0 e0) (Rn QSn (g6 _ _ ?_))))
   have a8 : ∀ (N : Int) (f : FV) (w : World), f 1 = iV m → f 2 = (pB k) → f 5 = i.v → f 7 = iV N → f 32 = o.v → f 33 = iV (x.length : Int) → f 34 = iV r → St w0 (imm I1 o.v x :: ros) (box k 27 [g.v] :: row 22 S1 i.v p :: rs) w → graph_Peripheral_j14 r N = some f5 → g3 .normal (fr 64 f) w := by
    intro N f w g7 g8 g9 h0 h1 h3 h4 b c
    refine g4 _ _ _ (g2 _ _ (wR (yY (yadd (eh h4) rfl) (Ym (iV (wa .i64 r 1)) e0 (wN ?_)))))
    obtain rfl := someI c
    exact f7 _ _ _ rfl ⟨_, _, _, rfl, rfl, g7, g8, g9, h0, h1, h3, rfl, b⟩
   rcases iteS d with ⟨O, d⟩ | ⟨O, d⟩
   ·exact cT e0 O (wR (Ym (iV B) e0 (Ya (iV B) e0 (wN (a8 _ _ _ G u H rfl J K A (b.facts (allC F4 (allT (allT (allT (allT (allT allI))))))) d)))))
   ·exact cF e0 O (wp_skip (a8 _ _ _ G u H I J K A (b.facts (allC F4 (allT (allT (allT (allT (allT allI))))))) d))
  ·refine cF e0 L (wp_exit (g1 _ _ _ rfl ?_))
   obtain rfl := someI d
   exact f8 _ _ _ _ rfl rfl (e6 _ _ _ G u H I (b.facts (allT allI)) (f6 _ rfl))
theorem graph_Levels_ok {k : L2} {h : Int} {d : Hdr} {out : L2} (b : graph_Levels k h = some out) (i : imm S1 d.v k ∈ ros) (a : St w0 ros rs w) :
  Calls Try.prog 71 #[.agg #[d.v], iV h] w (fun e w => ∃ (l : Hdr), e = .returned (l.v) ∧ St w0 ros (row 22 S1 l.v out :: rs) w) := by
 refine enterQ Try.func71 rfl Try.ntmps71 rfl fun Q m => sR fun _ q => YB wn rfl (r_box (vals := [d.v]) a e0 rfl) ?_
 intro n w a
 refine Ya hnil.v rfl (wK q (seqQ fun H r s => sR fun _ t => yY (lbs_ [d.v] ST_27 e0 a R0) ?_))
 obtain ⟨u, x, b⟩ := bs b
 refine Yc wn rfl (yCall FN_30 (a1 e0)) (graph_Check_ok x i a) ?_
 rintro _ w ⟨rfl, a⟩
 refine ⟨_, rfl, ?_⟩
 refine yY (yneq e0 rfl) (Ym (.bool (!(decide (u = 0)))) e0 ?_)
 obtain ⟨y, g, b⟩ := bs b
 refine joinW 5 (fun f w => f 1 = iV h ∧ f 2 = (pB n) ∧ f 13 = .bool y ∧ St w0 ros (box n 27 [d.v] :: rs) w) (fun o => ?_) ?_
 ·rcases iteS g with ⟨c, g⟩ | ⟨c, g⟩
  ·refine yG (nF (dT c)) (lbs_ [d.v] ST_27 e0 a R0) (yG (nF (dT c)) (m_ (iV h) e0) ?_)
   obtain ⟨z, A, g⟩ := bs g
   refine Yc (wG (nF (dT c))) rfl (yCall FN_87 (a2 e0 e0)) (graph_vertex_ok A i a) ?_
   rintro _ w ⟨rfl, a⟩
   refine ⟨_, rfl, ?_⟩
   refine yG (nF (dT c)) (ynot e0) (yY (pf_ (.bool (!z)) e0 (nF (dT c)) e0) ?_)
   obtain rfl := someI g
   exact o _ _ ⟨rfl, rfl, rfl, a⟩
  ·refine gN (nT (dF c)) (gN (nT (dF c)) (gN (nT (dF c)) (gN (nT (dF c)) (yY (pt_ (.bool true) e0 (nT (dF c)) rfl) ?_))))
   obtain rfl := someI g
   exact o _ _ ⟨rfl, rfl, rfl, a⟩
 rintro f w ⟨B, C, p, a⟩
 refine wK t ?_
 rcases iteS b with ⟨j, b⟩ | ⟨j, b⟩
 ·refine condT (eh p) j (sR fun _ D => Ya hnil.v rfl (wK D (wp_ret (s _ _ _ rfl ?_))))
  obtain rfl := someI b
  replace a := a.rowNh 22 S1
  exact m _ _ _ (fin1r Try.results71 ⟨rfl, rfl⟩ ⟨_, rfl, (a.pk 2 [0] rfl)⟩)
 ·refine condF (eh p) (bfalse j) (wp_skip (r _ _ (sR fun _ E => yY (lbs_ [d.v] ST_27 (eh C) a R0) (Ym (iV h) (eh B) ?_))))
  obtain ⟨I, F, b⟩ := bs b
  refine Yc wn rfl (yCall FN_84 (a2 e0 e0)) (graph_levels_ok F i a) ?_
  rintro _ w ⟨G, rfl, a⟩
  refine ⟨_, rfl, ?_⟩
  refine Ya G.v e0 (wK E (wp_ret ?_))
  obtain rfl := someI b
  exact m _ _ _ (fin1r Try.results71 ⟨rfl, rfl⟩ ⟨_, rfl, (a.pk 2 [0] rfl)⟩)
theorem dissect_grown_ok {V : L2} {W : LI} {X : L2} {h j k : Hdr} {out : LI} (i : dissect_grown V W X = some out) (A : imm S1 h.v V ∈ ros) (u : imm I1 j.v W ∈ ros) (j0 : imm S1 k.v X ∈ ros) (b : St w0 ros rs w) :
  Calls Try.prog 51 #[.agg #[h.v, j.v, k.v]] w (fun e w => ∃ (Z : Hdr), e = .returned (Z.v) ∧ St w0 ros (row 3 I1 Z.v out :: rs) w) := by
 refine enterQ Try.func51 rfl Try.ntmps51 rfl fun Q a0 => sR fun _ d2 => YB wn rfl (r_box (vals := [h.v, j.v, k.v]) b e0 rfl) ?_
 intro m w b
 refine Ya hnil.v rfl (wK d2 (sR fun _ d3 => YH wn rfl (rLt (n := 1) (l := [1]) b SL_22 [iV 1] (bp1 rfl) rfl rfl (mks1 (cs := [iV 1]) rfl mkI mks0)) ?_))
 intro j1 w b
 refine yY (yFb FL_29_1 e0) (yY (lb_ j.v O_22 e0 b R1) (yY (yLen SL_22 e0 b (rdI u)) ?_))
 obtain ⟨j2, d4, i⟩ := bs i
 replace b := b.fz
 refine Yc wn rfl (yCall FN_46 (a2 e0 e0)) (slices_Repeat_int_ok d4 F0 b) ?_
 rintro _ w ⟨c, rfl, b⟩
 refine ⟨_, rfl, ?_⟩
 refine Ya c.v e0 (wK d3 (sR fun _ d5 => yY (yFb FL_29_1 e0) (yY (lb_ j.v O_22 e0 b R1) ?_)))
 obtain ⟨t, d6, i⟩ := bs i
 refine Yc wn rfl (yCall FN_68 (a1 e0)) (dissect_total_ok d6 (mtF u) b) ?_
 rintro _ w ⟨rfl, b⟩
 refine ⟨_, rfl, ?_⟩
 refine Ya (iV t) e0 (Ya (iV 0) rfl (wK d5 (seqQ fun j3 d7 d8 => sR fun _ d9 => yY (yFb FL_29_0 e0) (yY (lbs_ [h.v] ST_27 e0 b R1) ?_))))
 obtain ⟨o, e1, i⟩ := bs i
 refine Yc wn rfl (yCall FN_69 (a1 e0)) (graph_Components_ok e1 (mtF A) b) ?_
 rintro _ w ⟨p, rfl, b⟩
 refine ⟨_, rfl, ?_⟩
 refine yY (yLen SL_25 e0 b rO0) (Ym (iV 0) rfl (wK d9 (blockQ fun a3 a4 => ?_)))
 obtain ⟨a5, e2, i⟩ := bs i
 have e3 : ∀ (B : LI) (f : FV) (w : World), f 3 = c.v → St w0 ros (row 3 I1 c.v B :: rs) w → .inl B = a5 → a3 (.exit 0) (fr 59 f) w := by
  intro B f w e4 b ho
  subst ho
  refine a4 _ _ _ (d7 _ _ (sR fun _ e5 => Ym c.v (eh e4) (Ya c.v e0 (wK e5 (wp_ret ?_)))))
  obtain rfl := someI i
  exact a0 _ _ _ (fin1r Try.results51 ⟨rfl, rfl⟩ ⟨_, rfl, b⟩)
 have e6 : ∀ (C : LI) (f : FV) (w : World), f 2 = c.v → St w0 ros (row 3 I1 c.v C :: rs) w → .inr C = a5 → a3 .ret (fr 59 f) w := by
  intro C f w e7 b ho
  subst ho
  refine a4 _ _ _ (d8 _ _ _ rfl ?_)
  obtain rfl := someI i
  exact a0 _ _ _ (fin1r Try.results51 ⟨rfl, e7⟩ ⟨_, rfl, b⟩)
 refine loopQ (fun s a w => ∃ (D : LI) (E q : Int) (f : FV), (D, E, q) = s ∧ a = fr 59 f ∧ f 1 = (pB m) ∧ f 3 = c.v ∧ f 4 = iV t ∧ f 5 = iV E ∧ f 20 = p.v ∧ f 21 = iV (o.length : Int) ∧ f 22 = iV q ∧ St w0 ros (box m 29 [h.v, j.v, k.v] :: row 3 I1 c.v D :: row 22 S1 p.v o :: rs) w) e2 ⟨_, _, _, _, rfl, rfl, rfl, rfl, rfl, rfl, rfl, rfl, rfl, ((b.pk 3 [2, 1, 0] rfl).facts (allT allI))⟩ ?_
 rintro _ _ w j4 ⟨D, E, q, f, rfl, rfl, x, a6, e8, e9, a7, a8, F, b⟩ d a9 j5 f0 b0
 refine sR fun _ f1 => yY (ylss (eh F) (eh a8)) (wK f1 (seqQ fun j6 f2 f3 => ?_))
 rcases iteS d with ⟨G, d⟩ | ⟨G, d⟩
 ·refine cT e0 G (wp_skip (f2 _ _ (seqQ fun j7 f4 f5 => blockQ fun _ b1 => sR fun _ f6 => ?_)))
  obtain ⟨j8, b2, d⟩ := bs d
  refine yY (yIa SL_25 (eh a7) (eh F) b rO2 b2) ?_
  obtain ⟨b3, f7, b⟩ := rLs b rO2 b2
  refine yY (yCe O_22 e0 f7 rfl) (Ya b3.v e0 (wK f6 (sQ fun _ f8 => ?_)))
  obtain ⟨j9, b4, d⟩ := bs d
  obtain ⟨k0, f9, d⟩ := bs d
  obtain ⟨k6, g0, d⟩ := bs d
  obtain ⟨b5, g1, d⟩ := bs d
  refine dR [0, 1, 0, 4, 0, 16, 48, 124, 255, 511, 1023, 0] [7, 8, 9] 3 folM ?_
  replace b := b.drew
  refine Dn [0, 1, 2, 3, 4, 5, 6, 11] [] [7] (yR rfl (yFb FL_29_0 (eh x)) (yR rfl (lbs_ [h.v] ST_27 e0 b R0) (yR rfl (yFb FL_29_0 (eh x)) (yR rfl (lbs_ [h.v] ST_27 e0 b R0) (yR rfl (m_ b3.v e0) (yR rfl (yIa SL_22 e0 rfl b (rdI F0) b4) (yR rfl (yI O_3 e0 b (rdI F0) b4) (yR rfl (m_ (iV 0) rfl) (Rn QSn ?_)))))))))
  refine Lc1 rfl ?_
  refine Lk wn (yCall FN_72 (a2 e0 e0)) (graph_Peripheral_ok f9 (mtF A) b) ?_
  rintro _ w ⟨rfl, b⟩
  refine ⟨_, rfl, ?_⟩
  refine Dn [] [0, 1, 11] [8] (Rn (yS rfl (yFb FL_29_0 (eh x)) (yS rfl (lbs_ [h.v] ST_27 e0 b R0) (yS rfl (m_ (iV 0) rfl) QSn))) ?_)
  refine Lc1 rfl ?_
  refine Lk wn (yCall FN_71 (a2 e0 e0)) (graph_Levels_ok g0 (mtF A) b) ?_
  rintro _ w ⟨k7, rfl, b⟩
  refine ⟨_, rfl, ?_⟩
  refine Dn [] [11] [9] (Rn (yS rfl (m_ (iV 0) rfl) QSn) ?_)
  refine Lc1 rfl ?_
  replace b := b.fz
  refine Lk wn (yCall FN_70 (a1 e0)) (slices_Concat_int_ok g1 F0 b) ?_
  rintro _ w ⟨b6, rfl, b⟩
  refine ⟨_, rfl, ?_⟩
  refine Dz [10] [11] (yR rfl (yLen SL_22 e0 b rO0) (Rn (yS rfl (m_ (iV 0) rfl) QSn) (f8 _ _ (blockQ fun b8 b9 => ?_))))
  obtain ⟨c0, g2, d⟩ := bs d
  have g3 : ∀ (H : LI) (I : Int) (f : FV) (w : World), f 1 = (pB m) → f 3 = c.v → f 4 = iV t → f 5 = iV I → f 20 = p.v → f 21 = iV (o.length : Int) → f 22 = iV q → St w0 ros (box m 29 [h.v, j.v, k.v] :: row 3 I1 c.v H :: row 22 S1 p.v o :: rs) w → .inl (H, I) = c0 → b8 (.exit 2) (fr 59 f) w := by
   intro H I f w g4 g5 g6 g7 g8 g9 h0 b ho
   subst ho
   refine b9 _ _ _ (b1 _ _ _ (f4 _ _ (wR (yY (yadd (eh h0) rfl) (Ym (iV (wa .i64 q 1)) e0 (wN ?_))))))
   obtain rfl := someI d
   exact f0 _ _ _ rfl ⟨_, _, _, _, rfl, rfl, g4, g5, g6, g7, g8, g9, rfl, b⟩
  have h1 : ∀ (J : LI) (f : FV) (w : World), f 2 = c.v → St w0 ros (row 3 I1 c.v J :: rs) w → .inr J = c0 → b8 .ret (fr 59 f) w := by
   intro J f w h3 b ho
   subst ho
   refine b9 _ _ _ (b1 _ _ _ (f5 _ _ _ rfl ?_))
   obtain rfl := someI d
   exact b0 _ _ _ _ rfl rfl (e6 _ _ _ h3 b (a9 _ rfl))
  refine loopQ (fun s a w => ∃ (K : LI) (r y : Int) (f : FV), (K, r, y) = s ∧ a = fr 59 f ∧ f 1 = (pB m) ∧ f 3 = c.v ∧ f 4 = iV t ∧ f 5 = iV r ∧ f 20 = p.v ∧ f 21 = iV (o.length : Int) ∧ f 22 = iV q ∧ f 35 = b6.v ∧ f 36 = iV (b5.length : Int) ∧ f 37 = iV y ∧ St w0 ros (box m 29 [h.v, j.v, k.v] :: row 3 I1 c.v K :: row 22 S1 p.v o :: row 3 I1 b6.v b5 :: rs) w) g2 ⟨_, _, _, _, rfl, rfl, x, a6, e8, e9, a7, a8, F, rfl, rfl, rfl, ((b.pk 4 [1, 1, 1, 0] rfl).facts (allT (allT allI)))⟩ ?_
  rintro _ _ w k8 ⟨K, r, y, f, rfl, rfl, L, z, N, O, c1, c2, c3, c4, c5, R, b⟩ g c6 k9 h5 c7
  refine sR fun _ h7 => yY (ylss (eh R) (eh c5)) (wK h7 (seqQ fun l0 h9 i0 => ?_))
  rcases iteS g with ⟨S, g⟩ | ⟨S, g⟩
  ·refine cT e0 S (wp_skip (h9 _ _ (seqQ fun l1 i1 i2 => blockQ fun _ c8 => sR fun _ i3 => ?_)))
   obtain ⟨T, c9, g⟩ := bs g
   refine yY (yIa SL_22 (eh c4) (eh R) b rO3 c9) (yY (yI O_3 e0 b rO3 c9) (Ya (iV T) e0 (wK i3 (seqQ fun l2 i4 i5 => sR fun _ i6 => Ym (iV r) (eh O) (yY (ymul rfl e0) (Ym (iV t) (eh N) (yY (ygeq e0 e0) (wK i6 ?_))))))))
   rcases iteS g with ⟨U, g⟩ | ⟨U, g⟩
   ·refine cT e0 U (sR fun _ i7 => Ym c.v (eh z) (Ya c.v e0 (wK i7 (wp_ret (i5 _ _ _ rfl (c8 _ _ _ (i2 _ _ _ rfl ?_)))))))
    obtain rfl := someI g
    exact c7 _ _ _ _ rfl rfl (h1 _ _ _ rfl (b.pk 4 [1] rfl) (c6 _ rfl))
   ·refine cF e0 U (wp_skip (i4 _ _ (sR fun _ i8 => Ym c.v (eh z) (Ym (iV T) e0 ?_))))
    obtain ⟨l3, d0, g⟩ := bs g
    refine yY (yIs SL_22 e0 e0 b rO1 d0) ?_
    replace b := b.pk 2 [1, 0] rfl
    refine YT wn rfl (r_sti (cs := [iV 0]) b O_3 rfl e0 rfl rfl mkI d0) ?_
    intro w b
    refine wK i8 (wR (Ym (iV r) (eh O) (yY (yFb FL_29_1 (eh L)) (yY (lb_ j.v O_22 e0 b R1) (Ym (iV T) e0 ?_)))))
    obtain ⟨i9, d1, g⟩ := bs g
    refine yY (yIa SL_22 e0 e0 b (rdI u) d1) (yY (yI O_3 e0 b (rdI u) d1) (yY (yadd e0 e0) (Ya (iV (wa .i64 r i9)) e0 (wN (c8 _ _ _ (i1 _ _ (wR (yY (yadd (eh R) rfl) (Ym (iV (wa .i64 y 1)) e0 (wN ?_))))))))))
    obtain rfl := someI g
    exact h5 _ _ _ rfl ⟨_, _, _, _, rfl, rfl, L, z, N, rfl, c1, c2, c3, c4, c5, rfl, (b.pk 4 [1, 0, 0, 0] rfl)⟩
  ·refine cF e0 S (wp_exit (i0 _ _ _ rfl ?_))
   obtain rfl := someI g
   exact c7 _ _ _ _ rfl rfl (g3 _ _ _ _ L z N O c1 c2 c3 (b.pk 4 [0, 0, 0] rfl) (c6 _ rfl))
 ·refine cF e0 G (wp_exit (f3 _ _ _ rfl ?_))
  obtain rfl := someI d
  exact b0 _ _ _ _ rfl rfl (e3 _ _ _ a6 (b.pk 3 [1] rfl) (a9 _ rfl))
theorem dissect_match_ok {t : L2} {b2 : LI} {b3 : L2} {j p m : Hdr} {out : LI} (q : dissect_match t b2 b3 = some out) (O : imm S1 j.v t ∈ ros) (e1 : imm I1 p.v b2 ∈ ros) (B : imm S1 m.v b3 ∈ ros) (b : St w0 ros rs w) :
  Calls Try.prog 28 #[.agg #[j.v, p.v, m.v]] w (fun e w => ∃ (b4 : Hdr), e = .returned (b4.v) ∧ St w0 ros (row 3 I1 b4.v out :: rs) w) := by
 refine enterQ Try.func28 rfl Try.ntmps28 rfl fun Q e2 => sR fun _ e3 => YB wn rfl (r_box (vals := [j.v, p.v, m.v]) b e0 rfl) ?_
 intro o w b
 refine Ya hnil.v rfl (wK e3 (sR fun _ e4 => YH wn rfl (rLt (n := 1) (l := [(-1)]) b SL_22 [iV (-1)] (bp1 rfl) rfl rfl (mks1 (cs := [iV (-1)]) rfl mkI mks0)) ?_))
 intro m3 w b
 refine yY (yFb FL_29_1 e0) (yY (lb_ p.v O_22 e0 b R1) (yY (yLen SL_22 e0 b (rdI e1)) ?_))
 obtain ⟨m4, e5, q⟩ := bs q
 replace b := b.fz
 refine Yc wn rfl (yCall FN_46 (a2 e0 e0)) (slices_Repeat_int_ok e5 F0 b) ?_
 rintro _ w ⟨g, rfl, b⟩
 refine ⟨_, rfl, ?_⟩
 refine Ya g.v e0 (wK e4 (sQ fun _ e6 => sR fun _ e7 => yY (yFb FL_29_0 e0) (yY (yFb FL_27_0 e0) (yY (lb_ j.v O_25 e0 b R1) (yY (yLen SL_25 e0 b (rdI (mtF O))) (Ym (iV 0) rfl (wK e7 (blockQ fun e8 e9 => ?_))))))))
 obtain ⟨f0, f1, q⟩ := bs q
 have f2 : ∀ (R : LI) (f : FV) (w : World), f 3 = g.v → St w0 ros (row 3 I1 g.v R :: rs) w → R = f0 → e8 (.exit 0) (fr 74 f) w := by
  intro R f w f3 b ho
  subst ho
  refine e9 _ _ _ (e6 _ _ (sR fun _ f4 => Ym g.v (eh f3) (Ya g.v e0 (wK f4 (wp_ret ?_)))))
  obtain rfl := someI q
  exact e2 _ _ _ (fin1r Try.results28 ⟨rfl, rfl⟩ ⟨_, rfl, b⟩)
 refine loopQ (fun s a w => ∃ (x : LI) (c : Int) (f : FV), (x, c) = s ∧ a = fr 74 f ∧ f 1 = (pB o) ∧ f 3 = g.v ∧ f 17 = j.v ∧ f 18 = iV (t.length : Int) ∧ f 19 = iV c ∧ St w0 ros (box o 29 [j.v, p.v, m.v] :: row 3 I1 g.v x :: rs) w) f1 ⟨_, _, _, rfl, rfl, rfl, rfl, rfl, rfl, rfl, ((b.pk 2 [1, 0] rfl).facts (allT allI))⟩ ?_
 rintro _ _ w f5 ⟨x, c, f, rfl, rfl, b5, F, S, T, C, b⟩ h f6 m5 f7 f8
 refine sR fun _ f9 => yY (ylss (eh C) (eh T)) (wK f9 (seqQ fun m6 g0 g1 => ?_))
 rcases iteS h with ⟨U, h⟩ | ⟨U, h⟩
 ·refine cT e0 U (wp_skip (g0 _ _ (sQ fun g2 g3 => ?_)))
  have b6 : ∀ (V : LI) (f : FV) (w : World), f 1 = (pB o) → f 3 = g.v → f 17 = j.v → f 18 = iV (t.length : Int) → f 19 = iV c → St w0 ros (box o 29 [j.v, p.v, m.v] :: row 3 I1 g.v V :: rs) w → dissect_match_j60 c V = some f5 → g2 .normal (fr 74 f) w := by
   intro V f w g4 g5 g6 g7 g8 b q
   refine g3 _ _ (wR (yY (yadd (eh g8) rfl) (Ym (iV (wa .i64 c 1)) e0 (wN ?_))))
   obtain rfl := someI q
   exact f7 _ _ _ rfl ⟨_, _, _, rfl, rfl, g4, g5, g6, g7, rfl, b⟩
  refine blockQ fun _ b8 => sR fun _ g9 => Ym (iV c) (eh C) ?_
  obtain ⟨y, b9, h⟩ := bs h
  refine yY (yIa SL_25 (eh S) (eh C) b (rdI O) b9) ?_
  obtain ⟨u, b⟩ := iLs b O b9
  refine yY (yCt O_22 e0 b F1 rfl) (Ya (iV c) e0 (Ya u.v e0 (wK g9 (seqQ fun m7 h0 h1 => sR fun _ h3 => Ym g.v (eh F) (Ym (iV c) e0 ?_)))))
  obtain ⟨m8, c0, h⟩ := bs h
  refine yY (yIa SL_22 e0 e0 b rO1 c0) (yY (yI O_3 e0 b rO1 c0) (yY (yneq e0 rfl) (wK h3 ?_)))
  rcases iteS h with ⟨W, h⟩ | ⟨W, h⟩
  ·refine condF e0 (nF (dT W)) (wp_skip (h0 _ _ (sR fun _ h5 => Ym (iV c) e0 (Ya (iV c) e0 (Ya (iV 0) rfl (wK h5 (sQ fun _ h7 => sR fun _ h9 => Ym u.v e0 ?_)))))))
   refine yY (yLen SL_22 e0 b (rdI F0)) (Ym (iV 0) rfl (wK h9 (blockQ fun i0 i1 => ?_)))
   obtain ⟨i2, i3, h⟩ := bs h
   have i4 : ∀ (z : Int) (f : FV) (w : World), f 1 = (pB o) → f 3 = g.v → f 4 = iV c → f 6 = iV z → f 17 = j.v → f 18 = iV (t.length : Int) → f 19 = iV c → St w0 ros (box o 29 [j.v, p.v, m.v] :: row 3 I1 g.v x :: rs) w → z = i2 → i0 (.exit 2) (fr 74 f) w := by
    intro z f w i5 X c1 c2 i6 i7 i8 b ho
    subst ho
    refine i1 _ _ _ (h7 _ _ (wR (Ym g.v (eh X) (Ym (iV c) (eh c1) (Ym g.v (eh X) (Ym (iV z) (eh c2) (Ym (iV z) (eh c2) (Ym (iV c) (eh c1) ?_))))))))
    obtain ⟨m9, c3, h⟩ := bs h
    refine yY (yIs SL_22 e0 e0 b rO1 c3) ?_
    replace b := b.pk 2 [1, 0] rfl
    refine YT wn rfl (r_sti (cs := [iV z]) b O_3 rfl e0 e0 rfl mkI c3) ?_
    intro w b
    obtain ⟨n0, c4, h⟩ := bs h
    refine yY (yIs SL_22 e0 e0 b rO0 c4) (YT wn rfl (r_sti (cs := [iV c]) b O_3 rfl e0 e0 rfl mkI c4) ?_)
    intro w b
    exact wN (b8 _ _ _ (b6 _ _ _ i5 X i6 i7 i8 (b.pk 2 [1, 0] rfl) h))
   refine loopQ (fun s a w => ∃ (G A k : Int) (f : FV), (G, A, k) = s ∧ a = fr 74 f ∧ f 1 = (pB o) ∧ f 3 = g.v ∧ f 4 = iV c ∧ f 6 = iV G ∧ f 7 = iV A ∧ f 17 = j.v ∧ f 18 = iV (t.length : Int) ∧ f 19 = iV c ∧ f 30 = u.v ∧ f 31 = iV (y.length : Int) ∧ f 32 = iV k ∧ St w0 (imm I1 u.v y :: ros) (box o 29 [j.v, p.v, m.v] :: row 3 I1 g.v x :: rs) w) i3 ⟨_, _, _, _, rfl, rfl, b5, F, rfl, rfl, rfl, S, T, C, rfl, rfl, rfl, (b.facts (allC F0 (allT (allT allI))))⟩ ?_
   rintro _ _ w i9 ⟨G, A, k, f, rfl, rfl, H, I, J, Z, a0, a1, a3, a4, a5, a6, D, b⟩ i j0 n1 j1 j2
   refine sR fun _ j3 => yY (ylss (eh D) (eh a6)) (wK j3 (seqQ fun n2 j4 j5 => ?_))
   rcases iteS i with ⟨a7, i⟩ | ⟨a7, i⟩
   ·refine cT e0 a7 (wp_skip (j4 _ _ (sQ fun _ j6 => blockQ fun j7 j8 => sR fun _ j9 => Ym (iV k) (eh D) ?_)))
    obtain ⟨E, c5, i⟩ := bs i
    refine yY (yIa SL_22 (eh a5) (eh D) b (rdI F0) c5) (yY (yI O_3 e0 b (rdI F0) c5) (Ya (iV k) e0 (Ya (iV E) e0 (wK j9 (sR fun _ k0 => Ym g.v (eh I) (Ym (iV E) e0 ?_))))))
    obtain ⟨k5, c6, i⟩ := bs i
    refine yY (yIa SL_22 e0 e0 b rO1 c6) (yY (yI O_3 e0 b rO1 c6) (yY (yeql e0 rfl) (Ym (.bool (decide (k5 = (-1)))) e0 ?_)))
    obtain ⟨k6, r, i⟩ := bs i
    refine joinW 11 (fun f w => f 1 = (pB o) ∧ f 3 = g.v ∧ f 4 = iV c ∧ f 6 = iV G ∧ f 7 = iV A ∧ f 8 = iV k ∧ f 9 = iV E ∧ f 17 = j.v ∧ f 18 = iV (t.length : Int) ∧ f 19 = iV c ∧ f 30 = u.v ∧ f 31 = iV (y.length : Int) ∧ f 32 = iV k ∧ f 53 = .bool k6 ∧ St w0 (imm I1 u.v y :: ros) (box o 29 [j.v, p.v, m.v] :: row 3 I1 g.v x :: rs) w) (fun c7 => ?_) ?_
    ·rcases iteS r with ⟨d, r⟩ | ⟨d, r⟩
     ·refine yG (dT d) (yFb FL_29_2 (eh H)) (yG (dT d) (lb_ m.v O_25 e0 b R0) (yG (dT d) (m_ (iV c) (eh J)) ?_))
      obtain ⟨n3, c8, r⟩ := bs r
      refine yG (dT d) (yIa SL_25 e0 e0 b (rdI (mtF B)) c8) ?_
      obtain ⟨n4, b⟩ := iLs b (mtF B) c8
      refine yG (dT d) (yCt O_22 e0 b F1 rfl) (yG (dT d) (m_ (iV k) e0) ?_)
      obtain ⟨k7, c9, r⟩ := bs r
      refine yG (dT d) (yIa SL_22 e0 e0 b (rdI F0) c9) (yG (dT d) (yI O_3 e0 b (rdI F0) c9) (yG (dT d) (m_ (iV A) (eh a0)) (yG (dT d) (ygtr e0 e0) (yY (pt_ (.bool (decide (A < k7))) e0 (dT d) e0) ?_))))
      obtain rfl := someI r
      exact c7 _ _ ⟨H, I, J, Z, a0, rfl, rfl, a1, a3, a4, a5, a6, D, rfl, (b.facts (allC F2 (allT (allT (allT allI)))))⟩
     ·refine gN (dF d) (gN (dF d) (gN (dF d) (gN (dF d) (gN (dF d) (gN (dF d) (gN (dF d) (gN (dF d) (gN (dF d) (gN (dF d) (yY (pf_ (.bool false) e0 (dF d) rfl) ?_))))))))))
      obtain rfl := someI r
      exact c7 _ _ ⟨H, I, J, Z, a0, rfl, rfl, a1, a3, a4, a5, a6, D, rfl, b⟩
    rintro f w ⟨K, d0, L, k8, k9, d1, l0, d2, d3, d4, d5, d6, d7, d8, b⟩
    refine wK k0 ?_
    have d9 : ∀ (a8 a9 : Int) (f : FV) (w : World), f 1 = (pB o) → f 3 = g.v → f 4 = iV c → f 6 = iV a8 → f 7 = iV a9 → f 17 = j.v → f 18 = iV (t.length : Int) → f 19 = iV c → f 30 = u.v → f 31 = iV (y.length : Int) → f 32 = iV k → St w0 (imm I1 u.v y :: ros) (box o 29 [j.v, p.v, m.v] :: row 3 I1 g.v x :: rs) w → dissect_match_j67 k a8 a9 = some i9 → j7 .normal (fr 74 f) w := by
     intro a8 a9 f w l1 l2 l3 l4 l5 l6 l7 l8 l9 m0 m1 b q
     refine j8 _ _ _ (j6 _ _ (wR (yY (yadd (eh m1) rfl) (Ym (iV (wa .i64 k 1)) e0 (wN ?_)))))
     obtain rfl := someI q
     exact j1 _ _ _ rfl ⟨_, _, _, _, rfl, rfl, l1, l2, l3, l4, l5, l6, l7, l8, l9, m0, rfl, b⟩
    rcases iteS i with ⟨b0, i⟩ | ⟨b0, i⟩
    ·refine condT (eh d8) b0 ?_
     obtain ⟨n5, b1, i⟩ := bs i
     obtain ⟨m2, N, i⟩ := bs i
     refine dR [0, 0, 2, 0, 14, 30, 0, 126, 254, 1, 1023] [9, 10] 2 folM ?_
     replace b := b.drew
     refine Dn [0, 1, 2, 3, 4, 5, 6, 7, 8] [] [9] (yR rfl (m_ (iV E) (eh l0)) (yR rfl (yFb FL_29_2 (eh K)) (yR rfl (lb_ m.v O_25 e0 b R0) (yR rfl (m_ (iV c) (eh L)) (yR rfl (yIa SL_25 e0 e0 b (rdI (mtF B)) b1) ?_)))))
     obtain ⟨n6, b⟩ := iLs b (mtF B) b1
     refine yR rfl (yCt O_22 e0 b F1 rfl) (yR rfl (m_ (iV k) (eh d1)) (yR rfl (yIa SL_22 e0 e0 b (rdI F0) N) (yR rfl (yI O_3 e0 b (rdI F0) N) (Rn QSn ?_))))
     refine Lc1 rfl ?_
     refine Ly wn (a_ (iV E) e0) (Dn [] [1, 2, 3, 4, 5, 6, 7, 8] [10] (Rn (yS rfl (yFb FL_29_2 (eh K)) (yS rfl (lb_ m.v O_25 e0 b R0) (yS rfl (m_ (iV c) (eh L)) (yS rfl (yIa SL_25 e0 e0 b (rdI (F_3 B)) b1) (yS rfl (yCt O_22 e0 b F1 rfl) (yS rfl (m_ (iV k) (eh d1)) (yS rfl (yIa SL_22 e0 e0 b (rdI F0) N) (yS rfl (yI O_3 e0 b (rdI F0) N) QSn)))))))) ?_))
     refine Lc1 rfl ?_
     exact Ly wn (a_ (iV m2) e0) (Dz [] [] (Rn QSn (d9 _ _ _ _ K d0 L rfl rfl d2 d3 d4 d5 d6 d7 (b.facts (allC F2 (allT (allT (allT allI))))) i)))
    ·exact condF (eh d8) (bfalse b0) (wp_skip (d9 _ _ _ _ K d0 L k8 k9 d2 d3 d4 d5 d6 d7 b i))
   ·refine cF e0 a7 (wp_exit (j5 _ _ _ rfl ?_))
    obtain rfl := someI i
    exact j2 _ _ _ _ rfl rfl (i4 _ _ _ H I J Z a1 a3 a4 (b.facts (allT allI)) (j0 _ rfl))
  ·exact condT e0 (nT (dF W)) (wp_exit (h1 _ _ _ rfl (b8 _ _ _ (b6 _ _ _ b5 F S T C (b.facts (allT (allT allI))) h))))
 ·refine cF e0 U (wp_exit (g1 _ _ _ rfl ?_))
  obtain rfl := someI h
  exact f8 _ _ _ _ rfl rfl (f2 _ _ _ F (b.pk 2 [1] rfl) (f6 _ rfl))
theorem dissect_weights_1_ok {a : Int} {out : Bool} (g : dissect_weights_1 a = some out) (c : St w0 ros rs w) :
  Calls Try.prog 63 #[iV a] w (fun e w => e = .returned (.bool out) ∧ St w0 ros rs w) := by
 refine enterQ Try.func63 rfl Try.ntmps63 rfl fun Q h => sR fun _ i => Ya (.bool false) rfl (wK i (sR fun _ j => Ym (iV a) e0 (yY (ylss e0 rfl) (Ym (.bool (decide (a < 1))) e0 ?_))))
 refine joinW 3 (fun f w => f 8 = .bool ((decide (a < 1)) || (decide ((1099511627776 : Int) < a))) ∧ St w0 ros rs w) (fun d => ?_) ?_
 ·rcases Bool.eq_false_or_eq_true (decide (a < 1)) with b | b
  ·exact gN b (gN b (yY (pt_ (.bool true) e0 b rfl) (d _ _ ⟨(congrArg Value.bool (orT b)), c⟩)))
  ·exact yG b (m_ (iV a) e0) (yG b (ygtr e0 rfl) (yY (pf_ (.bool (decide ((1099511627776 : Int) < a))) e0 b e0) (d _ _ ⟨(congrArg Value.bool (orF b)), c⟩)))
 rintro f w ⟨k, c⟩
 refine Ya (.bool ((decide (a < 1)) || (decide ((1099511627776 : Int) < a)))) (eh k) (wK j (wp_ret ?_))
 obtain rfl := someI g
 exact h _ _ _ (fin1r Try.results63 ⟨rfl, rfl⟩ ⟨rfl, c⟩)
theorem slices_IndexFunc_int_ok {i : LI} {g : Hdr} {out : Int} (h : slices_IndexFunc_int i = some out) (j : imm I1 g.v i ∈ ros) (b : St w0 ros rs w) :
  Calls Try.prog 61 #[g.v, .func (.func 63) #[] #[]] w (fun e w => e = .returned (iV out) ∧ St w0 ros rs w) := by
 refine enterQ Try.func61 rfl Try.ntmps61 rfl fun Q o => sR fun _ C => Ya (iV 0) rfl (wK C (seqQ fun Z D E => sR fun _ F => Ym g.v e0 (yY (yLen SL_22 e0 b (rdI j)) (Ym (iV 0) rfl (wK F ?_)))))
 refine blockQ fun p q => ?_
 obtain ⟨r, G, h⟩ := bs h
 have H : ∀ (f : FV) (w : World), St w0 ros rs w → .inl () = r → p (.exit 0) (fr 19 f) w := by
  intro f w b ho
  subst ho
  refine q _ _ _ (D _ _ (sR fun _ I => Ya (iV (-1)) rfl (wK I (wp_ret ?_))))
  obtain rfl := someI h
  exact o _ _ _ (fin1r Try.results61 ⟨rfl, rfl⟩ ⟨rfl, b⟩)
 have J : ∀ (k : Int) (f : FV) (w : World), f 4 = iV k → St w0 ros rs w → .inr k = r → p .ret (fr 19 f) w := by
  intro k f w K b ho
  subst ho
  refine q _ _ _ (E _ _ _ rfl ?_)
  obtain rfl := someI h
  exact o _ _ _ (fin1r Try.results61 ⟨rfl, K⟩ ⟨rfl, b⟩)
 refine loopQ (fun s a w => ∃ (d : Int) (f : FV), d = s ∧ a = fr 19 f ∧ f 0 = g.v ∧ f 1 = .func (.func 63) #[] #[] ∧ f 7 = iV (i.length : Int) ∧ f 8 = iV d ∧ St w0 ros rs w) G ⟨_, _, rfl, rfl, rfl, rfl, rfl, rfl, b⟩ ?_
 rintro _ _ w a0 ⟨d, f, rfl, rfl, t, u, x, l, b⟩ c y a2 L z
 refine sR fun _ N => yY (ylss (eh l) (eh x)) (wK N (seqQ fun a3 O R => ?_))
 rcases iteS c with ⟨m, c⟩ | ⟨m, c⟩
 ·refine cT e0 m (wp_skip (O _ _ (seqQ fun a4 S T => blockQ fun _ A => sR fun _ U => Ym (iV d) (eh l) (Ya (iV d) e0 (wK U (sR fun _ V => Ym (.func (.func 63) #[] #[]) (eh u) ?_))))))
  refine Ym g.v (eh t) (Ym (iV d) e0 ?_)
  obtain ⟨a5, B, c⟩ := bs c
  refine yY (yIa SL_22 e0 e0 b (rdI j) B) (yY (yI O_3 e0 b (rdI j) B) ?_)
  obtain ⟨a6, W, c⟩ := bs c
  refine Yc wn rfl (yCallw FN_63 e0 (a1 e0)) (dissect_weights_1_ok W b) ?_
  rintro _ w ⟨rfl, b⟩
  refine ⟨_, rfl, ?_⟩
  refine wK V ?_
  rcases iteS c with ⟨n, c⟩ | ⟨n, c⟩
  ·refine condT e0 n (sR fun _ X => Ym (iV d) e0 (Ya (iV d) e0 (wK X (wp_ret (A _ _ _ (T _ _ _ rfl ?_))))))
   obtain rfl := someI c
   exact z _ _ _ _ rfl rfl (J _ _ _ rfl b (y _ rfl))
  ·refine condF e0 (bfalse n) (wp_skip (A _ _ _ (S _ _ (wR (yY (yadd (eh l) rfl) (Ym (iV (wa .i64 d 1)) e0 (wN ?_)))))))
   obtain rfl := someI c
   exact L _ _ _ rfl ⟨_, _, rfl, rfl, t, u, x, rfl, b⟩
 ·refine cF e0 m (wp_exit (R _ _ _ rfl ?_))
  obtain rfl := someI c
  exact z _ _ _ _ rfl rfl (H _ _ b (y _ rfl))
theorem slices_ContainsFunc_int_ok {d : LI} {a : Hdr} {out : Bool} (b : slices_ContainsFunc_int d = some out) (f : imm I1 a.v d ∈ ros) (c : St w0 ros rs w) :
  Calls Try.prog 35 #[a.v, .func (.func 63) #[] #[]] w (fun e w => e = .returned (.bool out) ∧ St w0 ros rs w) := by
 refine enterQ Try.func35 rfl Try.ntmps35 rfl fun Q g => sR fun _ h => Ya (.bool false) rfl (wK h (sR fun _ i => Ym a.v e0 (Ym (.func (.func 63) #[] #[]) e0 ?_)))
 obtain ⟨j, k, b⟩ := bs b
 refine Yc wn rfl (yCall FN_61 (a2 e0 e0)) (slices_IndexFunc_int_ok k f c) ?_
 rintro _ w ⟨rfl, c⟩
 refine ⟨_, rfl, ?_⟩
 refine yY (ygeq e0 rfl) (Ya (.bool (decide ((0 : Int) ≤ j))) e0 (wK i (wp_ret ?_)))
 obtain rfl := someI b
 exact g _ _ _ (fin1r Try.results35 ⟨rfl, rfl⟩ ⟨rfl, c⟩)
theorem dissect_weights_ok {d : LI} {a : Hdr} {out : Bool} (b : dissect_weights d = some out) (f : imm I1 a.v d ∈ ros) (c : St w0 ros rs w) :
  Calls Try.prog 42 #[a.v] w (fun e w => e = .returned (.bool out) ∧ St w0 ros rs w) := by
 refine enterQ Try.func42 rfl Try.ntmps42 rfl fun Q g => sR fun _ h => Ya (.bool false) rfl (wK h (sR fun _ i => Ym a.v e0 ?_))
 obtain ⟨j, k, b⟩ := bs b
 refine Yc wn rfl (yCall FN_35 (a2 e0 rfl)) (slices_ContainsFunc_int_ok k f c) ?_
 rintro _ w ⟨rfl, c⟩
 refine ⟨_, rfl, ?_⟩
 refine yY (ynot e0) (Ya (.bool (!j)) e0 (wK i (wp_ret ?_)))
 obtain rfl := someI b
 exact g _ _ _ (fin1r Try.results42 ⟨rfl, rfl⟩ ⟨rfl, c⟩)
theorem dissect_coarsen_ok {b2 : L2} {m8 : LI} {m9 : L2} {c5 : LI} {G I K a8 : Hdr} {out : L2 × LI × L2 × LI × Bool} (r : dissect_coarsen b2 m8 m9 c5 = some out) (e8 : imm S1 G.v b2 ∈ ros) (c6 : imm I1 I.v m8 ∈ ros) (n0 : imm S1 K.v m9 ∈ ros) (c7 : imm I1 a8.v c5 ∈ ros) (b : St w0 ros rs w) :
  Calls Try.prog 41 #[.agg #[G.v, I.v, K.v], a8.v] w (fun e w => ∃ (n1 : Hdr) (n2 : List Hdr) (n5 n6 : Hdr) (n8 : List Hdr) (n9 : Hdr), e = .returned (.tuple #[.agg #[n1.v, n5.v, n6.v], n9.v, .bool out.2.2.2.2]) ∧ St w0 (imm I1 n5.v out.2.1 :: ros) (row 22 rH n1.v n2 :: fam 3 I1 n2 out.1 :: row 22 rH n6.v n8 :: fam 3 I1 n8 out.2.2.1 :: row 3 I1 n9.v out.2.2.2.1 :: rs) w) := by
 refine enterQ Try.func41 rfl Try.ntmps41 rfl fun Q e9 => sR fun _ v0 => YB wn rfl (r_box (vals := [G.v, I.v, K.v]) b e0 rfl) ?_
 intro D w b
 refine YB wn rfl (rAl b ZT_29) ?_
 intro m w b
 refine Ya hnil.v rfl (Ya (.bool false) rfl (wK v0 (sR fun _ v1 => Ym a8.v e0 (yY (yLen SL_22 e0 b (rdI c7)) ?_))))
 obtain ⟨O6, v2, r⟩ := bs r
 refine YH wn rfl (rMk b SL_22 e0 v2) ?_
 intro i w b
 refine Ya i.v e0 (wK v1 (sQ fun _ v3 => sR fun _ v4 => Ym a8.v e0 (yY (yLen SL_22 e0 b (rdI c7)) (Ym (iV 0) rfl (wK v4 (blockQ fun v5 v6 => ?_))))))
 obtain ⟨v7, v8, r⟩ := bs r
 have v9 : ∀ (o A : LI) (j : Hdr) (f : FV) (w : World), f 2 = (pB D) → f 4 = (pB m) → f 5 = i.v → St w0 ros (box D 29 [G.v, I.v, K.v] :: row 3 I1 j.v o :: box m 29 [hnil.v, j.v, hnil.v] :: row 3 I1 i.v A :: rs) w → (o, A) = v7 → v5 (.exit 0) (fr 200 f) w := by
  intro o A j f w w1 o0 w2 b ho
  subst ho
  refine v6 _ _ _ (v3 _ _ (sR fun _ w3 => yY (yFb FL_29_1 (eh o0)) (yY (lb_ j.v O_22 e0 b R2) (yY (yLen SL_22 e0 b rO1) (Ya (iV (o.length : Int)) e0 (wK w3 (sR fun _ w4 => Ym (iV (o.length : Int)) e0 ?_)))))))
  obtain ⟨w5, w6, r⟩ := bs r
  obtain ⟨w7, em112, w8⟩ := mkL_rep w6 hnil
  refine YH wn rfl (rMk b SLH_25 e0 w8) ?_
  intro p w b
  replace b := (b.fReps 3 I1 w7).pk 2 [1, 0] rfl
  rw [← em112] at b
  refine Ya p.v e0 (wK w4 (sQ fun _ w9 => sR fun _ x0 => Ym p.v e0 (yY (yLenF SLH_25 e0 b rO0 R1) (Ym (iV 0) rfl (wK x0 (blockQ fun x2 x4 => ?_))))))
  obtain ⟨x6, x8, r⟩ := bs r
  have x9 : ∀ (f0 : L2) (J : List Hdr) (f : FV) (w : World), f 2 = (pB D) → f 4 = (pB m) → f 5 = i.v → f 9 = iV (o.length : Int) → f 10 = p.v → St w0 ros (box D 29 [G.v, I.v, K.v] :: row 3 I1 j.v o :: box m 29 [hnil.v, j.v, hnil.v] :: row 3 I1 i.v A :: row 22 rH p.v J :: fam 3 I1 J f0 :: rs) w → f0 = x6 → x2 (.exit 2) (fr 200 f) w := by
   intro f0 J f w o1 y0 y1 y2 y3 b ho
   subst ho
   refine x4 _ _ _ (w9 _ _ (sQ fun _ y4 => sR fun _ y5 => yY (yFb FL_29_0 (eh o1)) (yY (yFb FL_27_0 e0) (yY (lb_ G.v O_25 e0 b R0) (yY (yLen SL_25 e0 b (rdI e8)) (Ym (iV 0) rfl (wK y5 (blockQ fun y6 y7 => ?_))))))))
   obtain ⟨y8, y9, r⟩ := bs r
   have z0 : ∀ (E : L2) (f : FV) (w : World), f 4 = (pB m) → f 5 = i.v → f 9 = iV (o.length : Int) → f 10 = p.v → St w0 ros (row 3 I1 j.v o :: box m 29 [hnil.v, j.v, hnil.v] :: row 3 I1 i.v A :: row 22 rH p.v J :: fam 3 I1 J E :: rs) w → E = y8 → y6 (.exit 4) (fr 200 f) w := by
    intro E f w S f1 b3 f2 b ho
    subst ho
    refine y7 _ _ _ (y4 _ _ (sQ fun _ z1 => ?_))
    obtain ⟨z2, o2, r⟩ := bs r
    obtain ⟨z3, f3, r⟩ := bs r
    refine joinN (n := 200) (fun f w => ∃ (k : Hdr) (f4 : List Hdr) (d : Hdr) (f5 : List Hdr), f 4 = (pB m) ∧ f 5 = i.v ∧ f 10 = p.v ∧ St w0 ros (row 22 rH k.v f4 :: fam 3 I1 f4 z2 :: row 3 I1 j.v o :: row 22 rH d.v f5 :: fam 3 I1 f5 z3 :: box m 29 [k.v, j.v, d.v] :: row 3 I1 i.v A :: row 22 rH p.v J :: fam 3 I1 J E :: rs) w) (fun f6 => ?_) ?_
    ·refine dR [0, 1, 0, 4, 3, 19, 51, 127, 255] [1, 3, 6, 8] 4 folM ?_
     replace b := b.drew
     refine Dn [0, 2] [] [1, 3] (yR rfl (m_ (iV (o.length : Int)) (eh b3)) (yR rfl (m_ (iV (o.length : Int)) (eh b3)) (Rn QSn ?_)))
     refine Lc rfl ?_ (Lc1 rfl ?_)
     ·obtain ⟨f7, em228, f8⟩ := mkL_rep o2 hnil
      refine LH wn (rMk b SLH_25 e0 f8) ?_
      intro a2 w b
      replace b := (b.fReps 3 I1 f7).pk 2 [1, 0] rfl
      rw [← em228] at b
      refine Dn [4, 5] [2] [3, 6] (yR rfl (yFb FL_29_0 (eh S)) (yR rfl (yFb FL_27_0 e0) (Rn (yS rfl (m_ (iV (o.length : Int)) (eh b3)) QSn) ?_)))
      refine Lc rfl ?_ (Lc1 rfl ?_)
      ·obtain ⟨b4, em231, b5⟩ := mkL_rep f3 hnil
       refine LH wn (rMk b SLH_25 e0 b5) ?_
       intro b6 w b
       replace b := (b.fReps 3 I1 b4).pk 2 [1, 0] rfl
       rw [← em231] at b
       refine Dn [] [4, 5] [6] (Rn (yS rfl (yFb FL_29_0 (eh S)) (yS rfl (yFb FL_27_0 e0) QSn)) ?_)
       refine Lc1 rfl ?_
       replace b := b.pk 6 [5, 0, 0, 0, 0, 0] rfl
       refine LT wn (r_stb1 (vals' := [a2.v, j.v, hnil.v]) b O_25 e0 e0 rfl rfl rfl rfl) ?_
       intro w b
       refine Dn [7] [] [8] (yR rfl (yFb FL_29_2 (eh S)) (Rn QSn ?_))
       refine Lc1 rfl ?_
       refine LT wn (r_stb1 (vals' := [a2.v, j.v, b6.v]) b O_25 e0 e0 rfl rfl rfl rfl) ?_
       intro w b
       exact Dz [] [] (Rn QSn (f6 _ _ ⟨_, _, _, _, S, f1, f2, (b.pk 9 [3, 3, 3, 1, 1, 0, 0, 0, 0] rfl)⟩))
      ·replace b := b.pk 4 [3, 0, 0, 0] rfl
       refine LT wn (r_stb1 (vals' := [a2.v, j.v, hnil.v]) b O_25 e0 e0 rfl rfl rfl rfl) ?_
       intro w b
       refine Dn [] [2] [3] (Rn (yS rfl (m_ (iV (o.length : Int)) (eh b3)) QSn) ?_)
       refine Lc1 rfl ?_
       obtain ⟨b4, em231, b5⟩ := mkL_rep f3 hnil
       refine LH wn (rMk b SLH_25 e0 b5) ?_
       intro b6 w b
       replace b := (b.fReps 3 I1 b4).pk 2 [1, 0] rfl
       rw [← em231] at b
       refine Dn [7] [] [8] (yR rfl (yFb FL_29_2 (eh S)) (Rn QSn ?_))
       refine Lc1 rfl ?_
       replace b := b.pk 3 [2, 0, 0] rfl
       refine LT wn (r_stb1 (vals' := [a2.v, j.v, b6.v]) b O_25 e0 e0 rfl rfl rfl rfl) ?_
       intro w b
       exact Dz [] [] (Rn QSn (f6 _ _ ⟨_, _, _, _, S, f1, f2, (b.pk 9 [3, 3, 3, 1, 1, 0, 0, 0, 0] rfl)⟩))
     ·obtain ⟨b4, em231, b5⟩ := mkL_rep f3 hnil
      refine LH wn (rMk b SLH_25 e0 b5) ?_
      intro b6 w b
      replace b := (b.fReps 3 I1 b4).pk 2 [1, 0] rfl
      rw [← em231] at b
      refine Dn [] [0] [1] (Rn (yS rfl (m_ (iV (o.length : Int)) (eh b3)) QSn) ?_)
      refine Lc1 rfl ?_
      obtain ⟨f7, em228, f8⟩ := mkL_rep o2 hnil
      refine LH wn (rMk b SLH_25 e0 f8) ?_
      intro a2 w b
      replace b := (b.fReps 3 I1 f7).pk 2 [1, 0] rfl
      rw [← em228] at b
      refine Dn [4, 5] [] [6] (yR rfl (yFb FL_29_0 (eh S)) (yR rfl (yFb FL_27_0 e0) (Rn QSn ?_)))
      refine Lc1 rfl ?_
      replace b := b.pk 6 [5, 0, 0, 0, 0, 0] rfl
      refine LT wn (r_stb1 (vals' := [a2.v, j.v, hnil.v]) b O_25 e0 e0 rfl rfl rfl rfl) ?_
      intro w b
      refine Dn [7] [] [8] (yR rfl (yFb FL_29_2 (eh S)) (Rn QSn ?_))
      refine Lc1 rfl ?_
      refine LT wn (r_stb1 (vals' := [a2.v, j.v, b6.v]) b O_25 e0 e0 rfl rfl rfl rfl) ?_
      intro w b
      exact Dz [] [] (Rn QSn (f6 _ _ ⟨_, _, _, _, S, f1, f2, (b.pk 9 [1, 1, 3, 1, 1, 0, 0, 0, 0] rfl)⟩))
    rintro f w ⟨k, f4, d, f5, z4, z5, z6, b⟩
    refine z1 _ _ (seqQ fun O7 z7 z8 => sR fun _ z9 => Ym p.v (eh z6) (yY (yLenF SLH_25 e0 b rO7 R8) (Ym (iV 0) rfl (wK z9 (blockQ fun o5 o6 => ?_)))))
    replace b := b.pk 9 [7, 7, 0, 0, 0, 0, 0, 0, 0] rfl
    replace b := b.ffz
    obtain ⟨o8, A0, r⟩ := bs r
    have A1 : ∀ (f9 g0 : L2) (g1 g2 : List Hdr) (f : FV) (w : World), f 4 = (pB m) → f 5 = i.v → St w0 ros (row 22 rH k.v g1 :: fam 3 I1 g1 f9 :: row 3 I1 j.v o :: row 22 rH d.v g2 :: fam 3 I1 g2 g0 :: box m 29 [k.v, j.v, d.v] :: row 3 I1 i.v A :: rs) w → .inl (f9, g0) = o8 → o5 (.exit 8) (fr 200 f) w := by
     intro f9 g0 g1 g2 f w a9 A2 b ho
     subst ho
     refine o6 _ _ _ (z7 _ _ (seqQ fun O8 A3 A4 => sR fun _ A5 => yY (yFb FL_29_1 (eh a9)) (yY (lb_ j.v O_22 e0 b R5) ?_)))
     obtain ⟨O9, A6, r⟩ := bs r
     replace b := b.pk 3 [2, 0, 0] rfl
     replace b := b.fz
     refine Yc wn rfl (yCall FN_42 (a1 e0)) (dissect_weights_ok A6 F0 b) ?_
     rintro _ w ⟨rfl, b⟩
     refine ⟨_, rfl, ?_⟩
     refine yY (ynot e0) (wK A5 ?_)
     rcases iteS r with ⟨g3, r⟩ | ⟨g3, r⟩
     ·refine condF e0 (nF g3) (wp_skip (A3 _ _ (sR fun _ A7 => yY (lbs_ [k.v, j.v, d.v] ST_29 (eh a9) b R4) (Ym i.v (eh A2) ?_))))
      replace b := b.pk 5 [4, 0, 0, 0, 0] rfl
      refine YT wn rfl (r_stbn (vals' := [k.v, j.v, d.v]) (us := [k.v, j.v, d.v]) b ST_29 (eh a9) e0 rfl rfl (one_of rfl) rfl) ?_
      intro w b
      refine Ya i.v e0 (Ya (.bool true) rfl (wK A7 (wp_ret ?_)))
      obtain rfl := someI r
      exact e9 _ _ _ (fin3r Try.results41 (rcs2 rfl a9 b R0 ST_29 rfl) ⟨rfl, rfl⟩ ⟨rfl, rfl⟩ ⟨_, _, _, _, _, _, rfl, (b.pk 6 [1, 1, 1, 1, 1] rfl)⟩)
     ·refine condT e0 (nT (bfalse g3)) (sR fun _ A8 => yY (ybuild (us := [hnil.v, hnil.v, hnil.v]) [] SO_29 bp0 rfl) ?_)
      replace b := b.pk 5 [4, 0, 0, 0, 0] rfl
      refine YT wn rfl (r_stbn (vals' := [hnil.v, hnil.v, hnil.v]) (us := [hnil.v, hnil.v, hnil.v]) b ST_29 (eh a9) e0 rfl rfl (one_of rfl) rfl) ?_
      intro w b
      refine Ya hnil.v rfl (Ya (.bool false) rfl (wK A8 (wp_ret (A4 _ _ _ rfl ?_))))
      obtain rfl := someI r
      replace b := ((b.rowNh 22 rH).fNew 3 I1).pk 2 [1, 0] rfl
      replace b := b.immNh I1
      replace b := ((b.rowNh 22 rH).fNew 3 I1).pk 2 [1, 0] rfl
      replace b := b.rowNh 3 I1
      exact e9 _ _ _ (fin3r Try.results41 (rcs2 rfl a9 b R5 ST_29 rfl) ⟨rfl, rfl⟩ ⟨rfl, rfl⟩ ⟨_, _, _, _, _, _, rfl, ((b.pk 11 [3, 3, 1, 1, 0] rfl).facts (allC F0 (allT (allT allI))))⟩)
    have A9 : ∀ (f : FV) (w : World), f 4 = (pB m) → f 5 = hnil.v → f 6 = .bool false → St w0 ros (box m 29 [hnil.v, hnil.v, hnil.v] :: rs) w → .inr () = o8 → o5 .ret (fr 200 f) w := by
     intro f w B0 B1 B2 b ho
     subst ho
     refine o6 _ _ _ (z8 _ _ _ rfl ?_)
     obtain rfl := someI r
     replace b := ((b.rowNh 22 rH).fNew 3 I1).pk 2 [1, 0] rfl
     replace b := b.immNh I1
     replace b := ((b.rowNh 22 rH).fNew 3 I1).pk 2 [1, 0] rfl
     replace b := b.rowNh 3 I1
     exact e9 _ _ _ (fin3r Try.results41 (rcs2 rfl B0 b R5 ST_29 rfl) ⟨rfl, B1⟩ ⟨rfl, B2⟩ ⟨_, _, _, _, _, _, rfl, (b.pk 6 [3, 3, 1, 1, 0] rfl)⟩)
    refine loopQ (fun s a w => ∃ (g4 g5 : L2) (c : Int) (f : FV) (g6 g7 : List Hdr), (g4, g5, c) = s ∧ a = fr 200 f ∧ f 4 = (pB m) ∧ f 5 = i.v ∧ f 136 = p.v ∧ f 137 = iV (E.length : Int) ∧ f 138 = iV c ∧ St w0 (imm S1 p.v E :: ros) (row 22 rH k.v g6 :: fam 3 I1 g6 g4 :: row 3 I1 j.v o :: row 22 rH d.v g7 :: fam 3 I1 g7 g5 :: box m 29 [k.v, j.v, d.v] :: row 3 I1 i.v A :: rs) w) A0 ⟨_, _, _, _, _, _, rfl, rfl, z4, z5, rfl, rfl, rfl, b⟩ ?_
    rintro _ _ w P0 ⟨g4, g5, c, f, g6, g7, rfl, rfl, o9, p0, p1, p2, c8, b⟩ B p3 P1 B3 p4
    refine sR fun _ B4 => yY (ylss (eh c8) (eh p2)) (wK B4 (seqQ fun P2 B5 B6 => ?_))
    rcases iteS B with ⟨g8, B⟩ | ⟨g8, B⟩
    ·refine cT e0 g8 (wp_skip (B5 _ _ (seqQ fun P3 B7 B8 => blockQ fun _ p5 => sR fun _ B9 => Ym (iV c) (eh c8) ?_)))
     obtain ⟨W, p6, B⟩ := bs B
     refine yY (yIa SL_25 (eh p1) (eh c8) b (rdI F0) p6) ?_
     obtain ⟨R, b⟩ := iLs b F0 p6
     refine yY (yCt O_22 e0 b F1 rfl) (Ya (iV c) e0 (Ya R.v e0 (wK B9 (sQ fun _ C0 => sR fun _ C1 => Ym R.v e0 (yY (yLen SL_22 e0 b (rdI F0)) (Ym (iV 0) rfl (wK C1 (blockQ fun C2 C3 => ?_))))))))
     obtain ⟨C4, C5, B⟩ := bs B
     have C6 : ∀ (g9 h0 : L2) (h1 h3 : List Hdr) (f : FV) (w : World), f 4 = (pB m) → f 5 = i.v → f 16 = iV c → f 136 = p.v → f 137 = iV (E.length : Int) → f 138 = iV c → St w0 (imm S1 p.v E :: ros) (row 22 rH k.v h1 :: fam 3 I1 h1 g9 :: row 3 I1 j.v o :: row 22 rH d.v h3 :: fam 3 I1 h3 h0 :: box m 29 [k.v, j.v, d.v] :: row 3 I1 i.v A :: rs) w → (g9, h0) = C4 → C2 (.exit 10) (fr 200 f) w := by
      intro g9 h0 h1 h3 f w c9 C7 C8 C9 D0 D1 b ho
      subst ho
      refine C3 _ _ _ (C0 _ _ (sR fun _ D2 => yY (yFb FL_29_2 (eh c9)) (yY (lb_ d.v O_25 e0 b R5) (Ym (iV c) (eh C8) ?_))))
      obtain ⟨P4, p7, B⟩ := bs B
      obtain ⟨P5, h5⟩ := b.famI R4 p7
      refine yY (yIa SLH_25 e0 e0 b rO3 h5) (yY (yF1 O_22 e0 b rO3 h5 rfl) ?_)
      obtain ⟨P6, D3, B⟩ := bs B
      have b7 := b.guest1 (rdF (mtR (mtR (mtR (mtR mhR)))) h5 p7)
      refine Yc wn rfl (yCall FN_42 (a1 e0)) (dissect_weights_ok D3 F0 b7) ?_
      clear b7
      rintro _ w ⟨rfl, b7⟩
      replace b := b.back b7
      clear b7
      refine ⟨_, rfl, ?_⟩
      refine yY (ynot e0) (wK D2 ?_)
      rcases iteS B with ⟨h7, B⟩ | ⟨h7, B⟩
      ·refine condF e0 (nF h7) (wp_skip (p5 _ _ _ (B7 _ _ (wR (yY (yadd (eh D1) rfl) (Ym (iV (wa .i64 c 1)) e0 (wN ?_)))))))
       obtain rfl := someI B
       exact B3 _ _ _ rfl ⟨_, _, _, _, _, _, rfl, rfl, c9, C7, C9, D0, rfl, b⟩
      ·refine condT e0 (nT (bfalse h7)) (sR fun _ D4 => yY (ybuild (us := [hnil.v, hnil.v, hnil.v]) [] SO_29 bp0 rfl) ?_)
       replace b := b.pk 6 [5, 0, 0, 0, 0, 0] rfl
       refine YT wn rfl (r_stbn (vals' := [hnil.v, hnil.v, hnil.v]) (us := [hnil.v, hnil.v, hnil.v]) b ST_29 (eh c9) e0 rfl rfl (one_of rfl) rfl) ?_
       intro w b
       refine Ya hnil.v rfl (Ya (.bool false) rfl (wK D4 (wp_ret (p5 _ _ _ (B8 _ _ _ rfl ?_)))))
       obtain rfl := someI B
       exact p4 _ _ _ _ rfl rfl (A9 _ _ c9 rfl rfl ((b.pk 7 [0] rfl).facts (allT allI)) (p3 _ rfl))
     refine loopQ (fun s a w => ∃ (d0 d1 : L2) (x : Int) (f : FV) (b8 c0 : List Hdr), (d0, d1, x) = s ∧ a = fr 200 f ∧ f 4 = (pB m) ∧ f 5 = i.v ∧ f 16 = iV c ∧ f 136 = p.v ∧ f 137 = iV (E.length : Int) ∧ f 138 = iV c ∧ f 143 = R.v ∧ f 144 = iV (W.length : Int) ∧ f 145 = iV x ∧ St w0 (imm S1 p.v E :: imm I1 R.v W :: ros) (row 22 rH k.v b8 :: fam 3 I1 b8 d0 :: row 3 I1 j.v o :: row 22 rH d.v c0 :: fam 3 I1 c0 d1 :: box m 29 [k.v, j.v, d.v] :: row 3 I1 i.v A :: rs) w) C5 ⟨_, _, _, _, _, _, rfl, rfl, o9, p0, rfl, p1, p2, c8, rfl, rfl, rfl, (b.facts (allC F2 (allC F0 (allT (allT (allT allI))))))⟩ ?_
     rintro _ _ w D5 ⟨d0, d1, x, f, b8, c0, rfl, rfl, h9, i0, d2, i1, i2, i3, i4, i5, c1, b⟩ y D6 P7 D7 D8
     refine sR fun _ D9 => yY (ylss (eh c1) (eh i5)) (wK D9 (seqQ fun P8 E0 E1 => ?_))
     rcases iteS y with ⟨i6, y⟩ | ⟨i6, y⟩
     ·refine cT e0 i6 (wp_skip (E0 _ _ (sQ fun _ E2 => blockQ fun E3 E4 => sR fun _ E5 => Ym (iV x) (eh c1) ?_)))
      obtain ⟨C, p8, y⟩ := bs y
      refine yY (yIa SL_22 (eh i4) (eh c1) b (rdI F1) p8) (yY (yI O_3 e0 b (rdI F1) p8) (Ya (iV x) e0 (Ya (iV C) e0 (wK E5 (sR fun _ E6 => Ym (iV c) (eh d2) (Ym (iV x) e0 (yY (yneq e0 e0) (Ym (.bool (!(decide (c = x)))) e0 ?_))))))))
      refine joinW 3 (fun f w => f 4 = (pB m) ∧ f 5 = i.v ∧ f 16 = iV c ∧ f 18 = iV x ∧ f 19 = iV C ∧ f 136 = p.v ∧ f 137 = iV (E.length : Int) ∧ f 138 = iV c ∧ f 143 = R.v ∧ f 144 = iV (W.length : Int) ∧ f 145 = iV x ∧ f 156 = .bool ((!(decide (c = x))) && (decide ((0 : Int) < C))) ∧ St w0 (imm S1 p.v E :: imm I1 R.v W :: ros) (row 22 rH k.v b8 :: fam 3 I1 b8 d0 :: row 3 I1 j.v o :: row 22 rH d.v c0 :: fam 3 I1 c0 d1 :: box m 29 [k.v, j.v, d.v] :: row 3 I1 i.v A :: rs) w) (fun p9 => ?_) ?_
      ·rcases Bool.eq_false_or_eq_true (!(decide (c = x))) with T | T
       ·exact yG T (m_ (iV C) e0) (yG T (ygtr e0 rfl) (yY (pt_ (.bool (decide ((0 : Int) < C))) e0 T e0) (p9 _ _ ⟨h9, i0, d2, rfl, rfl, i1, i2, i3, i4, i5, c1, (congrArg Value.bool (andT T)), b⟩)))
       ·exact gN T (gN T (yY (pf_ (.bool false) e0 T rfl) (p9 _ _ ⟨h9, i0, d2, rfl, rfl, i1, i2, i3, i4, i5, c1, (congrArg Value.bool (andF T)), b⟩)))
      rintro f w ⟨g, d3, h, q0, i7, d4, d5, d6, d7, d8, d9, q5, b⟩
      refine wK E6 ?_
      have q6 : ∀ (i8 i9 : L2) (j0 j1 : List Hdr) (f : FV) (w : World), f 4 = (pB m) → f 5 = i.v → f 16 = iV c → f 136 = p.v → f 137 = iV (E.length : Int) → f 138 = iV c → f 143 = R.v → f 144 = iV (W.length : Int) → f 145 = iV x → St w0 (imm S1 p.v E :: imm I1 R.v W :: ros) (row 22 rH k.v j0 :: fam 3 I1 j0 i8 :: row 3 I1 j.v o :: row 22 rH d.v j1 :: fam 3 I1 j1 i9 :: box m 29 [k.v, j.v, d.v] :: row 3 I1 i.v A :: rs) w → dissect_coarsen_j47 x i8 i9 = some D5 → E3 .normal (fr 200 f) w := by
       intro i8 i9 j0 j1 f w E7 E8 E9 F3 F4 F5 F6 F7 F8 b r
       refine E4 _ _ _ (E2 _ _ (wR (yY (yadd (eh F8) rfl) (Ym (iV (wa .i64 x 1)) e0 (wN ?_)))))
       obtain rfl := someI r
       exact D7 _ _ _ rfl ⟨_, _, _, _, _, _, rfl, rfl, E7, E8, E9, F3, F4, F5, F6, F7, rfl, b⟩
      rcases iteS y with ⟨j2, y⟩ | ⟨j2, y⟩
      ·refine condT (eh q5) j2 ?_
       obtain ⟨P9, e1, y⟩ := bs y
       obtain ⟨Q0, j3, y⟩ := bs y
       obtain ⟨Q1, e2, y⟩ := bs y
       obtain ⟨Q2, j4, y⟩ := bs y
       obtain ⟨F9, b0, y⟩ := bs y
       obtain ⟨G0, b1, y⟩ := bs y
       refine joinN (n := 200) (fun f w => ∃ (j5 j6 : List Hdr), f 4 = (pB m) ∧ f 5 = i.v ∧ f 16 = iV c ∧ f 136 = p.v ∧ f 137 = iV (E.length : Int) ∧ f 138 = iV c ∧ f 143 = R.v ∧ f 144 = iV (W.length : Int) ∧ f 145 = iV x ∧ St w0 (imm S1 p.v E :: imm I1 R.v W :: ros) (row 22 rH k.v j5 :: fam 3 I1 j5 F9 :: row 3 I1 j.v o :: row 22 rH d.v j6 :: fam 3 I1 j6 G0 :: box m 29 [k.v, j.v, d.v] :: row 3 I1 i.v A :: rs) w) (fun j7 => ?_) ?_
       ·refine dR [0, 1, 3, 0, 0, 16, 0, 0, 128, 384, 0, 1920, 3968, 0, 8192, 32640, 0, 65536, 0, 458752, 983040, 0, 2097152, 8388480, 16777103, 33554319, 67108863, 134217727] [14, 15, 22, 23, 25, 27] 6 folM ?_
        replace b := b.drew
        refine Dn [0, 1, 2, 3, 4, 5, 6, 7, 8, 9, 10, 11, 12, 13, 16, 17, 18, 19, 20, 21] [] [14, 22] (yR rfl (yFb FL_29_0 (eh g)) (yR rfl (yFb FL_27_0 e0) (yR rfl (lb_ k.v O_25 e0 b R5) (yR rfl (m_ (iV c) (eh h)) (yR rfl (yFb FL_29_2 (eh g)) (yR rfl (lb_ d.v O_25 e0 b R5) (yR rfl (m_ (iV c) (eh h)) (yR rfl (yFb FL_29_0 (eh g)) (yR rfl (yFb FL_27_0 e0) (yR rfl (lb_ k.v O_25 e0 b R5) (yR rfl (m_ (iV c) (eh h)) ?_)))))))))))
        obtain ⟨Q3, F⟩ := b.famI R1 e1
        refine yR rfl (yIa SLH_25 e0 e0 b rO0 F) (yR rfl (yF1 O_22 e0 b rO0 F rfl) (yR rfl (m_ (iV x) (eh q0)) (yR rfl (yFb FL_29_2 (eh g)) (yR rfl (lb_ d.v O_25 e0 b R5) (yR rfl (m_ (iV c) (eh h)) ?_)))))
        obtain ⟨Q4, t⟩ := b.famI R4 e2
        refine yR rfl (yIa SLH_25 e0 e0 b rO3 t) (yR rfl (yF1 O_22 e0 b rO3 t rfl) (yR rfl (m_ (iV C) (eh i7)) (Rn QSn ?_)))
        refine Lc rfl ?_ (Lc1 rfl ?_)
        ·refine LH wn (rLt (n := 1) (l := [x]) b SL_22 [iV x] (bp1 e0) rfl rfl (mks1 (cs := [iV x]) rfl mkI mks0)) ?_
         intro G1 w b
         refine Dn [] [0, 1, 2, 3, 4, 5, 6, 7, 8, 9, 10, 11, 12, 16, 17, 18, 19, 20, 21] [15, 22] (Rn (yS rfl (yFb FL_29_0 (eh g)) (yS rfl (yFb FL_27_0 e0) (yS rfl (lb_ k.v O_25 e0 b R6) (yS rfl (m_ (iV c) (eh h)) (yS rfl (yFb FL_29_2 (eh g)) (yS rfl (lb_ d.v O_25 e0 b R6) (yS rfl (m_ (iV c) (eh h)) (yS rfl (yFb FL_29_0 (eh g)) (yS rfl (yFb FL_27_0 e0) (yS rfl (lb_ k.v O_25 e0 b R6) (yS rfl (m_ (iV c) (eh h)) (yS rfl (yIa SLH_25 e0 e0 b rO1 F) (yS rfl (yF1 O_22 e0 b rO1 F rfl) (yS rfl (yFb FL_29_2 (eh g)) (yS rfl (lb_ d.v O_25 e0 b R6) (yS rfl (m_ (iV c) (eh h)) (yS rfl (yIa SLH_25 e0 e0 b rO4 t) (yS rfl (yF1 O_22 e0 b rO4 t rfl) (yS rfl (m_ (iV C) (eh i7)) QSn))))))))))))))))))) ?_)
         refine Lc rfl ?_ (Lc1 rfl ?_)
         ·replace b := b.pk 3 [2, 0, 0] rfl
          replace b := b.foc F e1
          refine LH wn (rAp b SL_22 e0 e0 rO2 j3) ?_
          intro X w b
          refine Dn [] [0, 1, 2, 3, 4, 5, 6, 16, 17, 18, 19, 20, 21] [22] (Rn (yS rfl (yFb FL_29_0 (eh g)) (yS rfl (yFb FL_27_0 e0) (yS rfl (lb_ k.v O_25 e0 b R7) (yS rfl (m_ (iV c) (eh h)) (yS rfl (yFb FL_29_2 (eh g)) (yS rfl (lb_ d.v O_25 e0 b R7) (yS rfl (m_ (iV c) (eh h)) (yS rfl (yFb FL_29_2 (eh g)) (yS rfl (lb_ d.v O_25 e0 b R7) (yS rfl (m_ (iV c) (eh h)) (yS rfl (yIa SLH_25 e0 e0 b rO5 t) (yS rfl (yF1 O_22 e0 b rO5 t rfl) (yS rfl (m_ (iV C) (eh i7)) QSn))))))))))))) ?_)
          refine Lc1 rfl ?_
          refine LH wn (rLt (n := 1) (l := [C]) b SL_22 [iV C] (bp1 e0) rfl rfl (mks1 (cs := [iV C]) rfl mkI mks0)) ?_
          intro q7 w b
          refine Dn [] [0, 1, 2, 3, 4, 5, 6, 16, 17, 18, 19, 20] [23] (Rn (yS rfl (yFb FL_29_0 (eh g)) (yS rfl (yFb FL_27_0 e0) (yS rfl (lb_ k.v O_25 e0 b R8) (yS rfl (m_ (iV c) (eh h)) (yS rfl (yFb FL_29_2 (eh g)) (yS rfl (lb_ d.v O_25 e0 b R8) (yS rfl (m_ (iV c) (eh h)) (yS rfl (yFb FL_29_2 (eh g)) (yS rfl (lb_ d.v O_25 e0 b R8) (yS rfl (m_ (iV c) (eh h)) (yS rfl (yIa SLH_25 e0 e0 b rO6 t) (yS rfl (yF1 O_22 e0 b rO6 t rfl) QSn)))))))))))) ?_)
          refine Lc1 rfl ?_
          replace b := b.pk 8 [7, 0, 0, 0, 0, 0, 0, 0] rfl
          replace b := b.foc t e2
          refine LH wn (rAp b SL_22 e0 e0 rO2 j4) ?_
          intro Z w b
          refine Dn [24] [0, 1, 2, 3, 4, 5, 6] [25] ?_
          obtain ⟨q8, L⟩ := setI_len (u := X) b0 (b.famLx (mtR (mtR (mtR (mtR mhR)))))
          refine yR rfl (yIs SLH_25 e0 e0 b rO6 L) (Rn (yS rfl (yFb FL_29_0 (eh g)) (yS rfl (yFb FL_27_0 e0) (yS rfl (lb_ k.v O_25 e0 b R9) (yS rfl (m_ (iV c) (eh h)) (yS rfl (yFb FL_29_2 (eh g)) (yS rfl (lb_ d.v O_25 e0 b R9) (yS rfl (m_ (iV c) (eh h)) QSn))))))) ?_)
          refine Lc1 rfl ?_
          replace b := b.pk 7 [6, 0, 0, 0, 0, 0, 0] rfl
          refine LT wn (r_sti (cs := [X.v]) b O_22 rfl e0 e0 rfl (mkF rfl) L) ?_
          intro w b
          replace b := b.pk 6 [4, 4, 0, 0, 0, 0] rfl
          replace b := b.unfS F L b0
          refine Dn [26] [4, 5, 6] [27] ?_
          obtain ⟨q9, N⟩ := setI_len (u := Z) b1 (b.famLx (mtR (mtR (mtR mhR))))
          refine yR rfl (yIs SLH_25 e0 e0 b rO7 N) (Rn (yS rfl (yFb FL_29_2 (eh g)) (yS rfl (lb_ d.v O_25 e0 b R8) (yS rfl (m_ (iV c) (eh h)) QSn))) ?_)
          refine Lc1 rfl ?_
          replace b := b.pk 8 [7, 0, 0, 0, 0, 0, 0, 0] rfl
          refine LT wn (r_sti (cs := [Z.v]) b O_22 rfl e0 e0 rfl (mkF rfl) N) ?_
          intro w b
          replace b := b.pk 5 [3, 3, 0, 0, 0] rfl
          replace b := b.unfS t N b1
          exact Dz [] [] (Rn QSn (j7 _ _ ⟨_, _, g, d3, h, d4, d5, d6, d7, d8, d9, (b.pk 9 [3, 2, 4, 1, 0, 2, 2] rfl)⟩))
         ·refine LH wn (rLt (n := 1) (l := [C]) b SL_22 [iV C] (bp1 e0) rfl rfl (mks1 (cs := [iV C]) rfl mkI mks0)) ?_
          intro q7 w b
          refine Dn [] [0, 1, 2, 3, 4, 5, 6, 7, 8, 9, 10, 11, 12, 16, 17, 18, 19, 20] [15] (Rn (yS rfl (yFb FL_29_0 (eh g)) (yS rfl (yFb FL_27_0 e0) (yS rfl (lb_ k.v O_25 e0 b R7) (yS rfl (m_ (iV c) (eh h)) (yS rfl (yFb FL_29_2 (eh g)) (yS rfl (lb_ d.v O_25 e0 b R7) (yS rfl (m_ (iV c) (eh h)) (yS rfl (yFb FL_29_0 (eh g)) (yS rfl (yFb FL_27_0 e0) (yS rfl (lb_ k.v O_25 e0 b R7) (yS rfl (m_ (iV c) (eh h)) (yS rfl (yIa SLH_25 e0 e0 b rO2 F) (yS rfl (yF1 O_22 e0 b rO2 F rfl) (yS rfl (yFb FL_29_2 (eh g)) (yS rfl (lb_ d.v O_25 e0 b R7) (yS rfl (m_ (iV c) (eh h)) (yS rfl (yIa SLH_25 e0 e0 b rO5 t) (yS rfl (yF1 O_22 e0 b rO5 t rfl) QSn)))))))))))))))))) ?_)
          refine Lc1 rfl ?_
          replace b := b.pk 4 [3, 0, 0, 0] rfl
          replace b := b.foc F e1
          refine LH wn (rAp b SL_22 e0 e0 rO3 j3) ?_
          intro X w b
          refine Dn [] [0, 1, 2, 3, 4, 5, 6, 16, 17, 18, 19, 20] [23] (Rn (yS rfl (yFb FL_29_0 (eh g)) (yS rfl (yFb FL_27_0 e0) (yS rfl (lb_ k.v O_25 e0 b R8) (yS rfl (m_ (iV c) (eh h)) (yS rfl (yFb FL_29_2 (eh g)) (yS rfl (lb_ d.v O_25 e0 b R8) (yS rfl (m_ (iV c) (eh h)) (yS rfl (yFb FL_29_2 (eh g)) (yS rfl (lb_ d.v O_25 e0 b R8) (yS rfl (m_ (iV c) (eh h)) (yS rfl (yIa SLH_25 e0 e0 b rO6 t) (yS rfl (yF1 O_22 e0 b rO6 t rfl) QSn)))))))))))) ?_)
          refine Lc1 rfl ?_
          replace b := b.pk 8 [7, 0, 0, 0, 0, 0, 0, 0] rfl
          replace b := b.foc t e2
          refine LH wn (rAp b SL_22 e0 e0 rO4 j4) ?_
          intro Z w b
          refine Dn [24] [0, 1, 2, 3, 4, 5, 6] [25] ?_
          obtain ⟨q8, L⟩ := setI_len (u := X) b0 (b.famLx (mtR (mtR (mtR mhR))))
          refine yR rfl (yIs SLH_25 e0 e0 b rO6 L) (Rn (yS rfl (yFb FL_29_0 (eh g)) (yS rfl (yFb FL_27_0 e0) (yS rfl (lb_ k.v O_25 e0 b R9) (yS rfl (m_ (iV c) (eh h)) (yS rfl (yFb FL_29_2 (eh g)) (yS rfl (lb_ d.v O_25 e0 b R9) (yS rfl (m_ (iV c) (eh h)) QSn))))))) ?_)
          refine Lc1 rfl ?_
          replace b := b.pk 7 [6, 0, 0, 0, 0, 0, 0] rfl
          refine LT wn (r_sti (cs := [X.v]) b O_22 rfl e0 e0 rfl (mkF rfl) L) ?_
          intro w b
          replace b := b.pk 5 [3, 3, 0, 0, 0] rfl
          replace b := b.unfS F L b0
          refine Dn [26] [4, 5, 6] [27] ?_
          obtain ⟨q9, N⟩ := setI_len (u := Z) b1 (b.famLx (mtR (mtR (mtR mhR))))
          refine yR rfl (yIs SLH_25 e0 e0 b rO7 N) (Rn (yS rfl (yFb FL_29_2 (eh g)) (yS rfl (lb_ d.v O_25 e0 b R8) (yS rfl (m_ (iV c) (eh h)) QSn))) ?_)
          refine Lc1 rfl ?_
          replace b := b.pk 8 [7, 0, 0, 0, 0, 0, 0, 0] rfl
          refine LT wn (r_sti (cs := [Z.v]) b O_22 rfl e0 e0 rfl (mkF rfl) N) ?_
          intro w b
          replace b := b.pk 5 [3, 3, 0, 0, 0] rfl
          replace b := b.unfS t N b1
          exact Dz [] [] (Rn QSn (j7 _ _ ⟨_, _, g, d3, h, d4, d5, d6, d7, d8, d9, (b.pk 9 [3, 2, 4, 1, 0, 2, 2] rfl)⟩))
        ·refine LH wn (rLt (n := 1) (l := [C]) b SL_22 [iV C] (bp1 e0) rfl rfl (mks1 (cs := [iV C]) rfl mkI mks0)) ?_
         intro q7 w b
         refine Dn [] [0, 1, 2, 3, 4, 5, 6, 7, 8, 9, 10, 11, 12, 13, 16, 17, 18, 19, 20] [14] (Rn (yS rfl (yFb FL_29_0 (eh g)) (yS rfl (yFb FL_27_0 e0) (yS rfl (lb_ k.v O_25 e0 b R6) (yS rfl (m_ (iV c) (eh h)) (yS rfl (yFb FL_29_2 (eh g)) (yS rfl (lb_ d.v O_25 e0 b R6) (yS rfl (m_ (iV c) (eh h)) (yS rfl (yFb FL_29_0 (eh g)) (yS rfl (yFb FL_27_0 e0) (yS rfl (lb_ k.v O_25 e0 b R6) (yS rfl (m_ (iV c) (eh h)) (yS rfl (yIa SLH_25 e0 e0 b rO1 F) (yS rfl (yF1 O_22 e0 b rO1 F rfl) (yS rfl (m_ (iV x) (eh q0)) (yS rfl (yFb FL_29_2 (eh g)) (yS rfl (lb_ d.v O_25 e0 b R6) (yS rfl (m_ (iV c) (eh h)) (yS rfl (yIa SLH_25 e0 e0 b rO4 t) (yS rfl (yF1 O_22 e0 b rO4 t rfl) QSn))))))))))))))))))) ?_)
         refine Lc1 rfl ?_
         refine LH wn (rLt (n := 1) (l := [x]) b SL_22 [iV x] (bp1 e0) rfl rfl (mks1 (cs := [iV x]) rfl mkI mks0)) ?_
         intro G1 w b
         refine Dn [] [0, 1, 2, 3, 4, 5, 6, 7, 8, 9, 10, 11, 12, 16, 17, 18, 19, 20] [15] (Rn (yS rfl (yFb FL_29_0 (eh g)) (yS rfl (yFb FL_27_0 e0) (yS rfl (lb_ k.v O_25 e0 b R7) (yS rfl (m_ (iV c) (eh h)) (yS rfl (yFb FL_29_2 (eh g)) (yS rfl (lb_ d.v O_25 e0 b R7) (yS rfl (m_ (iV c) (eh h)) (yS rfl (yFb FL_29_0 (eh g)) (yS rfl (yFb FL_27_0 e0) (yS rfl (lb_ k.v O_25 e0 b R7) (yS rfl (m_ (iV c) (eh h)) (yS rfl (yIa SLH_25 e0 e0 b rO2 F) (yS rfl (yF1 O_22 e0 b rO2 F rfl) (yS rfl (yFb FL_29_2 (eh g)) (yS rfl (lb_ d.v O_25 e0 b R7) (yS rfl (m_ (iV c) (eh h)) (yS rfl (yIa SLH_25 e0 e0 b rO5 t) (yS rfl (yF1 O_22 e0 b rO5 t rfl) QSn)))))))))))))))))) ?_)
         refine Lc1 rfl ?_
         replace b := b.pk 4 [3, 0, 0, 0] rfl
         replace b := b.foc F e1
         refine LH wn (rAp b SL_22 e0 e0 rO2 j3) ?_
         intro X w b
         refine Dn [] [0, 1, 2, 3, 4, 5, 6, 16, 17, 18, 19, 20] [23] (Rn (yS rfl (yFb FL_29_0 (eh g)) (yS rfl (yFb FL_27_0 e0) (yS rfl (lb_ k.v O_25 e0 b R8) (yS rfl (m_ (iV c) (eh h)) (yS rfl (yFb FL_29_2 (eh g)) (yS rfl (lb_ d.v O_25 e0 b R8) (yS rfl (m_ (iV c) (eh h)) (yS rfl (yFb FL_29_2 (eh g)) (yS rfl (lb_ d.v O_25 e0 b R8) (yS rfl (m_ (iV c) (eh h)) (yS rfl (yIa SLH_25 e0 e0 b rO6 t) (yS rfl (yF1 O_22 e0 b rO6 t rfl) QSn)))))))))))) ?_)
         refine Lc1 rfl ?_
         replace b := b.pk 8 [7, 0, 0, 0, 0, 0, 0, 0] rfl
         replace b := b.foc t e2
         refine LH wn (rAp b SL_22 e0 e0 rO5 j4) ?_
         intro Z w b
         refine Dn [24] [0, 1, 2, 3, 4, 5, 6] [25] ?_
         obtain ⟨q8, L⟩ := setI_len (u := X) b0 (b.famLx (mtR (mtR (mtR mhR))))
         refine yR rfl (yIs SLH_25 e0 e0 b rO6 L) (Rn (yS rfl (yFb FL_29_0 (eh g)) (yS rfl (yFb FL_27_0 e0) (yS rfl (lb_ k.v O_25 e0 b R9) (yS rfl (m_ (iV c) (eh h)) (yS rfl (yFb FL_29_2 (eh g)) (yS rfl (lb_ d.v O_25 e0 b R9) (yS rfl (m_ (iV c) (eh h)) QSn))))))) ?_)
         refine Lc1 rfl ?_
         replace b := b.pk 7 [6, 0, 0, 0, 0, 0, 0] rfl
         refine LT wn (r_sti (cs := [X.v]) b O_22 rfl e0 e0 rfl (mkF rfl) L) ?_
         intro w b
         replace b := b.pk 5 [3, 3, 0, 0, 0] rfl
         replace b := b.unfS F L b0
         refine Dn [26] [4, 5, 6] [27] ?_
         obtain ⟨q9, N⟩ := setI_len (u := Z) b1 (b.famLx (mtR (mtR (mtR mhR))))
         refine yR rfl (yIs SLH_25 e0 e0 b rO7 N) (Rn (yS rfl (yFb FL_29_2 (eh g)) (yS rfl (lb_ d.v O_25 e0 b R8) (yS rfl (m_ (iV c) (eh h)) QSn))) ?_)
         refine Lc1 rfl ?_
         replace b := b.pk 8 [7, 0, 0, 0, 0, 0, 0, 0] rfl
         refine LT wn (r_sti (cs := [Z.v]) b O_22 rfl e0 e0 rfl (mkF rfl) N) ?_
         intro w b
         replace b := b.pk 5 [3, 3, 0, 0, 0] rfl
         replace b := b.unfS t N b1
         exact Dz [] [] (Rn QSn (j7 _ _ ⟨_, _, g, d3, h, d4, d5, d6, d7, d8, d9, (b.pk 9 [3, 2, 4, 1, 0, 2, 2] rfl)⟩))
       rintro f w ⟨j5, j6, G2, G3, G4, G5, G6, G7, G8, G9, H0, b⟩
       exact q6 _ _ _ _ _ _ G2 G3 G4 G5 G6 G7 G8 G9 H0 b y
      ·exact condF (eh q5) (bfalse j2) (wp_skip (q6 _ _ _ _ _ _ g d3 h d4 d5 d6 d7 d8 d9 b y))
     ·refine cF e0 i6 (wp_exit (E1 _ _ _ rfl ?_))
      obtain rfl := someI y
      exact D8 _ _ _ _ rfl rfl (C6 _ _ _ _ _ _ h9 i0 d2 i1 i2 i3 (b.facts (allC F0 (allT (allT allI)))) (D6 _ rfl))
    ·refine cF e0 g8 (wp_exit (B6 _ _ _ rfl ?_))
     obtain rfl := someI B
     exact p4 _ _ _ _ rfl rfl (A1 _ _ _ _ _ _ o9 p0 (b.facts (allT allI)) (p3 _ rfl))
   refine loopQ (fun s a w => ∃ (j9 : L2) (O : Int) (f : FV), (j9, O) = s ∧ a = fr 200 f ∧ f 2 = (pB D) ∧ f 4 = (pB m) ∧ f 5 = i.v ∧ f 9 = iV (o.length : Int) ∧ f 10 = p.v ∧ f 90 = G.v ∧ f 91 = iV (b2.length : Int) ∧ f 92 = iV O ∧ St w0 ros (box D 29 [G.v, I.v, K.v] :: row 3 I1 j.v o :: box m 29 [hnil.v, j.v, hnil.v] :: row 3 I1 i.v A :: row 22 rH p.v J :: fam 3 I1 J j9 :: rs) w) y9 ⟨_, _, _, rfl, rfl, o1, y0, y1, y2, y3, rfl, rfl, rfl, b⟩ ?_
   rintro _ _ w Q6 ⟨j9, O, f, rfl, rfl, H1, r0, r1, r2, r3, r4, r5, e3, b⟩ U H2 Q7 H3 H4
   refine sR fun _ H5 => yY (ylss (eh e3) (eh r5)) (wK H5 (seqQ fun Q8 H6 H7 => ?_))
   rcases iteS U with ⟨k0, U⟩ | ⟨k0, U⟩
   ·refine cT e0 k0 (wp_skip (H6 _ _ (sQ fun _ H8 => blockQ fun _ H9 => sR fun _ I0 => Ym (iV O) (eh e3) ?_)))
    obtain ⟨r6, r7, U⟩ := bs U
    refine yY (yIa SL_25 (eh r4) (eh e3) b (rdI e8) r7) ?_
    obtain ⟨e4, b⟩ := iLs b e8 r7
    refine yY (yCt O_22 e0 b F1 rfl) (Ya (iV O) e0 (Ya e4.v e0 (wK I0 (sR fun _ I2 => Ym e4.v e0 (yY (yLen SL_22 e0 b (rdI F0)) (Ym (iV 0) rfl (wK I2 (blockQ fun I3 I4 => ?_))))))))
    obtain ⟨I5, I6, U⟩ := bs U
    have I7 : ∀ (k5 : L2) (f : FV) (w : World), f 2 = (pB D) → f 4 = (pB m) → f 5 = i.v → f 9 = iV (o.length : Int) → f 10 = p.v → f 90 = G.v → f 91 = iV (b2.length : Int) → f 92 = iV O → St w0 ros (box D 29 [G.v, I.v, K.v] :: row 3 I1 j.v o :: box m 29 [hnil.v, j.v, hnil.v] :: row 3 I1 i.v A :: row 22 rH p.v J :: fam 3 I1 J k5 :: rs) w → k5 = I5 → I3 (.exit 6) (fr 200 f) w := by
     intro k5 f w I8 I9 J0 J1 J2 J3 J4 J5 b ho
     subst ho
     refine I4 _ _ _ (H9 _ _ _ (H8 _ _ (wR (yY (yadd (eh J5) rfl) (Ym (iV (wa .i64 O 1)) e0 (wN ?_))))))
     obtain rfl := someI U
     exact H3 _ _ _ rfl ⟨_, _, _, rfl, rfl, I8, I9, J0, J1, J2, J3, J4, rfl, b⟩
    refine loopQ (fun s a w => ∃ (k6 : L2) (a3 : Int) (f : FV), (k6, a3) = s ∧ a = fr 200 f ∧ f 2 = (pB D) ∧ f 4 = (pB m) ∧ f 5 = i.v ∧ f 9 = iV (o.length : Int) ∧ f 10 = p.v ∧ f 12 = iV O ∧ f 90 = G.v ∧ f 91 = iV (b2.length : Int) ∧ f 92 = iV O ∧ f 97 = e4.v ∧ f 98 = iV (r6.length : Int) ∧ f 99 = iV a3 ∧ St w0 (imm I1 e4.v r6 :: ros) (box D 29 [G.v, I.v, K.v] :: row 3 I1 j.v o :: box m 29 [hnil.v, j.v, hnil.v] :: row 3 I1 i.v A :: row 22 rH p.v J :: fam 3 I1 J k6 :: rs) w) I6 ⟨_, _, _, rfl, rfl, H1, r0, r1, r2, r3, rfl, r4, r5, e3, rfl, rfl, rfl, (b.facts (allC F0 (allT (allT allI))))⟩ ?_
    rintro _ _ w Q9 ⟨k6, a3, f, rfl, rfl, k7, r8, e5, r9, k8, k9, s0, s1, s2, s3, s4, e6, b⟩ z J6 S0 J7 J8
    refine sR fun _ J9 => yY (ylss (eh e6) (eh s4)) (wK J9 (seqQ fun S3 K0 K1 => ?_))
    rcases iteS z with ⟨l0, z⟩ | ⟨l0, z⟩
    ·refine cT e0 l0 (wp_skip (K0 _ _ (sQ fun _ K2 => blockQ fun _ K3 => sR fun _ K4 => Ym (iV a3) (eh e6) ?_)))
     obtain ⟨s5, s6, z⟩ := bs z
     refine yY (yIa SL_22 (eh s3) (eh e6) b (rdI F0) s6) (yY (yI O_3 e0 b (rdI F0) s6) (Ya (iV a3) e0 (Ya (iV s5) e0 (wK K4 ?_))))
     obtain ⟨S4, s7, z⟩ := bs z
     obtain ⟨S5, c2, z⟩ := bs z
     obtain ⟨S6, s8, z⟩ := bs z
     obtain ⟨K5, s9, z⟩ := bs z
     obtain ⟨S7, t0, z⟩ := bs z
     obtain ⟨K6, t1, z⟩ := bs z
     obtain ⟨S8, t2, z⟩ := bs z
     obtain ⟨S9, K7, z⟩ := bs z
     refine dR [0, 0, 0, 6, 14, 31, 63, 0, 0, 384, 896, 2047, 4095, 0, 8192, 0, 57344, 122880, 0, 516096, 1040384, 2097151, 4194303, 8388607] [23] 1 folM ?_
     replace b := b.drew
     refine Dn [0, 1, 2, 3, 4, 5, 6, 7, 8, 9, 10, 11, 12, 13, 14, 15, 16, 17, 18, 19, 20, 21, 22] [] [23] (yR rfl (m_ p.v (eh k8)) (yR rfl (m_ i.v (eh e5)) (yR rfl (m_ (iV O) (eh k9)) (yR rfl (yIa SL_22 e0 e0 b rO3 s7) (yR rfl (yI O_3 e0 b rO3 s7) ?_)))))
     obtain ⟨T0, a4⟩ := b.famI R5 c2
     refine yR rfl (yIa SLH_25 e0 e0 b rO4 a4) (yR rfl (yF1 O_22 e0 b rO4 a4 rfl) (yR rfl (m_ i.v (eh e5)) (yR rfl (m_ (iV s5) e0) (yR rfl (yIa SL_22 e0 e0 b rO3 s8) (yR rfl (yI O_3 e0 b rO3 s8) (yR rfl (yIa SL_22 e0 e0 b (rdF R5 a4 c2) s9) (yR rfl (yI O_3 e0 b (rdF R5 a4 c2) s9) (yR rfl (yFb FL_29_2 (eh k7)) (yR rfl (lb_ K.v O_25 e0 b R0) (yR rfl (m_ (iV O) (eh k9)) (yR rfl (yIa SL_25 e0 e0 b (rdI (mtF n0)) t0) ?_)))))))))))
     obtain ⟨T1, b⟩ := iLs b (mtF n0) t0
     refine yR rfl (yCt O_22 e0 b F1 rfl) (yR rfl (m_ (iV a3) e0) (yR rfl (yIa SL_22 e0 e0 b (rdI F0) t1) (yR rfl (yI O_3 e0 b (rdI F0) t1) (yR rfl (yadd e0 e0) (yR rfl (yIs SL_22 e0 e0 b (rdF R5 a4 c2) t2) (Rn QSn ?_))))))
     refine Lc1 rfl ?_
     replace b := b.pk 6 [5, 0, 0, 0, 0, 0] rfl
     refine LT wn (r_sti (cs := [iV (wa .i64 K5 K6)]) (b.foc a4 c2) O_3 rfl e0 e0 rfl mkI t2) ?_
     intro w b
     replace b := b.unfoc' a4 K7
     refine Dz [] [] (Rn QSn (K3 _ _ _ (K2 _ _ (wR (yY (yadd (eh e6) rfl) (Ym (iV (wa .i64 a3 1)) e0 (wN ?_)))))))
     obtain rfl := someI z
     exact J7 _ _ _ rfl ⟨_, _, _, rfl, rfl, k7, r8, e5, r9, k8, k9, s0, s1, s2, s3, s4, rfl, ((b.pk 6 [1, 1, 1, 1, 1, 0] rfl).facts (allC F2 (allT (allT (allT allI)))))⟩
    ·refine cF e0 l0 (wp_exit (K1 _ _ _ rfl ?_))
     obtain rfl := someI z
     exact J8 _ _ _ _ rfl rfl (I7 _ _ _ k7 r8 e5 r9 k8 s0 s1 s2 (b.facts (allT allI)) (J6 _ rfl))
   ·refine cF e0 k0 (wp_exit (H7 _ _ _ rfl ?_))
    obtain rfl := someI U
    exact H4 _ _ _ _ rfl rfl (z0 _ _ _ r0 r1 r2 r3 (b.pk 6 [1, 1, 1, 1, 1] rfl) (H2 _ rfl))
  refine loopQ (fun s a w => ∃ (l1 : L2) (a5 : Int) (f : FV) (l2 : List Hdr), (l1, a5) = s ∧ a = fr 200 f ∧ f 2 = (pB D) ∧ f 4 = (pB m) ∧ f 5 = i.v ∧ f 9 = iV (o.length : Int) ∧ f 10 = p.v ∧ f 78 = iV (w5.length : Int) ∧ f 79 = iV a5 ∧ St w0 ros (box D 29 [G.v, I.v, K.v] :: row 3 I1 j.v o :: box m 29 [hnil.v, j.v, hnil.v] :: row 3 I1 i.v A :: row 22 rH p.v l2 :: fam 3 I1 l2 l1 :: rs) w) x8 ⟨_, _, _, _, rfl, rfl, w1, o0, w2, rfl, rfl, rfl, rfl, (b.pk 6 [2, 2, 2, 2, 0, 0] rfl)⟩ ?_
  rintro _ _ w T2 ⟨l1, a5, f, l2, rfl, rfl, t3, t4, t5, l3, l4, t6, l5, b⟩ V K8 T3 K9 L0
  refine sR fun _ L1 => yY (ylss (eh l5) (eh t6)) (wK L1 (seqQ fun T4 L3 L4 => ?_))
  rcases iteS V with ⟨l6, V⟩ | ⟨l6, V⟩
  ·refine cT e0 l6 (wp_skip (L3 _ _ (sQ fun _ L5 => blockQ fun _ L6 => sR fun _ L7 => Ym (iV a5) (eh l5) (Ya (iV a5) e0 (wK L7 (wR (Ym p.v (eh l4) (Ym (iV a5) e0 ?_))))))))
   refine Ym (iV (o.length : Int)) (eh l3) ?_
   obtain ⟨T5, L8, V⟩ := bs V
   refine YH wn rfl (rMk b SL_22 e0 L8) ?_
   intro t7 w b
   obtain ⟨T6, t8, V⟩ := bs V
   obtain ⟨T7, l7⟩ := setI_len (u := t7) t8 (b.famL (mtR (mtR (mtR (mtR (mtR (mtR mhR)))))))
   refine yY (yIs SLH_25 e0 e0 b rO5 l7) ?_
   replace b := b.pk 6 [5, 0, 0, 0, 0, 0] rfl
   refine YT wn rfl (r_sti (cs := [t7.v]) b O_22 rfl e0 e0 rfl (mkF rfl) l7) ?_
   intro w b
   replace b := b.pk 7 [1, 5, 0, 0, 0, 0, 0] rfl
   replace b := b.fput l7 t8
   refine wN (L6 _ _ _ (L5 _ _ (wR (yY (yadd (eh l5) rfl) (Ym (iV (wa .i64 a5 1)) e0 (wN ?_))))))
   obtain rfl := someI V
   exact K9 _ _ _ rfl ⟨_, _, _, _, rfl, rfl, t3, t4, t5, l3, l4, t6, rfl, (b.pk 6 [2, 2, 2, 2, 1, 0] rfl)⟩
  ·refine cF e0 l6 (wp_exit (L4 _ _ _ rfl ?_))
   obtain rfl := someI V
   exact L0 _ _ _ _ rfl rfl (x9 _ _ _ _ t3 t4 t5 l3 l4 b (K8 _ rfl))
 replace b := b.rowNh 3 I1
 refine loopQ (fun s a w => ∃ (e7 l8 : LI) (H : Int) (f : FV) (a6 : Hdr), (e7, l8, H) = s ∧ a = fr 200 f ∧ f 2 = (pB D) ∧ f 4 = (pB m) ∧ f 5 = i.v ∧ f 23 = a8.v ∧ f 24 = iV (c5.length : Int) ∧ f 25 = iV H ∧ St w0 ros (box D 29 [G.v, I.v, K.v] :: row 3 I1 a6.v e7 :: box m 29 [hnil.v, a6.v, hnil.v] :: row 3 I1 i.v l8 :: rs) w) v8 ⟨_, _, _, _, _, rfl, rfl, rfl, rfl, rfl, rfl, rfl, rfl, (b.pk 4 [3, 0, 1, 0] rfl)⟩ ?_
 rintro _ _ w L9 ⟨e7, l8, H, f, a6, rfl, rfl, c3, a0, a7, l9, m0, c4, b⟩ q M0 T8 M1 M2
 refine sR fun _ M3 => yY (ylss (eh c4) (eh m0)) (wK M3 (seqQ fun T9 M4 M5 => ?_))
 rcases iteS q with ⟨m1, q⟩ | ⟨m1, q⟩
 ·refine cT e0 m1 (wp_skip (M4 _ _ (sQ fun M6 M7 => ?_)))
  have t9 : ∀ (m2 m3 : LI) (m4 : Hdr) (f : FV) (w : World), f 2 = (pB D) → f 4 = (pB m) → f 5 = i.v → f 23 = a8.v → f 24 = iV (c5.length : Int) → f 25 = iV H → St w0 ros (box D 29 [G.v, I.v, K.v] :: row 3 I1 m4.v m2 :: box m 29 [hnil.v, m4.v, hnil.v] :: row 3 I1 i.v m3 :: rs) w → dissect_coarsen_j50 H m2 m3 = some L9 → M6 .normal (fr 200 f) w := by
   intro m2 m3 m4 f w M8 M9 N0 N1 N2 N3 b r
   refine M7 _ _ (wR (yY (yadd (eh N3) rfl) (Ym (iV (wa .i64 H 1)) e0 (wN ?_))))
   obtain rfl := someI r
   exact M1 _ _ _ rfl ⟨_, _, _, _, _, rfl, rfl, M8, M9, N0, N1, N2, rfl, b⟩
  refine blockQ fun _ u0 => sR fun _ N4 => Ym (iV H) (eh c4) ?_
  obtain ⟨m5, u1, q⟩ := bs q
  refine yY (yIa SL_22 (eh l9) (eh c4) b (rdI c7) u1) (yY (yI O_3 e0 b (rdI c7) u1) (Ya (iV H) e0 (Ya (iV m5) e0 (wK N4 (seqQ fun U0 N5 N6 => sR fun _ N7 => Ym (iV m5) e0 (Ym (iV H) e0 (yY (ylss e0 e0) (wK N7 ?_))))))))
  rcases iteS q with ⟨m6, q⟩ | ⟨m6, q⟩
  ·refine cT e0 m6 (sR fun _ N8 => Ym i.v (eh a7) (Ym (iV H) e0 (Ym i.v (eh a7) (Ym (iV m5) e0 ?_))))
   obtain ⟨N9, u2, q⟩ := bs q
   refine yY (yIa SL_22 e0 e0 b rO3 u2) (yY (yI O_3 e0 b rO3 u2) ?_)
   obtain ⟨U1, u3, q⟩ := bs q
   refine yY (yIs SL_22 e0 e0 b rO3 u3) ?_
   replace b := b.pk 4 [3, 0, 0, 0] rfl
   refine YT wn rfl (r_sti (cs := [iV N9]) b O_3 rfl e0 e0 rfl mkI u3) ?_
   intro w b
   refine wK N8 (sQ fun _ O0 => ?_)
   obtain ⟨U2, u4, q⟩ := bs q
   obtain ⟨O1, u5, q⟩ := bs q
   obtain ⟨O2, u6, q⟩ := bs q
   obtain ⟨U3, u7, q⟩ := bs q
   refine dR [0, 1, 0, 0, 12, 28, 63, 127, 0, 256, 0, 1792, 3840, 8191, 16383, 32767] [15] 1 folM ?_
   replace b := b.drew
   refine Dn [0, 1, 2, 3, 4, 5, 6, 7, 8, 9, 10, 11, 12, 13, 14] [] [15] (yR rfl (yFb FL_29_1 (eh a0)) (yR rfl (lb_ a6.v O_22 e0 b R3) (yR rfl (m_ i.v (eh a7)) (yR rfl (m_ (iV H) e0) (yR rfl (yIa SL_22 e0 e0 b rO0 u4) (yR rfl (yI O_3 e0 b rO0 u4) (yR rfl (yIa SL_22 e0 e0 b rO2 u5) (yR rfl (yI O_3 e0 b rO2 u5) (yR rfl (yFb FL_29_1 (eh c3)) (yR rfl (lb_ I.v O_22 e0 b R1) (yR rfl (m_ (iV H) e0) (yR rfl (yIa SL_22 e0 e0 b (rdI c6) u6) (yR rfl (yI O_3 e0 b (rdI c6) u6) ?_)))))))))))))
   refine yR rfl (yadd e0 e0) (yR rfl (yIs SL_22 e0 e0 b rO2 u7) (Rn QSn ?_))
   refine Lc1 rfl ?_
   replace b := b.pk 3 [2, 0, 0] rfl
   refine LT wn (r_sti (cs := [iV (wa .i64 O1 O2)]) b O_3 rfl e0 e0 rfl mkI u7) ?_
   intro w b
   exact Dz [] [] (Rn QSn (O0 _ _ (wp_exit (N6 _ _ _ rfl (u0 _ _ _ (t9 _ _ _ _ _ c3 a0 a7 l9 m0 c4 (b.pk 4 [2, 0, 1, 0] rfl) q))))))
  ·refine cF e0 m6 (wp_skip (N5 _ _ (sR fun _ O3 => Ym i.v (eh a7) (Ym (iV H) e0 (yY (yFb FL_29_1 (eh a0)) (yY (lb_ a6.v O_22 e0 b R2) (yY (yLen SL_22 e0 b rO1) ?_)))))))
   obtain ⟨U4, u8, q⟩ := bs q
   refine yY (yIs SL_22 e0 e0 b rO3 u8) ?_
   replace b := b.pk 4 [3, 0, 0, 0] rfl
   refine YT wn rfl (r_sti (cs := [iV (e7.length : Int)]) b O_3 rfl e0 e0 rfl mkI u8) ?_
   intro w b
   refine wK O3 ?_
   obtain ⟨m7, u9, q⟩ := bs q
   obtain ⟨U5, O4, q⟩ := bs q
   refine dR [0, 1, 0, 4, 0, 28, 60, 124, 255, 511, 1023] [7, 8, 10] 3 folM ?_
   replace b := b.drew
   refine Dn [0, 1, 2, 3, 4, 5, 6] [] [7] (yR rfl (yFb FL_29_1 (eh a0)) (yR rfl (lb_ a6.v O_22 e0 b R3) (yR rfl (yFb FL_29_1 (eh c3)) (yR rfl (lb_ I.v O_22 e0 b R1) (yR rfl (m_ (iV H) e0) (yR rfl (yIa SL_22 e0 e0 b (rdI c6) u9) (yR rfl (yI O_3 e0 b (rdI c6) u9) (Rn QSn ?_))))))))
   refine Lc1 rfl ?_
   refine LH wn (rLt (n := 1) (l := [m7]) b SL_22 [iV m7] (bp1 e0) rfl rfl (mks1 (cs := [iV m7]) rfl mkI mks0)) ?_
   intro U6 w b
   refine Dn [] [0, 1] [8] (Rn (yS rfl (yFb FL_29_1 (eh a0)) (yS rfl (lb_ a6.v O_22 e0 b R4) QSn)) ?_)
   refine Lc1 rfl ?_
   replace b := b.pk 4 [3, 0, 0, 0] rfl
   refine LH wn (rAp b SL_22 e0 e0 rO1 O4) ?_
   intro O5 w b
   refine Dn [9] [] [10] (yR rfl (yFb FL_29_1 (eh a0)) (Rn QSn ?_))
   refine Lc1 rfl ?_
   replace b := b.pk 5 [4, 0, 0, 0, 0] rfl
   refine LT wn (r_stb1 (vals' := [hnil.v, O5.v, hnil.v]) b O_22 e0 e0 rfl rfl rfl rfl) ?_
   intro w b
   exact Dz [] [] (Rn QSn (u0 _ _ _ (t9 _ _ _ _ _ c3 a0 a7 l9 m0 c4 (b.pk 5 [4, 1, 0, 1] rfl) q)))
 ·refine cF e0 m1 (wp_exit (M5 _ _ _ rfl ?_))
  obtain rfl := someI q
  exact M2 _ _ _ _ rfl rfl (v9 _ _ _ _ _ c3 a0 a7 b (M0 _ rfl))
theorem dissect_refine_ok {e4 : L2} {e5 : LI} {e6 : L2} {J : LI} {o l m c : Hdr} {out : LI} (p : dissect_refine e4 e5 e6 J = some out) (e7 : imm S1 o.v e4 ∈ ros) (C : imm I1 l.v e5 ∈ ros) (R : imm S1 m.v e6 ∈ ros) (b : St w0 ros (row 3 I1 c.v J :: rs) w) :
  Calls Try.prog 52 #[.agg #[o.v, l.v, m.v], c.v] w (fun e w => e = .returned (.tuple #[]) ∧ St w0 ros (row 3 I1 c.v out :: rs) w) := by
 refine enterQ Try.func52 rfl Try.ntmps52 rfl fun Q e8 => sR fun _ l6 => YB wn rfl (r_box (vals := [o.v, l.v, m.v]) b e0 rfl) ?_
 intro i w b
 refine wK l6 (sR fun _ l7 => YB wn rfl (rAl b ZT_111) ?_)
 intro j w b
 replace b : St w0 ros (row 111 I1 (arrH j 2).v [0, 0] :: box i 29 [o.v, l.v, m.v] :: row 3 I1 c.v J :: rs) w := b.boxRow rfl rfl rfl
 refine wK l7 (sQ fun _ l8 => sR fun _ l9 => Ym c.v e0 (yY (yLen SL_22 e0 b rO2) (Ym (iV 0) rfl (wK l9 (blockQ fun m0 m1 => ?_)))))
 obtain ⟨m2, m3, p⟩ := bs p
 have m4 : ∀ (a2 : LI) (f : FV) (w : World), f 1 = c.v → f 2 = (pB i) → f 4 = .pointer (arrH j 2).a → St w0 ros (row 3 I1 c.v J :: box i 29 [o.v, l.v, m.v] :: row 111 I1 (arrH j 2).v a2 :: rs) w → a2 = m2 → m0 (.exit 0) (fr 133 f) w := by
  intro a2 f w m5 m6 a3 b ho
  subst ho
  refine m1 _ _ _ (l8 _ _ (sR fun _ m7 => ?_))
  obtain ⟨x, e9, p⟩ := bs p
  refine yY (yIaA AR_111 (eh a3) rfl b rO2 rfl e9) (yY (yI O_3 e0 b rO2 e9) ?_)
  obtain ⟨y, f0, p⟩ := bs p
  refine yY (yIaA AR_111 (eh a3) rfl b rO2 rfl f0) (yY (yI O_3 e0 b rO2 f0) (yY (yadd e0 e0) (Ya (iV (wa .i64 x y)) e0 (wK m7 (sR fun _ m8 => Ym (iV 0) rfl (wK m8 (blockQ fun f1 f2 => ?_)))))))
  obtain ⟨f3, m9, p⟩ := bs p
  have n0 : ∀ (a4 : LI) (f : FV) (w : World), St w0 ros (row 3 I1 c.v a4 :: rs) w → .inl a4 = f3 → f1 (.exit 2) (fr 133 f) w := by
   intro a4 f w b ho
   subst ho
   refine f2 _ _ _ ?_
   obtain rfl := someI p
   exact e8 _ _ _ (fin0n Try.results52 ⟨rfl, b⟩)
  have n2 : ∀ (a5 : LI) (f : FV) (w : World), St w0 ros (row 3 I1 c.v a5 :: rs) w → .inr a5 = f3 → f1 .ret (fr 133 f) w := by
   intro a5 f w b ho
   subst ho
   refine f2 _ _ _ ?_
   obtain rfl := someI p
   exact e8 _ _ _ (fin0r Try.results52 ⟨rfl, b⟩)
  refine loopQ (fun s a w => ∃ (A a6 : LI) (r : Int) (f : FV), (A, a6, r) = s ∧ a = fr 133 f ∧ f 1 = c.v ∧ f 2 = (pB i) ∧ f 4 = .pointer (arrH j 2).a ∧ f 7 = iV (wa .i64 x y) ∧ f 37 = iV r ∧ St w0 ros (row 3 I1 c.v A :: box i 29 [o.v, l.v, m.v] :: row 111 I1 (arrH j 2).v a6 :: rs) w) m9 ⟨_, _, _, _, rfl, rfl, m5, m6, a3, rfl, rfl, b⟩ ?_
  rintro _ _ w y4 ⟨A, a6, r, f, rfl, rfl, f4, n3, n4, n5, f5, b⟩ t f6 y5 n6 f7
  refine sR fun _ n7 => yY (ylss (eh f5) rfl) (wK n7 (seqQ fun y6 n8 n9 => ?_))
  rcases iteS t with ⟨a7, t⟩ | ⟨a7, t⟩
  ·refine cT e0 a7 (wp_skip (n8 _ _ (seqQ fun y7 o0 o2 => blockQ fun _ f8 => sR fun _ o3 => Ya (.bool false) rfl (wK o3 (sQ fun _ o4 => sR fun _ o5 => Ym c.v (eh f4) ?_)))))
   refine yY (yLen SL_22 e0 b rO0) (Ym (iV 0) rfl (wK o5 (blockQ fun o6 o7 => ?_)))
   obtain ⟨o8, o9, t⟩ := bs t
   have p0 : ∀ (a8 a9 : LI) (S : Bool) (f : FV) (w : World), f 1 = c.v → f 2 = (pB i) → f 4 = .pointer (arrH j 2).a → f 7 = iV (wa .i64 x y) → f 8 = .bool S → f 37 = iV r → St w0 ros (row 3 I1 c.v a8 :: box i 29 [o.v, l.v, m.v] :: row 111 I1 (arrH j 2).v a9 :: rs) w → (a8, a9, S) = o8 → o6 (.exit 4) (fr 133 f) w := by
    intro a8 a9 S f w p1 p2 p3 p4 p5 p6 b ho
    subst ho
    refine o7 _ _ _ (o4 _ _ (sR fun _ p7 => Ym (.bool S) (eh p5) (yY (ynot e0) (wK p7 ?_))))
    rcases iteS t with ⟨b0, t⟩ | ⟨b0, t⟩
    ·refine condF e0 (nF b0) (wp_skip (f8 _ _ _ (o0 _ _ (wR (yY (yadd (eh p6) rfl) (Ym (iV (wa .i64 r 1)) e0 (wN ?_)))))))
     obtain rfl := someI t
     exact n6 _ _ _ rfl ⟨_, _, _, _, rfl, rfl, p1, p2, p3, p4, rfl, b⟩
    ·refine condT e0 (nT (bfalse b0)) (wp_ret (f8 _ _ _ (o2 _ _ _ rfl ?_)))
     obtain rfl := someI t
     exact f7 _ _ _ _ rfl rfl (n2 _ _ _ (b.pk 3 [0] rfl) (f6 _ rfl))
   refine loopQ (fun s a w => ∃ (D E : LI) (F : Bool) (h : Int) (f : FV), (D, E, F, h) = s ∧ a = fr 133 f ∧ f 1 = c.v ∧ f 2 = (pB i) ∧ f 4 = .pointer (arrH j 2).a ∧ f 7 = iV (wa .i64 x y) ∧ f 8 = .bool F ∧ f 37 = iV r ∧ f 39 = c.v ∧ f 40 = iV (A.length : Int) ∧ f 41 = iV h ∧ St w0 ros (row 3 I1 c.v D :: box i 29 [o.v, l.v, m.v] :: row 111 I1 (arrH j 2).v E :: rs) w) o9 ⟨_, _, _, _, _, rfl, rfl, f4, n3, n4, n5, rfl, f5, rfl, rfl, rfl, b⟩ ?_
   rintro _ _ w p8 ⟨D, E, F, h, f, rfl, rfl, f9, b1, g0, g1, g2, g3, g4, g5, T, b⟩ d p9 y8 q0 q4
   refine sR fun _ q5 => yY (ylss (eh T) (eh g5)) (wK q5 (seqQ fun y9 q6 q7 => ?_))
   rcases iteS d with ⟨b2, d⟩ | ⟨b2, d⟩
   ·refine cT e0 b2 (wp_skip (q6 _ _ (sQ fun _ q8 => blockQ fun q9 r0 => sR fun _ r1 => Ym (iV h) (eh T) ?_)))
    obtain ⟨u, g6, d⟩ := bs d
    refine yY (yIa SL_22 (eh g4) (eh T) b rO0 g6) (yY (yI O_3 e0 b rO0 g6) (Ya (iV h) e0 (Ya (iV u) e0 (wK r1 (sR fun _ r2 => Ya (iV 0) rfl (wK r2 (sQ fun _ r3 => sR fun _ r4 => ?_)))))))
    refine yY (yFb FL_29_0 (eh b1)) (yY (yFb FL_27_0 e0) (yY (lb_ o.v O_25 e0 b R1) (Ym (iV h) e0 ?_)))
    obtain ⟨U, g7, d⟩ := bs d
    refine yY (yIa SL_25 e0 e0 b (rdI e7) g7) ?_
    obtain ⟨V, b⟩ := iLs b e7 g7
    refine yY (yCt O_22 e0 b F1 rfl) (yY (yLen SL_22 e0 b (rdI F0)) (Ym (iV 0) rfl (wK r4 (blockQ fun r5 r6 => ?_))))
    obtain ⟨r7, r8, d⟩ := bs d
    have r9 : ∀ (G : Int) (f : FV) (w : World), f 1 = c.v → f 2 = (pB i) → f 4 = .pointer (arrH j 2).a → f 7 = iV (wa .i64 x y) → f 8 = .bool F → f 9 = iV h → f 10 = iV u → f 11 = iV G → f 37 = iV r → f 39 = c.v → f 40 = iV (A.length : Int) → f 41 = iV h → St w0 ros (row 3 I1 c.v D :: box i 29 [o.v, l.v, m.v] :: row 111 I1 (arrH j 2).v E :: rs) w → G = r7 → r5 (.exit 6) (fr 133 f) w := by
     intro G f w g8 b3 b4 b5 g9 b6 b7 h0 h1 h3 h5 h7 b ho
     subst ho
     refine r6 _ _ _ (r3 _ _ (sQ fun _ s0 => ?_))
     obtain ⟨b8, B, d⟩ := bs d
     refine joinN (n := 133) (fun f w => f 1 = c.v ∧ f 2 = (pB i) ∧ f 4 = .pointer (arrH j 2).a ∧ f 7 = iV (wa .i64 x y) ∧ f 8 = .bool F ∧ f 9 = iV h ∧ f 10 = iV u ∧ f 37 = iV r ∧ f 39 = c.v ∧ f 40 = iV (A.length : Int) ∧ f 41 = iV h ∧ f 102 = .bool b8 ∧ St w0 ros (row 3 I1 c.v D :: box i 29 [o.v, l.v, m.v] :: row 111 I1 (arrH j 2).v E :: rs) w) (fun h9 => ?_) ?_
     ·rcases iteS B with ⟨g, B⟩ | ⟨g, B⟩
      ·obtain ⟨z0, i0, B⟩ := bs B
       obtain ⟨z1, i1, B⟩ := bs B
       have s1 := someI B
       refine dR [0, 1, 3, 7, 15, 31, 63, 7, 135, 7, 903, 1927, 4095, 8191, 7, 16391, 65535, 131071] [] 0 folM ?_
       replace b := b.drew
       refine Dz [0, 1, 2, 3, 4, 5, 6, 7, 8, 9, 10, 11, 12, 13, 14, 15, 16, 17] [] (yR rfl (m_ (iV G) (eh h0)) (yR rfl (ygtr e0 rfl) (yR rfl (m_ (.bool (decide ((0 : Int) < G))) e0) (Ry rfl rfl (wG (dT g)) (m_ (iV u) (eh b7)) (Ry rfl rfl (wG (dT g)) (ysub rfl e0) (Ry rfl rfl (wG (dT g)) (yIaA AR_111 (eh b4) e0 b rO2 rfl i0) (Ry rfl rfl (wG (dT g)) (yI O_3 e0 b rO2 i0) (Ry rfl rfl (wG (dT g)) (yFb FL_29_1 (eh b3)) (Ry rfl rfl (wG (dT g)) (lb_ l.v O_22 e0 b R1) (Ry rfl rfl (wG (dT g)) (m_ (iV h) (eh b6)) (Ry rfl rfl (wG (dT g)) (yIa SL_22 e0 e0 b (rdI C) i1) (Ry rfl rfl (wG (dT g)) (yI O_3 e0 b (rdI C) i1) (Ry rfl rfl (wG (dT g)) (yadd e0 e0) ?_)))))))))))))
       exact Ry rfl rfl (wG (dT g)) (ymul rfl e0) (Ry rfl rfl (wG (dT g)) (m_ (iV (wa .i64 x y)) (eh b5)) (Ry rfl rfl (wG (dT g)) (ymul rfl e0) (Ry rfl rfl (wG (dT g)) (yleq e0 e0) (yR rfl (pt_ (.bool b8) e0 (dT g) (eqv s1 e0)) (Rn QSn (h9 _ _ ⟨g8, b3, b4, b5, g9, b6, b7, h1, h3, h5, h7, rfl, b⟩))))))
      ·have s2 := someI B
       refine dR [0, 1, 3, 7, 15, 31, 63, 7, 135, 7, 903, 1927, 4095, 8191, 7, 16391, 65535, 131071] [] 0 folM ?_
       replace b := b.drew
       refine Dz [0, 1, 2, 3, 4, 5, 6, 7, 8, 9, 10, 11, 12, 13, 14, 15, 16, 17] [] (yR rfl (m_ (iV G) (eh h0)) (yR rfl (ygtr e0 rfl) (yR rfl (m_ (.bool (decide ((0 : Int) < G))) e0) (Rx rfl rfl (wX (dF g)) (Rx rfl rfl (wX (dF g)) (Rx rfl rfl (wX (dF g)) (Rx rfl rfl (wX (dF g)) (Rx rfl rfl (wX (dF g)) (Rx rfl rfl (wX (dF g)) (Rx rfl rfl (wX (dF g)) (Rx rfl rfl (wX (dF g)) (Rx rfl rfl (wX (dF g)) (Rx rfl rfl (wX (dF g)) ?_)))))))))))))
       exact Rx rfl rfl (wX (dF g)) (Rx rfl rfl (wX (dF g)) (Rx rfl rfl (wX (dF g)) (Rx rfl rfl (wX (dF g)) (yR rfl (pf_ (.bool b8) e0 (dF g) (eqv s2 rfl)) (Rn QSn (h9 _ _ ⟨g8, b3, b4, b5, g9, b6, b7, h1, h3, h5, h7, rfl, b⟩))))))
     rintro f w ⟨c0, W, K, i2, s3, c1, c2, i3, i4, i5, i6, i7, b⟩
     refine s0 _ _ ?_
     have i8 : ∀ (c3 c4 : LI) (c5 : Bool) (f : FV) (w : World), f 1 = c.v → f 2 = (pB i) → f 4 = .pointer (arrH j 2).a → f 7 = iV (wa .i64 x y) → f 8 = .bool c5 → f 37 = iV r → f 39 = c.v → f 40 = iV (A.length : Int) → f 41 = iV h → St w0 ros (row 3 I1 c.v c3 :: box i 29 [o.v, l.v, m.v] :: row 111 I1 (arrH j 2).v c4 :: rs) w → dissect_refine_j76 h c3 c4 c5 = some p8 → q9 .normal (fr 133 f) w := by
      intro c3 c4 c5 f w s4 s5 s6 s7 s8 s9 t0 t1 t2 b p
      refine r0 _ _ _ (q8 _ _ (wR (yY (yadd (eh t2) rfl) (Ym (iV (wa .i64 h 1)) e0 (wN ?_)))))
      obtain rfl := someI p
      exact q0 _ _ _ rfl ⟨_, _, _, _, _, rfl, rfl, s4, s5, s6, s7, s8, s9, t0, t1, rfl, b⟩
     rcases iteS d with ⟨c6, d⟩ | ⟨c6, d⟩
     ·refine condT (eh i7) c6 (sR fun _ t3 => Ym c.v (eh c0) (Ym (iV h) (eh c1) (Ym (iV u) (eh c2) (yY (ysub rfl e0) ?_))))
      obtain ⟨z2, i9, d⟩ := bs d
      refine yY (yIs SL_22 e0 e0 b rO0 i9) (YT wn rfl (r_sti (cs := [iV (ws .i64 1 u)]) b O_3 rfl e0 e0 rfl mkI i9) ?_)
      intro w b
      refine Ya (.bool true) rfl (wK t3 (sQ fun _ t4 => ?_))
      obtain ⟨t5, j0, d⟩ := bs d
      obtain ⟨t6, j1, d⟩ := bs d
      obtain ⟨z3, j2, d⟩ := bs d
      refine dR [0, 1, 3, 0, 8, 0, 56, 120, 255, 511, 1023] [10] 1 folM ?_
      replace b := b.drew
      refine Dn [0, 1, 2, 3, 4, 5, 6, 7, 8, 9] [] [10] (yR rfl (m_ (iV u) (eh c2)) (yR rfl (yIaA AR_111 (eh K) e0 b rO2 rfl j0) (yR rfl (yI O_3 e0 b rO2 j0) (yR rfl (yFb FL_29_1 (eh W)) (yR rfl (lb_ l.v O_22 e0 b R1) (yR rfl (m_ (iV h) (eh c1)) (yR rfl (yIa SL_22 e0 e0 b (rdI C) j1) (yR rfl (yI O_3 e0 b (rdI C) j1) (yR rfl (ysub e0 e0) (yR rfl (yIsA AR_111 (eh K) e0 b rO2 rfl j2) (Rn QSn ?_)))))))))))
      refine Lc1 rfl ?_
      replace b := b.pk 3 [2, 0, 0] rfl
      refine LT wn (r_sti (cs := [iV (ws .i64 t5 t6)]) b O_3 rfl e0 e0 rfl mkI j2) ?_
      intro w b
      refine Dz [] [] (Rn QSn (t4 _ _ ?_))
      obtain ⟨t7, j3, d⟩ := bs d
      obtain ⟨t8, j4, d⟩ := bs d
      obtain ⟨z4, j5, d⟩ := bs d
      refine dR [0, 1, 3, 7, 0, 16, 0, 112, 240, 511, 1023, 2047] [11] 1 folM ?_
      replace b := b.drew
      refine Dn [0, 1, 2, 3, 4, 5, 6, 7, 8, 9, 10] [] [11] (yR rfl (m_ (iV u) (eh c2)) (yR rfl (ysub rfl e0) (yR rfl (yIaA AR_111 (eh K) e0 b rO0 rfl j3) (yR rfl (yI O_3 e0 b rO0 j3) (yR rfl (yFb FL_29_1 (eh W)) (yR rfl (lb_ l.v O_22 e0 b R2) (yR rfl (m_ (iV h) (eh c1)) (yR rfl (yIa SL_22 e0 e0 b (rdI C) j4) (yR rfl (yI O_3 e0 b (rdI C) j4) (yR rfl (yadd e0 e0) (yR rfl (yIsA AR_111 (eh K) e0 b rO0 rfl j5) (Rn QSn ?_))))))))))))
      refine Lc1 rfl ?_
      refine LT wn (r_sti (cs := [iV (wa .i64 t7 t8)]) b O_3 rfl e0 e0 rfl mkI j5) ?_
      intro w b
      exact Dz [] [] (Rn QSn (i8 _ _ _ _ _ c0 W K i2 rfl i3 i4 i5 i6 (b.pk 3 [1, 1, 0] rfl) d))
     ·exact condF (eh i7) (bfalse c6) (wp_skip (i8 _ _ _ _ _ c0 W K i2 s3 i3 i4 i5 i6 b d))
    refine loopQ (fun s a w => ∃ (H z : Int) (f : FV), (H, z) = s ∧ a = fr 133 f ∧ f 1 = c.v ∧ f 2 = (pB i) ∧ f 4 = .pointer (arrH j 2).a ∧ f 7 = iV (wa .i64 x y) ∧ f 8 = .bool F ∧ f 9 = iV h ∧ f 10 = iV u ∧ f 11 = iV H ∧ f 37 = iV r ∧ f 39 = c.v ∧ f 40 = iV (A.length : Int) ∧ f 41 = iV h ∧ f 51 = V.v ∧ f 52 = iV (U.length : Int) ∧ f 53 = iV z ∧ St w0 (imm I1 V.v U :: ros) (row 3 I1 c.v D :: box i 29 [o.v, l.v, m.v] :: row 111 I1 (arrH j 2).v E :: rs) w) r8 ⟨_, _, _, rfl, rfl, f9, b1, g0, g1, g2, rfl, rfl, rfl, g3, g4, g5, T, rfl, rfl, rfl, (b.facts (allC F0 (allT (allT allI))))⟩ ?_
    rintro _ _ w t9 ⟨H, z, f, rfl, rfl, X, L, c7, c8, c9, N, Z, d0, d1, d2, d3, d4, d5, d6, O, b⟩ k u0 z5 u1 u2
    refine sR fun _ u3 => yY (ylss (eh O) (eh d6)) (wK u3 (seqQ fun z6 u4 u5 => ?_))
    rcases iteS k with ⟨d7, k⟩ | ⟨d7, k⟩
    ·refine cT e0 d7 (wp_skip (u4 _ _ (sQ fun _ u6 => blockQ fun u7 u8 => sR fun _ u9 => Ym (iV z) (eh O) ?_)))
     obtain ⟨j6, j7, k⟩ := bs k
     refine yY (yIa SL_22 (eh d5) (eh O) b (rdI F0) j7) (yY (yI O_3 e0 b (rdI F0) j7) (Ya (iV z) e0 (Ya (iV j6) e0 (wK u9 (sR fun _ v0 => Ym c.v (eh X) (Ym (iV j6) e0 ?_))))))
     obtain ⟨z7, j8, k⟩ := bs k
     refine yY (yIa SL_22 e0 e0 b rO0 j8) (yY (yI O_3 e0 b rO0 j8) (Ym (iV u) (eh Z) (yY (yneq e0 e0) (wK v0 ?_))))
     have j9 : ∀ (d8 : Int) (f : FV) (w : World), f 1 = c.v → f 2 = (pB i) → f 4 = .pointer (arrH j 2).a → f 7 = iV (wa .i64 x y) → f 8 = .bool F → f 9 = iV h → f 10 = iV u → f 11 = iV d8 → f 37 = iV r → f 39 = c.v → f 40 = iV (A.length : Int) → f 41 = iV h → f 51 = V.v → f 52 = iV (U.length : Int) → f 53 = iV z → St w0 (imm I1 V.v U :: ros) (row 3 I1 c.v D :: box i 29 [o.v, l.v, m.v] :: row 111 I1 (arrH j 2).v E :: rs) w → dissect_refine_j77 z d8 = some t9 → u7 .normal (fr 133 f) w := by
      intro d8 f w v1 v2 v3 v4 v5 v6 v7 v8 v9 w1 w2 w3 w4 w5 w6 b p
      refine u8 _ _ _ (u6 _ _ (wR (yY (yadd (eh w6) rfl) (Ym (iV (wa .i64 z 1)) e0 (wN ?_)))))
      obtain rfl := someI p
      exact u1 _ _ _ rfl ⟨_, _, _, rfl, rfl, v1, v2, v3, v4, v5, v6, v7, v8, v9, w1, w2, w3, w4, w5, rfl, b⟩
     rcases iteS k with ⟨d9, k⟩ | ⟨d9, k⟩
     ·refine condF e0 (nF (dT d9)) (wR (Ym (iV H) (eh d0) (yY (yFb FL_29_2 (eh L)) (yY (lb_ m.v O_25 e0 b R1) (Ym (iV h) (eh N) ?_)))))
      obtain ⟨z8, k0, k⟩ := bs k
      refine yY (yIa SL_25 e0 e0 b (rdI (mtF R)) k0) ?_
      obtain ⟨z9, b⟩ := iLs b (mtF R) k0
      refine yY (yCt O_22 e0 b F1 rfl) (Ym (iV z) e0 ?_)
      obtain ⟨w7, k5, k⟩ := bs k
      exact yY (yIa SL_22 e0 e0 b (rdI F0) k5) (yY (yI O_3 e0 b (rdI F0) k5) (yY (ysub e0 e0) (Ya (iV (ws .i64 H w7)) e0 (wN (j9 _ _ _ X L c7 c8 c9 N Z rfl d1 d2 d3 d4 d5 d6 O (b.facts (allC F2 (allT (allT (allT allI))))) k)))))
     ·refine condT e0 (nT (dF d9)) (wR (Ym (iV H) (eh d0) (yY (yFb FL_29_2 (eh L)) (yY (lb_ m.v O_25 e0 b R1) (Ym (iV h) (eh N) ?_)))))
      obtain ⟨A0, k6, k⟩ := bs k
      refine yY (yIa SL_25 e0 e0 b (rdI (mtF R)) k6) ?_
      obtain ⟨A1, b⟩ := iLs b (mtF R) k6
      refine yY (yCt O_22 e0 b F1 rfl) (Ym (iV z) e0 ?_)
      obtain ⟨w8, k7, k⟩ := bs k
      exact yY (yIa SL_22 e0 e0 b (rdI F0) k7) (yY (yI O_3 e0 b (rdI F0) k7) (yY (yadd e0 e0) (Ya (iV (wa .i64 H w8)) e0 (wN (j9 _ _ _ X L c7 c8 c9 N Z rfl d1 d2 d3 d4 d5 d6 O (b.facts (allC F2 (allT (allT (allT allI))))) k)))))
    ·refine cF e0 d7 (wp_exit (u5 _ _ _ rfl ?_))
     obtain rfl := someI k
     exact u2 _ _ _ _ rfl rfl (r9 _ _ _ X L c7 c8 c9 N Z d0 d1 d2 d3 d4 (b.facts (allT allI)) (u0 _ rfl))
   ·refine cF e0 b2 (wp_exit (q7 _ _ _ rfl ?_))
    obtain rfl := someI d
    exact q4 _ _ _ _ rfl rfl (p0 _ _ _ _ _ f9 b1 g0 g1 g2 g3 b (p9 _ rfl))
  ·refine cF e0 a7 (wp_exit (n9 _ _ _ rfl ?_))
   obtain rfl := someI t
   exact f7 _ _ _ _ rfl rfl (n0 _ _ _ (b.pk 3 [0] rfl) (f6 _ rfl))
 refine loopQ (fun s a w => ∃ (e1 : LI) (I : Int) (f : FV), (e1, I) = s ∧ a = fr 133 f ∧ f 1 = c.v ∧ f 2 = (pB i) ∧ f 4 = .pointer (arrH j 2).a ∧ f 14 = c.v ∧ f 15 = iV (J.length : Int) ∧ f 16 = iV I ∧ St w0 ros (row 3 I1 c.v J :: box i 29 [o.v, l.v, m.v] :: row 111 I1 (arrH j 2).v e1 :: rs) w) m3 ⟨_, _, _, rfl, rfl, rfl, rfl, rfl, rfl, rfl, rfl, (b.pk 3 [2, 1, 0] rfl)⟩ ?_
 rintro _ _ w A2 ⟨e1, I, f, rfl, rfl, k8, e2, a0, k9, l0, a1, b⟩ q w9 A3 x0 x2
 refine sR fun _ x4 => yY (ylss (eh a1) (eh l0)) (wK x4 (seqQ fun A4 x6 x8 => ?_))
 rcases iteS q with ⟨e3, q⟩ | ⟨e3, q⟩
 ·refine cT e0 e3 (wp_skip (x6 _ _ (sQ fun _ x9 => blockQ fun _ y0 => sR fun _ y1 => Ym (iV I) (eh a1) ?_)))
  obtain ⟨l1, l2, q⟩ := bs q
  refine yY (yIa SL_22 (eh k9) (eh a1) b rO0 l2) (yY (yI O_3 e0 b rO0 l2) (Ya (iV I) e0 (Ya (iV l1) e0 (wK y1 ?_))))
  obtain ⟨y2, l3, q⟩ := bs q
  obtain ⟨y3, l4, q⟩ := bs q
  obtain ⟨A5, l5, q⟩ := bs q
  refine dR [0, 1, 3, 0, 8, 0, 56, 120, 255, 511, 1023] [10] 1 folM ?_
  replace b := b.drew
  refine Dn [0, 1, 2, 3, 4, 5, 6, 7, 8, 9] [] [10] (yR rfl (m_ (iV l1) e0) (yR rfl (yIaA AR_111 (eh a0) e0 b rO2 rfl l3) (yR rfl (yI O_3 e0 b rO2 l3) (yR rfl (yFb FL_29_1 (eh e2)) (yR rfl (lb_ l.v O_22 e0 b R1) (yR rfl (m_ (iV I) e0) (yR rfl (yIa SL_22 e0 e0 b (rdI C) l4) (yR rfl (yI O_3 e0 b (rdI C) l4) (yR rfl (yadd e0 e0) (yR rfl (yIsA AR_111 (eh a0) e0 b rO2 rfl l5) (Rn QSn ?_)))))))))))
  refine Lc1 rfl ?_
  replace b := b.pk 3 [2, 0, 0] rfl
  refine LT wn (r_sti (cs := [iV (wa .i64 y2 y3)]) b O_3 rfl e0 e0 rfl mkI l5) ?_
  intro w b
  refine Dz [] [] (Rn QSn (y0 _ _ _ (x9 _ _ (wR (yY (yadd (eh a1) rfl) (Ym (iV (wa .i64 I 1)) e0 (wN ?_)))))))
  obtain rfl := someI q
  exact x0 _ _ _ rfl ⟨_, _, _, rfl, rfl, k8, e2, a0, k9, l0, rfl, (b.pk 3 [1, 1, 0] rfl)⟩
 ·refine cF e0 e3 (wp_exit (x8 _ _ _ rfl ?_))
  obtain rfl := someI q
  exact x2 _ _ _ _ rfl rfl (m4 _ _ _ k8 e2 a0 b (w9 _ rfl))
theorem dissect_bisect_step {rec : L2 → LI → L2 → Option (LI × Bool)} (c6 : ∀ {w0 : World} {ros : List Fact} {rs : List Res} {w : World} {x : L2} {y : LI} {z : L2} {h g i : Hdr} {out : LI × Bool} (c : rec x y z = some out) (t : imm S1 h.v x ∈ ros) (q : imm I1 g.v y ∈ ros) (u : imm S1 i.v z ∈ ros) (b : St w0 ros rs w), Calls Try.prog 32 #[.agg #[h.v, g.v, i.v]] w (fun e w => ∃ (D : Hdr), e = .returned (.tuple #[D.v, .bool out.2]) ∧ St w0 ros (row 3 I1 D.v out.1 :: rs) w)) {w0 : World} {ros : List Fact} {rs : List Res} {w : World} {x : L2} {y : LI} {z : L2} {h g i : Hdr} {out : LI × Bool} (c : dissect_bisect_body rec x y z = some out) (t : imm S1 h.v x ∈ ros) (q : imm I1 g.v y ∈ ros) (u : imm S1 i.v z ∈ ros) (b : St w0 ros rs w) :
  Calls Try.prog 32 #[.agg #[h.v, g.v, i.v]] w (fun e w => ∃ (D : Hdr), e = .returned (.tuple #[D.v, .bool out.2]) ∧ St w0 ros (row 3 I1 D.v out.1 :: rs) w) := by
 refine enterQ Try.func32 rfl Try.ntmps32 rfl fun Q J => sR fun _ c7 => YB wn rfl (r_box (vals := [h.v, g.v, i.v]) b e0 rfl) ?_
 intro r w b
 refine Ya hnil.v rfl (Ya (.bool false) rfl (wK c7 (sR fun _ c8 => yY (lbs_ [h.v, g.v, i.v] ST_29 e0 b R0) ?_)))
 obtain ⟨c9, d0, c⟩ := bs c
 refine Yc wn rfl (yCall FN_51 (a1 e0)) (dissect_grown_ok d0 t q u b) ?_
 rintro _ w ⟨o, rfl, b⟩
 refine ⟨_, rfl, ?_⟩
 refine Ya o.v e0 (wK c8 (seqQ fun a6 d1 a7 => sR fun _ d2 => yY (yFb FL_29_1 e0) (yY (lb_ g.v O_22 e0 b R1) (yY (yLen SL_22 e0 b (rdI q)) (yY (ygtr e0 rfl) (wK d2 ?_))))))
 have a8 : ∀ (K : LI) (f : FV) (w : World), f 1 = (pB r) → f 4 = o.v → St w0 ros (box r 29 [h.v, g.v, i.v] :: row 3 I1 o.v K :: rs) w → dissect_bisect_j5 x y z K = some out → a6 .normal (fr 61 f) w := by
  intro K f w d3 a9 b c
  refine d1 _ _ (sR fun _ d4 => yY (lbs_ [h.v, g.v, i.v] ST_29 (eh d3) b R0) (Ym o.v (eh a9) ?_))
  obtain ⟨h5, d5, c⟩ := bs c
  replace b := b.pk 2 [1, 0] rfl
  refine Yc wn rfl (yCall FN_52 (a2 e0 e0)) (dissect_refine_ok d5 t q u b) ?_
  rintro _ w ⟨rfl, b⟩
  refine ⟨_, rfl, ?_⟩
  refine wK d4 (sR fun _ d6 => Ym o.v (eh a9) (Ya o.v e0 (Ya (.bool true) rfl (wK d6 (wp_ret ?_)))))
  obtain rfl := someI c
  exact J _ _ _ (fin2r Try.results32 ⟨rfl, rfl⟩ ⟨rfl, rfl⟩ ⟨_, rfl, (b.pk 2 [0] rfl)⟩)
 rcases iteS c with ⟨L, c⟩ | ⟨L, c⟩
 ·refine cT e0 L (sQ fun _ d7 => ?_)
  obtain ⟨h7, b0, c⟩ := bs c
  obtain ⟨d, N, c⟩ := bs c
  refine joinN (n := 61) (fun f w => ∃ (O : Nat) (G : Hdr) (R : List Hdr) (E H : Hdr) (S : List Hdr) (B : Hdr), f 1 = (pB r) ∧ f 4 = o.v ∧ f 5 = (pB O) ∧ f 6 = B.v ∧ f 7 = .bool d.2.2.2.2 ∧ St w0 (imm I1 E.v d.2.1 :: ros) (box r 29 [h.v, g.v, i.v] :: row 3 I1 o.v c9 :: row 22 rH G.v R :: fam 3 I1 R d.1 :: row 22 rH H.v S :: fam 3 I1 S d.2.2.1 :: box O 29 [G.v, E.v, H.v] :: row 3 I1 B.v d.2.2.2.1 :: rs) w) (fun T => ?_) ?_
  ·refine dR [0, 0, 2, 7, 15, 31, 31, 31, 0, 319, 895, 2047] [2, 3, 8, 9, 10, 11] 6 folM ?_
   replace b := b.drew
   refine Dn [0, 1] [] [2, 8] (yR rfl (lbs_ [h.v, g.v, i.v] ST_29 e0 b R1) (yR rfl (lbs_ [h.v, g.v, i.v] ST_29 e0 b R1) (Rn QSn ?_)))
   refine Lc rfl ?_ (Lc1 rfl ?_)
   ·refine Lk wn (yCall FN_28 (a1 e0)) (dissect_match_ok b0 t q u b) ?_
    rintro _ w ⟨d8, rfl, b⟩
    refine ⟨_, rfl, ?_⟩
    refine Dn [] [0] [3, 8] (Rn (yS rfl (lbs_ [h.v, g.v, i.v] ST_29 e0 b R2) QSn) ?_)
    refine Lc rfl ?_ (Lc1 rfl ?_)
    ·replace b := b.fz
     refine Lk wn (yCall FN_41 (a2 e0 e0)) (dissect_coarsen_ok N (mtF t) (mtF q) (mtF u) F0 b) ?_
     rintro _ w ⟨j, b1, k, l, b2, m, rfl, b⟩
     refine ⟨_, rfl, ?_⟩
     refine Dn [4, 5, 6, 7] [] [8] (yR rfl (m_ (.tuple #[.agg #[j.v, k.v, l.v], m.v, .bool d.2.2.2.2]) e0) (yR rfl (x_ (.agg #[j.v, k.v, l.v]) e0) (yR rfl (x_ m.v e0) (yR rfl (x_ (.bool d.2.2.2.2) e0) (Rn QSn ?_)))))
     refine Lc1 rfl ?_
     refine LB wn (rAl b ZT_29) ?_
     intro b3 w b
     refine Dn [] [4, 5, 6, 7] [9] (Rn (yS rfl (m_ (.tuple #[.agg #[j.v, k.v, l.v], m.v, .bool d.2.2.2.2]) e0) (yS rfl (x_ (.agg #[j.v, k.v, l.v]) e0) (yS rfl (x_ m.v e0) (yS rfl (x_ (.bool d.2.2.2.2) e0) QSn)))) ?_)
     refine Lc1 rfl ?_
     refine LT wn (r_stbn (vals' := [j.v, k.v, l.v]) (us := [j.v, k.v, l.v]) b ST_29 e0 e0 rfl rfl (one_of rfl) rfl) ?_
     intro w b
     refine Dn [] [6, 7] [10] (Rn (yS rfl (x_ m.v e0) (yS rfl (x_ (.bool d.2.2.2.2) e0) QSn)) ?_)
     refine Lc1 rfl ?_
     refine Ly wn (a_ m.v e0) (Dn [] [7] [11] (Rn (yS rfl (x_ (.bool d.2.2.2.2) e0) QSn) ?_))
     refine Lc1 rfl ?_
     exact Ly wn (a_ (.bool d.2.2.2.2) e0) (Dz [] [] (Rn QSn (T _ _ ⟨_, _, _, _, _, _, _, rfl, rfl, rfl, rfl, rfl, ((b.pk 8 [7, 6, 1, 1, 1, 1, 0, 0] rfl).facts (allC F0 (allT (allT allI))))⟩)))
    ·refine LB wn (rAl b ZT_29) ?_
     intro b3 w b
     refine Dn [] [0] [3] (Rn (yS rfl (lbs_ [h.v, g.v, i.v] ST_29 e0 b R3) QSn) ?_)
     refine Lc1 rfl ?_
     replace b := b.pk 2 [1, 0] rfl
     replace b := b.fz
     refine Lk wn (yCall FN_41 (a2 e0 e0)) (dissect_coarsen_ok N (mtF t) (mtF q) (mtF u) F0 b) ?_
     rintro _ w ⟨j, b1, k, l, b2, m, rfl, b⟩
     refine ⟨_, rfl, ?_⟩
     refine Dn [4, 5, 6, 7] [] [9] (yR rfl (m_ (.tuple #[.agg #[j.v, k.v, l.v], m.v, .bool d.2.2.2.2]) e0) (yR rfl (x_ (.agg #[j.v, k.v, l.v]) e0) (yR rfl (x_ m.v e0) (yR rfl (x_ (.bool d.2.2.2.2) e0) (Rn QSn ?_)))))
     refine Lc1 rfl ?_
     replace b := b.pk 6 [5, 0, 0, 0, 0, 0] rfl
     refine LT wn (r_stbn (vals' := [j.v, k.v, l.v]) (us := [j.v, k.v, l.v]) b ST_29 e0 e0 rfl rfl (one_of rfl) rfl) ?_
     intro w b
     refine Dn [] [6, 7] [10] (Rn (yS rfl (x_ m.v e0) (yS rfl (x_ (.bool d.2.2.2.2) e0) QSn)) ?_)
     refine Lc1 rfl ?_
     refine Ly wn (a_ m.v e0) (Dn [] [7] [11] (Rn (yS rfl (x_ (.bool d.2.2.2.2) e0) QSn) ?_))
     refine Lc1 rfl ?_
     exact Ly wn (a_ (.bool d.2.2.2.2) e0) (Dz [] [] (Rn QSn (T _ _ ⟨_, _, _, _, _, _, _, rfl, rfl, rfl, rfl, rfl, ((b.pk 8 [7, 6, 1, 1, 1, 1, 0, 0] rfl).facts (allC F0 (allT (allT allI))))⟩)))
   ·refine LB wn (rAl b ZT_29) ?_
    intro b3 w b
    refine Dn [] [0, 1] [2] (Rn (yS rfl (lbs_ [h.v, g.v, i.v] ST_29 e0 b R2) (yS rfl (lbs_ [h.v, g.v, i.v] ST_29 e0 b R2) QSn)) ?_)
    refine Lc1 rfl ?_
    refine Lk wn (yCall FN_28 (a1 e0)) (dissect_match_ok b0 t q u b) ?_
    rintro _ w ⟨d8, rfl, b⟩
    refine ⟨_, rfl, ?_⟩
    refine Dn [] [0] [3] (Rn (yS rfl (lbs_ [h.v, g.v, i.v] ST_29 e0 b R3) QSn) ?_)
    refine Lc1 rfl ?_
    replace b := b.fz
    refine Lk wn (yCall FN_41 (a2 e0 e0)) (dissect_coarsen_ok N (mtF t) (mtF q) (mtF u) F0 b) ?_
    rintro _ w ⟨j, b1, k, l, b2, m, rfl, b⟩
    refine ⟨_, rfl, ?_⟩
    refine Dn [4, 5, 6, 7] [] [9] (yR rfl (m_ (.tuple #[.agg #[j.v, k.v, l.v], m.v, .bool d.2.2.2.2]) e0) (yR rfl (x_ (.agg #[j.v, k.v, l.v]) e0) (yR rfl (x_ m.v e0) (yR rfl (x_ (.bool d.2.2.2.2) e0) (Rn QSn ?_)))))
    refine Lc1 rfl ?_
    replace b := b.pk 6 [5, 0, 0, 0, 0, 0] rfl
    refine LT wn (r_stbn (vals' := [j.v, k.v, l.v]) (us := [j.v, k.v, l.v]) b ST_29 e0 e0 rfl rfl (one_of rfl) rfl) ?_
    intro w b
    refine Dn [] [6, 7] [10] (Rn (yS rfl (x_ m.v e0) (yS rfl (x_ (.bool d.2.2.2.2) e0) QSn)) ?_)
    refine Lc1 rfl ?_
    refine Ly wn (a_ m.v e0) (Dn [] [7] [11] (Rn (yS rfl (x_ (.bool d.2.2.2.2) e0) QSn) ?_))
    refine Lc1 rfl ?_
    exact Ly wn (a_ (.bool d.2.2.2.2) e0) (Dz [] [] (Rn QSn (T _ _ ⟨_, _, _, _, _, _, _, rfl, rfl, rfl, rfl, rfl, ((b.pk 8 [7, 6, 1, 1, 1, 1, 0, 0] rfl).facts (allC F0 (allT (allT allI))))⟩)))
  rintro f w ⟨O, G, R, E, H, S, B, U, b4, b5, d9, e1, b⟩
  refine d7 _ _ (seqQ fun h8 e2 e3 => sR fun _ e4 => Ym (.bool d.2.2.2.2) (eh e1) (yY (ynot e0) (wK e4 ?_)))
  rcases iteS c with ⟨V, c⟩ | ⟨V, c⟩
  ·refine condF e0 (nF V) (wp_skip (e2 _ _ (sR fun _ e5 => yY (yFb FL_29_1 (eh b5)) (yY (lb_ E.v O_22 e0 b R6) (yY (yLen SL_22 e0 b (rdI F0)) (yY (yFb FL_29_1 (eh U)) (yY (lb_ g.v O_22 e0 b R0) (yY (yLen SL_22 e0 b (rdI (mtF q))) (yY (ylss e0 e0) (wK e5 ?_))))))))))
   have b6 : ∀ (W : LI) (f : FV) (w : World), f 1 = (pB r) → f 4 = o.v → St w0 ros (box r 29 [h.v, g.v, i.v] :: row 3 I1 o.v W :: rs) w → dissect_bisect_j8 x y z W = some out → a6 .normal (fr 61 f) w := by
    intro W f w e6 e7 b c
    exact a8 _ _ _ e6 e7 b c
   rcases iteS c with ⟨X, c⟩ | ⟨X, c⟩
   ·refine cT e0 X (sR fun _ e8 => yY (lbs_ [G.v, E.v, H.v] ST_29 (eh b5) b R6) ?_)
    obtain ⟨F, e9, c⟩ := bs c
    replace b := b.pk 4 [2, 2, 0, 0] rfl
    replace b := b.ffz
    replace b := b.pk 4 [2, 2, 0, 0] rfl
    replace b := b.ffz
    refine Yc wn rfl (yCall FN_32 (a1 e0)) (c6 e9 F1 F2 F0 b) ?_
    rintro _ w ⟨C, rfl, b⟩
    refine ⟨_, rfl, ?_⟩
    refine Ym (.tuple #[C.v, .bool F.2]) e0 (yY (x_ C.v e0) (yY (x_ (.bool F.2) e0) (Ya C.v e0 (Ya (.bool F.2) e0 (wK e8 (seqQ fun i0 f0 f1 => sR fun _ f2 => Ym (.bool F.2) e0 (yY (ynot e0) (wK f2 ?_))))))))
    rcases iteS c with ⟨Z, c⟩ | ⟨Z, c⟩
    ·refine condF e0 (nF Z) (wp_skip (f0 _ _ (sR fun _ f3 => Ym B.v (eh d9) (yY (yLen SL_22 e0 b rO4) (Ym (iV 0) rfl (wK f3 (blockQ fun f4 f5 => ?_)))))))
     obtain ⟨f6, f7, c⟩ := bs c
     have f8 : ∀ (a0 : LI) (f : FV) (w : World), f 1 = (pB r) → f 4 = o.v → St w0 ros (box r 29 [h.v, g.v, i.v] :: row 3 I1 o.v a0 :: rs) w → a0 = f6 → f4 (.exit 0) (fr 61 f) w := by
      intro a0 f w f9 g0 b ho
      subst ho
      exact f5 _ _ _ (b6 _ _ _ f9 g0 b c)
     refine loopQ (fun s a w => ∃ (a3 : LI) (A : Int) (f : FV), (a3, A) = s ∧ a = fr 61 f ∧ f 1 = (pB r) ∧ f 4 = o.v ∧ f 8 = C.v ∧ f 42 = B.v ∧ f 43 = iV (d.2.2.2.1.length : Int) ∧ f 44 = iV A ∧ St w0 ros (box r 29 [h.v, g.v, i.v] :: row 3 I1 o.v a3 :: row 3 I1 C.v F.1 :: row 3 I1 B.v d.2.2.2.1 :: rs) w) f7 ⟨_, _, _, rfl, rfl, U, b4, rfl, rfl, rfl, rfl, ((b.pk 5 [1, 1, 0, 1] rfl).facts (allT (allT (allT allI))))⟩ ?_
     rintro _ _ w i1 ⟨a3, A, f, rfl, rfl, b8, a4, b9, c0, c1, I, b⟩ p g1 i2 g2 g3
     refine sR fun _ g4 => yY (ylss (eh I) (eh c1)) (wK g4 (seqQ fun i3 g5 g6 => ?_))
     rcases iteS p with ⟨a5, p⟩ | ⟨a5, p⟩
     ·refine cT e0 a5 (wp_skip (g5 _ _ (sQ fun _ g7 => blockQ fun _ g8 => sR fun _ g9 => Ym (iV A) (eh I) ?_)))
      obtain ⟨c2, c3, p⟩ := bs p
      refine yY (yIa SL_22 (eh c0) (eh I) b rO3 c3) (yY (yI O_3 e0 b rO3 c3) (Ya (iV A) e0 (Ya (iV c2) e0 (wK g9 (wR (Ym o.v (eh a4) (Ym (iV A) e0 (Ym C.v (eh b9) (Ym (iV c2) e0 ?_)))))))))
      obtain ⟨h0, c4, p⟩ := bs p
      refine yY (yIa SL_22 e0 e0 b rO2 c4) (yY (yI O_3 e0 b rO2 c4) ?_)
      obtain ⟨i4, c5, p⟩ := bs p
      refine yY (yIs SL_22 e0 e0 b rO1 c5) ?_
      replace b := b.pk 2 [1, 0] rfl
      refine YT wn rfl (r_sti (cs := [iV h0]) b O_3 rfl e0 e0 rfl mkI c5) ?_
      intro w b
      refine wN (g8 _ _ _ (g7 _ _ (wR (yY (yadd (eh I) rfl) (Ym (iV (wa .i64 A 1)) e0 (wN ?_))))))
      obtain rfl := someI p
      exact g2 _ _ _ rfl ⟨_, _, _, rfl, rfl, b8, a4, b9, c0, c1, rfl, (b.pk 4 [1, 0, 0, 0] rfl)⟩
     ·refine cF e0 a5 (wp_exit (g6 _ _ _ rfl ?_))
      obtain rfl := someI p
      exact g3 _ _ _ _ rfl rfl (f8 _ _ _ b8 a4 (b.pk 4 [0, 0] rfl) (g1 _ rfl))
    ·refine condT e0 (nT (bfalse Z)) (sR fun _ h1 => Ya hnil.v rfl (Ya (.bool false) rfl (wK h1 (wp_ret (f1 _ _ _ rfl (a7 _ _ _ rfl ?_))))))
     obtain rfl := someI c
     replace b := b.rowNh 3 I1
     exact J _ _ _ (fin2r Try.results32 ⟨rfl, rfl⟩ ⟨rfl, rfl⟩ ⟨_, rfl, ((b.pk 6 [0] rfl).facts (allT (allT (allT allI))))⟩)
   ·exact cF e0 X (wp_skip (b6 _ _ _ U b4 ((b.pk 8 [0, 0] rfl).facts (allT allI)) c))
  ·refine condT e0 (nT (bfalse V)) (sR fun _ h3 => Ya hnil.v rfl (Ya (.bool false) rfl (wK h3 (wp_ret (e3 _ _ _ rfl (a7 _ _ _ rfl ?_))))))
   obtain rfl := someI c
   replace b := b.rowNh 3 I1
   exact J _ _ _ (fin2r Try.results32 ⟨rfl, rfl⟩ ⟨rfl, rfl⟩ ⟨_, rfl, ((b.pk 9 [0] rfl).facts (allT allI))⟩)
 ·exact cF e0 L (wp_skip (a8 _ _ _ rfl rfl (b.pk 2 [1, 0] rfl) c))
theorem dissect_bisect_ok_n (n : Nat) : ∀ {w0 : World} {ros : List Fact} {rs : List Res} {w : World} {b : L2} {c : LI} {d : L2} {f g h : Hdr} {out : LI × Bool} (a : dissect_bisect n b c d = some out) (i : imm S1 f.v b ∈ ros) (j : imm I1 g.v c ∈ ros) (k : imm S1 h.v d ∈ ros) (l : St w0 ros rs w),
  Calls Try.prog 32 #[.agg #[f.v, g.v, h.v]] w (fun e w => ∃ (m : Hdr), e = .returned (.tuple #[m.v, .bool out.2]) ∧ St w0 ros (row 3 I1 m.v out.1 :: rs) w) := by
 induction n with
 | zero => intro _ _ _ _ _ _ _ _ _ _ out a; cases a
 | succ n ih => exact fun a i j k l => dissect_bisect_step (rec := dissect_bisect n) ih a i j k l
theorem dissect_bisect_ok {a : L2} {b : LI} {c : L2} {d f g : Hdr} {out : LI × Bool} (i : dissect_bisect FUEL a b c = some out) (j : imm S1 d.v a ∈ ros) (k : imm I1 f.v b ∈ ros) (l : imm S1 g.v c ∈ ros) (m : St w0 ros rs w) :
  Calls Try.prog 32 #[.agg #[d.v, f.v, g.v]] w (fun e w => ∃ (h : Hdr), e = .returned (.tuple #[h.v, .bool out.2]) ∧ St w0 ros (row 3 I1 h.v out.1 :: rs) w) := dissect_bisect_ok_n FUEL i j k l m
end Go.Proofs.Ythpeajepbffinaa
