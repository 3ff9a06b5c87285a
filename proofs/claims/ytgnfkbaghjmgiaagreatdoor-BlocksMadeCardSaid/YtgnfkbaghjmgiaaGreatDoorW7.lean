/- Walks: each function computes its model, printed. -/
import Derived.Test.YtgnfkbaghjmgiaaGreatDoorW6
namespace Go.Proofs.YtgnfkbaghjmgiaaGreatDoor
open Go Sx M
set_option maxRecDepth 100000
set_option maxHeartbeats 40000000
set_option linter.unusedVariables false
attribute [local irreducible] wpList Code.wp Calls DR QR QS LA LS St
variable {w0 : World} {ros : List Fact} {rs : List Res} {w : World}
theorem sparseref13_Chosen_ok {z : List Bool} {h : Bool} {g : Hdr} {out : LI} (i : sparseref13_Chosen z h = some out) (p : imm rB g.v z ∈ ros) (b : St w0 ros rs w) :
  Calls Tryz.prog 27 #[g.v, .bool h] w (fun e w => ∃ (A : Hdr), e = .returned (A.v) ∧ St w0 ros (row 3 I1 A.v out :: rs) w) := by
 refine enterQ Tryz.func27 rfl Tryz.ntmps27 rfl fun Q D => sR fun _ E => Ya hnil.v rfl (wK E (sR fun _ F => Ya hnil.v rfl (wK F (sQ fun _ G => sR fun _ H => ?_))))
 refine Ya (iV 0) rfl (wK H (blockQ fun I J => bE i fun K L i => ?_))
 have N : ∀ (q : LI) (j : Hdr) (f : FV) w, f 5 = j.v → St w0 ros (row 3 I1 j.v q :: rs) w → q = K → I (.exit 0) (fr 24 f) w := by
  intro q j f w O b ho
  subst ho
  refine J _ _ _ (G _ _ (sR fun _ R => Ym j.v (eh O) (Ya j.v e0 (wK R (wp_ret ?_)))))
  cases i
  exact D _ _ _ (fin1r Tryz.results27 ⟨rfl, rfl⟩ ⟨_, rfl, b⟩)
 replace b := b.rowNh 3 I1
 refine loopQ (fun s a w => ∃ (r : LI) (c : Int) (f : FV) (m : Hdr), (r, c) = s ∧ a = fr 24 f ∧ f 0 = g.v ∧ f 1 = .bool h ∧ f 5 = m.v ∧ f 6 = iV c ∧ St w0 ros (row 3 I1 m.v r :: rs) w) L ⟨_, _, _, _, rfl, rfl, rfl, rfl, rfl, rfl, b⟩ ?_
 rintro _ _ w S ⟨r, c, f, m, rfl, rfl, o, t, u, k, b⟩ d T b2 U V
 refine seqQ fun b3 W X => sR fun _ Z => Ym (iV c) (eh k) (Ym g.v (eh o) (yY (yLen SL_56 e0 b (rdI p)) (yY (ylss e0 e0) (wK Z ?_))))
 refine cIf e0 d (fun a0 d => ?_) fun a0 d => ?_
 ·refine wp_skip (W _ _ (sQ fun _ a1 => blockQ fun a2 a3 => sR fun _ a4 => Ym g.v (eh o) (Ym (iV c) (eh k) (bE d fun b4 B d => yY (yIa SL_56 e0 e0 b (rdI p) B) (yY (yB O_4 e0 b (rdI p) B) (Ym (.bool h) (eh t) (yY (yeqb (by kernel_rfl) e0 e0) (wN ?_))))))))
  refine a4 _ _ ?_
  have C : ∀ (x : LI) (y : Hdr) (f : FV) w, f 0 = g.v → f 1 = .bool h → f 5 = y.v → f 6 = iV c → St w0 ros (row 3 I1 y.v x :: rs) w → sparseref13_Chosen_j4 c x = some S → a2 .normal (fr 24 f) w := by
   intro x y f w a5 a6 a7 a8 b i
   refine a3 _ _ _ (a1 _ _ (wR (Ym (iV c) (eh a8) (yY (yadd e0 rfl) (Ya (iV (wa .i64 c 1)) e0 (wN ?_))))))
   cases i
   exact U _ _ _ rfl ⟨_, _, _, _, rfl, rfl, a5, a6, a7, rfl, b⟩
  refine cB e0 d (fun a9 d => ?_) fun a9 d => ?_
  ·exact wR (Ym m.v (eh u) (Ym (iV c) (eh k) (yH (rLt (n := 1) (l := [c]) b SL_22 [iV c] (bp1 e0) rfl rfl (mks1 (cs := [iV c]) rfl mkI mks0)) fun b5 w b => bE d fun b6 b0 d => yH (rAp (b.k11) SL_22 e0 e0 rO1 b0) fun b1 w b => Ya b1.v e0 (wN (C _ _ _ _ o t rfl k (b.k1f) d)))))
  ·exact wp_skip (C _ _ _ _ o t u k b d)
 ·refine wp_exit (X _ _ _ rfl ?_)
  cases d
  exact V _ _ _ _ rfl rfl (N _ _ _ _ u b (T _ rfl))
theorem sparseref15_Coarse_ok {x y : Int} {d4 d5 d6 : LI} {A B C : Hdr} {out : LI × LI × LI × LI × LI × LI × Int} (c : sparseref15_Coarse x y d4 d5 d6 = some out) (a5 : imm I1 A.v d4 ∈ ros) (a6 : imm I1 B.v d5 ∈ ros) (a7 : imm (rI .u64) C.v d6 ∈ ros) (b : St w0 ros rs w) :
  Calls Tryz.prog 14 #[.agg #[iV x, iV y, A.v, B.v, C.v]] w (fun e w => ∃ (d7 d8 d9 e1 e2 e3 : Hdr), e = .returned (.tuple #[.agg #[d7.v, d8.v, d9.v, e1.v, e2.v, e3.v], iV out.2.2.2.2.2.2]) ∧ St w0 ros (row 3 I1 d7.v out.1 :: row 3 I1 d8.v out.2.1 :: row 3 I1 d9.v out.2.2.1 :: row 3 I1 e1.v out.2.2.2.1 :: row 3 I1 e2.v out.2.2.2.2.1 :: row 3 I1 e3.v out.2.2.2.2.2.1 :: rs) w) := by
 refine enterQ Tryz.func14 rfl Tryz.ntmps14 rfl fun Q e4 => sR fun _ g4 => yBb (r_box (vals := [iV x, iV y, A.v, B.v, C.v]) b e0 rfl) fun z w b => yBb (rAl b ZT_31) fun m w b => Ya (iV 0) rfl (wK g4 (seqQ fun r4 g5 g6 => sR fun _ g7 => yY (lbs_ [iV x, iV y, A.v, B.v, C.v] ST_27 e0 b R1) ?_))
 refine bE c fun a8 g8 c => yC (yCall FN_40 (a1 e0)) (sparseref09_Check_ok g8 a5 a6 a7 b) ?_
 rintro _ w ⟨rfl, b⟩
 refine ⟨_, rfl, ?_⟩
 refine Ya (iV a8) e0 (wK g7 (sR fun _ g9 => Ym (iV a8) e0 (yY (yneq e0 rfl) (wK g9 ?_))))
 rcases iteS c with ⟨b4, c⟩ | ⟨b4, c⟩
 ·refine condF e0 (nF (dT b4)) (wp_skip (g5 _ _ (sR fun _ h0 => yY (lbs_ [iV x, iV y, A.v, B.v, C.v] ST_27 e0 b R1) (bE c fun D h1 c => yC (yCall FN_41 (a1 e0)) (sparseref09_Transpose_ok h1 a5 a6 a7 b) ?_))))
  rintro _ w ⟨X, Z, a0, rfl, b⟩
  refine ⟨_, rfl, ?_⟩
  refine Ym (.tuple #[.agg #[iV D.1, iV D.2.1, X.v, Z.v, a0.v], iV D.2.2.2.2.2]) e0 (yY (x_ (.agg #[iV D.1, iV D.2.1, X.v, Z.v, a0.v]) e0) (yY (x_ (iV D.2.2.2.2.2) e0) (yBb (rAl b ZT_27) fun r5 w b => yT (r_stbn (vals' := [iV D.1, iV D.2.1, X.v, Z.v, a0.v]) (us := [iV D.1, iV D.2.1, X.v, Z.v, a0.v]) b ST_27 e0 e0 rfl rfl (one_of rfl) rfl) fun w b => Ya (iV D.2.2.2.2.2) e0 (wK h0 (sR fun _ h2 => yY (lbs_ [iV x, iV y, A.v, B.v, C.v] ST_27 e0 b R5) (bE c fun r6 h3 c => ?_))))))
  refine yC (yCall FN_43 (a1 e0)) (sparseref13_Find_ok h3 a5 a6 a7 b) ?_
  rintro _ w ⟨r7, r8, r9, s0, rfl, b⟩
  refine ⟨_, rfl, ?_⟩
  refine bE c fun I h5 c => ?_
  replace b := b.k14
  refine yC (yCall FN_42 (a1 e0)) (sparseref13_Reach_ok h5 a5 a6 a7 b) ?_
  rintro _ w ⟨G, j, rfl, b⟩
  refine ⟨_, rfl, ?_⟩
  refine Ym (.tuple #[G.v, j.v]) e0 (yY (x_ G.v e0) (yY (x_ j.v e0) (Ya G.v e0 (Ya j.v e0 (wK h2 (sR fun _ h7 => yY (lbs_ [iV D.1, iV D.2.1, X.v, Z.v, a0.v] ST_27 e0 b R6) (bE c fun s1 h9 c => ?_)))))))
  replace b := (((((b.k22).fz).k22).fz).k22).fz
  refine yC (yCall FN_43 (a1 e0)) (sparseref13_Find_ok h9 F2 F1 F0 b) ?_
  rintro _ w ⟨s2, s3, s4, s5, rfl, b⟩
  refine ⟨_, rfl, ?_⟩
  refine bE c fun J i0 c => ?_
  replace b := b.k14
  refine yC (yCall FN_42 (a1 e0)) (sparseref13_Reach_ok i0 F2 F1 F0 b) ?_
  rintro _ w ⟨k, H, rfl, b⟩
  refine ⟨_, rfl, ?_⟩
  refine Ym (.tuple #[k.v, H.v]) e0 (yY (x_ k.v e0) (yY (x_ H.v e0) (Ya k.v e0 (Ya H.v e0 (wK h7 (sR fun _ i1 => Ym G.v e0 (bE c fun K i2 c => ?_)))))))
  replace b := (b.k38).fz
  refine yC (yCall FN_27 (a2 e0 rfl)) (sparseref13_Chosen_ok i2 F0 b) ?_
  rintro _ w ⟨d, rfl, b⟩
  refine ⟨_, rfl, ?_⟩
  refine Ym j.v e0 (bE c fun L i3 c => ?_)
  replace b := (b.k39).fz
  refine yC (yCall FN_27 (a2 e0 rfl)) (sparseref13_Chosen_ok i3 F0 b) ?_
  rintro _ w ⟨g, rfl, b⟩
  refine ⟨_, rfl, ?_⟩
  refine Ym H.v e0 (bE c fun N i4 c => ?_)
  replace b := (b.k22).fz
  refine yC (yCall FN_27 (a2 e0 rfl)) (sparseref13_Chosen_ok i4 F0 b) ?_
  rintro _ w ⟨h, rfl, b⟩
  refine ⟨_, rfl, ?_⟩
  refine Ym k.v e0 (bE c fun O i5 c => ?_)
  replace b := (b.k22).fz
  refine yC (yCall FN_27 (a2 e0 rfl)) (sparseref13_Chosen_ok i5 F0 b) ?_
  rintro _ w ⟨i, rfl, b⟩
  refine ⟨_, rfl, ?_⟩
  refine yY (ybuild (us := [d.v, g.v, hnil.v, hnil.v, h.v, i.v]) [(0, d.v), (1, g.v), (4, h.v), (5, i.v)] SO_31 (bp4 e0 e0 e0 e0) rfl) (yBb (rAl b ZT_31) fun o w b => yT (r_stbn (vals' := [d.v, g.v, hnil.v, hnil.v, h.v, i.v]) (us := [d.v, g.v, hnil.v, hnil.v, h.v, i.v]) b ST_31 e0 e0 rfl rfl (one_of rfl) rfl) fun w b => wK i1 (sQ fun _ i6 => sR fun _ i7 => Ya (iV 0) rfl (wK i7 (blockQ fun i8 i9 => ?_))))
  refine bE c fun j0 j1 c => ?_
  have j2 : ∀ (R : LI) (p : Hdr) (f : FV) w, f 1 = (pB z) → f 2 = (pB m) → f 8 = j.v → f 9 = k.v → f 11 = (pB o) → St w0 (imm rB j.v I.2 :: imm rB k.v J.1 :: ros) (box z 27 [iV x, iV y, A.v, B.v, C.v] :: box m 31 [hnil.v, hnil.v, hnil.v, hnil.v, hnil.v, hnil.v] :: row 3 I1 d.v K :: row 3 I1 g.v L :: row 3 I1 p.v R :: row 3 I1 h.v N :: row 3 I1 i.v O :: box o 31 [d.v, g.v, p.v, hnil.v, h.v, i.v] :: rs) w → R = j0 → i8 (.exit 0) (fr 95 f) w := by
   intro R p f w j3 j4 j5 j6 j7 b ho
   subst ho
   refine i9 _ _ _ (i6 _ _ (sQ fun _ j8 => sR fun _ j9 => Ya (iV 0) rfl (wK j9 (blockQ fun k0 l0 => bE c fun l1 l2 c => ?_))))
   have l3 : ∀ (b5 : LI) (U : Hdr) (f : FV) w, f 2 = (pB m) → f 11 = (pB o) → St w0 ros (box m 31 [hnil.v, hnil.v, hnil.v, hnil.v, hnil.v, hnil.v] :: row 3 I1 d.v K :: row 3 I1 g.v L :: row 3 I1 p.v R :: row 3 I1 U.v b5 :: row 3 I1 h.v N :: row 3 I1 i.v O :: box o 31 [d.v, g.v, p.v, U.v, h.v, i.v] :: rs) w → b5 = l1 → k0 (.exit 2) (fr 95 f) w := by
    intro b5 U f w e5 l4 b ho
    subst ho
    refine l0 _ _ _ (j8 _ _ (sR fun _ l5 => yY (lbs_ [d.v, g.v, p.v, U.v, h.v, i.v] ST_31 (eh l4) b R7) (yT (r_stbn (vals' := [d.v, g.v, p.v, U.v, h.v, i.v]) (us := [d.v, g.v, p.v, U.v, h.v, i.v]) b ST_31 (eh e5) e0 rfl rfl (one_of rfl) rfl) fun w b => Ya (iV 0) rfl (wK l5 (wp_ret ?_)))))
    cases c
    exact e4 _ _ _ (fin2r Tryz.results14 (rcs2 rfl e5 b R0 ST_31 rfl) ⟨rfl, rfl⟩ ⟨_, _, _, _, _, _, rfl, (b.k3a)⟩)
   replace b := b.rowNh 3 I1
   refine loopQ (fun s a w => ∃ (a9 : LI) (q : Int) (f : FV) (V : Hdr), (a9, q) = s ∧ a = fr 95 f ∧ f 1 = (pB z) ∧ f 2 = (pB m) ∧ f 8 = j.v ∧ f 9 = k.v ∧ f 11 = (pB o) ∧ f 13 = iV q ∧ St w0 (imm rB j.v I.2 :: imm rB k.v J.1 :: ros) (box z 27 [iV x, iV y, A.v, B.v, C.v] :: box m 31 [hnil.v, hnil.v, hnil.v, hnil.v, hnil.v, hnil.v] :: row 3 I1 d.v K :: row 3 I1 g.v L :: row 3 I1 p.v R :: row 3 I1 V.v a9 :: row 3 I1 h.v N :: row 3 I1 i.v O :: box o 31 [d.v, g.v, p.v, V.v, h.v, i.v] :: rs) w) l2 ⟨_, _, _, _, rfl, rfl, j3, j4, j5, j6, j7, rfl, (b.k3b)⟩ ?_
   rintro _ _ w l6 ⟨a9, q, f, V, rfl, rfl, b6, b7, b8, c0, c1, a3, b⟩ r l7 s6 l8 l9
   refine seqQ fun s7 m0 m1 => sR fun _ m2 => Ym (iV q) (eh a3) (yY (yFb FL_27_1 (eh b6)) (yY (lb_ (iV y) O_3 e0 b R0) (yY (ylss e0 e0) (wK m2 ?_))))
   refine cIf e0 r (fun m3 r => ?_) fun m3 r => ?_
   ·refine wp_skip (m0 _ _ (sQ fun _ m4 => blockQ fun m5 m6 => sR fun _ m7 => Ym j.v (eh b8) (Ym (iV q) (eh a3) (bE r fun m8 e6 r => yY (yIa SL_56 e0 e0 b (rdI F0) e6) (yY (yB O_4 e0 b (rdI F0) e6) (yY (ynot e0) (Ym (.bool (!m8)) e0 (bE r fun m9 S r => ?_))))))))
    refine joinW 6 (fun f w => f 1 = (pB z) ∧ f 2 = (pB m) ∧ f 8 = j.v ∧ f 9 = k.v ∧ f 11 = (pB o) ∧ f 13 = iV q ∧ f 87 = .bool m9 ∧ St w0 (imm rB j.v I.2 :: imm rB k.v J.1 :: ros) (box z 27 [iV x, iV y, A.v, B.v, C.v] :: box m 31 [hnil.v, hnil.v, hnil.v, hnil.v, hnil.v, hnil.v] :: row 3 I1 d.v K :: row 3 I1 g.v L :: row 3 I1 p.v R :: row 3 I1 V.v a9 :: row 3 I1 h.v N :: row 3 I1 i.v O :: box o 31 [d.v, g.v, p.v, V.v, h.v, i.v] :: rs) w) (fun e7 => ?_) ?_
    ·rcases iteS S with ⟨E, S⟩ | ⟨E, S⟩
     ·refine gN (nF E) (gN (nF E) (gN (nF E) (gN (nF E) (gN (nF E) (yY (pf_ (.bool false) e0 (nF E) rfl) ?_)))))
      cases S
      exact e7 _ _ ⟨b6, b7, b8, c0, c1, a3, rfl, b⟩
     ·refine yG (nT (bfalse E)) (m_ k.v (eh c0)) (yG (nT (bfalse E)) (m_ (iV q) (eh a3)) (bE S fun n0 e8 S => yG (nT (bfalse E)) (yIa SL_56 e0 e0 b (rdI F1) e8) (yG (nT (bfalse E)) (yB O_4 e0 b (rdI F1) e8) (yG (nT (bfalse E)) (ynot e0) (yY (pt_ (.bool (!n0)) e0 (nT (bfalse E)) e0) ?_)))))
      cases S
      exact e7 _ _ ⟨b6, b7, b8, c0, c1, a3, rfl, b⟩
    rintro f w ⟨e9, f0, f1, f2, b0, c2, n1, b⟩
    refine wK m7 ?_
    have f3 : ∀ (c3 : LI) (c4 : Hdr) (f : FV) w, f 1 = (pB z) → f 2 = (pB m) → f 8 = j.v → f 9 = k.v → f 11 = (pB o) → f 13 = iV q → St w0 (imm rB j.v I.2 :: imm rB k.v J.1 :: ros) (box z 27 [iV x, iV y, A.v, B.v, C.v] :: box m 31 [hnil.v, hnil.v, hnil.v, hnil.v, hnil.v, hnil.v] :: row 3 I1 d.v K :: row 3 I1 g.v L :: row 3 I1 p.v R :: row 3 I1 c4.v c3 :: row 3 I1 h.v N :: row 3 I1 i.v O :: box o 31 [d.v, g.v, p.v, c4.v, h.v, i.v] :: rs) w → sparseref15_Coarse_j12 q c3 = some l6 → m5 .normal (fr 95 f) w := by
     intro c3 c4 f w n2 n3 n4 n6 n7 n8 b c
     refine m6 _ _ _ (m4 _ _ (wR (Ym (iV q) (eh n8) (yY (yadd e0 rfl) (Ya (iV (wa .i64 q 1)) e0 (wN ?_))))))
     cases c
     exact l8 _ _ _ rfl ⟨_, _, _, _, rfl, rfl, n2, n3, n4, n6, n7, rfl, b⟩
    refine cB (eh n1) r (fun n9 r => ?_) fun n9 r => ?_
    ·exact wR (yY (yFb FL_31_3 (eh b0)) (yY (lb_ V.v O_22 e0 b R8) (Ym (iV q) (eh c2) (yH (rLt (n := 1) (l := [q]) b SL_22 [iV q] (bp1 e0) rfl rfl (mks1 (cs := [iV q]) rfl mkI mks0)) fun s8 w b => bE r fun s9 o0 r => yH (rAp (b.k1a) SL_22 e0 e0 rO1 o0) fun o1 w b => yY (yFb FL_31_3 (eh b0)) (yT (r_stb1 (vals' := [d.v, g.v, p.v, o1.v, h.v, i.v]) (b.k3c) O_22 e0 e0 rfl rfl rfl rfl) fun w b => wN (f3 _ _ _ _ e9 f0 f1 f2 b0 c2 (b.k3d) r))))))
    ·exact wp_skip (f3 _ _ _ _ e9 f0 f1 f2 b0 c2 b r)
   ·refine wp_exit (m1 _ _ _ rfl ?_)
    cases r
    exact l9 _ _ _ _ rfl rfl (l3 _ _ _ _ b7 c1 ((b.k3e).facts (allT (allT allI))) (l7 _ rfl))
  replace b := b.rowNh 3 I1
  refine loopQ (fun s a w => ∃ (b1 : LI) (t : Int) (f : FV) (W : Hdr), (b1, t) = s ∧ a = fr 95 f ∧ f 1 = (pB z) ∧ f 2 = (pB m) ∧ f 7 = G.v ∧ f 8 = j.v ∧ f 9 = k.v ∧ f 10 = H.v ∧ f 11 = (pB o) ∧ f 12 = iV t ∧ St w0 (imm rB G.v I.1 :: imm rB j.v I.2 :: imm rB k.v J.1 :: imm rB H.v J.2 :: ros) (box z 27 [iV x, iV y, A.v, B.v, C.v] :: box m 31 [hnil.v, hnil.v, hnil.v, hnil.v, hnil.v, hnil.v] :: row 3 I1 d.v K :: row 3 I1 g.v L :: row 3 I1 W.v b1 :: row 3 I1 h.v N :: row 3 I1 i.v O :: box o 31 [d.v, g.v, W.v, hnil.v, h.v, i.v] :: rs) w) j1 ⟨_, _, _, _, rfl, rfl, rfl, rfl, rfl, rfl, rfl, rfl, rfl, rfl, ((b.k3f).facts (allC F3 (allC F2 (allC F0 (allC F1 (allT (allT (allT (allT (allT (allT (allT allI))))))))))))⟩ ?_
  rintro _ _ w o2 ⟨b1, t, f, W, rfl, rfl, b2, c5, c6, c7, c8, c9, d0, a4, b⟩ u o3 t0 o4 o6
  refine seqQ fun t1 o7 o8 => sR fun _ o9 => Ym (iV t) (eh a4) (yY (yFb FL_27_0 (eh b2)) (yY (lb_ (iV x) O_3 e0 b R0) (yY (ylss e0 e0) (wK o9 ?_))))
  refine cIf e0 u (fun p0 u => ?_) fun p0 u => ?_
  ·refine wp_skip (o7 _ _ (sQ fun _ p1 => blockQ fun p2 p3 => sR fun _ p4 => Ym G.v (eh c6) (Ym (iV t) (eh a4) (bE u fun p5 f4 u => yY (yIa SL_56 e0 e0 b (rdI F0) f4) (yY (yB O_4 e0 b (rdI F0) f4) (yY (ynot e0) (Ym (.bool (!p5)) e0 (bE u fun p6 T u => ?_))))))))
   refine joinW 6 (fun f w => f 1 = (pB z) ∧ f 2 = (pB m) ∧ f 7 = G.v ∧ f 8 = j.v ∧ f 9 = k.v ∧ f 10 = H.v ∧ f 11 = (pB o) ∧ f 12 = iV t ∧ f 63 = .bool p6 ∧ St w0 (imm rB G.v I.1 :: imm rB j.v I.2 :: imm rB k.v J.1 :: imm rB H.v J.2 :: ros) (box z 27 [iV x, iV y, A.v, B.v, C.v] :: box m 31 [hnil.v, hnil.v, hnil.v, hnil.v, hnil.v, hnil.v] :: row 3 I1 d.v K :: row 3 I1 g.v L :: row 3 I1 W.v b1 :: row 3 I1 h.v N :: row 3 I1 i.v O :: box o 31 [d.v, g.v, W.v, hnil.v, h.v, i.v] :: rs) w) (fun f5 => ?_) ?_
   ·rcases iteS T with ⟨F, T⟩ | ⟨F, T⟩
    ·refine gN (nF F) (gN (nF F) (gN (nF F) (gN (nF F) (gN (nF F) (yY (pf_ (.bool false) e0 (nF F) rfl) ?_)))))
     cases T
     exact f5 _ _ ⟨b2, c5, c6, c7, c8, c9, d0, a4, rfl, b⟩
    ·refine yG (nT (bfalse F)) (m_ H.v (eh c9)) (yG (nT (bfalse F)) (m_ (iV t) (eh a4)) (bE T fun p7 f6 T => yG (nT (bfalse F)) (yIa SL_56 e0 e0 b (rdI F3) f6) (yG (nT (bfalse F)) (yB O_4 e0 b (rdI F3) f6) (yG (nT (bfalse F)) (ynot e0) (yY (pt_ (.bool (!p7)) e0 (nT (bfalse F)) e0) ?_)))))
     cases T
     exact f5 _ _ ⟨b2, c5, c6, c7, c8, c9, d0, a4, rfl, b⟩
   rintro f w ⟨f7, f8, f9, g0, g1, g2, b3, d1, p8, b⟩
   refine wK p4 ?_
   have g3 : ∀ (d2 : LI) (d3 : Hdr) (f : FV) w, f 1 = (pB z) → f 2 = (pB m) → f 7 = G.v → f 8 = j.v → f 9 = k.v → f 10 = H.v → f 11 = (pB o) → f 12 = iV t → St w0 (imm rB G.v I.1 :: imm rB j.v I.2 :: imm rB k.v J.1 :: imm rB H.v J.2 :: ros) (box z 27 [iV x, iV y, A.v, B.v, C.v] :: box m 31 [hnil.v, hnil.v, hnil.v, hnil.v, hnil.v, hnil.v] :: row 3 I1 d.v K :: row 3 I1 g.v L :: row 3 I1 d3.v d2 :: row 3 I1 h.v N :: row 3 I1 i.v O :: box o 31 [d.v, g.v, d3.v, hnil.v, h.v, i.v] :: rs) w → sparseref15_Coarse_j14 t d2 = some o2 → p2 .normal (fr 95 f) w := by
    intro d2 d3 f w p9 q0 q4 q5 q6 q7 q8 q9 b c
    refine p3 _ _ _ (p1 _ _ (wR (Ym (iV t) (eh q9) (yY (yadd e0 rfl) (Ya (iV (wa .i64 t 1)) e0 (wN ?_))))))
    cases c
    exact o4 _ _ _ rfl ⟨_, _, _, _, rfl, rfl, p9, q0, q4, q5, q6, q7, q8, rfl, b⟩
   refine cB (eh p8) u (fun r0 u => ?_) fun r0 u => ?_
   ·exact wR (yY (yFb FL_31_2 (eh b3)) (yY (lb_ W.v O_22 e0 b R7) (Ym (iV t) (eh d1) (yH (rLt (n := 1) (l := [t]) b SL_22 [iV t] (bp1 e0) rfl rfl (mks1 (cs := [iV t]) rfl mkI mks0)) fun t2 w b => bE u fun t3 r1 u => yH (rAp (b.k1k) SL_22 e0 e0 rO1 r1) fun r2 w b => yY (yFb FL_31_2 (eh b3)) (yT (r_stb1 (vals' := [d.v, g.v, r2.v, hnil.v, h.v, i.v]) (b.k2b) O_22 e0 e0 rfl rfl rfl rfl) fun w b => wN (g3 _ _ _ _ f7 f8 f9 g0 g1 g2 b3 d1 (b.k3g) u))))))
   ·exact wp_skip (g3 _ _ _ _ f7 f8 f9 g0 g1 g2 b3 d1 b u)
  ·refine wp_exit (o8 _ _ _ rfl ?_)
   cases u
   exact o6 _ _ _ _ rfl rfl (j2 _ _ _ _ b2 c5 c7 c8 d0 (b.facts (allC F1 (allC F2 (allT (allT (allT (allT allI))))))) (o3 _ rfl))
 ·refine condT e0 (nT (dF b4)) (sR fun _ r3 => yY (ybuild (us := [hnil.v, hnil.v, hnil.v, hnil.v, hnil.v, hnil.v]) [] SO_31 bp0 rfl) (Ym (iV a8) e0 (yT (r_stbn (vals' := [hnil.v, hnil.v, hnil.v, hnil.v, hnil.v, hnil.v]) (us := [hnil.v, hnil.v, hnil.v, hnil.v, hnil.v, hnil.v]) b ST_31 e0 e0 rfl rfl (one_of rfl) rfl) fun w b => Ya (iV a8) e0 (wK r3 (wp_ret (g6 _ _ _ rfl ?_))))))
  cases c
  replace b := (((((b.rowNh 3 I1).rowNh 3 I1).rowNh 3 I1).rowNh 3 I1).rowNh 3 I1).rowNh 3 I1
  exact e4 _ _ _ (fin2r Tryz.results14 (rcs2 rfl rfl b R6 ST_31 rfl) ⟨rfl, rfl⟩ ⟨_, _, _, _, _, _, rfl, (b.k3h)⟩)
theorem sparseref15_Perfect_ok {i j : Int} {p q r : LI} {k l m : Hdr} {out : LI × Bool} (h : sparseref15_Perfect i j p q r = some out) (F : imm I1 k.v p ∈ ros) (G : imm I1 l.v q ∈ ros) (H : imm (rI .u64) m.v r ∈ ros) (b : St w0 ros rs w) :
  Calls Tryz.prog 22 #[.agg #[iV i, iV j, k.v, l.v, m.v]] w (fun e w => ∃ (t : Hdr), e = .returned (.tuple #[t.v, .bool out.2]) ∧ St w0 ros (row 3 I1 t.v out.1 :: rs) w) := by
 refine enterQ Tryz.func22 rfl Tryz.ntmps22 rfl fun Q u => sR fun _ I => yBb (r_box (vals := [iV i, iV j, k.v, l.v, m.v]) b e0 rfl) fun b0 w b => Ya hnil.v rfl (Ya (.bool false) rfl (wK I (sR fun _ J => yY (lbs_ [iV i, iV j, k.v, l.v, m.v] ST_27 e0 b R0) (bE h fun x K h => yC (yCall FN_43 (a1 e0)) (sparseref13_Find_ok K F G H b) ?_))))
 rintro _ w ⟨b1, b2, d, b3, rfl, b⟩
 refine ⟨_, rfl, ?_⟩
 refine yY (yn e0) (yY (yFb FL_91_2 e0) (yY (lb_ d.v O_22 e0 b R3) (Ya d.v e0 (wK J (seqQ fun b4 L N => sR fun _ O => Ya (iV 0) rfl (wK O (blockQ fun y z => bE h fun A R h => ?_)))))))
 have S : ∀ (f : FV) w, f 4 = d.v → St w0 ros (row 3 I1 d.v x.2.1 :: rs) w → .inl () = A → y (.exit 0) (fr 23 f) w := by
  intro f w T b ho
  subst ho
  refine z _ _ _ (L _ _ (sR fun _ U => Ym d.v (eh T) (Ya d.v e0 (Ya (.bool true) rfl (wK U (wp_ret ?_))))))
  cases h
  exact u _ _ _ (fin2r Tryz.results22 ⟨rfl, rfl⟩ ⟨rfl, rfl⟩ ⟨_, rfl, b⟩)
 have V : ∀ (f : FV) w, f 2 = hnil.v → f 3 = .bool false → St w0 ros rs w → .inr () = A → y .ret (fr 23 f) w := by
  intro f w W X b ho
  subst ho
  refine z _ _ _ (N _ _ _ rfl ?_)
  cases h
  replace b := b.rowNh 3 I1
  exact u _ _ _ (fin2r Tryz.results22 ⟨rfl, W⟩ ⟨rfl, X⟩ ⟨_, rfl, b⟩)
 refine loopQ (fun s a w => ∃ (g : Int) (f : FV), g = s ∧ a = fr 23 f ∧ f 4 = d.v ∧ f 5 = iV g ∧ St w0 ros (row 3 I1 d.v x.2.1 :: rs) w) R ⟨_, _, rfl, rfl, rfl, rfl, (b.k3i)⟩ ?_
 rintro _ _ w b5 ⟨g, f, rfl, rfl, n, o, b⟩ c B b6 Z C
 refine seqQ fun b7 a0 a2 => sR fun _ a3 => Ym (iV g) (eh o) (Ym d.v (eh n) (yY (yLen SL_22 e0 b rO0) (yY (ylss e0 e0) (wK a3 ?_))))
 refine cIf e0 c (fun a4 c => ?_) fun a4 c => ?_
 ·refine wp_skip (a0 _ _ (seqQ fun b8 a5 a6 => blockQ fun _ D => sR fun _ a7 => Ym d.v (eh n) (Ym (iV g) (eh o) (bE c fun c0 E c => yY (yIa SL_22 e0 e0 b rO0 E) (yY (yI O_3 e0 b rO0 E) (yY (ylss e0 rfl) (wK a7 ?_)))))))
  refine cIf e0 c (fun a8 c => ?_) fun a8 c => ?_
  ·refine sR fun _ a9 => Ya hnil.v rfl (Ya (.bool false) rfl (wK a9 (wp_ret (D _ _ _ (a6 _ _ _ rfl ?_)))))
   cases c
   exact C _ _ _ _ rfl rfl (V _ _ rfl rfl (b.k10) (B _ rfl))
  ·refine wp_skip (D _ _ _ (a5 _ _ (wR (Ym (iV g) (eh o) (yY (yadd e0 rfl) (Ya (iV (wa .i64 g 1)) e0 (wN ?_)))))))
   cases c
   exact Z _ _ _ rfl ⟨_, _, rfl, rfl, n, rfl, b⟩
 ·refine wp_exit (a2 _ _ _ rfl ?_)
  cases c
  exact C _ _ _ _ rfl rfl (S _ _ n b (B _ rfl))
theorem sparseref09_Stored_ok {g k : Int} {C D E : LI} {c d : Int} {m o q : Hdr} {out : Bool} (l : sparseref09_Stored g k C D E c d = some out) (t : imm I1 m.v C ∈ ros) (F : imm I1 o.v D ∈ ros) (d2 : imm (rI .u64) q.v E ∈ ros) (b : St w0 ros rs w) :
  Calls Tryz.prog 26 #[.agg #[iV g, iV k, m.v, o.v, q.v], iV c, iV d] w (fun e w => e = .returned (.bool out) ∧ St w0 ros rs w) := by
 refine enterQ Tryz.func26 rfl Tryz.ntmps26 rfl fun Q u => sR fun _ a3 => yBb (r_box (vals := [iV g, iV k, m.v, o.v, q.v]) b e0 rfl) fun p w b => Ya (.bool false) rfl (wK a3 (seqQ fun d3 a4 a5 => sR fun _ a6 => Ym (iV c) e0 (yY (ylss e0 rfl) (Ym (.bool (decide (c < 0))) e0 ?_))))
 refine joinW 5 (fun f w => f 1 = iV c ∧ f 2 = iV d ∧ f 3 = (pB p) ∧ f 15 = .bool ((decide (c < 0)) || (decide (g ≤ c))) ∧ St w0 ros (box p 27 [iV g, iV k, m.v, o.v, q.v] :: rs) w) (fun G => ?_) ?_
 ·rcases Bool.eq_false_or_eq_true (decide (c < 0)) with h | h
  ·exact gN h (gN h (gN h (gN h (yY (pt_ (.bool true) e0 h rfl) (G _ _ ⟨rfl, rfl, rfl, (congrArg Value.bool (orT h)), b⟩)))))
  ·exact yG h (m_ (iV c) e0) (yG h (yFb FL_27_0 e0) (yG h (lb_ (iV g) O_3 e0 b R0) (yG h (ygeq e0 e0) (yY (pf_ (.bool (decide (g ≤ c))) e0 h e0) (G _ _ ⟨rfl, rfl, rfl, (congrArg Value.bool (orF h)), b⟩)))))
 rintro f w ⟨H, x, I, a7, b⟩
 refine Ym (.bool ((decide (c < 0)) || (decide (g ≤ c)))) (eh a7) ?_
 refine joinW 3 (fun f w => f 1 = iV c ∧ f 2 = iV d ∧ f 3 = (pB p) ∧ f 19 = .bool (((decide (c < 0)) || (decide (g ≤ c))) || (decide (d < 0))) ∧ St w0 ros (box p 27 [iV g, iV k, m.v, o.v, q.v] :: rs) w) (fun J => ?_) ?_
 ·rcases Bool.eq_false_or_eq_true ((decide (c < 0)) || (decide (g ≤ c))) with n | n
  ·exact gN n (gN n (yY (pt_ (.bool true) e0 n rfl) (J _ _ ⟨H, x, I, (congrArg Value.bool (orT n)), b⟩)))
  ·exact yG n (m_ (iV d) (eh x)) (yG n (ylss e0 rfl) (yY (pf_ (.bool (decide (d < 0))) e0 n e0) (J _ _ ⟨H, x, I, (congrArg Value.bool (orF n)), b⟩)))
 rintro f w ⟨K, y, z, a8, b⟩
 refine Ym (.bool (((decide (c < 0)) || (decide (g ≤ c))) || (decide (d < 0)))) (eh a8) ?_
 refine joinW 5 (fun f w => f 1 = iV c ∧ f 2 = iV d ∧ f 3 = (pB p) ∧ f 25 = .bool ((((decide (c < 0)) || (decide (g ≤ c))) || (decide (d < 0))) || (decide (k ≤ d))) ∧ St w0 ros (box p 27 [iV g, iV k, m.v, o.v, q.v] :: rs) w) (fun L => ?_) ?_
 ·rcases Bool.eq_false_or_eq_true (((decide (c < 0)) || (decide (g ≤ c))) || (decide (d < 0))) with i | i
  ·exact gN i (gN i (gN i (gN i (yY (pt_ (.bool true) e0 i rfl) (L _ _ ⟨K, y, z, (congrArg Value.bool (orT i)), b⟩)))))
  ·exact yG i (m_ (iV d) (eh y)) (yG i (yFb FL_27_1 (eh z)) (yG i (lb_ (iV k) O_3 e0 b R0) (yG i (ygeq e0 e0) (yY (pf_ (.bool (decide (k ≤ d))) e0 i e0) (L _ _ ⟨K, y, z, (congrArg Value.bool (orF i)), b⟩)))))
 rintro f w ⟨a9, N, O, b0, b⟩
 refine wK a6 (cB (eh b0) l (fun b1 l => ?_) fun b1 l => ?_)
 ·refine sR fun _ b2 => Ya (.bool false) rfl (wK b2 (wp_ret (a5 _ _ _ rfl ?_)))
  cases l
  exact u _ _ _ (fin1r Tryz.results26 ⟨rfl, rfl⟩ ⟨rfl, (b.k10)⟩)
 ·refine wp_skip (a4 _ _ (seqQ fun d4 b3 b4 => sR fun _ b5 => yY (yFb FL_27_2 (eh O)) (yY (lb_ m.v O_22 e0 b R0) (Ym (iV d) (eh N) (bE l fun b6 R l => yY (yIa SL_22 e0 e0 b (rdI t) R) (yY (yI O_3 e0 b (rdI t) R) (Ya (iV b6) e0 (wK b5 ?_))))))))
  refine blockQ fun S T => bE l fun U b7 l => ?_
  have b8 : ∀ (f : FV) w, St w0 ros rs w → .inl () = U → S (.exit 0) (fr 48 f) w := by
   intro f w b ho
   subst ho
   refine T _ _ _ (b3 _ _ (sR fun _ b9 => Ya (.bool false) rfl (wK b9 (wp_ret ?_))))
   cases l
   exact u _ _ _ (fin1r Tryz.results26 ⟨rfl, rfl⟩ ⟨rfl, b⟩)
  have c0 : ∀ (f : FV) w, f 6 = .bool true → St w0 ros rs w → .inr () = U → S .ret (fr 48 f) w := by
   intro f w c1 b ho
   subst ho
   refine T _ _ _ (b4 _ _ _ rfl ?_)
   cases l
   exact u _ _ _ (fin1r Tryz.results26 ⟨rfl, c1⟩ ⟨rfl, b⟩)
  refine loopQ (fun s a w => ∃ (r : Int) (f : FV), r = s ∧ a = fr 48 f ∧ f 1 = iV c ∧ f 2 = iV d ∧ f 3 = (pB p) ∧ f 7 = iV r ∧ St w0 ros (box p 27 [iV g, iV k, m.v, o.v, q.v] :: rs) w) b7 ⟨_, _, rfl, rfl, a9, N, O, rfl, b⟩ ?_
  rintro _ _ w d5 ⟨r, f, rfl, rfl, V, W, A, B, b⟩ j X d6 c2 Z
  refine seqQ fun d7 c3 c4 => sR fun _ c5 => Ym (iV r) (eh B) (yY (yFb FL_27_2 (eh A)) (yY (lb_ m.v O_22 e0 b R0) (Ym (iV d) (eh W) (yY (yadd e0 rfl) (bE j fun d8 a0 j => yY (yIa SL_22 e0 e0 b (rdI t) a0) (yY (yI O_3 e0 b (rdI t) a0) (yY (ylss e0 e0) (wK c5 ?_))))))))
  refine cIf e0 j (fun c6 j => ?_) fun c6 j => ?_
  ·refine wp_skip (c3 _ _ (seqQ fun d9 c7 c8 => blockQ fun _ a1 => sR fun _ c9 => yY (yFb FL_27_3 (eh A)) (yY (lb_ o.v O_22 e0 b R0) (Ym (iV r) (eh B) (bE j fun e1 a2 j => yY (yIa SL_22 e0 e0 b (rdI F) a2) (yY (yI O_3 e0 b (rdI F) a2) (Ym (iV c) (eh V) (yY (yeql e0 e0) ?_))))))))
   refine wK c9 ?_
   refine cIf e0 j (fun d0 j => ?_) fun d0 j => ?_
   ·refine sR fun _ d1 => Ya (.bool true) rfl (wK d1 (wp_ret (a1 _ _ _ (c8 _ _ _ rfl ?_))))
    cases j
    exact Z _ _ _ _ rfl rfl (c0 _ _ rfl (b.k10) (X _ rfl))
   ·refine wp_skip (a1 _ _ _ (c7 _ _ (wR (Ym (iV r) (eh B) (yY (yadd e0 rfl) (Ya (iV (wa .i64 r 1)) e0 (wN ?_)))))))
    cases j
    exact c2 _ _ _ rfl ⟨_, _, rfl, rfl, V, W, A, rfl, b⟩
  ·refine wp_exit (c4 _ _ _ rfl ?_)
   cases j
   exact Z _ _ _ _ rfl rfl (b8 _ _ (b.k10) (X _ rfl))
theorem sparseref15_Arcs_ok {N g : Int} {d2 d3 d4 d5 : LI} {O R S U : Hdr} {out : (List (List Bool))} (a7 : sparseref15_Arcs N g d2 d3 d4 d5 = some out) (f7 : imm I1 O.v d2 ∈ ros) (f8 : imm I1 R.v d3 ∈ ros) (f9 : imm (rI .u64) S.v d4 ∈ ros) (d6 : imm I1 U.v d5 ∈ ros) (b : St w0 ros rs w) :
  Calls Tryz.prog 50 #[.agg #[iV N, iV g, O.v, R.v, S.v], U.v] w (fun e w => ∃ (d7 : Hdr) (d8 : List Hdr), e = .returned (d7.v) ∧ St w0 ros (row 56 rH d7.v d8 :: fam 4 rB d8 out :: rs) w) := by
 refine enterQ Tryz.func50 rfl Tryz.ntmps50 rfl fun Q g0 => sR fun _ g1 => yBb (r_box (vals := [iV N, iV g, O.v, R.v, S.v]) b e0 rfl) fun T w b => Ya hnil.v rfl (wK g1 (sR fun _ g2 => yY (yFb FL_27_1 e0) (yY (lb_ (iV g) O_3 e0 b R0) (Ya (iV g) e0 (wN ?_)))))
 refine g2 _ _ (sR fun _ g3 => Ya hnil.v rfl (wK g3 (sQ fun _ g4 => sR fun _ g5 => Ya (iV 0) rfl (wK g5 (blockQ fun g6 g7 => bE a7 fun g8 g9 a7 => ?_)))))
 have h0 : ∀ (b8 : List (List Bool)) (d : Hdr) (h : List Hdr) (f : FV) w, f 5 = iV g → f 6 = d.v → St w0 ros (row 56 rH d.v h :: fam 4 rB h b8 :: rs) w → b8 = g8 → g6 (.exit 0) (fr 93 f) w := by
  intro b8 d h f w h1 h2 b ho
  subst ho
  refine g7 _ _ _ (g4 _ _ (sQ fun _ h3 => sR fun _ h5 => Ya (iV 0) rfl (wK h5 (blockQ fun h7 h9 => bE a7 fun i0 i1 a7 => ?_))))
  have i2 : ∀ (b9 : List (List Bool)) (f : FV) w, f 6 = d.v → St w0 ros (row 56 rH d.v h :: fam 4 rB h b9 :: rs) w → b9 = i0 → h7 (.exit 4) (fr 93 f) w := by
   intro b9 f w i3 b ho
   subst ho
   refine h9 _ _ _ (h3 _ _ (sR fun _ i4 => Ym d.v (eh i3) (Ya d.v e0 (wK i4 (wp_ret ?_)))))
   cases a7
   exact g0 _ _ _ (fin1r Tryz.results50 ⟨rfl, rfl⟩ ⟨_, _, rfl, b⟩)
  refine loopQ (fun s a w => ∃ (c0 : List (List Bool)) (r : Int) (f : FV), (c0, r) = s ∧ a = fr 93 f ∧ f 5 = iV g ∧ f 6 = d.v ∧ f 10 = iV r ∧ St w0 ros (row 56 rH d.v h :: fam 4 rB h c0 :: rs) w) i1 ⟨_, _, _, rfl, rfl, h1, h2, rfl, b⟩ ?_
  rintro _ _ w t8 ⟨c0, r, f, rfl, rfl, d9, e1, e2, b⟩ V i5 t9 i6 i7
  refine seqQ fun u0 i8 i9 => sR fun _ j0 => Ym (iV r) (eh e2) (Ym (iV g) (eh d9) (yY (ylss e0 e0) (wK j0 ?_)))
  refine cIf e0 V (fun j1 V => ?_) fun j1 V => ?_
  ·refine wp_skip (i8 _ _ (sQ fun _ j2 => blockQ fun _ j3 => sR fun _ j4 => Ya (iV 0) rfl (wK j4 (blockQ fun j5 j6 => bE V fun j7 j8 V => ?_))))
   have j9 : ∀ (c1 : List (List Bool)) (f : FV) w, f 5 = iV g → f 6 = d.v → f 10 = iV r → St w0 ros (row 56 rH d.v h :: fam 4 rB h c1 :: rs) w → c1 = j7 → j5 (.exit 6) (fr 93 f) w := by
    intro c1 f w k0 k6 k7 b ho
    subst ho
    refine j6 _ _ _ (j3 _ _ _ (j2 _ _ (wR (Ym (iV r) (eh k7) (yY (yadd e0 rfl) (Ya (iV (wa .i64 r 1)) e0 (wN ?_)))))))
    cases V
    exact i6 _ _ _ rfl ⟨_, _, _, rfl, rfl, k0, k6, rfl, b⟩
   refine loopQ (fun s a w => ∃ (c2 : List (List Bool)) (i : Int) (f : FV), (c2, i) = s ∧ a = fr 93 f ∧ f 5 = iV g ∧ f 6 = d.v ∧ f 10 = iV r ∧ f 11 = iV i ∧ St w0 ros (row 56 rH d.v h :: fam 4 rB h c2 :: rs) w) j8 ⟨_, _, _, rfl, rfl, d9, e1, e2, rfl, b⟩ ?_
   rintro _ _ w u1 ⟨c2, i, f, rfl, rfl, c3, e3, e4, e5, b⟩ W k8 u2 k9 l0
   refine seqQ fun u3 l1 l2 => sR fun _ l3 => Ym (iV i) (eh e5) (Ym (iV g) (eh c3) (yY (ylss e0 e0) (wK l3 ?_)))
   refine cIf e0 W (fun l4 W => ?_) fun l4 W => ?_
   ·refine wp_skip (l1 _ _ (sQ fun _ l5 => blockQ fun _ l6 => sR fun _ l7 => Ya (iV 0) rfl (wK l7 (blockQ fun l8 l9 => bE W fun m0 m1 W => ?_))))
    have m2 : ∀ (c4 : List (List Bool)) (f : FV) w, f 5 = iV g → f 6 = d.v → f 10 = iV r → f 11 = iV i → St w0 ros (row 56 rH d.v h :: fam 4 rB h c4 :: rs) w → c4 = m0 → l8 (.exit 8) (fr 93 f) w := by
     intro c4 f w m3 m4 m5 m6 b ho
     subst ho
     refine l9 _ _ _ (l6 _ _ _ (l5 _ _ (wR (Ym (iV i) (eh m6) (yY (yadd e0 rfl) (Ya (iV (wa .i64 i 1)) e0 (wN ?_)))))))
     cases W
     exact k9 _ _ _ rfl ⟨_, _, _, rfl, rfl, m3, m4, m5, rfl, b⟩
    refine loopQ (fun s a w => ∃ (c5 : List (List Bool)) (t : Int) (f : FV), (c5, t) = s ∧ a = fr 93 f ∧ f 5 = iV g ∧ f 6 = d.v ∧ f 10 = iV r ∧ f 11 = iV i ∧ f 12 = iV t ∧ St w0 ros (row 56 rH d.v h :: fam 4 rB h c5 :: rs) w) m1 ⟨_, _, _, rfl, rfl, c3, e3, e4, e5, rfl, b⟩ ?_
    rintro _ _ w u4 ⟨c5, t, f, rfl, rfl, a8, y, X, z, A, b⟩ j m7 u5 m8 m9
    refine seqQ fun u6 n0 n1 => sR fun _ n2 => Ym (iV t) (eh A) (Ym (iV g) (eh a8) (yY (ylss e0 e0) (wK n2 ?_)))
    refine cIf e0 j (fun n3 j => ?_) fun n3 j => ?_
    ·refine wp_skip (n0 _ _ (sQ fun _ n4 => blockQ fun _ n5 => bE j fun u7 F j => bE j fun u8 G j => bE j fun c6 a0 j => bE j fun a1 B j => bE j fun u9 a2 j => bE j fun n6 c7 j => ?_))
     refine joinN (n := 93) (fun f w => f 5 = iV g ∧ f 6 = d.v ∧ f 10 = iV r ∧ f 11 = iV i ∧ f 12 = iV t ∧ St w0 ros (row 56 rH d.v h :: fam 4 rB h n6 :: rs) w) (fun c8 => ?_) ?_
     ·rcases iteS B with ⟨c, B⟩ | ⟨c, B⟩
      ·have n7 := someI B
       refine dR [0, 0, 3, 7, 0, 0, 0, 96, 224, 0, 992, 2016, 4064, 8160, 8160, 32736, 65504, 8160, 262112, 524256, 1048544, 2097120, 2097120, 8388576, 16777184, 2097120, 67108832, 134217696, 268435424, 536870880, 1073741823, 2147483647] [31] 1 folM ?_
       replace b := b.drew
       refine Dn [0, 1, 2, 3, 4, 5, 6, 7, 8, 9, 10, 11, 12, 13, 14, 15, 16, 17, 18, 19, 20, 21, 22, 23, 24, 25, 26, 27, 28, 29, 30] [] [31] (yR rfl (m_ d.v (eh y)) (yR rfl (m_ (iV i) (eh z)) ?_))
       obtain ⟨e6, k⟩ := b.famI R1 F
       refine yR rfl (yIa SLH_84 e0 e0 b rO0 k) (yR rfl (yF1 O_56 e0 b rO0 k rfl) (yR rfl (m_ (iV t) (eh A)) (yR rfl (m_ d.v (eh y)) (yR rfl (m_ (iV i) (eh z)) ?_))))
       obtain ⟨e7, u⟩ := b.famI R1 G
       refine yR rfl (yIa SLH_84 e0 e0 b rO0 u) (yR rfl (yF1 O_56 e0 b rO0 u rfl) (yR rfl (m_ (iV t) (eh A)) (yR rfl (yIa SL_56 e0 e0 b (rdF R1 u G) a0) (yR rfl (yB O_4 e0 b (rdF R1 u G) a0) (yR rfl (m_ (.bool c6) e0) (Rx rfl rfl (wX c) (Rx rfl rfl (wX c) (Rx rfl rfl (wX c) (Rx rfl rfl (wX c) (Rx rfl rfl (wX c) (Rx rfl rfl (wX c) (Rx rfl rfl (wX c) (Rx rfl rfl (wX c) ?_)))))))))))))
       refine Rx rfl rfl (wxu rfl rfl rfl) (Rx rfl rfl (wxu rfl rfl rfl) (Rx rfl rfl (wxu rfl rfl rfl) (Rx rfl rfl (wxu rfl rfl rfl) (Rx rfl rfl (wxu rfl rfl rfl) (Rx rfl rfl (wxu rfl rfl rfl) (Rx rfl rfl (wxu rfl rfl rfl) (Rx rfl rfl (wX c) (yR rfl (pt_ (.bool a1) e0 c (eqv n7 rfl)) (yR rfl (yIs SL_56 e0 e0 b (rdF R1 k F) a2) (Rn QSn ?_))))))))))
       refine Lc1 rfl ?_
       replace b := b.k11
       refine LT wn (r_sti (cs := [.bool a1]) (b.foc k F) O_4 rfl e0 e0 rfl mkB a2) fun w b => ?_
       replace b := b.unfoc' k c7
       exact Dz [] [] (Rn QSn (c8 _ _ ⟨a8, y, X, z, A, (b.k11)⟩))
      ·refine bE B fun v0 a4 B => bE B fun e8 a9 B => bE B fun e9 H B => ?_
       have f0 := someI B
       rcases iteS H with ⟨m, H⟩ | ⟨m, H⟩
       ·refine bE H fun v1 c9 H => bE H fun v2 f1 H => ?_
        have n8 := someI H
        refine dR [0, 0, 3, 7, 0, 0, 0, 96, 224, 0, 992, 2016, 4064, 8160, 8160, 32736, 65504, 8160, 262112, 524256, 1048544, 2097120, 2097120, 8388576, 16777184, 2097120, 67108832, 134217696, 268435424, 536870880, 1073741823, 2147483647] [31] 1 folM ?_
        replace b := b.drew
        refine Dn [0, 1, 2, 3, 4, 5, 6, 7, 8, 9, 10, 11, 12, 13, 14, 15, 16, 17, 18, 19, 20, 21, 22, 23, 24, 25, 26, 27, 28, 29, 30] [] [31] (yR rfl (m_ d.v (eh y)) (yR rfl (m_ (iV i) (eh z)) ?_))
        obtain ⟨e6, k⟩ := b.famI R1 F
        refine yR rfl (yIa SLH_84 e0 e0 b rO0 k) (yR rfl (yF1 O_56 e0 b rO0 k rfl) (yR rfl (m_ (iV t) (eh A)) (yR rfl (m_ d.v (eh y)) (yR rfl (m_ (iV i) (eh z)) ?_))))
        obtain ⟨e7, u⟩ := b.famI R1 G
        refine yR rfl (yIa SLH_84 e0 e0 b rO0 u) (yR rfl (yF1 O_56 e0 b rO0 u rfl) (yR rfl (m_ (iV t) (eh A)) (yR rfl (yIa SL_56 e0 e0 b (rdF R1 u G) a0) (yR rfl (yB O_4 e0 b (rdF R1 u G) a0) (yR rfl (m_ (.bool c6) e0) (Ry rfl rfl (wG (bfalse c)) (m_ d.v (eh y)) (Ry rfl rfl (wG (bfalse c)) (m_ (iV i) (eh z)) ?_)))))))
        obtain ⟨n9, I⟩ := b.famI R1 a4
        refine Ry rfl rfl (wG (bfalse c)) (yIa SLH_84 e0 e0 b rO0 I) (Ry rfl rfl (wG (bfalse c)) (yF1 O_56 e0 b rO0 I rfl) (Ry rfl rfl (wG (bfalse c)) (m_ (iV r) (eh X)) (Ry rfl rfl (wG (bfalse c)) (yIa SL_56 e0 e0 b (rdF R1 I a4) a9) (Ry rfl rfl (wG (bfalse c)) (yB O_4 e0 b (rdF R1 I a4) a9) (Ry rfl rfl (wG (bfalse c)) (m_ (.bool e8) e0) (Ry rfl rfl (wG m) (m_ d.v (eh y)) (Ry rfl rfl (wG m) (m_ (iV r) (eh X)) ?_)))))))
        obtain ⟨v3, b0⟩ := b.famI R1 c9
        refine Ry rfl rfl (wG m) (yIa SLH_84 e0 e0 b rO0 b0) (Ry rfl rfl (wG m) (yF1 O_56 e0 b rO0 b0 rfl) (Ry rfl rfl (wG m) (m_ (iV t) (eh A)) (Ry rfl rfl (wG m) (yIa SL_56 e0 e0 b (rdF R1 b0 c9) f1) (Ry rfl rfl (wG m) (yB O_4 e0 b (rdF R1 b0 c9) f1) (Ry rfl rfl (wG (bfalse c)) (pt_ (.bool e9) e0 m (eqv n8 e0)) (yR rfl (pf_ (.bool a1) e0 (bfalse c) (eqv f0 e0)) (yR rfl (yIs SL_56 e0 e0 b (rdF R1 k F) a2) (Rn QSn ?_))))))))
        refine Lc1 rfl ?_
        replace b := b.k11
        refine LT wn (r_sti (cs := [.bool a1]) (b.foc k F) O_4 rfl e0 e0 rfl mkB a2) fun w b => ?_
        replace b := b.unfoc' k c7
        exact Dz [] [] (Rn QSn (c8 _ _ ⟨a8, y, X, z, A, (b.k11)⟩))
       ·have o0 := someI H
        refine dR [0, 0, 3, 7, 0, 0, 0, 96, 224, 0, 992, 2016, 4064, 8160, 8160, 32736, 65504, 8160, 262112, 524256, 1048544, 2097120, 2097120, 8388576, 16777184, 2097120, 67108832, 134217696, 268435424, 536870880, 1073741823, 2147483647] [31] 1 folM ?_
        replace b := b.drew
        refine Dn [0, 1, 2, 3, 4, 5, 6, 7, 8, 9, 10, 11, 12, 13, 14, 15, 16, 17, 18, 19, 20, 21, 22, 23, 24, 25, 26, 27, 28, 29, 30] [] [31] (yR rfl (m_ d.v (eh y)) (yR rfl (m_ (iV i) (eh z)) ?_))
        obtain ⟨e6, k⟩ := b.famI R1 F
        refine yR rfl (yIa SLH_84 e0 e0 b rO0 k) (yR rfl (yF1 O_56 e0 b rO0 k rfl) (yR rfl (m_ (iV t) (eh A)) (yR rfl (m_ d.v (eh y)) (yR rfl (m_ (iV i) (eh z)) ?_))))
        obtain ⟨e7, u⟩ := b.famI R1 G
        refine yR rfl (yIa SLH_84 e0 e0 b rO0 u) (yR rfl (yF1 O_56 e0 b rO0 u rfl) (yR rfl (m_ (iV t) (eh A)) (yR rfl (yIa SL_56 e0 e0 b (rdF R1 u G) a0) (yR rfl (yB O_4 e0 b (rdF R1 u G) a0) (yR rfl (m_ (.bool c6) e0) (Ry rfl rfl (wG (bfalse c)) (m_ d.v (eh y)) (Ry rfl rfl (wG (bfalse c)) (m_ (iV i) (eh z)) ?_)))))))
        obtain ⟨n9, I⟩ := b.famI R1 a4
        refine Ry rfl rfl (wG (bfalse c)) (yIa SLH_84 e0 e0 b rO0 I) (Ry rfl rfl (wG (bfalse c)) (yF1 O_56 e0 b rO0 I rfl) (Ry rfl rfl (wG (bfalse c)) (m_ (iV r) (eh X)) (Ry rfl rfl (wG (bfalse c)) (yIa SL_56 e0 e0 b (rdF R1 I a4) a9) (Ry rfl rfl (wG (bfalse c)) (yB O_4 e0 b (rdF R1 I a4) a9) (Ry rfl rfl (wG (bfalse c)) (m_ (.bool e8) e0) (Rx rfl rfl (wX (bfalse m)) (Rx rfl rfl (wX (bfalse m)) (Rx rfl rfl (wX (bfalse m)) (Rx rfl rfl (wX (bfalse m)) (Rx rfl rfl (wX (bfalse m)) (Rx rfl rfl (wX (bfalse m)) (Rx rfl rfl (wX (bfalse m)) (Ry rfl rfl (wG (bfalse c)) (pf_ (.bool e9) e0 (bfalse m) (eqv o0 rfl)) ?_)))))))))))))
        refine yR rfl (pf_ (.bool a1) e0 (bfalse c) (eqv f0 e0)) (yR rfl (yIs SL_56 e0 e0 b (rdF R1 k F) a2) (Rn QSn ?_))
        refine Lc1 rfl ?_
        replace b := b.k11
        refine LT wn (r_sti (cs := [.bool a1]) (b.foc k F) O_4 rfl e0 e0 rfl mkB a2) fun w b => ?_
        replace b := b.unfoc' k c7
        exact Dz [] [] (Rn QSn (c8 _ _ ⟨a8, y, X, z, A, (b.k11)⟩))
     rintro f w ⟨o1, o2, o3, o4, o5, b⟩
     refine n5 _ _ _ (n4 _ _ (wR (Ym (iV t) (eh o5) (yY (yadd e0 rfl) (Ya (iV (wa .i64 t 1)) e0 (wN ?_))))))
     cases j
     exact m8 _ _ _ rfl ⟨_, _, _, rfl, rfl, o1, o2, o3, o4, rfl, b⟩
    ·refine wp_exit (n1 _ _ _ rfl ?_)
     cases j
     exact m9 _ _ _ _ rfl rfl (m2 _ _ _ a8 y X z b (m7 _ rfl))
   ·refine wp_exit (l2 _ _ _ rfl ?_)
    cases W
    exact l0 _ _ _ _ rfl rfl (j9 _ _ _ c3 e3 e4 b (k8 _ rfl))
  ·refine wp_exit (i9 _ _ _ rfl ?_)
   cases V
   exact i7 _ _ _ _ rfl rfl (i2 _ _ _ e1 b (i5 _ rfl))
 replace b := ((b.rowNh 56 rH).fNew 4 rB).k11
 refine loopQ (fun s a w => ∃ (a5 : List (List Bool)) (x : Int) (f : FV) (D : Hdr) (J : List Hdr), (a5, x) = s ∧ a = fr 93 f ∧ f 1 = U.v ∧ f 2 = (pB T) ∧ f 5 = iV g ∧ f 6 = D.v ∧ f 7 = iV x ∧ St w0 ros (box T 27 [iV N, iV g, O.v, R.v, S.v] :: row 56 rH D.v J :: fam 4 rB J a5 :: rs) w) g9 ⟨_, _, _, _, _, rfl, rfl, rfl, rfl, rfl, rfl, rfl, (b.k17)⟩ ?_
 rintro _ _ w v4 ⟨a5, x, f, D, J, rfl, rfl, o6, o7, b1, f2, f3, b⟩ C o8 v5 o9 p0
 refine seqQ fun v6 p1 p2 => sR fun _ p3 => Ym (iV x) (eh f3) (Ym (iV g) (eh b1) (yY (ylss e0 e0) (wK p3 ?_)))
 refine cIf e0 C (fun p4 C => ?_) fun p4 C => ?_
 ·refine wp_skip (p1 _ _ (sQ fun _ p5 => blockQ fun _ p6 => sR fun _ p7 => Ym (iV g) (eh b1) (bE C fun v7 p8 C => yH (rMk b SL_56 e0 p8) fun q w b => Ya q.v e0 (wK p7 (sQ fun _ p9 => ?_)))))
  refine sR fun _ q0 => Ya (iV 0) rfl (wK q0 (blockQ fun q5 q6 => bE C fun q7 q8 C => ?_))
  have q9 : ∀ (b2 : List Bool) (f : FV) w, f 1 = U.v → f 2 = (pB T) → f 5 = iV g → f 6 = D.v → f 7 = iV x → f 8 = q.v → St w0 ros (box T 27 [iV N, iV g, O.v, R.v, S.v] :: row 56 rH D.v J :: fam 4 rB J a5 :: row 4 rB q.v b2 :: rs) w → b2 = q7 → q5 (.exit 2) (fr 93 f) w := by
   intro b2 f w r0 r1 r2 r3 r4 r5 b ho
   subst ho
   refine q6 _ _ _ (p9 _ _ (wR (Ym D.v (eh r3) (Ym q.v (eh r5) (yH (rLt (n := 1) (l := [q]) b SLH_84 [q.v] (bp1 e0) rfl rfl (mks1 rfl (mkF rfl) mks0)) fun v8 w b => bE C fun v9 f4 C => ?_)))))
   replace b := b.k17
   obtain ⟨w1, ey745, r6⟩ := app_rep f4 (b.famL R3) (show [q].length = [b2].length from rfl)
   refine yH (rAp b SLH_84 e0 e0 rO1 r6) fun r7 w b => ?_
   replace b := (b.k3j).fPush
   rw [← ey745, ← (app_some f4).1] at b
   refine Ya r7.v e0 (wN (p6 _ _ _ (p5 _ _ (wR (Ym (iV x) (eh r4) (yY (yadd e0 rfl) (Ya (iV (wa .i64 x 1)) e0 (wN ?_))))))))
   cases C
   exact o9 _ _ _ rfl ⟨_, _, _, _, _, rfl, rfl, r0, r1, r2, rfl, rfl, (b.k2r)⟩
  refine loopQ (fun s a w => ∃ (d0 : List Bool) (p : Int) (f : FV), (d0, p) = s ∧ a = fr 93 f ∧ f 1 = U.v ∧ f 2 = (pB T) ∧ f 5 = iV g ∧ f 6 = D.v ∧ f 7 = iV x ∧ f 8 = q.v ∧ f 9 = iV p ∧ St w0 ros (box T 27 [iV N, iV g, O.v, R.v, S.v] :: row 56 rH D.v J :: fam 4 rB J a5 :: row 4 rB q.v d0 :: rs) w) q8 ⟨_, _, _, rfl, rfl, o6, o7, b1, f2, f3, rfl, rfl, (b.k2w)⟩ ?_
  rintro _ _ w w2 ⟨d0, p, f, rfl, rfl, b3, b4, b5, d1, a6, Z, E, b⟩ K r8 w3 r9 s0
  refine seqQ fun w4 s1 s2 => sR fun _ s3 => Ym (iV p) (eh E) (Ym (iV g) (eh b5) (yY (ylss e0 e0) (wK s3 ?_)))
  refine cIf e0 K (fun s4 K => ?_) fun s4 K => ?_
  ·refine wp_skip (s1 _ _ (sQ fun _ s5 => blockQ fun _ s6 => bE K fun b6 L K => bE K fun s7 b7 K => ?_))
   refine joinN (n := 93) (fun f w => f 1 = U.v ∧ f 2 = (pB T) ∧ f 5 = iV g ∧ f 6 = D.v ∧ f 7 = iV x ∧ f 8 = q.v ∧ f 9 = iV p ∧ St w0 ros (box T 27 [iV N, iV g, O.v, R.v, S.v] :: row 56 rH D.v J :: fam 4 rB J a5 :: row 4 rB q.v s7 :: rs) w) (fun f5 => ?_) ?_
   ·rcases iteS L with ⟨o, L⟩ | ⟨o, L⟩
    ·have s8 := someI L
     refine dR [0, 0, 0, 0, 12, 28, 60, 60, 60, 444, 956, 60, 4092, 8188, 16383, 32767] [12, 15] 2 folM ?_
     replace b := b.drew
     refine Dn [0, 1, 2, 3, 4, 5, 6, 7, 8, 9, 10, 11] [] [12] (yR rfl (m_ q.v (eh Z)) (yR rfl (m_ (iV p) (eh E)) (yR rfl (m_ (iV x) (eh a6)) (yR rfl (m_ (iV p) (eh E)) (yR rfl (yeql e0 e0) (yR rfl (m_ (.bool (decide (x = p))) e0) (Rx rfl rfl (wX (dT o)) (Rx rfl rfl (wX (dT o)) (Rx rfl rfl (wX (dT o)) (Rx rfl rfl (wX (dT o)) (Rx rfl rfl (wX (dT o)) (Rx rfl rfl (wX (dT o)) (Rn QSn ?_)))))))))))))
     refine Lc1 rfl ?_
     refine Lx (wX (dT o)) (Dn [13, 14] [0, 1] [15] (yR rfl (pt_ (.bool b6) e0 (dT o) (eqv s8 rfl)) (yR rfl (yIs SL_56 e0 e0 b rO3 b7) (Rn (yS rfl (m_ q.v (eh Z)) (yS rfl (m_ (iV p) (eh E)) QSn)) ?_))))
     refine Lc1 rfl ?_
     replace b := b.k14
     exact LT wn (r_sti (cs := [.bool b6]) b O_4 rfl e0 e0 rfl mkB b7) fun w b => Dz [] [] (Rn QSn (f5 _ _ ⟨b3, b4, b5, d1, a6, Z, E, (b.k2w)⟩))
    ·refine bE L fun w5 f6 L => bE L fun w6 s9 L => ?_
     have t0 := someI L
     refine dR [0, 0, 0, 0, 12, 28, 60, 60, 60, 444, 956, 60, 4092, 8188, 16383, 32767] [12, 15] 2 folM ?_
     replace b := b.drew
     refine Dn [0, 1, 2, 3, 4, 5, 6, 7, 8, 9, 10, 11] [] [12] (yR rfl (m_ q.v (eh Z)) (yR rfl (m_ (iV p) (eh E)) (yR rfl (m_ (iV x) (eh a6)) (yR rfl (m_ (iV p) (eh E)) (yR rfl (yeql e0 e0) (yR rfl (m_ (.bool (decide (x = p))) e0) (Ry rfl rfl (wG (dF o)) (lbs_ [iV N, iV g, O.v, R.v, S.v] ST_27 (eh b4) b R0) (Ry rfl rfl (wG (dF o)) (m_ U.v (eh b3)) (Ry rfl rfl (wG (dF o)) (m_ (iV x) (eh a6)) (Ry rfl rfl (wG (dF o)) (yIa SL_22 e0 e0 b (rdI d6) f6) (Ry rfl rfl (wG (dF o)) (yI O_3 e0 b (rdI d6) f6) (Ry rfl rfl (wG (dF o)) (m_ (iV p) (eh E)) (Rn QSn ?_)))))))))))))
     refine Lc1 rfl ?_
     refine Lk (wG (dF o)) (yCall FN_26 (a3 e0 e0 e0)) (sparseref09_Stored_ok s9 f7 f8 f9 b) ?_
     rintro _ w ⟨rfl, b⟩
     refine ⟨_, rfl, ?_⟩
     refine Dn [13, 14] [0, 1] [15] (yR rfl (pf_ (.bool b6) e0 (dF o) (eqv t0 e0)) (yR rfl (yIs SL_56 e0 e0 b rO3 b7) (Rn (yS rfl (m_ q.v (eh Z)) (yS rfl (m_ (iV p) (eh E)) QSn)) ?_)))
     refine Lc1 rfl ?_
     replace b := b.k14
     exact LT wn (r_sti (cs := [.bool b6]) b O_4 rfl e0 e0 rfl mkB b7) fun w b => Dz [] [] (Rn QSn (f5 _ _ ⟨b3, b4, b5, d1, a6, Z, E, (b.k2w)⟩))
   rintro f w ⟨t1, t2, t3, t4, t5, t6, t7, b⟩
   refine s6 _ _ _ (s5 _ _ (wR (Ym (iV p) (eh t7) (yY (yadd e0 rfl) (Ya (iV (wa .i64 p 1)) e0 (wN ?_))))))
   cases K
   exact r9 _ _ _ rfl ⟨_, _, _, rfl, rfl, t1, t2, t3, t4, t5, t6, rfl, b⟩
  ·refine wp_exit (s2 _ _ _ rfl ?_)
   cases K
   exact s0 _ _ _ _ rfl rfl (q9 _ _ _ b3 b4 b5 d1 a6 Z b (r8 _ rfl))
 ·refine wp_exit (p2 _ _ _ rfl ?_)
  cases C
  exact p0 _ _ _ _ rfl rfl (h0 _ _ _ _ _ b1 f2 (b.k3k) (o8 _ rfl))
theorem sparseref15_Triangular_ok {U j : Int} {i1 i2 i3 : LI} {Z a0 a3 : Hdr} {out : LI × LI × LI × Int} (o : sparseref15_Triangular U j i1 i2 i3 = some out) (e1 : imm I1 Z.v i1 ∈ ros) (e2 : imm I1 a0.v i2 ∈ ros) (e3 : imm (rI .u64) a3.v i3 ∈ ros) (b : St w0 ros rs w) :
  Calls Tryz.prog 16 #[.agg #[iV U, iV j, Z.v, a0.v, a3.v]] w (fun e w => ∃ (i4 i5 i6 : Hdr), e = .returned (.tuple #[.agg #[i4.v, i5.v, i6.v], iV out.2.2.2]) ∧ St w0 ros (row 3 I1 i4.v out.1 :: row 3 I1 i5.v out.2.1 :: row 3 I1 i6.v out.2.2.1 :: rs) w) := by
 refine enterQ Tryz.func16 rfl Tryz.ntmps16 rfl fun Q c1 => sR fun _ o4 => yBb (r_box (vals := [iV U, iV j, Z.v, a0.v, a3.v]) b e0 rfl) fun G8 w b => yBb (rAl b ZT_36) fun k w b => Ya (iV 0) rfl (wK o4 (seqQ fun G9 o5 o6 => sR fun _ o7 => yY (lbs_ [iV U, iV j, Z.v, a0.v, a3.v] ST_27 e0 b R1) ?_))
 refine bE o fun c2 o8 o => yC (yCall FN_40 (a1 e0)) (sparseref09_Check_ok o8 e1 e2 e3 b) ?_
 rintro _ w ⟨rfl, b⟩
 refine ⟨_, rfl, ?_⟩
 refine Ya (iV c2) e0 (wK o7 (sR fun _ o9 => Ym (iV c2) e0 (yY (yneq e0 rfl) (wK o9 ?_))))
 rcases iteS o with ⟨e4, o⟩ | ⟨e4, o⟩
 ·refine condF e0 (nF (dT e4)) (wp_skip (o5 _ _ (seqQ fun H0 p0 p1 => sR fun _ p2 => yY (yFb FL_27_0 e0) (yY (lb_ (iV U) O_3 e0 b R1) (yY (yFb FL_27_1 e0) (yY (lb_ (iV j) O_3 e0 b R1) (yY (yneq e0 e0) (wK p2 ?_))))))))
  rcases iteS o with ⟨e5, o⟩ | ⟨e5, o⟩
  ·refine condF e0 (nF (dT e5)) (wp_skip (p0 _ _ (sR fun _ p3 => yY (lbs_ [iV U, iV j, Z.v, a0.v, a3.v] ST_27 e0 b R1) (bE o fun y p4 o => yC (yCall FN_22 (a1 e0)) (sparseref15_Perfect_ok p4 e1 e2 e3 b) ?_))))
   rintro _ w ⟨d, rfl, b⟩
   refine ⟨_, rfl, ?_⟩
   refine Ym (.tuple #[d.v, .bool y.2]) e0 (yY (x_ d.v e0) (yY (x_ (.bool y.2) e0) (Ya d.v e0 (Ya (.bool y.2) e0 (wK p3 (seqQ fun H1 p5 p6 => sR fun _ p7 => Ym (.bool y.2) e0 (yY (ynot e0) (wK p7 ?_))))))))
   rcases iteS o with ⟨e6, o⟩ | ⟨e6, o⟩
   ·refine condF e0 (nF e6) (wp_skip (p5 _ _ (sR fun _ p8 => yY (yFb FL_27_1 e0) (yY (lb_ (iV j) O_3 e0 b R2) (Ya (iV j) e0 (wK p8 (sR fun _ p9 => yY (lbs_ [iV U, iV j, Z.v, a0.v, a3.v] ST_27 e0 b R2) (Ym d.v e0 ?_))))))))
    refine bE o fun G q0 o => ?_
    replace b := b.fz
    refine yC (yCall FN_50 (a2 e0 e0)) (sparseref15_Arcs_ok q0 (mtF e1) (mtF e2) (mtF e3) F0 b) ?_
    rintro _ w ⟨g, p, rfl, b⟩
    refine ⟨_, rfl, ?_⟩
    refine Ya g.v e0 (wK p9 (sR fun _ q4 => Ym (iV j) e0 (bE o fun H2 q5 o => yH (rMk b SL_56 e0 q5) fun c w b => Ya c.v e0 (wK q4 (sR fun _ q6 => ?_)))))
    refine yH (rLt (n := 1) (l := [0]) b SL_22 [iV 0] (bp1 rfl) rfl rfl (mks1 (cs := [iV 0]) rfl mkI mks0)) fun c3 w b => yY (ybuild (us := [hnil.v, hnil.v, c3.v]) [(2, c3.v)] SO_36 (bp1 e0) rfl) (yBb (rAl b ZT_36) fun m w b => yT (r_stbn (vals' := [hnil.v, hnil.v, c3.v]) (us := [hnil.v, hnil.v, c3.v]) b ST_36 e0 e0 rfl rfl (one_of rfl) rfl) fun w b => wK q6 (sQ fun _ q7 => blockQ fun q8 q9 => bE o fun r0 r1 o => ?_))
    have r2 : ∀ (e7 e8 e9 : LI) (a4 a5 a6 : Hdr) (f : FV) w, f 2 = (pB k) → f 10 = (pB m) → St w0 ros (box k 36 [hnil.v, hnil.v, hnil.v] :: row 3 I1 a4.v e7 :: row 3 I1 a5.v e8 :: row 3 I1 a6.v e9 :: box m 36 [a4.v, a5.v, a6.v] :: rs) w → (e7, e8, e9) = r0 → q8 (.exit 0) (fr 148 f) w := by
     intro e7 e8 e9 a4 a5 a6 f w i7 r3 b ho
     subst ho
     refine q9 _ _ _ (q7 _ _ (sR fun _ r4 => yY (lbs_ [a4.v, a5.v, a6.v] ST_36 (eh r3) b R4) (yT (r_stbn (vals' := [a4.v, a5.v, a6.v]) (us := [a4.v, a5.v, a6.v]) b ST_36 (eh i7) e0 rfl rfl (one_of rfl) rfl) fun w b => Ya (iV 0) rfl (wK r4 (wp_ret ?_)))))
     cases o
     exact c1 _ _ _ (fin2r Tryz.results16 (rcs2 rfl i7 b R0 ST_36 rfl) ⟨rfl, rfl⟩ ⟨_, _, _, rfl, (b.k1t)⟩)
    replace b := (b.rowNh 3 I1).rowNh 3 I1
    refine loopQ (fun s a w => ∃ (I : List Bool) (D J E : LI) (f : FV) (h t i : Hdr), (I, D, J, E) = s ∧ a = fr 148 f ∧ f 2 = (pB k) ∧ f 5 = d.v ∧ f 7 = iV j ∧ f 8 = g.v ∧ f 9 = c.v ∧ f 10 = (pB m) ∧ St w0 (imm I1 d.v y.1 :: ros) (box k 36 [hnil.v, hnil.v, hnil.v] :: row 56 rH g.v p :: fam 4 rB p G :: row 4 rB c.v I :: row 3 I1 h.v D :: row 3 I1 t.v J :: row 3 I1 i.v E :: box m 36 [h.v, t.v, i.v] :: rs) w) r1 ⟨_, _, _, _, _, _, _, _, rfl, rfl, rfl, rfl, rfl, rfl, rfl, rfl, (b.k3l)⟩ ?_
    rintro _ _ w H3 ⟨I, D, J, E, f, h, t, i, rfl, rfl, i8, r5, f0, r6, r7, f1, b⟩ z r8 H4 r9 s0
    refine seqQ fun H5 s1 s2 => sR fun _ s3 => yY (yFb FL_36_1 (eh f1)) (yY (lb_ t.v O_22 e0 b R7) (yY (yLen SL_22 e0 b rO5) (Ym (iV j) (eh f0) (yY (ylss e0 e0) (wK s3 ?_)))))
    refine cIf e0 z (fun s4 z => ?_) fun s4 z => ?_
    ·refine wp_skip (s1 _ _ (blockQ fun _ s5 => sR fun _ s6 => Ya (iV (-1)) rfl (wK s6 (sQ fun _ s7 => sR fun _ s8 => Ym (iV j) (eh f0) (yY (ysub e0 rfl) (Ya (iV (ws .i64 j 1)) e0 ?_))))))
     refine wK s8 (blockQ fun s9 t0 => bE z fun t1 t2 z => ?_)
     have t3 : ∀ (S : Int) (f : FV) w, f 2 = (pB k) → f 5 = d.v → f 7 = iV j → f 8 = g.v → f 9 = c.v → f 10 = (pB m) → f 11 = iV S → St w0 (imm I1 d.v y.1 :: ros) (box k 36 [hnil.v, hnil.v, hnil.v] :: row 56 rH g.v p :: fam 4 rB p G :: row 4 rB c.v I :: row 3 I1 h.v D :: row 3 I1 t.v J :: row 3 I1 i.v E :: box m 36 [h.v, t.v, i.v] :: rs) w → S = t1 → s9 (.exit 2) (fr 148 f) w := by
      intro S f w t4 t5 i9 t6 t7 t8 t9 b ho
      subst ho
      refine t0 _ _ _ (s7 _ _ (sR fun _ u0 => Ym (iV j) (eh i9) (bE z fun H6 u1 z => yH (rMk b SL_56 e0 u1) fun K w b => Ya K.v e0 (wK u0 (sQ fun _ u2 => sR fun _ u3 => ?_)))))
      refine Ya (iV 0) rfl (wK u3 (blockQ fun u4 u5 => bE z fun u6 u7 z => ?_))
      have u8 : ∀ (f2 : List Bool) (a7 : LI) (f3 : List Bool) (a8 : Hdr) (f : FV) w, f 2 = (pB k) → f 5 = d.v → f 7 = iV j → f 8 = g.v → f 9 = c.v → f 10 = (pB m) → f 15 = K.v → St w0 (imm I1 d.v y.1 :: ros) (box k 36 [hnil.v, hnil.v, hnil.v] :: row 56 rH g.v p :: fam 4 rB p G :: row 4 rB c.v f2 :: row 3 I1 h.v D :: row 3 I1 a8.v a7 :: row 3 I1 i.v E :: box m 36 [h.v, a8.v, i.v] :: row 4 rB K.v f3 :: rs) w → (f2, a7, f3) = u6 → u4 (.exit 6) (fr 148 f) w := by
       intro f2 a7 f3 a8 f w u9 v0 v1 v2 v3 V v4 b ho
       subst ho
       refine u5 _ _ _ (u2 _ _ (sQ fun _ v5 => bE z fun H7 v6 z => bE z fun H8 v7 z => dR [0, 1, 0, 4, 15, 31, 63] [3, 4, 6] 3 folM ?_))
       replace b := b.drew
       refine Dn [0, 1, 2] [] [3] (yR rfl (yFb FL_36_0 (eh V)) (yR rfl (lb_ h.v O_22 e0 b R7) (yR rfl (m_ K.v (eh v4)) (Rn QSn ?_))))
       refine Lc1 rfl ?_
       replace b := (b.k2b).fz
       refine Lk wn (yCall FN_27 (a2 e0 rfl)) (sparseref13_Chosen_ok v6 F0 b) ?_
       rintro _ w ⟨H9, rfl, b⟩
       refine ⟨_, rfl, ?_⟩
       refine Dn [] [0, 1] [4] (Rn (yS rfl (yFb FL_36_0 (eh V)) (yS rfl (lb_ h.v O_22 e0 b R8) QSn)) ?_)
       refine Lc1 rfl ?_
       replace b := b.k1k
       refine LH wn (rAp b SL_22 e0 e0 rO1 v7) fun j0 w b => Dn [5] [] [6] (yR rfl (yFb FL_36_0 (eh V)) (Rn QSn ?_))
       refine Lc1 rfl ?_
       replace b := b.k2b
       refine LT wn (r_stb1 (vals' := [j0.v, a8.v, i.v]) b O_22 e0 e0 rfl rfl rfl rfl) fun w b => Dz [] [] (Rn QSn (v5 _ _ (wR (yY (yFb FL_36_2 (eh V)) (yY (lb_ i.v O_22 e0 b R0) (yY (yFb FL_36_1 (eh V)) (yY (lb_ a8.v O_22 e0 b R0) (yY (yLen SL_22 e0 b rO7) (yH (rLt (n := 1) (l := [(a7.length : Int)]) b SL_22 [iV (a7.length : Int)] (bp1 e0) rfl rfl (mks1 (cs := [iV (a7.length : Int)]) rfl mkI mks0)) fun I0 w b => bE z fun I2 v8 z => ?_)))))))))
       refine yH (rAp (b.k3c) SL_22 e0 e0 rO1 v8) fun v9 w b => yY (yFb FL_36_2 (eh V)) (yT (r_stb1 (vals' := [j0.v, a8.v, v9.v]) (b.k17) O_22 e0 e0 rfl rfl rfl rfl) fun w b => wN (s5 _ _ _ ?_))
       cases z
       exact r9 _ _ _ rfl ⟨_, _, _, _, _, _, _, _, rfl, rfl, u9, v0, v1, v2, v3, V, ((b.k3m).facts (allC F1 (allT (allT allI))))⟩
      refine loopQ (fun s a w => ∃ (c4 : List Bool) (c5 : LI) (c6 : List Bool) (A : Int) (f : FV) (a9 : Hdr), (c4, c5, c6, A) = s ∧ a = fr 148 f ∧ f 2 = (pB k) ∧ f 5 = d.v ∧ f 7 = iV j ∧ f 8 = g.v ∧ f 9 = c.v ∧ f 10 = (pB m) ∧ f 11 = iV S ∧ f 15 = K.v ∧ f 16 = iV A ∧ St w0 (imm I1 d.v y.1 :: ros) (box k 36 [hnil.v, hnil.v, hnil.v] :: row 56 rH g.v p :: fam 4 rB p G :: row 4 rB c.v c4 :: row 3 I1 h.v D :: row 3 I1 a9.v c5 :: row 3 I1 i.v E :: box m 36 [h.v, a9.v, i.v] :: row 4 rB K.v c6 :: rs) w) u7 ⟨_, _, _, _, _, _, rfl, rfl, t4, t5, i9, t6, t7, t8, t9, rfl, rfl, (b.k3n)⟩ ?_
      rintro _ _ w w1 ⟨c4, c5, c6, A, f, a9, rfl, rfl, f4, f5, c7, b1, f6, f7, c8, f8, b2, b⟩ q w2 I3 w3 w4
      refine seqQ fun I4 w5 w6 => sR fun _ w7 => Ym (iV A) (eh b2) (Ym (iV j) (eh c7) (yY (ylss e0 e0) (wK w7 ?_)))
      refine cIf e0 q (fun w8 q => ?_) fun w8 q => ?_
      ·refine wp_skip (w5 _ _ (sQ fun _ w9 => blockQ fun x0 x4 => sR fun _ x6 => Ym g.v (eh b1) (Ym (iV S) (eh c8) (bE q fun I5 f9 q => ?_))))
       obtain ⟨I6, c9⟩ := b.famI R2 f9
       refine yY (yIa SLH_84 e0 e0 b rO1 c9) (yY (yF1 O_56 e0 b rO1 c9 rfl) (Ym (iV A) (eh b2) (bE q fun x8 j1 q => yY (yIa SL_56 e0 e0 b (rdF R2 c9 f9) j1) (yY (yB O_4 e0 b (rdF R2 c9 f9) j1) (Ym (.bool x8) e0 (bE q fun x9 N q => ?_))))))
       refine joinW 8 (fun f w => f 2 = (pB k) ∧ f 5 = d.v ∧ f 7 = iV j ∧ f 8 = g.v ∧ f 9 = c.v ∧ f 10 = (pB m) ∧ f 11 = iV S ∧ f 15 = K.v ∧ f 16 = iV A ∧ f 117 = .bool x9 ∧ St w0 (imm I1 d.v y.1 :: ros) (box k 36 [hnil.v, hnil.v, hnil.v] :: row 56 rH g.v p :: fam 4 rB p G :: row 4 rB c.v c4 :: row 3 I1 h.v D :: row 3 I1 a9.v c5 :: row 3 I1 i.v E :: box m 36 [h.v, a9.v, i.v] :: row 4 rB K.v c6 :: rs) w) (fun j2 => ?_) ?_
       ·rcases iteS N with ⟨B, N⟩ | ⟨B, N⟩
        ·refine yG B (m_ g.v (eh b1)) (yG B (m_ (iV A) (eh b2)) (bE N fun I7 g0 N => ?_))
         obtain ⟨I8, d0⟩ := b.famI R2 g0
         refine yG B (yIa SLH_84 e0 e0 b rO1 d0) (yG B (yF1 O_56 e0 b rO1 d0 rfl) (yG B (m_ (iV S) (eh c8)) (bE N fun y0 j3 N => yG B (yIa SL_56 e0 e0 b (rdF R2 d0 g0) j3) (yG B (yB O_4 e0 b (rdF R2 d0 g0) j3) (yY (pt_ (.bool y0) e0 B e0) ?_)))))
         cases N
         exact j2 _ _ ⟨f4, f5, c7, b1, f6, f7, c8, f8, b2, rfl, b⟩
        ·refine gN (bfalse B) (gN (bfalse B) (gN (bfalse B) (gN (bfalse B) (gN (bfalse B) (gN (bfalse B) (gN (bfalse B) (yY (pf_ (.bool false) e0 (bfalse B) rfl) ?_)))))))
         cases N
         exact j2 _ _ ⟨f4, f5, c7, b1, f6, f7, c8, f8, b2, rfl, b⟩
       rintro f w ⟨j4, g1, j5, j6, g2, d1, j7, g3, b3, y1, b⟩
       refine wK x6 ?_
       have j8 : ∀ (g4 : List Bool) (g5 : LI) (g6 : List Bool) (g7 : Hdr) (f : FV) w, f 2 = (pB k) → f 5 = d.v → f 7 = iV j → f 8 = g.v → f 9 = c.v → f 10 = (pB m) → f 11 = iV S → f 15 = K.v → f 16 = iV A → St w0 (imm I1 d.v y.1 :: ros) (box k 36 [hnil.v, hnil.v, hnil.v] :: row 56 rH g.v p :: fam 4 rB p G :: row 4 rB c.v g4 :: row 3 I1 h.v D :: row 3 I1 g7.v g5 :: row 3 I1 i.v E :: box m 36 [h.v, g7.v, i.v] :: row 4 rB K.v g6 :: rs) w → sparseref15_Triangular_j161 A g4 g5 g6 = some w1 → x0 .normal (fr 148 f) w := by
        intro g4 g5 g6 g7 f w y2 y3 y4 y5 y6 y7 y8 y9 z0 b o
        refine x4 _ _ _ (w9 _ _ (wR (Ym (iV A) (eh z0) (yY (yadd e0 rfl) (Ya (iV (wa .i64 A 1)) e0 (wN ?_))))))
        cases o
        exact w3 _ _ _ rfl ⟨_, _, _, _, _, _, rfl, rfl, y2, y3, y4, y5, y6, y7, y8, y9, rfl, b⟩
       refine cB (eh y1) q (fun z1 q => ?_) fun z1 q => ?_
       ·refine sR fun _ z3 => Ym c.v (eh g2) (Ym (iV A) (eh b3) (bE q fun I9 j9 q => yY (yIs SL_56 e0 e0 b rO3 j9) (yT (r_sti (cs := [.bool true]) (b.k14) O_4 rfl e0 rfl rfl mkB j9) fun w b => wK z3 (sR fun _ z4 => yY (yFb FL_36_1 (eh d1)) (yY (lb_ a9.v O_22 e0 b R7) ?_)))))
        refine Ym (iV A) (eh b3) (yH (rLt (n := 1) (l := [A]) b SL_22 [iV A] (bp1 e0) rfl rfl (mks1 (cs := [iV A]) rfl mkI mks0)) fun J0 w b => bE q fun J1 z6 q => yH (rAp (b.k1a) SL_22 e0 e0 rO1 z6) fun z7 w b => yY (yFb FL_36_1 (eh d1)) (yT (r_stb1 (vals' := [h.v, z7.v, i.v]) (b.k2b) O_22 e0 e0 rfl rfl rfl rfl) fun w b => wK z4 (wR (Ym K.v (eh g3) (Ym d.v (eh g1) ?_)))))
        exact Ym (iV A) (eh b3) (bE q fun J2 k0 q => yY (yIa SL_22 e0 e0 b (rdI F0) k0) (yY (yI O_3 e0 b (rdI F0) k0) (bE q fun J3 l0 q => yY (yIs SL_56 e0 e0 b rO9 l0) (yT (r_sti (cs := [.bool true]) (b.k3c) O_4 rfl e0 rfl rfl mkB l0) fun w b => wN (j8 _ _ _ _ _ _ j4 g1 j5 j6 g2 d1 j7 g3 b3 (b.k3o) q)))))
       ·exact wp_skip (j8 _ _ _ _ _ _ j4 g1 j5 j6 g2 d1 j7 g3 b3 b q)
      ·refine wp_exit (w6 _ _ _ rfl ?_)
       cases q
       exact w4 _ _ _ _ rfl rfl (u8 _ _ _ _ _ _ f4 f5 c7 b1 f6 f7 f8 b (w2 _ rfl))
     refine loopQ (fun s a w => ∃ (T x : Int) (f : FV), (T, x) = s ∧ a = fr 148 f ∧ f 2 = (pB k) ∧ f 5 = d.v ∧ f 7 = iV j ∧ f 8 = g.v ∧ f 9 = c.v ∧ f 10 = (pB m) ∧ f 11 = iV T ∧ f 12 = iV x ∧ St w0 (imm I1 d.v y.1 :: ros) (box k 36 [hnil.v, hnil.v, hnil.v] :: row 56 rH g.v p :: fam 4 rB p G :: row 4 rB c.v I :: row 3 I1 h.v D :: row 3 I1 t.v J :: row 3 I1 i.v E :: box m 36 [h.v, t.v, i.v] :: rs) w) t2 ⟨_, _, _, rfl, rfl, i8, r5, f0, r6, r7, f1, rfl, rfl, b⟩ ?_
     rintro _ _ w z9 ⟨T, x, f, rfl, rfl, l1, l2, l3, l4, g8, l5, l6, g9, b⟩ H A0 J4 A1 A2
     refine seqQ fun J5 A3 A4 => sR fun _ A5 => Ym (iV x) (eh g9) (yY (ygeq e0 rfl) (wK A5 ?_))
     refine cIf e0 H (fun A6 H => ?_) fun A6 H => ?_
     ·refine wp_skip (A3 _ _ (sQ fun _ A7 => blockQ fun A8 A9 => sR fun _ B0 => Ym c.v (eh g8) (Ym (iV x) (eh g9) (bE H fun B1 l7 H => yY (yIa SL_56 e0 e0 b rO3 l7) (yY (yB O_4 e0 b rO3 l7) (yY (ynot e0) (Ya (.bool (!B1)) e0 (wN ?_))))))))
      refine B0 _ _ (sQ fun _ B2 => sR fun _ B3 => Ya (iV 0) rfl (wK B3 (blockQ fun B4 B5 => bE H fun B6 B7 H => ?_)))
      have B8 : ∀ (d2 : Bool) (f : FV) w, f 2 = (pB k) → f 5 = d.v → f 7 = iV j → f 8 = g.v → f 9 = c.v → f 10 = (pB m) → f 11 = iV T → f 12 = iV x → f 13 = .bool d2 → St w0 (imm I1 d.v y.1 :: ros) (box k 36 [hnil.v, hnil.v, hnil.v] :: row 56 rH g.v p :: fam 4 rB p G :: row 4 rB c.v I :: row 3 I1 h.v D :: row 3 I1 t.v J :: row 3 I1 i.v E :: box m 36 [h.v, t.v, i.v] :: rs) w → d2 = B6 → B4 (.exit 4) (fr 148 f) w := by
       intro d2 f w l8 l9 m0 m1 m2 m3 B9 h0 C0 b ho
       subst ho
       refine B5 _ _ _ (B2 _ _ (sR fun _ C1 => Ym (.bool d2) (eh C0) (wK C1 ?_)))
       have m4 : ∀ (h1 : Int) (f : FV) w, f 2 = (pB k) → f 5 = d.v → f 7 = iV j → f 8 = g.v → f 9 = c.v → f 10 = (pB m) → f 11 = iV h1 → f 12 = iV x → St w0 (imm I1 d.v y.1 :: ros) (box k 36 [hnil.v, hnil.v, hnil.v] :: row 56 rH g.v p :: fam 4 rB p G :: row 4 rB c.v I :: row 3 I1 h.v D :: row 3 I1 t.v J :: row 3 I1 i.v E :: box m 36 [h.v, t.v, i.v] :: rs) w → sparseref15_Triangular_j173 x h1 = some z9 → A8 .normal (fr 148 f) w := by
        intro h1 f w C2 C3 C4 C5 C6 C7 C8 C9 b o
        refine A9 _ _ _ (A7 _ _ (wR (Ym (iV x) (eh C9) (yY (ysub e0 rfl) (Ya (iV (ws .i64 x 1)) e0 (wN ?_))))))
        cases o
        exact A1 _ _ _ rfl ⟨_, _, _, rfl, rfl, C2, C3, C4, C5, C6, C7, C8, rfl, b⟩
       refine cB e0 H (fun D0 H => ?_) fun D0 H => ?_
       ·exact wR (Ym (iV x) (eh h0) (Ya (iV x) e0 (wN (m4 _ _ _ l8 l9 m0 m1 m2 m3 rfl h0 b H))))
       ·exact wp_skip (m4 _ _ _ l8 l9 m0 m1 m2 m3 B9 h0 b H)
      refine loopQ (fun s a w => ∃ (W : Bool) (F : Int) (f : FV), (W, F) = s ∧ a = fr 148 f ∧ f 2 = (pB k) ∧ f 5 = d.v ∧ f 7 = iV j ∧ f 8 = g.v ∧ f 9 = c.v ∧ f 10 = (pB m) ∧ f 11 = iV T ∧ f 12 = iV x ∧ f 13 = .bool W ∧ f 14 = iV F ∧ St w0 (imm I1 d.v y.1 :: ros) (box k 36 [hnil.v, hnil.v, hnil.v] :: row 56 rH g.v p :: fam 4 rB p G :: row 4 rB c.v I :: row 3 I1 h.v D :: row 3 I1 t.v J :: row 3 I1 i.v E :: box m 36 [h.v, t.v, i.v] :: rs) w) B7 ⟨_, _, _, rfl, rfl, l1, l2, l3, l4, g8, l5, l6, g9, rfl, rfl, b⟩ ?_
      rintro _ _ w J6 ⟨W, F, f, rfl, rfl, d3, d4, b4, b5, b6, d5, d6, b7, m5, b0, b⟩ X D1 J7 D2 D3
      refine seqQ fun J8 D4 D5 => sR fun _ D6 => Ym (iV F) (eh b0) (Ym (iV j) (eh b4) (yY (ylss e0 e0) (wK D6 ?_)))
      refine cIf e0 X (fun D7 X => ?_) fun D7 X => ?_
      ·refine wp_skip (D4 _ _ (sQ fun _ D8 => blockQ fun _ D9 => wR (Ym (.bool W) (eh m5) (Ym (.bool W) e0 (bE X fun m6 L X => ?_)))))
       refine joinW 24 (fun f w => f 2 = (pB k) ∧ f 5 = d.v ∧ f 7 = iV j ∧ f 8 = g.v ∧ f 9 = c.v ∧ f 10 = (pB m) ∧ f 11 = iV T ∧ f 12 = iV x ∧ f 14 = iV F ∧ f 92 = .bool m6 ∧ St w0 (imm I1 d.v y.1 :: ros) (box k 36 [hnil.v, hnil.v, hnil.v] :: row 56 rH g.v p :: fam 4 rB p G :: row 4 rB c.v I :: row 3 I1 h.v D :: row 3 I1 t.v J :: row 3 I1 i.v E :: box m 36 [h.v, t.v, i.v] :: rs) w) (fun m7 => ?_) ?_
       ·rcases iteS L with ⟨r, L⟩ | ⟨r, L⟩
        ·refine yG r (m_ c.v (eh b6)) (yG r (m_ (iV F) (eh b0)) (bE L fun b8 m8 L => yG r (yIa SL_56 e0 e0 b rO3 m8) (yG r (yB O_4 e0 b rO3 m8) (yG r (m_ (.bool b8) e0) (bE L fun d7 O L => ?_)))))
         refine joinW 9 (fun f w => f 2 = (pB k) ∧ f 5 = d.v ∧ f 7 = iV j ∧ f 8 = g.v ∧ f 9 = c.v ∧ f 10 = (pB m) ∧ f 11 = iV T ∧ f 12 = iV x ∧ f 14 = iV F ∧ f 68 = .bool W ∧ f 69 = c.v ∧ f 70 = iV F ∧ f 72 = .bool b8 ∧ f 73 = .bool b8 ∧ f 82 = .bool d7 ∧ St w0 (imm I1 d.v y.1 :: ros) (box k 36 [hnil.v, hnil.v, hnil.v] :: row 56 rH g.v p :: fam 4 rB p G :: row 4 rB c.v I :: row 3 I1 h.v D :: row 3 I1 t.v J :: row 3 I1 i.v E :: box m 36 [h.v, t.v, i.v] :: rs) w) (fun m9 => ?_) ?_
         ·rcases iteS O with ⟨u, O⟩ | ⟨u, O⟩
          ·refine gN u (gN u (gN u (gN u (gN u (gN u (gN u (gN u (yG r (pt_ (.bool true) e0 u rfl) ?_))))))))
           cases O
           exact m9 _ _ ⟨d3, d4, b4, b5, b6, d5, d6, b7, b0, rfl, rfl, rfl, rfl, rfl, rfl, b⟩
          ·refine yG (bfalse u) (m_ g.v (eh b5)) (yG (bfalse u) (m_ (iV F) (eh b0)) (bE O fun J9 h2 O => ?_))
           obtain ⟨K0, d8⟩ := b.famI R2 h2
           refine yG (bfalse u) (yIa SLH_84 e0 e0 b rO1 d8) (yG (bfalse u) (yF1 O_56 e0 b rO1 d8 rfl) (yG (bfalse u) (m_ (iV x) (eh b7)) (bE O fun E0 n0 O => yG (bfalse u) (yIa SL_56 e0 e0 b (rdF R2 d8 h2) n0) (yG (bfalse u) (yB O_4 e0 b (rdF R2 d8 h2) n0) (yG (bfalse u) (ynot e0) (yG r (pf_ (.bool (!E0)) e0 (bfalse u) e0) ?_))))))
           cases O
           exact m9 _ _ ⟨d3, d4, b4, b5, b6, d5, d6, b7, b0, rfl, rfl, rfl, rfl, rfl, rfl, b⟩
         rintro f w ⟨n1, n2, n3, h3, n4, n5, n6, h5, h7, c0, n7, n8, n9, o0, h9, b⟩
         refine Y (wg rfl rfl c0 r) rfl (m_ (.bool d7) (eh h9)) (bE L fun o1 R L => ?_)
         refine joinW 8 (fun f w => f 2 = (pB k) ∧ f 5 = d.v ∧ f 7 = iV j ∧ f 8 = g.v ∧ f 9 = c.v ∧ f 10 = (pB m) ∧ f 11 = iV T ∧ f 12 = iV x ∧ f 14 = iV F ∧ f 68 = .bool W ∧ f 69 = c.v ∧ f 70 = iV F ∧ f 72 = .bool b8 ∧ f 73 = .bool b8 ∧ f 82 = .bool d7 ∧ f 83 = .bool d7 ∧ f 91 = .bool o1 ∧ St w0 (imm I1 d.v y.1 :: ros) (box k 36 [hnil.v, hnil.v, hnil.v] :: row 56 rH g.v p :: fam 4 rB p G :: row 4 rB c.v I :: row 3 I1 h.v D :: row 3 I1 t.v J :: row 3 I1 i.v E :: box m 36 [h.v, t.v, i.v] :: rs) w) (fun o2 => ?_) ?_
         ·rcases iteS R with ⟨C, R⟩ | ⟨C, R⟩
          ·refine gN C (gN C (gN C (gN C (gN C (gN C (gN C (Y (wg rfl rfl c0 r) rfl (pt_ (.bool true) e0 C rfl) ?_)))))))
           cases R
           exact o2 _ _ ⟨n1, n2, n3, h3, n4, n5, n6, h5, h7, c0, n7, n8, n9, o0, h9, rfl, rfl, b⟩
          ·refine yG (bfalse C) (m_ g.v (eh h3)) (yG (bfalse C) (m_ (iV x) (eh h5)) (bE R fun K1 i0 R => ?_))
           obtain ⟨K2, d9⟩ := b.famI R2 i0
           refine yG (bfalse C) (yIa SLH_84 e0 e0 b rO1 d9) (yG (bfalse C) (yF1 O_56 e0 b rO1 d9 rfl) (yG (bfalse C) (m_ (iV F) (eh h7)) (bE R fun E1 o3 R => yG (bfalse C) (yIa SL_56 e0 e0 b (rdF R2 d9 i0) o3) (yG (bfalse C) (yB O_4 e0 b (rdF R2 d9 i0) o3) (Y (wg rfl rfl c0 r) rfl (pf_ (.bool E1) e0 (bfalse C) e0) ?_)))))
           cases R
           exact o2 _ _ ⟨n1, n2, n3, h3, n4, n5, n6, h5, h7, c0, n7, n8, n9, o0, h9, rfl, rfl, b⟩
         rintro f w ⟨E2, E3, E4, E5, E6, E7, E8, E9, F2, F3, K3, K4, K5, K6, K7, K8, F4, b⟩
         refine yY (pt_ (.bool o1) (eh F3) r (eh F4)) ?_
         cases L
         exact m7 _ _ ⟨E2, E3, E4, E5, E6, E7, E8, E9, F2, rfl, b⟩
        ·refine gN (bfalse r) (gN (bfalse r) (gN (bfalse r) (gN (bfalse r) (gN (bfalse r) (Gn (wxu rfl rfl rfl) rfl (Gn (wxu rfl rfl rfl) rfl (Gn (wxu rfl rfl rfl) rfl (Gn (wxu rfl rfl rfl) rfl (Gn (wxu rfl rfl rfl) rfl (Gn (wxu rfl rfl rfl) rfl (Gn (wxu rfl rfl rfl) rfl (Gn (wxu rfl rfl rfl) rfl (gN (bfalse r) ?_)))))))))))))
         refine gN (bfalse r) (Gn (wxu rfl rfl rfl) rfl (Gn (wxu rfl rfl rfl) rfl (Gn (wxu rfl rfl rfl) rfl (Gn (wxu rfl rfl rfl) rfl (Gn (wxu rfl rfl rfl) rfl (Gn (wxu rfl rfl rfl) rfl (Gn (wxu rfl rfl rfl) rfl (gN (bfalse r) (yY (pf_ (.bool false) e0 (bfalse r) rfl) ?_)))))))))
         cases L
         exact m7 _ _ ⟨d3, d4, b4, b5, b6, d5, d6, b7, b0, rfl, b⟩
       rintro f w ⟨F5, F6, F7, F8, F9, G0, G1, G2, G3, G4, b⟩
       refine Ya (.bool m6) (eh G4) (wN (D9 _ _ _ (D8 _ _ (wR (Ym (iV F) (eh G3) (yY (yadd e0 rfl) (Ya (iV (wa .i64 F 1)) e0 (wN ?_))))))))
       cases X
       exact D2 _ _ _ rfl ⟨_, _, _, rfl, rfl, F5, F6, F7, F8, F9, G0, G1, G2, rfl, rfl, b⟩
      ·refine wp_exit (D5 _ _ _ rfl ?_)
       cases X
       exact D3 _ _ _ _ rfl rfl (B8 _ _ _ d3 d4 b4 b5 b6 d5 d6 b7 m5 b (D1 _ rfl))
     ·refine wp_exit (A4 _ _ _ rfl ?_)
      cases H
      exact A2 _ _ _ _ rfl rfl (t3 _ _ _ l1 l2 l3 l4 g8 l5 l6 b (A0 _ rfl))
    ·refine wp_exit (s2 _ _ _ rfl ?_)
     cases z
     exact s0 _ _ _ _ rfl rfl (r2 _ _ _ _ _ _ _ _ i8 f1 ((b.k3p).facts (allT allI)) (r8 _ rfl))
   ·refine condT e0 (nT (bfalse e6)) (sR fun _ G5 => yY (ybuild (us := [hnil.v, hnil.v, hnil.v]) [] SO_36 bp0 rfl) (yT (r_stbn (vals' := [hnil.v, hnil.v, hnil.v]) (us := [hnil.v, hnil.v, hnil.v]) (b.k11) ST_36 e0 e0 rfl rfl (one_of rfl) rfl) fun w b => Ya (iV 9) rfl (wK G5 (wp_ret (p6 _ _ _ rfl ?_)))))
    cases o
    replace b := ((b.rowNh 3 I1).rowNh 3 I1).rowNh 3 I1
    exact c1 _ _ _ (fin2r Tryz.results16 (rcs2 rfl rfl b R3 ST_36 rfl) ⟨rfl, rfl⟩ ⟨_, _, _, rfl, (b.k3q)⟩)
  ·refine condT e0 (nT (dF e5)) (sR fun _ G6 => yY (ybuild (us := [hnil.v, hnil.v, hnil.v]) [] SO_36 bp0 rfl) (yT (r_stbn (vals' := [hnil.v, hnil.v, hnil.v]) (us := [hnil.v, hnil.v, hnil.v]) b ST_36 e0 e0 rfl rfl (one_of rfl) rfl) fun w b => Ya (iV 5) rfl (wK G6 (wp_ret (p1 _ _ _ rfl ?_)))))
   cases o
   replace b := ((b.rowNh 3 I1).rowNh 3 I1).rowNh 3 I1
   exact c1 _ _ _ (fin2r Tryz.results16 (rcs2 rfl rfl b R3 ST_36 rfl) ⟨rfl, rfl⟩ ⟨_, _, _, rfl, (b.k1s)⟩)
 ·refine condT e0 (nT (dF e4)) (sR fun _ G7 => yY (ybuild (us := [hnil.v, hnil.v, hnil.v]) [] SO_36 bp0 rfl) (Ym (iV c2) e0 (yT (r_stbn (vals' := [hnil.v, hnil.v, hnil.v]) (us := [hnil.v, hnil.v, hnil.v]) b ST_36 e0 e0 rfl rfl (one_of rfl) rfl) fun w b => Ya (iV c2) e0 (wK G7 (wp_ret (o6 _ _ _ rfl ?_))))))
  cases o
  replace b := ((b.rowNh 3 I1).rowNh 3 I1).rowNh 3 I1
  exact c1 _ _ _ (fin2r Tryz.results16 (rcs2 rfl rfl b R3 ST_36 rfl) ⟨rfl, rfl⟩ ⟨_, _, _, rfl, (b.k1s)⟩)
theorem sparselaw15_same_ok {K L N O R S T U V W X Z : LI} {j k l m n o p q r s t u : Hdr} {out : Bool} (b : sparselaw15_same K L N O R S T U V W X Z = some out) (b1 : imm I1 j.v K ∈ ros) (b2 : imm I1 k.v L ∈ ros) (b3 : imm I1 l.v N ∈ ros) (b4 : imm I1 m.v O ∈ ros) (b5 : imm I1 n.v R ∈ ros) (b6 : imm I1 o.v S ∈ ros) (b7 : imm I1 p.v T ∈ ros) (b8 : imm I1 q.v U ∈ ros) (b9 : imm I1 r.v V ∈ ros) (c0 : imm I1 s.v W ∈ ros) (c1 : imm I1 t.v X ∈ ros) (c2 : imm I1 u.v Z ∈ ros) (a : St w0 ros rs w) :
  Calls Tryz.prog 17 #[.agg #[j.v, k.v, l.v, m.v, n.v, o.v], .agg #[p.v, q.v, r.v, s.v, t.v, u.v]] w (fun e w => e = .returned (.bool out) ∧ St w0 ros rs w) := by
 refine enterQ Tryz.func17 rfl Tryz.ntmps17 rfl fun Q c3 => sR fun _ c4 => yBb (r_box (vals := [j.v, k.v, l.v, m.v, n.v, o.v]) a e0 rfl) fun x w a => yBb (r_box (vals := [p.v, q.v, r.v, s.v, t.v, u.v]) a e0 rfl) fun y w a => Ya (.bool false) rfl (wK c4 (sR fun _ c5 => yY (yFb FL_31_0 e0) (yY (lb_ j.v O_22 e0 a R1) ?_)))
 refine yY (yFb FL_31_0 e0) (yY (lb_ p.v O_22 e0 a R0) (bE b fun c6 c7 b => yC (yCall FN_32 (a2 e0 e0)) (sparsekit_Ints_ok c7 b1 b7 a) ?_))
 rintro _ w ⟨rfl, a⟩
 refine ⟨_, rfl, ?_⟩
 refine Ym (.bool c6) e0 (bE b fun a0 z b => ?_)
 refine joinW 6 (fun f w => f 2 = (pB x) ∧ f 3 = (pB y) ∧ f 16 = .bool a0 ∧ St w0 ros (box x 31 [j.v, k.v, l.v, m.v, n.v, o.v] :: box y 31 [p.v, q.v, r.v, s.v, t.v, u.v] :: rs) w) (fun a1 => ?_) ?_
 ·rcases iteS z with ⟨c, z⟩ | ⟨c, z⟩
  ·refine yG c (yFb FL_31_1 e0) (yG c (lb_ k.v O_22 e0 a R1) (yG c (yFb FL_31_1 e0) (yG c (lb_ q.v O_22 e0 a R0) (bE z fun c8 c9 z => Yc (wG c) rfl (yCall FN_32 (a2 e0 e0)) (sparsekit_Ints_ok c9 b2 b8 a) ?_))))
   rintro _ w ⟨rfl, a⟩
   refine ⟨_, rfl, ?_⟩
   refine yY (pt_ (.bool c8) e0 c e0) ?_
   cases z
   exact a1 _ _ ⟨rfl, rfl, rfl, (a.k11)⟩
  ·refine gN (bfalse c) (gN (bfalse c) (gN (bfalse c) (gN (bfalse c) (gN (bfalse c) (yY (pf_ (.bool false) e0 (bfalse c) rfl) ?_)))))
   cases z
   exact a1 _ _ ⟨rfl, rfl, rfl, (a.k11)⟩
 rintro f w ⟨E, F, d0, a⟩
 refine Ym (.bool a0) (eh d0) (bE b fun a3 A b => ?_)
 refine joinW 6 (fun f w => f 2 = (pB x) ∧ f 3 = (pB y) ∧ f 23 = .bool a3 ∧ St w0 ros (box x 31 [j.v, k.v, l.v, m.v, n.v, o.v] :: box y 31 [p.v, q.v, r.v, s.v, t.v, u.v] :: rs) w) (fun a4 => ?_) ?_
 ·rcases iteS A with ⟨d, A⟩ | ⟨d, A⟩
  ·refine yG d (yFb FL_31_2 (eh E)) (yG d (lb_ l.v O_22 e0 a R0) (yG d (yFb FL_31_2 (eh F)) (yG d (lb_ r.v O_22 e0 a R1) (bE A fun d1 d2 A => Yc (wG d) rfl (yCall FN_32 (a2 e0 e0)) (sparsekit_Ints_ok d2 b3 b9 a) ?_))))
   rintro _ w ⟨rfl, a⟩
   refine ⟨_, rfl, ?_⟩
   refine yY (pt_ (.bool d1) e0 d e0) ?_
   cases A
   exact a4 _ _ ⟨E, F, rfl, a⟩
  ·refine gN (bfalse d) (gN (bfalse d) (gN (bfalse d) (gN (bfalse d) (gN (bfalse d) (yY (pf_ (.bool false) e0 (bfalse d) rfl) ?_)))))
   cases A
   exact a4 _ _ ⟨E, F, rfl, a⟩
 rintro f w ⟨G, H, d3, a⟩
 refine Ym (.bool a3) (eh d3) (bE b fun a5 B b => ?_)
 refine joinW 6 (fun f w => f 2 = (pB x) ∧ f 3 = (pB y) ∧ f 30 = .bool a5 ∧ St w0 ros (box x 31 [j.v, k.v, l.v, m.v, n.v, o.v] :: box y 31 [p.v, q.v, r.v, s.v, t.v, u.v] :: rs) w) (fun a6 => ?_) ?_
 ·rcases iteS B with ⟨g, B⟩ | ⟨g, B⟩
  ·refine yG g (yFb FL_31_3 (eh G)) (yG g (lb_ m.v O_22 e0 a R0) (yG g (yFb FL_31_3 (eh H)) (yG g (lb_ s.v O_22 e0 a R1) (bE B fun d4 d5 B => Yc (wG g) rfl (yCall FN_32 (a2 e0 e0)) (sparsekit_Ints_ok d5 b4 c0 a) ?_))))
   rintro _ w ⟨rfl, a⟩
   refine ⟨_, rfl, ?_⟩
   refine yY (pt_ (.bool d4) e0 g e0) ?_
   cases B
   exact a6 _ _ ⟨G, H, rfl, a⟩
  ·refine gN (bfalse g) (gN (bfalse g) (gN (bfalse g) (gN (bfalse g) (gN (bfalse g) (yY (pf_ (.bool false) e0 (bfalse g) rfl) ?_)))))
   cases B
   exact a6 _ _ ⟨G, H, rfl, a⟩
 rintro f w ⟨I, J, d6, a⟩
 refine Ym (.bool a5) (eh d6) (bE b fun a7 C b => ?_)
 refine joinW 6 (fun f w => f 2 = (pB x) ∧ f 3 = (pB y) ∧ f 37 = .bool a7 ∧ St w0 ros (box x 31 [j.v, k.v, l.v, m.v, n.v, o.v] :: box y 31 [p.v, q.v, r.v, s.v, t.v, u.v] :: rs) w) (fun a8 => ?_) ?_
 ·rcases iteS C with ⟨h, C⟩ | ⟨h, C⟩
  ·refine yG h (yFb FL_31_4 (eh I)) (yG h (lb_ n.v O_22 e0 a R0) (yG h (yFb FL_31_4 (eh J)) (yG h (lb_ t.v O_22 e0 a R1) (bE C fun d7 d8 C => Yc (wG h) rfl (yCall FN_32 (a2 e0 e0)) (sparsekit_Ints_ok d8 b5 c1 a) ?_))))
   rintro _ w ⟨rfl, a⟩
   refine ⟨_, rfl, ?_⟩
   refine yY (pt_ (.bool d7) e0 h e0) ?_
   cases C
   exact a8 _ _ ⟨I, J, rfl, a⟩
  ·refine gN (bfalse h) (gN (bfalse h) (gN (bfalse h) (gN (bfalse h) (gN (bfalse h) (yY (pf_ (.bool false) e0 (bfalse h) rfl) ?_)))))
   cases C
   exact a8 _ _ ⟨I, J, rfl, a⟩
 rintro f w ⟨d9, e1, e2, a⟩
 refine Ym (.bool a7) (eh e2) (bE b fun a9 D b => ?_)
 refine joinW 6 (fun f w => f 44 = .bool a9 ∧ St w0 ros rs w) (fun b0 => ?_) ?_
 ·rcases iteS D with ⟨i, D⟩ | ⟨i, D⟩
  ·refine yG i (yFb FL_31_5 (eh d9)) (yG i (lb_ o.v O_22 e0 a R0) (yG i (yFb FL_31_5 (eh e1)) (yG i (lb_ u.v O_22 e0 a R1) (bE D fun e3 e4 D => Yc (wG i) rfl (yCall FN_32 (a2 e0 e0)) (sparsekit_Ints_ok e4 b6 c2 a) ?_))))
   rintro _ w ⟨rfl, a⟩
   refine ⟨_, rfl, ?_⟩
   refine yY (pt_ (.bool e3) e0 i e0) ?_
   cases D
   exact b0 _ _ ⟨rfl, (a.k1z)⟩
  ·refine gN (bfalse i) (gN (bfalse i) (gN (bfalse i) (gN (bfalse i) (gN (bfalse i) (yY (pf_ (.bool false) e0 (bfalse i) rfl) ?_)))))
   cases D
   exact b0 _ _ ⟨rfl, (a.k1z)⟩
 rintro f w ⟨e5, a⟩
 refine Ya (.bool a9) (eh e5) (wK c5 (wp_ret ?_))
 cases b
 exact c3 _ _ _ (fin1r Tryz.results17 ⟨rfl, rfl⟩ ⟨rfl, a⟩)
theorem sparselaw15_alike_ok {o p q r s t : LI} {i j k l m n : Hdr} {out : Bool} (d : sparselaw15_alike o p q r s t = some out) (C : imm I1 i.v o ∈ ros) (D : imm I1 j.v p ∈ ros) (E : imm I1 k.v q ∈ ros) (F : imm I1 l.v r ∈ ros) (G : imm I1 m.v s ∈ ros) (H : imm I1 n.v t ∈ ros) (a : St w0 ros rs w) :
  Calls Tryz.prog 18 #[.agg #[i.v, j.v, k.v], .agg #[l.v, m.v, n.v]] w (fun e w => e = .returned (.bool out) ∧ St w0 ros rs w) := by
 refine enterQ Tryz.func18 rfl Tryz.ntmps18 rfl fun Q I => sR fun _ J => yBb (r_box (vals := [i.v, j.v, k.v]) a e0 rfl) fun u w a => yBb (r_box (vals := [l.v, m.v, n.v]) a e0 rfl) fun x w a => Ya (.bool false) rfl (wK J (sR fun _ K => yY (yFb FL_36_0 e0) (yY (lb_ i.v O_22 e0 a R1) ?_)))
 refine yY (yFb FL_36_0 e0) (yY (lb_ l.v O_22 e0 a R0) (bE d fun L N d => yC (yCall FN_32 (a2 e0 e0)) (sparsekit_Ints_ok N C F a) ?_))
 rintro _ w ⟨rfl, a⟩
 refine ⟨_, rfl, ?_⟩
 refine Ym (.bool L) e0 (bE d fun y g d => ?_)
 refine joinW 6 (fun f w => f 2 = (pB u) ∧ f 3 = (pB x) ∧ f 16 = .bool y ∧ St w0 ros (box u 36 [i.v, j.v, k.v] :: box x 36 [l.v, m.v, n.v] :: rs) w) (fun z => ?_) ?_
 ·rcases iteS g with ⟨b, g⟩ | ⟨b, g⟩
  ·refine yG b (yFb FL_36_1 e0) (yG b (lb_ j.v O_22 e0 a R1) (yG b (yFb FL_36_1 e0) (yG b (lb_ m.v O_22 e0 a R0) (bE g fun O R g => Yc (wG b) rfl (yCall FN_32 (a2 e0 e0)) (sparsekit_Ints_ok R D G a) ?_))))
   rintro _ w ⟨rfl, a⟩
   refine ⟨_, rfl, ?_⟩
   refine yY (pt_ (.bool O) e0 b e0) ?_
   cases g
   exact z _ _ ⟨rfl, rfl, rfl, (a.k11)⟩
  ·refine gN (bfalse b) (gN (bfalse b) (gN (bfalse b) (gN (bfalse b) (gN (bfalse b) (yY (pf_ (.bool false) e0 (bfalse b) rfl) ?_)))))
   cases g
   exact z _ _ ⟨rfl, rfl, rfl, (a.k11)⟩
 rintro f w ⟨S, T, U, a⟩
 refine Ym (.bool y) (eh U) (bE d fun A h d => ?_)
 refine joinW 6 (fun f w => f 23 = .bool A ∧ St w0 ros rs w) (fun B => ?_) ?_
 ·rcases iteS h with ⟨c, h⟩ | ⟨c, h⟩
  ·refine yG c (yFb FL_36_2 (eh S)) (yG c (lb_ k.v O_22 e0 a R0) (yG c (yFb FL_36_2 (eh T)) (yG c (lb_ n.v O_22 e0 a R1) (bE h fun V W h => Yc (wG c) rfl (yCall FN_32 (a2 e0 e0)) (sparsekit_Ints_ok W E H a) ?_))))
   rintro _ w ⟨rfl, a⟩
   refine ⟨_, rfl, ?_⟩
   refine yY (pt_ (.bool V) e0 c e0) ?_
   cases h
   exact B _ _ ⟨rfl, (a.k1z)⟩
  ·refine gN (bfalse c) (gN (bfalse c) (gN (bfalse c) (gN (bfalse c) (gN (bfalse c) (yY (pf_ (.bool false) e0 (bfalse c) rfl) ?_)))))
   cases h
   exact B _ _ ⟨rfl, (a.k1z)⟩
 rintro f w ⟨X, a⟩
 refine Ya (.bool A) (eh X) (wK K (wp_ret ?_))
 cases d
 exact I _ _ _ (fin1r Tryz.results18 ⟨rfl, rfl⟩ ⟨rfl, a⟩)
theorem sparselaw15_BlocksMade_ok {Z a4 : Int} {a7 : LI} {u : Hdr} {out : Bool} (b : sparselaw15_BlocksMade Z a4 a7 = some out) (f9 : out = true) (a5 : imm I1 u.v a7 ∈ ros) (a8 : globF ∈ ros) (a : St w0 ros rs w) :
  Calls Tryz.prog 3 #[iV Z, iV a4, u.v] w (fun e w => e = .returned (.bool out) ∧ St w0 ros rs w) := by
 refine enterQ Tryz.func3 rfl Tryz.ntmps3 rfl fun Q a9 => sR fun _ b9 => Ya (.bool false) rfl (wK b9 (seqQ fun g0 c0 c1 => sR fun _ c2 => Ym u.v e0 (yY (yLen SL_22 e0 a (rdI a5)) (yY (ygtr e0 rfl) (wK c2 ?_)))))
 refine cIf e0 b (fun c3 b => ?_) fun c3 b => ?_
 ·refine sR fun _ c4 => bE b fun c6 c7 b => yC (yCall FN_9 a0) (sparselaw15_awake_ok c7 a) ?_
  rintro _ w ⟨rfl, a⟩
  refine ⟨_, rfl, ?_⟩
  refine Ya (.bool c6) e0 (wK c4 (wp_ret (c1 _ _ _ rfl ?_)))
  cases b
  exact a9 _ _ _ (fin1r Tryz.results3 ⟨rfl, rfl⟩ ⟨rfl, a⟩)
 ·refine wp_skip (c0 _ _ (sR fun _ c8 => Ym (iV Z) e0 (bE b fun b0 c9 b => yC (yCall FN_10 (a2 e0 rfl)) (sparsekit_Place_ok c9 a) ?_)))
  rintro _ w ⟨rfl, a⟩
  refine ⟨_, rfl, ?_⟩
  refine Ym (iV a4) e0 (bE b fun a6 d0 b => yC (yCall FN_10 (a2 e0 rfl)) (sparsekit_Place_ok d0 a) ?_)
  rintro _ w ⟨rfl, a⟩
  refine ⟨_, rfl, ?_⟩
  refine Ya (iV b0) e0 (Ya (iV a6) e0 (wK c8 (sR fun _ d1 => Ym (iV b0) e0 (Ym (iV a6) e0 (Ym u.v e0 (bE b fun p d2 b => yC (yCall FN_11 (a3 e0 e0 e0)) (sparsemake_Matrix_ok d2 a5 a8 a) ?_))))))
  rintro _ w ⟨O, R, S, rfl, a⟩
  refine ⟨_, rfl, ?_⟩
  refine yBb (rAl a ZT_27) fun g1 w a => yT (r_stbn (vals' := [iV p.1, iV p.2.1, O.v, R.v, S.v]) (us := [iV p.1, iV p.2.1, O.v, R.v, S.v]) a ST_27 e0 e0 rfl rfl (one_of rfl) rfl) fun w a => wK d1 (sR fun _ d3 => Ym (iV a6) e0 (Ym u.v e0 (bE b fun q d4 b => yC (yCall FN_12 (a2 e0 e0)) (sparsemake_Square_ok d4 a5 a8 a) ?_)))
  rintro _ w ⟨T, U, V, rfl, a⟩
  refine ⟨_, rfl, ?_⟩
  refine yBb (rAl a ZT_27) fun g2 w a => yT (r_stbn (vals' := [iV q.1, iV q.2.1, T.v, U.v, V.v]) (us := [iV q.1, iV q.2.1, T.v, U.v, V.v]) a ST_27 e0 e0 rfl rfl (one_of rfl) rfl) fun w a => wK d3 (sR fun _ d5 => yY (lbs_ [iV p.1, iV p.2.1, O.v, R.v, S.v] ST_27 e0 a R4) (bE b fun x d6 b => ?_))
  replace a := (((((a.k1k).fz).k1k).fz).k1k).fz
  refine yC (yCall FN_13 (a1 e0)) (blocks_Coarse_ok d6 F2 F1 F0 a) ?_
  rintro _ w ⟨y, z, A, B, C, D, rfl, a⟩
  refine ⟨_, rfl, ?_⟩
  refine Ym (.tuple #[.agg #[y.v, z.v, A.v, B.v, C.v, D.v], iV x.2.2.2.2.2.2]) e0 (yY (x_ (.agg #[y.v, z.v, A.v, B.v, C.v, D.v]) e0) (yY (x_ (iV x.2.2.2.2.2.2) e0) (yBb (rAl a ZT_31) fun g3 w a => yT (r_stbn (vals' := [y.v, z.v, A.v, B.v, C.v, D.v]) (us := [y.v, z.v, A.v, B.v, C.v, D.v]) a ST_31 e0 e0 rfl rfl (one_of rfl) rfl) fun w a => Ya (iV x.2.2.2.2.2.2) e0 (wK d5 (sR fun _ d7 => yY (lbs_ [iV p.1, iV p.2.1, O.v, R.v, S.v] ST_27 e0 a R11) (bE b fun E d8 b => ?_))))))
  refine yC (yCall FN_14 (a1 e0)) (sparseref15_Coarse_ok d8 F2 F1 F0 a) ?_
  rintro _ w ⟨F, G, H, I, J, K, rfl, a⟩
  refine ⟨_, rfl, ?_⟩
  refine Ym (.tuple #[.agg #[F.v, G.v, H.v, I.v, J.v, K.v], iV E.2.2.2.2.2.2]) e0 (yY (x_ (.agg #[F.v, G.v, H.v, I.v, J.v, K.v]) e0) (yY (x_ (iV E.2.2.2.2.2.2) e0) (yBb (rAl a ZT_31) fun g4 w a => yT (r_stbn (vals' := [F.v, G.v, H.v, I.v, J.v, K.v]) (us := [F.v, G.v, H.v, I.v, J.v, K.v]) a ST_31 e0 e0 rfl rfl (one_of rfl) rfl) fun w a => Ya (iV E.2.2.2.2.2.2) e0 (wK d7 (sR fun _ d9 => yY (lbs_ [iV q.1, iV q.2.1, T.v, U.v, V.v] ST_27 e0 a R14) (bE b fun c e1 b => ?_))))))
  replace a := (((((a.k3r).fz).k3r).fz).k3r).fz
  refine yC (yCall FN_15 (a1 e0)) (blocks_Triangular_ok e1 F2 F1 F0 a) ?_
  rintro _ w ⟨h, i, j, rfl, a⟩
  refine ⟨_, rfl, ?_⟩
  refine Ym (.tuple #[.agg #[h.v, i.v, j.v], iV c.2.2.2]) e0 (yY (x_ (.agg #[h.v, i.v, j.v]) e0) (yY (x_ (iV c.2.2.2) e0) (yBb (rAl a ZT_36) fun W w a => yT (r_stbn (vals' := [h.v, i.v, j.v]) (us := [h.v, i.v, j.v]) a ST_36 e0 e0 rfl rfl (one_of rfl) rfl) fun w a => Ya (iV c.2.2.2) e0 (wK d9 (sR fun _ e2 => yY (lbs_ [iV q.1, iV q.2.1, T.v, U.v, V.v] ST_27 e0 a R18) (bE b fun d e3 b => ?_))))))
  refine yC (yCall FN_16 (a1 e0)) (sparseref15_Triangular_ok e3 F2 F1 F0 a) ?_
  rintro _ w ⟨k, l, m, rfl, a⟩
  refine ⟨_, rfl, ?_⟩
  refine Ym (.tuple #[.agg #[k.v, l.v, m.v], iV d.2.2.2]) e0 (yY (x_ (.agg #[k.v, l.v, m.v]) e0) (yY (x_ (iV d.2.2.2) e0) (yBb (rAl a ZT_36) fun X w a => yT (r_stbn (vals' := [k.v, l.v, m.v]) (us := [k.v, l.v, m.v]) a ST_36 e0 e0 rfl rfl (one_of rfl) rfl) fun w a => Ya (iV d.2.2.2) e0 (wK e2 (sR fun _ e4 => Ym (iV x.2.2.2.2.2.2) e0 (Ym (iV E.2.2.2.2.2.2) e0 ?_))))))
  refine yY (yeql e0 e0) (Ym (.bool (decide (x.2.2.2.2.2.2 = E.2.2.2.2.2.2))) e0 (bE b fun L r b => ?_))
  refine joinW 4 (fun f w => f 13 = (pB W) ∧ f 14 = iV c.2.2.2 ∧ f 15 = (pB X) ∧ f 16 = iV d.2.2.2 ∧ f 59 = .bool L ∧ St w0 ros (row 3 I1 h.v c.1 :: row 3 I1 i.v c.2.1 :: row 3 I1 j.v c.2.2.1 :: box W 36 [h.v, i.v, j.v] :: row 3 I1 k.v d.1 :: row 3 I1 l.v d.2.1 :: row 3 I1 m.v d.2.2.1 :: box X 36 [k.v, l.v, m.v] :: rs) w) (fun b1 => ?_) ?_
  ·rcases iteS r with ⟨n, r⟩ | ⟨n, r⟩
   ·refine yG (dT n) (lbs_ [y.v, z.v, A.v, B.v, C.v, D.v] ST_31 e0 a R15) (yG (dT n) (lbs_ [F.v, G.v, H.v, I.v, J.v, K.v] ST_31 e0 a R8) (bE r fun e5 e6 r => ?_))
    replace a := (((((((((((((((((((((((a.k3s).fz).k3s).fz).k3s).fz).k3s).fz).k3s).fz).k3s).fz).k3c).fz).k3c).fz).k3c).fz).k3c).fz).k3c).fz).k3c).fz
    refine Yc (wG (dT n)) rfl (yCall FN_17 (a2 e0 e0)) (sparselaw15_same_ok e6 F11 F10 F9 F8 F7 F6 F5 F4 F3 F2 F1 F0 a) ?_
    rintro _ w ⟨rfl, a⟩
    refine ⟨_, rfl, ?_⟩
    refine yY (pt_ (.bool e5) e0 (dT n) e0) ?_
    cases r
    exact b1 _ _ ⟨rfl, rfl, rfl, rfl, rfl, ((a.k3t).facts (allT (allT (allT (allT (allT (allT (allT (allT (allT (allT (allT (allT (allT (allT (allT (allT (allT (allT allI)))))))))))))))))))⟩
   ·refine gN (dF n) (gN (dF n) (gN (dF n) (yY (pf_ (.bool false) e0 (dF n) rfl) ?_)))
    cases r
    exact b1 _ _ ⟨rfl, rfl, rfl, rfl, rfl, ((a.k3u).facts (allT (allT (allT (allT (allT (allT allI)))))))⟩
  rintro f w ⟨b2, e7, b3, e8, e9, a⟩
  refine Ym (.bool L) (eh e9) ?_
  refine joinW 4 (fun f w => f 13 = (pB W) ∧ f 15 = (pB X) ∧ f 64 = .bool (L && (decide (c.2.2.2 = d.2.2.2))) ∧ St w0 ros (row 3 I1 h.v c.1 :: row 3 I1 i.v c.2.1 :: row 3 I1 j.v c.2.2.1 :: box W 36 [h.v, i.v, j.v] :: row 3 I1 k.v d.1 :: row 3 I1 l.v d.2.1 :: row 3 I1 m.v d.2.2.1 :: box X 36 [k.v, l.v, m.v] :: rs) w) (fun b4 => ?_) ?_
  ·rcases Bool.eq_false_or_eq_true L with g | g
   ·exact yG g (m_ (iV c.2.2.2) (eh e7)) (yG g (m_ (iV d.2.2.2) (eh e8)) (yG g (yeql e0 e0) (yY (pt_ (.bool (decide (c.2.2.2 = d.2.2.2))) e0 g e0) (b4 _ _ ⟨b2, b3, (congrArg Value.bool (andT g)), a⟩))))
   ·exact gN g (gN g (gN g (yY (pf_ (.bool false) e0 g rfl) (b4 _ _ ⟨b2, b3, (congrArg Value.bool (andF g)), a⟩))))
  rintro f w ⟨f0, f1, f2, a⟩
  refine Ym (.bool (L && (decide (c.2.2.2 = d.2.2.2)))) (eh f2) (bE b fun b5 s b => ?_)
  refine joinW 4 (fun f w => f 69 = .bool b5 ∧ St w0 ros rs w) (fun b6 => ?_) ?_
  ·rcases iteS s with ⟨o, s⟩ | ⟨o, s⟩
   ·refine yG o (lbs_ [h.v, i.v, j.v] ST_36 (eh f0) a R3) (yG o (lbs_ [k.v, l.v, m.v] ST_36 (eh f1) a R7) (bE s fun f3 f4 s => ?_))
    replace a := (((((((a.fz.fz).fz).k11).fz).k11).fz).k11).fz
    refine Yc (wG o) rfl (yCall FN_18 (a2 e0 e0)) (sparselaw15_alike_ok f4 F5 F4 F3 F2 F1 F0 a) ?_
    rintro _ w ⟨rfl, a⟩
    refine ⟨_, rfl, ?_⟩
    refine yY (pt_ (.bool f3) e0 o e0) ?_
    cases s
    exact b6 _ _ ⟨rfl, ((a.k1z).facts (allT (allT (allT (allT (allT (allT allI)))))))⟩
   ·refine gN (bfalse o) (gN (bfalse o) (gN (bfalse o) (yY (pf_ (.bool false) e0 (bfalse o) rfl) ?_)))
    cases s
    exact b6 _ _ ⟨rfl, (a.k3v)⟩
  rintro f w ⟨f5, a⟩
  refine Ym (.bool b5) (eh f5) (bE b fun b7 t b => ?_)
  refine joinW 2 (fun f w => f 72 = .bool b7 ∧ St w0 ros rs w) (fun b8 => ?_) ?_
  ·rcases iteS t with ⟨N, t⟩ | ⟨N, t⟩
   ·refine bE t fun f6 f7 t => Yc (wG N) rfl (yCall FN_9 a0) (sparselaw15_awake_ok f7 a) ?_
    rintro _ w ⟨rfl, a⟩
    refine ⟨_, rfl, ?_⟩
    refine yY (pt_ (.bool f6) e0 N e0) ?_
    cases t
    exact b8 _ _ ⟨rfl, a⟩
   ·refine gN (bfalse N) (yY (pf_ (.bool false) e0 (bfalse N) rfl) ?_)
    cases t
    exact b8 _ _ ⟨rfl, a⟩
  rintro f w ⟨f8, a⟩
  refine Ya (.bool b7) (eh f8) (wK e4 (wp_ret ?_))
  cases b
  exact a9 _ _ _ (fin1r Tryz.results3 ⟨rfl, rfl⟩ ⟨rfl, a⟩)
end Go.Proofs.YtgnfkbaghjmgiaaGreatDoor
