/- Walks: each function computes its model, printed. -/
import Derived.Test.YtgnfkbaghjmgiaaGreatDoorW5
namespace Go.Proofs.YtgnfkbaghjmgiaaGreatDoor
open Go Sx M
set_option maxRecDepth 100000
set_option maxHeartbeats 40000000
set_option linter.unusedVariables false
attribute [local irreducible] wpList Code.wp Calls DR QR QS LA LS St
variable {w0 : World} {ros : List Fact} {rs : List Res} {w : World}
theorem sparsemake_Value_ok {c out : Int} (a : sparsemake_Value c = some out) (h : globF ∈ ros) (b : St w0 ros rs w) :
  Calls Tryz.prog 33 #[iV c] w (fun e w => e = .returned (.int .u64 out) ∧ St w0 ros rs w) := by
 refine enterQ Tryz.func33 rfl Tryz.ntmps33 rfl fun Q j => sR fun _ k => Ya (.int .u64 0) rfl (wK k (sR fun _ l => Ym (iV c) e0 (bE a fun d m a => yC (yCall FN_10 (a2 e0 rfl)) (sparsekit_Place_ok m b) ?_)))
 rintro _ w ⟨rfl, b⟩
 refine ⟨_, rfl, ?_⟩
 refine yY (ysub e0 rfl) (Ya (iV (ws .i64 d 8)) e0 (wK l (sR fun _ n => Ya (iV 0) rfl (wK n (sQ fun o p => sR fun _ q => Ym (iV c) e0 (yY (ycv (k' := .u64) (by kernel_rfl) (by kernel_rfl) e0) ?_))))))
 refine yY (yquoc e0 rfl (by decide)) (yY (ycv (k' := .i64) (by kernel_rfl) (by kernel_rfl) e0) (Ya (iV (wc .i64 (wqc .u64 (wc .u64 c) 17))) e0 (wK q (sR fun _ r => Ym (iV (wc .i64 (wqc .u64 (wc .u64 c) 17))) e0 (yY (yremc e0 rfl (by decide)) (yY (yeql e0 rfl) (wK r ?_)))))))
 have i : ∀ (g : Int) (f : FV) w, f 3 = iV (ws .i64 d 8) → f 4 = iV g → St w0 ros rs w → sparsemake_Value_j1 d g = some out → o .normal (fr 25 f) w := by
  intro g f w s t b a
  refine p _ _ (sR fun _ u => Ym (iV (ws .i64 d 8)) (eh s) (bE a fun B v a => yC (yCall FN_60 (a1 e0)) (sparseref02_FromInt_ok v h b) ?_))
  rintro _ w ⟨C, rfl, b⟩
  refine ⟨_, rfl, ?_⟩
  refine Ym (iV g) (eh t) (bE a fun D x a => yC (yCall FN_59 (a2 e0 e0)) (sparseref02_Scale_ok x F0 (mtF h) b) ?_)
  rintro _ w ⟨E, rfl, b⟩
  refine ⟨_, rfl, ?_⟩
  refine bE a fun y z a => yC (yCall FN_58 (a2 e0 rfl)) (sparseref03_Round_ok z F0 (F_2 h) b) ?_
  rintro _ w ⟨rfl, b⟩
  refine ⟨_, rfl, ?_⟩
  refine Ya (.int .u64 y) e0 (wK u (wp_ret ?_))
  cases a
  exact j _ _ _ (fin1r Tryz.results33 ⟨rfl, rfl⟩ ⟨rfl, (b.facts (allT (allT allI)))⟩)
 refine cIf e0 a (fun A a => ?_) fun A a => ?_
 ·exact wR (Ym (iV (wc .i64 (wqc .u64 (wc .u64 c) 17))) e0 (yY (yquoc e0 rfl (by decide)) (yY (yremc e0 rfl (by decide)) (yY (ysub e0 rfl) (Ya (iV (ws .i64 (wrc (wqc .i64 (wc .i64 (wqc .u64 (wc .u64 c) 17)) 3) 13) 6)) e0 (wN (i _ _ _ rfl rfl b a)))))))
 ·exact wp_skip (i _ _ _ rfl rfl b a)
theorem sparseref09_Pack_ok {c d : Int} {c0 : List (Int × Int × Int)} {m : Hdr} {out : Int × Int × LI × LI × LI} (t : sparseref09_Pack c d c0 = some out) (A : imm rTi64i64u64 m.v c0 ∈ ros) (b : St w0 ros rs w) :
  Calls Tryz.prog 34 #[iV c, iV d, m.v] w (fun e w => ∃ (c1 c2 c3 : Hdr), e = .returned (.agg #[iV out.1, iV out.2.1, c1.v, c2.v, c3.v]) ∧ St w0 ros (row 3 I1 c1.v out.2.2.1 :: row 3 I1 c2.v out.2.2.2.1 :: row 47 (rI .u64) c3.v out.2.2.2.2 :: rs) w) := by
 refine enterQ Tryz.func34 rfl Tryz.ntmps34 rfl fun Q d9 => sR fun _ e1 => yBb (rAl b ZT_27) fun i w b => wK e1 (sR fun _ e2 => Ym (iV c) e0 (Ym (iV d) e0 (yH (rLt (n := 1) (l := [0]) b SL_22 [iV 0] (bp1 rfl) rfl rfl (mks1 (cs := [iV 0]) rfl mkI mks0)) fun y w b => yY (ybuild (us := [iV c, iV d, y.v, hnil.v, hnil.v]) [(0, iV c), (1, iV d), (2, y.v)] SO_27 (bp3 e0 e0 e0) rfl) ?_)))
 refine yBb (rAl b ZT_27) fun j w b => yT (r_stbn (vals' := [iV c, iV d, y.v, hnil.v, hnil.v]) (us := [iV c, iV d, y.v, hnil.v, hnil.v]) b ST_27 e0 e0 rfl rfl (one_of rfl) rfl) fun w b => wK e2 (sR fun _ e3 => Ym (iV c) e0 (Ym (iV d) e0 (yY (ymul e0 e0) (bE t fun o0 e4 t => yH (rMk b SL_22 e0 e4) fun h w b => ?_))))
 refine Ya h.v e0 (wK e3 (sQ fun _ e5 => sR fun _ e6 => Ya (iV 0) rfl (wK e6 (blockQ fun e7 e8 => bE t fun e9 f0 t => ?_))))
 have f1 : ∀ (B : LI) (f : FV) w, f 0 = iV c → f 1 = iV d → f 2 = m.v → f 6 = (pB i) → f 7 = (pB j) → f 8 = h.v → St w0 ros (box i 27 [iV 0, iV 0, hnil.v, hnil.v, hnil.v] :: row 3 I1 y.v [0] :: box j 27 [iV c, iV d, y.v, hnil.v, hnil.v] :: row 3 I1 h.v B :: rs) w → B = e9 → e7 (.exit 0) (fr 90 f) w := by
  intro B f w f2 f3 f4 f5 f6 f7 b ho
  subst ho
  refine e8 _ _ _ (e5 _ _ (sQ fun _ f8 => sR fun _ f9 => Ya (iV 0) rfl (wK f9 (blockQ fun g0 g1 => bE t fun g2 g3 t => ?_))))
  have g4 : ∀ (X Z a0 : LI) (C D E : Hdr) (f : FV) w, f 6 = (pB i) → f 7 = (pB j) → St w0 ros (box i 27 [iV 0, iV 0, hnil.v, hnil.v, hnil.v] :: row 3 I1 C.v X :: row 3 I1 D.v Z :: row 47 (rI .u64) E.v a0 :: box j 27 [iV c, iV d, C.v, D.v, E.v] :: rs) w → (X, Z, a0) = g2 → g0 (.exit 2) (fr 90 f) w := by
   intro X Z a0 C D E f w c4 g5 b ho
   subst ho
   refine g1 _ _ _ (f8 _ _ (sR fun _ g6 => yY (lbs_ [iV c, iV d, C.v, D.v, E.v] ST_27 (eh g5) b R4) (yT (r_stbn (vals' := [iV c, iV d, C.v, D.v, E.v]) (us := [iV c, iV d, C.v, D.v, E.v]) b ST_27 (eh c4) e0 rfl rfl (one_of rfl) rfl) fun w b => wK g6 (wp_ret ?_))))
   cases t
   exact d9 _ _ _ (fin1r Tryz.results34 (rcs2 rfl c4 b R0 ST_27 rfl) ⟨_, _, _, rfl, (b.k1t)⟩)
  replace b := (b.rowNh 3 I1).rowNh 47 (rI .u64)
  refine loopQ (fun s a w => ∃ (F a1 a2 : LI) (q : Int) (f : FV) (o a3 a4 : Hdr), (F, a1, a2, q) = s ∧ a = fr 90 f ∧ f 0 = iV c ∧ f 1 = iV d ∧ f 2 = m.v ∧ f 6 = (pB i) ∧ f 7 = (pB j) ∧ f 8 = h.v ∧ f 10 = iV q ∧ St w0 ros (box i 27 [iV 0, iV 0, hnil.v, hnil.v, hnil.v] :: row 3 I1 o.v F :: row 3 I1 a3.v a1 :: row 47 (rI .u64) a4.v a2 :: box j 27 [iV c, iV d, o.v, a3.v, a4.v] :: row 3 I1 h.v B :: rs) w) g3 ⟨_, _, _, _, _, _, _, _, rfl, rfl, f2, f3, f4, f5, f6, f7, rfl, (b.k2t)⟩ ?_
  rintro _ _ w o2 ⟨F, a1, a2, q, f, o, a3, a4, rfl, rfl, g7, c5, g8, c6, c7, g9, c8, b⟩ x h0 o3 h1 h2
  refine seqQ fun o4 h3 h5 => sR fun _ h7 => Ym (iV q) (eh c8) (Ym (iV d) (eh c5) (yY (ylss e0 e0) (wK h7 ?_)))
  refine cIf e0 x (fun h9 x => ?_) fun h9 x => ?_
  ·refine wp_skip (h3 _ _ (sQ fun _ i0 => blockQ fun _ i1 => sQ fun _ i2 => sR fun _ i3 => Ya (iV 0) rfl (wK i3 (blockQ fun i4 i5 => bE x fun i6 i7 x => ?_))))
   have i8 : ∀ (G a5 : LI) (I O : Hdr) (f : FV) w, f 0 = iV c → f 1 = iV d → f 2 = m.v → f 6 = (pB i) → f 7 = (pB j) → f 8 = h.v → f 10 = iV q → St w0 ros (box i 27 [iV 0, iV 0, hnil.v, hnil.v, hnil.v] :: row 3 I1 o.v F :: row 3 I1 I.v G :: row 47 (rI .u64) O.v a5 :: box j 27 [iV c, iV d, o.v, I.v, O.v] :: row 3 I1 h.v B :: rs) w → (G, a5) = i6 → i4 (.exit 4) (fr 90 f) w := by
    intro G a5 I O f w i9 j0 j1 j2 R j3 j4 b ho
    subst ho
    refine i5 _ _ _ (i2 _ _ (wR (yY (yFb FL_27_2 (eh R)) (yY (lb_ o.v O_22 e0 b R4) (yY (yFb FL_27_3 (eh R)) (yY (lb_ I.v O_22 e0 b R4) (yY (yLen SL_22 e0 b rO2) (yH (rLt (n := 1) (l := [(G.length : Int)]) b SL_22 [iV (G.length : Int)] (bp1 e0) rfl rfl (mks1 (cs := [iV (G.length : Int)]) rfl mkI mks0)) fun o5 w b => bE x fun o6 j5 x => yH (rAp (b.k17) SL_22 e0 e0 rO1 j5) fun j6 w b => yY (yFb FL_27_2 (eh R)) ?_))))))))
    refine yT (r_stb1 (vals' := [iV c, iV d, j6.v, I.v, O.v]) (b.k1k) O_22 e0 e0 rfl rfl rfl rfl) fun w b => wN (i1 _ _ _ (i0 _ _ (wR (Ym (iV q) (eh j4) (yY (yadd e0 rfl) (Ya (iV (wa .i64 q 1)) e0 (wN ?_)))))))
    cases x
    exact h1 _ _ _ rfl ⟨_, _, _, _, _, _, _, _, rfl, rfl, i9, j0, j1, j2, R, j3, rfl, (b.k2u)⟩
   refine loopQ (fun s a w => ∃ (a6 a7 : LI) (k : Int) (f : FV) (S H : Hdr), (a6, a7, k) = s ∧ a = fr 90 f ∧ f 0 = iV c ∧ f 1 = iV d ∧ f 2 = m.v ∧ f 6 = (pB i) ∧ f 7 = (pB j) ∧ f 8 = h.v ∧ f 10 = iV q ∧ f 11 = iV k ∧ St w0 ros (box i 27 [iV 0, iV 0, hnil.v, hnil.v, hnil.v] :: row 3 I1 o.v F :: row 3 I1 S.v a6 :: row 47 (rI .u64) H.v a7 :: box j 27 [iV c, iV d, o.v, S.v, H.v] :: row 3 I1 h.v B :: rs) w) i7 ⟨_, _, _, _, _, _, rfl, rfl, g7, c5, g8, c6, c7, g9, c8, rfl, b⟩ ?_
   rintro _ _ w j7 ⟨a6, a7, k, f, S, H, rfl, rfl, J, a8, T, a9, z, U, V, K, b⟩ g j8 o7 j9 k0
   refine seqQ fun o8 k6 k7 => sR fun _ k8 => Ym (iV k) (eh K) (Ym (iV c) (eh J) (yY (ylss e0 e0) (wK k8 ?_)))
   refine cIf e0 g (fun k9 g => ?_) fun k9 g => ?_
   ·refine wp_skip (k6 _ _ (sQ fun _ l0 => blockQ fun l1 l2 => sR fun _ l3 => Ym h.v (eh U) (Ym (iV q) (eh V) (Ym (iV c) (eh J) (yY (ymul e0 e0) (Ym (iV k) (eh K) (yY (yadd e0 e0) (bE g fun b0 c9 g => yY (yIa SL_22 e0 e0 b rO5 c9) ?_))))))))
    refine yY (yI O_3 e0 b rO5 c9) (Ya (iV b0) e0 (wK l3 (sR fun _ l4 => Ym (iV b0) e0 (yY (ygtr e0 rfl) (wK l4 ?_)))))
    have d0 : ∀ (b1 b2 : LI) (b3 b4 : Hdr) (f : FV) w, f 0 = iV c → f 1 = iV d → f 2 = m.v → f 6 = (pB i) → f 7 = (pB j) → f 8 = h.v → f 10 = iV q → f 11 = iV k → St w0 ros (box i 27 [iV 0, iV 0, hnil.v, hnil.v, hnil.v] :: row 3 I1 o.v F :: row 3 I1 b3.v b1 :: row 47 (rI .u64) b4.v b2 :: box j 27 [iV c, iV d, o.v, b3.v, b4.v] :: row 3 I1 h.v B :: rs) w → sparseref09_Pack_j14 k b1 b2 = some j7 → l1 .normal (fr 90 f) w := by
     intro b1 b2 b3 b4 f w l5 l6 l7 l8 l9 m0 m1 m2 b t
     refine l2 _ _ _ (l0 _ _ (wR (Ym (iV k) (eh m2) (yY (yadd e0 rfl) (Ya (iV (wa .i64 k 1)) e0 (wN ?_))))))
     cases t
     exact j9 _ _ _ rfl ⟨_, _, _, _, _, _, rfl, rfl, l5, l6, l7, l8, l9, m0, m1, rfl, b⟩
    refine cIf e0 g (fun m3 g => ?_) fun m3 g => ?_
    ·refine sR fun _ m4 => yY (yFb FL_27_3 (eh z)) (yY (lb_ S.v O_22 e0 b R4) (Ym (iV k) (eh K) (yH (rLt (n := 1) (l := [k]) b SL_22 [iV k] (bp1 e0) rfl rfl (mks1 (cs := [iV k]) rfl mkI mks0)) fun o9 w b => bE g fun p0 m5 g => yH (rAp (b.k14) SL_22 e0 e0 rO1 m5) fun d1 w b => yY (yFb FL_27_3 (eh z)) (yT (r_stb1 (vals' := [iV c, iV d, o.v, d1.v, H.v]) (b.k1k) O_22 e0 e0 rfl rfl rfl rfl) fun w b => wN ?_))))
     refine m4 _ _ (bE g fun W d2 g => bE g fun p1 m6 g => dR [0, 1, 0, 0, 8, 28, 60, 124, 252, 511, 1023, 2047] [8, 9, 11] 3 folM ?_)
     replace b := b.drew
     refine Dn [0, 1, 2, 3, 4, 5, 6, 7] [] [8] (yR rfl (yFb FL_27_4 (eh z)) (yR rfl (lb_ H.v O_25 e0 b R0) (yR rfl (m_ m.v (eh T)) (yR rfl (m_ (iV b0) e0) (yR rfl (ysub e0 rfl) (yR rfl (yIa SL_44 e0 e0 b (rdI A) d2) (yR rfl (yFe FL_49_2 e0) (yR rfl (yFf (u := .int .u64 W.2.2) O_47 e0 b (rdI A) d2 rfl) (Rn QSn ?_)))))))))
     refine Lc1 rfl ?_
     refine LH wn (rLt (n := 1) (l := [W.2.2]) b SL_25 [.int .u64 W.2.2] (bp1 e0) rfl rfl (mks1 (cs := [.int .u64 W.2.2]) rfl mkI mks0)) fun p2 w b => Dn [] [0, 1] [9] (Rn (yS rfl (yFb FL_27_4 (eh z)) (yS rfl (lb_ H.v O_25 e0 b R1) QSn)) ?_)
     refine Lc1 rfl ?_
     replace b := b.k1a
     refine LH wn (rAp b SL_25 e0 e0 rO1 m6) fun m7 w b => Dn [10] [] [11] (yR rfl (yFb FL_27_4 (eh z)) (Rn QSn ?_))
     refine Lc1 rfl ?_
     replace b := b.k17
     exact LT wn (r_stb1 (vals' := [iV c, iV d, o.v, d1.v, m7.v]) b O_25 e0 e0 rfl rfl rfl rfl) fun w b => Dz [] [] (Rn QSn (d0 _ _ _ _ _ _ J a8 T a9 z U V K (b.k2v) g))
    ·exact wp_skip (d0 _ _ _ _ _ _ J a8 T a9 z U V K b g)
   ·refine wp_exit (k7 _ _ _ rfl ?_)
    cases g
    exact k0 _ _ _ _ rfl rfl (i8 _ _ _ _ _ _ J a8 T a9 z U V b (j8 _ rfl))
  ·refine wp_exit (h5 _ _ _ rfl ?_)
   cases x
   exact h2 _ _ _ _ rfl rfl (g4 _ _ _ _ _ _ _ _ c6 c7 (b.k1y) (h0 _ rfl))
 refine loopQ (fun s a w => ∃ (b6 : LI) (r : Int) (f : FV), (b6, r) = s ∧ a = fr 90 f ∧ f 0 = iV c ∧ f 1 = iV d ∧ f 2 = m.v ∧ f 6 = (pB i) ∧ f 7 = (pB j) ∧ f 8 = h.v ∧ f 9 = iV r ∧ St w0 ros (box i 27 [iV 0, iV 0, hnil.v, hnil.v, hnil.v] :: row 3 I1 y.v [0] :: box j 27 [iV c, iV d, y.v, hnil.v, hnil.v] :: row 3 I1 h.v b6 :: rs) w) f0 ⟨_, _, _, rfl, rfl, rfl, rfl, rfl, rfl, rfl, rfl, rfl, (b.k2g)⟩ ?_
 rintro _ _ w p3 ⟨b6, r, f, rfl, rfl, b8, d3, L, d4, d5, b9, N, b⟩ p m8 p4 m9 n0
 refine seqQ fun p5 n2 n3 => sR fun _ n4 => Ym (iV r) (eh N) (Ym m.v (eh L) (yY (yLen SL_44 e0 b (rdI A)) (yY (ylss e0 e0) (wK n4 ?_))))
 refine cIf e0 p (fun n5 p => ?_) fun n5 p => ?_
 ·refine wp_skip (n2 _ _ (sQ fun _ n6 => blockQ fun _ n7 => bE p fun n8 d6 p => bE p fun n9 d7 p => bE p fun p6 d8 p => dR [0, 0, 0, 6, 14, 30, 0, 126, 0, 0, 768, 1792, 3840, 8190, 0, 16384, 65535, 131071] [17] 1 folM ?_))
  replace b := b.drew
  refine Dn [0, 1, 2, 3, 4, 5, 6, 7, 8, 9, 10, 11, 12, 13, 14, 15, 16] [] [17] (yR rfl (m_ h.v (eh b9)) (yR rfl (m_ m.v (eh L)) (yR rfl (m_ (iV r) (eh N)) (yR rfl (yIa SL_44 e0 e0 b (rdI A) d6) (yR rfl (yFe FL_49_1 e0) (yR rfl (yFf (u := iV n8.2.1) O_3 e0 b (rdI A) d6 rfl) (yR rfl (m_ (iV c) (eh b8)) (yR rfl (ymul e0 e0) (yR rfl (m_ m.v (eh L)) (yR rfl (m_ (iV r) (eh N)) (yR rfl (yIa SL_44 e0 e0 b (rdI A) d7) (yR rfl (yFe FL_49_0 e0) (yR rfl (yFf (u := iV n9.1) O_3 e0 b (rdI A) d7 rfl) ?_)))))))))))))
  refine yR rfl (yadd e0 e0) (yR rfl (m_ (iV r) (eh N)) (yR rfl (yadd e0 rfl) (yR rfl (yIs SL_22 e0 e0 b rO3 d8) (Rn QSn ?_))))
  refine Lc1 rfl ?_
  replace b := b.k14
  refine LT wn (r_sti (cs := [iV (wa .i64 r 1)]) b O_3 rfl e0 e0 rfl mkI d8) fun w b => Dz [] [] (Rn QSn (n7 _ _ _ (n6 _ _ (wR (Ym (iV r) (eh N) (yY (yadd e0 rfl) (Ya (iV (wa .i64 r 1)) e0 (wN ?_))))))))
  cases p
  exact m9 _ _ _ rfl ⟨_, _, _, rfl, rfl, b8, d3, L, d4, d5, b9, rfl, (b.k2w)⟩
 ·refine wp_exit (n3 _ _ _ rfl ?_)
  cases p
  exact n0 _ _ _ _ rfl rfl (f1 _ _ _ b8 d3 L d4 d5 b9 b (m8 _ rfl))
theorem sparsemake_Matrix_ok {g i : Int} {p : LI} {j : Hdr} {out : Int × Int × LI × LI × LI} (y : sparsemake_Matrix g i p = some out) (h : imm I1 j.v p ∈ ros) (b3 : globF ∈ ros) (b : St w0 ros rs w) :
  Calls Tryz.prog 11 #[iV g, iV i, j.v] w (fun e w => ∃ (O R S : Hdr), e = .returned (.agg #[iV out.1, iV out.2.1, O.v, R.v, S.v]) ∧ St w0 ros (row 3 I1 O.v out.2.2.1 :: row 3 I1 R.v out.2.2.2.1 :: row 47 (rI .u64) S.v out.2.2.2.2 :: rs) w) := by
 refine enterQ Tryz.func11 rfl Tryz.ntmps11 rfl fun Q b4 => sR fun _ b6 => yBb (rAl b ZT_27) fun q w b => wK b6 (sR fun _ b7 => Ya hnil.v rfl (wK b7 (sQ fun _ b8 => sQ fun _ b9 => ?_)))
 refine wR (Ya (iV 0) rfl (wK b9 (blockQ fun c0 c1 => bE y fun c2 c3 y => ?_)))
 have c4 : ∀ (H : List (Int × Int × Int)) (D : Hdr) (f : FV) w, f 0 = iV g → f 1 = iV i → f 6 = (pB q) → f 7 = D.v → St w0 ros (box q 27 [iV 0, iV 0, hnil.v, hnil.v, hnil.v] :: row 49 rTi64i64u64 D.v H :: rs) w → H = c2 → c0 (.exit 0) (fr 51 f) w := by
  intro H D f w c5 c6 T c7 b ho
  subst ho
  refine c1 _ _ _ (b8 _ _ (sR fun _ c8 => Ym (iV g) (eh c5) (Ym (iV i) (eh c6) (Ym D.v (eh c7) (bE y fun E c9 y => ?_)))))
  replace b := (b.k11).fz
  refine yC (yCall FN_34 (a3 e0 e0 e0)) (sparseref09_Pack_ok c9 F0 b) ?_
  rintro _ w ⟨U, V, W, rfl, b⟩
  refine ⟨_, rfl, ?_⟩
  refine yT (r_stbn (vals' := [iV E.1, iV E.2.1, U.v, V.v, W.v]) (us := [iV E.1, iV E.2.1, U.v, V.v, W.v]) (b.k14) ST_27 (eh T) e0 rfl rfl (one_of rfl) rfl) fun w b => wK c8 (wp_ret ?_)
  cases y
  exact b4 _ _ _ (fin1r Tryz.results11 (rcs2 rfl T b R0 ST_27 rfl) ⟨_, _, _, rfl, ((b.k2s).facts (allT allI))⟩)
 replace b := b.rowNh 49 rTi64i64u64
 refine loopQ (fun s a w => ∃ (z : List (Int × Int × Int)) (c : Int) (f : FV) (k : Hdr), (z, c) = s ∧ a = fr 51 f ∧ f 0 = iV g ∧ f 1 = iV i ∧ f 2 = j.v ∧ f 6 = (pB q) ∧ f 7 = k.v ∧ f 8 = iV c ∧ St w0 ros (box q 27 [iV 0, iV 0, hnil.v, hnil.v, hnil.v] :: row 49 rTi64i64u64 k.v z :: rs) w) c3 ⟨_, _, _, _, rfl, rfl, rfl, rfl, rfl, rfl, rfl, rfl, (b.k11)⟩ ?_
 rintro _ _ w e7 ⟨z, c, f, k, rfl, rfl, I, X, J, Z, a0, K, b⟩ d d0 e8 d1 d2
 refine seqQ fun e9 d3 d4 => sR fun _ d5 => Ym (iV c) (eh K) (yY (yadd e0 rfl) (Ym j.v (eh J) (yY (yLen SL_22 e0 b (rdI h)) (yY (ylss e0 e0) (Ym (.bool (decide ((wa .i64 c 2) < (p.length : Int)))) e0 ?_)))))
 refine joinW 3 (fun f w => f 0 = iV g ∧ f 1 = iV i ∧ f 2 = j.v ∧ f 6 = (pB q) ∧ f 7 = k.v ∧ f 8 = iV c ∧ f 17 = .bool ((decide ((wa .i64 c 2) < (p.length : Int))) && (decide ((0 : Int) < g))) ∧ St w0 ros (box q 27 [iV 0, iV 0, hnil.v, hnil.v, hnil.v] :: row 49 rTi64i64u64 k.v z :: rs) w) (fun a4 => ?_) ?_
 ·rcases Bool.eq_false_or_eq_true (decide ((wa .i64 c 2) < (p.length : Int))) with m | m
  ·exact yG m (m_ (iV g) (eh I)) (yG m (ygtr e0 rfl) (yY (pt_ (.bool (decide ((0 : Int) < g))) e0 m e0) (a4 _ _ ⟨I, X, J, Z, a0, K, (congrArg Value.bool (andT m)), b⟩)))
  ·exact gN m (gN m (yY (pf_ (.bool false) e0 m rfl) (a4 _ _ ⟨I, X, J, Z, a0, K, (congrArg Value.bool (andF m)), b⟩)))
 rintro f w ⟨a5, L, a6, a7, a8, a9, d6, b⟩
 refine Ym (.bool ((decide ((wa .i64 c 2) < (p.length : Int))) && (decide ((0 : Int) < g)))) (eh d6) ?_
 refine joinW 3 (fun f w => f 0 = iV g ∧ f 1 = iV i ∧ f 2 = j.v ∧ f 6 = (pB q) ∧ f 7 = k.v ∧ f 8 = iV c ∧ f 21 = .bool (((decide ((wa .i64 c 2) < (p.length : Int))) && (decide ((0 : Int) < g))) && (decide ((0 : Int) < i))) ∧ St w0 ros (box q 27 [iV 0, iV 0, hnil.v, hnil.v, hnil.v] :: row 49 rTi64i64u64 k.v z :: rs) w) (fun b0 => ?_) ?_
 ·rcases Bool.eq_false_or_eq_true ((decide ((wa .i64 c 2) < (p.length : Int))) && (decide ((0 : Int) < g))) with o | o
  ·exact yG o (m_ (iV i) (eh L)) (yG o (ygtr e0 rfl) (yY (pt_ (.bool (decide ((0 : Int) < i))) e0 o e0) (b0 _ _ ⟨a5, L, a6, a7, a8, a9, (congrArg Value.bool (andT o)), b⟩)))
  ·exact gN o (gN o (yY (pf_ (.bool false) e0 o rfl) (b0 _ _ ⟨a5, L, a6, a7, a8, a9, (congrArg Value.bool (andF o)), b⟩)))
 rintro f w ⟨N, F, r, b1, u, t, d7, b⟩
 refine wK d5 (cB (eh d7) d (fun d8 d => ?_) fun d8 d => ?_)
 ·refine wp_skip (d3 _ _ (sQ fun _ d9 => blockQ fun _ e1 => bE d fun f0 b2 d => bE d fun A e2 d => bE d fun f1 G d => bE d fun B e3 d => bE d fun f2 x d => bE d fun C e4 d => bE d fun f3 e5 d => dR [0, 0, 0, 6, 14, 0, 62, 0, 0, 256, 896, 1920, 0, 8190, 0, 0, 32768, 114688, 245760, 524286, 1048574, 2097150, 4194303, 8388607] [6, 13, 19, 21, 22, 23] 6 folM ?_))
  replace b := b.drew
  refine Dn [0, 1, 2, 3, 4, 5, 7, 8, 9, 10, 11, 12, 14, 15, 16, 17, 18] [] [6] (yR rfl (m_ k.v (eh u)) (yR rfl (m_ j.v (eh r)) (yR rfl (m_ (iV c) (eh t)) (yR rfl (yIa SL_22 e0 e0 b (rdI h) b2) (yR rfl (yI O_3 e0 b (rdI h) b2) (yR rfl (m_ (iV g) (eh N)) (yR rfl (m_ j.v (eh r)) (yR rfl (m_ (iV c) (eh t)) (yR rfl (yadd e0 rfl) (yR rfl (yIa SL_22 e0 e0 b (rdI h) G) (yR rfl (yI O_3 e0 b (rdI h) G) (yR rfl (m_ (iV i) (eh F)) (yR rfl (m_ j.v (eh r)) ?_)))))))))))))
  refine yR rfl (m_ (iV c) (eh t)) (yR rfl (yadd e0 rfl) (yR rfl (yIa SL_22 e0 e0 b (rdI h) x) (yR rfl (yI O_3 e0 b (rdI h) x) (Rn QSn ?_))))
  refine Lc1 rfl ?_
  refine Lk wn (yCall FN_10 (a2 e0 e0)) (sparsekit_Place_ok e2 b) ?_
  rintro _ w ⟨rfl, b⟩
  refine ⟨_, rfl, ?_⟩
  refine Dn [] [0, 7, 8, 9, 10, 11, 12, 14, 15, 16, 17, 18] [13] (Rn (yS rfl (m_ k.v (eh u)) (yS rfl (m_ j.v (eh r)) (yS rfl (m_ (iV c) (eh t)) (yS rfl (yadd e0 rfl) (yS rfl (yIa SL_22 e0 e0 b (rdI h) G) (yS rfl (yI O_3 e0 b (rdI h) G) (yS rfl (m_ (iV i) (eh F)) (yS rfl (m_ j.v (eh r)) (yS rfl (m_ (iV c) (eh t)) (yS rfl (yadd e0 rfl) (yS rfl (yIa SL_22 e0 e0 b (rdI h) x) (yS rfl (yI O_3 e0 b (rdI h) x) QSn)))))))))))) ?_)
  refine Lc1 rfl ?_
  refine Lk wn (yCall FN_10 (a2 e0 e0)) (sparsekit_Place_ok e3 b) ?_
  rintro _ w ⟨rfl, b⟩
  refine ⟨_, rfl, ?_⟩
  refine Dn [] [0, 14, 15, 16, 17, 18] [19] (Rn (yS rfl (m_ k.v (eh u)) (yS rfl (m_ j.v (eh r)) (yS rfl (m_ (iV c) (eh t)) (yS rfl (yadd e0 rfl) (yS rfl (yIa SL_22 e0 e0 b (rdI h) x) (yS rfl (yI O_3 e0 b (rdI h) x) QSn)))))) ?_)
  refine Lc1 rfl ?_
  refine Lk wn (yCall FN_33 (a1 e0)) (sparsemake_Value_ok e4 b3 b) ?_
  rintro _ w ⟨rfl, b⟩
  refine ⟨_, rfl, ?_⟩
  refine Dn [20] [0] [21] (yR rfl (ybuild (us := [iV A, iV B, .int .u64 C]) [(0, iV A), (1, iV B), (2, .int .u64 C)] SO_49 (bp3 e0 e0 e0) rfl) (Rn (yS rfl (m_ k.v (eh u)) QSn) ?_))
  refine Lc1 rfl ?_
  refine LH wn (rLt (n := 1) (l := [(A, B, C)]) b SL_44 [.agg #[iV A, iV B, .int .u64 C]] (bp1 e0) rfl rfl (mks1 (cs := [iV A, iV B, .int .u64 C]) rfl (mkF rfl) mks0)) fun f4 w b => Dn [] [0] [22] (Rn (yS rfl (m_ k.v (eh u)) QSn) ?_)
  refine Lc1 rfl ?_
  replace b := b.k17
  refine LH wn (rAp b SL_44 e0 e0 rO1 e5) fun e6 w b => Dn [] [] [23] (Rn QSn ?_)
  refine Lc1 rfl ?_
  refine Ly wn (a_ e6.v e0) (Dz [] [] (Rn QSn (e1 _ _ _ (d9 _ _ (wR (Ym (iV c) (eh t) (yY (yadd e0 rfl) (Ya (iV (wa .i64 c 3)) e0 (wN ?_)))))))))
  cases d
  exact d1 _ _ _ rfl ⟨_, _, _, _, rfl, rfl, N, F, r, b1, rfl, rfl, (b.k1g)⟩
 ·refine wp_exit (d4 _ _ _ rfl ?_)
  cases d
  exact d2 _ _ _ _ rfl rfl (c4 _ _ _ _ N F b1 u b (d0 _ rfl))
theorem sparsemake_At_ok {g : LI} {c : Int} {d : Hdr} {out : Int} (a : sparsemake_At g c = some out) (f : imm I1 d.v g ∈ ros) (b : St w0 ros rs w) :
  Calls Tryz.prog 35 #[d.v, iV c] w (fun e w => e = .returned (iV out) ∧ St w0 ros rs w) := by
 refine enterQ Tryz.func35 rfl Tryz.ntmps35 rfl fun Q h => sR fun _ j => Ya (iV 0) rfl (wK j (seqQ fun r k l => sR fun _ m => Ym (iV c) e0 (Ym d.v e0 (yY (yLen SL_22 e0 b (rdI f)) (yY (ylss e0 e0) (wN ?_))))))
 refine m _ _ ?_
 refine cIf e0 a (fun n a => ?_) fun n a => ?_
 ·refine sR fun _ o => Ym d.v e0 (Ym (iV c) e0 (bE a fun p i a => yY (yIa SL_22 e0 e0 b (rdI f) i) (yY (yI O_3 e0 b (rdI f) i) (Ya (iV p) e0 (wK o (wp_ret (l _ _ _ rfl ?_)))))))
  cases a
  exact h _ _ _ (fin1r Tryz.results35 ⟨rfl, rfl⟩ ⟨rfl, b⟩)
 ·refine wp_skip (k _ _ (sR fun _ q => Ya (iV 0) rfl (wK q (wp_ret ?_))))
  cases a
  exact h _ _ _ (fin1r Tryz.results35 ⟨rfl, rfl⟩ ⟨rfl, b⟩)
theorem sparsemake_Square_ok {g : Int} {y : LI} {i : Hdr} {out : Int × Int × LI × LI × LI} (q : sparsemake_Square g y = some out) (j : imm I1 i.v y ∈ ros) (W : globF ∈ ros) (b : St w0 ros rs w) :
  Calls Tryz.prog 12 #[iV g, i.v] w (fun e w => ∃ (X Z a0 : Hdr), e = .returned (.agg #[iV out.1, iV out.2.1, X.v, Z.v, a0.v]) ∧ St w0 ros (row 3 I1 X.v out.2.2.1 :: row 3 I1 Z.v out.2.2.2.1 :: row 47 (rI .u64) a0.v out.2.2.2.2 :: rs) w) := by
 refine enterQ Tryz.func12 rfl Tryz.ntmps12 rfl fun Q b8 => sR fun _ b9 => yBb (rAl b ZT_27) fun m w b => wK b9 (sR fun _ c0 => Ya hnil.v rfl (wK c0 (sQ fun _ c1 => sQ fun _ c2 => ?_)))
 refine wR (Ya (iV 0) rfl (wK c2 (blockQ fun c3 c4 => bE q fun c5 c6 q => ?_)))
 have c7 : ∀ (K : List (Int × Int × Int)) (L : Hdr) (f : FV) w, f 0 = iV g → f 1 = i.v → f 4 = (pB m) → f 5 = L.v → St w0 ros (box m 27 [iV 0, iV 0, hnil.v, hnil.v, hnil.v] :: row 49 rTi64i64u64 L.v K :: rs) w → K = c5 → c3 (.exit 0) (fr 63 f) w := by
  intro K L f w a4 c8 c9 d0 b ho
  subst ho
  refine c4 _ _ _ (c1 _ _ (sQ fun _ d1 => sR fun _ d2 => Ym (iV g) (eh a4) (Ya (iV g) e0 (wK d2 (blockQ fun d3 d4 => bE q fun d5 d6 q => ?_)))))
  have d7 : ∀ (N : List (Int × Int × Int)) (F : Hdr) (f : FV) w, f 0 = iV g → f 4 = (pB m) → f 5 = F.v → St w0 ros (box m 27 [iV 0, iV 0, hnil.v, hnil.v, hnil.v] :: row 49 rTi64i64u64 F.v N :: rs) w → N = d5 → d3 (.exit 2) (fr 63 f) w := by
   intro N F f w a5 a6 d8 b ho
   subst ho
   refine d4 _ _ _ (d1 _ _ (sR fun _ d9 => Ym (iV g) (eh a5) (Ym (iV g) (eh a5) (Ym F.v (eh d8) (bE q fun G e1 q => ?_)))))
   replace b := (b.k11).fz
   refine yC (yCall FN_34 (a3 e0 e0 e0)) (sparseref09_Pack_ok e1 F0 b) ?_
   rintro _ w ⟨a7, a8, a9, rfl, b⟩
   refine ⟨_, rfl, ?_⟩
   refine yT (r_stbn (vals' := [iV G.1, iV G.2.1, a7.v, a8.v, a9.v]) (us := [iV G.1, iV G.2.1, a7.v, a8.v, a9.v]) (b.k14) ST_27 (eh a6) e0 rfl rfl (one_of rfl) rfl) fun w b => wK d9 (wp_ret ?_)
   cases q
   exact b8 _ _ _ (fin1r Tryz.results12 (rcs2 rfl a6 b R0 ST_27 rfl) ⟨_, _, _, rfl, ((b.k2s).facts (allT allI))⟩)
  refine loopQ (fun s a w => ∃ (H : List (Int × Int × Int)) (h : Int) (f : FV) (o : Hdr), (H, h) = s ∧ a = fr 63 f ∧ f 0 = iV g ∧ f 1 = i.v ∧ f 4 = (pB m) ∧ f 5 = o.v ∧ f 7 = iV h ∧ St w0 ros (box m 27 [iV 0, iV 0, hnil.v, hnil.v, hnil.v] :: row 49 rTi64i64u64 o.v H :: rs) w) d6 ⟨_, _, _, _, rfl, rfl, a4, c8, c9, d0, rfl, b⟩ ?_
  rintro _ _ w h0 ⟨H, h, f, o, rfl, rfl, O, R, b0, b1, S, b⟩ c e2 h1 e3 e4
  refine seqQ fun h2 e5 e6 => sR fun _ e7 => Ym (iV h) (eh S) (yY (yadd e0 rfl) (Ym i.v (eh R) (yY (yLen SL_22 e0 b (rdI j)) (yY (ylss e0 e0) (Ym (.bool (decide ((wa .i64 h 2) < (y.length : Int)))) e0 ?_)))))
  refine joinW 3 (fun f w => f 0 = iV g ∧ f 1 = i.v ∧ f 4 = (pB m) ∧ f 5 = o.v ∧ f 7 = iV h ∧ f 33 = .bool ((decide ((wa .i64 h 2) < (y.length : Int))) && (decide ((0 : Int) < g))) ∧ St w0 ros (box m 27 [iV 0, iV 0, hnil.v, hnil.v, hnil.v] :: row 49 rTi64i64u64 o.v H :: rs) w) (fun b2 => ?_) ?_
  ·rcases Bool.eq_false_or_eq_true (decide ((wa .i64 h 2) < (y.length : Int))) with p | p
   ·exact yG p (m_ (iV g) (eh O)) (yG p (ygtr e0 rfl) (yY (pt_ (.bool (decide ((0 : Int) < g))) e0 p e0) (b2 _ _ ⟨O, R, b0, b1, S, (congrArg Value.bool (andT p)), b⟩)))
   ·exact gN p (gN p (yY (pf_ (.bool false) e0 p rfl) (b2 _ _ ⟨O, R, b0, b1, S, (congrArg Value.bool (andF p)), b⟩)))
  rintro f w ⟨z, r, b3, u, t, e8, b⟩
  refine wK e7 (cB (eh e8) c (fun e9 c => ?_) fun e9 c => ?_)
  ·refine wp_skip (e5 _ _ (sQ fun _ f0 => blockQ fun _ f1 => bE c fun h4 b5 c => bE c fun A f2 c => bE c fun h5 I c => bE c fun B f3 c => bE c fun h6 x c => bE c fun C f4 c => bE c fun h7 f5 c => dR [0, 0, 0, 6, 14, 0, 62, 0, 0, 256, 896, 1920, 0, 8190, 0, 0, 32768, 114688, 245760, 524286, 1048574, 2097150, 4194303, 8388607] [6, 13, 19, 21, 22, 23] 6 folM ?_))
   replace b := b.drew
   refine Dn [0, 1, 2, 3, 4, 5, 7, 8, 9, 10, 11, 12, 14, 15, 16, 17, 18] [] [6] (yR rfl (m_ o.v (eh u)) (yR rfl (m_ i.v (eh r)) (yR rfl (m_ (iV h) (eh t)) (yR rfl (yIa SL_22 e0 e0 b (rdI j) b5) (yR rfl (yI O_3 e0 b (rdI j) b5) (yR rfl (m_ (iV g) (eh z)) (yR rfl (m_ i.v (eh r)) (yR rfl (m_ (iV h) (eh t)) (yR rfl (yadd e0 rfl) (yR rfl (yIa SL_22 e0 e0 b (rdI j) I) (yR rfl (yI O_3 e0 b (rdI j) I) (yR rfl (m_ (iV g) (eh z)) (yR rfl (m_ i.v (eh r)) ?_)))))))))))))
   refine yR rfl (m_ (iV h) (eh t)) (yR rfl (yadd e0 rfl) (yR rfl (yIa SL_22 e0 e0 b (rdI j) x) (yR rfl (yI O_3 e0 b (rdI j) x) (Rn QSn ?_))))
   refine Lc1 rfl ?_
   refine Lk wn (yCall FN_10 (a2 e0 e0)) (sparsekit_Place_ok f2 b) ?_
   rintro _ w ⟨rfl, b⟩
   refine ⟨_, rfl, ?_⟩
   refine Dn [] [0, 7, 8, 9, 10, 11, 12, 14, 15, 16, 17, 18] [13] (Rn (yS rfl (m_ o.v (eh u)) (yS rfl (m_ i.v (eh r)) (yS rfl (m_ (iV h) (eh t)) (yS rfl (yadd e0 rfl) (yS rfl (yIa SL_22 e0 e0 b (rdI j) I) (yS rfl (yI O_3 e0 b (rdI j) I) (yS rfl (m_ (iV g) (eh z)) (yS rfl (m_ i.v (eh r)) (yS rfl (m_ (iV h) (eh t)) (yS rfl (yadd e0 rfl) (yS rfl (yIa SL_22 e0 e0 b (rdI j) x) (yS rfl (yI O_3 e0 b (rdI j) x) QSn)))))))))))) ?_)
   refine Lc1 rfl ?_
   refine Lk wn (yCall FN_10 (a2 e0 e0)) (sparsekit_Place_ok f3 b) ?_
   rintro _ w ⟨rfl, b⟩
   refine ⟨_, rfl, ?_⟩
   refine Dn [] [0, 14, 15, 16, 17, 18] [19] (Rn (yS rfl (m_ o.v (eh u)) (yS rfl (m_ i.v (eh r)) (yS rfl (m_ (iV h) (eh t)) (yS rfl (yadd e0 rfl) (yS rfl (yIa SL_22 e0 e0 b (rdI j) x) (yS rfl (yI O_3 e0 b (rdI j) x) QSn)))))) ?_)
   refine Lc1 rfl ?_
   refine Lk wn (yCall FN_33 (a1 e0)) (sparsemake_Value_ok f4 W b) ?_
   rintro _ w ⟨rfl, b⟩
   refine ⟨_, rfl, ?_⟩
   refine Dn [20] [0] [21] (yR rfl (ybuild (us := [iV A, iV B, .int .u64 C]) [(0, iV A), (1, iV B), (2, .int .u64 C)] SO_49 (bp3 e0 e0 e0) rfl) (Rn (yS rfl (m_ o.v (eh u)) QSn) ?_))
   refine Lc1 rfl ?_
   refine LH wn (rLt (n := 1) (l := [(A, B, C)]) b SL_44 [.agg #[iV A, iV B, .int .u64 C]] (bp1 e0) rfl rfl (mks1 (cs := [iV A, iV B, .int .u64 C]) rfl (mkF rfl) mks0)) fun h8 w b => Dn [] [0] [22] (Rn (yS rfl (m_ o.v (eh u)) QSn) ?_)
   refine Lc1 rfl ?_
   replace b := b.k17
   refine LH wn (rAp b SL_44 e0 e0 rO1 f5) fun f6 w b => Dn [] [] [23] (Rn QSn ?_)
   refine Lc1 rfl ?_
   refine Ly wn (a_ f6.v e0) (Dz [] [] (Rn QSn (f1 _ _ _ (f0 _ _ (wR (Ym (iV h) (eh t) (yY (yadd e0 rfl) (Ya (iV (wa .i64 h 3)) e0 (wN ?_)))))))))
   cases c
   exact e3 _ _ _ rfl ⟨_, _, _, _, rfl, rfl, z, r, b3, rfl, rfl, (b.k1g)⟩
  ·refine wp_exit (e6 _ _ _ rfl ?_)
   cases c
   exact e4 _ _ _ _ rfl rfl (d7 _ _ _ _ z b3 u b (e2 _ rfl))
 replace b := b.rowNh 49 rTi64i64u64
 refine loopQ (fun s a w => ∃ (T : List (Int × Int × Int)) (d : Int) (f : FV) (J : Hdr), (T, d) = s ∧ a = fr 63 f ∧ f 0 = iV g ∧ f 1 = i.v ∧ f 4 = (pB m) ∧ f 5 = J.v ∧ f 6 = iV d ∧ St w0 ros (box m 27 [iV 0, iV 0, hnil.v, hnil.v, hnil.v] :: row 49 rTi64i64u64 J.v T :: rs) w) c6 ⟨_, _, _, _, rfl, rfl, rfl, rfl, rfl, rfl, rfl, (b.k11)⟩ ?_
 rintro _ _ w h9 ⟨T, d, f, J, rfl, rfl, U, V, b6, b7, D, b⟩ k f7 i0 f8 f9
 refine seqQ fun i1 g0 g1 => sR fun _ g2 => Ym (iV d) (eh D) (Ym (iV g) (eh U) (yY (ylss e0 e0) (wK g2 ?_)))
 refine cIf e0 k (fun g3 k => ?_) fun g3 k => ?_
 ·refine wp_skip (g0 _ _ (sQ fun _ g4 => blockQ fun _ g5 => wR (Ym J.v (eh b7) (Ym (iV d) (eh D) (Ym (iV d) (eh D) (Ym i.v (eh V) (Ym (iV d) (eh D) (bE k fun i2 g6 k => yC (yCall FN_35 (a2 e0 e0)) (sparsemake_At_ok g6 j b) ?_))))))))
  rintro _ w ⟨rfl, b⟩
  refine ⟨_, rfl, ?_⟩
  refine yY (yadd e0 rfl) (bE k fun E g7 k => yC (yCall FN_33 (a1 e0)) (sparsemake_Value_ok g7 W b) ?_)
  rintro _ w ⟨rfl, b⟩
  refine ⟨_, rfl, ?_⟩
  refine yY (ybuild (us := [iV d, iV d, .int .u64 E]) [(0, iV d), (1, iV d), (2, .int .u64 E)] SO_49 (bp3 e0 e0 e0) rfl) (yH (rLt (n := 1) (l := [(d, d, E)]) b SL_44 [.agg #[iV d, iV d, .int .u64 E]] (bp1 e0) rfl rfl (mks1 (cs := [iV d, iV d, .int .u64 E]) rfl (mkF rfl) mks0)) fun i3 w b => bE k fun i4 g8 k => yH (rAp (b.k17) SL_44 e0 e0 rO1 g8) fun g9 w b => Ya g9.v e0 (wN (g5 _ _ _ (g4 _ _ (wR (Ym (iV d) (eh D) (yY (yadd e0 rfl) (Ya (iV (wa .i64 d 1)) e0 ?_))))))))
  refine wN ?_
  cases k
  exact f8 _ _ _ rfl ⟨_, _, _, _, rfl, rfl, U, V, b6, rfl, rfl, (b.k1g)⟩
 ·refine wp_exit (g1 _ _ _ rfl ?_)
  cases k
  exact f9 _ _ _ _ rfl rfl (c7 _ _ _ _ U V b6 b7 b (f7 _ rfl))
theorem sparseref03_IsFinite_ok {a : Int} {out : Bool} (b : sparseref03_IsFinite a = some out) (c : St w0 ros rs w) :
  Calls Tryz.prog 87 #[.int .u64 a] w (fun e w => e = .returned (.bool out) ∧ St w0 ros rs w) := by
 refine enterQ Tryz.func87 rfl Tryz.ntmps87 rfl fun Q d => sR fun _ f => Ya (.bool false) rfl (wK f (sR fun _ g => Ym (.int .u64 a) e0 (yY (yshrc e0 rfl) (yY (yand e0 rfl) (yY (yneq e0 rfl) (Ya (.bool (!(decide ((wand .u64 (wsrc .u64 a 52) 2047) = 2047)))) e0 (wN ?_)))))))
 refine g _ _ (wp_ret ?_)
 cases b
 exact d _ _ _ (fin1r Tryz.results87 ⟨rfl, rfl⟩ ⟨rfl, c⟩)
theorem sparseref06_Finite_ok {m : LI} {g : Hdr} {out : Bool} (h : sparseref06_Finite m = some out) (i : imm (rI .u64) g.v m ∈ ros) (b : St w0 ros rs w) :
  Calls Tryz.prog 63 #[g.v] w (fun e w => e = .returned (.bool out) ∧ St w0 ros rs w) := by
 refine enterQ Tryz.func63 rfl Tryz.ntmps63 rfl fun Q n => sR fun _ y => Ya (.bool false) rfl (wK y (seqQ fun U z A => sR fun _ B => Ya (iV 0) rfl (wK B (blockQ fun o p => bE h fun q C h => ?_))))
 have D : ∀ (f : FV) w, St w0 ros rs w → .inl () = q → o (.exit 0) (fr 16 f) w := by
  intro f w b ho
  subst ho
  refine p _ _ _ (z _ _ (sR fun _ E => Ya (.bool true) rfl (wK E (wp_ret ?_))))
  cases h
  exact n _ _ _ (fin1r Tryz.results63 ⟨rfl, rfl⟩ ⟨rfl, b⟩)
 have F : ∀ (f : FV) w, f 2 = .bool false → St w0 ros rs w → .inr () = q → o .ret (fr 16 f) w := by
  intro f w G b ho
  subst ho
  refine p _ _ _ (A _ _ _ rfl ?_)
  cases h
  exact n _ _ _ (fin1r Tryz.results63 ⟨rfl, G⟩ ⟨rfl, b⟩)
 refine loopQ (fun s a w => ∃ (d : Int) (f : FV), d = s ∧ a = fr 16 f ∧ f 0 = g.v ∧ f 3 = iV d ∧ St w0 ros rs w) C ⟨_, _, rfl, rfl, rfl, rfl, b⟩ ?_
 rintro _ _ w V ⟨d, f, rfl, rfl, j, k, b⟩ c r W H t
 refine seqQ fun X I J => sR fun _ K => Ym (iV d) (eh k) (Ym g.v (eh j) (yY (yLen SL_25 e0 b (rdI i)) (yY (ylss e0 e0) (wK K ?_))))
 refine cIf e0 c (fun L c => ?_) fun L c => ?_
 ·refine wp_skip (I _ _ (seqQ fun Z N O => blockQ fun _ u => sR fun _ R => Ym g.v (eh j) (Ym (iV d) (eh k) (bE c fun a0 x c => yY (yIa SL_25 e0 e0 b (rdI i) x) (yY (yI O_47 e0 b (rdI i) x) (bE c fun a2 S c => yC (yCall FN_87 (a1 e0)) (sparseref03_IsFinite_ok S b) ?_))))))
  rintro _ w ⟨rfl, b⟩
  refine ⟨_, rfl, ?_⟩
  refine yY (ynot e0) (wK R ?_)
  rcases iteS c with ⟨l, c⟩ | ⟨l, c⟩
  ·refine condF e0 (nF l) (wp_skip (u _ _ _ (N _ _ (wR (Ym (iV d) (eh k) (yY (yadd e0 rfl) (Ya (iV (wa .i64 d 1)) e0 (wN ?_))))))))
   cases c
   exact H _ _ _ rfl ⟨_, _, rfl, rfl, j, rfl, b⟩
  ·refine condT e0 (nT (bfalse l)) (sR fun _ T => Ya (.bool false) rfl (wK T (wp_ret (u _ _ _ (O _ _ _ rfl ?_)))))
   cases c
   exact t _ _ _ _ rfl rfl (F _ _ rfl b (r _ rfl))
 ·refine wp_exit (J _ _ _ rfl ?_)
  cases c
  exact t _ _ _ _ rfl rfl (D _ _ b (r _ rfl))
theorem sparseref09_Check_ok {c d : Int} {a2 A W : LI} {l i r : Hdr} {out : Int} (m : sparseref09_Check c d a2 A W = some out) (x : imm I1 l.v a2 ∈ ros) (o : imm I1 i.v A ∈ ros) (b8 : imm (rI .u64) r.v W ∈ ros) (b : St w0 ros rs w) :
  Calls Tryz.prog 40 #[.agg #[iV c, iV d, l.v, i.v, r.v]] w (fun e w => e = .returned (iV out) ∧ St w0 ros rs w) := by
 refine enterQ Tryz.func40 rfl Tryz.ntmps40 rfl fun Q X => sR fun _ g0 => yBb (r_box (vals := [iV c, iV d, l.v, i.v, r.v]) b e0 rfl) fun j w b => Ya (iV 0) rfl (wK g0 (seqQ fun r3 g1 g2 => sR fun _ g3 => yY (yFb FL_27_0 e0) (yY (lb_ (iV c) O_3 e0 b R0) (yY (ylss e0 rfl) ?_))))
 refine Ym (.bool (decide (c < 0))) e0 ?_
 refine joinW 4 (fun f w => f 1 = (pB j) ∧ f 14 = .bool ((decide (c < 0)) || (decide ((200 : Int) < c))) ∧ St w0 ros (box j 27 [iV c, iV d, l.v, i.v, r.v] :: rs) w) (fun c0 => ?_) ?_
 ·rcases Bool.eq_false_or_eq_true (decide (c < 0)) with F | F
  ·exact gN F (gN F (gN F (yY (pt_ (.bool true) e0 F rfl) (c0 _ _ ⟨rfl, (congrArg Value.bool (orT F)), b⟩))))
  ·exact yG F (yFb FL_27_0 e0) (yG F (lb_ (iV c) O_3 e0 b R0) (yG F (ygtr e0 rfl) (yY (pf_ (.bool (decide ((200 : Int) < c))) e0 F e0) (c0 _ _ ⟨rfl, (congrArg Value.bool (orF F)), b⟩))))
 rintro f w ⟨b1, g4, b⟩
 refine Ym (.bool ((decide (c < 0)) || (decide ((200 : Int) < c)))) (eh g4) ?_
 refine joinW 4 (fun f w => f 1 = (pB j) ∧ f 19 = .bool (((decide (c < 0)) || (decide ((200 : Int) < c))) || (decide (d < 0))) ∧ St w0 ros (box j 27 [iV c, iV d, l.v, i.v, r.v] :: rs) w) (fun c1 => ?_) ?_
 ·rcases Bool.eq_false_or_eq_true ((decide (c < 0)) || (decide ((200 : Int) < c))) with G | G
  ·exact gN G (gN G (gN G (yY (pt_ (.bool true) e0 G rfl) (c1 _ _ ⟨b1, (congrArg Value.bool (orT G)), b⟩))))
  ·exact yG G (yFb FL_27_1 (eh b1)) (yG G (lb_ (iV d) O_3 e0 b R0) (yG G (ylss e0 rfl) (yY (pf_ (.bool (decide (d < 0))) e0 G e0) (c1 _ _ ⟨b1, (congrArg Value.bool (orF G)), b⟩))))
 rintro f w ⟨b2, g5, b⟩
 refine Ym (.bool (((decide (c < 0)) || (decide ((200 : Int) < c))) || (decide (d < 0)))) (eh g5) ?_
 refine joinW 4 (fun f w => f 1 = (pB j) ∧ f 24 = .bool ((((decide (c < 0)) || (decide ((200 : Int) < c))) || (decide (d < 0))) || (decide ((200 : Int) < d))) ∧ St w0 ros (box j 27 [iV c, iV d, l.v, i.v, r.v] :: rs) w) (fun c2 => ?_) ?_
 ·rcases Bool.eq_false_or_eq_true (((decide (c < 0)) || (decide ((200 : Int) < c))) || (decide (d < 0))) with H | H
  ·exact gN H (gN H (gN H (yY (pt_ (.bool true) e0 H rfl) (c2 _ _ ⟨b2, (congrArg Value.bool (orT H)), b⟩))))
  ·exact yG H (yFb FL_27_1 (eh b2)) (yG H (lb_ (iV d) O_3 e0 b R0) (yG H (ygtr e0 rfl) (yY (pf_ (.bool (decide ((200 : Int) < d))) e0 H e0) (c2 _ _ ⟨b2, (congrArg Value.bool (orF H)), b⟩))))
 rintro f w ⟨b3, g6, b⟩
 refine Ym (.bool ((((decide (c < 0)) || (decide ((200 : Int) < c))) || (decide (d < 0))) || (decide ((200 : Int) < d)))) (eh g6) ?_
 refine joinW 5 (fun f w => f 1 = (pB j) ∧ f 30 = .bool (((((decide (c < 0)) || (decide ((200 : Int) < c))) || (decide (d < 0))) || (decide ((200 : Int) < d))) || (decide ((10000 : Int) < (A.length : Int)))) ∧ St w0 ros (box j 27 [iV c, iV d, l.v, i.v, r.v] :: rs) w) (fun c3 => ?_) ?_
 ·rcases Bool.eq_false_or_eq_true ((((decide (c < 0)) || (decide ((200 : Int) < c))) || (decide (d < 0))) || (decide ((200 : Int) < d))) with B | B
  ·exact gN B (gN B (gN B (gN B (yY (pt_ (.bool true) e0 B rfl) (c3 _ _ ⟨b3, (congrArg Value.bool (orT B)), b⟩)))))
  ·exact yG B (yFb FL_27_3 (eh b3)) (yG B (lb_ i.v O_22 e0 b R0) (yG B (yLen SL_22 e0 b (rdI o)) (yG B (ygtr e0 rfl) (yY (pf_ (.bool (decide ((10000 : Int) < (A.length : Int)))) e0 B e0) (c3 _ _ ⟨b3, (congrArg Value.bool (orF B)), b⟩)))))
 rintro f w ⟨Z, g7, b⟩
 refine wK g3 (cB (eh g7) m (fun g8 m => ?_) fun g8 m => ?_)
 ·refine sR fun _ g9 => Ya (iV 6) rfl (wK g9 (wp_ret (g2 _ _ _ rfl ?_)))
  cases m
  exact X _ _ _ (fin1r Tryz.results40 ⟨rfl, rfl⟩ ⟨rfl, (b.k10)⟩)
 ·refine wp_skip (g1 _ _ (sR fun _ h0 => yY (yFb FL_27_3 (eh Z)) (yY (lb_ i.v O_22 e0 b R0) (yY (yLen SL_22 e0 b (rdI o)) (Ya (iV (A.length : Int)) e0 (wK h0 (seqQ fun r4 h1 h2 => sR fun _ h3 => yY (yFb FL_27_4 (eh Z)) ?_)))))))
  refine yY (lb_ r.v O_25 e0 b R0) (yY (yLen SL_25 e0 b (rdI b8)) (Ym (iV (A.length : Int)) e0 (yY (yneq e0 e0) (Ym (.bool (!(decide ((W.length : Int) = (A.length : Int))))) e0 ?_))))
  refine joinW 8 (fun f w => f 1 = (pB j) ∧ f 3 = iV (A.length : Int) ∧ f 47 = .bool ((!(decide ((W.length : Int) = (A.length : Int)))) || (!(decide ((a2.length : Int) = (wa .i64 d 1))))) ∧ St w0 ros (box j 27 [iV c, iV d, l.v, i.v, r.v] :: rs) w) (fun c4 => ?_) ?_
  ·rcases Bool.eq_false_or_eq_true (!(decide ((W.length : Int) = (A.length : Int)))) with t | t
   ·exact gN t (gN t (gN t (gN t (gN t (gN t (gN t (yY (pt_ (.bool true) e0 t rfl) (c4 _ _ ⟨Z, rfl, (congrArg Value.bool (orT t)), b⟩))))))))
   ·exact yG t (yFb FL_27_2 (eh Z)) (yG t (lb_ l.v O_22 e0 b R0) (yG t (yLen SL_22 e0 b (rdI x)) (yG t (yFb FL_27_1 (eh Z)) (yG t (lb_ (iV d) O_3 e0 b R0) (yG t (yadd e0 rfl) (yG t (yneq e0 e0) (yY (pf_ (.bool (!(decide ((a2.length : Int) = (wa .i64 d 1))))) e0 t e0) (c4 _ _ ⟨Z, rfl, (congrArg Value.bool (orF t)), b⟩))))))))
  rintro f w ⟨b4, c5, h5, b⟩
  refine Ym (.bool ((!(decide ((W.length : Int) = (A.length : Int)))) || (!(decide ((a2.length : Int) = (wa .i64 d 1)))))) (eh h5) (bE m fun c6 T m => ?_)
  refine joinW 6 (fun f w => f 1 = (pB j) ∧ f 3 = iV (A.length : Int) ∧ f 54 = .bool c6 ∧ St w0 ros (box j 27 [iV c, iV d, l.v, i.v, r.v] :: rs) w) (fun c7 => ?_) ?_
  ·rcases iteS T with ⟨C, T⟩ | ⟨C, T⟩
   ·refine gN C (gN C (gN C (gN C (gN C (yY (pt_ (.bool true) e0 C rfl) ?_)))))
    cases T
    exact c7 _ _ ⟨b4, c5, rfl, b⟩
   ·refine yG (bfalse C) (yFb FL_27_2 (eh b4)) (yG (bfalse C) (lb_ l.v O_22 e0 b R0) (bE T fun h7 c8 T => yG (bfalse C) (yIa SL_22 e0 rfl b (rdI x) c8) (yG (bfalse C) (yI O_3 e0 b (rdI x) c8) (yG (bfalse C) (yneq e0 rfl) (yY (pf_ (.bool (!(decide (h7 = 0)))) e0 (bfalse C) e0) ?_)))))
    cases T
    exact c7 _ _ ⟨b4, c5, rfl, b⟩
  rintro f w ⟨a5, h9, i0, b⟩
  refine Ym (.bool c6) (eh i0) (bE m fun i1 U m => ?_)
  refine joinW 9 (fun f w => f 1 = (pB j) ∧ f 64 = .bool i1 ∧ St w0 ros (box j 27 [iV c, iV d, l.v, i.v, r.v] :: rs) w) (fun c9 => ?_) ?_
  ·rcases iteS U with ⟨u, U⟩ | ⟨u, U⟩
   ·refine gN u (gN u (gN u (gN u (gN u (gN u (gN u (gN u (yY (pt_ (.bool true) e0 u rfl) ?_))))))))
    cases U
    exact c9 _ _ ⟨a5, rfl, b⟩
   ·refine yG (bfalse u) (yFb FL_27_2 (eh a5)) (yG (bfalse u) (lb_ l.v O_22 e0 b R0) (yG (bfalse u) (yFb FL_27_1 (eh a5)) (yG (bfalse u) (lb_ (iV d) O_3 e0 b R0) (bE U fun i2 d0 U => yG (bfalse u) (yIa SL_22 e0 e0 b (rdI x) d0) (yG (bfalse u) (yI O_3 e0 b (rdI x) d0) (yG (bfalse u) (m_ (iV (A.length : Int)) (eh h9)) (yG (bfalse u) (yneq e0 e0) (yY (pf_ (.bool (!(decide (i2 = (A.length : Int))))) e0 (bfalse u) e0) ?_))))))))
    cases U
    exact c9 _ _ ⟨a5, rfl, b⟩
  rintro f w ⟨i3, i4, b⟩
  refine wK h3 (cB (eh i4) m (fun i5 m => ?_) fun i5 m => ?_)
  ·refine sR fun _ i6 => Ya (iV 1) rfl (wK i6 (wp_ret (h2 _ _ _ rfl ?_)))
   cases m
   exact X _ _ _ (fin1r Tryz.results40 ⟨rfl, rfl⟩ ⟨rfl, (b.k10)⟩)
  ·refine wp_skip (h1 _ _ (seqQ fun r5 i7 i8 => sR fun _ i9 => Ya (iV 0) rfl (wK i9 (blockQ fun d1 d2 => bE m fun d3 j0 m => ?_))))
   have j8 : ∀ (f : FV) w, f 1 = (pB j) → St w0 ros (box j 27 [iV c, iV d, l.v, i.v, r.v] :: rs) w → .inl () = d3 → d1 (.exit 0) (fr 147 f) w := by
    intro f w j9 b ho
    subst ho
    refine d2 _ _ _ (i7 _ _ (seqQ fun r6 k0 l0 => sR fun _ l1 => Ya (iV 0) rfl (wK l1 (blockQ fun d4 d5 => bE m fun d6 l2 m => ?_))))
    have l3 : ∀ (f : FV) w, f 1 = (pB j) → St w0 ros (box j 27 [iV c, iV d, l.v, i.v, r.v] :: rs) w → .inl () = d6 → d4 (.exit 2) (fr 147 f) w := by
     intro f w l4 b ho
     subst ho
     refine d5 _ _ _ (k0 _ _ (seqQ fun r7 l5 l6 => sR fun _ l7 => yY (yFb FL_27_4 (eh l4)) (yY (lb_ r.v O_25 e0 b R0) (bE m fun r8 l8 m => yC (yCall FN_63 (a1 e0)) (sparseref06_Finite_ok l8 b8 b) ?_))))
     rintro _ w ⟨rfl, b⟩
     refine ⟨_, rfl, ?_⟩
     refine yY (ynot e0) (wK l7 ?_)
     rcases iteS m with ⟨b5, m⟩ | ⟨b5, m⟩
     ·refine condF e0 (nF b5) (wp_skip (l5 _ _ (sR fun _ l9 => Ya (iV 0) rfl (wK l9 (wp_ret ?_)))))
      cases m
      exact X _ _ _ (fin1r Tryz.results40 ⟨rfl, rfl⟩ ⟨rfl, (b.k10)⟩)
     ·refine condT e0 (nT (bfalse b5)) (sR fun _ m0 => Ya (iV 4) rfl (wK m0 (wp_ret (l6 _ _ _ rfl ?_))))
      cases m
      exact X _ _ _ (fin1r Tryz.results40 ⟨rfl, rfl⟩ ⟨rfl, (b.k10)⟩)
    have m1 : ∀ (f : FV) w, f 2 = iV 1 → St w0 ros rs w → .inr () = d6 → d4 .ret (fr 147 f) w := by
     intro f w m2 b ho
     subst ho
     refine d5 _ _ _ (l0 _ _ _ rfl ?_)
     cases m
     exact X _ _ _ (fin1r Tryz.results40 ⟨rfl, m2⟩ ⟨rfl, b⟩)
    refine loopQ (fun s a w => ∃ (D : Int) (f : FV), D = s ∧ a = fr 147 f ∧ f 1 = (pB j) ∧ f 5 = iV D ∧ St w0 ros (box j 27 [iV c, iV d, l.v, i.v, r.v] :: rs) w) l2 ⟨_, _, rfl, rfl, j9, rfl, b⟩ ?_
    rintro _ _ w r9 ⟨D, f, rfl, rfl, a6, b6, b⟩ K d7 s0 m3 d8
    refine seqQ fun s1 m4 m5 => sR fun _ m6 => Ym (iV D) (eh b6) (yY (yFb FL_27_1 (eh a6)) (yY (lb_ (iV d) O_3 e0 b R0) (yY (ylss e0 e0) (wK m6 ?_))))
    refine cIf e0 K (fun m7 K => ?_) fun m7 K => ?_
    ·refine wp_skip (m4 _ _ (seqQ fun s2 m8 m9 => blockQ fun _ d9 => sR fun _ n0 => yY (yFb FL_27_2 (eh a6)) (yY (lb_ l.v O_22 e0 b R0) (Ym (iV D) (eh b6) (bE K fun n1 e1 K => yY (yIa SL_22 e0 e0 b (rdI x) e1) (yY (yI O_3 e0 b (rdI x) e1) (Ya (iV n1) e0 (wN ?_))))))))
     refine n0 _ _ (blockQ fun e2 e3 => bE K fun e4 n2 K => ?_)
     have n3 : ∀ (f : FV) w, f 1 = (pB j) → f 5 = iV D → St w0 ros (box j 27 [iV c, iV d, l.v, i.v, r.v] :: rs) w → .inl () = e4 → e2 (.exit 4) (fr 147 f) w := by
      intro f w n4 n5 b ho
      subst ho
      refine e3 _ _ _ (d9 _ _ _ (m8 _ _ (wR (Ym (iV D) (eh n5) (yY (yadd e0 rfl) (Ya (iV (wa .i64 D 1)) e0 (wN ?_)))))))
      cases K
      exact m3 _ _ _ rfl ⟨_, _, rfl, rfl, n4, rfl, b⟩
     have n6 : ∀ (f : FV) w, f 2 = iV 1 → St w0 ros rs w → .inr () = e4 → e2 .ret (fr 147 f) w := by
      intro f w n7 b ho
      subst ho
      refine e3 _ _ _ (d9 _ _ _ (m9 _ _ _ rfl ?_))
      cases K
      exact d8 _ _ _ _ rfl rfl (m1 _ _ n7 b (d7 _ rfl))
     refine loopQ (fun s a w => ∃ (p : Int) (f : FV), p = s ∧ a = fr 147 f ∧ f 1 = (pB j) ∧ f 5 = iV D ∧ f 6 = iV p ∧ St w0 ros (box j 27 [iV c, iV d, l.v, i.v, r.v] :: rs) w) n2 ⟨_, _, rfl, rfl, a6, b6, rfl, b⟩ ?_
     rintro _ _ w s3 ⟨p, f, rfl, rfl, q, O, z, b⟩ y e5 s4 n9 e6
     refine seqQ fun s5 o0 o1 => sR fun _ o2 => Ym (iV p) (eh z) (yY (yFb FL_27_2 (eh q)) (yY (lb_ l.v O_22 e0 b R0) (Ym (iV D) (eh O) (yY (yadd e0 rfl) (bE y fun s6 e7 y => yY (yIa SL_22 e0 e0 b (rdI x) e7) (yY (yI O_3 e0 b (rdI x) e7) (yY (ylss e0 e0) (wK o2 ?_))))))))
     refine cIf e0 y (fun o3 y => ?_) fun o3 y => ?_
     ·refine wp_skip (o0 _ _ (seqQ fun s7 o4 o5 => blockQ fun _ e8 => sQ fun _ o6 => bE y fun a7 R y => bE y fun L V y => bE y fun a3 I y => ?_))
      refine joinN (n := 147) (fun f w => f 1 = (pB j) ∧ f 5 = iV D ∧ f 6 = iV p ∧ f 142 = .bool a3 ∧ St w0 ros (box j 27 [iV c, iV d, l.v, i.v, r.v] :: rs) w) (fun a8 => ?_) ?_
      ·rcases iteS V with ⟨g, V⟩ | ⟨g, V⟩
       ·have e9 := someI V
        have J : L = true := e9.symm
        rw [if_pos J] at I
        have o7 := someI I
        refine dR [0, 1, 0, 7, 15, 31, 63, 127, 255, 127, 1023, 2047, 127, 4223, 16383, 32767, 65535, 131071, 131071, 393215, 131071, 1966079, 4063231, 8388607, 16777215, 33554431, 67108863, 33554431, 268435455, 536870911, 33554431, 1107296255, 33554431, 4328521727, 16139681791, 33319550975, 68719476735, 137438953471, 274877906943] [] 0 folM ?_
        replace b := b.drew
        refine Dz [0, 1, 2, 3, 4, 5, 6, 7, 8, 9, 10, 11, 12, 13, 14, 15, 16, 17, 18, 19, 20, 21, 22, 23, 24, 25, 26, 27, 28, 29, 30, 31, 32, 33, 34, 35, 36, 37, 38] [] (yR rfl (yFb FL_27_3 (eh q)) (yR rfl (lb_ i.v O_22 e0 b R0) (yR rfl (m_ (iV p) (eh z)) (yR rfl (yIa SL_22 e0 e0 b (rdI o) R) (yR rfl (yI O_3 e0 b (rdI o) R) (yR rfl (ylss e0 rfl) (yR rfl (m_ (.bool (decide (a7 < 0))) e0) (Rx rfl rfl (wX (dT g)) (Rx rfl rfl (wX (dT g)) (Rx rfl rfl (wX (dT g)) (Rx rfl rfl (wX (dT g)) (Rx rfl rfl (wX (dT g)) (Rx rfl rfl (wX (dT g)) ?_)))))))))))))
        refine Rx rfl rfl (wX (dT g)) (Rx rfl rfl (wX (dT g)) (yR rfl (pt_ (.bool L) e0 (dT g) (eqv e9 rfl)) (yR rfl (m_ (.bool L) e0) (Rx rfl rfl (wX J) (Rx rfl rfl (wX J) (Rx rfl rfl (wX J) (Rx rfl rfl (wX J) (Rx rfl rfl (wX J) (Rx rfl rfl (wX J) (Rx rfl rfl (wX J) (Rx rfl rfl (wX J) (Rx rfl rfl (wxu rfl rfl rfl) (Rx rfl rfl (wxu rfl rfl rfl) ?_)))))))))))))
        exact Rx rfl rfl (wxu rfl rfl rfl) (Rx rfl rfl (wxu rfl rfl rfl) (Rx rfl rfl (wxu rfl rfl rfl) (Rx rfl rfl (wxu rfl rfl rfl) (Rx rfl rfl (wxu rfl rfl rfl) (Rx rfl rfl (wxu rfl rfl rfl) (Rx rfl rfl (wxu rfl rfl rfl) (Rx rfl rfl (wxu rfl rfl rfl) (Rx rfl rfl (wxu rfl rfl rfl) (Rx rfl rfl (wxu rfl rfl rfl) (Rx rfl rfl (wX J) (yR rfl (pt_ (.bool a3) e0 J (eqv o7 rfl)) (Rn QSn (a8 _ _ ⟨q, O, z, rfl, b⟩)))))))))))))
       ·refine bE V fun s8 a0 V => ?_
        have b7 := someI V
        rcases iteS I with ⟨h, I⟩ | ⟨h, I⟩
        ·have o9 := someI I
         refine dR [0, 1, 0, 7, 15, 31, 63, 127, 255, 127, 1023, 2047, 127, 4223, 16383, 32767, 65535, 131071, 131071, 393215, 131071, 1966079, 4063231, 8388607, 16777215, 33554431, 67108863, 33554431, 268435455, 536870911, 33554431, 1107296255, 33554431, 4328521727, 16139681791, 33319550975, 68719476735, 137438953471, 274877906943] [] 0 folM ?_
         replace b := b.drew
         refine Dz [0, 1, 2, 3, 4, 5, 6, 7, 8, 9, 10, 11, 12, 13, 14, 15, 16, 17, 18, 19, 20, 21, 22, 23, 24, 25, 26, 27, 28, 29, 30, 31, 32, 33, 34, 35, 36, 37, 38] [] (yR rfl (yFb FL_27_3 (eh q)) (yR rfl (lb_ i.v O_22 e0 b R0) (yR rfl (m_ (iV p) (eh z)) (yR rfl (yIa SL_22 e0 e0 b (rdI o) R) (yR rfl (yI O_3 e0 b (rdI o) R) (yR rfl (ylss e0 rfl) (yR rfl (m_ (.bool (decide (a7 < 0))) e0) (Ry rfl rfl (wG (dF g)) (yFb FL_27_3 (eh q)) (Ry rfl rfl (wG (dF g)) (lb_ i.v O_22 e0 b R0) (Ry rfl rfl (wG (dF g)) (m_ (iV p) (eh z)) (Ry rfl rfl (wG (dF g)) (yIa SL_22 e0 e0 b (rdI o) a0) (Ry rfl rfl (wG (dF g)) (yI O_3 e0 b (rdI o) a0) (Ry rfl rfl (wG (dF g)) (yFb FL_27_0 (eh q)) ?_)))))))))))))
         refine Ry rfl rfl (wG (dF g)) (lb_ (iV c) O_3 e0 b R0) (Ry rfl rfl (wG (dF g)) (ygeq e0 e0) (yR rfl (pf_ (.bool L) e0 (dF g) (eqv b7 e0)) (yR rfl (m_ (.bool L) e0) (Rx rfl rfl (wX h) (Rx rfl rfl (wX h) (Rx rfl rfl (wX h) (Rx rfl rfl (wX h) (Rx rfl rfl (wX h) (Rx rfl rfl (wX h) (Rx rfl rfl (wX h) (Rx rfl rfl (wX h) (Rx rfl rfl (wxu rfl rfl rfl) (Rx rfl rfl (wxu rfl rfl rfl) ?_)))))))))))))
         exact Rx rfl rfl (wxu rfl rfl rfl) (Rx rfl rfl (wxu rfl rfl rfl) (Rx rfl rfl (wxu rfl rfl rfl) (Rx rfl rfl (wxu rfl rfl rfl) (Rx rfl rfl (wxu rfl rfl rfl) (Rx rfl rfl (wxu rfl rfl rfl) (Rx rfl rfl (wxu rfl rfl rfl) (Rx rfl rfl (wxu rfl rfl rfl) (Rx rfl rfl (wxu rfl rfl rfl) (Rx rfl rfl (wxu rfl rfl rfl) (Rx rfl rfl (wX h) (yR rfl (pt_ (.bool a3) e0 h (eqv o9 rfl)) (Rn QSn (a8 _ _ ⟨q, O, z, rfl, b⟩)))))))))))))
        ·refine bE I fun f0 a9 I => bE I fun f1 N I => ?_
         have f2 := someI I
         rcases iteS N with ⟨k, N⟩ | ⟨k, N⟩
         ·refine bE N fun s9 f3 N => bE N fun t0 f4 N => ?_
          have p0 := someI N
          refine dR [0, 1, 0, 7, 15, 31, 63, 127, 255, 127, 1023, 2047, 127, 4223, 16383, 32767, 65535, 131071, 131071, 393215, 131071, 1966079, 4063231, 8388607, 16777215, 33554431, 67108863, 33554431, 268435455, 536870911, 33554431, 1107296255, 33554431, 4328521727, 16139681791, 33319550975, 68719476735, 137438953471, 274877906943] [] 0 folM ?_
          replace b := b.drew
          refine Dz [0, 1, 2, 3, 4, 5, 6, 7, 8, 9, 10, 11, 12, 13, 14, 15, 16, 17, 18, 19, 20, 21, 22, 23, 24, 25, 26, 27, 28, 29, 30, 31, 32, 33, 34, 35, 36, 37, 38] [] (yR rfl (yFb FL_27_3 (eh q)) (yR rfl (lb_ i.v O_22 e0 b R0) (yR rfl (m_ (iV p) (eh z)) (yR rfl (yIa SL_22 e0 e0 b (rdI o) R) (yR rfl (yI O_3 e0 b (rdI o) R) (yR rfl (ylss e0 rfl) (yR rfl (m_ (.bool (decide (a7 < 0))) e0) (Ry rfl rfl (wG (dF g)) (yFb FL_27_3 (eh q)) (Ry rfl rfl (wG (dF g)) (lb_ i.v O_22 e0 b R0) (Ry rfl rfl (wG (dF g)) (m_ (iV p) (eh z)) (Ry rfl rfl (wG (dF g)) (yIa SL_22 e0 e0 b (rdI o) a0) (Ry rfl rfl (wG (dF g)) (yI O_3 e0 b (rdI o) a0) (Ry rfl rfl (wG (dF g)) (yFb FL_27_0 (eh q)) ?_)))))))))))))
          refine Ry rfl rfl (wG (dF g)) (lb_ (iV c) O_3 e0 b R0) (Ry rfl rfl (wG (dF g)) (ygeq e0 e0) (yR rfl (pf_ (.bool L) e0 (dF g) (eqv b7 e0)) (yR rfl (m_ (.bool L) e0) (Ry rfl rfl (wG (bfalse h)) (m_ (iV p) (eh z)) (Ry rfl rfl (wG (bfalse h)) (yFb FL_27_2 (eh q)) (Ry rfl rfl (wG (bfalse h)) (lb_ l.v O_22 e0 b R0) (Ry rfl rfl (wG (bfalse h)) (m_ (iV D) (eh O)) (Ry rfl rfl (wG (bfalse h)) (yIa SL_22 e0 e0 b (rdI x) a9) (Ry rfl rfl (wG (bfalse h)) (yI O_3 e0 b (rdI x) a9) (Ry rfl rfl (wG (bfalse h)) (ygtr e0 e0) (Ry rfl rfl (wG (bfalse h)) (m_ (.bool (decide (f0 < p))) e0) (Ry rfl rfl (wG (dT k)) (yFb FL_27_3 (eh q)) (Ry rfl rfl (wG (dT k)) (lb_ i.v O_22 e0 b R0) ?_)))))))))))))
          exact Ry rfl rfl (wG (dT k)) (m_ (iV p) (eh z)) (Ry rfl rfl (wG (dT k)) (yIa SL_22 e0 e0 b (rdI o) f3) (Ry rfl rfl (wG (dT k)) (yI O_3 e0 b (rdI o) f3) (Ry rfl rfl (wG (dT k)) (yFb FL_27_3 (eh q)) (Ry rfl rfl (wG (dT k)) (lb_ i.v O_22 e0 b R0) (Ry rfl rfl (wG (dT k)) (m_ (iV p) (eh z)) (Ry rfl rfl (wG (dT k)) (ysub e0 rfl) (Ry rfl rfl (wG (dT k)) (yIa SL_22 e0 e0 b (rdI o) f4) (Ry rfl rfl (wG (dT k)) (yI O_3 e0 b (rdI o) f4) (Ry rfl rfl (wG (dT k)) (yleq e0 e0) (Ry rfl rfl (wG (bfalse h)) (pt_ (.bool f1) e0 (dT k) (eqv p0 e0)) (yR rfl (pf_ (.bool a3) e0 (bfalse h) (eqv f2 e0)) (Rn QSn (a8 _ _ ⟨q, O, z, rfl, b⟩)))))))))))))
         ·have p1 := someI N
          refine dR [0, 1, 0, 7, 15, 31, 63, 127, 255, 127, 1023, 2047, 127, 4223, 16383, 32767, 65535, 131071, 131071, 393215, 131071, 1966079, 4063231, 8388607, 16777215, 33554431, 67108863, 33554431, 268435455, 536870911, 33554431, 1107296255, 33554431, 4328521727, 16139681791, 33319550975, 68719476735, 137438953471, 274877906943] [] 0 folM ?_
          replace b := b.drew
          refine Dz [0, 1, 2, 3, 4, 5, 6, 7, 8, 9, 10, 11, 12, 13, 14, 15, 16, 17, 18, 19, 20, 21, 22, 23, 24, 25, 26, 27, 28, 29, 30, 31, 32, 33, 34, 35, 36, 37, 38] [] (yR rfl (yFb FL_27_3 (eh q)) (yR rfl (lb_ i.v O_22 e0 b R0) (yR rfl (m_ (iV p) (eh z)) (yR rfl (yIa SL_22 e0 e0 b (rdI o) R) (yR rfl (yI O_3 e0 b (rdI o) R) (yR rfl (ylss e0 rfl) (yR rfl (m_ (.bool (decide (a7 < 0))) e0) (Ry rfl rfl (wG (dF g)) (yFb FL_27_3 (eh q)) (Ry rfl rfl (wG (dF g)) (lb_ i.v O_22 e0 b R0) (Ry rfl rfl (wG (dF g)) (m_ (iV p) (eh z)) (Ry rfl rfl (wG (dF g)) (yIa SL_22 e0 e0 b (rdI o) a0) (Ry rfl rfl (wG (dF g)) (yI O_3 e0 b (rdI o) a0) (Ry rfl rfl (wG (dF g)) (yFb FL_27_0 (eh q)) ?_)))))))))))))
          refine Ry rfl rfl (wG (dF g)) (lb_ (iV c) O_3 e0 b R0) (Ry rfl rfl (wG (dF g)) (ygeq e0 e0) (yR rfl (pf_ (.bool L) e0 (dF g) (eqv b7 e0)) (yR rfl (m_ (.bool L) e0) (Ry rfl rfl (wG (bfalse h)) (m_ (iV p) (eh z)) (Ry rfl rfl (wG (bfalse h)) (yFb FL_27_2 (eh q)) (Ry rfl rfl (wG (bfalse h)) (lb_ l.v O_22 e0 b R0) (Ry rfl rfl (wG (bfalse h)) (m_ (iV D) (eh O)) (Ry rfl rfl (wG (bfalse h)) (yIa SL_22 e0 e0 b (rdI x) a9) (Ry rfl rfl (wG (bfalse h)) (yI O_3 e0 b (rdI x) a9) (Ry rfl rfl (wG (bfalse h)) (ygtr e0 e0) (Ry rfl rfl (wG (bfalse h)) (m_ (.bool (decide (f0 < p))) e0) (Rx rfl rfl (wX (dF k)) (Rx rfl rfl (wX (dF k)) ?_)))))))))))))
          exact Rx rfl rfl (wX (dF k)) (Rx rfl rfl (wX (dF k)) (Rx rfl rfl (wX (dF k)) (Rx rfl rfl (wX (dF k)) (Rx rfl rfl (wX (dF k)) (Rx rfl rfl (wX (dF k)) (Rx rfl rfl (wX (dF k)) (Rx rfl rfl (wX (dF k)) (Rx rfl rfl (wX (dF k)) (Rx rfl rfl (wX (dF k)) (Ry rfl rfl (wG (bfalse h)) (pf_ (.bool f1) e0 (dF k) (eqv p1 rfl)) (yR rfl (pf_ (.bool a3) e0 (bfalse h) (eqv f2 e0)) (Rn QSn (a8 _ _ ⟨q, O, z, rfl, b⟩)))))))))))))
      rintro f w ⟨p2, p3, p4, p5, b⟩
      refine o6 _ _ (cB (eh p5) y (fun p6 y => ?_) fun p6 y => ?_)
      ·refine sR fun _ p7 => Ya (iV 1) rfl (wK p7 (wp_ret (e8 _ _ _ (o5 _ _ _ rfl ?_))))
       cases y
       exact e6 _ _ _ _ rfl rfl (n6 _ _ rfl (b.k10) (e5 _ rfl))
      ·refine wp_skip (e8 _ _ _ (o4 _ _ (wR (Ym (iV p) (eh p4) (yY (yadd e0 rfl) (Ya (iV (wa .i64 p 1)) e0 (wN ?_)))))))
       cases y
       exact n9 _ _ _ rfl ⟨_, _, rfl, rfl, p2, p3, rfl, b⟩
     ·refine wp_exit (o1 _ _ _ rfl ?_)
      cases y
      exact e6 _ _ _ _ rfl rfl (n3 _ _ q O b (e5 _ rfl))
    ·refine wp_exit (m5 _ _ _ rfl ?_)
     cases K
     exact d8 _ _ _ _ rfl rfl (l3 _ _ a6 b (d7 _ rfl))
   have p8 : ∀ (f : FV) w, f 2 = iV 1 → St w0 ros rs w → .inr () = d3 → d1 .ret (fr 147 f) w := by
    intro f w p9 b ho
    subst ho
    refine d2 _ _ _ (i8 _ _ _ rfl ?_)
    cases m
    exact X _ _ _ (fin1r Tryz.results40 ⟨rfl, p9⟩ ⟨rfl, b⟩)
   refine loopQ (fun s a w => ∃ (S : Int) (f : FV), S = s ∧ a = fr 147 f ∧ f 1 = (pB j) ∧ f 4 = iV S ∧ St w0 ros (box j 27 [iV c, iV d, l.v, i.v, r.v] :: rs) w) j0 ⟨_, _, rfl, rfl, i3, rfl, b⟩ ?_
   rintro _ _ w t1 ⟨S, f, rfl, rfl, a4, b0, b⟩ E f5 t2 q0 f6
   refine seqQ fun t3 q4 q5 => sR fun _ q6 => Ym (iV S) (eh b0) (yY (yFb FL_27_1 (eh a4)) (yY (lb_ (iV d) O_3 e0 b R0) (yY (ylss e0 e0) (wK q6 ?_))))
   refine cIf e0 E (fun q7 E => ?_) fun q7 E => ?_
   ·refine wp_skip (q4 _ _ (seqQ fun t4 q8 q9 => blockQ fun _ f7 => sQ fun _ r0 => bE E fun t5 f8 E => bE E fun t6 f9 E => dR [0, 1, 0, 7, 15, 0, 32, 0, 128, 480, 992, 2047] [] 0 folM ?_))
    replace b := b.drew
    refine Dz [0, 1, 2, 3, 4, 5, 6, 7, 8, 9, 10, 11] [] (yR rfl (yFb FL_27_2 (eh a4)) (yR rfl (lb_ l.v O_22 e0 b R0) (yR rfl (m_ (iV S) (eh b0)) (yR rfl (yIa SL_22 e0 e0 b (rdI x) f8) (yR rfl (yI O_3 e0 b (rdI x) f8) (yR rfl (yFb FL_27_2 (eh a4)) (yR rfl (lb_ l.v O_22 e0 b R0) (yR rfl (m_ (iV S) (eh b0)) (yR rfl (yadd e0 rfl) (yR rfl (yIa SL_22 e0 e0 b (rdI x) f9) (yR rfl (yI O_3 e0 b (rdI x) f9) (yR rfl (ygtr e0 e0) (Rn QSn ?_)))))))))))))
    refine r0 _ _ ?_
    refine cIf e0 E (fun r1 E => ?_) fun r1 E => ?_
    ·refine sR fun _ r2 => Ya (iV 1) rfl (wK r2 (wp_ret (f7 _ _ _ (q9 _ _ _ rfl ?_))))
     cases E
     exact f6 _ _ _ _ rfl rfl (p8 _ _ rfl (b.k10) (f5 _ rfl))
    ·refine wp_skip (f7 _ _ _ (q8 _ _ (wR (Ym (iV S) (eh b0) (yY (yadd e0 rfl) (Ya (iV (wa .i64 S 1)) e0 (wN ?_)))))))
     cases E
     exact q0 _ _ _ rfl ⟨_, _, rfl, rfl, a4, rfl, b⟩
   ·refine wp_exit (q5 _ _ _ rfl ?_)
    cases E
    exact f6 _ _ _ _ rfl rfl (j8 _ _ a4 b (f5 _ rfl))
theorem sparseref09_Entries_ok {p j : Int} {R S T : LI} {g k m : Hdr} {out : (List (Int × Int × Int))} (h : sparseref09_Entries p j R S T = some out) (r : imm I1 g.v R ∈ ros) (C : imm I1 k.v S ∈ ros) (D : imm (rI .u64) m.v T ∈ ros) (b : St w0 ros rs w) :
  Calls Tryz.prog 20 #[.agg #[iV p, iV j, g.v, k.v, m.v]] w (fun e w => ∃ (U : Hdr), e = .returned (U.v) ∧ St w0 ros (row 49 rTi64i64u64 U.v out :: rs) w) := by
 refine enterQ Tryz.func20 rfl Tryz.ntmps20 rfl fun Q V => sR fun _ a3 => yBb (r_box (vals := [iV p, iV j, g.v, k.v, m.v]) b e0 rfl) fun q w b => Ya hnil.v rfl (wK a3 (seqQ fun f1 a4 a5 => sR fun _ a6 => yY (lbs_ [iV p, iV j, g.v, k.v, m.v] ST_27 e0 b R0) (bE h fun f2 a7 h => yC (yCall FN_40 (a1 e0)) (sparseref09_Check_ok a7 r C D b) ?_)))
 rintro _ w ⟨rfl, b⟩
 refine ⟨_, rfl, ?_⟩
 refine yY (yneq e0 rfl) (wK a6 ?_)
 rcases iteS h with ⟨E, h⟩ | ⟨E, h⟩
 ·refine condF e0 (nF (dT E)) (wp_skip (a4 _ _ (sR fun _ a8 => Ya hnil.v rfl (wK a8 (sQ fun _ a9 => sR fun _ b0 => Ya (iV 0) rfl (wK b0 ?_))))))
  refine blockQ fun b1 b2 => bE h fun b3 b4 h => ?_
  have b5 : ∀ (F : List (Int × Int × Int)) (t : Hdr) (f : FV) w, f 3 = t.v → St w0 ros (row 49 rTi64i64u64 t.v F :: rs) w → F = b3 → b1 (.exit 0) (fr 46 f) w := by
   intro F t f w b6 b ho
   subst ho
   refine b2 _ _ _ (a9 _ _ (sR fun _ b7 => Ym t.v (eh b6) (Ya t.v e0 (wK b7 (wp_ret ?_)))))
   cases h
   exact V _ _ _ (fin1r Tryz.results20 ⟨rfl, rfl⟩ ⟨_, rfl, b⟩)
  replace b := b.rowNh 49 rTi64i64u64
  refine loopQ (fun s a w => ∃ (G : List (Int × Int × Int)) (c : Int) (f : FV) (H : Hdr), (G, c) = s ∧ a = fr 46 f ∧ f 1 = (pB q) ∧ f 3 = H.v ∧ f 4 = iV c ∧ St w0 ros (box q 27 [iV p, iV j, g.v, k.v, m.v] :: row 49 rTi64i64u64 H.v G :: rs) w) b4 ⟨_, _, _, _, rfl, rfl, rfl, rfl, rfl, (b.k11)⟩ ?_
  rintro _ _ w f3 ⟨G, c, f, H, rfl, rfl, I, W, J, b⟩ i b8 f4 c0 c1
  refine seqQ fun f5 c2 c3 => sR fun _ c4 => Ym (iV c) (eh J) (yY (yFb FL_27_1 (eh I)) (yY (lb_ (iV j) O_3 e0 b R0) (yY (ylss e0 e0) (wK c4 ?_))))
  refine cIf e0 i (fun c5 i => ?_) fun c5 i => ?_
  ·refine wp_skip (c2 _ _ (sQ fun _ c6 => blockQ fun _ c7 => sR fun _ c8 => yY (yFb FL_27_2 (eh I)) (yY (lb_ g.v O_22 e0 b R0) (Ym (iV c) (eh J) (bE i fun c9 X i => yY (yIa SL_22 e0 e0 b (rdI r) X) (yY (yI O_3 e0 b (rdI r) X) (Ya (iV c9) e0 (wN ?_))))))))
   refine c8 _ _ (blockQ fun d0 d1 => bE i fun d2 d3 i => ?_)
   have d4 : ∀ (K : List (Int × Int × Int)) (L : Hdr) (f : FV) w, f 1 = (pB q) → f 3 = L.v → f 4 = iV c → St w0 ros (box q 27 [iV p, iV j, g.v, k.v, m.v] :: row 49 rTi64i64u64 L.v K :: rs) w → K = d2 → d0 (.exit 2) (fr 46 f) w := by
    intro K L f w d5 d6 d7 b ho
    subst ho
    refine d1 _ _ _ (c7 _ _ _ (c6 _ _ (wR (Ym (iV c) (eh d7) (yY (yadd e0 rfl) (Ya (iV (wa .i64 c 1)) e0 (wN ?_)))))))
    cases i
    exact c0 _ _ _ rfl ⟨_, _, _, _, rfl, rfl, d5, d6, rfl, b⟩
   refine loopQ (fun s a w => ∃ (N : List (Int × Int × Int)) (o : Int) (f : FV) (u : Hdr), (N, o) = s ∧ a = fr 46 f ∧ f 1 = (pB q) ∧ f 3 = u.v ∧ f 4 = iV c ∧ f 5 = iV o ∧ St w0 ros (box q 27 [iV p, iV j, g.v, k.v, m.v] :: row 49 rTi64i64u64 u.v N :: rs) w) d3 ⟨_, _, _, _, rfl, rfl, I, W, J, rfl, b⟩ ?_
   rintro _ _ w f6 ⟨N, o, f, u, rfl, rfl, x, O, A, B, b⟩ d d8 f7 d9 e1
   refine seqQ fun f8 e2 e3 => sR fun _ e4 => Ym (iV o) (eh B) (yY (yFb FL_27_2 (eh x)) (yY (lb_ g.v O_22 e0 b R0) (Ym (iV c) (eh A) (yY (yadd e0 rfl) (bE d fun f9 Z d => yY (yIa SL_22 e0 e0 b (rdI r) Z) (yY (yI O_3 e0 b (rdI r) Z) (yY (ylss e0 e0) (wK e4 ?_))))))))
   refine cIf e0 d (fun e5 d => ?_) fun e5 d => ?_
   ·refine wp_skip (e2 _ _ (sQ fun _ e6 => blockQ fun _ e7 => bE d fun y a0 d => bE d fun z a2 d => bE d fun g0 e8 d => dR [0, 0, 2, 0, 14, 30, 0, 0, 128, 0, 896, 1920, 4094, 8190, 16383, 32767] [13, 14, 15] 3 folM ?_))
    replace b := b.drew
    refine Dn [0, 1, 2, 3, 4, 5, 6, 7, 8, 9, 10, 11, 12] [] [13] (yR rfl (m_ u.v (eh O)) (yR rfl (yFb FL_27_3 (eh x)) (yR rfl (lb_ k.v O_22 e0 b R0) (yR rfl (m_ (iV o) (eh B)) (yR rfl (yIa SL_22 e0 e0 b (rdI C) a0) (yR rfl (yI O_3 e0 b (rdI C) a0) (yR rfl (m_ (iV c) (eh A)) (yR rfl (yFb FL_27_4 (eh x)) (yR rfl (lb_ m.v O_25 e0 b R0) (yR rfl (m_ (iV o) (eh B)) (yR rfl (yIa SL_25 e0 e0 b (rdI D) a2) (yR rfl (yI O_47 e0 b (rdI D) a2) (yR rfl (ybuild (us := [iV y, iV c, .int .u64 z]) [(0, iV y), (1, iV c), (2, .int .u64 z)] SO_49 (bp3 e0 e0 e0) rfl) ?_)))))))))))))
    refine Rn QSn ?_
    refine Lc1 rfl ?_
    refine LH wn (rLt (n := 1) (l := [(y, c, z)]) b SL_44 [.agg #[iV y, iV c, .int .u64 z]] (bp1 e0) rfl rfl (mks1 (cs := [iV y, iV c, .int .u64 z]) rfl (mkF rfl) mks0)) fun g1 w b => Dn [] [0] [14] (Rn (yS rfl (m_ u.v (eh O)) QSn) ?_)
    refine Lc1 rfl ?_
    replace b := b.k17
    refine LH wn (rAp b SL_44 e0 e0 rO1 e8) fun e9 w b => Dn [] [] [15] (Rn QSn ?_)
    refine Lc1 rfl ?_
    refine Ly wn (a_ e9.v e0) (Dz [] [] (Rn QSn (e7 _ _ _ (e6 _ _ (wR (Ym (iV o) (eh B) (yY (yadd e0 rfl) (Ya (iV (wa .i64 o 1)) e0 (wN ?_)))))))))
    cases d
    exact d9 _ _ _ rfl ⟨_, _, _, _, rfl, rfl, x, rfl, A, rfl, (b.k1g)⟩
   ·refine wp_exit (e3 _ _ _ rfl ?_)
    cases d
    exact e1 _ _ _ _ rfl rfl (d4 _ _ _ _ x O A b (d8 _ rfl))
  ·refine wp_exit (c3 _ _ _ rfl ?_)
   cases i
   exact c1 _ _ _ _ rfl rfl (b5 _ _ _ _ W (b.k12) (b8 _ rfl))
 ·refine condT e0 (nT (dF E)) (sR fun _ f0 => Ya hnil.v rfl (wK f0 (wp_ret (a5 _ _ _ rfl ?_))))
  cases h
  replace b := b.rowNh 49 rTi64i64u64
  exact V _ _ _ (fin1r Tryz.results20 ⟨rfl, rfl⟩ ⟨_, rfl, (b.k1f)⟩)
theorem sparseref09_Transpose_ok {i j : Int} {B C D : LI} {l m n : Hdr} {out : Int × Int × LI × LI × LI × Int} (d : sparseref09_Transpose i j B C D = some out) (E : imm I1 l.v B ∈ ros) (F : imm I1 m.v C ∈ ros) (G : imm (rI .u64) n.v D ∈ ros) (b : St w0 ros rs w) :
  Calls Tryz.prog 41 #[.agg #[iV i, iV j, l.v, m.v, n.v]] w (fun e w => ∃ (H I J : Hdr), e = .returned (.tuple #[.agg #[iV out.1, iV out.2.1, H.v, I.v, J.v], iV out.2.2.2.2.2]) ∧ St w0 ros (row 3 I1 H.v out.2.2.1 :: row 3 I1 I.v out.2.2.2.1 :: row 47 (rI .u64) J.v out.2.2.2.2.1 :: rs) w) := by
 refine enterQ Tryz.func41 rfl Tryz.ntmps41 rfl fun Q K => sR fun _ X => yBb (r_box (vals := [iV i, iV j, l.v, m.v, n.v]) b e0 rfl) fun q w b => yBb (rAl b ZT_27) fun r w b => Ya (iV 0) rfl (wK X (seqQ fun d7 Z a0 => sR fun _ a2 => yY (lbs_ [iV i, iV j, l.v, m.v, n.v] ST_27 e0 b R1) ?_))
 refine bE d fun t a4 d => yC (yCall FN_40 (a1 e0)) (sparseref09_Check_ok a4 E F G b) ?_
 rintro _ w ⟨rfl, b⟩
 refine ⟨_, rfl, ?_⟩
 refine Ya (iV t) e0 (wK a2 (sR fun _ a5 => Ym (iV t) e0 (yY (yneq e0 rfl) (wK a5 ?_))))
 rcases iteS d with ⟨y, d⟩ | ⟨y, d⟩
 ·refine condF e0 (nF (dT y)) (wp_skip (Z _ _ (sR fun _ a6 => yY (lbs_ [iV i, iV j, l.v, m.v, n.v] ST_27 e0 b R1) (bE d fun d8 a7 d => yC (yCall FN_20 (a1 e0)) (sparseref09_Entries_ok a7 E F G b) ?_))))
  rintro _ w ⟨g, rfl, b⟩
  refine ⟨_, rfl, ?_⟩
  refine Ya g.v e0 (wK a6 (sQ fun _ a8 => sR fun _ a9 => Ya (iV 0) rfl (wK a9 (blockQ fun b0 b1 => bE d fun b2 b3 d => ?_))))
  have b4 : ∀ (z : List (Int × Int × Int)) (f : FV) w, f 1 = (pB q) → f 2 = (pB r) → f 5 = g.v → St w0 ros (box q 27 [iV i, iV j, l.v, m.v, n.v] :: box r 27 [iV 0, iV 0, hnil.v, hnil.v, hnil.v] :: row 49 rTi64i64u64 g.v z :: rs) w → z = b2 → b0 (.exit 0) (fr 45 f) w := by
   intro z f w L N b5 b ho
   subst ho
   refine b1 _ _ _ (a8 _ _ (sR fun _ b6 => yY (yFb FL_27_1 (eh L)) (yY (lb_ (iV j) O_3 e0 b R0) (yY (yFb FL_27_0 (eh L)) (yY (lb_ (iV i) O_3 e0 b R0) (Ym g.v (eh b5) (bE d fun x b7 d => ?_)))))))
   replace b := (b.k17).fz
   refine yC (yCall FN_34 (a3 e0 e0 e0)) (sparseref09_Pack_ok b7 F0 b) ?_
   rintro _ w ⟨O, R, S, rfl, b⟩
   refine ⟨_, rfl, ?_⟩
   refine yT (r_stbn (vals' := [iV x.1, iV x.2.1, O.v, R.v, S.v]) (us := [iV x.1, iV x.2.1, O.v, R.v, S.v]) (b.k1j) ST_27 (eh N) e0 rfl rfl (one_of rfl) rfl) fun w b => Ya (iV 0) rfl (wK b6 (wp_ret ?_))
   cases d
   exact K _ _ _ (fin2r Tryz.results41 (rcs2 rfl N b R0 ST_27 rfl) ⟨rfl, rfl⟩ ⟨_, _, _, rfl, ((b.k1t).facts (allT allI))⟩)
  refine loopQ (fun s a w => ∃ (A : List (Int × Int × Int)) (h : Int) (f : FV), (A, h) = s ∧ a = fr 45 f ∧ f 1 = (pB q) ∧ f 2 = (pB r) ∧ f 5 = g.v ∧ f 6 = iV h ∧ St w0 ros (box q 27 [iV i, iV j, l.v, m.v, n.v] :: box r 27 [iV 0, iV 0, hnil.v, hnil.v, hnil.v] :: row 49 rTi64i64u64 g.v A :: rs) w) b3 ⟨_, _, _, rfl, rfl, rfl, rfl, rfl, rfl, (b.k26)⟩ ?_
  rintro _ _ w d9 ⟨A, h, f, rfl, rfl, T, U, k, p, b⟩ c b8 e1 c0 c1
  refine seqQ fun e2 c2 c3 => sR fun _ c4 => Ym (iV h) (eh p) (Ym g.v (eh k) (yY (yLen SL_44 e0 b rO2) (yY (ylss e0 e0) (wK c4 ?_))))
  refine cIf e0 c (fun c5 c => ?_) fun c5 c => ?_
  ·refine wp_skip (c2 _ _ (sQ fun _ c6 => blockQ fun _ c7 => bE c fun c8 V c => bE c fun c9 W c => bE c fun e3 d0 c => bE c fun e4 d1 c => bE c fun e5 d2 c => bE c fun e6 d3 c => bE c fun e7 d4 c => bE c fun e8 d5 c => dR [0, 0, 0, 0, 0, 0, 48, 112, 240, 0, 0, 1536, 3584, 7680, 16371, 32755, 65523, 131071, 262143, 524287] [16, 19] 2 folM ?_))
   replace b := b.drew
   refine Dn [0, 1, 2, 3, 4, 5, 6, 7, 8, 9, 10, 11, 12, 13, 14, 15] [] [16] (yR rfl (m_ g.v (eh k)) (yR rfl (m_ (iV h) (eh p)) (yR rfl (m_ g.v (eh k)) (yR rfl (m_ (iV h) (eh p)) (yR rfl (m_ g.v (eh k)) (yR rfl (m_ (iV h) (eh p)) (yR rfl (yIa SL_44 e0 e0 b rO2 V) (yR rfl (yFe FL_49_1 e0) (yR rfl (yFf (u := iV c8.2.1) O_3 e0 b rO2 V rfl) (yR rfl (m_ g.v (eh k)) (yR rfl (m_ (iV h) (eh p)) (yR rfl (yIa SL_44 e0 e0 b rO2 W) (yR rfl (yFe FL_49_0 e0) ?_)))))))))))))
   refine yR rfl (yFf (u := iV c9.1) O_3 e0 b rO2 W rfl) (yR rfl (yIa SL_44 e0 e0 b rO2 d0) (yR rfl (yFe FL_49_0 e0) (Rn QSn ?_)))
   refine Lc1 rfl ?_
   replace b := b.k17
   refine LT wn (r_stf (o := 0) b O_3 e0 e0 rfl rfl rfl rfl d1 d2) fun w b => Dn [17, 18] [2, 3] [19] (yR rfl (yIa SL_44 e0 e0 b rO0 d3) (yR rfl (yFe FL_49_1 e0) (Rn (yS rfl (m_ g.v (eh k)) (yS rfl (m_ (iV h) (eh p)) QSn)) ?_)))
   refine Lc1 rfl ?_
   refine LT wn (r_stf (o := 1) b O_3 e0 e0 rfl rfl rfl rfl d4 d5) fun w b => Dz [] [] (Rn QSn (c7 _ _ _ (c6 _ _ (wR (Ym (iV h) (eh p) (yY (yadd e0 rfl) (Ya (iV (wa .i64 h 1)) e0 (wN ?_))))))))
   cases c
   exact c0 _ _ _ rfl ⟨_, _, _, rfl, rfl, T, U, k, rfl, (b.k1l)⟩
  ·refine wp_exit (c3 _ _ _ rfl ?_)
   cases c
   exact c1 _ _ _ _ rfl rfl (b4 _ _ _ T U k b (b8 _ rfl))
 ·refine condT e0 (nT (dF y)) (sR fun _ d6 => yY (ybuild (us := [iV 0, iV 0, hnil.v, hnil.v, hnil.v]) [] SO_27 bp0 rfl) (Ym (iV t) e0 (yT (r_stbn (vals' := [iV 0, iV 0, hnil.v, hnil.v, hnil.v]) (us := [iV 0, iV 0, hnil.v, hnil.v, hnil.v]) b ST_27 e0 e0 rfl rfl (one_of rfl) rfl) fun w b => Ya (iV t) e0 (wK d6 (wp_ret (a0 _ _ _ rfl ?_))))))
  cases d
  replace b := ((b.rowNh 3 I1).rowNh 3 I1).rowNh 47 (rI .u64)
  exact K _ _ _ (fin2r Tryz.results41 (rcs2 rfl rfl b R3 ST_27 rfl) ⟨rfl, rfl⟩ ⟨_, _, _, rfl, (b.k1s)⟩)
theorem sparseref13_none_ok {h : Int} {out : LI} (j : sparseref13_none h = some out) (b : St w0 ros rs w) :
  Calls Tryz.prog 64 #[iV h] w (fun e w => ∃ (o : Hdr), e = .returned (o.v) ∧ St w0 ros (row 3 I1 o.v out :: rs) w) := by
 refine enterQ Tryz.func64 rfl Tryz.ntmps64 rfl fun Q t => sR fun _ u => Ya hnil.v rfl (wK u (sR fun _ x => Ya hnil.v rfl (wK x (sQ fun _ y => sR fun _ z => ?_))))
 refine Ya (iV 0) rfl (wK z (blockQ fun A B => bE j fun C D j => ?_))
 have E : ∀ (k : LI) (g : Hdr) (f : FV) w, f 3 = g.v → St w0 ros (row 3 I1 g.v k :: rs) w → k = C → A (.exit 0) (fr 14 f) w := by
  intro k g f w F b ho
  subst ho
  refine B _ _ _ (y _ _ (sR fun _ G => Ym g.v (eh F) (Ya g.v e0 (wK G (wp_ret ?_)))))
  cases j
  exact t _ _ _ (fin1r Tryz.results64 ⟨rfl, rfl⟩ ⟨_, rfl, b⟩)
 replace b := b.rowNh 3 I1
 refine loopQ (fun s a w => ∃ (m : LI) (d : Int) (f : FV) (i : Hdr), (m, d) = s ∧ a = fr 14 f ∧ f 0 = iV h ∧ f 3 = i.v ∧ f 4 = iV d ∧ St w0 ros (row 3 I1 i.v m :: rs) w) D ⟨_, _, _, _, rfl, rfl, rfl, rfl, rfl, b⟩ ?_
 rintro _ _ w V ⟨m, d, f, i, rfl, rfl, p, q, r, b⟩ c H W I J
 refine seqQ fun X K L => sR fun _ N => Ym (iV d) (eh r) (Ym (iV h) (eh p) (yY (ylss e0 e0) (wK N ?_)))
 refine cIf e0 c (fun O c => ?_) fun O c => ?_
 ·refine wp_skip (K _ _ (sQ fun _ R => blockQ fun _ S => wR (Ym i.v (eh q) (yH (rLt (n := 1) (l := [(-1)]) b SL_22 [iV (-1)] (bp1 rfl) rfl rfl (mks1 (cs := [iV (-1)]) rfl mkI mks0)) fun Z w b => bE c fun a0 T c => yH (rAp (b.k11) SL_22 e0 e0 rO1 T) fun U w b => Ya U.v e0 (wN (S _ _ _ ?_))))))
  refine R _ _ (wR (Ym (iV d) (eh r) (yY (yadd e0 rfl) (Ya (iV (wa .i64 d 1)) e0 (wN ?_)))))
  cases c
  exact I _ _ _ rfl ⟨_, _, _, _, rfl, rfl, p, rfl, rfl, (b.k1f)⟩
 ·refine wp_exit (L _ _ _ rfl ?_)
  cases c
  exact J _ _ _ _ rfl rfl (E _ _ _ _ q b (H _ rfl))
theorem sparseref13_Search_Try_step {rec : Int → Int → LI → LI → LI → LI → LI → (List Bool) → Int → Option (LI × LI × (List Bool) × Bool)} (c3 : ∀ {w0 : World} {ros : List Fact} {rs : List Res} {w : World} {n o : Int} {z A B C D : LI} {E : List Bool} {k : Int} {d : Nat} {l m p g j h : Hdr} {out : LI × LI × (List Bool) × Bool} (u : rec n o z A B C D E k = some out) (y : imm I1 l.v z ∈ ros) (G : imm I1 m.v A ∈ ros) (a4 : imm (rI .u64) p.v B ∈ ros) (b : St w0 ros (box d 91 [iV n, iV o, l.v, m.v, p.v, g.v, j.v, h.v] :: row 3 I1 g.v C :: row 3 I1 j.v D :: row 4 rB h.v E :: rs) w), Calls Tryz.prog 65 #[(pB d), iV k] w (fun e w => e = .returned (.bool out.2.2.2) ∧ St w0 ros (row 3 I1 g.v out.1 :: row 3 I1 j.v out.2.1 :: row 4 rB h.v out.2.2.1 :: box d 91 [iV n, iV o, l.v, m.v, p.v, g.v, j.v, h.v] :: rs) w)) {w0 : World} {ros : List Fact} {rs : List Res} {w : World} {n o : Int} {z A B C D : LI} {E : List Bool} {k : Int} {d : Nat} {l m p g j h : Hdr} {out : LI × LI × (List Bool) × Bool} (u : sparseref13_Search_Try_body rec n o z A B C D E k = some out) (y : imm I1 l.v z ∈ ros) (G : imm I1 m.v A ∈ ros) (a4 : imm (rI .u64) p.v B ∈ ros) (b : St w0 ros (box d 91 [iV n, iV o, l.v, m.v, p.v, g.v, j.v, h.v] :: row 3 I1 g.v C :: row 3 I1 j.v D :: row 4 rB h.v E :: rs) w) :
  Calls Tryz.prog 65 #[(pB d), iV k] w (fun e w => e = .returned (.bool out.2.2.2) ∧ St w0 ros (row 3 I1 g.v out.1 :: row 3 I1 j.v out.2.1 :: row 4 rB h.v out.2.2.1 :: box d 91 [iV n, iV o, l.v, m.v, p.v, g.v, j.v, h.v] :: rs) w) := by
 refine enterQ Tryz.func65 rfl Tryz.ntmps65 rfl fun Q a5 => sR fun _ c4 => Ya (.bool false) rfl (wK c4 (seqQ fun g2 c5 c6 => sR fun _ c7 => Ym (pB d) e0 (yY (yn e0) (yY (yFb FL_91_0 e0) (yY (yFb FL_27_2 e0) (yY (lb_ l.v O_22 e0 b R0) ?_))))))
 refine Ym (iV k) e0 (bE u fun c8 a6 u => yY (yIa SL_22 e0 e0 b (rdI y) a6) (yY (yI O_3 e0 b (rdI y) a6) (Ya (iV c8) e0 (wK c7 (blockQ fun a7 a8 => bE u fun a9 c9 u => ?_)))))
 have d0 : ∀ (K L : LI) (N : List Bool) (f : FV) w, St w0 ros (row 3 I1 g.v K :: row 3 I1 j.v L :: row 4 rB h.v N :: box d 91 [iV n, iV o, l.v, m.v, p.v, g.v, j.v, h.v] :: rs) w → .inl (K, L, N) = a9 → a7 (.exit 0) (fr 82 f) w := by
  intro K L N f w b ho
  subst ho
  refine a8 _ _ _ (c5 _ _ (sR fun _ d1 => Ya (.bool false) rfl (wK d1 (wp_ret ?_))))
  cases u
  exact a5 _ _ _ (fin1r Tryz.results65 ⟨rfl, rfl⟩ ⟨rfl, b⟩)
 have d2 : ∀ (O R : LI) (S : List Bool) (f : FV) w, f 4 = .bool true → St w0 ros (row 3 I1 g.v O :: row 3 I1 j.v R :: row 4 rB h.v S :: box d 91 [iV n, iV o, l.v, m.v, p.v, g.v, j.v, h.v] :: rs) w → .inr (O, R, S) = a9 → a7 .ret (fr 82 f) w := by
  intro O R S f w d3 b ho
  subst ho
  refine a8 _ _ _ (c6 _ _ _ rfl ?_)
  cases u
  exact a5 _ _ _ (fin1r Tryz.results65 ⟨rfl, d3⟩ ⟨rfl, b⟩)
 refine loopQ (fun s a w => ∃ (T U : LI) (V : List Bool) (q : Int) (f : FV), (T, U, V, q) = s ∧ a = fr 82 f ∧ f 0 = (pB d) ∧ f 1 = iV k ∧ f 5 = iV q ∧ St w0 ros (row 3 I1 g.v T :: row 3 I1 j.v U :: row 4 rB h.v V :: box d 91 [iV n, iV o, l.v, m.v, p.v, g.v, j.v, h.v] :: rs) w) c9 ⟨_, _, _, _, _, rfl, rfl, rfl, rfl, rfl, (b.k2w)⟩ ?_
 rintro _ _ w d4 ⟨T, U, V, q, f, rfl, rfl, r, H, F, b⟩ c b0 g3 d5 b2
 refine seqQ fun g4 d6 d7 => sR fun _ d8 => Ym (iV q) (eh F) (Ym (pB d) (eh r) (yY (yn e0) (yY (yFb FL_91_0 e0) (yY (yFb FL_27_2 e0) (yY (lb_ l.v O_22 e0 b R3) (Ym (iV k) (eh H) (yY (yadd e0 rfl) (bE c fun g5 b3 c => yY (yIa SL_22 e0 e0 b (rdI y) b3) (yY (yI O_3 e0 b (rdI y) b3) ?_)))))))))
 refine yY (ylss e0 e0) (wK d8 ?_)
 refine cIf e0 c (fun d9 c => ?_) fun d9 c => ?_
 ·refine wp_skip (d6 _ _ (seqQ fun e1 e2 e3 => ?_))
  have b4 : ∀ (W X : LI) (Z : List Bool) (f : FV) w, f 0 = (pB d) → f 1 = iV k → f 5 = iV q → St w0 ros (row 3 I1 g.v W :: row 3 I1 j.v X :: row 4 rB h.v Z :: box d 91 [iV n, iV o, l.v, m.v, p.v, g.v, j.v, h.v] :: rs) w → sparseref13_Search_Try_j12 q W X Z = some d4 → e1 .normal (fr 82 f) w := by
   intro W X Z f w e4 e5 e6 b u
   refine e2 _ _ (wR (Ym (iV q) (eh e6) (yY (yadd e0 rfl) (Ya (iV (wa .i64 q 1)) e0 (wN ?_)))))
   cases u
   exact d5 _ _ _ rfl ⟨_, _, _, _, _, rfl, rfl, e4, e5, rfl, b⟩
  refine blockQ fun _ a0 => sR fun _ e7 => Ym (pB d) (eh r) (yY (yn e0) (yY (yFb FL_91_0 e0) (yY (yFb FL_27_3 e0) (yY (lb_ m.v O_22 e0 b R3) (Ym (iV q) (eh F) (bE c fun t b5 c => yY (yIa SL_22 e0 e0 b (rdI G) b5) (yY (yI O_3 e0 b (rdI G) b5) (Ya (iV t) e0 (wN ?_)))))))))
  refine e7 _ _ (seqQ fun g6 e8 e9 => sR fun _ f0 => Ym (pB d) (eh r) (yY (yn e0) (yY (yFb FL_91_3 e0) (yY (lb_ h.v O_56 e0 b R3) (Ym (iV t) e0 (bE c fun g7 b6 c => yY (yIa SL_56 e0 e0 b rO2 b6) (yY (yB O_4 e0 b rO2 b6) (wK f0 (cB e0 c (fun f1 c => ?_) fun f1 c => ?_)))))))))
  ·exact wp_exit (e9 _ _ _ rfl (a0 _ _ _ (b4 _ _ _ _ _ r H F b c)))
  ·refine wp_skip (e8 _ _ (sR fun _ f2 => Ym (pB d) (eh r) (yY (yn e0) (yY (yFb FL_91_3 e0) (yY (lb_ h.v O_56 e0 b R3) (Ym (iV t) e0 (bE c fun g8 b7 c => yY (yIs SL_56 e0 e0 b rO2 b7) (yT (r_sti (cs := [.bool true]) (b.k17) O_4 rfl e0 rfl rfl mkB b7) fun w b => wN ?_))))))))
   refine f2 _ _ (sR fun _ f3 => Ym (pB d) (eh r) (yY (yn e0) (yY (yFb FL_91_1 e0) (yY (lb_ g.v O_22 e0 b R3) (Ym (iV t) e0 (bE c fun f4 b8 c => yY (yIa SL_22 e0 e0 b rO1 b8) (yY (yI O_3 e0 b rO1 b8) (yY (ylss e0 rfl) (Ym (.bool (decide (f4 < 0))) e0 (bE c fun I x c => ?_))))))))))
   refine joinW 10 (fun f w => f 0 = (pB d) ∧ f 1 = iV k ∧ f 5 = iV q ∧ f 6 = iV t ∧ f 67 = .bool I.1 ∧ St w0 ros (row 3 I1 g.v I.2.1 :: row 3 I1 j.v I.2.2.1 :: row 4 rB h.v I.2.2.2 :: box d 91 [iV n, iV o, l.v, m.v, p.v, g.v, j.v, h.v] :: rs) w) (fun b9 => ?_) ?_
   ·rcases iteS x with ⟨i, x⟩ | ⟨i, x⟩
    ·refine gN (dT i) (gN (dT i) (gN (dT i) (gN (dT i) (gN (dT i) (gN (dT i) (gN (dT i) (gN (dT i) (gN (dT i) (yY (pt_ (.bool true) e0 (dT i) rfl) ?_)))))))))
     cases x
     exact b9 _ _ ⟨r, H, F, rfl, rfl, (b.k2x)⟩
    ·refine yG (dF i) (m_ (pB d) (eh r)) (yG (dF i) (m_ (pB d) (eh r)) (yG (dF i) (yn e0) (yG (dF i) (yFb FL_91_1 e0) (yG (dF i) (lb_ g.v O_22 e0 b R3) (yG (dF i) (m_ (iV t) e0) (bE x fun g9 c0 x => yG (dF i) (yIa SL_22 e0 e0 b rO1 c0) (yG (dF i) (yI O_3 e0 b rO1 c0) (bE x fun f5 f6 x => ?_))))))))
     replace b := b.k1i
     refine Yc (wG (dF i)) rfl (yCall FN_65 (a2 e0 e0)) (c3 f6 y G a4 b) ?_
     rintro _ w ⟨rfl, b⟩
     refine ⟨_, rfl, ?_⟩
     refine yY (pf_ (.bool f5.2.2.2) e0 (dF i) e0) ?_
     cases x
     exact b9 _ _ ⟨r, H, F, rfl, rfl, b⟩
   rintro f w ⟨a1, J, f7, a3, f8, b⟩
   refine wK f3 (cB (eh f8) c (fun f9 c => ?_) fun f9 c => ?_)
   ·refine sQ fun _ g0 => bE c fun h0 c1 c => bE c fun h1 c2 c => dR [0, 1, 3, 7, 0, 0, 32, 96, 224, 0, 0, 0, 1535, 5631, 16383, 32767] [13, 15] 2 folM ?_
    replace b := b.drew
    refine Dn [0, 1, 2, 3, 4, 5, 6, 7, 8, 9, 10, 11, 12] [] [13] (yR rfl (m_ (pB d) (eh a1)) (yR rfl (yn e0) (yR rfl (yFb FL_91_1 e0) (yR rfl (lb_ g.v O_22 e0 b R3) (yR rfl (m_ (iV t) (eh a3)) (yR rfl (m_ (pB d) (eh a1)) (yR rfl (yn e0) (yR rfl (yFb FL_91_2 e0) (yR rfl (lb_ j.v O_22 e0 b R3) (yR rfl (m_ (iV k) (eh J)) (yR rfl (m_ (iV k) (eh J)) (yR rfl (m_ (iV t) (eh a3)) (yR rfl (yIs SL_22 e0 e0 b rO0 c1) ?_)))))))))))))
    refine Rn QSn ?_
    refine Lc1 rfl ?_
    refine LT wn (r_sti (cs := [iV k]) b O_3 rfl e0 e0 rfl mkI c1) fun w b => Dn [14] [9, 11] [15] (yR rfl (yIs SL_22 e0 e0 b rO1 c2) (Rn (yS rfl (m_ (iV k) (eh J)) (yS rfl (m_ (iV t) (eh a3)) QSn)) ?_))
    refine Lc1 rfl ?_
    replace b := b.k11
    refine LT wn (r_sti (cs := [iV t]) b O_3 rfl e0 e0 rfl mkI c2) fun w b => Dz [] [] (Rn QSn (g0 _ _ (sR fun _ g1 => Ya (.bool true) rfl (wK g1 (wp_ret (a0 _ _ _ (e3 _ _ _ rfl ?_)))))))
    cases c
    exact b2 _ _ _ _ rfl rfl (d2 _ _ _ _ _ rfl (b.k2y) (b0 _ rfl))
   ·exact wp_skip (a0 _ _ _ (b4 _ _ _ _ _ a1 J f7 b c))
 ·refine wp_exit (d7 _ _ _ rfl ?_)
  cases c
  exact b2 _ _ _ _ rfl rfl (d0 _ _ _ _ _ b (b0 _ rfl))
theorem sparseref13_Search_Try_ok_n (n : Nat) : ∀ {w0 : World} {ros : List Fact} {rs : List Res} {w : World} {f g : Int} {l m o p q : LI} {r : List Bool} {s : Int} {h : Nat} {i j k a b c : Hdr} {out : LI × LI × (List Bool) × Bool} (d : sparseref13_Search_Try n f g l m o p q r s = some out) (t : imm I1 i.v l ∈ ros) (u : imm I1 j.v m ∈ ros) (x : imm (rI .u64) k.v o ∈ ros) (y : St w0 ros (box h 91 [iV f, iV g, i.v, j.v, k.v, a.v, b.v, c.v] :: row 3 I1 a.v p :: row 3 I1 b.v q :: row 4 rB c.v r :: rs) w),
  Calls Tryz.prog 65 #[(pB h), iV s] w (fun e w => e = .returned (.bool out.2.2.2) ∧ St w0 ros (row 3 I1 a.v out.1 :: row 3 I1 b.v out.2.1 :: row 4 rB c.v out.2.2.1 :: box h 91 [iV f, iV g, i.v, j.v, k.v, a.v, b.v, c.v] :: rs) w) := by
 induction n with
 | zero => intro _ _ _ _ _ _ _ _ _ _ _ _ _ _ _ _ _ _ _ _ out d; cases d
 | succ n ih => exact fun d t u x y => sparseref13_Search_Try_step (rec := sparseref13_Search_Try n) ih d t u x y
theorem sparseref13_Search_Try_ok {d f : Int} {k l m n o : LI} {p : List Bool} {q : Int} {g : Nat} {h i j a b c : Hdr} {out : LI × LI × (List Bool) × Bool} (r : sparseref13_Search_Try FUEL d f k l m n o p q = some out) (s : imm I1 h.v k ∈ ros) (t : imm I1 i.v l ∈ ros) (u : imm (rI .u64) j.v m ∈ ros) (x : St w0 ros (box g 91 [iV d, iV f, h.v, i.v, j.v, a.v, b.v, c.v] :: row 3 I1 a.v n :: row 3 I1 b.v o :: row 4 rB c.v p :: rs) w) :
  Calls Tryz.prog 65 #[(pB g), iV q] w (fun e w => e = .returned (.bool out.2.2.2) ∧ St w0 ros (row 3 I1 a.v out.1 :: row 3 I1 b.v out.2.1 :: row 4 rB c.v out.2.2.1 :: box g 91 [iV d, iV f, h.v, i.v, j.v, a.v, b.v, c.v] :: rs) w) := sparseref13_Search_Try_ok_n FUEL r s t u x
theorem sparseref13_Find_ok {d c : Int} {D E F : LI} {g h i : Hdr} {out : LI × LI × (List Bool)} (n : sparseref13_Find d c D E F = some out) (L : imm I1 g.v D ∈ ros) (N : imm I1 h.v E ∈ ros) (O : imm (rI .u64) i.v F ∈ ros) (b : St w0 ros rs w) :
  Calls Tryz.prog 43 #[.agg #[iV d, iV c, g.v, h.v, i.v]] w (fun e w => ∃ (G : Nat) (H I J : Hdr), e = .returned (pB G) ∧ St w0 ros (row 3 I1 H.v out.1 :: row 3 I1 I.v out.2.1 :: row 4 rB J.v out.2.2 :: box G 91 [iV d, iV c, g.v, h.v, i.v, H.v, I.v, J.v] :: rs) w) := by
 refine enterQ Tryz.func43 rfl Tryz.ntmps43 rfl fun Q R => sR fun _ S => yBb (r_box (vals := [iV d, iV c, g.v, h.v, i.v]) b e0 rfl) fun K w b => Ya (.pointer none) rfl (wK S (sQ fun _ T => bE n fun c2 U n => bE n fun c3 V n => dR [0, 0, 2, 6, 0, 16, 62, 127, 255, 511] [3, 6, 8, 9] 4 folM ?_))
 replace b := b.drew
 refine Dn [0, 1, 2, 4, 5] [] [3] (yR rfl (lbs_ [iV d, iV c, g.v, h.v, i.v] ST_27 e0 b R0) (yR rfl (yFb FL_27_0 e0) (yR rfl (lb_ (iV d) O_3 e0 b R0) (yR rfl (yFb FL_27_1 e0) (yR rfl (lb_ (iV c) O_3 e0 b R0) (Rn QSn ?_))))))
 refine Lc1 rfl ?_
 refine Lk wn (yCall FN_64 (a1 e0)) (sparseref13_none_ok U b) ?_
 rintro _ w ⟨l, rfl, b⟩
 refine ⟨_, rfl, ?_⟩
 refine Dn [] [0, 4, 5] [6] (Rn (yS rfl (lbs_ [iV d, iV c, g.v, h.v, i.v] ST_27 e0 b R1) (yS rfl (yFb FL_27_1 e0) (yS rfl (lb_ (iV c) O_3 e0 b R1) QSn))) ?_)
 refine Lc1 rfl ?_
 refine Lk wn (yCall FN_64 (a1 e0)) (sparseref13_none_ok V b) ?_
 rintro _ w ⟨m, rfl, b⟩
 refine ⟨_, rfl, ?_⟩
 refine Dn [7] [0] [8] (yR rfl (ybuild (us := [iV d, iV c, g.v, h.v, i.v, l.v, m.v, hnil.v]) [(0, .agg #[iV d, iV c, g.v, h.v, i.v]), (1, l.v), (2, m.v)] SO_91 (bp3 e0 e0 e0) rfl) (Rn (yS rfl (lbs_ [iV d, iV c, g.v, h.v, i.v] ST_27 e0 b R2) QSn) ?_))
 refine Lc1 rfl ?_
 refine LB wn (r_box (vals := [iV d, iV c, g.v, h.v, i.v, l.v, m.v, hnil.v]) b e0 rfl) fun j w b => Dn [] [] [9] (Rn QSn ?_)
 refine Lc1 rfl ?_
 refine Ly wn (a_ (pB j) e0) (Dz [] [] (Rn QSn (T _ _ (sQ fun _ W => sR fun _ X => Ya (iV 0) rfl (wK X (blockQ fun Z a0 => bE n fun a3 a4 n => ?_))))))
 have a5 : ∀ (q r : LI) (t : List Bool) (u : Hdr) (f : FV) w, f 3 = (pB j) → St w0 ros (row 3 I1 l.v q :: row 3 I1 m.v r :: row 4 rB u.v t :: box j 91 [iV d, iV c, g.v, h.v, i.v, l.v, m.v, u.v] :: rs) w → (q, r, t) = a3 → Z (.exit 0) (fr 30 f) w := by
  intro q r t u f w a6 b ho
  subst ho
  refine a0 _ _ _ (W _ _ (sR fun _ a7 => Ym (pB j) (eh a6) (Ya (pB j) e0 (wK a7 (wp_ret ?_)))))
  cases n
  exact R _ _ _ (fin1r Tryz.results43 ⟨rfl, rfl⟩ ⟨_, _, _, _, rfl, b⟩)
 replace b := b.rowNh 4 rB
 refine loopQ (fun s a w => ∃ (x y : LI) (z : List Bool) (o : Int) (f : FV) (A : Hdr), (x, y, z, o) = s ∧ a = fr 30 f ∧ f 1 = (pB K) ∧ f 3 = (pB j) ∧ f 4 = iV o ∧ St w0 ros (box K 27 [iV d, iV c, g.v, h.v, i.v] :: row 3 I1 l.v x :: row 3 I1 m.v y :: row 4 rB A.v z :: box j 91 [iV d, iV c, g.v, h.v, i.v, l.v, m.v, A.v] :: rs) w) a4 ⟨_, _, _, _, _, _, rfl, rfl, rfl, rfl, rfl, (b.k2z)⟩ ?_
 rintro _ _ w c4 ⟨x, y, z, o, f, A, rfl, rfl, B, p, C, b⟩ k a8 c5 a9 b0
 refine seqQ fun c6 b1 b2 => sR fun _ b3 => Ym (iV o) (eh C) (yY (yFb FL_27_1 (eh B)) (yY (lb_ (iV c) O_3 e0 b R0) (yY (ylss e0 e0) (wK b3 ?_))))
 refine cIf e0 k (fun b4 k => ?_) fun b4 k => ?_
 ·refine wp_skip (b1 _ _ (sQ fun _ b5 => blockQ fun _ b6 => sR fun _ b7 => Ym (pB j) (eh p) (yY (yFb FL_27_0 (eh B)) (yY (lb_ (iV d) O_3 e0 b R0) (bE k fun c7 b8 k => yH (rMk b SL_56 e0 b8) fun c0 w b => yY (yn e0) (yY (yFb FL_91_3 e0) ?_))))))
  refine yT (r_stb1 (vals' := [iV d, iV c, g.v, h.v, i.v, l.v, m.v, c0.v]) (b.k1k) O_56 e0 e0 rfl rfl rfl rfl) fun w b => wK b7 (wR (Ym (pB j) (eh p) (Ym (iV o) (eh C) (bE k fun c8 c1 k => ?_))))
  replace b := b.k30
  refine yC (yCall FN_65 (a2 e0 e0)) (sparseref13_Search_Try_ok c1 L N O b) ?_
  rintro _ w ⟨rfl, b⟩
  refine ⟨_, rfl, ?_⟩
  refine wN (b6 _ _ _ (b5 _ _ (wR (Ym (iV o) (eh C) (yY (yadd e0 rfl) (Ya (iV (wa .i64 o 1)) e0 (wN ?_)))))))
  cases k
  exact a9 _ _ _ rfl ⟨_, _, _, _, _, _, rfl, rfl, B, p, rfl, (b.k31)⟩
 ·refine wp_exit (b2 _ _ _ rfl ?_)
  cases k
  exact b0 _ _ _ _ rfl rfl (a5 _ _ _ _ _ _ p (b.k2k) (a8 _ rfl))
theorem sparseref13_Reach_ok {o m : Int} {d3 d4 d5 u x : LI} {y : List Bool} {c : Nat} {p r z g h i : Hdr} {out : (List Bool) × (List Bool)} (A : sparseref13_Reach o m d3 d4 d5 u x y = some out) (T : imm I1 p.v d3 ∈ ros) (d6 : imm I1 r.v d4 ∈ ros) (r3 : imm (rI .u64) z.v d5 ∈ ros) (b : St w0 ros (box c 91 [iV o, iV m, p.v, r.v, z.v, g.v, h.v, i.v] :: row 3 I1 g.v u :: row 3 I1 h.v x :: row 4 rB i.v y :: rs) w) :
  Calls Tryz.prog 42 #[(pB c)] w (fun e w => ∃ (d7 d8 : Hdr), e = .returned (.tuple #[d7.v, d8.v]) ∧ St w0 ros (row 3 I1 g.v u :: row 3 I1 h.v x :: row 4 rB i.v y :: box c 91 [iV o, iV m, p.v, r.v, z.v, g.v, h.v, i.v] :: row 4 rB d7.v out.1 :: row 4 rB d8.v out.2 :: rs) w) := by
 refine enterQ Tryz.func42 rfl Tryz.ntmps42 rfl fun Q g4 => sR fun _ k1 => Ya hnil.v rfl (Ya hnil.v rfl (wK k1 (sQ fun _ g5 => bE A fun U d9 A => bE A fun g6 a3 A => ?_)))
 refine joinN (n := 119) (fun f w => ∃ (j d : Hdr), f 0 = (pB c) ∧ f 4 = j.v ∧ f 5 = d.v ∧ St w0 ros (row 3 I1 g.v u :: row 3 I1 h.v x :: row 4 rB i.v y :: box c 91 [iV o, iV m, p.v, r.v, z.v, g.v, h.v, i.v] :: row 4 rB j.v U :: row 4 rB d.v g6 :: rs) w) (fun a4 => ?_) ?_
 ·refine dR [0, 1, 3, 7, 15, 31, 0, 64, 192, 448, 960, 1984, 63, 8191] [5, 11, 12, 13] 4 folM ?_
  replace b := b.drew
  refine Dn [0, 1, 2, 3, 4, 6, 7, 8, 9, 10] [] [5, 11] (yR rfl (m_ (pB c) e0) (yR rfl (yn e0) (yR rfl (yFb FL_91_0 e0) (yR rfl (yFb FL_27_0 e0) (yR rfl (lb_ (iV o) O_3 e0 b R0) (yR rfl (m_ (pB c) e0) (yR rfl (yn e0) (yR rfl (yFb FL_91_0 e0) (yR rfl (yFb FL_27_1 e0) (yR rfl (lb_ (iV m) O_3 e0 b R0) (Rn QSn ?_)))))))))))
  refine Lc rfl ?_ (Lc1 rfl ?_)
  ·refine LH wn (rMk b SL_56 e0 d9) fun V w b => Dn [] [6, 7, 8, 9, 10] [11, 12] (Rn (yS rfl (m_ (pB c) e0) (yS rfl (yn e0) (yS rfl (yFb FL_91_0 e0) (yS rfl (yFb FL_27_1 e0) (yS rfl (lb_ (iV m) O_3 e0 b R1) QSn))))) ?_)
   refine Lc rfl ?_ (Lc1 rfl ?_)
   ·refine LH wn (rMk b SL_56 e0 a3) fun O w b => Dn [] [] [12] (Rn QSn ?_)
    refine Lc1 rfl ?_
    refine Ly wn (a_ V.v e0) (Dn [] [] [13] (Rn QSn ?_))
    refine Lc1 rfl ?_
    exact Ly wn (a_ O.v e0) (Dz [] [] (Rn QSn (a4 _ _ ⟨_, _, rfl, rfl, rfl, (b.k32)⟩)))
   ·refine Ly wn (a_ V.v e0) (Dn [] [6, 7, 8, 9, 10] [11] (Rn (yS rfl (m_ (pB c) e0) (yS rfl (yn e0) (yS rfl (yFb FL_91_0 e0) (yS rfl (yFb FL_27_1 e0) (yS rfl (lb_ (iV m) O_3 e0 b R1) QSn))))) ?_))
    refine Lc1 rfl ?_
    refine LH wn (rMk b SL_56 e0 a3) fun O w b => Dn [] [] [13] (Rn QSn ?_)
    refine Lc1 rfl ?_
    exact Ly wn (a_ O.v e0) (Dz [] [] (Rn QSn (a4 _ _ ⟨_, _, rfl, rfl, rfl, (b.k32)⟩)))
  ·refine LH wn (rMk b SL_56 e0 a3) fun O w b => Dn [] [0, 1, 2, 3, 4] [5] (Rn (yS rfl (m_ (pB c) e0) (yS rfl (yn e0) (yS rfl (yFb FL_91_0 e0) (yS rfl (yFb FL_27_0 e0) (yS rfl (lb_ (iV o) O_3 e0 b R1) QSn))))) ?_)
   refine Lc1 rfl ?_
   refine LH wn (rMk b SL_56 e0 d9) fun V w b => Dn [] [] [12] (Rn QSn ?_)
   refine Lc1 rfl ?_
   refine Ly wn (a_ V.v e0) (Dn [] [] [13] (Rn QSn ?_))
   refine Lc1 rfl ?_
   exact Ly wn (a_ O.v e0) (Dz [] [] (Rn QSn (a4 _ _ ⟨_, _, rfl, rfl, rfl, (b.k33)⟩)))
 rintro f w ⟨j, d, F, I, J, b⟩
 refine g5 _ _ (sR fun _ g7 => Ya hnil.v rfl (wK g7 (sQ fun _ g8 => sR fun _ g9 => Ya (iV 0) rfl (wK g9 (blockQ fun h0 h1 => bE A fun h2 h3 A => ?_)))))
 have h4 : ∀ (a5 : List Bool) (a6 : LI) (a7 : Hdr) (f : FV) w, f 0 = (pB c) → f 4 = j.v → f 5 = d.v → f 6 = a7.v → St w0 ros (row 3 I1 g.v u :: row 3 I1 h.v x :: row 4 rB i.v y :: box c 91 [iV o, iV m, p.v, r.v, z.v, g.v, h.v, i.v] :: row 4 rB j.v U :: row 4 rB d.v a5 :: row 3 I1 a7.v a6 :: rs) w → (a5, a6) = h2 → h0 (.exit 0) (fr 119 f) w := by
  intro a5 a6 a7 f w h6 h8 i0 i1 b ho
  subst ho
  refine h1 _ _ _ (g8 _ _ (sQ fun _ i2 => blockQ fun i3 i4 => bE A fun i5 i6 A => ?_))
  have i7 : ∀ (a8 a9 : List Bool) (f : FV) w, f 4 = j.v → f 5 = d.v → St w0 ros (row 3 I1 g.v u :: row 3 I1 h.v x :: row 4 rB i.v y :: box c 91 [iV o, iV m, p.v, r.v, z.v, g.v, h.v, i.v] :: row 4 rB j.v a8 :: row 4 rB d.v a9 :: rs) w → (a8, a9) = i5 → i3 (.exit 2) (fr 119 f) w := by
   intro a8 a9 f w i8 i9 b ho
   subst ho
   refine i4 _ _ _ (i2 _ _ (sR fun _ j0 => Ym j.v (eh i8) (Ym d.v (eh i9) (Ya j.v e0 (Ya d.v e0 (wK j0 (wp_ret ?_)))))))
   cases A
   exact g4 _ _ _ (fin2r Tryz.results42 ⟨rfl, rfl⟩ ⟨rfl, rfl⟩ ⟨_, _, rfl, b⟩)
  refine loopQ (fun s a w => ∃ (b0 b2 : List Bool) (W : LI) (f : FV) (G : Hdr), (b0, b2, W) = s ∧ a = fr 119 f ∧ f 0 = (pB c) ∧ f 4 = j.v ∧ f 5 = d.v ∧ f 6 = G.v ∧ St w0 ros (row 3 I1 g.v u :: row 3 I1 h.v x :: row 4 rB i.v y :: box c 91 [iV o, iV m, p.v, r.v, z.v, g.v, h.v, i.v] :: row 4 rB j.v b0 :: row 4 rB d.v b2 :: row 3 I1 G.v W :: rs) w) i6 ⟨_, _, _, _, _, rfl, rfl, h6, h8, i0, i1, b⟩ ?_
  rintro _ _ w r4 ⟨b0, b2, W, f, G, rfl, rfl, e1, e2, e3, R, b⟩ B j2 r5 j3 j4
  refine seqQ fun r6 j5 j6 => sR fun _ j7 => Ym G.v (eh R) (yY (yLen SL_22 e0 b rO6) (yY (ygtr e0 rfl) (wK j7 ?_)))
  refine cIf e0 B (fun j8 B => ?_) fun j8 B => ?_
  ·refine wp_skip (j5 _ _ (blockQ fun _ j9 => sR fun _ k0 => Ym G.v (eh R) (Ym G.v (eh R) (yY (yLen SL_22 e0 b rO6) (yY (ysub e0 rfl) (bE B fun K e4 B => yY (yIa SL_22 e0 e0 b rO6 e4) (yY (yI O_3 e0 b rO6 e4) (Ya (iV K) e0 (wN ?_)))))))))
   refine k0 _ _ (sR fun _ k6 => Ym G.v (eh R) (Ym G.v (eh R) (yY (yLen SL_22 e0 b rO6) (yY (ysub e0 rfl) (bE B fun r7 e5 B => ?_)))))
   replace b := b.k1a
   refine yY (ySl (k1 := .i64) (hi := (ws .i64 (W.length : Int) 1 : Int)) SL_22 e0 b rO0 (.inr ⟨rfl, rfl⟩) (.inl (congrArg some e0)) e5) ?_
   obtain ⟨k7, eh247, b⟩ := b.resl e5
   rw [← eh247]
   refine Ya k7.v e0 (wK k6 (sR fun _ k8 => Ym (pB c) (eh e1) (yY (yn e0) (yY (yFb FL_91_0 e0) (yY (yFb FL_27_2 e0) (yY (lb_ p.v O_22 e0 b R4) (Ym (iV K) e0 (bE B fun k9 e6 B => yY (yIa SL_22 e0 e0 b (rdI T) e6) (yY (yI O_3 e0 b (rdI T) e6) ?_)))))))))
   refine Ya (iV k9) e0 (wK k8 (blockQ fun l0 l1 => bE B fun l2 l3 B => ?_))
   have l4 : ∀ (b3 b4 : List Bool) (b5 : LI) (b6 : Hdr) (f : FV) w, f 0 = (pB c) → f 4 = j.v → f 5 = d.v → f 6 = b6.v → St w0 ros (row 3 I1 g.v u :: row 3 I1 h.v x :: row 4 rB i.v y :: box c 91 [iV o, iV m, p.v, r.v, z.v, g.v, h.v, i.v] :: row 4 rB j.v b3 :: row 4 rB d.v b4 :: row 3 I1 b6.v b5 :: rs) w → (b3, b4, b5) = l2 → l0 (.exit 4) (fr 119 f) w := by
    intro b3 b4 b5 b6 f w l5 l6 l7 l8 b ho
    subst ho
    refine l1 _ _ _ (j9 _ _ _ ?_)
    cases B
    exact j3 _ _ _ rfl ⟨_, _, _, _, _, rfl, rfl, l5, l6, l7, l8, b⟩
   refine loopQ (fun s a w => ∃ (b7 X : List Bool) (Z : LI) (D : Int) (f : FV) (L : Hdr), (b7, X, Z, D) = s ∧ a = fr 119 f ∧ f 0 = (pB c) ∧ f 4 = j.v ∧ f 5 = d.v ∧ f 6 = L.v ∧ f 8 = iV K ∧ f 9 = iV D ∧ St w0 ros (row 3 I1 g.v u :: row 3 I1 h.v x :: row 4 rB i.v y :: box c 91 [iV o, iV m, p.v, r.v, z.v, g.v, h.v, i.v] :: row 4 rB j.v b7 :: row 4 rB d.v X :: row 3 I1 L.v Z :: rs) w) l3 ⟨_, _, _, _, _, _, rfl, rfl, e1, e2, e3, rfl, rfl, rfl, (b.k34)⟩ ?_
   rintro _ _ w l9 ⟨b7, X, Z, D, f, L, rfl, rfl, F, I, J, b8, b9, a0, b⟩ k m0 r8 m1 m2
   refine seqQ fun r9 m3 m4 => sR fun _ m5 => Ym (iV D) (eh a0) (Ym (pB c) (eh F) (yY (yn e0) (yY (yFb FL_91_0 e0) (yY (yFb FL_27_2 e0) (yY (lb_ p.v O_22 e0 b R3) (Ym (iV K) (eh b9) (yY (yadd e0 rfl) (bE k fun s0 e7 k => yY (yIa SL_22 e0 e0 b (rdI T) e7) (yY (yI O_3 e0 b (rdI T) e7) ?_)))))))))
   refine yY (ylss e0 e0) (wK m5 ?_)
   refine cIf e0 k (fun m6 k => ?_) fun m6 k => ?_
   ·refine wp_skip (m3 _ _ (sQ fun _ m7 => blockQ fun m8 m9 => sR fun _ n0 => Ym (pB c) (eh F) (yY (yn e0) (yY (yFb FL_91_0 e0) (yY (yFb FL_27_3 e0) (yY (lb_ r.v O_22 e0 b R3) (Ym (iV D) (eh a0) (bE k fun c0 e8 k => yY (yIa SL_22 e0 e0 b (rdI d6) e8) ?_))))))))
    refine yY (yI O_3 e0 b (rdI d6) e8) (Ya (iV c0) e0 (wK n0 (sR fun _ n1 => Ym j.v (eh I) (Ym (iV c0) e0 (bE k fun c1 e9 k => yY (yIs SL_56 e0 e0 b rO4 e9) (yT (r_sti (cs := [.bool true]) (b.k1j) O_4 rfl e0 rfl rfl mkB e9) fun w b => wK n1 ?_))))))
    refine sR fun _ n2 => Ym (pB c) (eh F) (yY (yn e0) (yY (yFb FL_91_1 e0) (yY (lb_ g.v O_22 e0 b R4) (Ym (iV c0) e0 (bE k fun E f0 k => yY (yIa SL_22 e0 e0 b rO1 f0) (yY (yI O_3 e0 b rO1 f0) (Ya (iV E) e0 (wK n2 (sQ fun _ n3 => ?_)))))))))
    refine wR (Ym (iV E) e0 (yY (ygeq e0 rfl) (Ym (.bool (decide ((0 : Int) ≤ E))) e0 (bE k fun n5 H k => ?_))))
    refine joinW 6 (fun f w => f 0 = (pB c) ∧ f 4 = j.v ∧ f 5 = d.v ∧ f 6 = L.v ∧ f 8 = iV K ∧ f 9 = iV D ∧ f 11 = iV E ∧ f 109 = .bool n5 ∧ St w0 ros (row 3 I1 g.v u :: row 3 I1 h.v x :: row 4 rB i.v y :: box c 91 [iV o, iV m, p.v, r.v, z.v, g.v, h.v, i.v] :: row 4 rB j.v c1 :: row 4 rB d.v X :: row 3 I1 L.v Z :: rs) w) (fun f1 => ?_) ?_
    ·rcases iteS H with ⟨C, H⟩ | ⟨C, H⟩
     ·refine yG (dT C) (m_ d.v (eh J)) (yG (dT C) (m_ (iV E) e0) (bE H fun n6 f2 H => yG (dT C) (yIa SL_56 e0 e0 b rO5 f2) (yG (dT C) (yB O_4 e0 b rO5 f2) (yG (dT C) (ynot e0) (yY (pt_ (.bool (!n6)) e0 (dT C) e0) ?_)))))
      cases H
      exact f1 _ _ ⟨F, I, J, b8, b9, a0, rfl, rfl, (b.k35)⟩
     ·refine gN (dF C) (gN (dF C) (gN (dF C) (gN (dF C) (gN (dF C) (yY (pf_ (.bool false) e0 (dF C) rfl) ?_)))))
      cases H
      exact f1 _ _ ⟨F, I, J, b8, b9, a0, rfl, rfl, (b.k35)⟩
    rintro f w ⟨f3, f4, c2, f5, f6, f7, f8, n7, b⟩
    refine wK n3 ?_
    have f9 : ∀ (c3 : List Bool) (c4 : LI) (c5 : Hdr) (f : FV) w, f 0 = (pB c) → f 4 = j.v → f 5 = d.v → f 6 = c5.v → f 8 = iV K → f 9 = iV D → St w0 ros (row 3 I1 g.v u :: row 3 I1 h.v x :: row 4 rB i.v y :: box c 91 [iV o, iV m, p.v, r.v, z.v, g.v, h.v, i.v] :: row 4 rB j.v c1 :: row 4 rB d.v c3 :: row 3 I1 c5.v c4 :: rs) w → sparseref13_Reach_j26 c1 D c3 c4 = some l9 → m8 .normal (fr 119 f) w := by
     intro c3 c4 c5 f w n8 n9 o0 o1 o2 o3 b A
     refine m9 _ _ _ (m7 _ _ (wR (Ym (iV D) (eh o3) (yY (yadd e0 rfl) (Ya (iV (wa .i64 D 1)) e0 (wN ?_))))))
     cases A
     exact m1 _ _ _ rfl ⟨_, _, _, _, _, _, rfl, rfl, n8, n9, o0, o1, o2, rfl, b⟩
    refine cB (eh n7) k (fun o5 k => ?_) fun o5 k => ?_
    ·refine sR fun _ o6 => Ym d.v (eh c2) (Ym (iV E) (eh f8) (bE k fun s1 g0 k => yY (yIs SL_56 e0 e0 b rO5 g0) (yT (r_sti (cs := [.bool true]) (b.k1k) O_4 rfl e0 rfl rfl mkB g0) fun w b => wK o6 (wR (Ym L.v (eh f5) (Ym (iV E) (eh f8) (yH (rLt (n := 1) (l := [E]) b SL_22 [iV E] (bp1 e0) rfl rfl (mks1 (cs := [iV E]) rfl mkI mks0)) ?_)))))))
     exact fun s2 w b => bE k fun s3 o7 k => yH (rAp (b.k22) SL_22 e0 e0 rO1 o7) fun o8 w b => Ya o8.v e0 (wN (f9 _ _ _ _ _ f3 f4 c2 rfl f6 f7 (b.k36) k))
    ·exact wp_skip (f9 _ _ _ _ _ f3 f4 c2 f5 f6 f7 b k)
   ·refine wp_exit (m4 _ _ _ rfl ?_)
    cases k
    exact m2 _ _ _ _ rfl rfl (l4 _ _ _ _ _ _ F I J b8 b (m0 _ rfl))
  ·refine wp_exit (j6 _ _ _ rfl ?_)
   cases B
   exact j4 _ _ _ _ rfl rfl (i7 _ _ _ _ e2 e3 (b.k37) (j2 _ rfl))
 replace b := b.rowNh 3 I1
 refine loopQ (fun s a w => ∃ (c6 : List Bool) (c7 : LI) (t : Int) (f : FV) (a1 : Hdr), (c6, c7, t) = s ∧ a = fr 119 f ∧ f 0 = (pB c) ∧ f 4 = j.v ∧ f 5 = d.v ∧ f 6 = a1.v ∧ f 7 = iV t ∧ St w0 ros (row 3 I1 g.v u :: row 3 I1 h.v x :: row 4 rB i.v y :: box c 91 [iV o, iV m, p.v, r.v, z.v, g.v, h.v, i.v] :: row 4 rB j.v U :: row 4 rB d.v c6 :: row 3 I1 a1.v c7 :: rs) w) h3 ⟨_, _, _, _, _, rfl, rfl, F, I, J, rfl, rfl, (b.k34)⟩ ?_
 rintro _ _ w o9 ⟨c6, c7, t, f, a1, rfl, rfl, S, c8, a2, c9, N, b⟩ q p0 s4 p1 p2
 refine seqQ fun s5 p3 p4 => sR fun _ p5 => Ym (iV t) (eh N) (Ym (pB c) (eh S) (yY (yn e0) (yY (yFb FL_91_0 e0) (yY (yFb FL_27_1 e0) (yY (lb_ (iV m) O_3 e0 b R3) (yY (ylss e0 e0) (wK p5 ?_)))))))
 refine cIf e0 q (fun p6 q => ?_) fun p6 q => ?_
 ·refine wp_skip (p3 _ _ (sQ fun _ p7 => blockQ fun p8 p9 => sR fun _ q0 => Ym (pB c) (eh S) (yY (yn e0) (yY (yFb FL_91_2 e0) (yY (lb_ h.v O_22 e0 b R3) (Ym (iV t) (eh N) (bE q fun s6 g1 q => yY (yIa SL_22 e0 e0 b rO1 g1) (yY (yI O_3 e0 b rO1 g1) ?_))))))))
  refine yY (ylss e0 rfl) (wK q0 ?_)
  have g2 : ∀ (d0 : List Bool) (d1 : LI) (d2 : Hdr) (f : FV) w, f 0 = (pB c) → f 4 = j.v → f 5 = d.v → f 6 = d2.v → f 7 = iV t → St w0 ros (row 3 I1 g.v u :: row 3 I1 h.v x :: row 4 rB i.v y :: box c 91 [iV o, iV m, p.v, r.v, z.v, g.v, h.v, i.v] :: row 4 rB j.v U :: row 4 rB d.v d0 :: row 3 I1 d2.v d1 :: rs) w → sparseref13_Reach_j27 t d0 d1 = some o9 → p8 .normal (fr 119 f) w := by
   intro d0 d1 d2 f w q4 q5 q6 q7 q8 b A
   refine p9 _ _ _ (p7 _ _ (wR (Ym (iV t) (eh q8) (yY (yadd e0 rfl) (Ya (iV (wa .i64 t 1)) e0 (wN ?_))))))
   cases A
   exact p1 _ _ _ rfl ⟨_, _, _, _, _, rfl, rfl, q4, q5, q6, q7, rfl, b⟩
  refine cIf e0 q (fun q9 q => ?_) fun q9 q => ?_
  ·refine sR fun _ r0 => Ym d.v (eh a2) (Ym (iV t) (eh N) (bE q fun s7 g3 q => yY (yIs SL_56 e0 e0 b rO5 g3) (yT (r_sti (cs := [.bool true]) (b.k1k) O_4 rfl e0 rfl rfl mkB g3) fun w b => wK r0 (wR (Ym a1.v (eh c9) (Ym (iV t) (eh N) (yH (rLt (n := 1) (l := [t]) b SL_22 [iV t] (bp1 e0) rfl rfl (mks1 (cs := [iV t]) rfl mkI mks0)) ?_)))))))
   exact fun s8 w b => bE q fun s9 r1 q => yH (rAp (b.k22) SL_22 e0 e0 rO1 r1) fun r2 w b => Ya r2.v e0 (wN (g2 _ _ _ _ _ S c8 a2 rfl N (b.k36) q))
  ·exact wp_skip (g2 _ _ _ _ _ S c8 a2 c9 N b q)
 ·refine wp_exit (p4 _ _ _ rfl ?_)
  cases q
  exact p2 _ _ _ _ rfl rfl (h4 _ _ _ _ _ S c8 a2 c9 b (p0 _ rfl))
end Go.Proofs.YtgnfkbaghjmgiaaGreatDoor
