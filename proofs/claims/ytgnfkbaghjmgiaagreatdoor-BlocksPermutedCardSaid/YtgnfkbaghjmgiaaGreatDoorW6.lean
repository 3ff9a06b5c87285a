/- Walks: each function computes its model, printed. -/
import Derived.Test.YtgnfkbaghjmgiaaGreatDoorW5
namespace Go.Proofs.YtgnfkbaghjmgiaaGreatDoor
open Go Sx M
set_option maxRecDepth 100000
set_option maxHeartbeats 40000000
set_option linter.unusedVariables false
attribute [local irreducible] wpList Code.wp Calls DR QR QS LA LS St
variable {w0 : World} {ros : List Fact} {rs : List Res} {w : World}
theorem sparsemake_Value_ok {c out : Int} (a : sparsemake_Value c = some out) (h : globF ∈ ros) (b : St w0 ros rs w) :
  Calls Tryz.prog 33 #[iV c] w (fun e w => e = .returned (.int .u64 out) ∧ St w0 ros rs w) := by
 refine enterQ Tryz.func33 rfl Tryz.ntmps33 rfl fun Q j => sR fun _ k => Ya (.int .u64 0) rfl (wK k (sR fun _ l => Ym (iV c) e0 (bE a fun d m a => yC (yCall FN_10 (a2 e0 rfl)) (sparsekit_Place_ok m b) ?_)))
 rintro _ w ⟨rfl, b⟩
 refine ⟨_, rfl, ?_⟩
 refine yY (ysub e0 rfl) (Ya (iV (ws .i64 d 8)) e0 (wK l (sR fun _ n => Ya (iV 0) rfl (wK n (sQ fun o p => sR fun _ q => Ym (iV c) e0 (yY (ycv (k' := .u64) (by kernel_rfl) (by kernel_rfl) e0) ?_))))))
 refine yY (yquoc e0 rfl (by decide)) (yY (ycv (k' := .i64) (by kernel_rfl) (by kernel_rfl) e0) (Ya (iV (wc .i64 (wqc .u64 (wc .u64 c) 17))) e0 (wK q (sR fun _ r => Ym (iV (wc .i64 (wqc .u64 (wc .u64 c) 17))) e0 (yY (yremc e0 rfl (by decide)) (yY (yeql e0 rfl) (wK r ?_)))))))
 have i : ∀ (g : Int) (f : FV) w, f 3 = iV (ws .i64 d 8) → f 4 = iV g → St w0 ros rs w → sparsemake_Value_j1 d g = some out → o .normal (fr 25 f) w := by
  intro g f w s t b a
  refine p _ _ (sR fun _ u => Ym (iV (ws .i64 d 8)) (eh s) (bE a fun B v a => yC (yCall FN_60 (a1 e0)) (sparseref02_FromInt_ok v h b) ?_))
  rintro _ w ⟨C, rfl, b⟩
  refine ⟨_, rfl, ?_⟩
  refine Ym (iV g) (eh t) (bE a fun D x a => yC (yCall FN_59 (a2 e0 e0)) (sparseref02_Scale_ok x F0 (mtF h) b) ?_)
  rintro _ w ⟨E, rfl, b⟩
  refine ⟨_, rfl, ?_⟩
  refine bE a fun y z a => yC (yCall FN_58 (a2 e0 rfl)) (sparseref03_Round_ok z F0 (F_2 h) b) ?_
  rintro _ w ⟨rfl, b⟩
  refine ⟨_, rfl, ?_⟩
  refine Ya (.int .u64 y) e0 (wK u (wp_ret ?_))
  cases a
  exact j _ _ _ (fin1r Tryz.results33 ⟨rfl, rfl⟩ ⟨rfl, (b.facts (allT (allT allI)))⟩)
 refine cIf e0 a (fun A a => ?_) fun A a => ?_
 ·exact wR (Ym (iV (wc .i64 (wqc .u64 (wc .u64 c) 17))) e0 (yY (yquoc e0 rfl (by decide)) (yY (yremc e0 rfl (by decide)) (yY (ysub e0 rfl) (Ya (iV (ws .i64 (wrc (wqc .i64 (wc .i64 (wqc .u64 (wc .u64 c) 17)) 3) 13) 6)) e0 (wN (i _ _ _ rfl rfl b a)))))))
 ·exact wp_skip (i _ _ _ rfl rfl b a)
theorem sparseref09_Pack_ok {c d : Int} {c0 : List (Int × Int × Int)} {m : Hdr} {out : Int × Int × LI × LI × LI} (t : sparseref09_Pack c d c0 = some out) (A : imm rTi64i64u64 m.v c0 ∈ ros) (b : St w0 ros rs w) :
  Calls Tryz.prog 34 #[iV c, iV d, m.v] w (fun e w => ∃ (c1 c2 c3 : Hdr), e = .returned (.agg #[iV out.1, iV out.2.1, c1.v, c2.v, c3.v]) ∧ St w0 ros (row 3 I1 c1.v out.2.2.1 :: row 3 I1 c2.v out.2.2.2.1 :: row 47 (rI .u64) c3.v out.2.2.2.2 :: rs) w) := by
 refine enterQ Tryz.func34 rfl Tryz.ntmps34 rfl fun Q d9 => sR fun _ e1 => yBb (rAl b ZT_27) fun i w b => wK e1 (sR fun _ e2 => Ym (iV c) e0 (Ym (iV d) e0 (yH (rLt (n := 1) (l := [0]) b SL_22 [iV 0] (bp1 rfl) rfl rfl (mks1 (cs := [iV 0]) rfl mkI mks0)) fun y w b => yY (ybuild (us := [iV c, iV d, y.v, hnil.v, hnil.v]) [(0, iV c), (1, iV d), (2, y.v)] SO_27 (bp3 e0 e0 e0) rfl) ?_)))
 refine yBb (rAl b ZT_27) fun j w b => yT (r_stbn (vals' := [iV c, iV d, y.v, hnil.v, hnil.v]) (us := [iV c, iV d, y.v, hnil.v, hnil.v]) b ST_27 e0 e0 rfl rfl (one_of rfl) rfl) fun w b => wK e2 (sR fun _ e3 => Ym (iV c) e0 (Ym (iV d) e0 (yY (ymul e0 e0) (bE t fun o0 e4 t => yH (rMk b SL_22 e0 e4) fun h w b => ?_))))
 refine Ya h.v e0 (wK e3 (sQ fun _ e5 => sR fun _ e6 => Ya (iV 0) rfl (wK e6 (blockQ fun e7 e8 => bE t fun e9 f0 t => ?_))))
 have f1 : ∀ (B : LI) (f : FV) w, f 0 = iV c → f 1 = iV d → f 2 = m.v → f 6 = (pB i) → f 7 = (pB j) → f 8 = h.v → St w0 ros (box i 27 [iV 0, iV 0, hnil.v, hnil.v, hnil.v] :: row 3 I1 y.v [0] :: box j 27 [iV c, iV d, y.v, hnil.v, hnil.v] :: row 3 I1 h.v B :: rs) w → B = e9 → e7 (.exit 0) (fr 90 f) w := by
  intro B f w f2 f3 f4 f5 f6 f7 b ho
  subst ho
  refine e8 _ _ _ (e5 _ _ (sQ fun _ f8 => sR fun _ f9 => Ya (iV 0) rfl (wK f9 (blockQ fun g0 g1 => bE t fun g2 g3 t => ?_))))
  have g4 : ∀ (X Z a0 : LI) (C D E : Hdr) (f : FV) w, f 6 = (pB i) → f 7 = (pB j) → St w0 ros (box i 27 [iV 0, iV 0, hnil.v, hnil.v, hnil.v] :: row 3 I1 C.v X :: row 3 I1 D.v Z :: row 47 (rI .u64) E.v a0 :: box j 27 [iV c, iV d, C.v, D.v, E.v] :: rs) w → (X, Z, a0) = g2 → g0 (.exit 2) (fr 90 f) w := by
   intro X Z a0 C D E f w c4 g5 b ho
   subst ho
   refine g1 _ _ _ (f8 _ _ (sR fun _ g6 => yY (lbs_ [iV c, iV d, C.v, D.v, E.v] ST_27 (eh g5) b R4) (yT (r_stbn (vals' := [iV c, iV d, C.v, D.v, E.v]) (us := [iV c, iV d, C.v, D.v, E.v]) b ST_27 (eh c4) e0 rfl rfl (one_of rfl) rfl) fun w b => wK g6 (wp_ret ?_))))
   cases t
   exact d9 _ _ _ (fin1r Tryz.results34 (rcs2 rfl c4 b R0 ST_27 rfl) ⟨_, _, _, rfl, (b.k1t)⟩)
  replace b := (b.rowNh 3 I1).rowNh 47 (rI .u64)
  refine loopQ (fun s a w => ∃ (F a1 a2 : LI) (q : Int) (f : FV) (o a3 a4 : Hdr), (F, a1, a2, q) = s ∧ a = fr 90 f ∧ f 0 = iV c ∧ f 1 = iV d ∧ f 2 = m.v ∧ f 6 = (pB i) ∧ f 7 = (pB j) ∧ f 8 = h.v ∧ f 10 = iV q ∧ St w0 ros (box i 27 [iV 0, iV 0, hnil.v, hnil.v, hnil.v] :: row 3 I1 o.v F :: row 3 I1 a3.v a1 :: row 47 (rI .u64) a4.v a2 :: box j 27 [iV c, iV d, o.v, a3.v, a4.v] :: row 3 I1 h.v B :: rs) w) g3 ⟨_, _, _, _, _, _, _, _, rfl, rfl, f2, f3, f4, f5, f6, f7, rfl, (b.k2t)⟩ ?_
  rintro _ _ w o2 ⟨F, a1, a2, q, f, o, a3, a4, rfl, rfl, g7, c5, g8, c6, c7, g9, c8, b⟩ x h0 o3 h1 h2
  refine seqQ fun o4 h3 h5 => sR fun _ h7 => Ym (iV q) (eh c8) (Ym (iV d) (eh c5) (yY (ylss e0 e0) (wK h7 ?_)))
  refine cIf e0 x (fun h9 x => ?_) fun h9 x => ?_
  ·refine wp_skip (h3 _ _ (sQ fun _ i0 => blockQ fun _ i1 => sQ fun _ i2 => sR fun _ i3 => Ya (iV 0) rfl (wK i3 (blockQ fun i4 i5 => bE x fun i6 i7 x => ?_))))
   have i8 : ∀ (G a5 : LI) (I O : Hdr) (f : FV) w, f 0 = iV c → f 1 = iV d → f 2 = m.v → f 6 = (pB i) → f 7 = (pB j) → f 8 = h.v → f 10 = iV q → St w0 ros (box i 27 [iV 0, iV 0, hnil.v, hnil.v, hnil.v] :: row 3 I1 o.v F :: row 3 I1 I.v G :: row 47 (rI .u64) O.v a5 :: box j 27 [iV c, iV d, o.v, I.v, O.v] :: row 3 I1 h.v B :: rs) w → (G, a5) = i6 → i4 (.exit 4) (fr 90 f) w := by
    intro G a5 I O f w i9 j0 j1 j2 R j3 j4 b ho
    subst ho
    refine i5 _ _ _ (i2 _ _ (wR (yY (yFb FL_27_2 (eh R)) (yY (lb_ o.v O_22 e0 b R4) (yY (yFb FL_27_3 (eh R)) (yY (lb_ I.v O_22 e0 b R4) (yY (yLen SL_22 e0 b rO2) (yH (rLt (n := 1) (l := [(G.length : Int)]) b SL_22 [iV (G.length : Int)] (bp1 e0) rfl rfl (mks1 (cs := [iV (G.length : Int)]) rfl mkI mks0)) fun o5 w b => bE x fun o6 j5 x => yH (rAp (b.k17) SL_22 e0 e0 rO1 j5) fun j6 w b => yY (yFb FL_27_2 (eh R)) ?_))))))))
    refine yT (r_stb1 (vals' := [iV c, iV d, j6.v, I.v, O.v]) (b.k1k) O_22 e0 e0 rfl rfl rfl rfl) fun w b => wN (i1 _ _ _ (i0 _ _ (wR (Ym (iV q) (eh j4) (yY (yadd e0 rfl) (Ya (iV (wa .i64 q 1)) e0 (wN ?_)))))))
    cases x
    exact h1 _ _ _ rfl ⟨_, _, _, _, _, _, _, _, rfl, rfl, i9, j0, j1, j2, R, j3, rfl, (b.k2u)⟩
   refine loopQ (fun s a w => ∃ (a6 a7 : LI) (k : Int) (f : FV) (S H : Hdr), (a6, a7, k) = s ∧ a = fr 90 f ∧ f 0 = iV c ∧ f 1 = iV d ∧ f 2 = m.v ∧ f 6 = (pB i) ∧ f 7 = (pB j) ∧ f 8 = h.v ∧ f 10 = iV q ∧ f 11 = iV k ∧ St w0 ros (box i 27 [iV 0, iV 0, hnil.v, hnil.v, hnil.v] :: row 3 I1 o.v F :: row 3 I1 S.v a6 :: row 47 (rI .u64) H.v a7 :: box j 27 [iV c, iV d, o.v, S.v, H.v] :: row 3 I1 h.v B :: rs) w) i7 ⟨_, _, _, _, _, _, rfl, rfl, g7, c5, g8, c6, c7, g9, c8, rfl, b⟩ ?_
   rintro _ _ w j7 ⟨a6, a7, k, f, S, H, rfl, rfl, J, a8, T, a9, z, U, V, K, b⟩ g j8 o7 j9 k0
   refine seqQ fun o8 k6 k7 => sR fun _ k8 => Ym (iV k) (eh K) (Ym (iV c) (eh J) (yY (ylss e0 e0) (wK k8 ?_)))
   refine cIf e0 g (fun k9 g => ?_) fun k9 g => ?_
   ·refine wp_skip (k6 _ _ (sQ fun _ l0 => blockQ fun l1 l2 => sR fun _ l3 => Ym h.v (eh U) (Ym (iV q) (eh V) (Ym (iV c) (eh J) (yY (ymul e0 e0) (Ym (iV k) (eh K) (yY (yadd e0 e0) (bE g fun b0 c9 g => yY (yIa SL_22 e0 e0 b rO5 c9) ?_))))))))
    refine yY (yI O_3 e0 b rO5 c9) (Ya (iV b0) e0 (wK l3 (sR fun _ l4 => Ym (iV b0) e0 (yY (ygtr e0 rfl) (wK l4 ?_)))))
    have d0 : ∀ (b1 b2 : LI) (b3 b4 : Hdr) (f : FV) w, f 0 = iV c → f 1 = iV d → f 2 = m.v → f 6 = (pB i) → f 7 = (pB j) → f 8 = h.v → f 10 = iV q → f 11 = iV k → St w0 ros (box i 27 [iV 0, iV 0, hnil.v, hnil.v, hnil.v] :: row 3 I1 o.v F :: row 3 I1 b3.v b1 :: row 47 (rI .u64) b4.v b2 :: box j 27 [iV c, iV d, o.v, b3.v, b4.v] :: row 3 I1 h.v B :: rs) w → sparseref09_Pack_j14 k b1 b2 = some j7 → l1 .normal (fr 90 f) w := by
     intro b1 b2 b3 b4 f w l5 l6 l7 l8 l9 m0 m1 m2 b t
     refine l2 _ _ _ (l0 _ _ (wR (Ym (iV k) (eh m2) (yY (yadd e0 rfl) (Ya (iV (wa .i64 k 1)) e0 (wN ?_))))))
     cases t
     exact j9 _ _ _ rfl ⟨_, _, _, _, _, _, rfl, rfl, l5, l6, l7, l8, l9, m0, m1, rfl, b⟩
    refine cIf e0 g (fun m3 g => ?_) fun m3 g => ?_
    ·refine sR fun _ m4 => yY (yFb FL_27_3 (eh z)) (yY (lb_ S.v O_22 e0 b R4) (Ym (iV k) (eh K) (yH (rLt (n := 1) (l := [k]) b SL_22 [iV k] (bp1 e0) rfl rfl (mks1 (cs := [iV k]) rfl mkI mks0)) fun o9 w b => bE g fun p0 m5 g => yH (rAp (b.k14) SL_22 e0 e0 rO1 m5) fun d1 w b => yY (yFb FL_27_3 (eh z)) (yT (r_stb1 (vals' := [iV c, iV d, o.v, d1.v, H.v]) (b.k1k) O_22 e0 e0 rfl rfl rfl rfl) fun w b => wN ?_))))
     refine m4 _ _ (bE g fun W d2 g => bE g fun p1 m6 g => dR [0, 1, 0, 0, 8, 28, 60, 124, 252, 511, 1023, 2047] [8, 9, 11] 3 folM ?_)
     replace b := b.drew
     refine Dn [0, 1, 2, 3, 4, 5, 6, 7] [] [8] (yR rfl (yFb FL_27_4 (eh z)) (yR rfl (lb_ H.v O_25 e0 b R0) (yR rfl (m_ m.v (eh T)) (yR rfl (m_ (iV b0) e0) (yR rfl (ysub e0 rfl) (yR rfl (yIa SL_44 e0 e0 b (rdI A) d2) (yR rfl (yFe FL_49_2 e0) (yR rfl (yFf (u := .int .u64 W.2.2) O_47 e0 b (rdI A) d2 rfl) (Rn QSn ?_)))))))))
     refine Lc1 rfl ?_
     refine LH wn (rLt (n := 1) (l := [W.2.2]) b SL_25 [.int .u64 W.2.2] (bp1 e0) rfl rfl (mks1 (cs := [.int .u64 W.2.2]) rfl mkI mks0)) fun p2 w b => Dn [] [0, 1] [9] (Rn (yS rfl (yFb FL_27_4 (eh z)) (yS rfl (lb_ H.v O_25 e0 b R1) QSn)) ?_)
     refine Lc1 rfl ?_
     replace b := b.k1a
     refine LH wn (rAp b SL_25 e0 e0 rO1 m6) fun m7 w b => Dn [10] [] [11] (yR rfl (yFb FL_27_4 (eh z)) (Rn QSn ?_))
     refine Lc1 rfl ?_
     replace b := b.k17
     exact LT wn (r_stb1 (vals' := [iV c, iV d, o.v, d1.v, m7.v]) b O_25 e0 e0 rfl rfl rfl rfl) fun w b => Dz [] [] (Rn QSn (d0 _ _ _ _ _ _ J a8 T a9 z U V K (b.k2v) g))
    ·exact wp_skip (d0 _ _ _ _ _ _ J a8 T a9 z U V K b g)
   ·refine wp_exit (k7 _ _ _ rfl ?_)
    cases g
    exact k0 _ _ _ _ rfl rfl (i8 _ _ _ _ _ _ J a8 T a9 z U V b (j8 _ rfl))
  ·refine wp_exit (h5 _ _ _ rfl ?_)
   cases x
   exact h2 _ _ _ _ rfl rfl (g4 _ _ _ _ _ _ _ _ c6 c7 (b.k1y) (h0 _ rfl))
 refine loopQ (fun s a w => ∃ (b6 : LI) (r : Int) (f : FV), (b6, r) = s ∧ a = fr 90 f ∧ f 0 = iV c ∧ f 1 = iV d ∧ f 2 = m.v ∧ f 6 = (pB i) ∧ f 7 = (pB j) ∧ f 8 = h.v ∧ f 9 = iV r ∧ St w0 ros (box i 27 [iV 0, iV 0, hnil.v, hnil.v, hnil.v] :: row 3 I1 y.v [0] :: box j 27 [iV c, iV d, y.v, hnil.v, hnil.v] :: row 3 I1 h.v b6 :: rs) w) f0 ⟨_, _, _, rfl, rfl, rfl, rfl, rfl, rfl, rfl, rfl, rfl, (b.k2g)⟩ ?_
 rintro _ _ w p3 ⟨b6, r, f, rfl, rfl, b8, d3, L, d4, d5, b9, N, b⟩ p m8 p4 m9 n0
 refine seqQ fun p5 n2 n3 => sR fun _ n4 => Ym (iV r) (eh N) (Ym m.v (eh L) (yY (yLen SL_44 e0 b (rdI A)) (yY (ylss e0 e0) (wK n4 ?_))))
 refine cIf e0 p (fun n5 p => ?_) fun n5 p => ?_
 ·refine wp_skip (n2 _ _ (sQ fun _ n6 => blockQ fun _ n7 => bE p fun n8 d6 p => bE p fun n9 d7 p => bE p fun p6 d8 p => dR [0, 0, 0, 6, 14, 30, 0, 126, 0, 0, 768, 1792, 3840, 8190, 0, 16384, 65535, 131071] [17] 1 folM ?_))
  replace b := b.drew
  refine Dn [0, 1, 2, 3, 4, 5, 6, 7, 8, 9, 10, 11, 12, 13, 14, 15, 16] [] [17] (yR rfl (m_ h.v (eh b9)) (yR rfl (m_ m.v (eh L)) (yR rfl (m_ (iV r) (eh N)) (yR rfl (yIa SL_44 e0 e0 b (rdI A) d6) (yR rfl (yFe FL_49_1 e0) (yR rfl (yFf (u := iV n8.2.1) O_3 e0 b (rdI A) d6 rfl) (yR rfl (m_ (iV c) (eh b8)) (yR rfl (ymul e0 e0) (yR rfl (m_ m.v (eh L)) (yR rfl (m_ (iV r) (eh N)) (yR rfl (yIa SL_44 e0 e0 b (rdI A) d7) (yR rfl (yFe FL_49_0 e0) (yR rfl (yFf (u := iV n9.1) O_3 e0 b (rdI A) d7 rfl) ?_)))))))))))))
  refine yR rfl (yadd e0 e0) (yR rfl (m_ (iV r) (eh N)) (yR rfl (yadd e0 rfl) (yR rfl (yIs SL_22 e0 e0 b rO3 d8) (Rn QSn ?_))))
  refine Lc1 rfl ?_
  replace b := b.k14
  refine LT wn (r_sti (cs := [iV (wa .i64 r 1)]) b O_3 rfl e0 e0 rfl mkI d8) fun w b => Dz [] [] (Rn QSn (n7 _ _ _ (n6 _ _ (wR (Ym (iV r) (eh N) (yY (yadd e0 rfl) (Ya (iV (wa .i64 r 1)) e0 (wN ?_))))))))
  cases p
  exact m9 _ _ _ rfl ⟨_, _, _, rfl, rfl, b8, d3, L, d4, d5, b9, rfl, (b.k2w)⟩
 ·refine wp_exit (n3 _ _ _ rfl ?_)
  cases p
  exact n0 _ _ _ _ rfl rfl (f1 _ _ _ b8 d3 L d4 d5 b9 b (m8 _ rfl))
theorem sparsemake_Matrix_ok {g i : Int} {p : LI} {j : Hdr} {out : Int × Int × LI × LI × LI} (y : sparsemake_Matrix g i p = some out) (h : imm I1 j.v p ∈ ros) (b3 : globF ∈ ros) (b : St w0 ros rs w) :
  Calls Tryz.prog 11 #[iV g, iV i, j.v] w (fun e w => ∃ (O R S : Hdr), e = .returned (.agg #[iV out.1, iV out.2.1, O.v, R.v, S.v]) ∧ St w0 ros (row 3 I1 O.v out.2.2.1 :: row 3 I1 R.v out.2.2.2.1 :: row 47 (rI .u64) S.v out.2.2.2.2 :: rs) w) := by
 refine enterQ Tryz.func11 rfl Tryz.ntmps11 rfl fun Q b4 => sR fun _ b6 => yBb (rAl b ZT_27) fun q w b => wK b6 (sR fun _ b7 => Ya hnil.v rfl (wK b7 (sQ fun _ b8 => sQ fun _ b9 => ?_)))
 refine wR (Ya (iV 0) rfl (wK b9 (blockQ fun c0 c1 => bE y fun c2 c3 y => ?_)))
 have c4 : ∀ (H : List (Int × Int × Int)) (D : Hdr) (f : FV) w, f 0 = iV g → f 1 = iV i → f 6 = (pB q) → f 7 = D.v → St w0 ros (box q 27 [iV 0, iV 0, hnil.v, hnil.v, hnil.v] :: row 49 rTi64i64u64 D.v H :: rs) w → H = c2 → c0 (.exit 0) (fr 51 f) w := by
  intro H D f w c5 c6 T c7 b ho
  subst ho
  refine c1 _ _ _ (b8 _ _ (sR fun _ c8 => Ym (iV g) (eh c5) (Ym (iV i) (eh c6) (Ym D.v (eh c7) (bE y fun E c9 y => ?_)))))
  replace b := (b.k11).fz
  refine yC (yCall FN_34 (a3 e0 e0 e0)) (sparseref09_Pack_ok c9 F0 b) ?_
  rintro _ w ⟨U, V, W, rfl, b⟩
  refine ⟨_, rfl, ?_⟩
  refine yT (r_stbn (vals' := [iV E.1, iV E.2.1, U.v, V.v, W.v]) (us := [iV E.1, iV E.2.1, U.v, V.v, W.v]) (b.k14) ST_27 (eh T) e0 rfl rfl (one_of rfl) rfl) fun w b => wK c8 (wp_ret ?_)
  cases y
  exact b4 _ _ _ (fin1r Tryz.results11 (rcs2 rfl T b R0 ST_27 rfl) ⟨_, _, _, rfl, ((b.k2s).facts (allT allI))⟩)
 replace b := b.rowNh 49 rTi64i64u64
 refine loopQ (fun s a w => ∃ (z : List (Int × Int × Int)) (c : Int) (f : FV) (k : Hdr), (z, c) = s ∧ a = fr 51 f ∧ f 0 = iV g ∧ f 1 = iV i ∧ f 2 = j.v ∧ f 6 = (pB q) ∧ f 7 = k.v ∧ f 8 = iV c ∧ St w0 ros (box q 27 [iV 0, iV 0, hnil.v, hnil.v, hnil.v] :: row 49 rTi64i64u64 k.v z :: rs) w) c3 ⟨_, _, _, _, rfl, rfl, rfl, rfl, rfl, rfl, rfl, rfl, (b.k11)⟩ ?_
 rintro _ _ w e7 ⟨z, c, f, k, rfl, rfl, I, X, J, Z, a0, K, b⟩ d d0 e8 d1 d2
 refine seqQ fun e9 d3 d4 => sR fun _ d5 => Ym (iV c) (eh K) (yY (yadd e0 rfl) (Ym j.v (eh J) (yY (yLen SL_22 e0 b (rdI h)) (yY (ylss e0 e0) (Ym (.bool (decide ((wa .i64 c 2) < (p.length : Int)))) e0 ?_)))))
 refine joinW 3 (fun f w => f 0 = iV g ∧ f 1 = iV i ∧ f 2 = j.v ∧ f 6 = (pB q) ∧ f 7 = k.v ∧ f 8 = iV c ∧ f 17 = .bool ((decide ((wa .i64 c 2) < (p.length : Int))) && (decide ((0 : Int) < g))) ∧ St w0 ros (box q 27 [iV 0, iV 0, hnil.v, hnil.v, hnil.v] :: row 49 rTi64i64u64 k.v z :: rs) w) (fun a4 => ?_) ?_
 ·rcases Bool.eq_false_or_eq_true (decide ((wa .i64 c 2) < (p.length : Int))) with m | m
  ·exact yG m (m_ (iV g) (eh I)) (yG m (ygtr e0 rfl) (yY (pt_ (.bool (decide ((0 : Int) < g))) e0 m e0) (a4 _ _ ⟨I, X, J, Z, a0, K, (congrArg Value.bool (andT m)), b⟩)))
  ·exact gN m (gN m (yY (pf_ (.bool false) e0 m rfl) (a4 _ _ ⟨I, X, J, Z, a0, K, (congrArg Value.bool (andF m)), b⟩)))
 rintro f w ⟨a5, L, a6, a7, a8, a9, d6, b⟩
 refine Ym (.bool ((decide ((wa .i64 c 2) < (p.length : Int))) && (decide ((0 : Int) < g)))) (eh d6) ?_
 refine joinW 3 (fun f w => f 0 = iV g ∧ f 1 = iV i ∧ f 2 = j.v ∧ f 6 = (pB q) ∧ f 7 = k.v ∧ f 8 = iV c ∧ f 21 = .bool (((decide ((wa .i64 c 2) < (p.length : Int))) && (decide ((0 : Int) < g))) && (decide ((0 : Int) < i))) ∧ St w0 ros (box q 27 [iV 0, iV 0, hnil.v, hnil.v, hnil.v] :: row 49 rTi64i64u64 k.v z :: rs) w) (fun b0 => ?_) ?_
 ·rcases Bool.eq_false_or_eq_true ((decide ((wa .i64 c 2) < (p.length : Int))) && (decide ((0 : Int) < g))) with o | o
  ·exact yG o (m_ (iV i) (eh L)) (yG o (ygtr e0 rfl) (yY (pt_ (.bool (decide ((0 : Int) < i))) e0 o e0) (b0 _ _ ⟨a5, L, a6, a7, a8, a9, (congrArg Value.bool (andT o)), b⟩)))
  ·exact gN o (gN o (yY (pf_ (.bool false) e0 o rfl) (b0 _ _ ⟨a5, L, a6, a7, a8, a9, (congrArg Value.bool (andF o)), b⟩)))
 rintro f w ⟨N, F, r, b1, u, t, d7, b⟩
 refine wK d5 (cB (eh d7) d (fun d8 d => ?_) fun d8 d => ?_)
 ·refine wp_skip (d3 _ _ (sQ fun _ d9 => blockQ fun _ e1 => bE d fun f0 b2 d => bE d fun A e2 d => bE d fun f1 G d => bE d fun B e3 d => bE d fun f2 x d => bE d fun C e4 d => bE d fun f3 e5 d => dR [0, 0, 0, 6, 14, 0, 62, 0, 0, 256, 896, 1920, 0, 8190, 0, 0, 32768, 114688, 245760, 524286, 1048574, 2097150, 4194303, 8388607] [6, 13, 19, 21, 22, 23] 6 folM ?_))
  replace b := b.drew
  refine Dn [0, 1, 2, 3, 4, 5, 7, 8, 9, 10, 11, 12, 14, 15, 16, 17, 18] [] [6] (yR rfl (m_ k.v (eh u)) (yR rfl (m_ j.v (eh r)) (yR rfl (m_ (iV c) (eh t)) (yR rfl (yIa SL_22 e0 e0 b (rdI h) b2) (yR rfl (yI O_3 e0 b (rdI h) b2) (yR rfl (m_ (iV g) (eh N)) (yR rfl (m_ j.v (eh r)) (yR rfl (m_ (iV c) (eh t)) (yR rfl (yadd e0 rfl) (yR rfl (yIa SL_22 e0 e0 b (rdI h) G) (yR rfl (yI O_3 e0 b (rdI h) G) (yR rfl (m_ (iV i) (eh F)) (yR rfl (m_ j.v (eh r)) ?_)))))))))))))
  refine yR rfl (m_ (iV c) (eh t)) (yR rfl (yadd e0 rfl) (yR rfl (yIa SL_22 e0 e0 b (rdI h) x) (yR rfl (yI O_3 e0 b (rdI h) x) (Rn QSn ?_))))
  refine Lc1 rfl ?_
  refine Lk wn (yCall FN_10 (a2 e0 e0)) (sparsekit_Place_ok e2 b) ?_
  rintro _ w ⟨rfl, b⟩
  refine ⟨_, rfl, ?_⟩
  refine Dn [] [0, 7, 8, 9, 10, 11, 12, 14, 15, 16, 17, 18] [13] (Rn (yS rfl (m_ k.v (eh u)) (yS rfl (m_ j.v (eh r)) (yS rfl (m_ (iV c) (eh t)) (yS rfl (yadd e0 rfl) (yS rfl (yIa SL_22 e0 e0 b (rdI h) G) (yS rfl (yI O_3 e0 b (rdI h) G) (yS rfl (m_ (iV i) (eh F)) (yS rfl (m_ j.v (eh r)) (yS rfl (m_ (iV c) (eh t)) (yS rfl (yadd e0 rfl) (yS rfl (yIa SL_22 e0 e0 b (rdI h) x) (yS rfl (yI O_3 e0 b (rdI h) x) QSn)))))))))))) ?_)
  refine Lc1 rfl ?_
  refine Lk wn (yCall FN_10 (a2 e0 e0)) (sparsekit_Place_ok e3 b) ?_
  rintro _ w ⟨rfl, b⟩
  refine ⟨_, rfl, ?_⟩
  refine Dn [] [0, 14, 15, 16, 17, 18] [19] (Rn (yS rfl (m_ k.v (eh u)) (yS rfl (m_ j.v (eh r)) (yS rfl (m_ (iV c) (eh t)) (yS rfl (yadd e0 rfl) (yS rfl (yIa SL_22 e0 e0 b (rdI h) x) (yS rfl (yI O_3 e0 b (rdI h) x) QSn)))))) ?_)
  refine Lc1 rfl ?_
  refine Lk wn (yCall FN_33 (a1 e0)) (sparsemake_Value_ok e4 b3 b) ?_
  rintro _ w ⟨rfl, b⟩
  refine ⟨_, rfl, ?_⟩
  refine Dn [20] [0] [21] (yR rfl (ybuild (us := [iV A, iV B, .int .u64 C]) [(0, iV A), (1, iV B), (2, .int .u64 C)] SO_49 (bp3 e0 e0 e0) rfl) (Rn (yS rfl (m_ k.v (eh u)) QSn) ?_))
  refine Lc1 rfl ?_
  refine LH wn (rLt (n := 1) (l := [(A, B, C)]) b SL_44 [.agg #[iV A, iV B, .int .u64 C]] (bp1 e0) rfl rfl (mks1 (cs := [iV A, iV B, .int .u64 C]) rfl (mkF rfl) mks0)) fun f4 w b => Dn [] [0] [22] (Rn (yS rfl (m_ k.v (eh u)) QSn) ?_)
  refine Lc1 rfl ?_
  replace b := b.k17
  refine LH wn (rAp b SL_44 e0 e0 rO1 e5) fun e6 w b => Dn [] [] [23] (Rn QSn ?_)
  refine Lc1 rfl ?_
  refine Ly wn (a_ e6.v e0) (Dz [] [] (Rn QSn (e1 _ _ _ (d9 _ _ (wR (Ym (iV c) (eh t) (yY (yadd e0 rfl) (Ya (iV (wa .i64 c 3)) e0 (wN ?_)))))))))
  cases d
  exact d1 _ _ _ rfl ⟨_, _, _, _, rfl, rfl, N, F, r, b1, rfl, rfl, (b.k1g)⟩
 ·refine wp_exit (d4 _ _ _ rfl ?_)
  cases d
  exact d2 _ _ _ _ rfl rfl (c4 _ _ _ _ N F b1 u b (d0 _ rfl))
theorem sparsekit_Shuffle_ok {N : LI} {j : Int} {k : Hdr} {out : LI} (c : sparsekit_Shuffle N j = some out) (z : imm I1 k.v N ∈ ros) (b : St w0 ros rs w) :
  Calls Tryz.prog 28 #[k.v, iV j] w (fun e w => ∃ (O : Hdr), e = .returned (O.v) ∧ St w0 ros (row 3 I1 O.v out :: rs) w) := by
 refine enterQ Tryz.func28 rfl Tryz.ntmps28 rfl fun Q Z => sR fun _ k1 => Ya hnil.v rfl (wK k1 (sR fun _ k2 => Ya hnil.v rfl (wK k2 (sQ fun _ a0 => sR fun _ a1 => ?_))))
 refine Ya (iV 0) rfl (wK a1 (blockQ fun a3 a4 => bE c fun a5 a6 c => ?_))
 have a7 : ∀ (A : LI) (B : Hdr) (f : FV) w, f 0 = k.v → f 1 = iV j → f 5 = B.v → St w0 ros (row 3 I1 B.v A :: rs) w → A = a5 → a3 (.exit 0) (fr 51 f) w := by
  intro A B f w a8 a9 b0 b ho
  subst ho
  refine a4 _ _ _ (a0 _ _ (sR fun _ b1 => Ya hnil.v rfl (wK b1 (sQ fun _ b2 => sR fun _ b3 => Ya (iV 0) rfl (wK b3 (blockQ fun b4 b5 => ?_))))))
  refine bE c fun b6 b7 c => ?_
  have b8 : ∀ (C : LI) (q : Hdr) (f : FV) w, f 7 = q.v → St w0 ros (row 3 I1 q.v C :: rs) w → C = b6 → b4 (.exit 2) (fr 51 f) w := by
   intro C q f w b9 b ho
   subst ho
   refine b5 _ _ _ (b2 _ _ (sR fun _ c0 => Ym q.v (eh b9) (Ya q.v e0 (wK c0 (wp_ret ?_)))))
   cases c
   exact Z _ _ _ (fin1r Tryz.results28 ⟨rfl, rfl⟩ ⟨_, rfl, b⟩)
  replace b := b.rowNh 3 I1
  refine loopQ (fun s a w => ∃ (r t : LI) (g : Int) (f : FV) (i o : Hdr), (r, t, g) = s ∧ a = fr 51 f ∧ f 0 = k.v ∧ f 1 = iV j ∧ f 5 = i.v ∧ f 7 = o.v ∧ f 8 = iV g ∧ St w0 ros (row 3 I1 i.v r :: row 3 I1 o.v t :: rs) w) b7 ⟨_, _, _, _, _, _, rfl, rfl, a8, a9, b0, rfl, rfl, (b.k11)⟩ ?_
  rintro _ _ w c1 ⟨r, t, g, f, i, o, rfl, rfl, x, D, E, F, u, b⟩ d c2 f9 c3 c4
  refine seqQ fun g0 c5 c6 => sR fun _ c7 => Ym (iV g) (eh u) (Ym (iV j) (eh D) (yY (ylss e0 e0) (wK c7 ?_)))
  refine cIf e0 d (fun c8 d => ?_) fun c8 d => ?_
  ·refine wp_skip (c5 _ _ (sQ fun _ c9 => blockQ fun _ d0 => sR fun _ d1 => Ya (iV 0) rfl (wK d1 (sQ fun d2 d3 => sR fun _ d4 => Ym (iV g) (eh u) (Ym k.v (eh x) ?_)))))
   refine yY (yLen SL_22 e0 b (rdI z)) (yY (ylss e0 e0) (wK d4 ?_))
   have R : ∀ (p : Int) (f : FV) w, f 0 = k.v → f 1 = iV j → f 5 = i.v → f 7 = o.v → f 8 = iV g → f 9 = iV p → St w0 ros (row 3 I1 i.v r :: row 3 I1 o.v t :: rs) w → sparsekit_Shuffle_j5 r t g p = some c1 → d2 .normal (fr 51 f) w := by
    intro p f w d5 d6 G d7 d8 H b c
    refine d3 _ _ (sR fun _ d9 => Ym o.v (eh d7) (Ym i.v (eh G) (Ym (iV p) (eh H) (bE c fun I S c => yY (yIa SL_22 e0 e0 b rO0 S) (yY (yI O_3 e0 b rO0 S) (yH (rLt (n := 1) (l := [I]) b SL_22 [iV I] (bp1 e0) rfl rfl (mks1 (cs := [iV I]) rfl mkI mks0)) fun g1 w b => bE c fun g2 e1 c => yH (rAp (b.k17) SL_22 e0 e0 rO1 e1) fun e2 w b => ?_))))))
    refine Ya e2.v e0 (wK d9 (bE c fun g3 T c => bE c fun g4 U c => bE c fun g5 e3 c => dR [0, 0, 3, 0, 0, 16, 56, 127, 255] [7, 8] 2 folM ?_))
    replace b := b.drew
    refine Dn [0, 1, 2, 3, 4, 5, 6] [] [7] (yR rfl (m_ i.v (eh G)) (yR rfl (m_ (iV p) (eh H)) (yR rfl (ySl (k1 := .i64) SL_22 e0 b rO2 (.inr ⟨rfl, rfl⟩) (.inl (congrArg some e0)) T) (yR rfl (m_ i.v (eh G)) (yR rfl (m_ (iV p) (eh H)) (yR rfl (yadd e0 rfl) (yR rfl (ySl (k2 := .i64) SL_22 e0 b rO2 (.inl (congrArg some e0)) (.inr ⟨rfl, rfl⟩) U) (Rn QSn ?_))))))))
    refine Lc1 rfl ?_
    replace b := b.k17
    refine LH wn (rAp2 b SL_22 e0 e0 T U e3) fun e4 w b => Dn [] [] [8] (Rn QSn ?_)
    refine Lc1 rfl ?_
    refine Ly wn (a_ e4.v e0) (Dz [] [] (Rn QSn (d0 _ _ _ (c9 _ _ (wR (Ym (iV g) (eh d8) (yY (yadd e0 rfl) (Ya (iV (wa .i64 g 1)) e0 (wN ?_)))))))))
    cases c
    exact c3 _ _ _ rfl ⟨_, _, _, _, _, _, rfl, rfl, d5, d6, rfl, rfl, rfl, (b.k1r)⟩
   refine cIf e0 d (fun e5 d => ?_) fun e5 d => ?_
   ·refine wR (Ym k.v (eh x) (Ym (iV g) (eh u) (bE d fun g6 V d => yY (yIa SL_22 e0 e0 b (rdI z) V) (yY (yI O_3 e0 b (rdI z) V) (Ym i.v (eh E) (yY (yLen SL_22 e0 b rO0) (bE d fun e6 e7 d => yC (yCall FN_10 (a2 e0 e0)) (sparsekit_Place_ok e7 b) ?_)))))))
    rintro _ w ⟨rfl, b⟩
    refine ⟨_, rfl, ?_⟩
    exact Ya (iV e6) e0 (wN (R _ _ _ x D E F u rfl b d))
   ·exact wp_skip (R _ _ _ x D E F u rfl b d)
  ·refine wp_exit (c6 _ _ _ rfl ?_)
   cases d
   exact c4 _ _ _ _ rfl rfl (b8 _ _ _ _ F (b.k12) (c2 _ rfl))
 replace b := b.rowNh 3 I1
 refine loopQ (fun s a w => ∃ (J : LI) (h : Int) (f : FV) (y : Hdr), (J, h) = s ∧ a = fr 51 f ∧ f 0 = k.v ∧ f 1 = iV j ∧ f 5 = y.v ∧ f 6 = iV h ∧ St w0 ros (row 3 I1 y.v J :: rs) w) a6 ⟨_, _, _, _, rfl, rfl, rfl, rfl, rfl, rfl, b⟩ ?_
 rintro _ _ w g7 ⟨J, h, f, y, rfl, rfl, W, K, X, L, b⟩ m e8 g8 e9 f0
 refine seqQ fun g9 f1 f2 => sR fun _ f3 => Ym (iV h) (eh L) (Ym (iV j) (eh K) (yY (ylss e0 e0) (wK f3 ?_)))
 refine cIf e0 m (fun f4 m => ?_) fun f4 m => ?_
 ·refine wp_skip (f1 _ _ (sQ fun _ f5 => blockQ fun _ f6 => wR (Ym y.v (eh X) (Ym (iV h) (eh L) (yH (rLt (n := 1) (l := [h]) b SL_22 [iV h] (bp1 e0) rfl rfl (mks1 (cs := [iV h]) rfl mkI mks0)) fun h0 w b => bE m fun h1 f7 m => yH (rAp (b.k11) SL_22 e0 e0 rO1 f7) fun f8 w b => Ya f8.v e0 (wN ?_))))))
  refine f6 _ _ _ (f5 _ _ (wR (Ym (iV h) (eh L) (yY (yadd e0 rfl) (Ya (iV (wa .i64 h 1)) e0 (wN ?_))))))
  cases m
  exact e9 _ _ _ rfl ⟨_, _, _, _, rfl, rfl, W, K, rfl, rfl, (b.k1f)⟩
 ·refine wp_exit (f2 _ _ _ rfl ?_)
  cases m
  exact f0 _ _ _ _ rfl rfl (a7 _ _ _ _ W K X b (e8 _ rfl))
theorem matrix_places_ok {p : LI} {k : Int} {i : Hdr} {out : LI × Int} (h : matrix_places p k = some out) (n : imm I1 i.v p ∈ ros) (b : St w0 ros rs w) :
  Calls Tryz.prog 56 #[i.v, iV k] w (fun e w => ∃ (F : Hdr), e = .returned (.tuple #[F.v, iV out.2]) ∧ St w0 ros (row 3 I1 F.v out.1 :: rs) w) := by
 refine enterQ Tryz.func56 rfl Tryz.ntmps56 rfl fun Q u => sR fun _ b4 => Ya hnil.v rfl (Ya (iV 0) rfl (wK b4 (sR fun _ b5 => Ym (iV k) e0 (bE h fun b6 b7 h => yH (rMk b SL_22 e0 b7) fun c w b => Ya c.v e0 ?_))))
 refine wK b5 (sQ fun _ b8 => sR fun _ b9 => Ym c.v e0 (yY (yLen SL_22 e0 b rO0) (Ym (iV 0) rfl (wK b9 (blockQ fun c0 c1 => bE h fun c2 c3 h => ?_)))))
 have c4 : ∀ (o : LI) (f : FV) w, f 0 = i.v → f 1 = iV k → f 6 = c.v → St w0 ros (row 3 I1 c.v o :: rs) w → o = c2 → c0 (.exit 0) (fr 53 f) w := by
  intro o f w G c5 c6 b ho
  subst ho
  refine c1 _ _ _ (b8 _ _ (seqQ fun i4 c7 c8 => sR fun _ c9 => Ym i.v (eh G) (yY (yLen SL_22 e0 b (rdI n)) (Ym (iV 0) rfl (wK c9 (blockQ fun H I => bE h fun J d0 h => ?_))))))
  have d1 : ∀ (f : FV) w, f 0 = i.v → f 6 = c.v → St w0 ros (row 3 I1 c.v o :: rs) w → .inl () = J → H (.exit 2) (fr 53 f) w := by
   intro f w d2 d3 b ho
   subst ho
   refine I _ _ _ (c7 _ _ (seqQ fun i5 d4 d5 => sR fun _ d6 => Ym i.v (eh d2) (yY (yLen SL_22 e0 b (rdI n)) (Ym (iV 0) rfl (wK d6 (blockQ fun K L => bE h fun N d7 h => ?_))))))
   have d8 : ∀ (x : LI) (f : FV) w, f 6 = c.v → St w0 ros (row 3 I1 c.v x :: rs) w → .inl x = N → K (.exit 4) (fr 53 f) w := by
    intro x f w d9 b ho
    subst ho
    refine L _ _ _ (d4 _ _ (sR fun _ e1 => Ym c.v (eh d9) (Ya c.v e0 (Ya (iV 0) rfl (wK e1 (wp_ret ?_))))))
    cases h
    exact u _ _ _ (fin2r Tryz.results56 ⟨rfl, rfl⟩ ⟨rfl, rfl⟩ ⟨_, rfl, b⟩)
   have e2 : ∀ (f : FV) w, f 4 = hnil.v → f 5 = iV 90 → St w0 ros rs w → .inr () = N → K .ret (fr 53 f) w := by
    intro f w e3 e4 b ho
    subst ho
    refine L _ _ _ (d5 _ _ _ rfl ?_)
    cases h
    replace b := b.rowNh 3 I1
    exact u _ _ _ (fin2r Tryz.results56 ⟨rfl, e3⟩ ⟨rfl, e4⟩ ⟨_, rfl, b⟩)
   refine loopQ (fun s a w => ∃ (y : LI) (j : Int) (f : FV), (y, j) = s ∧ a = fr 53 f ∧ f 6 = c.v ∧ f 35 = i.v ∧ f 36 = iV (p.length : Int) ∧ f 37 = iV j ∧ St w0 ros (row 3 I1 c.v y :: rs) w) d7 ⟨_, _, _, rfl, rfl, d3, rfl, rfl, rfl, b⟩ ?_
   rintro _ _ w i6 ⟨y, j, f, rfl, rfl, q, O, R, r, b⟩ d S i7 e5 T
   refine sR fun _ e6 => yY (ylss (eh r) (eh R)) (wK e6 (seqQ fun i8 e7 e8 => ?_))
   refine cIf e0 d (fun e9 d => ?_) fun e9 d => ?_
   ·refine wp_skip (e7 _ _ (seqQ fun i9 f0 f1 => blockQ fun _ U => sR fun _ f2 => Ym (iV j) (eh r) (bE d fun z V d => yY (yIa SL_22 (eh O) (eh r) b (rdI n) V) (yY (yI O_3 e0 b (rdI n) V) (Ya (iV j) e0 (Ya (iV z) e0 (wK f2 ?_)))))))
    refine seqQ fun j0 f3 f4 => sR fun _ f5 => Ym c.v (eh q) (Ym (iV z) e0 (bE d fun j1 W d => yY (yIa SL_22 e0 e0 b rO0 W) (yY (yI O_3 e0 b rO0 W) (yY (ygeq e0 rfl) (wK f5 ?_)))))
    refine cIf e0 d (fun f6 d => ?_) fun f6 d => ?_
    ·refine sR fun _ f7 => Ya hnil.v rfl (Ya (iV 90) rfl (wK f7 (wp_ret (f4 _ _ _ rfl (U _ _ _ (f1 _ _ _ rfl ?_))))))
     cases d
     exact T _ _ _ _ rfl rfl (e2 _ _ rfl rfl (b.k10) (S _ rfl))
    ·refine wp_skip (f3 _ _ (wR (Ym c.v (eh q) (Ym (iV z) e0 (Ym (iV j) e0 (bE d fun j2 X d => yY (yIs SL_22 e0 e0 b rO0 X) (yT (r_sti (cs := [iV j]) b O_3 rfl e0 e0 rfl mkI X) fun w b => wN (U _ _ _ (f0 _ _ (wR ?_))))))))))
     refine yY (yadd (eh r) rfl) (Ym (iV (wa .i64 j 1)) e0 (wN ?_))
     cases d
     exact e5 _ _ _ rfl ⟨_, _, _, rfl, rfl, q, O, R, rfl, b⟩
   ·refine wp_exit (e8 _ _ _ rfl ?_)
    cases d
    exact T _ _ _ _ rfl rfl (d8 _ _ _ q b (S _ rfl))
  have f8 : ∀ (f : FV) w, f 4 = hnil.v → f 5 = iV 3 → St w0 ros rs w → .inr () = J → H .ret (fr 53 f) w := by
   intro f w f9 g0 b ho
   subst ho
   refine I _ _ _ (c8 _ _ _ rfl ?_)
   cases h
   replace b := b.rowNh 3 I1
   exact u _ _ _ (fin2r Tryz.results56 ⟨rfl, f9⟩ ⟨rfl, g0⟩ ⟨_, rfl, b⟩)
  refine loopQ (fun s a w => ∃ (t : Int) (f : FV), t = s ∧ a = fr 53 f ∧ f 0 = i.v ∧ f 1 = iV k ∧ f 6 = c.v ∧ f 23 = i.v ∧ f 24 = iV (p.length : Int) ∧ f 25 = iV t ∧ St w0 ros (row 3 I1 c.v o :: rs) w) d0 ⟨_, _, rfl, rfl, G, c5, c6, rfl, rfl, rfl, b⟩ ?_
  rintro _ _ w j3 ⟨t, f, rfl, rfl, Z, a0, a1, a2, a4, A, b⟩ g a5 j4 g1 a6
  refine sR fun _ g2 => yY (ylss (eh A) (eh a4)) (wK g2 (seqQ fun j5 g3 g4 => ?_))
  refine cIf e0 g (fun g5 g => ?_) fun g5 g => ?_
  ·refine wp_skip (g3 _ _ (seqQ fun j6 g6 g7 => blockQ fun _ a7 => sR fun _ g8 => bE g fun a8 a9 g => yY (yIa SL_22 (eh a2) (eh A) b (rdI n) a9) (yY (yI O_3 e0 b (rdI n) a9) (Ya (iV a8) e0 (wK g8 (sR fun _ g9 => ?_))))))
   refine Ym (iV a8) e0 (Ym (iV k) (eh a0) (yY (ysub e0 rfl) (bE g fun j7 h0 g => yC (yCall FN_70 (a3 e0 rfl e0)) (matrix_within_ok h0 b) ?_)))
   rintro _ w ⟨rfl, b⟩
   refine ⟨_, rfl, ?_⟩
   refine yY (ynot e0) (wK g9 ?_)
   rcases iteS g with ⟨B, g⟩ | ⟨B, g⟩
   ·refine condF e0 (nF B) (wp_skip (a7 _ _ _ (g6 _ _ (wR (yY (yadd (eh A) rfl) (Ym (iV (wa .i64 t 1)) e0 (wN ?_)))))))
    cases g
    exact g1 _ _ _ rfl ⟨_, _, rfl, rfl, Z, a0, a1, a2, a4, rfl, b⟩
   ·refine condT e0 (nT (bfalse B)) (sR fun _ h1 => Ya hnil.v rfl (Ya (iV 3) rfl (wK h1 (wp_ret (a7 _ _ _ (g7 _ _ _ rfl ?_))))))
    cases g
    exact a6 _ _ _ _ rfl rfl (f8 _ _ rfl rfl (b.k10) (a5 _ rfl))
  ·refine wp_exit (g4 _ _ _ rfl ?_)
   cases g
   exact a6 _ _ _ _ rfl rfl (d1 _ _ Z a1 b (a5 _ rfl))
 refine loopQ (fun s a w => ∃ (C : LI) (l : Int) (f : FV), (C, l) = s ∧ a = fr 53 f ∧ f 0 = i.v ∧ f 1 = iV k ∧ f 6 = c.v ∧ f 15 = iV (b6.length : Int) ∧ f 16 = iV l ∧ St w0 ros (row 3 I1 c.v C :: rs) w) c3 ⟨_, _, _, rfl, rfl, rfl, rfl, rfl, rfl, rfl, b⟩ ?_
 rintro _ _ w j8 ⟨C, l, f, rfl, rfl, b0, b1, D, b2, E, b⟩ m h3 j9 h5 h6
 refine sR fun _ h7 => yY (ylss (eh E) (eh b2)) (wK h7 (seqQ fun k0 h8 h9 => ?_))
 refine cIf e0 m (fun i0 m => ?_) fun i0 m => ?_
 ·refine wp_skip (h8 _ _ (sQ fun _ i1 => blockQ fun _ i2 => sR fun _ i3 => Ym (iV l) (eh E) (Ya (iV l) e0 (wK i3 (wR (Ym c.v (eh D) (Ym (iV l) e0 (bE m fun k5 b3 m => ?_))))))))
  refine yY (yIs SL_22 e0 e0 b rO0 b3) (yT (r_sti (cs := [iV (-1)]) b O_3 rfl e0 rfl rfl mkI b3) fun w b => wN (i2 _ _ _ (i1 _ _ (wR (yY (yadd (eh E) rfl) (Ym (iV (wa .i64 l 1)) e0 (wN ?_)))))))
  cases m
  exact h5 _ _ _ rfl ⟨_, _, _, rfl, rfl, b0, b1, D, b2, rfl, b⟩
 ·refine wp_exit (h9 _ _ _ rfl ?_)
  cases m
  exact h6 _ _ _ _ rfl rfl (c4 _ _ _ b0 b1 D b (h3 _ rfl))
theorem matrix_selected_ok {z A : Int} {a5 a6 a7 a8 a9 b0 b1 : LI} {B C D j k m o : Hdr} {out : Int × Int × LI × LI × LI} (h : matrix_selected z A a5 a6 a7 a8 a9 b0 b1 = some out) (d3 : imm I1 B.v a5 ∈ ros) (d4 : imm I1 C.v a6 ∈ ros) (d5 : imm (rI .u64) D.v a7 ∈ ros) (d6 : imm I1 j.v a8 ∈ ros) (d7 : imm I1 k.v a9 ∈ ros) (E : imm I1 m.v b0 ∈ ros) (F : imm I1 o.v b1 ∈ ros) (b : St w0 ros rs w) :
  Calls Tryz.prog 57 #[.agg #[iV z, iV A, B.v, C.v, D.v], j.v, k.v, m.v, o.v] w (fun e w => ∃ (b2 b3 b4 : Hdr), e = .returned (.agg #[iV out.1, iV out.2.1, b2.v, b3.v, b4.v]) ∧ St w0 ros (row 3 I1 b2.v out.2.2.1 :: row 3 I1 b3.v out.2.2.2.1 :: row 47 (rI .u64) b4.v out.2.2.2.2 :: rs) w) := by
 refine enterQ Tryz.func57 rfl Tryz.ntmps57 rfl fun Q d8 => sR fun _ d9 => yBb (r_box (vals := [iV z, iV A, B.v, C.v, D.v]) b e0 rfl) fun i7 w b => yBb (rAl b ZT_27) fun i w b => wK d9 (sR fun _ e1 => Ya hnil.v rfl (wK e1 ?_))
 refine sQ fun _ e2 => sR fun _ e3 => yY (lbs_ [iV z, iV A, B.v, C.v, D.v] ST_27 e0 b R1) (bE h fun t e4 h => yC (yCall FN_61 (a1 e0)) (matrix_entries_ok e4 d3 d4 d5 b) ?_)
 rintro _ w ⟨u, rfl, b⟩
 refine ⟨_, rfl, ?_⟩
 refine yY (yLen SL_44 e0 b rO0) (Ym (iV 0) rfl (wK e3 (blockQ fun e5 e6 => bE h fun e7 e8 h => ?_)))
 have e9 : ∀ (K : List (Int × Int × Int)) (G : Hdr) (f : FV) w, f 1 = j.v → f 2 = k.v → f 10 = (pB i) → f 11 = G.v → St w0 ros (box i 27 [iV 0, iV 0, hnil.v, hnil.v, hnil.v] :: row 49 rTi64i64u64 G.v K :: rs) w → K = e7 → e5 (.exit 0) (fr 58 f) w := by
  intro K G f w f0 f1 b5 f2 b ho
  subst ho
  refine e6 _ _ _ (e2 _ _ (sR fun _ f3 => Ym j.v (eh f0) (yY (yLen SL_22 e0 b (rdI d6)) (Ym k.v (eh f1) (yY (yLen SL_22 e0 b (rdI d7)) (Ym G.v (eh f2) (bE h fun H f4 h => ?_)))))))
  replace b := (b.k11).fz
  refine yC (yCall FN_62 (a3 e0 e0 e0)) (matrix_build_ok f4 F0 b) ?_
  rintro _ w ⟨b6, b7, b8, rfl, b⟩
  refine ⟨_, rfl, ?_⟩
  refine yT (r_stbn (vals' := [iV H.1, iV H.2.1, b6.v, b7.v, b8.v]) (us := [iV H.1, iV H.2.1, b6.v, b7.v, b8.v]) (b.k14) ST_27 (eh b5) e0 rfl rfl (one_of rfl) rfl) fun w b => wK f3 (wp_ret ?_)
  cases h
  exact d8 _ _ _ (fin1r Tryz.results57 (rcs2 rfl b5 b R0 ST_27 rfl) ⟨_, _, _, rfl, ((b.k2s).facts (allT allI))⟩)
 replace b := b.rowNh 49 rTi64i64u64
 refine loopQ (fun s a w => ∃ (I : List (Int × Int × Int)) (p : Int) (f : FV) (q : Hdr), (I, p) = s ∧ a = fr 58 f ∧ f 1 = j.v ∧ f 2 = k.v ∧ f 3 = m.v ∧ f 4 = o.v ∧ f 10 = (pB i) ∧ f 11 = q.v ∧ f 15 = u.v ∧ f 16 = iV (t.length : Int) ∧ f 17 = iV p ∧ St w0 ros (box i 27 [iV 0, iV 0, hnil.v, hnil.v, hnil.v] :: row 49 rTi64i64u64 q.v I :: row 49 rTi64i64u64 u.v t :: rs) w) e8 ⟨_, _, _, _, rfl, rfl, rfl, rfl, rfl, rfl, rfl, rfl, rfl, rfl, rfl, (b.k2x)⟩ ?_
 rintro _ _ w f5 ⟨I, p, f, q, rfl, rfl, L, N, O, R, S, T, U, V, J, b⟩ c f6 i8 f7 f8
 refine sR fun _ f9 => yY (ylss (eh J) (eh V)) (wK f9 (seqQ fun i9 g0 g1 => ?_))
 refine cIf e0 c (fun g2 c => ?_) fun g2 c => ?_
 ·refine wp_skip (g0 _ _ (sQ fun _ g3 => blockQ fun g4 g5 => sR fun _ g6 => bE c fun d b9 c => yY (yIa SL_44 (eh U) (eh J) b rO2 b9) (yY (yFn ST_49 e0 b rO2 b9 rfl) (yBb (rAl b ZT_49) fun c0 w b => yT (r_stbn (vals' := [iV d.1, iV d.2.1, .int .u64 d.2.2]) (us := [iV d.1, iV d.2.1, .int .u64 d.2.2]) b ST_49 e0 e0 rfl rfl (one_of rfl) rfl) fun w b => wN ?_))))
  refine g6 _ _ (sR fun _ g7 => Ym m.v (eh O) (yY (yFb FL_49_0 e0) (yY (lb_ (iV d.1) O_3 e0 b R0) (bE c fun g8 c1 c => yY (yIa SL_22 e0 e0 b (rdI E) c1) (yY (yI O_3 e0 b (rdI E) c1) (yY (ygeq e0 rfl) (Ym (.bool (decide ((0 : Int) ≤ g8))) e0 (bE c fun g9 r c => ?_))))))))
  refine joinW 7 (fun f w => f 1 = j.v ∧ f 2 = k.v ∧ f 3 = m.v ∧ f 4 = o.v ∧ f 10 = (pB i) ∧ f 11 = q.v ∧ f 13 = (pB c0) ∧ f 15 = u.v ∧ f 16 = iV (t.length : Int) ∧ f 17 = iV p ∧ f 34 = .bool g9 ∧ St w0 ros (box i 27 [iV 0, iV 0, hnil.v, hnil.v, hnil.v] :: row 49 rTi64i64u64 q.v I :: box c0 49 [iV d.1, iV d.2.1, .int .u64 d.2.2] :: row 49 rTi64i64u64 u.v t :: rs) w) (fun c2 => ?_) ?_
  ·rcases iteS r with ⟨g, r⟩ | ⟨g, r⟩
   ·refine yG (dT g) (m_ o.v (eh R)) (yG (dT g) (yFb FL_49_1 e0) (yG (dT g) (lb_ (iV d.2.1) O_3 e0 b R0) (bE r fun h0 c3 r => yG (dT g) (yIa SL_22 e0 e0 b (rdI F) c3) (yG (dT g) (yI O_3 e0 b (rdI F) c3) (yG (dT g) (ygeq e0 rfl) (yY (pt_ (.bool (decide ((0 : Int) ≤ h0))) e0 (dT g) e0) ?_))))))
    cases r
    exact c2 _ _ ⟨L, N, O, R, S, T, rfl, U, V, J, rfl, (b.k2y)⟩
   ·refine gN (dF g) (gN (dF g) (gN (dF g) (gN (dF g) (gN (dF g) (gN (dF g) (yY (pf_ (.bool false) e0 (dF g) rfl) ?_))))))
    cases r
    exact c2 _ _ ⟨L, N, O, R, S, T, rfl, U, V, J, rfl, (b.k2y)⟩
  rintro f w ⟨c4, c5, W, X, c6, Z, a0, c7, c8, c9, h1, b⟩
  refine wK g7 ?_
  have d0 : ∀ (a2 : List (Int × Int × Int)) (a4 : Hdr) (f : FV) w, f 1 = j.v → f 2 = k.v → f 3 = m.v → f 4 = o.v → f 10 = (pB i) → f 11 = a4.v → f 15 = u.v → f 16 = iV (t.length : Int) → f 17 = iV p → St w0 ros (box i 27 [iV 0, iV 0, hnil.v, hnil.v, hnil.v] :: row 49 rTi64i64u64 a4.v a2 :: row 49 rTi64i64u64 u.v t :: rs) w → matrix_selected_j7 p a2 = some f5 → g4 .normal (fr 58 f) w := by
   intro a2 a4 f w h2 h3 h5 h7 h9 i0 i1 i2 i3 b h
   refine g5 _ _ _ (g3 _ _ (wR (yY (yadd (eh i3) rfl) (Ym (iV (wa .i64 p 1)) e0 (wN ?_)))))
   cases h
   exact f7 _ _ _ rfl ⟨_, _, _, _, rfl, rfl, h2, h3, h5, h7, h9, i0, i1, i2, rfl, b⟩
  refine cB (eh h1) c (fun i4 c => ?_) fun i4 c => ?_
  ·refine bE c fun x d1 c => bE c fun y d2 c => bE c fun j0 i5 c => dR [0, 0, 0, 4, 14, 30, 0, 0, 128, 448, 960, 0, 2048, 8190, 16382, 32767, 65535] [14, 15, 16] 3 folM ?_
   replace b := b.drew
   refine Dn [0, 1, 2, 3, 4, 5, 6, 7, 8, 9, 10, 11, 12, 13] [] [14] (yR rfl (m_ q.v (eh Z)) (yR rfl (m_ m.v (eh W)) (yR rfl (yFb FL_49_0 (eh a0)) (yR rfl (lb_ (iV d.1) O_3 e0 b R2) (yR rfl (yIa SL_22 e0 e0 b (rdI E) d1) (yR rfl (yI O_3 e0 b (rdI E) d1) (yR rfl (m_ o.v (eh X)) (yR rfl (yFb FL_49_1 (eh a0)) (yR rfl (lb_ (iV d.2.1) O_3 e0 b R2) (yR rfl (yIa SL_22 e0 e0 b (rdI F) d2) (yR rfl (yI O_3 e0 b (rdI F) d2) (yR rfl (yFb FL_49_2 (eh a0)) (yR rfl (lb_ (.int .u64 d.2.2) O_47 e0 b R2) ?_)))))))))))))
   refine yR rfl (ybuild (us := [iV x, iV y, .int .u64 d.2.2]) [(0, iV x), (1, iV y), (2, .int .u64 d.2.2)] SO_49 (bp3 e0 e0 e0) rfl) (Rn QSn ?_)
   refine Lc1 rfl ?_
   refine LH wn (rLt (n := 1) (l := [(x, y, d.2.2)]) b SL_44 [.agg #[iV x, iV y, .int .u64 d.2.2]] (bp1 e0) rfl rfl (mks1 (cs := [iV x, iV y, .int .u64 d.2.2]) rfl (mkF rfl) mks0)) fun j1 w b => Dn [] [0] [15] (Rn (yS rfl (m_ q.v (eh Z)) QSn) ?_)
   refine Lc1 rfl ?_
   replace b := b.k17
   refine LH wn (rAp b SL_44 e0 e0 rO1 i5) fun i6 w b => Dn [] [] [16] (Rn QSn ?_)
   refine Lc1 rfl ?_
   exact Ly wn (a_ i6.v e0) (Dz [] [] (Rn QSn (d0 _ _ _ _ c4 c5 W X c6 rfl c7 c8 c9 (b.k2z) c)))
  ·exact wp_skip (d0 _ _ _ _ c4 c5 W X c6 Z c7 c8 c9 (b.k30) c)
 ·refine wp_exit (g1 _ _ _ rfl ?_)
  cases c
  exact f8 _ _ _ _ rfl rfl (e9 _ _ _ _ L N S T (b.k1r) (f6 _ rfl))
theorem matrix_Permute_ok {d g : Int} {J K L p s : LI} {j k l m n : Hdr} {out : Int × Int × LI × LI × LI × Int} (b : matrix_Permute d g J K L p s = some out) (N : imm I1 j.v J ∈ ros) (O : imm I1 k.v K ∈ ros) (R : imm (rI .u64) l.v L ∈ ros) (D : imm I1 m.v p ∈ ros) (E : imm I1 n.v s ∈ ros) (a : St w0 ros rs w) :
  Calls Tryz.prog 29 #[.agg #[iV d, iV g, j.v, k.v, l.v], m.v, n.v] w (fun e w => ∃ (S T U : Hdr), e = .returned (.tuple #[.agg #[iV out.1, iV out.2.1, S.v, T.v, U.v], iV out.2.2.2.2.2]) ∧ St w0 ros (row 3 I1 S.v out.2.2.1 :: row 3 I1 T.v out.2.2.2.1 :: row 47 (rI .u64) U.v out.2.2.2.2.1 :: rs) w) := by
 refine enterQ Tryz.func29 rfl Tryz.ntmps29 rfl fun Q u => sR fun _ a4 => yBb (r_box (vals := [iV d, iV g, j.v, k.v, l.v]) a e0 rfl) fun x w a => yBb (rAl a ZT_27) fun y w a => Ya (iV 0) rfl (wK a4 (sR fun _ a6 => yY (lbs_ [iV d, iV g, j.v, k.v, l.v] ST_27 e0 a R1) (bE b fun t a7 b => ?_)))
 refine yC (yCall FN_51 (a1 e0)) (matrix_Check_ok a7 N O R a) ?_
 rintro _ w ⟨rfl, a⟩
 refine ⟨_, rfl, ?_⟩
 refine Ya (iV t) e0 (wK a6 (seqQ fun d2 a8 V => blockQ fun _ F => sR fun _ a9 => Ym (iV t) e0 (yY (yneq e0 rfl) (Ya (.bool (!(decide (t = 0)))) e0 (wK a9 ?_)))))
 rcases iteS b with ⟨G, b⟩ | ⟨G, b⟩
 ·refine condF e0 (nF (dT G)) (sR fun _ b0 => Ym m.v e0 (yY (yLen SL_22 e0 a (rdI D)) (yY (yFb FL_27_0 e0) (yY (lb_ (iV d) O_3 e0 a R1) (yY (yneq e0 e0) (Ym (.bool (!(decide ((p.length : Int) = d)))) e0 ?_))))))
  refine joinW 6 (fun f w => f 1 = m.v ∧ f 2 = n.v ∧ f 3 = (pB x) ∧ f 6 = (pB y) ∧ f 31 = .bool ((!(decide ((p.length : Int) = d))) || (!(decide ((s.length : Int) = g)))) ∧ St w0 ros (box x 27 [iV d, iV g, j.v, k.v, l.v] :: box y 27 [iV 0, iV 0, hnil.v, hnil.v, hnil.v] :: rs) w) (fun W => ?_) ?_
  ·rcases Bool.eq_false_or_eq_true (!(decide ((p.length : Int) = d))) with c | c
   ·exact gN c (gN c (gN c (gN c (gN c (yY (pt_ (.bool true) e0 c rfl) (W _ _ ⟨rfl, rfl, rfl, rfl, (congrArg Value.bool (orT c)), (a.k11)⟩))))))
   ·exact yG c (m_ n.v e0) (yG c (yLen SL_22 e0 a (rdI E)) (yG c (yFb FL_27_1 e0) (yG c (lb_ (iV g) O_3 e0 a R1) (yG c (yneq e0 e0) (yY (pf_ (.bool (!(decide ((s.length : Int) = g)))) e0 c e0) (W _ _ ⟨rfl, rfl, rfl, rfl, (congrArg Value.bool (orF c)), (a.k11)⟩))))))
  rintro f w ⟨H, I, z, A, b1, a⟩
  refine Ya (.bool ((!(decide ((p.length : Int) = d))) || (!(decide ((s.length : Int) = g))))) (eh b1) (wK b0 (cB e0 b (fun b2 b => ?_) fun b2 b => ?_))
  ·refine sR fun _ b3 => yY (ybuild (us := [iV 0, iV 0, hnil.v, hnil.v, hnil.v]) [] SO_27 bp0 rfl) (yT (r_stbn (vals' := [iV 0, iV 0, hnil.v, hnil.v, hnil.v]) (us := [iV 0, iV 0, hnil.v, hnil.v, hnil.v]) (a.k11) ST_27 (eh A) e0 rfl rfl (one_of rfl) rfl) fun w a => Ya (iV 2) rfl (wK b3 (wp_ret (F _ _ _ (V _ _ _ rfl ?_)))))
   cases b
   replace a := ((a.rowNh 3 I1).rowNh 3 I1).rowNh 47 (rI .u64)
   exact u _ _ _ (fin2r Tryz.results29 (rcs2 rfl A a R3 ST_27 rfl) ⟨rfl, rfl⟩ ⟨_, _, _, rfl, (a.k1s)⟩)
  ·refine wp_skip (F _ _ _ (a8 _ _ (sR fun _ b4 => Ym m.v (eh H) (yY (yFb FL_27_0 (eh z)) (yY (lb_ (iV d) O_3 e0 a R0) (bE b fun i b5 b => yC (yCall FN_56 (a2 e0 e0)) (matrix_places_ok b5 D a) ?_))))))
   rintro _ w ⟨q, rfl, a⟩
   refine ⟨_, rfl, ?_⟩
   refine Ym (.tuple #[q.v, iV i.2]) e0 (yY (x_ q.v e0) (yY (x_ (iV i.2) e0) (Ya q.v e0 (Ya (iV i.2) e0 (wK b4 (sR fun _ b6 => Ym n.v (eh I) (yY (yFb FL_27_1 (eh z)) (yY (lb_ (iV g) O_3 e0 a R1) (bE b fun o b7 b => yC (yCall FN_56 (a2 e0 e0)) (matrix_places_ok b7 E a) ?_)))))))))
   rintro _ w ⟨r, rfl, a⟩
   refine ⟨_, rfl, ?_⟩
   refine Ym (.tuple #[r.v, iV o.2]) e0 (yY (x_ r.v e0) (yY (x_ (iV o.2) e0) (Ya r.v e0 (Ya (iV o.2) e0 (wK b6 (seqQ fun d3 b8 b9 => sR fun _ c0 => Ym (iV i.2) e0 (yY (yneq e0 rfl) (Ym (.bool (!(decide (i.2 = 0)))) e0 ?_))))))))
   refine joinW 3 (fun f w => f 1 = m.v ∧ f 2 = n.v ∧ f 3 = (pB x) ∧ f 6 = (pB y) ∧ f 9 = q.v ∧ f 10 = r.v ∧ f 52 = .bool ((!(decide (i.2 = 0))) || (!(decide (o.2 = 0)))) ∧ St w0 ros (box x 27 [iV d, iV g, j.v, k.v, l.v] :: box y 27 [iV 0, iV 0, hnil.v, hnil.v, hnil.v] :: row 3 I1 q.v i.1 :: row 3 I1 r.v o.1 :: rs) w) (fun X => ?_) ?_
   ·rcases Bool.eq_false_or_eq_true (!(decide (i.2 = 0))) with h | h
    ·exact gN h (gN h (yY (pt_ (.bool true) e0 h rfl) (X _ _ ⟨H, I, z, A, rfl, rfl, (congrArg Value.bool (orT h)), (a.k31)⟩)))
    ·exact yG h (m_ (iV o.2) e0) (yG h (yneq e0 rfl) (yY (pf_ (.bool (!(decide (o.2 = 0)))) e0 h e0) (X _ _ ⟨H, I, z, A, rfl, rfl, (congrArg Value.bool (orF h)), (a.k31)⟩)))
   rintro f w ⟨c1, c2, c3, B, c4, c5, c6, a⟩
   refine wK c0 (cB (eh c6) b (fun c7 b => ?_) fun c7 b => ?_)
   ·refine sR fun _ c8 => yY (ybuild (us := [iV 0, iV 0, hnil.v, hnil.v, hnil.v]) [] SO_27 bp0 rfl) (yT (r_stbn (vals' := [iV 0, iV 0, hnil.v, hnil.v, hnil.v]) (us := [iV 0, iV 0, hnil.v, hnil.v, hnil.v]) (a.k11) ST_27 (eh B) e0 rfl rfl (one_of rfl) rfl) fun w a => Ya (iV 90) rfl (wK c8 (wp_ret (b9 _ _ _ rfl ?_))))
    cases b
    replace a := ((a.rowNh 3 I1).rowNh 3 I1).rowNh 47 (rI .u64)
    exact u _ _ _ (fin2r Tryz.results29 (rcs2 rfl B a R3 ST_27 rfl) ⟨rfl, rfl⟩ ⟨_, _, _, rfl, (a.k32)⟩)
   ·refine wp_skip (b8 _ _ (sR fun _ c9 => yY (lbs_ [iV d, iV g, j.v, k.v, l.v] ST_27 (eh c3) a R0) (Ym m.v (eh c1) (Ym n.v (eh c2) (Ym q.v (eh c4) (Ym r.v (eh c5) (bE b fun C d0 b => ?_)))))))
    replace a := (((a.k17).fz).k17).fz
    refine yC (yCall FN_57 (a5 e0 e0 e0 e0 e0)) (matrix_selected_ok d0 (F_2 N) (F_2 O) (F_2 R) (F_2 D) (F_2 E) F1 F0 a) ?_
    rintro _ w ⟨Z, a0, a3, rfl, a⟩
    refine ⟨_, rfl, ?_⟩
    refine yT (r_stbn (vals' := [iV C.1, iV C.2.1, Z.v, a0.v, a3.v]) (us := [iV C.1, iV C.2.1, Z.v, a0.v, a3.v]) (a.k1j) ST_27 (eh B) e0 rfl rfl (one_of rfl) rfl) fun w a => Ya (iV 0) rfl (wK c9 (wp_ret ?_))
    cases b
    exact u _ _ _ (fin2r Tryz.results29 (rcs2 rfl B a R0 ST_27 rfl) ⟨rfl, rfl⟩ ⟨_, _, _, rfl, ((a.k1t).facts (allT (allT allI)))⟩)
 ·refine condT e0 (nT (dF G)) (sR fun _ d1 => yY (ybuild (us := [iV 0, iV 0, hnil.v, hnil.v, hnil.v]) [] SO_27 bp0 rfl) (Ym (iV t) e0 (yT (r_stbn (vals' := [iV 0, iV 0, hnil.v, hnil.v, hnil.v]) (us := [iV 0, iV 0, hnil.v, hnil.v, hnil.v]) a ST_27 e0 e0 rfl rfl (one_of rfl) rfl) fun w a => Ya (iV t) e0 (wK d1 (wp_ret (F _ _ _ (V _ _ _ rfl ?_)))))))
  cases b
  replace a := ((a.rowNh 3 I1).rowNh 3 I1).rowNh 47 (rI .u64)
  exact u _ _ _ (fin2r Tryz.results29 (rcs2 rfl rfl a R3 ST_27 rfl) ⟨rfl, rfl⟩ ⟨_, _, _, rfl, (a.k1s)⟩)
theorem sparsekit_Ascending_ok {l : LI} {g : Hdr} {out : Bool} (i : sparsekit_Ascending l = some out) (h : imm I1 g.v l ∈ ros) (b : St w0 ros rs w) :
  Calls Tryz.prog 25 #[g.v] w (fun e w => e = .returned (.bool out) ∧ St w0 ros rs w) := by
 refine enterQ Tryz.func25 rfl Tryz.ntmps25 rfl fun Q m => sR fun _ y => Ya (.bool false) rfl (wK y (seqQ fun U z A => sR fun _ B => Ya (iV 1) rfl (wK B (blockQ fun n o => bE i fun p C i => ?_))))
 have D : ∀ (f : FV) w, St w0 ros rs w → .inl () = p → n (.exit 0) (fr 20 f) w := by
  intro f w b ho
  subst ho
  refine o _ _ _ (z _ _ (sR fun _ E => Ya (.bool true) rfl (wK E (wp_ret ?_))))
  cases i
  exact m _ _ _ (fin1r Tryz.results25 ⟨rfl, rfl⟩ ⟨rfl, b⟩)
 have F : ∀ (f : FV) w, f 2 = .bool false → St w0 ros rs w → .inr () = p → n .ret (fr 20 f) w := by
  intro f w G b ho
  subst ho
  refine o _ _ _ (A _ _ _ rfl ?_)
  cases i
  exact m _ _ _ (fin1r Tryz.results25 ⟨rfl, G⟩ ⟨rfl, b⟩)
 refine loopQ (fun s a w => ∃ (d : Int) (f : FV), d = s ∧ a = fr 20 f ∧ f 0 = g.v ∧ f 3 = iV d ∧ St w0 ros rs w) C ⟨_, _, rfl, rfl, rfl, rfl, b⟩ ?_
 rintro _ _ w V ⟨d, f, rfl, rfl, j, k, b⟩ c q W H r
 refine seqQ fun X I J => sR fun _ K => Ym (iV d) (eh k) (Ym g.v (eh j) (yY (yLen SL_22 e0 b (rdI h)) (yY (ylss e0 e0) (wK K ?_))))
 refine cIf e0 c (fun L c => ?_) fun L c => ?_
 ·refine wp_skip (I _ _ (seqQ fun Z N O => blockQ fun _ t => sQ fun _ R => bE c fun a0 u c => bE c fun a1 x c => dR [0, 0, 3, 7, 0, 0, 32, 112, 240, 511] [] 0 folM ?_))
  replace b := b.drew
  refine Dz [0, 1, 2, 3, 4, 5, 6, 7, 8, 9] [] (yR rfl (m_ g.v (eh j)) (yR rfl (m_ (iV d) (eh k)) (yR rfl (yIa SL_22 e0 e0 b (rdI h) u) (yR rfl (yI O_3 e0 b (rdI h) u) (yR rfl (m_ g.v (eh j)) (yR rfl (m_ (iV d) (eh k)) (yR rfl (ysub e0 rfl) (yR rfl (yIa SL_22 e0 e0 b (rdI h) x) (yR rfl (yI O_3 e0 b (rdI h) x) (yR rfl (yleq e0 e0) (Rn QSn (R _ _ ?_))))))))))))
  refine cIf e0 c (fun S c => ?_) fun S c => ?_
  ·refine sR fun _ T => Ya (.bool false) rfl (wK T (wp_ret (t _ _ _ (O _ _ _ rfl ?_))))
   cases c
   exact r _ _ _ _ rfl rfl (F _ _ rfl b (q _ rfl))
  ·refine wp_skip (t _ _ _ (N _ _ (wR (Ym (iV d) (eh k) (yY (yadd e0 rfl) (Ya (iV (wa .i64 d 1)) e0 (wN ?_)))))))
   cases c
   exact H _ _ _ rfl ⟨_, _, rfl, rfl, j, rfl, b⟩
 ·refine wp_exit (J _ _ _ rfl ?_)
  cases c
  exact r _ _ _ _ rfl rfl (D _ _ b (q _ rfl))
theorem sparselaw15_starts_ok {o : LI} {m : Int} {d : Hdr} {out : Bool} (g : sparselaw15_starts o m = some out) (h : imm I1 d.v o ∈ ros) (b : St w0 ros rs w) :
  Calls Tryz.prog 30 #[d.v, iV m] w (fun e w => e = .returned (.bool out) ∧ St w0 ros rs w) := by
 refine enterQ Tryz.func30 rfl Tryz.ntmps30 rfl fun Q z => sR fun _ A => Ya (.bool false) rfl (wK A (sR fun _ B => Ym d.v e0 (yY (yLen SL_22 e0 b (rdI h)) (yY (ygtr e0 rfl) (Ym (.bool (decide ((0 : Int) < (o.length : Int)))) e0 (bE g fun p i g => ?_))))))
 refine joinW 5 (fun f w => f 0 = d.v ∧ f 1 = iV m ∧ f 13 = .bool p ∧ St w0 ros rs w) (fun q => ?_) ?_
 ·rcases iteS i with ⟨c, i⟩ | ⟨c, i⟩
  ·refine yG (dT c) (m_ d.v e0) (bE i fun C r i => yG (dT c) (yIa SL_22 e0 rfl b (rdI h) r) (yG (dT c) (yI O_3 e0 b (rdI h) r) (yG (dT c) (yeql e0 rfl) (yY (pt_ (.bool (decide (C = 0))) e0 (dT c) e0) ?_))))
   cases i
   exact q _ _ ⟨rfl, rfl, rfl, b⟩
  ·refine gN (dF c) (gN (dF c) (gN (dF c) (gN (dF c) (yY (pf_ (.bool false) e0 (dF c) rfl) ?_))))
   cases i
   exact q _ _ ⟨rfl, rfl, rfl, b⟩
 rintro f w ⟨n, D, E, b⟩
 refine Ym (.bool p) (eh E) (bE g fun s j g => ?_)
 refine joinW 9 (fun f w => f 0 = d.v ∧ f 23 = .bool s ∧ St w0 ros rs w) (fun t => ?_) ?_
 ·rcases iteS j with ⟨a, j⟩ | ⟨a, j⟩
  ·refine yG a (m_ d.v (eh n)) (yG a (m_ d.v (eh n)) (yG a (yLen SL_22 e0 b (rdI h)) (yG a (ysub e0 rfl) (bE j fun F u j => yG a (yIa SL_22 e0 e0 b (rdI h) u) (yG a (yI O_3 e0 b (rdI h) u) (yG a (m_ (iV m) (eh D)) (yG a (yeql e0 e0) (yY (pt_ (.bool (decide (F = m))) e0 a e0) ?_))))))))
   cases j
   exact t _ _ ⟨n, rfl, b⟩
  ·refine gN (bfalse a) (gN (bfalse a) (gN (bfalse a) (gN (bfalse a) (gN (bfalse a) (gN (bfalse a) (gN (bfalse a) (gN (bfalse a) (yY (pf_ (.bool false) e0 (bfalse a) rfl) ?_))))))))
   cases j
   exact t _ _ ⟨n, rfl, b⟩
 rintro f w ⟨G, H, b⟩
 refine Ym (.bool s) (eh H) (bE g fun x k g => ?_)
 refine joinW 3 (fun f w => f 27 = .bool x ∧ St w0 ros rs w) (fun y => ?_) ?_
 ·rcases iteS k with ⟨l, k⟩ | ⟨l, k⟩
  ·refine yG l (m_ d.v (eh G)) (bE k fun I J k => Yc (wG l) rfl (yCall FN_25 (a1 e0)) (sparsekit_Ascending_ok J h b) ?_)
   rintro _ w ⟨rfl, b⟩
   refine ⟨_, rfl, ?_⟩
   refine yY (pt_ (.bool I) e0 l e0) ?_
   cases k
   exact y _ _ ⟨rfl, b⟩
  ·refine gN (bfalse l) (gN (bfalse l) (yY (pf_ (.bool false) e0 (bfalse l) rfl) ?_))
   cases k
   exact y _ _ ⟨rfl, b⟩
 rintro f w ⟨K, b⟩
 refine Ya (.bool x) (eh K) (wK B (wp_ret ?_))
 cases g
 exact z _ _ _ (fin1r Tryz.results30 ⟨rfl, rfl⟩ ⟨rfl, b⟩)
theorem sparsekit_Perm_ok {B : LI} {i : Int} {j : Hdr} {out : Bool} (k : sparsekit_Perm B i = some out) (l : imm I1 j.v B ∈ ros) (b : St w0 ros rs w) :
  Calls Tryz.prog 23 #[j.v, iV i] w (fun e w => e = .returned (.bool out) ∧ St w0 ros rs w) := by
 refine enterQ Tryz.func23 rfl Tryz.ntmps23 rfl fun Q u => sR fun _ a0 => Ya (.bool false) rfl (wK a0 (seqQ fun d5 a1 a2 => sR fun _ a3 => Ym j.v e0 (yY (yLen SL_22 e0 b (rdI l)) (Ym (iV i) e0 (yY (yneq e0 e0) (wN ?_))))))
 refine a3 _ _ ?_
 rcases iteS k with ⟨x, k⟩ | ⟨x, k⟩
 ·refine condF e0 (nF (dT x)) (wp_skip (a1 _ _ (sR fun _ a4 => Ym (iV i) e0 (bE k fun d6 a5 k => yH (rMk b SL_56 e0 a5) fun m w b => Ya m.v e0 (wK a4 (seqQ fun d7 a6 a7 => sQ fun _ a8 => ?_))))))
  refine wR (Ya (iV 0) rfl (wK a8 (blockQ fun C D => bE k fun E a9 k => ?_)))
  have b0 : ∀ (f : FV) w, St w0 ros rs w → .inl () = E → C (.exit 0) (fr 46 f) w := by
   intro f w b ho
   subst ho
   refine D _ _ _ (a6 _ _ (sR fun _ b1 => Ya (.bool true) rfl (wK b1 (wp_ret ?_))))
   cases k
   exact u _ _ _ (fin1r Tryz.results23 ⟨rfl, rfl⟩ ⟨rfl, b⟩)
  have b2 : ∀ (f : FV) w, f 4 = .bool false → St w0 ros rs w → .inr () = E → C .ret (fr 46 f) w := by
   intro f w b3 b ho
   subst ho
   refine D _ _ _ (a7 _ _ _ rfl ?_)
   cases k
   exact u _ _ _ (fin1r Tryz.results23 ⟨rfl, b3⟩ ⟨rfl, b⟩)
  refine loopQ (fun s a w => ∃ (p : List Bool) (h : Int) (f : FV), (p, h) = s ∧ a = fr 46 f ∧ f 0 = j.v ∧ f 1 = iV i ∧ f 5 = m.v ∧ f 6 = iV h ∧ St w0 ros (row 4 rB m.v p :: rs) w) a9 ⟨_, _, _, rfl, rfl, rfl, rfl, rfl, rfl, b⟩ ?_
  rintro _ _ w d8 ⟨p, h, f, rfl, rfl, r, t, F, q, b⟩ c G d9 b4 H
  refine seqQ fun e1 b5 b6 => sR fun _ b7 => Ym (iV h) (eh q) (Ym (iV i) (eh t) (yY (ylss e0 e0) (wK b7 ?_)))
  refine cIf e0 c (fun b8 c => ?_) fun b8 c => ?_
  ·refine wp_skip (b5 _ _ (seqQ fun e2 b9 c0 => blockQ fun _ I => seqQ fun e3 c1 c2 => sR fun _ c3 => Ym j.v (eh r) (Ym (iV h) (eh q) (bE c fun c5 J c => yY (yIa SL_22 e0 e0 b (rdI l) J) (yY (yI O_3 e0 b (rdI l) J) (yY (ylss e0 rfl) (Ym (.bool (decide (c5 < 0))) e0 ?_)))))))
   refine bE c fun K o c => ?_
   refine joinW 7 (fun f w => f 0 = j.v ∧ f 1 = iV i ∧ f 5 = m.v ∧ f 6 = iV h ∧ f 30 = .bool K ∧ St w0 ros (row 4 rB m.v p :: rs) w) (fun L => ?_) ?_
   ·rcases iteS o with ⟨g, o⟩ | ⟨g, o⟩
    ·refine gN (dT g) (gN (dT g) (gN (dT g) (gN (dT g) (gN (dT g) (gN (dT g) (yY (pt_ (.bool true) e0 (dT g) rfl) ?_))))))
     cases o
     exact L _ _ ⟨r, t, F, q, rfl, b⟩
    ·refine yG (dF g) (m_ j.v (eh r)) (yG (dF g) (m_ (iV h) (eh q)) (bE o fun c6 N o => yG (dF g) (yIa SL_22 e0 e0 b (rdI l) N) (yG (dF g) (yI O_3 e0 b (rdI l) N) (yG (dF g) (m_ (iV i) (eh t)) (yG (dF g) (ygeq e0 e0) (yY (pf_ (.bool (decide (i ≤ c6))) e0 (dF g) e0) ?_))))))
     cases o
     exact L _ _ ⟨r, t, F, q, rfl, b⟩
   rintro f w ⟨y, O, z, A, c7, b⟩
   refine Ym (.bool K) (eh c7) (bE c fun c8 n c => ?_)
   refine joinW 8 (fun f w => f 0 = j.v ∧ f 1 = iV i ∧ f 5 = m.v ∧ f 6 = iV h ∧ f 39 = .bool c8 ∧ St w0 ros (row 4 rB m.v p :: rs) w) (fun R => ?_) ?_
   ·rcases iteS n with ⟨d, n⟩ | ⟨d, n⟩
    ·refine gN d (gN d (gN d (gN d (gN d (gN d (gN d (yY (pt_ (.bool true) e0 d rfl) ?_)))))))
     cases n
     exact R _ _ ⟨y, O, z, A, rfl, b⟩
    ·refine yG (bfalse d) (m_ m.v (eh z)) (yG (bfalse d) (m_ j.v (eh y)) (yG (bfalse d) (m_ (iV h) (eh A)) (bE n fun e4 S n => yG (bfalse d) (yIa SL_22 e0 e0 b (rdI l) S) (yG (bfalse d) (yI O_3 e0 b (rdI l) S) (bE n fun c9 T n => yG (bfalse d) (yIa SL_56 e0 e0 b rO0 T) (yG (bfalse d) (yB O_4 e0 b rO0 T) (yY (pf_ (.bool c9) e0 (bfalse d) e0) ?_)))))))
     cases n
     exact R _ _ ⟨y, O, z, A, rfl, b⟩
   rintro f w ⟨U, d0, V, W, d1, b⟩
   refine wK c3 (cB (eh d1) c (fun d2 c => ?_) fun d2 c => ?_)
   ·refine sR fun _ d3 => Ya (.bool false) rfl (wK d3 (wp_ret (c2 _ _ _ rfl (I _ _ _ (c0 _ _ _ rfl ?_)))))
    cases c
    exact H _ _ _ _ rfl rfl (b2 _ _ rfl (b.k10) (G _ rfl))
   ·refine wp_skip (c1 _ _ (wR (Ym m.v (eh V) (Ym j.v (eh U) (Ym (iV h) (eh W) (bE c fun e5 X c => yY (yIa SL_22 e0 e0 b (rdI l) X) (yY (yI O_3 e0 b (rdI l) X) (bE c fun e6 Z c => yY (yIs SL_56 e0 e0 b rO0 Z) (yT (r_sti (cs := [.bool true]) b O_4 rfl e0 rfl rfl mkB Z) fun w b => wN ?_)))))))))
    refine I _ _ _ (b9 _ _ (wR (Ym (iV h) (eh W) (yY (yadd e0 rfl) (Ya (iV (wa .i64 h 1)) e0 (wN ?_))))))
    cases c
    exact b4 _ _ _ rfl ⟨_, _, _, rfl, rfl, U, d0, V, rfl, b⟩
  ·refine wp_exit (b6 _ _ _ rfl ?_)
   cases c
   exact H _ _ _ _ rfl rfl (b0 _ _ (b.k10) (G _ rfl))
 ·refine condT e0 (nT (dF x)) (sR fun _ d4 => Ya (.bool false) rfl (wK d4 (wp_ret (a2 _ _ _ rfl ?_))))
  cases k
  exact u _ _ _ (fin1r Tryz.results23 ⟨rfl, rfl⟩ ⟨rfl, b⟩)
theorem sparsekit_In_ok {m : LI} {h : Int} {g : Hdr} {out : Bool} (i : sparsekit_In m h = some out) (j : imm I1 g.v m ∈ ros) (b : St w0 ros rs w) :
  Calls Tryz.prog 31 #[g.v, iV h] w (fun e w => e = .returned (.bool out) ∧ St w0 ros rs w) := by
 refine enterQ Tryz.func31 rfl Tryz.ntmps31 rfl fun Q n => sR fun _ z => Ya (.bool false) rfl (wK z (seqQ fun V A B => sR fun _ C => Ya (iV 0) rfl (wK C (blockQ fun o p => bE i fun q D i => ?_))))
 have E : ∀ (f : FV) w, St w0 ros rs w → .inl () = q → o (.exit 0) (fr 18 f) w := by
  intro f w b ho
  subst ho
  refine p _ _ _ (A _ _ (sR fun _ F => Ya (.bool false) rfl (wK F (wp_ret ?_))))
  cases i
  exact n _ _ _ (fin1r Tryz.results31 ⟨rfl, rfl⟩ ⟨rfl, b⟩)
 have G : ∀ (f : FV) w, f 4 = .bool true → St w0 ros rs w → .inr () = q → o .ret (fr 18 f) w := by
  intro f w H b ho
  subst ho
  refine p _ _ _ (B _ _ _ rfl ?_)
  cases i
  exact n _ _ _ (fin1r Tryz.results31 ⟨rfl, H⟩ ⟨rfl, b⟩)
 refine loopQ (fun s a w => ∃ (d : Int) (f : FV), d = s ∧ a = fr 18 f ∧ f 0 = g.v ∧ f 1 = iV h ∧ f 5 = iV d ∧ St w0 ros rs w) D ⟨_, _, rfl, rfl, rfl, rfl, rfl, b⟩ ?_
 rintro _ _ w W ⟨d, f, rfl, rfl, k, r, l, b⟩ c t X I u
 refine seqQ fun Z J K => sR fun _ L => Ym (iV d) (eh l) (Ym g.v (eh k) (yY (yLen SL_22 e0 b (rdI j)) (yY (ylss e0 e0) (wK L ?_))))
 refine cIf e0 c (fun N c => ?_) fun N c => ?_
 ·refine wp_skip (J _ _ (seqQ fun a0 O R => blockQ fun _ x => sR fun _ S => Ym g.v (eh k) (Ym (iV d) (eh l) (bE c fun a1 y c => yY (yIa SL_22 e0 e0 b (rdI j) y) (yY (yI O_3 e0 b (rdI j) y) (Ym (iV h) (eh r) (yY (yeql e0 e0) (wN ?_))))))))
  refine S _ _ ?_
  refine cIf e0 c (fun T c => ?_) fun T c => ?_
  ·refine sR fun _ U => Ya (.bool true) rfl (wK U (wp_ret (x _ _ _ (R _ _ _ rfl ?_))))
   cases c
   exact u _ _ _ _ rfl rfl (G _ _ rfl b (t _ rfl))
  ·refine wp_skip (x _ _ _ (O _ _ (wR (Ym (iV d) (eh l) (yY (yadd e0 rfl) (Ya (iV (wa .i64 d 1)) e0 (wN ?_)))))))
   cases c
   exact I _ _ _ rfl ⟨_, _, rfl, rfl, k, r, rfl, b⟩
 ·refine wp_exit (K _ _ _ rfl ?_)
  cases c
  exact u _ _ _ _ rfl rfl (E _ _ b (t _ rfl))
theorem sparselaw15_BlocksPermuted_ok {f8 : Int} {i9 j0 j8 : LI} {e9 f9 g0 : Hdr} {out : Bool} (m : sparselaw15_BlocksPermuted f8 i9 j0 j8 = some out) (O9 : out = true) (j9 : imm I1 e9.v i9 ∈ ros) (t1 : imm I1 f9.v j0 ∈ ros) (t2 : imm I1 g0.v j8 ∈ ros) (t3 : globF ∈ ros) (b : St w0 ros rs w) :
  Calls Tryz.prog 8 #[iV f8, e9.v, f9.v, g0.v] w (fun e w => e = .returned (.bool out) ∧ St w0 ros rs w) := by
 refine enterQ Tryz.func8 rfl Tryz.ntmps8 rfl fun Q e3 => sR fun _ t4 => Ya (.bool false) rfl (wK t4 (seqQ fun P0 t5 t6 => sR fun _ t7 => Ym e9.v e0 (yY (yLen SL_22 e0 b (rdI j9)) (yY (ygtr e0 rfl) (wK t7 ?_)))))
 refine cIf e0 m (fun t8 m => ?_) fun t8 m => ?_
 ·refine sR fun _ t9 => bE m fun u0 u1 m => yC (yCall FN_9 a0) (sparselaw15_awake_ok u1 b) ?_
  rintro _ w ⟨rfl, b⟩
  refine ⟨_, rfl, ?_⟩
  refine Ya (.bool u0) e0 (wK t9 (wp_ret (t6 _ _ _ rfl ?_)))
  cases m
  exact e3 _ _ _ (fin1r Tryz.results8 ⟨rfl, rfl⟩ ⟨rfl, b⟩)
 ·refine wp_skip (t5 _ _ (sR fun _ u2 => Ym (iV f8) e0 (bE m fun x u3 m => yC (yCall FN_10 (a2 e0 rfl)) (sparsekit_Place_ok u3 b) ?_)))
  rintro _ w ⟨rfl, b⟩
  refine ⟨_, rfl, ?_⟩
  refine Ya (iV x) e0 (wK u2 (sR fun _ u4 => Ym (iV x) e0 (Ym (iV x) e0 (Ym e9.v e0 (bE m fun o u5 m => yC (yCall FN_11 (a3 e0 e0 e0)) (sparsemake_Matrix_ok u5 j9 t3 b) ?_)))))
  rintro _ w ⟨O, R, S, rfl, b⟩
  refine ⟨_, rfl, ?_⟩
  refine yBb (rAl b ZT_27) fun b2 w b => yT (r_stbn (vals' := [iV o.1, iV o.2.1, O.v, R.v, S.v]) (us := [iV o.1, iV o.2.1, O.v, R.v, S.v]) b ST_27 e0 e0 rfl rfl (one_of rfl) rfl) fun w b => wK u4 (sR fun _ u6 => Ym f9.v e0 (Ym (iV x) e0 (bE m fun P1 u7 m => yC (yCall FN_28 (a2 e0 e0)) (sparsekit_Shuffle_ok u7 t1 b) ?_)))
  rintro _ w ⟨k0, rfl, b⟩
  refine ⟨_, rfl, ?_⟩
  refine Ym g0.v e0 (Ym (iV x) e0 (bE m fun D u8 m => yC (yCall FN_28 (a2 e0 e0)) (sparsekit_Shuffle_ok u8 t2 b) ?_))
  rintro _ w ⟨j, rfl, b⟩
  refine ⟨_, rfl, ?_⟩
  refine Ya k0.v e0 (Ya j.v e0 (wK u6 (sR fun _ u9 => yY (lbs_ [iV o.1, iV o.2.1, O.v, R.v, S.v] ST_27 e0 b R2) (Ym k0.v e0 (Ym j.v e0 (bE m fun h v0 m => ?_))))))
  replace b := ((((((((b.k14).fz).k14).fz).k14).fz).k11).fz).fz
  refine yC (yCall FN_29 (a3 e0 e0 e0)) (matrix_Permute_ok v0 F4 F3 F2 F1 F0 b) ?_
  rintro _ w ⟨J, K, L, rfl, b⟩
  refine ⟨_, rfl, ?_⟩
  refine Ym (.tuple #[.agg #[iV h.1, iV h.2.1, J.v, K.v, L.v], iV h.2.2.2.2.2]) e0 (yY (x_ (.agg #[iV h.1, iV h.2.1, J.v, K.v, L.v]) e0) (yY (x_ (iV h.2.2.2.2.2) e0) (yBb (rAl b ZT_27) fun b3 w b => yT (r_stbn (vals' := [iV h.1, iV h.2.1, J.v, K.v, L.v]) (us := [iV h.1, iV h.2.1, J.v, K.v, L.v]) b ST_27 e0 e0 rfl rfl (one_of rfl) rfl) fun w b => Ya (iV h.2.2.2.2.2) e0 (wK u9 (sR fun _ v1 => yY (lbs_ [iV o.1, iV o.2.1, O.v, R.v, S.v] ST_27 e0 b R4) (bE m fun d v2 m => ?_))))))
  refine yC (yCall FN_13 (a1 e0)) (blocks_Coarse_ok v2 F4 F3 F2 b) ?_
  rintro _ w ⟨T, X, U, Z, V, a4, rfl, b⟩
  refine ⟨_, rfl, ?_⟩
  refine Ym (.tuple #[.agg #[T.v, X.v, U.v, Z.v, V.v, a4.v], iV d.2.2.2.2.2.2]) e0 (yY (x_ (.agg #[T.v, X.v, U.v, Z.v, V.v, a4.v]) e0) (yY (x_ (iV d.2.2.2.2.2.2) e0) (yBb (rAl b ZT_31) fun c2 w b => yT (r_stbn (vals' := [T.v, X.v, U.v, Z.v, V.v, a4.v]) (us := [T.v, X.v, U.v, Z.v, V.v, a4.v]) b ST_31 e0 e0 rfl rfl (one_of rfl) rfl) fun w b => Ya (iV d.2.2.2.2.2.2) e0 (wK v1 (sR fun _ v3 => yY (lbs_ [iV h.1, iV h.2.1, J.v, K.v, L.v] ST_27 e0 b R7) (bE m fun g v4 m => ?_))))))
  replace b := (((((b.k2b).fz).k2b).fz).k2b).fz
  refine yC (yCall FN_13 (a1 e0)) (blocks_Coarse_ok v4 F2 F1 F0 b) ?_
  rintro _ w ⟨a6, b4, a7, b5, a8, b6, rfl, b⟩
  refine ⟨_, rfl, ?_⟩
  refine Ym (.tuple #[.agg #[a6.v, b4.v, a7.v, b5.v, a8.v, b6.v], iV g.2.2.2.2.2.2]) e0 (yY (x_ (.agg #[a6.v, b4.v, a7.v, b5.v, a8.v, b6.v]) e0) (yY (x_ (iV g.2.2.2.2.2.2) e0) (yBb (rAl b ZT_31) fun d1 w b => yT (r_stbn (vals' := [a6.v, b4.v, a7.v, b5.v, a8.v, b6.v]) (us := [a6.v, b4.v, a7.v, b5.v, a8.v, b6.v]) b ST_31 e0 e0 rfl rfl (one_of rfl) rfl) fun w b => Ya (iV g.2.2.2.2.2.2) e0 (wK v3 (seqQ fun P2 v5 v6 => sR fun _ v7 => Ym (iV h.2.2.2.2.2) e0 ?_)))))
  refine yY (yneq e0 rfl) (Ym (.bool (!(decide (h.2.2.2.2.2 = 0)))) e0 ?_)
  refine joinW 3 (fun f w => f 0 = iV x ∧ f 9 = (pB b2) ∧ f 11 = j.v ∧ f 12 = (pB b3) ∧ f 14 = (pB c2) ∧ f 16 = (pB d1) ∧ f 17 = iV g.2.2.2.2.2.2 ∧ f 67 = .bool ((!(decide (h.2.2.2.2.2 = 0))) || (!(decide (d.2.2.2.2.2.2 = 0)))) ∧ St w0 (imm I1 O.v o.2.2.1 :: imm I1 R.v o.2.2.2.1 :: imm (rI .u64) S.v o.2.2.2.2 :: imm I1 j.v D :: imm I1 J.v h.2.2.1 :: imm I1 K.v h.2.2.2.1 :: imm (rI .u64) L.v h.2.2.2.2.1 :: ros) (box b2 27 [iV o.1, iV o.2.1, O.v, R.v, S.v] :: box b3 27 [iV h.1, iV h.2.1, J.v, K.v, L.v] :: row 3 I1 T.v d.1 :: row 3 I1 X.v d.2.1 :: row 3 I1 U.v d.2.2.1 :: row 3 I1 Z.v d.2.2.2.1 :: row 3 I1 V.v d.2.2.2.2.1 :: row 3 I1 a4.v d.2.2.2.2.2.1 :: box c2 31 [T.v, X.v, U.v, Z.v, V.v, a4.v] :: row 3 I1 a6.v g.1 :: row 3 I1 b4.v g.2.1 :: row 3 I1 a7.v g.2.2.1 :: row 3 I1 b5.v g.2.2.2.1 :: row 3 I1 a8.v g.2.2.2.2.1 :: row 3 I1 b6.v g.2.2.2.2.2.1 :: box d1 31 [a6.v, b4.v, a7.v, b5.v, a8.v, b6.v] :: rs) w) (fun l0 => ?_) ?_
  ·rcases Bool.eq_false_or_eq_true (!(decide (h.2.2.2.2.2 = 0))) with c3 | c3
   ·exact gN c3 (gN c3 (yY (pt_ (.bool true) e0 c3 rfl) (l0 _ _ ⟨rfl, rfl, rfl, rfl, rfl, rfl, rfl, (congrArg Value.bool (orT c3)), ((b.k33).facts (allC F7 (allC F6 (allC F5 (allC F3 (allC F2 (allC F1 (allC F0 (allT (allT (allT (allT (allT (allT (allT (allT allI))))))))))))))))⟩)))
   ·exact yG c3 (m_ (iV d.2.2.2.2.2.2) e0) (yG c3 (yneq e0 rfl) (yY (pf_ (.bool (!(decide (d.2.2.2.2.2.2 = 0)))) e0 c3 e0) (l0 _ _ ⟨rfl, rfl, rfl, rfl, rfl, rfl, rfl, (congrArg Value.bool (orF c3)), ((b.k33).facts (allC F7 (allC F6 (allC F5 (allC F3 (allC F2 (allC F1 (allC F0 (allT (allT (allT (allT (allT (allT (allT (allT allI))))))))))))))))⟩)))
  rintro f w ⟨l1, l2, l3, l4, l5, l6, v8, v9, b⟩
  refine Ym (.bool ((!(decide (h.2.2.2.2.2 = 0))) || (!(decide (d.2.2.2.2.2.2 = 0))))) (eh v9) ?_
  refine joinW 3 (fun f w => f 0 = iV x ∧ f 9 = (pB b2) ∧ f 11 = j.v ∧ f 12 = (pB b3) ∧ f 14 = (pB c2) ∧ f 16 = (pB d1) ∧ f 71 = .bool (((!(decide (h.2.2.2.2.2 = 0))) || (!(decide (d.2.2.2.2.2.2 = 0)))) || (!(decide (g.2.2.2.2.2.2 = 0)))) ∧ St w0 (imm I1 O.v o.2.2.1 :: imm I1 R.v o.2.2.2.1 :: imm (rI .u64) S.v o.2.2.2.2 :: imm I1 j.v D :: imm I1 J.v h.2.2.1 :: imm I1 K.v h.2.2.2.1 :: imm (rI .u64) L.v h.2.2.2.2.1 :: ros) (box b2 27 [iV o.1, iV o.2.1, O.v, R.v, S.v] :: box b3 27 [iV h.1, iV h.2.1, J.v, K.v, L.v] :: row 3 I1 T.v d.1 :: row 3 I1 X.v d.2.1 :: row 3 I1 U.v d.2.2.1 :: row 3 I1 Z.v d.2.2.2.1 :: row 3 I1 V.v d.2.2.2.2.1 :: row 3 I1 a4.v d.2.2.2.2.2.1 :: box c2 31 [T.v, X.v, U.v, Z.v, V.v, a4.v] :: row 3 I1 a6.v g.1 :: row 3 I1 b4.v g.2.1 :: row 3 I1 a7.v g.2.2.1 :: row 3 I1 b5.v g.2.2.2.1 :: row 3 I1 a8.v g.2.2.2.2.1 :: row 3 I1 b6.v g.2.2.2.2.2.1 :: box d1 31 [a6.v, b4.v, a7.v, b5.v, a8.v, b6.v] :: rs) w) (fun l7 => ?_) ?_
  ·rcases Bool.eq_false_or_eq_true ((!(decide (h.2.2.2.2.2 = 0))) || (!(decide (d.2.2.2.2.2.2 = 0)))) with c4 | c4
   ·exact gN c4 (gN c4 (yY (pt_ (.bool true) e0 c4 rfl) (l7 _ _ ⟨l1, l2, l3, l4, l5, l6, (congrArg Value.bool (orT c4)), b⟩)))
   ·exact yG c4 (m_ (iV g.2.2.2.2.2.2) (eh v8)) (yG c4 (yneq e0 rfl) (yY (pf_ (.bool (!(decide (g.2.2.2.2.2.2 = 0)))) e0 c4 e0) (l7 _ _ ⟨l1, l2, l3, l4, l5, l6, (congrArg Value.bool (orF c4)), b⟩)))
  rintro f w ⟨l8, l9, m0, m1, g1, g2, w1, b⟩
  refine Ym (.bool (((!(decide (h.2.2.2.2.2 = 0))) || (!(decide (d.2.2.2.2.2.2 = 0)))) || (!(decide (g.2.2.2.2.2.2 = 0))))) (eh w1) ?_
  refine joinW 8 (fun f w => f 0 = iV x ∧ f 9 = (pB b2) ∧ f 11 = j.v ∧ f 12 = (pB b3) ∧ f 14 = (pB c2) ∧ f 16 = (pB d1) ∧ f 80 = .bool ((((!(decide (h.2.2.2.2.2 = 0))) || (!(decide (d.2.2.2.2.2.2 = 0)))) || (!(decide (g.2.2.2.2.2.2 = 0)))) || (!(decide ((d.1.length : Int) = (g.1.length : Int))))) ∧ St w0 (imm I1 O.v o.2.2.1 :: imm I1 R.v o.2.2.2.1 :: imm (rI .u64) S.v o.2.2.2.2 :: imm I1 j.v D :: imm I1 J.v h.2.2.1 :: imm I1 K.v h.2.2.2.1 :: imm (rI .u64) L.v h.2.2.2.2.1 :: ros) (box b2 27 [iV o.1, iV o.2.1, O.v, R.v, S.v] :: box b3 27 [iV h.1, iV h.2.1, J.v, K.v, L.v] :: row 3 I1 T.v d.1 :: row 3 I1 X.v d.2.1 :: row 3 I1 U.v d.2.2.1 :: row 3 I1 Z.v d.2.2.2.1 :: row 3 I1 V.v d.2.2.2.2.1 :: row 3 I1 a4.v d.2.2.2.2.2.1 :: box c2 31 [T.v, X.v, U.v, Z.v, V.v, a4.v] :: row 3 I1 a6.v g.1 :: row 3 I1 b4.v g.2.1 :: row 3 I1 a7.v g.2.2.1 :: row 3 I1 b5.v g.2.2.2.1 :: row 3 I1 a8.v g.2.2.2.2.1 :: row 3 I1 b6.v g.2.2.2.2.2.1 :: box d1 31 [a6.v, b4.v, a7.v, b5.v, a8.v, b6.v] :: rs) w) (fun m2 => ?_) ?_
  ·rcases Bool.eq_false_or_eq_true (((!(decide (h.2.2.2.2.2 = 0))) || (!(decide (d.2.2.2.2.2.2 = 0)))) || (!(decide (g.2.2.2.2.2.2 = 0)))) with F | F
   ·exact gN F (gN F (gN F (gN F (gN F (gN F (gN F (yY (pt_ (.bool true) e0 F rfl) (m2 _ _ ⟨l8, l9, m0, m1, g1, g2, (congrArg Value.bool (orT F)), b⟩))))))))
   ·exact yG F (yFb FL_31_0 (eh g1)) (yG F (lb_ T.v O_22 e0 b R8) (yG F (yLen SL_22 e0 b rO2) (yG F (yFb FL_31_0 (eh g2)) (yG F (lb_ a6.v O_22 e0 b R15) (yG F (yLen SL_22 e0 b rO9) (yG F (yneq e0 e0) (yY (pf_ (.bool (!(decide ((d.1.length : Int) = (g.1.length : Int))))) e0 F e0) (m2 _ _ ⟨l8, l9, m0, m1, g1, g2, (congrArg Value.bool (orF F)), b⟩))))))))
  rintro f w ⟨m3, m4, m5, m6, g3, g4, w2, b⟩
  refine Ym (.bool ((((!(decide (h.2.2.2.2.2 = 0))) || (!(decide (d.2.2.2.2.2.2 = 0)))) || (!(decide (g.2.2.2.2.2.2 = 0)))) || (!(decide ((d.1.length : Int) = (g.1.length : Int)))))) (eh w2) ?_
  refine joinW 8 (fun f w => f 0 = iV x ∧ f 9 = (pB b2) ∧ f 11 = j.v ∧ f 12 = (pB b3) ∧ f 14 = (pB c2) ∧ f 16 = (pB d1) ∧ f 89 = .bool (((((!(decide (h.2.2.2.2.2 = 0))) || (!(decide (d.2.2.2.2.2.2 = 0)))) || (!(decide (g.2.2.2.2.2.2 = 0)))) || (!(decide ((d.1.length : Int) = (g.1.length : Int))))) || (!(decide ((d.2.2.1.length : Int) = (g.2.2.1.length : Int))))) ∧ St w0 (imm I1 O.v o.2.2.1 :: imm I1 R.v o.2.2.2.1 :: imm (rI .u64) S.v o.2.2.2.2 :: imm I1 j.v D :: imm I1 J.v h.2.2.1 :: imm I1 K.v h.2.2.2.1 :: imm (rI .u64) L.v h.2.2.2.2.1 :: ros) (box b2 27 [iV o.1, iV o.2.1, O.v, R.v, S.v] :: box b3 27 [iV h.1, iV h.2.1, J.v, K.v, L.v] :: row 3 I1 T.v d.1 :: row 3 I1 X.v d.2.1 :: row 3 I1 U.v d.2.2.1 :: row 3 I1 Z.v d.2.2.2.1 :: row 3 I1 V.v d.2.2.2.2.1 :: row 3 I1 a4.v d.2.2.2.2.2.1 :: box c2 31 [T.v, X.v, U.v, Z.v, V.v, a4.v] :: row 3 I1 a6.v g.1 :: row 3 I1 b4.v g.2.1 :: row 3 I1 a7.v g.2.2.1 :: row 3 I1 b5.v g.2.2.2.1 :: row 3 I1 a8.v g.2.2.2.2.1 :: row 3 I1 b6.v g.2.2.2.2.2.1 :: box d1 31 [a6.v, b4.v, a7.v, b5.v, a8.v, b6.v] :: rs) w) (fun m7 => ?_) ?_
  ·rcases Bool.eq_false_or_eq_true ((((!(decide (h.2.2.2.2.2 = 0))) || (!(decide (d.2.2.2.2.2.2 = 0)))) || (!(decide (g.2.2.2.2.2.2 = 0)))) || (!(decide ((d.1.length : Int) = (g.1.length : Int))))) with G | G
   ·exact gN G (gN G (gN G (gN G (gN G (gN G (gN G (yY (pt_ (.bool true) e0 G rfl) (m7 _ _ ⟨m3, m4, m5, m6, g3, g4, (congrArg Value.bool (orT G)), b⟩))))))))
   ·exact yG G (yFb FL_31_2 (eh g3)) (yG G (lb_ U.v O_22 e0 b R8) (yG G (yLen SL_22 e0 b rO4) (yG G (yFb FL_31_2 (eh g4)) (yG G (lb_ a7.v O_22 e0 b R15) (yG G (yLen SL_22 e0 b rO11) (yG G (yneq e0 e0) (yY (pf_ (.bool (!(decide ((d.2.2.1.length : Int) = (g.2.2.1.length : Int))))) e0 G e0) (m7 _ _ ⟨m3, m4, m5, m6, g3, g4, (congrArg Value.bool (orF G)), b⟩))))))))
  rintro f w ⟨m8, m9, n0, n1, g5, w3, w4, b⟩
  refine Ym (.bool (((((!(decide (h.2.2.2.2.2 = 0))) || (!(decide (d.2.2.2.2.2.2 = 0)))) || (!(decide (g.2.2.2.2.2.2 = 0)))) || (!(decide ((d.1.length : Int) = (g.1.length : Int))))) || (!(decide ((d.2.2.1.length : Int) = (g.2.2.1.length : Int)))))) (eh w4) ?_
  refine joinW 8 (fun f w => f 0 = iV x ∧ f 9 = (pB b2) ∧ f 11 = j.v ∧ f 12 = (pB b3) ∧ f 14 = (pB c2) ∧ f 98 = .bool ((((((!(decide (h.2.2.2.2.2 = 0))) || (!(decide (d.2.2.2.2.2.2 = 0)))) || (!(decide (g.2.2.2.2.2.2 = 0)))) || (!(decide ((d.1.length : Int) = (g.1.length : Int))))) || (!(decide ((d.2.2.1.length : Int) = (g.2.2.1.length : Int))))) || (!(decide ((d.2.2.2.2.1.length : Int) = (g.2.2.2.2.1.length : Int))))) ∧ St w0 (imm I1 O.v o.2.2.1 :: imm I1 R.v o.2.2.2.1 :: imm (rI .u64) S.v o.2.2.2.2 :: imm I1 j.v D :: imm I1 J.v h.2.2.1 :: imm I1 K.v h.2.2.2.1 :: imm (rI .u64) L.v h.2.2.2.2.1 :: ros) (box b2 27 [iV o.1, iV o.2.1, O.v, R.v, S.v] :: box b3 27 [iV h.1, iV h.2.1, J.v, K.v, L.v] :: row 3 I1 T.v d.1 :: row 3 I1 X.v d.2.1 :: row 3 I1 U.v d.2.2.1 :: row 3 I1 Z.v d.2.2.2.1 :: row 3 I1 V.v d.2.2.2.2.1 :: row 3 I1 a4.v d.2.2.2.2.2.1 :: box c2 31 [T.v, X.v, U.v, Z.v, V.v, a4.v] :: rs) w) (fun n2 => ?_) ?_
  ·rcases Bool.eq_false_or_eq_true (((((!(decide (h.2.2.2.2.2 = 0))) || (!(decide (d.2.2.2.2.2.2 = 0)))) || (!(decide (g.2.2.2.2.2.2 = 0)))) || (!(decide ((d.1.length : Int) = (g.1.length : Int))))) || (!(decide ((d.2.2.1.length : Int) = (g.2.2.1.length : Int))))) with H | H
   ·exact gN H (gN H (gN H (gN H (gN H (gN H (gN H (yY (pt_ (.bool true) e0 H rfl) (n2 _ _ ⟨m8, m9, n0, n1, g5, (congrArg Value.bool (orT H)), (b.k34)⟩))))))))
   ·exact yG H (yFb FL_31_4 (eh g5)) (yG H (lb_ V.v O_22 e0 b R8) (yG H (yLen SL_22 e0 b rO6) (yG H (yFb FL_31_4 (eh w3)) (yG H (lb_ a8.v O_22 e0 b R15) (yG H (yLen SL_22 e0 b rO13) (yG H (yneq e0 e0) (yY (pf_ (.bool (!(decide ((d.2.2.2.2.1.length : Int) = (g.2.2.2.2.1.length : Int))))) e0 H e0) (n2 _ _ ⟨m8, m9, n0, n1, g5, (congrArg Value.bool (orF H)), (b.k34)⟩))))))))
  rintro f w ⟨g6, n3, n4, n5, g7, w5, b⟩
  refine Ym (.bool ((((((!(decide (h.2.2.2.2.2 = 0))) || (!(decide (d.2.2.2.2.2.2 = 0)))) || (!(decide (g.2.2.2.2.2.2 = 0)))) || (!(decide ((d.1.length : Int) = (g.1.length : Int))))) || (!(decide ((d.2.2.1.length : Int) = (g.2.2.1.length : Int))))) || (!(decide ((d.2.2.2.2.1.length : Int) = (g.2.2.2.2.1.length : Int)))))) (eh w5) ?_
  refine joinW 14 (fun f w => f 0 = iV x ∧ f 9 = (pB b2) ∧ f 11 = j.v ∧ f 12 = (pB b3) ∧ f 113 = .bool (((((((!(decide (h.2.2.2.2.2 = 0))) || (!(decide (d.2.2.2.2.2.2 = 0)))) || (!(decide (g.2.2.2.2.2.2 = 0)))) || (!(decide ((d.1.length : Int) = (g.1.length : Int))))) || (!(decide ((d.2.2.1.length : Int) = (g.2.2.1.length : Int))))) || (!(decide ((d.2.2.2.2.1.length : Int) = (g.2.2.2.2.1.length : Int))))) || (!(decide ((wa .i64 (wa .i64 (d.1.length : Int) (d.2.2.1.length : Int)) (d.2.2.2.2.1.length : Int)) = x)))) ∧ St w0 (imm I1 O.v o.2.2.1 :: imm I1 R.v o.2.2.2.1 :: imm (rI .u64) S.v o.2.2.2.2 :: imm I1 j.v D :: imm I1 J.v h.2.2.1 :: imm I1 K.v h.2.2.2.1 :: imm (rI .u64) L.v h.2.2.2.2.1 :: ros) (box b2 27 [iV o.1, iV o.2.1, O.v, R.v, S.v] :: box b3 27 [iV h.1, iV h.2.1, J.v, K.v, L.v] :: rs) w) (fun n6 => ?_) ?_
  ·rcases Bool.eq_false_or_eq_true ((((((!(decide (h.2.2.2.2.2 = 0))) || (!(decide (d.2.2.2.2.2.2 = 0)))) || (!(decide (g.2.2.2.2.2.2 = 0)))) || (!(decide ((d.1.length : Int) = (g.1.length : Int))))) || (!(decide ((d.2.2.1.length : Int) = (g.2.2.1.length : Int))))) || (!(decide ((d.2.2.2.2.1.length : Int) = (g.2.2.2.2.1.length : Int))))) with y | y
   ·exact gN y (gN y (gN y (gN y (gN y (gN y (gN y (gN y (gN y (gN y (gN y (gN y (gN y (yY (pt_ (.bool true) e0 y rfl) (n6 _ _ ⟨g6, n3, n4, n5, (congrArg Value.bool (orT y)), (b.k35)⟩))))))))))))))
   ·exact yG y (yFb FL_31_0 (eh g7)) (yG y (lb_ T.v O_22 e0 b R8) (yG y (yLen SL_22 e0 b rO2) (yG y (yFb FL_31_2 (eh g7)) (yG y (lb_ U.v O_22 e0 b R8) (yG y (yLen SL_22 e0 b rO4) (yG y (yadd e0 e0) (yG y (yFb FL_31_4 (eh g7)) (yG y (lb_ V.v O_22 e0 b R8) (yG y (yLen SL_22 e0 b rO6) (yG y (yadd e0 e0) (yG y (m_ (iV x) (eh g6)) (yG y (yneq e0 e0) (yY (pf_ (.bool (!(decide ((wa .i64 (wa .i64 (d.1.length : Int) (d.2.2.1.length : Int)) (d.2.2.2.2.1.length : Int)) = x)))) e0 y e0) (n6 _ _ ⟨g6, n3, n4, n5, (congrArg Value.bool (orF y)), (b.k35)⟩))))))))))))))
  rintro f w ⟨e4, w6, e5, w7, w8, b⟩
  refine wK v7 (cB (eh w8) m (fun w9 m => ?_) fun w9 m => ?_)
  ·refine sR fun _ x0 => Ya (.bool false) rfl (wK x0 (wp_ret (v6 _ _ _ rfl ?_)))
   cases m
   exact e3 _ _ _ (fin1r Tryz.results8 ⟨rfl, rfl⟩ ⟨rfl, ((b.k1z).facts (allT (allT (allT (allT (allT (allT (allT allI))))))))⟩)
  ·refine wp_skip (v5 _ _ (sR fun _ x3 => yY (lbs_ [iV o.1, iV o.2.1, O.v, R.v, S.v] ST_27 (eh w6) b R0) (bE m fun c x5 m => yC (yCall FN_15 (a1 e0)) (blocks_Triangular_ok x5 F0 F1 F2 b) ?_)))
   rintro _ w ⟨t, q, p, rfl, b⟩
   refine ⟨_, rfl, ?_⟩
   refine Ym (.tuple #[.agg #[t.v, q.v, p.v], iV c.2.2.2]) e0 (yY (x_ (.agg #[t.v, q.v, p.v]) e0) (yY (x_ (iV c.2.2.2) e0) (yBb (rAl b ZT_36) fun z w b => yT (r_stbn (vals' := [t.v, q.v, p.v]) (us := [t.v, q.v, p.v]) b ST_36 e0 e0 rfl rfl (one_of rfl) rfl) fun w b => Ya (iV c.2.2.2) e0 (wK x3 (sR fun _ x7 => yY (lbs_ [iV h.1, iV h.2.1, J.v, K.v, L.v] ST_27 (eh w7) b R5) (bE m fun i x8 m => ?_))))))
   refine yC (yCall FN_15 (a1 e0)) (blocks_Triangular_ok x8 F4 F5 F6 b) ?_
   rintro _ w ⟨u, r, k, rfl, b⟩
   refine ⟨_, rfl, ?_⟩
   refine Ym (.tuple #[.agg #[u.v, r.v, k.v], iV i.2.2.2]) e0 (yY (x_ (.agg #[u.v, r.v, k.v]) e0) (yY (x_ (iV i.2.2.2) e0) (yBb (rAl b ZT_36) fun A w b => yT (r_stbn (vals' := [u.v, r.v, k.v]) (us := [u.v, r.v, k.v]) b ST_36 e0 e0 rfl rfl (one_of rfl) rfl) fun w b => Ya (iV i.2.2.2) e0 (wK x7 (seqQ fun P3 x9 y0 => sR fun _ y1 => Ym (iV c.2.2.2) e0 ?_)))))
   refine Ym (iV i.2.2.2) e0 (yY (yneq e0 e0) (Ym (.bool (!(decide (c.2.2.2 = i.2.2.2)))) e0 ?_))
   refine joinW 8 (fun f w => f 0 = iV x ∧ f 11 = j.v ∧ f 18 = (pB z) ∧ f 19 = iV c.2.2.2 ∧ f 20 = (pB A) ∧ f 135 = .bool ((!(decide (c.2.2.2 = i.2.2.2))) || (!(decide ((c.2.2.1.length : Int) = (i.2.2.1.length : Int))))) ∧ St w0 (imm I1 j.v D :: ros) (row 3 I1 t.v c.1 :: row 3 I1 q.v c.2.1 :: row 3 I1 p.v c.2.2.1 :: box z 36 [t.v, q.v, p.v] :: row 3 I1 u.v i.1 :: row 3 I1 r.v i.2.1 :: row 3 I1 k.v i.2.2.1 :: box A 36 [u.v, r.v, k.v] :: rs) w) (fun n7 => ?_) ?_
   ·rcases Bool.eq_false_or_eq_true (!(decide (c.2.2.2 = i.2.2.2))) with I | I
    ·exact gN I (gN I (gN I (gN I (gN I (gN I (gN I (yY (pt_ (.bool true) e0 I rfl) (n7 _ _ ⟨e4, e5, rfl, rfl, rfl, (congrArg Value.bool (orT I)), ((b.k36).facts (allC F3 (allT (allT (allT (allT (allT (allT (allT allI)))))))))⟩))))))))
    ·exact yG I (yFb FL_36_2 e0) (yG I (lb_ p.v O_22 e0 b R4) (yG I (yLen SL_22 e0 b rO7) (yG I (yFb FL_36_2 e0) (yG I (lb_ k.v O_22 e0 b R0) (yG I (yLen SL_22 e0 b rO3) (yG I (yneq e0 e0) (yY (pf_ (.bool (!(decide ((c.2.2.1.length : Int) = (i.2.2.1.length : Int))))) e0 I e0) (n7 _ _ ⟨e4, e5, rfl, rfl, rfl, (congrArg Value.bool (orF I)), ((b.k36).facts (allC F3 (allT (allT (allT (allT (allT (allT (allT allI)))))))))⟩))))))))
   rintro f w ⟨c5, d5, d2, d3, b7, y2, b⟩
   refine Ym (.bool ((!(decide (c.2.2.2 = i.2.2.2))) || (!(decide ((c.2.2.1.length : Int) = (i.2.2.1.length : Int)))))) (eh y2) (bE m fun y3 d6 m => ?_)
   refine joinW 17 (fun f w => f 0 = iV x ∧ f 11 = j.v ∧ f 18 = (pB z) ∧ f 19 = iV c.2.2.2 ∧ f 20 = (pB A) ∧ f 153 = .bool y3 ∧ St w0 (imm I1 j.v D :: imm I1 p.v c.2.2.1 :: imm I1 k.v i.2.2.1 :: ros) (row 3 I1 t.v c.1 :: row 3 I1 q.v c.2.1 :: box z 36 [t.v, q.v, p.v] :: row 3 I1 u.v i.1 :: row 3 I1 r.v i.2.1 :: box A 36 [u.v, r.v, k.v] :: rs) w) (fun n8 => ?_) ?_
   ·rcases iteS d6 with ⟨b8, d6⟩ | ⟨b8, d6⟩
    ·refine gN b8 (gN b8 (gN b8 (Gn (wxu rfl rfl rfl) rfl (Gn (wxu rfl rfl rfl) rfl (Gn (wxu rfl rfl rfl) rfl (Gn (wxu rfl rfl rfl) rfl (Gn (wxu rfl rfl rfl) rfl (Gn (wxu rfl rfl rfl) rfl (Gn (wxu rfl rfl rfl) rfl (Gn (wxu rfl rfl rfl) rfl (Gn (wxu rfl rfl rfl) rfl (Gn (wxu rfl rfl rfl) rfl (Gn (wxu rfl rfl rfl) rfl ?_)))))))))))))
     refine Gn (wxu rfl rfl rfl) rfl (gN b8 (yY (pt_ (.bool true) e0 b8 rfl) ?_))
     cases d6
     replace b := (((b.k17).fz).k1k).fz
     exact n8 _ _ ⟨c5, d5, d2, d3, b7, rfl, (b.facts (allC F2 (allC F1 (allC F0 (allT (allT (allT allI)))))))⟩
    ·refine yG (bfalse b8) (m_ (iV c.2.2.2) (eh d3)) (yG (bfalse b8) (yeql e0 rfl) (yG (bfalse b8) (m_ (.bool (decide (c.2.2.2 = 0))) e0) (bE d6 fun n9 c6 d6 => ?_)))
     refine joinW 13 (fun f w => f 0 = iV x ∧ f 11 = j.v ∧ f 18 = (pB z) ∧ f 19 = iV c.2.2.2 ∧ f 20 = (pB A) ∧ f 136 = .bool ((!(decide (c.2.2.2 = i.2.2.2))) || (!(decide ((c.2.2.1.length : Int) = (i.2.2.1.length : Int))))) ∧ f 152 = .bool n9 ∧ St w0 (imm I1 j.v D :: imm I1 p.v c.2.2.1 :: imm I1 k.v i.2.2.1 :: ros) (row 3 I1 t.v c.1 :: row 3 I1 q.v c.2.1 :: box z 36 [t.v, q.v, p.v] :: row 3 I1 u.v i.1 :: row 3 I1 r.v i.2.1 :: box A 36 [u.v, r.v, k.v] :: rs) w) (fun o0 => ?_) ?_
     ·rcases iteS c6 with ⟨N, c6⟩ | ⟨N, c6⟩
      ·refine yG (dT N) (yFb FL_36_2 (eh d2)) (yG (dT N) (lb_ p.v O_22 e0 b R3) (yG (dT N) (m_ (iV x) (eh c5)) (bE c6 fun y4 y5 c6 => ?_)))
       replace b := (b.k17).fz
       refine Yc (wG (dT N)) rfl (yCall FN_30 (a2 e0 e0)) (sparselaw15_starts_ok y5 F0 b) ?_
       rintro _ w ⟨rfl, b⟩
       refine ⟨_, rfl, ?_⟩
       refine yG (dT N) (ynot e0) (yG (dT N) (m_ (.bool (!y4)) e0) (bE c6 fun o1 d7 c6 => ?_))
       refine joinW 6 (fun f w => f 0 = iV x ∧ f 11 = j.v ∧ f 18 = (pB z) ∧ f 19 = iV c.2.2.2 ∧ f 20 = (pB A) ∧ f 136 = .bool ((!(decide (c.2.2.2 = i.2.2.2))) || (!(decide ((c.2.2.1.length : Int) = (i.2.2.1.length : Int))))) ∧ f 139 = .bool (decide (c.2.2.2 = 0)) ∧ f 151 = .bool o1 ∧ St w0 (imm I1 j.v D :: imm I1 p.v c.2.2.1 :: imm I1 k.v i.2.2.1 :: ros) (row 3 I1 t.v c.1 :: row 3 I1 q.v c.2.1 :: box z 36 [t.v, q.v, p.v] :: row 3 I1 u.v i.1 :: row 3 I1 r.v i.2.1 :: box A 36 [u.v, r.v, k.v] :: rs) w) (fun o2 => ?_) ?_
       ·rcases iteS d7 with ⟨a9, d7⟩ | ⟨a9, d7⟩
        ·refine yG (nF a9) (yFb FL_36_2 (eh b7)) (yG (nF a9) (lb_ k.v O_22 e0 b R6) (yG (nF a9) (m_ (iV x) (eh c5)) (bE d7 fun y6 y7 d7 => ?_)))
         replace b := (b.k1k).fz
         refine Yc (wG (nF a9)) rfl (yCall FN_30 (a2 e0 e0)) (sparselaw15_starts_ok y7 F0 b) ?_
         rintro _ w ⟨rfl, b⟩
         refine ⟨_, rfl, ?_⟩
         refine yG (nF a9) (ynot e0) (yG (dT N) (pf_ (.bool (!y6)) e0 (nF a9) e0) ?_)
         cases d7
         exact o2 _ _ ⟨c5, d5, d2, d3, b7, rfl, rfl, rfl, (b.facts (allC F2 (allC F1 (allC F0 (allT (allT (allT allI)))))))⟩
        ·refine gN (nT (bfalse a9)) (gN (nT (bfalse a9)) (gN (nT (bfalse a9)) (gN (nT (bfalse a9)) (gN (nT (bfalse a9)) (yG (dT N) (pt_ (.bool true) e0 (nT (bfalse a9)) rfl) ?_)))))
         cases d7
         replace b := (b.k1k).fz
         exact o2 _ _ ⟨c5, d5, d2, d3, b7, rfl, rfl, rfl, (b.facts (allC F2 (allC F1 (allC F0 (allT (allT (allT allI)))))))⟩
       rintro f w ⟨y8, y9, z0, z1, z3, o3, z4, z5, b⟩
       refine Y (wg rfl rfl o3 (bfalse b8)) rfl (pt_ (.bool o1) (eh z4) (dT N) (eh z5)) ?_
       cases c6
       exact o0 _ _ ⟨y8, y9, z0, z1, z3, o3, rfl, b⟩
      ·refine gN (dF N) (gN (dF N) (gN (dF N) (gN (dF N) (gN (dF N) (gN (dF N) (Gn (wxu rfl rfl rfl) rfl (Gn (wxu rfl rfl rfl) rfl (Gn (wxu rfl rfl rfl) rfl (Gn (wxu rfl rfl rfl) rfl (Gn (wxu rfl rfl rfl) rfl (gN (dF N) (yG (bfalse b8) (pf_ (.bool false) e0 (dF N) rfl) ?_))))))))))))
       cases c6
       replace b := (((b.k17).fz).k1k).fz
       exact o0 _ _ ⟨c5, d5, d2, d3, b7, rfl, rfl, (b.facts (allC F2 (allC F1 (allC F0 (allT (allT (allT allI)))))))⟩
     rintro f w ⟨z6, z7, z8, z9, A0, A1, A2, b⟩
     refine yY (pf_ (.bool n9) (eh A1) (bfalse b8) (eh A2)) ?_
     cases d6
     exact n8 _ _ ⟨z6, z7, z8, z9, A0, rfl, b⟩
   rintro f w ⟨A3, A4, A5, A6, A7, A8, b⟩
   refine wK y1 (cB (eh A8) m (fun A9 m => ?_) fun A9 m => ?_)
   ·refine sR fun _ B0 => Ya (.bool false) rfl (wK B0 (wp_ret (y0 _ _ _ rfl ?_)))
    cases m
    exact e3 _ _ _ (fin1r Tryz.results8 ⟨rfl, rfl⟩ ⟨rfl, ((b.k37).facts (allT (allT (allT allI))))⟩)
   ·refine wp_skip (x9 _ _ (seqQ fun P4 B1 B2 => sR fun _ B3 => Ya (iV 0) rfl (wK B3 (blockQ fun o4 o5 => bE m fun o6 B4 m => ?_))))
    have B5 : ∀ (f : FV) w, St w0 ros rs w → .inl () = o6 → o4 (.exit 0) (fr 259 f) w := by
     intro f w b ho
     subst ho
     refine o5 _ _ _ (B1 _ _ (sR fun _ B6 => bE m fun B7 B8 m => yC (yCall FN_9 a0) (sparselaw15_awake_ok B8 b) ?_))
     rintro _ w ⟨rfl, b⟩
     refine ⟨_, rfl, ?_⟩
     refine Ya (.bool B7) e0 (wK B6 (wp_ret ?_))
     cases m
     exact e3 _ _ _ (fin1r Tryz.results8 ⟨rfl, rfl⟩ ⟨rfl, b⟩)
    have o7 : ∀ (f : FV) w, f 8 = .bool false → St w0 ros rs w → .inr () = o6 → o4 .ret (fr 259 f) w := by
     intro f w B9 b ho
     subst ho
     refine o5 _ _ _ (B2 _ _ _ rfl ?_)
     cases m
     exact e3 _ _ _ (fin1r Tryz.results8 ⟨rfl, B9⟩ ⟨rfl, b⟩)
    replace b := (((b.k11).fz).k14).fz
    refine loopQ (fun s a w => ∃ (E : Int) (f : FV), E = s ∧ a = fr 259 f ∧ f 0 = iV x ∧ f 11 = j.v ∧ f 18 = (pB z) ∧ f 19 = iV c.2.2.2 ∧ f 20 = (pB A) ∧ f 22 = iV E ∧ St w0 (imm I1 j.v D :: imm I1 q.v c.2.1 :: imm I1 p.v c.2.2.1 :: imm I1 r.v i.2.1 :: imm I1 k.v i.2.2.1 :: ros) (row 3 I1 t.v c.1 :: box z 36 [t.v, q.v, p.v] :: row 3 I1 u.v i.1 :: box A 36 [u.v, r.v, k.v] :: rs) w) B4 ⟨_, _, rfl, rfl, A3, A4, A5, A6, A7, rfl, (b.facts (allC F2 (allC F1 (allC F3 (allC F0 (allC F4 (allT (allT (allT (allT (allT allI)))))))))))⟩ ?_
    rintro _ _ w P5 ⟨E, f, rfl, rfl, e4, e5, g8, g9, o8, h0, b⟩ B h1 P6 C0 h2
    refine seqQ fun P7 C1 C2 => sR fun _ C3 => Ym (iV E) (eh h0) (yY (yadd e0 rfl) (yY (yFb FL_36_2 (eh g8)) (yY (lb_ p.v O_22 e0 b R1) (yY (yLen SL_22 e0 b (rdI F2)) (yY (ylss e0 e0) (Ym (.bool (decide ((wa .i64 E 1) < (c.2.2.1.length : Int)))) e0 ?_))))))
    refine joinW 3 (fun f w => f 0 = iV x ∧ f 11 = j.v ∧ f 18 = (pB z) ∧ f 19 = iV c.2.2.2 ∧ f 20 = (pB A) ∧ f 22 = iV E ∧ f 163 = .bool ((decide ((wa .i64 E 1) < (c.2.2.1.length : Int))) && (decide (c.2.2.2 = 0))) ∧ St w0 (imm I1 j.v D :: imm I1 q.v c.2.1 :: imm I1 p.v c.2.2.1 :: imm I1 r.v i.2.1 :: imm I1 k.v i.2.2.1 :: ros) (row 3 I1 t.v c.1 :: box z 36 [t.v, q.v, p.v] :: row 3 I1 u.v i.1 :: box A 36 [u.v, r.v, k.v] :: rs) w) (fun o9 => ?_) ?_
    ·rcases Bool.eq_false_or_eq_true (decide ((wa .i64 E 1) < (c.2.2.1.length : Int))) with c7 | c7
     ·exact yG c7 (m_ (iV c.2.2.2) (eh g9)) (yG c7 (yeql e0 rfl) (yY (pt_ (.bool (decide (c.2.2.2 = 0))) e0 c7 e0) (o9 _ _ ⟨e4, e5, g8, g9, o8, h0, (congrArg Value.bool (andT c7)), b⟩)))
     ·exact gN c7 (gN c7 (yY (pf_ (.bool false) e0 c7 rfl) (o9 _ _ ⟨e4, e5, g8, g9, o8, h0, (congrArg Value.bool (andF c7)), b⟩)))
    rintro f w ⟨f0, p0, h4, p1, h6, p2, C4, b⟩
    refine wK C3 (cB (eh C4) B (fun C5 B => ?_) fun C5 B => ?_)
    ·refine wp_skip (C1 _ _ (seqQ fun P8 C6 p3 => blockQ fun _ h8 => seqQ fun P9 C7 C8 => sR fun _ C9 => yY (yFb FL_36_1 (eh h4)) (yY (lb_ q.v O_22 e0 b R1) (Ym (iV x) (eh f0) (bE B fun D0 D1 B => yC (yCall FN_23 (a2 e0 e0)) (sparsekit_Perm_ok D1 F1 b) ?_)))))
     rintro _ w ⟨rfl, b⟩
     refine ⟨_, rfl, ?_⟩
     refine yY (ynot e0) (Ym (.bool (!D0)) e0 (bE B fun D2 d8 B => ?_))
     refine joinW 6 (fun f w => f 0 = iV x ∧ f 11 = j.v ∧ f 18 = (pB z) ∧ f 19 = iV c.2.2.2 ∧ f 20 = (pB A) ∧ f 22 = iV E ∧ f 177 = .bool D2 ∧ St w0 (imm I1 j.v D :: imm I1 q.v c.2.1 :: imm I1 p.v c.2.2.1 :: imm I1 r.v i.2.1 :: imm I1 k.v i.2.2.1 :: ros) (row 3 I1 t.v c.1 :: box z 36 [t.v, q.v, p.v] :: row 3 I1 u.v i.1 :: box A 36 [u.v, r.v, k.v] :: rs) w) (fun p4 => ?_) ?_
     ·rcases iteS d8 with ⟨b0, d8⟩ | ⟨b0, d8⟩
      ·refine yG (nF b0) (yFb FL_36_1 (eh h6)) (yG (nF b0) (lb_ r.v O_22 e0 b R3) (yG (nF b0) (m_ (iV x) (eh f0)) (bE d8 fun D3 D4 d8 => Yc (wG (nF b0)) rfl (yCall FN_23 (a2 e0 e0)) (sparsekit_Perm_ok D4 F3 b) ?_)))
       rintro _ w ⟨rfl, b⟩
       refine ⟨_, rfl, ?_⟩
       refine yG (nF b0) (ynot e0) (yY (pf_ (.bool (!D3)) e0 (nF b0) e0) ?_)
       cases d8
       exact p4 _ _ ⟨f0, p0, h4, p1, h6, p2, rfl, b⟩
      ·refine gN (nT (bfalse b0)) (gN (nT (bfalse b0)) (gN (nT (bfalse b0)) (gN (nT (bfalse b0)) (gN (nT (bfalse b0)) (yY (pt_ (.bool true) e0 (nT (bfalse b0)) rfl) ?_)))))
       cases d8
       exact p4 _ _ ⟨f0, p0, h4, p1, h6, p2, rfl, b⟩
     rintro f w ⟨D5, D6, p5, D7, D8, p6, D9, b⟩
     refine wK C9 (cB (eh D9) B (fun E0 B => ?_) fun E0 B => ?_)
     ·refine sR fun _ E1 => Ya (.bool false) rfl (wK E1 (wp_ret (C8 _ _ _ rfl (h8 _ _ _ (p3 _ _ _ rfl ?_)))))
      cases B
      exact h2 _ _ _ _ rfl rfl (o7 _ _ rfl ((b.k2h).facts (allT (allT (allT (allT (allT allI)))))) (h1 _ rfl))
     ·refine wp_skip (C7 _ _ (sR fun _ E2 => Ya hnil.v rfl (wK E2 (sQ fun _ E3 => sR fun _ E4 => yY (yFb FL_36_2 (eh p5)) (yY (lb_ p.v O_22 e0 b R1) (Ym (iV E) (eh p6) (bE B fun E5 p7 B => ?_)))))))
      refine yY (yIa SL_22 e0 e0 b (rdI F2) p7) (yY (yI O_3 e0 b (rdI F2) p7) (Ya (iV E5) e0 (wK E4 (blockQ fun E6 E7 => bE B fun E8 E9 B => ?_))))
      have F8 : ∀ (c9 : LI) (W : Hdr) (f : FV) w, f 0 = iV x → f 11 = j.v → f 18 = (pB z) → f 19 = iV c.2.2.2 → f 20 = (pB A) → f 22 = iV E → f 23 = W.v → St w0 (imm I1 j.v D :: imm I1 q.v c.2.1 :: imm I1 p.v c.2.2.1 :: imm I1 r.v i.2.1 :: imm I1 k.v i.2.2.1 :: ros) (row 3 I1 t.v c.1 :: box z 36 [t.v, q.v, p.v] :: row 3 I1 u.v i.1 :: box A 36 [u.v, r.v, k.v] :: row 3 I1 W.v c9 :: rs) w → c9 = E8 → E6 (.exit 2) (fr 259 f) w := by
       intro c9 W f w F9 G0 G1 G2 G3 G4 G5 b ho
       subst ho
       refine E7 _ _ _ (E3 _ _ (sR fun _ G6 => Ya (.bool false) rfl (wK G6 (sQ fun _ G7 => sR fun _ G8 => Ya (iV 0) rfl (wK G8 (blockQ fun G9 H0 => ?_))))))
       refine bE B fun H1 H2 B => ?_
       have H3 : ∀ (f1 : Bool) (f : FV) w, f 0 = iV x → f 11 = j.v → f 18 = (pB z) → f 19 = iV c.2.2.2 → f 20 = (pB A) → f 22 = iV E → f 25 = .bool f1 → St w0 (imm I1 j.v D :: imm I1 q.v c.2.1 :: imm I1 p.v c.2.2.1 :: imm I1 r.v i.2.1 :: imm I1 k.v i.2.2.1 :: ros) (row 3 I1 t.v c.1 :: box z 36 [t.v, q.v, p.v] :: row 3 I1 u.v i.1 :: box A 36 [u.v, r.v, k.v] :: rs) w → f1 = H1 → G9 (.exit 4) (fr 259 f) w := by
        intro f1 f w H4 H5 H6 H7 H8 H9 I0 b ho
        subst ho
        refine H0 _ _ _ (G7 _ _ (sR fun _ I2 => Ym (.bool f1) (eh I0) (yY (ynot e0) (wK I2 ?_))))
        rcases iteS B with ⟨h9, B⟩ | ⟨h9, B⟩
        ·refine condF e0 (nF h9) (wp_skip (h8 _ _ _ (C6 _ _ (wR (Ym (iV E) (eh H9) (yY (yadd e0 rfl) (Ya (iV (wa .i64 E 1)) e0 (wN ?_))))))))
         cases B
         exact C0 _ _ _ rfl ⟨_, _, rfl, rfl, H4, H5, H6, H7, H8, rfl, b⟩
        ·refine condT e0 (nT (bfalse h9)) (sR fun _ I3 => Ya (.bool false) rfl (wK I3 (wp_ret (h8 _ _ _ (p3 _ _ _ rfl ?_)))))
         cases B
         exact h2 _ _ _ _ rfl rfl (o7 _ _ rfl ((b.k2h).facts (allT (allT (allT (allT (allT allI)))))) (h1 _ rfl))
       replace b := (b.k1j).fz
       refine loopQ (fun s a w => ∃ (b9 : Bool) (a5 : Int) (f : FV), (b9, a5) = s ∧ a = fr 259 f ∧ f 0 = iV x ∧ f 11 = j.v ∧ f 18 = (pB z) ∧ f 19 = iV c.2.2.2 ∧ f 20 = (pB A) ∧ f 22 = iV E ∧ f 23 = W.v ∧ f 25 = .bool b9 ∧ f 26 = iV a5 ∧ St w0 (imm I1 j.v D :: imm I1 q.v c.2.1 :: imm I1 p.v c.2.2.1 :: imm I1 r.v i.2.1 :: imm I1 k.v i.2.2.1 :: imm I1 W.v c9 :: ros) (row 3 I1 t.v c.1 :: box z 36 [t.v, q.v, p.v] :: row 3 I1 u.v i.1 :: box A 36 [u.v, r.v, k.v] :: rs) w) H2 ⟨_, _, _, rfl, rfl, F9, G0, G1, G2, G3, G4, G5, rfl, rfl, (b.facts (allC F1 (allC F2 (allC F3 (allC F4 (allC F5 (allC F0 (allT (allT (allT (allT (allT (allT allI)))))))))))))⟩ ?_
       rintro _ _ w Q0 ⟨b9, a5, f, rfl, rfl, c5, d5, d2, d3, b7, p8, p9, q0, e6, b⟩ b1 I4 Q1 I5 I6
       refine seqQ fun Q3 I7 I8 => sR fun _ I9 => Ym (iV a5) (eh e6) (yY (yadd e0 rfl) (yY (yFb FL_36_2 (eh b7)) (yY (lb_ k.v O_22 e0 b R3) (yY (yLen SL_22 e0 b (rdI F4)) (yY (ylss e0 e0) (wK I9 ?_))))))
       refine cIf e0 b1 (fun J0 b1 => ?_) fun J0 b1 => ?_
       ·refine wp_skip (I7 _ _ (sQ fun _ J1 => blockQ fun _ J2 => sQ fun _ J3 => bE b1 fun J4 q5 b1 => bE b1 fun J5 q6 b1 => dR [0, 1, 0, 4, 15, 31, 0, 64, 0, 448, 960, 2047, 0, 4096, 16383, 32767] [15] 1 folM ?_))
        replace b := b.drew
        refine Dn [0, 1, 2, 3, 4, 5, 6, 7, 8, 9, 10, 11, 12, 13, 14] [] [15] (yR rfl (yFb FL_36_2 (eh b7)) (yR rfl (lb_ k.v O_22 e0 b R3) (yR rfl (m_ (iV a5) (eh e6)) (yR rfl (yadd e0 rfl) (yR rfl (yIa SL_22 e0 e0 b (rdI F4) q5) (yR rfl (yI O_3 e0 b (rdI F4) q5) (yR rfl (yFb FL_36_2 (eh b7)) (yR rfl (lb_ k.v O_22 e0 b R3) (yR rfl (m_ (iV a5) (eh e6)) (yR rfl (yIa SL_22 e0 e0 b (rdI F4) q6) (yR rfl (yI O_3 e0 b (rdI F4) q6) (yR rfl (ysub e0 e0) (yR rfl (m_ W.v (eh p9)) ?_)))))))))))))
        refine yR rfl (yLen SL_22 e0 b (rdI F5)) (yR rfl (yeql e0 e0) (Rn QSn ?_))
        refine Lc1 rfl ?_
        refine Ly wn (a_ (.bool (decide ((ws .i64 J4 J5) = (c9.length : Int)))) e0) (Dz [] [] (Rn QSn (J3 _ _ (sQ fun _ J6 => sR fun _ J7 => yY (yFb FL_36_2 (eh b7)) (yY (lb_ k.v O_22 e0 b R3) (Ym (iV a5) (eh e6) (bE b1 fun J8 q7 b1 => yY (yIa SL_22 e0 e0 b (rdI F4) q7) (yY (yI O_3 e0 b (rdI F4) q7) (Ya (iV J8) e0 ?_)))))))))
        refine wK J7 (blockQ fun J9 K0 => bE b1 fun K1 K2 b1 => ?_)
        have K3 : ∀ (d9 : Bool) (f : FV) w, f 0 = iV x → f 11 = j.v → f 18 = (pB z) → f 19 = iV c.2.2.2 → f 20 = (pB A) → f 22 = iV E → f 23 = W.v → f 25 = .bool b9 → f 26 = iV a5 → f 27 = .bool d9 → St w0 (imm I1 j.v D :: imm I1 q.v c.2.1 :: imm I1 p.v c.2.2.1 :: imm I1 r.v i.2.1 :: imm I1 k.v i.2.2.1 :: imm I1 W.v c9 :: ros) (row 3 I1 t.v c.1 :: box z 36 [t.v, q.v, p.v] :: row 3 I1 u.v i.1 :: box A 36 [u.v, r.v, k.v] :: rs) w → d9 = K1 → J9 (.exit 6) (fr 259 f) w := by
         intro d9 f w q8 q9 r0 r1 r2 r3 r4 K4 r5 K5 b ho
         subst ho
         refine K0 _ _ _ (J6 _ _ (wR (Ym (.bool b9) (eh K4) (Ym (.bool b9) e0 ?_))))
         refine joinW 2 (fun f w => f 0 = iV x ∧ f 11 = j.v ∧ f 18 = (pB z) ∧ f 19 = iV c.2.2.2 ∧ f 20 = (pB A) ∧ f 22 = iV E ∧ f 23 = W.v ∧ f 26 = iV a5 ∧ f 255 = .bool (b9 || d9) ∧ St w0 (imm I1 j.v D :: imm I1 q.v c.2.1 :: imm I1 p.v c.2.2.1 :: imm I1 r.v i.2.1 :: imm I1 k.v i.2.2.1 :: imm I1 W.v c9 :: ros) (row 3 I1 t.v c.1 :: box z 36 [t.v, q.v, p.v] :: row 3 I1 u.v i.1 :: box A 36 [u.v, r.v, k.v] :: rs) w) (fun r6 => ?_) ?_
         ·rcases Bool.eq_false_or_eq_true b9 with e1 | e1
          ·exact gN e1 (yY (pt_ (.bool true) e0 e1 rfl) (r6 _ _ ⟨q8, q9, r0, r1, r2, r3, r4, r5, (congrArg Value.bool (orT e1)), b⟩))
          ·exact yG e1 (m_ (.bool d9) (eh K5)) (yY (pf_ (.bool d9) e0 e1 e0) (r6 _ _ ⟨q8, q9, r0, r1, r2, r3, r4, r5, (congrArg Value.bool (orF e1)), b⟩))
         rintro f w ⟨K6, K7, K8, K9, L0, L1, L3, L4, L5, b⟩
         refine Ya (.bool (b9 || d9)) (eh L5) (wN (J2 _ _ _ (J1 _ _ (wR (Ym (iV a5) (eh L4) (yY (yadd e0 rfl) (Ya (iV (wa .i64 a5 1)) e0 (wN ?_))))))))
         cases b1
         exact I5 _ _ _ rfl ⟨_, _, _, rfl, rfl, K6, K7, K8, K9, L0, L1, L3, rfl, rfl, b⟩
        refine loopQ (fun s a w => ∃ (e7 : Bool) (d4 : Int) (f : FV), (e7, d4) = s ∧ a = fr 259 f ∧ f 0 = iV x ∧ f 11 = j.v ∧ f 18 = (pB z) ∧ f 19 = iV c.2.2.2 ∧ f 20 = (pB A) ∧ f 22 = iV E ∧ f 23 = W.v ∧ f 25 = .bool b9 ∧ f 26 = iV a5 ∧ f 27 = .bool e7 ∧ f 28 = iV d4 ∧ St w0 (imm I1 j.v D :: imm I1 q.v c.2.1 :: imm I1 p.v c.2.2.1 :: imm I1 r.v i.2.1 :: imm I1 k.v i.2.2.1 :: imm I1 W.v c9 :: ros) (row 3 I1 t.v c.1 :: box z 36 [t.v, q.v, p.v] :: row 3 I1 u.v i.1 :: box A 36 [u.v, r.v, k.v] :: rs) w) K2 ⟨_, _, _, rfl, rfl, c5, d5, d2, d3, b7, p8, p9, q0, e6, rfl, rfl, b⟩ ?_
        rintro _ _ w Q4 ⟨e7, d4, f, rfl, rfl, i0, f2, i1, i2, e8, i3, f3, i4, f4, r7, f5, b⟩ d0 L6 Q5 L7 L8
        refine seqQ fun Q6 L9 M0 => sR fun _ M1 => Ym (iV d4) (eh f5) (yY (yFb FL_36_2 (eh e8)) (yY (lb_ k.v O_22 e0 b R3) (Ym (iV a5) (eh f4) (yY (yadd e0 rfl) (bE d0 fun Q7 r8 d0 => yY (yIa SL_22 e0 e0 b (rdI F4) r8) (yY (yI O_3 e0 b (rdI F4) r8) (yY (ylss e0 e0) (wK M1 ?_))))))))
        refine cIf e0 d0 (fun M2 d0 => ?_) fun M2 d0 => ?_
        ·refine wp_skip (L9 _ _ (sQ fun _ M3 => blockQ fun _ M4 => wR (Ym (.bool e7) (eh r7) (Ym (.bool e7) e0 (bE d0 fun s0 c0 d0 => ?_)))))
         refine joinW 11 (fun f w => f 0 = iV x ∧ f 11 = j.v ∧ f 18 = (pB z) ∧ f 19 = iV c.2.2.2 ∧ f 20 = (pB A) ∧ f 22 = iV E ∧ f 23 = W.v ∧ f 25 = .bool b9 ∧ f 26 = iV a5 ∧ f 28 = iV d4 ∧ f 251 = .bool s0 ∧ St w0 (imm I1 j.v D :: imm I1 q.v c.2.1 :: imm I1 p.v c.2.2.1 :: imm I1 r.v i.2.1 :: imm I1 k.v i.2.2.1 :: imm I1 W.v c9 :: ros) (row 3 I1 t.v c.1 :: box z 36 [t.v, q.v, p.v] :: row 3 I1 u.v i.1 :: box A 36 [u.v, r.v, k.v] :: rs) w) (fun s1 => ?_) ?_
         ·rcases iteS c0 with ⟨C, c0⟩ | ⟨C, c0⟩
          ·refine yG C (m_ W.v (eh f3)) (yG C (m_ j.v (eh f2)) (yG C (yFb FL_36_1 (eh e8)) (yG C (lb_ r.v O_22 e0 b R3) (yG C (m_ (iV d4) (eh f5)) (bE c0 fun Q8 s2 c0 => yG C (yIa SL_22 e0 e0 b (rdI F3) s2) (yG C (yI O_3 e0 b (rdI F3) s2) (bE c0 fun Q9 s3 c0 => yG C (yIa SL_22 e0 e0 b (rdI F0) s3) (yG C (yI O_3 e0 b (rdI F0) s3) (bE c0 fun M5 M6 c0 => Yc (wG C) rfl (yCall FN_31 (a2 e0 e0)) (sparsekit_In_ok M6 F5 b) ?_)))))))))
           rintro _ w ⟨rfl, b⟩
           refine ⟨_, rfl, ?_⟩
           refine yY (pt_ (.bool M5) e0 C e0) ?_
           cases c0
           exact s1 _ _ ⟨i0, f2, i1, i2, e8, i3, f3, i4, f4, f5, rfl, b⟩
          ·refine gN (bfalse C) (gN (bfalse C) (gN (bfalse C) (gN (bfalse C) (gN (bfalse C) (gN (bfalse C) (gN (bfalse C) (gN (bfalse C) (gN (bfalse C) (gN (bfalse C) (yY (pf_ (.bool false) e0 (bfalse C) rfl) ?_))))))))))
           cases c0
           exact s1 _ _ ⟨i0, f2, i1, i2, e8, i3, f3, i4, f4, f5, rfl, b⟩
         rintro f w ⟨M7, M8, M9, N0, N1, N2, N3, N4, N5, N6, N7, b⟩
         refine Ya (.bool s0) (eh N7) (wN (M4 _ _ _ (M3 _ _ (wR (Ym (iV d4) (eh N6) (yY (yadd e0 rfl) (Ya (iV (wa .i64 d4 1)) e0 (wN ?_))))))))
         cases d0
         exact L7 _ _ _ rfl ⟨_, _, _, rfl, rfl, M7, M8, M9, N0, N1, N2, N3, N4, N5, rfl, rfl, b⟩
        ·refine wp_exit (M0 _ _ _ rfl ?_)
         cases d0
         exact L8 _ _ _ _ rfl rfl (K3 _ _ _ i0 f2 i1 i2 e8 i3 f3 i4 f4 r7 b (L6 _ rfl))
       ·refine wp_exit (I8 _ _ _ rfl ?_)
        cases b1
        exact I6 _ _ _ _ rfl rfl (H3 _ _ _ c5 d5 d2 d3 b7 p8 q0 (b.facts (allC F0 (allC F1 (allC F2 (allC F3 (allC F4 (allT (allT (allT (allT (allT (allT allI)))))))))))) (I4 _ rfl))
      replace b := b.rowNh 3 I1
      refine loopQ (fun s a w => ∃ (i5 : LI) (e2 : Int) (f : FV) (f6 : Hdr), (i5, e2) = s ∧ a = fr 259 f ∧ f 0 = iV x ∧ f 11 = j.v ∧ f 18 = (pB z) ∧ f 19 = iV c.2.2.2 ∧ f 20 = (pB A) ∧ f 22 = iV E ∧ f 23 = f6.v ∧ f 24 = iV e2 ∧ St w0 (imm I1 j.v D :: imm I1 q.v c.2.1 :: imm I1 p.v c.2.2.1 :: imm I1 r.v i.2.1 :: imm I1 k.v i.2.2.1 :: ros) (row 3 I1 t.v c.1 :: box z 36 [t.v, q.v, p.v] :: row 3 I1 u.v i.1 :: box A 36 [u.v, r.v, k.v] :: row 3 I1 f6.v i5 :: rs) w) E9 ⟨_, _, _, _, rfl, rfl, D5, D6, p5, D7, D8, p6, rfl, rfl, (b.k13)⟩ ?_
      rintro _ _ w R9 ⟨i5, e2, f, f6, rfl, rfl, s4, s5, f7, s6, s7, i6, s8, i7, b⟩ c1 N8 S0 N9 O0
      refine seqQ fun S3 O1 O2 => sR fun _ O3 => Ym (iV e2) (eh i7) (yY (yFb FL_36_2 (eh f7)) (yY (lb_ p.v O_22 e0 b R1) (Ym (iV E) (eh i6) (yY (yadd e0 rfl) (bE c1 fun S4 s9 c1 => yY (yIa SL_22 e0 e0 b (rdI F2) s9) (yY (yI O_3 e0 b (rdI F2) s9) (yY (ylss e0 e0) (wK O3 ?_))))))))
      refine cIf e0 c1 (fun O4 c1 => ?_) fun O4 c1 => ?_
      ·refine wp_skip (O1 _ _ (sQ fun _ O5 => blockQ fun _ O6 => wR (Ym f6.v (eh s8) (yY (yFb FL_36_1 (eh f7)) (yY (lb_ q.v O_22 e0 b R1) (Ym (iV e2) (eh i7) (bE c1 fun i8 t0 c1 => yY (yIa SL_22 e0 e0 b (rdI F1) t0) (yY (yI O_3 e0 b (rdI F1) t0) (yH (rLt (n := 1) (l := [i8]) b SL_22 [iV i8] (bp1 e0) rfl rfl (mks1 (cs := [iV i8]) rfl mkI mks0)) fun S5 w b => ?_)))))))))
       refine bE c1 fun S6 O7 c1 => yH (rAp (b.k1k) SL_22 e0 e0 rO1 O7) fun O8 w b => Ya O8.v e0 (wN (O6 _ _ _ (O5 _ _ (wR (Ym (iV e2) (eh i7) (yY (yadd e0 rfl) (Ya (iV (wa .i64 e2 1)) e0 (wN ?_))))))))
       cases c1
       exact N9 _ _ _ rfl ⟨_, _, _, _, rfl, rfl, s4, s5, f7, s6, s7, i6, rfl, rfl, (b.k38)⟩
      ·refine wp_exit (O2 _ _ _ rfl ?_)
       cases c1
       exact O0 _ _ _ _ rfl rfl (F8 _ _ _ _ s4 s5 f7 s6 s7 i6 s8 b (N8 _ rfl))
    ·refine wp_exit (C2 _ _ _ rfl ?_)
     cases B
     exact h2 _ _ _ _ rfl rfl (B5 _ _ ((b.k2h).facts (allT (allT (allT (allT (allT allI)))))) (h1 _ rfl))
end Go.Proofs.YtgnfkbaghjmgiaaGreatDoor
