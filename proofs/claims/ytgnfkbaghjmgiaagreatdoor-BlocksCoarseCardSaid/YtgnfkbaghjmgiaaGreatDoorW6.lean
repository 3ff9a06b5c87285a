/- Walks: each function computes its model, printed. -/
import Derived.Test.YtgnfkbaghjmgiaaGreatDoorW5
namespace Go.Proofs.YtgnfkbaghjmgiaaGreatDoor
open Go Sx M
set_option maxRecDepth 100000
set_option maxHeartbeats 40000000
set_option linter.unusedVariables false
attribute [local irreducible] wpList Code.wp Calls DR QR QS LA LS St
variable {w0 : World} {ros : List Fact} {rs : List Res} {w : World}
theorem sparsemake_Value_ok {c out : Int} (a : sparsemake_Value c = some out) (h : globF ∈ ros) (b : St w0 ros rs w) :
  Calls Tryz.prog 33 #[iV c] w (fun e w => e = .returned (.int .u64 out) ∧ St w0 ros rs w) := by
 refine enterQ Tryz.func33 rfl Tryz.ntmps33 rfl fun Q j => sR fun _ k => Ya (.int .u64 0) rfl (wK k (sR fun _ l => Ym (iV c) e0 (bE a fun d m a => yC (yCall FN_10 (a2 e0 rfl)) (sparsekit_Place_ok m b) ?_)))
 rintro _ w ⟨rfl, b⟩
 refine ⟨_, rfl, ?_⟩
 refine yY (ysub e0 rfl) (Ya (iV (ws .i64 d 8)) e0 (wK l (sR fun _ n => Ya (iV 0) rfl (wK n (sQ fun o p => sR fun _ q => Ym (iV c) e0 (yY (ycv (k' := .u64) (by kernel_rfl) (by kernel_rfl) e0) ?_))))))
 refine yY (yquoc e0 rfl (by decide)) (yY (ycv (k' := .i64) (by kernel_rfl) (by kernel_rfl) e0) (Ya (iV (wc .i64 (wqc .u64 (wc .u64 c) 17))) e0 (wK q (sR fun _ r => Ym (iV (wc .i64 (wqc .u64 (wc .u64 c) 17))) e0 (yY (yremc e0 rfl (by decide)) (yY (yeql e0 rfl) (wK r ?_)))))))
 have i : ∀ (g : Int) (f : FV) w, f 3 = iV (ws .i64 d 8) → f 4 = iV g → St w0 ros rs w → sparsemake_Value_j1 d g = some out → o .normal (fr 25 f) w := by
  intro g f w s t b a
  refine p _ _ (sR fun _ u => Ym (iV (ws .i64 d 8)) (eh s) (bE a fun B v a => yC (yCall FN_60 (a1 e0)) (sparseref02_FromInt_ok v h b) ?_))
  rintro _ w ⟨C, rfl, b⟩
  refine ⟨_, rfl, ?_⟩
  refine Ym (iV g) (eh t) (bE a fun D x a => yC (yCall FN_59 (a2 e0 e0)) (sparseref02_Scale_ok x F0 (mtF h) b) ?_)
  rintro _ w ⟨E, rfl, b⟩
  refine ⟨_, rfl, ?_⟩
  refine bE a fun y z a => yC (yCall FN_58 (a2 e0 rfl)) (sparseref03_Round_ok z F0 (F_2 h) b) ?_
  rintro _ w ⟨rfl, b⟩
  refine ⟨_, rfl, ?_⟩
  refine Ya (.int .u64 y) e0 (wK u (wp_ret ?_))
  cases a
  exact j _ _ _ (fin1r Tryz.results33 ⟨rfl, rfl⟩ ⟨rfl, (b.facts (allT (allT allI)))⟩)
 refine cIf e0 a (fun A a => ?_) fun A a => ?_
 ·exact wR (Ym (iV (wc .i64 (wqc .u64 (wc .u64 c) 17))) e0 (yY (yquoc e0 rfl (by decide)) (yY (yremc e0 rfl (by decide)) (yY (ysub e0 rfl) (Ya (iV (ws .i64 (wrc (wqc .i64 (wc .i64 (wqc .u64 (wc .u64 c) 17)) 3) 13) 6)) e0 (wN (i _ _ _ rfl rfl b a)))))))
 ·exact wp_skip (i _ _ _ rfl rfl b a)
theorem sparseref09_Pack_ok {c d : Int} {c0 : List (Int × Int × Int)} {m : Hdr} {out : Int × Int × LI × LI × LI} (t : sparseref09_Pack c d c0 = some out) (A : imm rTi64i64u64 m.v c0 ∈ ros) (b : St w0 ros rs w) :
  Calls Tryz.prog 34 #[iV c, iV d, m.v] w (fun e w => ∃ (c1 c2 c3 : Hdr), e = .returned (.agg #[iV out.1, iV out.2.1, c1.v, c2.v, c3.v]) ∧ St w0 ros (row 3 I1 c1.v out.2.2.1 :: row 3 I1 c2.v out.2.2.2.1 :: row 47 (rI .u64) c3.v out.2.2.2.2 :: rs) w) := by
 refine enterQ Tryz.func34 rfl Tryz.ntmps34 rfl fun Q d9 => sR fun _ e1 => yBb (rAl b ZT_27) fun i w b => wK e1 (sR fun _ e2 => Ym (iV c) e0 (Ym (iV d) e0 (yH (rLt (n := 1) (l := [0]) b SL_22 [iV 0] (bp1 rfl) rfl rfl (mks1 (cs := [iV 0]) rfl mkI mks0)) fun y w b => yY (ybuild (us := [iV c, iV d, y.v, hnil.v, hnil.v]) [(0, iV c), (1, iV d), (2, y.v)] SO_27 (bp3 e0 e0 e0) rfl) ?_)))
 refine yBb (rAl b ZT_27) fun j w b => yT (r_stbn (vals' := [iV c, iV d, y.v, hnil.v, hnil.v]) (us := [iV c, iV d, y.v, hnil.v, hnil.v]) b ST_27 e0 e0 rfl rfl (one_of rfl) rfl) fun w b => wK e2 (sR fun _ e3 => Ym (iV c) e0 (Ym (iV d) e0 (yY (ymul e0 e0) (bE t fun o0 e4 t => yH (rMk b SL_22 e0 e4) fun h w b => ?_))))
 refine Ya h.v e0 (wK e3 (sQ fun _ e5 => sR fun _ e6 => Ya (iV 0) rfl (wK e6 (blockQ fun e7 e8 => bE t fun e9 f0 t => ?_))))
 have f1 : ∀ (B : LI) (f : FV) w, f 0 = iV c → f 1 = iV d → f 2 = m.v → f 6 = (pB i) → f 7 = (pB j) → f 8 = h.v → St w0 ros (box i 27 [iV 0, iV 0, hnil.v, hnil.v, hnil.v] :: row 3 I1 y.v [0] :: box j 27 [iV c, iV d, y.v, hnil.v, hnil.v] :: row 3 I1 h.v B :: rs) w → B = e9 → e7 (.exit 0) (fr 90 f) w := by
  intro B f w f2 f3 f4 f5 f6 f7 b ho
  subst ho
  refine e8 _ _ _ (e5 _ _ (sQ fun _ f8 => sR fun _ f9 => Ya (iV 0) rfl (wK f9 (blockQ fun g0 g1 => bE t fun g2 g3 t => ?_))))
  have g4 : ∀ (X Z a0 : LI) (C D E : Hdr) (f : FV) w, f 6 = (pB i) → f 7 = (pB j) → St w0 ros (box i 27 [iV 0, iV 0, hnil.v, hnil.v, hnil.v] :: row 3 I1 C.v X :: row 3 I1 D.v Z :: row 47 (rI .u64) E.v a0 :: box j 27 [iV c, iV d, C.v, D.v, E.v] :: rs) w → (X, Z, a0) = g2 → g0 (.exit 2) (fr 90 f) w := by
   intro X Z a0 C D E f w c4 g5 b ho
   subst ho
   refine g1 _ _ _ (f8 _ _ (sR fun _ g6 => yY (lbs_ [iV c, iV d, C.v, D.v, E.v] ST_27 (eh g5) b R4) (yT (r_stbn (vals' := [iV c, iV d, C.v, D.v, E.v]) (us := [iV c, iV d, C.v, D.v, E.v]) b ST_27 (eh c4) e0 rfl rfl (one_of rfl) rfl) fun w b => wK g6 (wp_ret ?_))))
   cases t
   exact d9 _ _ _ (fin1r Tryz.results34 (rcs2 rfl c4 b R0 ST_27 rfl) ⟨_, _, _, rfl, (b.pk 5 [1, 1, 1] rfl)⟩)
  replace b := (b.rowNh 3 I1).rowNh 47 (rI .u64)
  refine loopQ (fun s a w => ∃ (F a1 a2 : LI) (q : Int) (f : FV) (o a3 a4 : Hdr), (F, a1, a2, q) = s ∧ a = fr 90 f ∧ f 0 = iV c ∧ f 1 = iV d ∧ f 2 = m.v ∧ f 6 = (pB i) ∧ f 7 = (pB j) ∧ f 8 = h.v ∧ f 10 = iV q ∧ St w0 ros (box i 27 [iV 0, iV 0, hnil.v, hnil.v, hnil.v] :: row 3 I1 o.v F :: row 3 I1 a3.v a1 :: row 47 (rI .u64) a4.v a2 :: box j 27 [iV c, iV d, o.v, a3.v, a4.v] :: row 3 I1 h.v B :: rs) w) g3 ⟨_, _, _, _, _, _, _, _, rfl, rfl, f2, f3, f4, f5, f6, f7, rfl, (b.pk 6 [2, 2, 1, 0, 0, 0] rfl)⟩ ?_
  rintro _ _ w o2 ⟨F, a1, a2, q, f, o, a3, a4, rfl, rfl, g7, c5, g8, c6, c7, g9, c8, b⟩ x h0 o3 h1 h2
  refine seqQ fun o4 h3 h5 => sR fun _ h7 => Ym (iV q) (eh c8) (Ym (iV d) (eh c5) (yY (ylss e0 e0) (wK h7 ?_)))
  refine cIf e0 x (fun h9 x => ?_) fun h9 x => ?_
  ·refine wp_skip (h3 _ _ (sQ fun _ i0 => blockQ fun _ i1 => sQ fun _ i2 => sR fun _ i3 => Ya (iV 0) rfl (wK i3 (blockQ fun i4 i5 => bE x fun i6 i7 x => ?_))))
   have i8 : ∀ (G a5 : LI) (I O : Hdr) (f : FV) w, f 0 = iV c → f 1 = iV d → f 2 = m.v → f 6 = (pB i) → f 7 = (pB j) → f 8 = h.v → f 10 = iV q → St w0 ros (box i 27 [iV 0, iV 0, hnil.v, hnil.v, hnil.v] :: row 3 I1 o.v F :: row 3 I1 I.v G :: row 47 (rI .u64) O.v a5 :: box j 27 [iV c, iV d, o.v, I.v, O.v] :: row 3 I1 h.v B :: rs) w → (G, a5) = i6 → i4 (.exit 4) (fr 90 f) w := by
    intro G a5 I O f w i9 j0 j1 j2 R j3 j4 b ho
    subst ho
    refine i5 _ _ _ (i2 _ _ (wR (yY (yFb FL_27_2 (eh R)) (yY (lb_ o.v O_22 e0 b R4) (yY (yFb FL_27_3 (eh R)) (yY (lb_ I.v O_22 e0 b R4) (yY (yLen SL_22 e0 b rO2) (yH (rLt (n := 1) (l := [(G.length : Int)]) b SL_22 [iV (G.length : Int)] (bp1 e0) rfl rfl (mks1 (cs := [iV (G.length : Int)]) rfl mkI mks0)) fun o5 w b => bE x fun o6 j5 x => yH (rAp (b.pk 3 [2, 0, 0] rfl) SL_22 e0 e0 rO1 j5) fun j6 w b => yY (yFb FL_27_2 (eh R)) ?_))))))))
    refine yT (r_stb1 (vals' := [iV c, iV d, j6.v, I.v, O.v]) (b.pk 6 [5, 0, 0, 0, 0, 0] rfl) O_22 e0 e0 rfl rfl rfl rfl) fun w b => wN (i1 _ _ _ (i0 _ _ (wR (Ym (iV q) (eh j4) (yY (yadd e0 rfl) (Ya (iV (wa .i64 q 1)) e0 (wN ?_)))))))
    cases x
    exact h1 _ _ _ rfl ⟨_, _, _, _, _, _, _, _, rfl, rfl, i9, j0, j1, j2, R, j3, rfl, (b.pk 7 [3, 1, 2, 2, 0, 1] rfl)⟩
   refine loopQ (fun s a w => ∃ (a6 a7 : LI) (k : Int) (f : FV) (S H : Hdr), (a6, a7, k) = s ∧ a = fr 90 f ∧ f 0 = iV c ∧ f 1 = iV d ∧ f 2 = m.v ∧ f 6 = (pB i) ∧ f 7 = (pB j) ∧ f 8 = h.v ∧ f 10 = iV q ∧ f 11 = iV k ∧ St w0 ros (box i 27 [iV 0, iV 0, hnil.v, hnil.v, hnil.v] :: row 3 I1 o.v F :: row 3 I1 S.v a6 :: row 47 (rI .u64) H.v a7 :: box j 27 [iV c, iV d, o.v, S.v, H.v] :: row 3 I1 h.v B :: rs) w) i7 ⟨_, _, _, _, _, _, rfl, rfl, g7, c5, g8, c6, c7, g9, c8, rfl, b⟩ ?_
   rintro _ _ w j7 ⟨a6, a7, k, f, S, H, rfl, rfl, J, a8, T, a9, z, U, V, K, b⟩ g j8 o7 j9 k0
   refine seqQ fun o8 k6 k7 => sR fun _ k8 => Ym (iV k) (eh K) (Ym (iV c) (eh J) (yY (ylss e0 e0) (wK k8 ?_)))
   refine cIf e0 g (fun k9 g => ?_) fun k9 g => ?_
   ·refine wp_skip (k6 _ _ (sQ fun _ l0 => blockQ fun l1 l2 => sR fun _ l3 => Ym h.v (eh U) (Ym (iV q) (eh V) (Ym (iV c) (eh J) (yY (ymul e0 e0) (Ym (iV k) (eh K) (yY (yadd e0 e0) (bE g fun b0 c9 g => yY (yIa SL_22 e0 e0 b rO5 c9) ?_))))))))
    refine yY (yI O_3 e0 b rO5 c9) (Ya (iV b0) e0 (wK l3 (sR fun _ l4 => Ym (iV b0) e0 (yY (ygtr e0 rfl) (wK l4 ?_)))))
    have d0 : ∀ (b1 b2 : LI) (b3 b4 : Hdr) (f : FV) w, f 0 = iV c → f 1 = iV d → f 2 = m.v → f 6 = (pB i) → f 7 = (pB j) → f 8 = h.v → f 10 = iV q → f 11 = iV k → St w0 ros (box i 27 [iV 0, iV 0, hnil.v, hnil.v, hnil.v] :: row 3 I1 o.v F :: row 3 I1 b3.v b1 :: row 47 (rI .u64) b4.v b2 :: box j 27 [iV c, iV d, o.v, b3.v, b4.v] :: row 3 I1 h.v B :: rs) w → sparseref09_Pack_j14 k b1 b2 = some j7 → l1 .normal (fr 90 f) w := by
     intro b1 b2 b3 b4 f w l5 l6 l7 l8 l9 m0 m1 m2 b t
     refine l2 _ _ _ (l0 _ _ (wR (Ym (iV k) (eh m2) (yY (yadd e0 rfl) (Ya (iV (wa .i64 k 1)) e0 (wN ?_))))))
     cases t
     exact j9 _ _ _ rfl ⟨_, _, _, _, _, _, rfl, rfl, l5, l6, l7, l8, l9, m0, m1, rfl, b⟩
    refine cIf e0 g (fun m3 g => ?_) fun m3 g => ?_
    ·refine sR fun _ m4 => yY (yFb FL_27_3 (eh z)) (yY (lb_ S.v O_22 e0 b R4) (Ym (iV k) (eh K) (yH (rLt (n := 1) (l := [k]) b SL_22 [iV k] (bp1 e0) rfl rfl (mks1 (cs := [iV k]) rfl mkI mks0)) fun o9 w b => bE g fun p0 m5 g => yH (rAp (b.pk 4 [3, 0, 0, 0] rfl) SL_22 e0 e0 rO1 m5) fun d1 w b => yY (yFb FL_27_3 (eh z)) (yT (r_stb1 (vals' := [iV c, iV d, o.v, d1.v, H.v]) (b.pk 6 [5, 0, 0, 0, 0, 0] rfl) O_22 e0 e0 rfl rfl rfl rfl) fun w b => wN ?_))))
     refine m4 _ _ (bE g fun W d2 g => bE g fun p1 m6 g => dR [0, 1, 0, 0, 8, 28, 60, 124, 252, 511, 1023, 2047] [8, 9, 11] 3 folM ?_)
     replace b := b.drew
     refine Dn [0, 1, 2, 3, 4, 5, 6, 7] [] [8] (yR rfl (yFb FL_27_4 (eh z)) (yR rfl (lb_ H.v O_25 e0 b R0) (yR rfl (m_ m.v (eh T)) (yR rfl (m_ (iV b0) e0) (yR rfl (ysub e0 rfl) (yR rfl (yIa SL_44 e0 e0 b (rdI A) d2) (yR rfl (yFe FL_49_2 e0) (yR rfl (yFf (u := .int .u64 W.2.2) O_47 e0 b (rdI A) d2 rfl) (Rn QSn ?_)))))))))
     refine Lc1 rfl ?_
     refine LH wn (rLt (n := 1) (l := [W.2.2]) b SL_25 [.int .u64 W.2.2] (bp1 e0) rfl rfl (mks1 (cs := [.int .u64 W.2.2]) rfl mkI mks0)) fun p2 w b => Dn [] [0, 1] [9] (Rn (yS rfl (yFb FL_27_4 (eh z)) (yS rfl (lb_ H.v O_25 e0 b R1) QSn)) ?_)
     refine Lc1 rfl ?_
     replace b := b.pk 7 [6, 0, 0, 0, 0, 0, 0] rfl
     refine LH wn (rAp b SL_25 e0 e0 rO1 m6) fun m7 w b => Dn [10] [] [11] (yR rfl (yFb FL_27_4 (eh z)) (Rn QSn ?_))
     refine Lc1 rfl ?_
     replace b := b.pk 3 [2, 0, 0] rfl
     exact LT wn (r_stb1 (vals' := [iV c, iV d, o.v, d1.v, m7.v]) b O_25 e0 e0 rfl rfl rfl rfl) fun w b => Dz [] [] (Rn QSn (d0 _ _ _ _ _ _ J a8 T a9 z U V K (b.pk 8 [5, 5, 3, 1, 0, 2] rfl) g))
    ·exact wp_skip (d0 _ _ _ _ _ _ J a8 T a9 z U V K b g)
   ·refine wp_exit (k7 _ _ _ rfl ?_)
    cases g
    exact k0 _ _ _ _ rfl rfl (i8 _ _ _ _ _ _ J a8 T a9 z U V b (j8 _ rfl))
  ·refine wp_exit (h5 _ _ _ rfl ?_)
   cases x
   exact h2 _ _ _ _ rfl rfl (g4 _ _ _ _ _ _ _ _ c6 c7 (b.pk 6 [0, 0, 0, 0, 0] rfl) (h0 _ rfl))
 refine loopQ (fun s a w => ∃ (b6 : LI) (r : Int) (f : FV), (b6, r) = s ∧ a = fr 90 f ∧ f 0 = iV c ∧ f 1 = iV d ∧ f 2 = m.v ∧ f 6 = (pB i) ∧ f 7 = (pB j) ∧ f 8 = h.v ∧ f 9 = iV r ∧ St w0 ros (box i 27 [iV 0, iV 0, hnil.v, hnil.v, hnil.v] :: row 3 I1 y.v [0] :: box j 27 [iV c, iV d, y.v, hnil.v, hnil.v] :: row 3 I1 h.v b6 :: rs) w) f0 ⟨_, _, _, rfl, rfl, rfl, rfl, rfl, rfl, rfl, rfl, rfl, (b.pk 4 [3, 2, 1, 0] rfl)⟩ ?_
 rintro _ _ w p3 ⟨b6, r, f, rfl, rfl, b8, d3, L, d4, d5, b9, N, b⟩ p m8 p4 m9 n0
 refine seqQ fun p5 n2 n3 => sR fun _ n4 => Ym (iV r) (eh N) (Ym m.v (eh L) (yY (yLen SL_44 e0 b (rdI A)) (yY (ylss e0 e0) (wK n4 ?_))))
 refine cIf e0 p (fun n5 p => ?_) fun n5 p => ?_
 ·refine wp_skip (n2 _ _ (sQ fun _ n6 => blockQ fun _ n7 => bE p fun n8 d6 p => bE p fun n9 d7 p => bE p fun p6 d8 p => dR [0, 0, 0, 6, 14, 30, 0, 126, 0, 0, 768, 1792, 3840, 8190, 0, 16384, 65535, 131071] [17] 1 folM ?_))
  replace b := b.drew
  refine Dn [0, 1, 2, 3, 4, 5, 6, 7, 8, 9, 10, 11, 12, 13, 14, 15, 16] [] [17] (yR rfl (m_ h.v (eh b9)) (yR rfl (m_ m.v (eh L)) (yR rfl (m_ (iV r) (eh N)) (yR rfl (yIa SL_44 e0 e0 b (rdI A) d6) (yR rfl (yFe FL_49_1 e0) (yR rfl (yFf (u := iV n8.2.1) O_3 e0 b (rdI A) d6 rfl) (yR rfl (m_ (iV c) (eh b8)) (yR rfl (ymul e0 e0) (yR rfl (m_ m.v (eh L)) (yR rfl (m_ (iV r) (eh N)) (yR rfl (yIa SL_44 e0 e0 b (rdI A) d7) (yR rfl (yFe FL_49_0 e0) (yR rfl (yFf (u := iV n9.1) O_3 e0 b (rdI A) d7 rfl) ?_)))))))))))))
  refine yR rfl (yadd e0 e0) (yR rfl (m_ (iV r) (eh N)) (yR rfl (yadd e0 rfl) (yR rfl (yIs SL_22 e0 e0 b rO3 d8) (Rn QSn ?_))))
  refine Lc1 rfl ?_
  replace b := b.pk 4 [3, 0, 0, 0] rfl
  refine LT wn (r_sti (cs := [iV (wa .i64 r 1)]) b O_3 rfl e0 e0 rfl mkI d8) fun w b => Dz [] [] (Rn QSn (n7 _ _ _ (n6 _ _ (wR (Ym (iV r) (eh N) (yY (yadd e0 rfl) (Ya (iV (wa .i64 r 1)) e0 (wN ?_))))))))
  cases p
  exact m9 _ _ _ rfl ⟨_, _, _, rfl, rfl, b8, d3, L, d4, d5, b9, rfl, (b.pk 4 [1, 1, 1, 0] rfl)⟩
 ·refine wp_exit (n3 _ _ _ rfl ?_)
  cases p
  exact n0 _ _ _ _ rfl rfl (f1 _ _ _ b8 d3 L d4 d5 b9 b (m8 _ rfl))
theorem sparsemake_Matrix_ok {g i : Int} {p : LI} {j : Hdr} {out : Int × Int × LI × LI × LI} (y : sparsemake_Matrix g i p = some out) (h : imm I1 j.v p ∈ ros) (b3 : globF ∈ ros) (b : St w0 ros rs w) :
  Calls Tryz.prog 11 #[iV g, iV i, j.v] w (fun e w => ∃ (O R S : Hdr), e = .returned (.agg #[iV out.1, iV out.2.1, O.v, R.v, S.v]) ∧ St w0 ros (row 3 I1 O.v out.2.2.1 :: row 3 I1 R.v out.2.2.2.1 :: row 47 (rI .u64) S.v out.2.2.2.2 :: rs) w) := by
 refine enterQ Tryz.func11 rfl Tryz.ntmps11 rfl fun Q b4 => sR fun _ b6 => yBb (rAl b ZT_27) fun q w b => wK b6 (sR fun _ b7 => Ya hnil.v rfl (wK b7 (sQ fun _ b8 => sQ fun _ b9 => ?_)))
 refine wR (Ya (iV 0) rfl (wK b9 (blockQ fun c0 c1 => bE y fun c2 c3 y => ?_)))
 have c4 : ∀ (H : List (Int × Int × Int)) (D : Hdr) (f : FV) w, f 0 = iV g → f 1 = iV i → f 6 = (pB q) → f 7 = D.v → St w0 ros (box q 27 [iV 0, iV 0, hnil.v, hnil.v, hnil.v] :: row 49 rTi64i64u64 D.v H :: rs) w → H = c2 → c0 (.exit 0) (fr 51 f) w := by
  intro H D f w c5 c6 T c7 b ho
  subst ho
  refine c1 _ _ _ (b8 _ _ (sR fun _ c8 => Ym (iV g) (eh c5) (Ym (iV i) (eh c6) (Ym D.v (eh c7) (bE y fun E c9 y => ?_)))))
  replace b := (b.pk 2 [1, 0] rfl).fz
  refine yC (yCall FN_34 (a3 e0 e0 e0)) (sparseref09_Pack_ok c9 F0 b) ?_
  rintro _ w ⟨U, V, W, rfl, b⟩
  refine ⟨_, rfl, ?_⟩
  refine yT (r_stbn (vals' := [iV E.1, iV E.2.1, U.v, V.v, W.v]) (us := [iV E.1, iV E.2.1, U.v, V.v, W.v]) (b.pk 4 [3, 0, 0, 0] rfl) ST_27 (eh T) e0 rfl rfl (one_of rfl) rfl) fun w b => wK c8 (wp_ret ?_)
  cases y
  exact b4 _ _ _ (fin1r Tryz.results11 (rcs2 rfl T b R0 ST_27 rfl) ⟨_, _, _, rfl, ((b.pk 4 [1, 1, 1] rfl).facts (allT allI))⟩)
 replace b := b.rowNh 49 rTi64i64u64
 refine loopQ (fun s a w => ∃ (z : List (Int × Int × Int)) (c : Int) (f : FV) (k : Hdr), (z, c) = s ∧ a = fr 51 f ∧ f 0 = iV g ∧ f 1 = iV i ∧ f 2 = j.v ∧ f 6 = (pB q) ∧ f 7 = k.v ∧ f 8 = iV c ∧ St w0 ros (box q 27 [iV 0, iV 0, hnil.v, hnil.v, hnil.v] :: row 49 rTi64i64u64 k.v z :: rs) w) c3 ⟨_, _, _, _, rfl, rfl, rfl, rfl, rfl, rfl, rfl, rfl, (b.pk 2 [1, 0] rfl)⟩ ?_
 rintro _ _ w e7 ⟨z, c, f, k, rfl, rfl, I, X, J, Z, a0, K, b⟩ d d0 e8 d1 d2
 refine seqQ fun e9 d3 d4 => sR fun _ d5 => Ym (iV c) (eh K) (yY (yadd e0 rfl) (Ym j.v (eh J) (yY (yLen SL_22 e0 b (rdI h)) (yY (ylss e0 e0) (Ym (.bool (decide ((wa .i64 c 2) < (p.length : Int)))) e0 ?_)))))
 refine joinW 3 (fun f w => f 0 = iV g ∧ f 1 = iV i ∧ f 2 = j.v ∧ f 6 = (pB q) ∧ f 7 = k.v ∧ f 8 = iV c ∧ f 17 = .bool ((decide ((wa .i64 c 2) < (p.length : Int))) && (decide ((0 : Int) < g))) ∧ St w0 ros (box q 27 [iV 0, iV 0, hnil.v, hnil.v, hnil.v] :: row 49 rTi64i64u64 k.v z :: rs) w) (fun a4 => ?_) ?_
 ·rcases Bool.eq_false_or_eq_true (decide ((wa .i64 c 2) < (p.length : Int))) with m | m
  ·exact yG m (m_ (iV g) (eh I)) (yG m (ygtr e0 rfl) (yY (pt_ (.bool (decide ((0 : Int) < g))) e0 m e0) (a4 _ _ ⟨I, X, J, Z, a0, K, (congrArg Value.bool (andT m)), b⟩)))
  ·exact gN m (gN m (yY (pf_ (.bool false) e0 m rfl) (a4 _ _ ⟨I, X, J, Z, a0, K, (congrArg Value.bool (andF m)), b⟩)))
 rintro f w ⟨a5, L, a6, a7, a8, a9, d6, b⟩
 refine Ym (.bool ((decide ((wa .i64 c 2) < (p.length : Int))) && (decide ((0 : Int) < g)))) (eh d6) ?_
 refine joinW 3 (fun f w => f 0 = iV g ∧ f 1 = iV i ∧ f 2 = j.v ∧ f 6 = (pB q) ∧ f 7 = k.v ∧ f 8 = iV c ∧ f 21 = .bool (((decide ((wa .i64 c 2) < (p.length : Int))) && (decide ((0 : Int) < g))) && (decide ((0 : Int) < i))) ∧ St w0 ros (box q 27 [iV 0, iV 0, hnil.v, hnil.v, hnil.v] :: row 49 rTi64i64u64 k.v z :: rs) w) (fun b0 => ?_) ?_
 ·rcases Bool.eq_false_or_eq_true ((decide ((wa .i64 c 2) < (p.length : Int))) && (decide ((0 : Int) < g))) with o | o
  ·exact yG o (m_ (iV i) (eh L)) (yG o (ygtr e0 rfl) (yY (pt_ (.bool (decide ((0 : Int) < i))) e0 o e0) (b0 _ _ ⟨a5, L, a6, a7, a8, a9, (congrArg Value.bool (andT o)), b⟩)))
  ·exact gN o (gN o (yY (pf_ (.bool false) e0 o rfl) (b0 _ _ ⟨a5, L, a6, a7, a8, a9, (congrArg Value.bool (andF o)), b⟩)))
 rintro f w ⟨N, F, r, b1, u, t, d7, b⟩
 refine wK d5 (cB (eh d7) d (fun d8 d => ?_) fun d8 d => ?_)
 ·refine wp_skip (d3 _ _ (sQ fun _ d9 => blockQ fun _ e1 => bE d fun f0 b2 d => bE d fun A e2 d => bE d fun f1 G d => bE d fun B e3 d => bE d fun f2 x d => bE d fun C e4 d => bE d fun f3 e5 d => dR [0, 0, 0, 6, 14, 0, 62, 0, 0, 256, 896, 1920, 0, 8190, 0, 0, 32768, 114688, 245760, 524286, 1048574, 2097150, 4194303, 8388607] [6, 13, 19, 21, 22, 23] 6 folM ?_))
  replace b := b.drew
  refine Dn [0, 1, 2, 3, 4, 5, 7, 8, 9, 10, 11, 12, 14, 15, 16, 17, 18] [] [6] (yR rfl (m_ k.v (eh u)) (yR rfl (m_ j.v (eh r)) (yR rfl (m_ (iV c) (eh t)) (yR rfl (yIa SL_22 e0 e0 b (rdI h) b2) (yR rfl (yI O_3 e0 b (rdI h) b2) (yR rfl (m_ (iV g) (eh N)) (yR rfl (m_ j.v (eh r)) (yR rfl (m_ (iV c) (eh t)) (yR rfl (yadd e0 rfl) (yR rfl (yIa SL_22 e0 e0 b (rdI h) G) (yR rfl (yI O_3 e0 b (rdI h) G) (yR rfl (m_ (iV i) (eh F)) (yR rfl (m_ j.v (eh r)) ?_)))))))))))))
  refine yR rfl (m_ (iV c) (eh t)) (yR rfl (yadd e0 rfl) (yR rfl (yIa SL_22 e0 e0 b (rdI h) x) (yR rfl (yI O_3 e0 b (rdI h) x) (Rn QSn ?_))))
  refine Lc1 rfl ?_
  refine Lk wn (yCall FN_10 (a2 e0 e0)) (sparsekit_Place_ok e2 b) ?_
  rintro _ w ⟨rfl, b⟩
  refine ⟨_, rfl, ?_⟩
  refine Dn [] [0, 7, 8, 9, 10, 11, 12, 14, 15, 16, 17, 18] [13] (Rn (yS rfl (m_ k.v (eh u)) (yS rfl (m_ j.v (eh r)) (yS rfl (m_ (iV c) (eh t)) (yS rfl (yadd e0 rfl) (yS rfl (yIa SL_22 e0 e0 b (rdI h) G) (yS rfl (yI O_3 e0 b (rdI h) G) (yS rfl (m_ (iV i) (eh F)) (yS rfl (m_ j.v (eh r)) (yS rfl (m_ (iV c) (eh t)) (yS rfl (yadd e0 rfl) (yS rfl (yIa SL_22 e0 e0 b (rdI h) x) (yS rfl (yI O_3 e0 b (rdI h) x) QSn)))))))))))) ?_)
  refine Lc1 rfl ?_
  refine Lk wn (yCall FN_10 (a2 e0 e0)) (sparsekit_Place_ok e3 b) ?_
  rintro _ w ⟨rfl, b⟩
  refine ⟨_, rfl, ?_⟩
  refine Dn [] [0, 14, 15, 16, 17, 18] [19] (Rn (yS rfl (m_ k.v (eh u)) (yS rfl (m_ j.v (eh r)) (yS rfl (m_ (iV c) (eh t)) (yS rfl (yadd e0 rfl) (yS rfl (yIa SL_22 e0 e0 b (rdI h) x) (yS rfl (yI O_3 e0 b (rdI h) x) QSn)))))) ?_)
  refine Lc1 rfl ?_
  refine Lk wn (yCall FN_33 (a1 e0)) (sparsemake_Value_ok e4 b3 b) ?_
  rintro _ w ⟨rfl, b⟩
  refine ⟨_, rfl, ?_⟩
  refine Dn [20] [0] [21] (yR rfl (ybuild (us := [iV A, iV B, .int .u64 C]) [(0, iV A), (1, iV B), (2, .int .u64 C)] SO_49 (bp3 e0 e0 e0) rfl) (Rn (yS rfl (m_ k.v (eh u)) QSn) ?_))
  refine Lc1 rfl ?_
  refine LH wn (rLt (n := 1) (l := [(A, B, C)]) b SL_44 [.agg #[iV A, iV B, .int .u64 C]] (bp1 e0) rfl rfl (mks1 (cs := [iV A, iV B, .int .u64 C]) rfl (mkF rfl) mks0)) fun f4 w b => Dn [] [0] [22] (Rn (yS rfl (m_ k.v (eh u)) QSn) ?_)
  refine Lc1 rfl ?_
  replace b := b.pk 3 [2, 0, 0] rfl
  refine LH wn (rAp b SL_44 e0 e0 rO1 e5) fun e6 w b => Dn [] [] [23] (Rn QSn ?_)
  refine Lc1 rfl ?_
  refine Ly wn (a_ e6.v e0) (Dz [] [] (Rn QSn (e1 _ _ _ (d9 _ _ (wR (Ym (iV c) (eh t) (yY (yadd e0 rfl) (Ya (iV (wa .i64 c 3)) e0 (wN ?_)))))))))
  cases d
  exact d1 _ _ _ rfl ⟨_, _, _, _, rfl, rfl, N, F, r, b1, rfl, rfl, (b.pk 3 [2, 0] rfl)⟩
 ·refine wp_exit (d4 _ _ _ rfl ?_)
  cases d
  exact d2 _ _ _ _ rfl rfl (c4 _ _ _ _ N F b1 u b (d0 _ rfl))
theorem sparselaw15_part_ok {k : Int} {p q r : LI} {y z A : Hdr} {out : LI × Bool} (x : sparselaw15_part k p q r = some out) (b9 : imm I1 y.v p ∈ ros) (c0 : imm I1 z.v q ∈ ros) (c1 : imm I1 A.v r ∈ ros) (b : St w0 ros rs w) :
  Calls Tryz.prog 19 #[iV k, y.v, z.v, A.v] w (fun e w => ∃ (N : Hdr), e = .returned (.tuple #[N.v, .bool out.2]) ∧ St w0 ros (row 3 I1 N.v out.1 :: rs) w) := by
 refine enterQ Tryz.func19 rfl Tryz.ntmps19 rfl fun Q O => sR fun _ c2 => Ya hnil.v rfl (Ya (.bool false) rfl (wK c2 (sR fun _ c3 => Ym (iV k) e0 (bE x fun i3 c4 x => yH (rMk b SL_22 e0 c4) fun d w b => Ya d.v e0 ?_))))
 refine wK c3 (sR fun _ c5 => Ym y.v e0 (Ym z.v e0 (Ym A.v e0 (yH (rLt (n := 3) (l := [p, q, r]) b SL_78 [y.v, z.v, A.v] (bp3 e0 e0 e0) rfl rfl (mks1 (cs := [y.v]) rfl (mkS b9) (mks1 (cs := [z.v]) rfl (mkS c0) (mks1 (cs := [A.v]) rfl (mkS c1) mks0)))) fun i w b => Ya i.v e0 (wK c5 (seqQ fun i4 c6 c7 => sQ fun _ c8 => ?_))))))
 refine wR (Ya (iV 0) rfl (wK c8 (blockQ fun R S => bE x fun T c9 x => ?_)))
 have d0 : ∀ (G : LI) (f : FV) w, f 10 = d.v → St w0 ros (row 3 I1 d.v G :: rs) w → .inl G = T → R (.exit 0) (fr 61 f) w := by
  intro G f w d1 b ho
  subst ho
  refine S _ _ _ (c6 _ _ (sR fun _ d2 => Ym d.v (eh d1) (Ya d.v e0 (Ya (.bool true) rfl (wK d2 (wp_ret ?_))))))
  cases x
  exact O _ _ _ (fin2r Tryz.results19 ⟨rfl, rfl⟩ ⟨rfl, rfl⟩ ⟨_, rfl, b⟩)
 have d3 : ∀ (f : FV) w, f 8 = hnil.v → f 9 = .bool false → St w0 ros rs w → .inr () = T → R .ret (fr 61 f) w := by
  intro f w d4 d5 b ho
  subst ho
  refine S _ _ _ (c7 _ _ _ rfl ?_)
  cases x
  replace b := b.rowNh 3 I1
  exact O _ _ _ (fin2r Tryz.results19 ⟨rfl, d4⟩ ⟨rfl, d5⟩ ⟨_, rfl, b⟩)
 refine loopQ (fun s a w => ∃ (H : LI) (g : Int) (f : FV), (H, g) = s ∧ a = fr 61 f ∧ f 0 = iV k ∧ f 10 = d.v ∧ f 11 = i.v ∧ f 12 = iV g ∧ St w0 ros (row 3 I1 d.v H :: row 22 S1 i.v [p, q, r] :: rs) w) c9 ⟨_, _, _, rfl, rfl, rfl, rfl, rfl, rfl, (b.pk 2 [1, 0] rfl)⟩ ?_
 rintro _ _ w i5 ⟨H, g, f, rfl, rfl, d6, U, d7, V, b⟩ t W i6 d8 X
 refine seqQ fun i7 d9 e1 => sR fun _ e2 => Ym (iV g) (eh V) (yY (ylss e0 rfl) (wK e2 ?_))
 refine cIf e0 t (fun e3 t => ?_) fun e3 t => ?_
 ·refine wp_skip (d9 _ _ (seqQ fun i8 e4 e5 => blockQ fun _ Z => sR fun _ e6 => Ya (iV 0) rfl (wK e6 (blockQ fun a0 a1 => bE t fun a2 e7 t => ?_))))
  have e8 : ∀ (I : LI) (f : FV) w, f 0 = iV k → f 10 = d.v → f 11 = i.v → f 12 = iV g → St w0 ros (row 3 I1 d.v I :: row 22 S1 i.v [p, q, r] :: rs) w → .inl I = a2 → a0 (.exit 2) (fr 61 f) w := by
   intro I f w e9 f0 f1 f2 b ho
   subst ho
   refine a1 _ _ _ (Z _ _ _ (e4 _ _ (wR (Ym (iV g) (eh f2) (yY (yadd e0 rfl) (Ya (iV (wa .i64 g 1)) e0 (wN ?_)))))))
   cases t
   exact d8 _ _ _ rfl ⟨_, _, _, rfl, rfl, e9, f0, f1, rfl, b⟩
  have f3 : ∀ (f : FV) w, f 8 = hnil.v → f 9 = .bool false → St w0 ros rs w → .inr () = a2 → a0 .ret (fr 61 f) w := by
   intro f w f4 f5 b ho
   subst ho
   refine a1 _ _ _ (Z _ _ _ (e5 _ _ _ rfl ?_))
   cases t
   exact X _ _ _ _ rfl rfl (d3 _ _ f4 f5 b (W _ rfl))
  refine loopQ (fun s a w => ∃ (B : LI) (o : Int) (f : FV), (B, o) = s ∧ a = fr 61 f ∧ f 0 = iV k ∧ f 10 = d.v ∧ f 11 = i.v ∧ f 12 = iV g ∧ f 13 = iV o ∧ St w0 ros (row 3 I1 d.v B :: row 22 S1 i.v [p, q, r] :: rs) w) e7 ⟨_, _, _, rfl, rfl, d6, U, d7, V, rfl, b⟩ ?_
  rintro _ _ w i9 ⟨B, o, f, rfl, rfl, E, J, C, D, F, b⟩ c a3 j0 f6 a4
  refine seqQ fun j1 f7 f8 => sR fun _ f9 => Ym (iV o) (eh F) (Ym i.v (eh C) (Ym (iV g) (eh D) (bE c fun j2 a5 c => yY (yIa SL_78 e0 e0 b rO1 a5) ?_)))
  obtain ⟨j3, g0, b⟩ := rLs b rO1 a5
  refine yY (yCe O_22 e0 g0 rfl) (yY (yLen SL_22 e0 b (rdI F0)) (yY (ylss e0 e0) (wK f9 ?_)))
  refine cIf e0 c (fun g1 c => ?_) fun g1 c => ?_
  ·refine wp_skip (f7 _ _ (seqQ fun j4 g2 g3 => blockQ fun _ a6 => sR fun _ g4 => Ym i.v (eh C) (Ym (iV g) (eh D) (bE c fun j5 a7 c => yY (yIa SL_78 e0 e0 b rO1 a7) ?_))))
   obtain ⟨j6, g5, b⟩ := rLs b rO1 a7
   refine yY (yCe O_22 e0 g5 rfl) (Ym (iV o) (eh F) (bE c fun h a8 c => yY (yIa SL_22 e0 e0 b (rdI F0) a8) (yY (yI O_3 e0 b (rdI F0) a8) (Ya (iV h) e0 (wK g4 (seqQ fun j7 g6 g7 => sR fun _ g8 => Ym (iV h) e0 (yY (ylss e0 rfl) (Ym (.bool (decide (h < 0))) e0 ?_))))))))
   refine joinW 4 (fun f w => f 0 = iV k ∧ f 10 = d.v ∧ f 11 = i.v ∧ f 12 = iV g ∧ f 13 = iV o ∧ f 14 = iV h ∧ f 47 = .bool ((decide (h < 0)) || (decide (k ≤ h))) ∧ St w0 ros (row 3 I1 d.v B :: row 22 S1 i.v [p, q, r] :: rs) w) (fun a9 => ?_) ?_
   ·rcases Bool.eq_false_or_eq_true (decide (h < 0)) with m | m
    ·exact gN m (gN m (gN m (yY (pt_ (.bool true) e0 m rfl) (a9 _ _ ⟨E, J, C, D, F, rfl, (congrArg Value.bool (orT m)), (b.facts (allT (allT allI)))⟩))))
    ·exact yG m (m_ (iV h) e0) (yG m (m_ (iV k) (eh E)) (yG m (ygeq e0 e0) (yY (pf_ (.bool (decide (k ≤ h))) e0 m e0) (a9 _ _ ⟨E, J, C, D, F, rfl, (congrArg Value.bool (orF m)), (b.facts (allT (allT allI)))⟩))))
   rintro f w ⟨b0, K, b1, b2, b3, L, g9, b⟩
   refine Ym (.bool ((decide (h < 0)) || (decide (k ≤ h)))) (eh g9) (bE c fun h0 u c => ?_)
   refine joinW 6 (fun f w => f 0 = iV k ∧ f 10 = d.v ∧ f 11 = i.v ∧ f 12 = iV g ∧ f 13 = iV o ∧ f 14 = iV h ∧ f 54 = .bool h0 ∧ St w0 ros (row 3 I1 d.v B :: row 22 S1 i.v [p, q, r] :: rs) w) (fun b4 => ?_) ?_
   ·rcases iteS u with ⟨j, u⟩ | ⟨j, u⟩
    ·refine gN j (gN j (gN j (gN j (gN j (yY (pt_ (.bool true) e0 j rfl) ?_)))))
     cases u
     exact b4 _ _ ⟨b0, K, b1, b2, b3, L, rfl, b⟩
    ·refine yG (bfalse j) (m_ d.v (eh K)) (yG (bfalse j) (m_ (iV h) (eh L)) (bE u fun h1 b5 u => yG (bfalse j) (yIa SL_22 e0 e0 b rO0 b5) (yG (bfalse j) (yI O_3 e0 b rO0 b5) (yG (bfalse j) (yneq e0 rfl) (yY (pf_ (.bool (!(decide (h1 = 0)))) e0 (bfalse j) e0) ?_)))))
     cases u
     exact b4 _ _ ⟨b0, K, b1, b2, b3, L, rfl, b⟩
   rintro f w ⟨h2, b6, h4, b7, h6, h9, i0, b⟩
   refine wK g8 (cB (eh i0) c (fun i1 c => ?_) fun i1 c => ?_)
   ·refine sR fun _ i2 => Ya hnil.v rfl (Ya (.bool false) rfl (wK i2 (wp_ret (g7 _ _ _ rfl (a6 _ _ _ (g3 _ _ _ rfl ?_))))))
    cases c
    exact a4 _ _ _ _ rfl rfl (f3 _ _ rfl rfl (b.pk 2 [] rfl) (a3 _ rfl))
   ·refine wp_skip (g6 _ _ (wR (Ym d.v (eh b6) (Ym (iV h) (eh h9) (Ym (iV g) (eh b7) (yY (yadd e0 rfl) (bE c fun j8 b8 c => yY (yIs SL_22 e0 e0 b rO0 b8) (yT (r_sti (cs := [iV (wa .i64 g 1)]) b O_3 rfl e0 e0 rfl mkI b8) fun w b => wN (a6 _ _ _ (g2 _ _ ?_))))))))))
    refine wR (Ym (iV o) (eh h6) (yY (yadd e0 rfl) (Ya (iV (wa .i64 o 1)) e0 (wN ?_))))
    cases c
    exact f6 _ _ _ rfl ⟨_, _, _, rfl, rfl, h2, b6, h4, b7, rfl, b⟩
  ·refine wp_exit (f8 _ _ _ rfl ?_)
   cases c
   exact a4 _ _ _ _ rfl rfl (e8 _ _ _ E J C D (b.facts (allT allI)) (a3 _ rfl))
 ·refine wp_exit (e1 _ _ _ rfl ?_)
  cases t
  exact X _ _ _ _ rfl rfl (d0 _ _ _ U (b.pk 2 [0] rfl) (W _ rfl))
theorem sparseref03_IsFinite_ok {a : Int} {out : Bool} (b : sparseref03_IsFinite a = some out) (c : St w0 ros rs w) :
  Calls Tryz.prog 87 #[.int .u64 a] w (fun e w => e = .returned (.bool out) ∧ St w0 ros rs w) := by
 refine enterQ Tryz.func87 rfl Tryz.ntmps87 rfl fun Q d => sR fun _ f => Ya (.bool false) rfl (wK f (sR fun _ g => Ym (.int .u64 a) e0 (yY (yshrc e0 rfl) (yY (yand e0 rfl) (yY (yneq e0 rfl) (Ya (.bool (!(decide ((wand .u64 (wsrc .u64 a 52) 2047) = 2047)))) e0 (wN ?_)))))))
 refine g _ _ (wp_ret ?_)
 cases b
 exact d _ _ _ (fin1r Tryz.results87 ⟨rfl, rfl⟩ ⟨rfl, c⟩)
theorem sparseref06_Finite_ok {m : LI} {g : Hdr} {out : Bool} (h : sparseref06_Finite m = some out) (i : imm (rI .u64) g.v m ∈ ros) (b : St w0 ros rs w) :
  Calls Tryz.prog 63 #[g.v] w (fun e w => e = .returned (.bool out) ∧ St w0 ros rs w) := by
 refine enterQ Tryz.func63 rfl Tryz.ntmps63 rfl fun Q n => sR fun _ y => Ya (.bool false) rfl (wK y (seqQ fun U z A => sR fun _ B => Ya (iV 0) rfl (wK B (blockQ fun o p => bE h fun q C h => ?_))))
 have D : ∀ (f : FV) w, St w0 ros rs w → .inl () = q → o (.exit 0) (fr 16 f) w := by
  intro f w b ho
  subst ho
  refine p _ _ _ (z _ _ (sR fun _ E => Ya (.bool true) rfl (wK E (wp_ret ?_))))
  cases h
  exact n _ _ _ (fin1r Tryz.results63 ⟨rfl, rfl⟩ ⟨rfl, b⟩)
 have F : ∀ (f : FV) w, f 2 = .bool false → St w0 ros rs w → .inr () = q → o .ret (fr 16 f) w := by
  intro f w G b ho
  subst ho
  refine p _ _ _ (A _ _ _ rfl ?_)
  cases h
  exact n _ _ _ (fin1r Tryz.results63 ⟨rfl, G⟩ ⟨rfl, b⟩)
 refine loopQ (fun s a w => ∃ (d : Int) (f : FV), d = s ∧ a = fr 16 f ∧ f 0 = g.v ∧ f 3 = iV d ∧ St w0 ros rs w) C ⟨_, _, rfl, rfl, rfl, rfl, b⟩ ?_
 rintro _ _ w V ⟨d, f, rfl, rfl, j, k, b⟩ c r W H t
 refine seqQ fun X I J => sR fun _ K => Ym (iV d) (eh k) (Ym g.v (eh j) (yY (yLen SL_25 e0 b (rdI i)) (yY (ylss e0 e0) (wK K ?_))))
 refine cIf e0 c (fun L c => ?_) fun L c => ?_
 ·refine wp_skip (I _ _ (seqQ fun Z N O => blockQ fun _ u => sR fun _ R => Ym g.v (eh j) (Ym (iV d) (eh k) (bE c fun a0 x c => yY (yIa SL_25 e0 e0 b (rdI i) x) (yY (yI O_47 e0 b (rdI i) x) (bE c fun a2 S c => yC (yCall FN_87 (a1 e0)) (sparseref03_IsFinite_ok S b) ?_))))))
  rintro _ w ⟨rfl, b⟩
  refine ⟨_, rfl, ?_⟩
  refine yY (ynot e0) (wK R ?_)
  rcases iteS c with ⟨l, c⟩ | ⟨l, c⟩
  ·refine condF e0 (nF l) (wp_skip (u _ _ _ (N _ _ (wR (Ym (iV d) (eh k) (yY (yadd e0 rfl) (Ya (iV (wa .i64 d 1)) e0 (wN ?_))))))))
   cases c
   exact H _ _ _ rfl ⟨_, _, rfl, rfl, j, rfl, b⟩
  ·refine condT e0 (nT (bfalse l)) (sR fun _ T => Ya (.bool false) rfl (wK T (wp_ret (u _ _ _ (O _ _ _ rfl ?_)))))
   cases c
   exact t _ _ _ _ rfl rfl (F _ _ rfl b (r _ rfl))
 ·refine wp_exit (J _ _ _ rfl ?_)
  cases c
  exact t _ _ _ _ rfl rfl (D _ _ b (r _ rfl))
theorem sparseref09_Check_ok {c d : Int} {a2 A W : LI} {l i r : Hdr} {out : Int} (m : sparseref09_Check c d a2 A W = some out) (x : imm I1 l.v a2 ∈ ros) (o : imm I1 i.v A ∈ ros) (b8 : imm (rI .u64) r.v W ∈ ros) (b : St w0 ros rs w) :
  Calls Tryz.prog 40 #[.agg #[iV c, iV d, l.v, i.v, r.v]] w (fun e w => e = .returned (iV out) ∧ St w0 ros rs w) := by
 refine enterQ Tryz.func40 rfl Tryz.ntmps40 rfl fun Q X => sR fun _ g0 => yBb (r_box (vals := [iV c, iV d, l.v, i.v, r.v]) b e0 rfl) fun j w b => Ya (iV 0) rfl (wK g0 (seqQ fun r3 g1 g2 => sR fun _ g3 => yY (yFb FL_27_0 e0) (yY (lb_ (iV c) O_3 e0 b R0) (yY (ylss e0 rfl) ?_))))
 refine Ym (.bool (decide (c < 0))) e0 ?_
 refine joinW 4 (fun f w => f 1 = (pB j) ∧ f 14 = .bool ((decide (c < 0)) || (decide ((200 : Int) < c))) ∧ St w0 ros (box j 27 [iV c, iV d, l.v, i.v, r.v] :: rs) w) (fun c0 => ?_) ?_
 ·rcases Bool.eq_false_or_eq_true (decide (c < 0)) with F | F
  ·exact gN F (gN F (gN F (yY (pt_ (.bool true) e0 F rfl) (c0 _ _ ⟨rfl, (congrArg Value.bool (orT F)), b⟩))))
  ·exact yG F (yFb FL_27_0 e0) (yG F (lb_ (iV c) O_3 e0 b R0) (yG F (ygtr e0 rfl) (yY (pf_ (.bool (decide ((200 : Int) < c))) e0 F e0) (c0 _ _ ⟨rfl, (congrArg Value.bool (orF F)), b⟩))))
 rintro f w ⟨b1, g4, b⟩
 refine Ym (.bool ((decide (c < 0)) || (decide ((200 : Int) < c)))) (eh g4) ?_
 refine joinW 4 (fun f w => f 1 = (pB j) ∧ f 19 = .bool (((decide (c < 0)) || (decide ((200 : Int) < c))) || (decide (d < 0))) ∧ St w0 ros (box j 27 [iV c, iV d, l.v, i.v, r.v] :: rs) w) (fun c1 => ?_) ?_
 ·rcases Bool.eq_false_or_eq_true ((decide (c < 0)) || (decide ((200 : Int) < c))) with G | G
  ·exact gN G (gN G (gN G (yY (pt_ (.bool true) e0 G rfl) (c1 _ _ ⟨b1, (congrArg Value.bool (orT G)), b⟩))))
  ·exact yG G (yFb FL_27_1 (eh b1)) (yG G (lb_ (iV d) O_3 e0 b R0) (yG G (ylss e0 rfl) (yY (pf_ (.bool (decide (d < 0))) e0 G e0) (c1 _ _ ⟨b1, (congrArg Value.bool (orF G)), b⟩))))
 rintro f w ⟨b2, g5, b⟩
 refine Ym (.bool (((decide (c < 0)) || (decide ((200 : Int) < c))) || (decide (d < 0)))) (eh g5) ?_
 refine joinW 4 (fun f w => f 1 = (pB j) ∧ f 24 = .bool ((((decide (c < 0)) || (decide ((200 : Int) < c))) || (decide (d < 0))) || (decide ((200 : Int) < d))) ∧ St w0 ros (box j 27 [iV c, iV d, l.v, i.v, r.v] :: rs) w) (fun c2 => ?_) ?_
 ·rcases Bool.eq_false_or_eq_true (((decide (c < 0)) || (decide ((200 : Int) < c))) || (decide (d < 0))) with H | H
  ·exact gN H (gN H (gN H (yY (pt_ (.bool true) e0 H rfl) (c2 _ _ ⟨b2, (congrArg Value.bool (orT H)), b⟩))))
  ·exact yG H (yFb FL_27_1 (eh b2)) (yG H (lb_ (iV d) O_3 e0 b R0) (yG H (ygtr e0 rfl) (yY (pf_ (.bool (decide ((200 : Int) < d))) e0 H e0) (c2 _ _ ⟨b2, (congrArg Value.bool (orF H)), b⟩))))
 rintro f w ⟨b3, g6, b⟩
 refine Ym (.bool ((((decide (c < 0)) || (decide ((200 : Int) < c))) || (decide (d < 0))) || (decide ((200 : Int) < d)))) (eh g6) ?_
 refine joinW 5 (fun f w => f 1 = (pB j) ∧ f 30 = .bool (((((decide (c < 0)) || (decide ((200 : Int) < c))) || (decide (d < 0))) || (decide ((200 : Int) < d))) || (decide ((10000 : Int) < (A.length : Int)))) ∧ St w0 ros (box j 27 [iV c, iV d, l.v, i.v, r.v] :: rs) w) (fun c3 => ?_) ?_
 ·rcases Bool.eq_false_or_eq_true ((((decide (c < 0)) || (decide ((200 : Int) < c))) || (decide (d < 0))) || (decide ((200 : Int) < d))) with B | B
  ·exact gN B (gN B (gN B (gN B (yY (pt_ (.bool true) e0 B rfl) (c3 _ _ ⟨b3, (congrArg Value.bool (orT B)), b⟩)))))
  ·exact yG B (yFb FL_27_3 (eh b3)) (yG B (lb_ i.v O_22 e0 b R0) (yG B (yLen SL_22 e0 b (rdI o)) (yG B (ygtr e0 rfl) (yY (pf_ (.bool (decide ((10000 : Int) < (A.length : Int)))) e0 B e0) (c3 _ _ ⟨b3, (congrArg Value.bool (orF B)), b⟩)))))
 rintro f w ⟨Z, g7, b⟩
 refine wK g3 (cB (eh g7) m (fun g8 m => ?_) fun g8 m => ?_)
 ·refine sR fun _ g9 => Ya (iV 6) rfl (wK g9 (wp_ret (g2 _ _ _ rfl ?_)))
  cases m
  exact X _ _ _ (fin1r Tryz.results40 ⟨rfl, rfl⟩ ⟨rfl, (b.pk 1 [] rfl)⟩)
 ·refine wp_skip (g1 _ _ (sR fun _ h0 => yY (yFb FL_27_3 (eh Z)) (yY (lb_ i.v O_22 e0 b R0) (yY (yLen SL_22 e0 b (rdI o)) (Ya (iV (A.length : Int)) e0 (wK h0 (seqQ fun r4 h1 h2 => sR fun _ h3 => yY (yFb FL_27_4 (eh Z)) ?_)))))))
  refine yY (lb_ r.v O_25 e0 b R0) (yY (yLen SL_25 e0 b (rdI b8)) (Ym (iV (A.length : Int)) e0 (yY (yneq e0 e0) (Ym (.bool (!(decide ((W.length : Int) = (A.length : Int))))) e0 ?_))))
  refine joinW 8 (fun f w => f 1 = (pB j) ∧ f 3 = iV (A.length : Int) ∧ f 47 = .bool ((!(decide ((W.length : Int) = (A.length : Int)))) || (!(decide ((a2.length : Int) = (wa .i64 d 1))))) ∧ St w0 ros (box j 27 [iV c, iV d, l.v, i.v, r.v] :: rs) w) (fun c4 => ?_) ?_
  ·rcases Bool.eq_false_or_eq_true (!(decide ((W.length : Int) = (A.length : Int)))) with t | t
   ·exact gN t (gN t (gN t (gN t (gN t (gN t (gN t (yY (pt_ (.bool true) e0 t rfl) (c4 _ _ ⟨Z, rfl, (congrArg Value.bool (orT t)), b⟩))))))))
   ·exact yG t (yFb FL_27_2 (eh Z)) (yG t (lb_ l.v O_22 e0 b R0) (yG t (yLen SL_22 e0 b (rdI x)) (yG t (yFb FL_27_1 (eh Z)) (yG t (lb_ (iV d) O_3 e0 b R0) (yG t (yadd e0 rfl) (yG t (yneq e0 e0) (yY (pf_ (.bool (!(decide ((a2.length : Int) = (wa .i64 d 1))))) e0 t e0) (c4 _ _ ⟨Z, rfl, (congrArg Value.bool (orF t)), b⟩))))))))
  rintro f w ⟨b4, c5, h5, b⟩
  refine Ym (.bool ((!(decide ((W.length : Int) = (A.length : Int)))) || (!(decide ((a2.length : Int) = (wa .i64 d 1)))))) (eh h5) (bE m fun c6 T m => ?_)
  refine joinW 6 (fun f w => f 1 = (pB j) ∧ f 3 = iV (A.length : Int) ∧ f 54 = .bool c6 ∧ St w0 ros (box j 27 [iV c, iV d, l.v, i.v, r.v] :: rs) w) (fun c7 => ?_) ?_
  ·rcases iteS T with ⟨C, T⟩ | ⟨C, T⟩
   ·refine gN C (gN C (gN C (gN C (gN C (yY (pt_ (.bool true) e0 C rfl) ?_)))))
    cases T
    exact c7 _ _ ⟨b4, c5, rfl, b⟩
   ·refine yG (bfalse C) (yFb FL_27_2 (eh b4)) (yG (bfalse C) (lb_ l.v O_22 e0 b R0) (bE T fun h7 c8 T => yG (bfalse C) (yIa SL_22 e0 rfl b (rdI x) c8) (yG (bfalse C) (yI O_3 e0 b (rdI x) c8) (yG (bfalse C) (yneq e0 rfl) (yY (pf_ (.bool (!(decide (h7 = 0)))) e0 (bfalse C) e0) ?_)))))
    cases T
    exact c7 _ _ ⟨b4, c5, rfl, b⟩
  rintro f w ⟨a5, h9, i0, b⟩
  refine Ym (.bool c6) (eh i0) (bE m fun i1 U m => ?_)
  refine joinW 9 (fun f w => f 1 = (pB j) ∧ f 64 = .bool i1 ∧ St w0 ros (box j 27 [iV c, iV d, l.v, i.v, r.v] :: rs) w) (fun c9 => ?_) ?_
  ·rcases iteS U with ⟨u, U⟩ | ⟨u, U⟩
   ·refine gN u (gN u (gN u (gN u (gN u (gN u (gN u (gN u (yY (pt_ (.bool true) e0 u rfl) ?_))))))))
    cases U
    exact c9 _ _ ⟨a5, rfl, b⟩
   ·refine yG (bfalse u) (yFb FL_27_2 (eh a5)) (yG (bfalse u) (lb_ l.v O_22 e0 b R0) (yG (bfalse u) (yFb FL_27_1 (eh a5)) (yG (bfalse u) (lb_ (iV d) O_3 e0 b R0) (bE U fun i2 d0 U => yG (bfalse u) (yIa SL_22 e0 e0 b (rdI x) d0) (yG (bfalse u) (yI O_3 e0 b (rdI x) d0) (yG (bfalse u) (m_ (iV (A.length : Int)) (eh h9)) (yG (bfalse u) (yneq e0 e0) (yY (pf_ (.bool (!(decide (i2 = (A.length : Int))))) e0 (bfalse u) e0) ?_))))))))
    cases U
    exact c9 _ _ ⟨a5, rfl, b⟩
  rintro f w ⟨i3, i4, b⟩
  refine wK h3 (cB (eh i4) m (fun i5 m => ?_) fun i5 m => ?_)
  ·refine sR fun _ i6 => Ya (iV 1) rfl (wK i6 (wp_ret (h2 _ _ _ rfl ?_)))
   cases m
   exact X _ _ _ (fin1r Tryz.results40 ⟨rfl, rfl⟩ ⟨rfl, (b.pk 1 [] rfl)⟩)
  ·refine wp_skip (h1 _ _ (seqQ fun r5 i7 i8 => sR fun _ i9 => Ya (iV 0) rfl (wK i9 (blockQ fun d1 d2 => bE m fun d3 j0 m => ?_))))
   have j8 : ∀ (f : FV) w, f 1 = (pB j) → St w0 ros (box j 27 [iV c, iV d, l.v, i.v, r.v] :: rs) w → .inl () = d3 → d1 (.exit 0) (fr 147 f) w := by
    intro f w j9 b ho
    subst ho
    refine d2 _ _ _ (i7 _ _ (seqQ fun r6 k0 l0 => sR fun _ l1 => Ya (iV 0) rfl (wK l1 (blockQ fun d4 d5 => bE m fun d6 l2 m => ?_))))
    have l3 : ∀ (f : FV) w, f 1 = (pB j) → St w0 ros (box j 27 [iV c, iV d, l.v, i.v, r.v] :: rs) w → .inl () = d6 → d4 (.exit 2) (fr 147 f) w := by
     intro f w l4 b ho
     subst ho
     refine d5 _ _ _ (k0 _ _ (seqQ fun r7 l5 l6 => sR fun _ l7 => yY (yFb FL_27_4 (eh l4)) (yY (lb_ r.v O_25 e0 b R0) (bE m fun r8 l8 m => yC (yCall FN_63 (a1 e0)) (sparseref06_Finite_ok l8 b8 b) ?_))))
     rintro _ w ⟨rfl, b⟩
     refine ⟨_, rfl, ?_⟩
     refine yY (ynot e0) (wK l7 ?_)
     rcases iteS m with ⟨b5, m⟩ | ⟨b5, m⟩
     ·refine condF e0 (nF b5) (wp_skip (l5 _ _ (sR fun _ l9 => Ya (iV 0) rfl (wK l9 (wp_ret ?_)))))
      cases m
      exact X _ _ _ (fin1r Tryz.results40 ⟨rfl, rfl⟩ ⟨rfl, (b.pk 1 [] rfl)⟩)
     ·refine condT e0 (nT (bfalse b5)) (sR fun _ m0 => Ya (iV 4) rfl (wK m0 (wp_ret (l6 _ _ _ rfl ?_))))
      cases m
      exact X _ _ _ (fin1r Tryz.results40 ⟨rfl, rfl⟩ ⟨rfl, (b.pk 1 [] rfl)⟩)
    have m1 : ∀ (f : FV) w, f 2 = iV 1 → St w0 ros rs w → .inr () = d6 → d4 .ret (fr 147 f) w := by
     intro f w m2 b ho
     subst ho
     refine d5 _ _ _ (l0 _ _ _ rfl ?_)
     cases m
     exact X _ _ _ (fin1r Tryz.results40 ⟨rfl, m2⟩ ⟨rfl, b⟩)
    refine loopQ (fun s a w => ∃ (D : Int) (f : FV), D = s ∧ a = fr 147 f ∧ f 1 = (pB j) ∧ f 5 = iV D ∧ St w0 ros (box j 27 [iV c, iV d, l.v, i.v, r.v] :: rs) w) l2 ⟨_, _, rfl, rfl, j9, rfl, b⟩ ?_
    rintro _ _ w r9 ⟨D, f, rfl, rfl, a6, b6, b⟩ K d7 s0 m3 d8
    refine seqQ fun s1 m4 m5 => sR fun _ m6 => Ym (iV D) (eh b6) (yY (yFb FL_27_1 (eh a6)) (yY (lb_ (iV d) O_3 e0 b R0) (yY (ylss e0 e0) (wK m6 ?_))))
    refine cIf e0 K (fun m7 K => ?_) fun m7 K => ?_
    ·refine wp_skip (m4 _ _ (seqQ fun s2 m8 m9 => blockQ fun _ d9 => sR fun _ n0 => yY (yFb FL_27_2 (eh a6)) (yY (lb_ l.v O_22 e0 b R0) (Ym (iV D) (eh b6) (bE K fun n1 e1 K => yY (yIa SL_22 e0 e0 b (rdI x) e1) (yY (yI O_3 e0 b (rdI x) e1) (Ya (iV n1) e0 (wN ?_))))))))
     refine n0 _ _ (blockQ fun e2 e3 => bE K fun e4 n2 K => ?_)
     have n3 : ∀ (f : FV) w, f 1 = (pB j) → f 5 = iV D → St w0 ros (box j 27 [iV c, iV d, l.v, i.v, r.v] :: rs) w → .inl () = e4 → e2 (.exit 4) (fr 147 f) w := by
      intro f w n4 n5 b ho
      subst ho
      refine e3 _ _ _ (d9 _ _ _ (m8 _ _ (wR (Ym (iV D) (eh n5) (yY (yadd e0 rfl) (Ya (iV (wa .i64 D 1)) e0 (wN ?_)))))))
      cases K
      exact m3 _ _ _ rfl ⟨_, _, rfl, rfl, n4, rfl, b⟩
     have n6 : ∀ (f : FV) w, f 2 = iV 1 → St w0 ros rs w → .inr () = e4 → e2 .ret (fr 147 f) w := by
      intro f w n7 b ho
      subst ho
      refine e3 _ _ _ (d9 _ _ _ (m9 _ _ _ rfl ?_))
      cases K
      exact d8 _ _ _ _ rfl rfl (m1 _ _ n7 b (d7 _ rfl))
     refine loopQ (fun s a w => ∃ (p : Int) (f : FV), p = s ∧ a = fr 147 f ∧ f 1 = (pB j) ∧ f 5 = iV D ∧ f 6 = iV p ∧ St w0 ros (box j 27 [iV c, iV d, l.v, i.v, r.v] :: rs) w) n2 ⟨_, _, rfl, rfl, a6, b6, rfl, b⟩ ?_
     rintro _ _ w s3 ⟨p, f, rfl, rfl, q, O, z, b⟩ y e5 s4 n9 e6
     refine seqQ fun s5 o0 o1 => sR fun _ o2 => Ym (iV p) (eh z) (yY (yFb FL_27_2 (eh q)) (yY (lb_ l.v O_22 e0 b R0) (Ym (iV D) (eh O) (yY (yadd e0 rfl) (bE y fun s6 e7 y => yY (yIa SL_22 e0 e0 b (rdI x) e7) (yY (yI O_3 e0 b (rdI x) e7) (yY (ylss e0 e0) (wK o2 ?_))))))))
     refine cIf e0 y (fun o3 y => ?_) fun o3 y => ?_
     ·refine wp_skip (o0 _ _ (seqQ fun s7 o4 o5 => blockQ fun _ e8 => sQ fun _ o6 => bE y fun a7 R y => bE y fun L V y => bE y fun a3 I y => ?_))
      refine joinN (n := 147) (fun f w => f 1 = (pB j) ∧ f 5 = iV D ∧ f 6 = iV p ∧ f 142 = .bool a3 ∧ St w0 ros (box j 27 [iV c, iV d, l.v, i.v, r.v] :: rs) w) (fun a8 => ?_) ?_
      ·rcases iteS V with ⟨g, V⟩ | ⟨g, V⟩
       ·have e9 := someI V
        have J : L = true := e9.symm
        rw [if_pos J] at I
        have o7 := someI I
        refine dR [0, 1, 0, 7, 15, 31, 63, 127, 255, 127, 1023, 2047, 127, 4223, 16383, 32767, 65535, 131071, 131071, 393215, 131071, 1966079, 4063231, 8388607, 16777215, 33554431, 67108863, 33554431, 268435455, 536870911, 33554431, 1107296255, 33554431, 4328521727, 16139681791, 33319550975, 68719476735, 137438953471, 274877906943] [] 0 folM ?_
        replace b := b.drew
        refine Dz [0, 1, 2, 3, 4, 5, 6, 7, 8, 9, 10, 11, 12, 13, 14, 15, 16, 17, 18, 19, 20, 21, 22, 23, 24, 25, 26, 27, 28, 29, 30, 31, 32, 33, 34, 35, 36, 37, 38] [] (yR rfl (yFb FL_27_3 (eh q)) (yR rfl (lb_ i.v O_22 e0 b R0) (yR rfl (m_ (iV p) (eh z)) (yR rfl (yIa SL_22 e0 e0 b (rdI o) R) (yR rfl (yI O_3 e0 b (rdI o) R) (yR rfl (ylss e0 rfl) (yR rfl (m_ (.bool (decide (a7 < 0))) e0) (Rx rfl rfl (wX (dT g)) (Rx rfl rfl (wX (dT g)) (Rx rfl rfl (wX (dT g)) (Rx rfl rfl (wX (dT g)) (Rx rfl rfl (wX (dT g)) (Rx rfl rfl (wX (dT g)) ?_)))))))))))))
        refine Rx rfl rfl (wX (dT g)) (Rx rfl rfl (wX (dT g)) (yR rfl (pt_ (.bool L) e0 (dT g) (eqv e9 rfl)) (yR rfl (m_ (.bool L) e0) (Rx rfl rfl (wX J) (Rx rfl rfl (wX J) (Rx rfl rfl (wX J) (Rx rfl rfl (wX J) (Rx rfl rfl (wX J) (Rx rfl rfl (wX J) (Rx rfl rfl (wX J) (Rx rfl rfl (wX J) (Rx rfl rfl (wxu rfl rfl rfl) (Rx rfl rfl (wxu rfl rfl rfl) ?_)))))))))))))
        exact Rx rfl rfl (wxu rfl rfl rfl) (Rx rfl rfl (wxu rfl rfl rfl) (Rx rfl rfl (wxu rfl rfl rfl) (Rx rfl rfl (wxu rfl rfl rfl) (Rx rfl rfl (wxu rfl rfl rfl) (Rx rfl rfl (wxu rfl rfl rfl) (Rx rfl rfl (wxu rfl rfl rfl) (Rx rfl rfl (wxu rfl rfl rfl) (Rx rfl rfl (wxu rfl rfl rfl) (Rx rfl rfl (wxu rfl rfl rfl) (Rx rfl rfl (wX J) (yR rfl (pt_ (.bool a3) e0 J (eqv o7 rfl)) (Rn QSn (a8 _ _ ⟨q, O, z, rfl, b⟩)))))))))))))
       ·refine bE V fun s8 a0 V => ?_
        have b7 := someI V
        rcases iteS I with ⟨h, I⟩ | ⟨h, I⟩
        ·have o9 := someI I
         refine dR [0, 1, 0, 7, 15, 31, 63, 127, 255, 127, 1023, 2047, 127, 4223, 16383, 32767, 65535, 131071, 131071, 393215, 131071, 1966079, 4063231, 8388607, 16777215, 33554431, 67108863, 33554431, 268435455, 536870911, 33554431, 1107296255, 33554431, 4328521727, 16139681791, 33319550975, 68719476735, 137438953471, 274877906943] [] 0 folM ?_
         replace b := b.drew
         refine Dz [0, 1, 2, 3, 4, 5, 6, 7, 8, 9, 10, 11, 12, 13, 14, 15, 16, 17, 18, 19, 20, 21, 22, 23, 24, 25, 26, 27, 28, 29, 30, 31, 32, 33, 34, 35, 36, 37, 38] [] (yR rfl (yFb FL_27_3 (eh q)) (yR rfl (lb_ i.v O_22 e0 b R0) (yR rfl (m_ (iV p) (eh z)) (yR rfl (yIa SL_22 e0 e0 b (rdI o) R) (yR rfl (yI O_3 e0 b (rdI o) R) (yR rfl (ylss e0 rfl) (yR rfl (m_ (.bool (decide (a7 < 0))) e0) (Ry rfl rfl (wG (dF g)) (yFb FL_27_3 (eh q)) (Ry rfl rfl (wG (dF g)) (lb_ i.v O_22 e0 b R0) (Ry rfl rfl (wG (dF g)) (m_ (iV p) (eh z)) (Ry rfl rfl (wG (dF g)) (yIa SL_22 e0 e0 b (rdI o) a0) (Ry rfl rfl (wG (dF g)) (yI O_3 e0 b (rdI o) a0) (Ry rfl rfl (wG (dF g)) (yFb FL_27_0 (eh q)) ?_)))))))))))))
         refine Ry rfl rfl (wG (dF g)) (lb_ (iV c) O_3 e0 b R0) (Ry rfl rfl (wG (dF g)) (ygeq e0 e0) (yR rfl (pf_ (.bool L) e0 (dF g) (eqv b7 e0)) (yR rfl (m_ (.bool L) e0) (Rx rfl rfl (wX h) (Rx rfl rfl (wX h) (Rx rfl rfl (wX h) (Rx rfl rfl (wX h) (Rx rfl rfl (wX h) (Rx rfl rfl (wX h) (Rx rfl rfl (wX h) (Rx rfl rfl (wX h) (Rx rfl rfl (wxu rfl rfl rfl) (Rx rfl rfl (wxu rfl rfl rfl) ?_)))))))))))))
         exact Rx rfl rfl (wxu rfl rfl rfl) (Rx rfl rfl (wxu rfl rfl rfl) (Rx rfl rfl (wxu rfl rfl rfl) (Rx rfl rfl (wxu rfl rfl rfl) (Rx rfl rfl (wxu rfl rfl rfl) (Rx rfl rfl (wxu rfl rfl rfl) (Rx rfl rfl (wxu rfl rfl rfl) (Rx rfl rfl (wxu rfl rfl rfl) (Rx rfl rfl (wxu rfl rfl rfl) (Rx rfl rfl (wxu rfl rfl rfl) (Rx rfl rfl (wX h) (yR rfl (pt_ (.bool a3) e0 h (eqv o9 rfl)) (Rn QSn (a8 _ _ ⟨q, O, z, rfl, b⟩)))))))))))))
        ·refine bE I fun f0 a9 I => bE I fun f1 N I => ?_
         have f2 := someI I
         rcases iteS N with ⟨k, N⟩ | ⟨k, N⟩
         ·refine bE N fun s9 f3 N => bE N fun t0 f4 N => ?_
          have p0 := someI N
          refine dR [0, 1, 0, 7, 15, 31, 63, 127, 255, 127, 1023, 2047, 127, 4223, 16383, 32767, 65535, 131071, 131071, 393215, 131071, 1966079, 4063231, 8388607, 16777215, 33554431, 67108863, 33554431, 268435455, 536870911, 33554431, 1107296255, 33554431, 4328521727, 16139681791, 33319550975, 68719476735, 137438953471, 274877906943] [] 0 folM ?_
          replace b := b.drew
          refine Dz [0, 1, 2, 3, 4, 5, 6, 7, 8, 9, 10, 11, 12, 13, 14, 15, 16, 17, 18, 19, 20, 21, 22, 23, 24, 25, 26, 27, 28, 29, 30, 31, 32, 33, 34, 35, 36, 37, 38] [] (yR rfl (yFb FL_27_3 (eh q)) (yR rfl (lb_ i.v O_22 e0 b R0) (yR rfl (m_ (iV p) (eh z)) (yR rfl (yIa SL_22 e0 e0 b (rdI o) R) (yR rfl (yI O_3 e0 b (rdI o) R) (yR rfl (ylss e0 rfl) (yR rfl (m_ (.bool (decide (a7 < 0))) e0) (Ry rfl rfl (wG (dF g)) (yFb FL_27_3 (eh q)) (Ry rfl rfl (wG (dF g)) (lb_ i.v O_22 e0 b R0) (Ry rfl rfl (wG (dF g)) (m_ (iV p) (eh z)) (Ry rfl rfl (wG (dF g)) (yIa SL_22 e0 e0 b (rdI o) a0) (Ry rfl rfl (wG (dF g)) (yI O_3 e0 b (rdI o) a0) (Ry rfl rfl (wG (dF g)) (yFb FL_27_0 (eh q)) ?_)))))))))))))
          refine Ry rfl rfl (wG (dF g)) (lb_ (iV c) O_3 e0 b R0) (Ry rfl rfl (wG (dF g)) (ygeq e0 e0) (yR rfl (pf_ (.bool L) e0 (dF g) (eqv b7 e0)) (yR rfl (m_ (.bool L) e0) (Ry rfl rfl (wG (bfalse h)) (m_ (iV p) (eh z)) (Ry rfl rfl (wG (bfalse h)) (yFb FL_27_2 (eh q)) (Ry rfl rfl (wG (bfalse h)) (lb_ l.v O_22 e0 b R0) (Ry rfl rfl (wG (bfalse h)) (m_ (iV D) (eh O)) (Ry rfl rfl (wG (bfalse h)) (yIa SL_22 e0 e0 b (rdI x) a9) (Ry rfl rfl (wG (bfalse h)) (yI O_3 e0 b (rdI x) a9) (Ry rfl rfl (wG (bfalse h)) (ygtr e0 e0) (Ry rfl rfl (wG (bfalse h)) (m_ (.bool (decide (f0 < p))) e0) (Ry rfl rfl (wG (dT k)) (yFb FL_27_3 (eh q)) (Ry rfl rfl (wG (dT k)) (lb_ i.v O_22 e0 b R0) ?_)))))))))))))
          exact Ry rfl rfl (wG (dT k)) (m_ (iV p) (eh z)) (Ry rfl rfl (wG (dT k)) (yIa SL_22 e0 e0 b (rdI o) f3) (Ry rfl rfl (wG (dT k)) (yI O_3 e0 b (rdI o) f3) (Ry rfl rfl (wG (dT k)) (yFb FL_27_3 (eh q)) (Ry rfl rfl (wG (dT k)) (lb_ i.v O_22 e0 b R0) (Ry rfl rfl (wG (dT k)) (m_ (iV p) (eh z)) (Ry rfl rfl (wG (dT k)) (ysub e0 rfl) (Ry rfl rfl (wG (dT k)) (yIa SL_22 e0 e0 b (rdI o) f4) (Ry rfl rfl (wG (dT k)) (yI O_3 e0 b (rdI o) f4) (Ry rfl rfl (wG (dT k)) (yleq e0 e0) (Ry rfl rfl (wG (bfalse h)) (pt_ (.bool f1) e0 (dT k) (eqv p0 e0)) (yR rfl (pf_ (.bool a3) e0 (bfalse h) (eqv f2 e0)) (Rn QSn (a8 _ _ ⟨q, O, z, rfl, b⟩)))))))))))))
         ·have p1 := someI N
          refine dR [0, 1, 0, 7, 15, 31, 63, 127, 255, 127, 1023, 2047, 127, 4223, 16383, 32767, 65535, 131071, 131071, 393215, 131071, 1966079, 4063231, 8388607, 16777215, 33554431, 67108863, 33554431, 268435455, 536870911, 33554431, 1107296255, 33554431, 4328521727, 16139681791, 33319550975, 68719476735, 137438953471, 274877906943] [] 0 folM ?_
          replace b := b.drew
          refine Dz [0, 1, 2, 3, 4, 5, 6, 7, 8, 9, 10, 11, 12, 13, 14, 15, 16, 17, 18, 19, 20, 21, 22, 23, 24, 25, 26, 27, 28, 29, 30, 31, 32, 33, 34, 35, 36, 37, 38] [] (yR rfl (yFb FL_27_3 (eh q)) (yR rfl (lb_ i.v O_22 e0 b R0) (yR rfl (m_ (iV p) (eh z)) (yR rfl (yIa SL_22 e0 e0 b (rdI o) R) (yR rfl (yI O_3 e0 b (rdI o) R) (yR rfl (ylss e0 rfl) (yR rfl (m_ (.bool (decide (a7 < 0))) e0) (Ry rfl rfl (wG (dF g)) (yFb FL_27_3 (eh q)) (Ry rfl rfl (wG (dF g)) (lb_ i.v O_22 e0 b R0) (Ry rfl rfl (wG (dF g)) (m_ (iV p) (eh z)) (Ry rfl rfl (wG (dF g)) (yIa SL_22 e0 e0 b (rdI o) a0) (Ry rfl rfl (wG (dF g)) (yI O_3 e0 b (rdI o) a0) (Ry rfl rfl (wG (dF g)) (yFb FL_27_0 (eh q)) ?_)))))))))))))
          refine Ry rfl rfl (wG (dF g)) (lb_ (iV c) O_3 e0 b R0) (Ry rfl rfl (wG (dF g)) (ygeq e0 e0) (yR rfl (pf_ (.bool L) e0 (dF g) (eqv b7 e0)) (yR rfl (m_ (.bool L) e0) (Ry rfl rfl (wG (bfalse h)) (m_ (iV p) (eh z)) (Ry rfl rfl (wG (bfalse h)) (yFb FL_27_2 (eh q)) (Ry rfl rfl (wG (bfalse h)) (lb_ l.v O_22 e0 b R0) (Ry rfl rfl (wG (bfalse h)) (m_ (iV D) (eh O)) (Ry rfl rfl (wG (bfalse h)) (yIa SL_22 e0 e0 b (rdI x) a9) (Ry rfl rfl (wG (bfalse h)) (yI O_3 e0 b (rdI x) a9) (Ry rfl rfl (wG (bfalse h)) (ygtr e0 e0) (Ry rfl rfl (wG (bfalse h)) (m_ (.bool (decide (f0 < p))) e0) (Rx rfl rfl (wX (dF k)) (Rx rfl rfl (wX (dF k)) ?_)))))))))))))
          exact Rx rfl rfl (wX (dF k)) (Rx rfl rfl (wX (dF k)) (Rx rfl rfl (wX (dF k)) (Rx rfl rfl (wX (dF k)) (Rx rfl rfl (wX (dF k)) (Rx rfl rfl (wX (dF k)) (Rx rfl rfl (wX (dF k)) (Rx rfl rfl (wX (dF k)) (Rx rfl rfl (wX (dF k)) (Rx rfl rfl (wX (dF k)) (Ry rfl rfl (wG (bfalse h)) (pf_ (.bool f1) e0 (dF k) (eqv p1 rfl)) (yR rfl (pf_ (.bool a3) e0 (bfalse h) (eqv f2 e0)) (Rn QSn (a8 _ _ ⟨q, O, z, rfl, b⟩)))))))))))))
      rintro f w ⟨p2, p3, p4, p5, b⟩
      refine o6 _ _ (cB (eh p5) y (fun p6 y => ?_) fun p6 y => ?_)
      ·refine sR fun _ p7 => Ya (iV 1) rfl (wK p7 (wp_ret (e8 _ _ _ (o5 _ _ _ rfl ?_))))
       cases y
       exact e6 _ _ _ _ rfl rfl (n6 _ _ rfl (b.pk 1 [] rfl) (e5 _ rfl))
      ·refine wp_skip (e8 _ _ _ (o4 _ _ (wR (Ym (iV p) (eh p4) (yY (yadd e0 rfl) (Ya (iV (wa .i64 p 1)) e0 (wN ?_)))))))
       cases y
       exact n9 _ _ _ rfl ⟨_, _, rfl, rfl, p2, p3, rfl, b⟩
     ·refine wp_exit (o1 _ _ _ rfl ?_)
      cases y
      exact e6 _ _ _ _ rfl rfl (n3 _ _ q O b (e5 _ rfl))
    ·refine wp_exit (m5 _ _ _ rfl ?_)
     cases K
     exact d8 _ _ _ _ rfl rfl (l3 _ _ a6 b (d7 _ rfl))
   have p8 : ∀ (f : FV) w, f 2 = iV 1 → St w0 ros rs w → .inr () = d3 → d1 .ret (fr 147 f) w := by
    intro f w p9 b ho
    subst ho
    refine d2 _ _ _ (i8 _ _ _ rfl ?_)
    cases m
    exact X _ _ _ (fin1r Tryz.results40 ⟨rfl, p9⟩ ⟨rfl, b⟩)
   refine loopQ (fun s a w => ∃ (S : Int) (f : FV), S = s ∧ a = fr 147 f ∧ f 1 = (pB j) ∧ f 4 = iV S ∧ St w0 ros (box j 27 [iV c, iV d, l.v, i.v, r.v] :: rs) w) j0 ⟨_, _, rfl, rfl, i3, rfl, b⟩ ?_
   rintro _ _ w t1 ⟨S, f, rfl, rfl, a4, b0, b⟩ E f5 t2 q0 f6
   refine seqQ fun t3 q4 q5 => sR fun _ q6 => Ym (iV S) (eh b0) (yY (yFb FL_27_1 (eh a4)) (yY (lb_ (iV d) O_3 e0 b R0) (yY (ylss e0 e0) (wK q6 ?_))))
   refine cIf e0 E (fun q7 E => ?_) fun q7 E => ?_
   ·refine wp_skip (q4 _ _ (seqQ fun t4 q8 q9 => blockQ fun _ f7 => sQ fun _ r0 => bE E fun t5 f8 E => bE E fun t6 f9 E => dR [0, 1, 0, 7, 15, 0, 32, 0, 128, 480, 992, 2047] [] 0 folM ?_))
    replace b := b.drew
    refine Dz [0, 1, 2, 3, 4, 5, 6, 7, 8, 9, 10, 11] [] (yR rfl (yFb FL_27_2 (eh a4)) (yR rfl (lb_ l.v O_22 e0 b R0) (yR rfl (m_ (iV S) (eh b0)) (yR rfl (yIa SL_22 e0 e0 b (rdI x) f8) (yR rfl (yI O_3 e0 b (rdI x) f8) (yR rfl (yFb FL_27_2 (eh a4)) (yR rfl (lb_ l.v O_22 e0 b R0) (yR rfl (m_ (iV S) (eh b0)) (yR rfl (yadd e0 rfl) (yR rfl (yIa SL_22 e0 e0 b (rdI x) f9) (yR rfl (yI O_3 e0 b (rdI x) f9) (yR rfl (ygtr e0 e0) (Rn QSn ?_)))))))))))))
    refine r0 _ _ ?_
    refine cIf e0 E (fun r1 E => ?_) fun r1 E => ?_
    ·refine sR fun _ r2 => Ya (iV 1) rfl (wK r2 (wp_ret (f7 _ _ _ (q9 _ _ _ rfl ?_))))
     cases E
     exact f6 _ _ _ _ rfl rfl (p8 _ _ rfl (b.pk 1 [] rfl) (f5 _ rfl))
    ·refine wp_skip (f7 _ _ _ (q8 _ _ (wR (Ym (iV S) (eh b0) (yY (yadd e0 rfl) (Ya (iV (wa .i64 S 1)) e0 (wN ?_)))))))
     cases E
     exact q0 _ _ _ rfl ⟨_, _, rfl, rfl, a4, rfl, b⟩
   ·refine wp_exit (q5 _ _ _ rfl ?_)
    cases E
    exact f6 _ _ _ _ rfl rfl (j8 _ _ a4 b (f5 _ rfl))
theorem sparseref09_Entries_ok {p j : Int} {R S T : LI} {g k m : Hdr} {out : (List (Int × Int × Int))} (h : sparseref09_Entries p j R S T = some out) (r : imm I1 g.v R ∈ ros) (C : imm I1 k.v S ∈ ros) (D : imm (rI .u64) m.v T ∈ ros) (b : St w0 ros rs w) :
  Calls Tryz.prog 20 #[.agg #[iV p, iV j, g.v, k.v, m.v]] w (fun e w => ∃ (U : Hdr), e = .returned (U.v) ∧ St w0 ros (row 49 rTi64i64u64 U.v out :: rs) w) := by
 refine enterQ Tryz.func20 rfl Tryz.ntmps20 rfl fun Q V => sR fun _ a3 => yBb (r_box (vals := [iV p, iV j, g.v, k.v, m.v]) b e0 rfl) fun q w b => Ya hnil.v rfl (wK a3 (seqQ fun f1 a4 a5 => sR fun _ a6 => yY (lbs_ [iV p, iV j, g.v, k.v, m.v] ST_27 e0 b R0) (bE h fun f2 a7 h => yC (yCall FN_40 (a1 e0)) (sparseref09_Check_ok a7 r C D b) ?_)))
 rintro _ w ⟨rfl, b⟩
 refine ⟨_, rfl, ?_⟩
 refine yY (yneq e0 rfl) (wK a6 ?_)
 rcases iteS h with ⟨E, h⟩ | ⟨E, h⟩
 ·refine condF e0 (nF (dT E)) (wp_skip (a4 _ _ (sR fun _ a8 => Ya hnil.v rfl (wK a8 (sQ fun _ a9 => sR fun _ b0 => Ya (iV 0) rfl (wK b0 ?_))))))
  refine blockQ fun b1 b2 => bE h fun b3 b4 h => ?_
  have b5 : ∀ (F : List (Int × Int × Int)) (t : Hdr) (f : FV) w, f 3 = t.v → St w0 ros (row 49 rTi64i64u64 t.v F :: rs) w → F = b3 → b1 (.exit 0) (fr 46 f) w := by
   intro F t f w b6 b ho
   subst ho
   refine b2 _ _ _ (a9 _ _ (sR fun _ b7 => Ym t.v (eh b6) (Ya t.v e0 (wK b7 (wp_ret ?_)))))
   cases h
   exact V _ _ _ (fin1r Tryz.results20 ⟨rfl, rfl⟩ ⟨_, rfl, b⟩)
  replace b := b.rowNh 49 rTi64i64u64
  refine loopQ (fun s a w => ∃ (G : List (Int × Int × Int)) (c : Int) (f : FV) (H : Hdr), (G, c) = s ∧ a = fr 46 f ∧ f 1 = (pB q) ∧ f 3 = H.v ∧ f 4 = iV c ∧ St w0 ros (box q 27 [iV p, iV j, g.v, k.v, m.v] :: row 49 rTi64i64u64 H.v G :: rs) w) b4 ⟨_, _, _, _, rfl, rfl, rfl, rfl, rfl, (b.pk 2 [1, 0] rfl)⟩ ?_
  rintro _ _ w f3 ⟨G, c, f, H, rfl, rfl, I, W, J, b⟩ i b8 f4 c0 c1
  refine seqQ fun f5 c2 c3 => sR fun _ c4 => Ym (iV c) (eh J) (yY (yFb FL_27_1 (eh I)) (yY (lb_ (iV j) O_3 e0 b R0) (yY (ylss e0 e0) (wK c4 ?_))))
  refine cIf e0 i (fun c5 i => ?_) fun c5 i => ?_
  ·refine wp_skip (c2 _ _ (sQ fun _ c6 => blockQ fun _ c7 => sR fun _ c8 => yY (yFb FL_27_2 (eh I)) (yY (lb_ g.v O_22 e0 b R0) (Ym (iV c) (eh J) (bE i fun c9 X i => yY (yIa SL_22 e0 e0 b (rdI r) X) (yY (yI O_3 e0 b (rdI r) X) (Ya (iV c9) e0 (wN ?_))))))))
   refine c8 _ _ (blockQ fun d0 d1 => bE i fun d2 d3 i => ?_)
   have d4 : ∀ (K : List (Int × Int × Int)) (L : Hdr) (f : FV) w, f 1 = (pB q) → f 3 = L.v → f 4 = iV c → St w0 ros (box q 27 [iV p, iV j, g.v, k.v, m.v] :: row 49 rTi64i64u64 L.v K :: rs) w → K = d2 → d0 (.exit 2) (fr 46 f) w := by
    intro K L f w d5 d6 d7 b ho
    subst ho
    refine d1 _ _ _ (c7 _ _ _ (c6 _ _ (wR (Ym (iV c) (eh d7) (yY (yadd e0 rfl) (Ya (iV (wa .i64 c 1)) e0 (wN ?_)))))))
    cases i
    exact c0 _ _ _ rfl ⟨_, _, _, _, rfl, rfl, d5, d6, rfl, b⟩
   refine loopQ (fun s a w => ∃ (N : List (Int × Int × Int)) (o : Int) (f : FV) (u : Hdr), (N, o) = s ∧ a = fr 46 f ∧ f 1 = (pB q) ∧ f 3 = u.v ∧ f 4 = iV c ∧ f 5 = iV o ∧ St w0 ros (box q 27 [iV p, iV j, g.v, k.v, m.v] :: row 49 rTi64i64u64 u.v N :: rs) w) d3 ⟨_, _, _, _, rfl, rfl, I, W, J, rfl, b⟩ ?_
   rintro _ _ w f6 ⟨N, o, f, u, rfl, rfl, x, O, A, B, b⟩ d d8 f7 d9 e1
   refine seqQ fun f8 e2 e3 => sR fun _ e4 => Ym (iV o) (eh B) (yY (yFb FL_27_2 (eh x)) (yY (lb_ g.v O_22 e0 b R0) (Ym (iV c) (eh A) (yY (yadd e0 rfl) (bE d fun f9 Z d => yY (yIa SL_22 e0 e0 b (rdI r) Z) (yY (yI O_3 e0 b (rdI r) Z) (yY (ylss e0 e0) (wK e4 ?_))))))))
   refine cIf e0 d (fun e5 d => ?_) fun e5 d => ?_
   ·refine wp_skip (e2 _ _ (sQ fun _ e6 => blockQ fun _ e7 => bE d fun y a0 d => bE d fun z a2 d => bE d fun g0 e8 d => dR [0, 0, 2, 0, 14, 30, 0, 0, 128, 0, 896, 1920, 4094, 8190, 16383, 32767] [13, 14, 15] 3 folM ?_))
    replace b := b.drew
    refine Dn [0, 1, 2, 3, 4, 5, 6, 7, 8, 9, 10, 11, 12] [] [13] (yR rfl (m_ u.v (eh O)) (yR rfl (yFb FL_27_3 (eh x)) (yR rfl (lb_ k.v O_22 e0 b R0) (yR rfl (m_ (iV o) (eh B)) (yR rfl (yIa SL_22 e0 e0 b (rdI C) a0) (yR rfl (yI O_3 e0 b (rdI C) a0) (yR rfl (m_ (iV c) (eh A)) (yR rfl (yFb FL_27_4 (eh x)) (yR rfl (lb_ m.v O_25 e0 b R0) (yR rfl (m_ (iV o) (eh B)) (yR rfl (yIa SL_25 e0 e0 b (rdI D) a2) (yR rfl (yI O_47 e0 b (rdI D) a2) (yR rfl (ybuild (us := [iV y, iV c, .int .u64 z]) [(0, iV y), (1, iV c), (2, .int .u64 z)] SO_49 (bp3 e0 e0 e0) rfl) ?_)))))))))))))
    refine Rn QSn ?_
    refine Lc1 rfl ?_
    refine LH wn (rLt (n := 1) (l := [(y, c, z)]) b SL_44 [.agg #[iV y, iV c, .int .u64 z]] (bp1 e0) rfl rfl (mks1 (cs := [iV y, iV c, .int .u64 z]) rfl (mkF rfl) mks0)) fun g1 w b => Dn [] [0] [14] (Rn (yS rfl (m_ u.v (eh O)) QSn) ?_)
    refine Lc1 rfl ?_
    replace b := b.pk 3 [2, 0, 0] rfl
    refine LH wn (rAp b SL_44 e0 e0 rO1 e8) fun e9 w b => Dn [] [] [15] (Rn QSn ?_)
    refine Lc1 rfl ?_
    refine Ly wn (a_ e9.v e0) (Dz [] [] (Rn QSn (e7 _ _ _ (e6 _ _ (wR (Ym (iV o) (eh B) (yY (yadd e0 rfl) (Ya (iV (wa .i64 o 1)) e0 (wN ?_)))))))))
    cases d
    exact d9 _ _ _ rfl ⟨_, _, _, _, rfl, rfl, x, rfl, A, rfl, (b.pk 3 [2, 0] rfl)⟩
   ·refine wp_exit (e3 _ _ _ rfl ?_)
    cases d
    exact e1 _ _ _ _ rfl rfl (d4 _ _ _ _ x O A b (d8 _ rfl))
  ·refine wp_exit (c3 _ _ _ rfl ?_)
   cases i
   exact c1 _ _ _ _ rfl rfl (b5 _ _ _ _ W (b.pk 2 [1] rfl) (b8 _ rfl))
 ·refine condT e0 (nT (dF E)) (sR fun _ f0 => Ya hnil.v rfl (wK f0 (wp_ret (a5 _ _ _ rfl ?_))))
  cases h
  replace b := b.rowNh 49 rTi64i64u64
  exact V _ _ _ (fin1r Tryz.results20 ⟨rfl, rfl⟩ ⟨_, rfl, (b.pk 2 [0] rfl)⟩)
theorem sparselaw15_BlocksCoarse_ok {a8 a9 : Int} {b2 : LI} {X : Hdr} {out : Bool} (h : sparselaw15_BlocksCoarse a8 a9 b2 = some out) (p1 : out = true) (b3 : imm I1 X.v b2 ∈ ros) (f6 : globF ∈ ros) (c : St w0 ros rs w) :
  Calls Tryz.prog 4 #[iV a8, iV a9, X.v] w (fun e w => e = .returned (.bool out) ∧ St w0 ros rs w) := by
 refine enterQ Tryz.func4 rfl Tryz.ntmps4 rfl fun Q Z => sR fun _ f7 => Ya (.bool false) rfl (wK f7 (seqQ fun p2 f8 f9 => sR fun _ g0 => Ym X.v e0 (yY (yLen SL_22 e0 c (rdI b3)) (yY (ygtr e0 rfl) (wK g0 ?_)))))
 refine cIf e0 h (fun g1 h => ?_) fun g1 h => ?_
 ·refine sR fun _ g2 => bE h fun g3 g4 h => yC (yCall FN_9 a0) (sparselaw15_awake_ok g4 c) ?_
  rintro _ w ⟨rfl, c⟩
  refine ⟨_, rfl, ?_⟩
  refine Ya (.bool g3) e0 (wK g2 (wp_ret (f9 _ _ _ rfl ?_)))
  cases h
  exact Z _ _ _ (fin1r Tryz.results4 ⟨rfl, rfl⟩ ⟨rfl, c⟩)
 ·refine wp_skip (f8 _ _ (sR fun _ g5 => Ym (iV a8) e0 (bE h fun G g6 h => yC (yCall FN_10 (a2 e0 rfl)) (sparsekit_Place_ok g6 c) ?_)))
  rintro _ w ⟨rfl, c⟩
  refine ⟨_, rfl, ?_⟩
  refine Ym (iV a9) e0 (bE h fun I g7 h => yC (yCall FN_10 (a2 e0 rfl)) (sparsekit_Place_ok g7 c) ?_)
  rintro _ w ⟨rfl, c⟩
  refine ⟨_, rfl, ?_⟩
  refine Ya (iV G) e0 (Ya (iV I) e0 (wK g5 (sR fun _ g8 => Ym (iV G) e0 (Ym (iV I) e0 (Ym X.v e0 (bE h fun j g9 h => yC (yCall FN_11 (a3 e0 e0 e0)) (sparsemake_Matrix_ok g9 b3 f6 c) ?_))))))
  rintro _ w ⟨D, E, F, rfl, c⟩
  refine ⟨_, rfl, ?_⟩
  refine yBb (rAl c ZT_27) fun O w c => yT (r_stbn (vals' := [iV j.1, iV j.2.1, D.v, E.v, F.v]) (us := [iV j.1, iV j.2.1, D.v, E.v, F.v]) c ST_27 e0 e0 rfl rfl (one_of rfl) rfl) fun w c => wK g8 (sR fun _ h0 => yY (lbs_ [iV j.1, iV j.2.1, D.v, E.v, F.v] ST_27 e0 c R0) (bE h fun b h1 h => ?_))
  replace c := (((((c.pk 2 [1, 0] rfl).fz).pk 2 [1, 0] rfl).fz).pk 2 [1, 0] rfl).fz
  refine yC (yCall FN_13 (a1 e0)) (blocks_Coarse_ok h1 F2 F1 F0 c) ?_
  rintro _ w ⟨m, k, n, o, i, l, rfl, c⟩
  refine ⟨_, rfl, ?_⟩
  refine Ym (.tuple #[.agg #[m.v, k.v, n.v, o.v, i.v, l.v], iV b.2.2.2.2.2.2]) e0 (yY (x_ (.agg #[m.v, k.v, n.v, o.v, i.v, l.v]) e0) (yY (x_ (iV b.2.2.2.2.2.2) e0) (yBb (rAl c ZT_31) fun p w c => yT (r_stbn (vals' := [m.v, k.v, n.v, o.v, i.v, l.v]) (us := [m.v, k.v, n.v, o.v, i.v, l.v]) c ST_31 e0 e0 rfl rfl (one_of rfl) rfl) fun w c => Ya (iV b.2.2.2.2.2.2) e0 (wK h0 (sR fun _ h2 => Ym (iV G) e0 (yY (yFb FL_31_0 e0) ?_))))))
  refine yY (lb_ m.v O_22 e0 c R0) (yY (yFb FL_31_2 e0) (yY (lb_ n.v O_22 e0 c R0) (yY (yFb FL_31_4 e0) (yY (lb_ i.v O_22 e0 c R0) (bE h fun q h3 h => ?_)))))
  replace c := (((((c.pk 2 [1, 0] rfl).fz).pk 3 [2, 0, 0] rfl).fz).pk 4 [3, 0, 0, 0] rfl).fz
  refine yC (yCall FN_19 (a4 e0 e0 e0 e0)) (sparselaw15_part_ok h3 F2 F1 F0 c) ?_
  rintro _ w ⟨x, rfl, c⟩
  refine ⟨_, rfl, ?_⟩
  refine Ym (.tuple #[x.v, .bool q.2]) e0 (yY (x_ x.v e0) (yY (x_ (.bool q.2) e0) (Ya x.v e0 (Ya (.bool q.2) e0 (wK h2 (sR fun _ h5 => Ym (iV I) e0 (yY (yFb FL_31_1 e0) (yY (lb_ k.v O_22 e0 c R1) (yY (yFb FL_31_3 e0) (yY (lb_ o.v O_22 e0 c R1) ?_))))))))))
  refine yY (yFb FL_31_5 e0) (yY (lb_ l.v O_22 e0 c R1) (bE h fun r h6 h => ?_))
  replace c := (((((c.pk 3 [2, 0, 0] rfl).fz).pk 3 [2, 0, 0] rfl).fz).pk 3 [2, 0, 0] rfl).fz
  refine yC (yCall FN_19 (a4 e0 e0 e0 e0)) (sparselaw15_part_ok h6 F2 F1 F0 c) ?_
  rintro _ w ⟨y, rfl, c⟩
  refine ⟨_, rfl, ?_⟩
  refine Ym (.tuple #[y.v, .bool r.2]) e0 (yY (x_ y.v e0) (yY (x_ (.bool r.2) e0) (Ya y.v e0 (Ya (.bool r.2) e0 (wK h5 (seqQ fun p3 h7 h8 => sR fun _ h9 => Ym (iV b.2.2.2.2.2.2) e0 (yY (yneq e0 rfl) (Ym (.bool (!(decide (b.2.2.2.2.2.2 = 0)))) e0 ?_))))))))
  refine joinW 3 (fun f w => f 0 = iV G ∧ f 1 = iV I ∧ f 7 = (pB O) ∧ f 8 = (pB p) ∧ f 10 = x.v ∧ f 12 = y.v ∧ f 13 = .bool r.2 ∧ f 62 = .bool ((!(decide (b.2.2.2.2.2.2 = 0))) || (!q.2)) ∧ St w0 (imm I1 D.v j.2.2.1 :: imm I1 E.v j.2.2.2.1 :: imm (rI .u64) F.v j.2.2.2.2 :: imm I1 m.v b.1 :: imm I1 k.v b.2.1 :: imm I1 n.v b.2.2.1 :: imm I1 o.v b.2.2.2.1 :: imm I1 i.v b.2.2.2.2.1 :: imm I1 l.v b.2.2.2.2.2.1 :: ros) (box O 27 [iV j.1, iV j.2.1, D.v, E.v, F.v] :: box p 31 [m.v, k.v, n.v, o.v, i.v, l.v] :: row 3 I1 x.v q.1 :: row 3 I1 y.v r.1 :: rs) w) (fun b4 => ?_) ?_
  ·rcases Bool.eq_false_or_eq_true (!(decide (b.2.2.2.2.2.2 = 0))) with J | J
   ·exact gN J (gN J (yY (pt_ (.bool true) e0 J rfl) (b4 _ _ ⟨rfl, rfl, rfl, rfl, rfl, rfl, rfl, (congrArg Value.bool (orT J)), ((c.pk 4 [3, 2, 1, 0] rfl).facts (allC F8 (allC F7 (allC F6 (allC F5 (allC F2 (allC F4 (allC F1 (allC F3 (allC F0 (allT (allT (allT (allT (allT (allT (allT (allT (allT allI)))))))))))))))))))⟩)))
   ·exact yG J (m_ (.bool q.2) e0) (yG J (ynot e0) (yY (pf_ (.bool (!q.2)) e0 J e0) (b4 _ _ ⟨rfl, rfl, rfl, rfl, rfl, rfl, rfl, (congrArg Value.bool (orF J)), ((c.pk 4 [3, 2, 1, 0] rfl).facts (allC F8 (allC F7 (allC F6 (allC F5 (allC F2 (allC F4 (allC F1 (allC F3 (allC F0 (allT (allT (allT (allT (allT (allT (allT (allT (allT allI)))))))))))))))))))⟩)))
  rintro f w ⟨b5, b6, b7, b8, b9, c0, i0, i1, c⟩
  refine Ym (.bool ((!(decide (b.2.2.2.2.2.2 = 0))) || (!q.2))) (eh i1) ?_
  refine joinW 3 (fun f w => f 0 = iV G ∧ f 1 = iV I ∧ f 7 = (pB O) ∧ f 8 = (pB p) ∧ f 10 = x.v ∧ f 12 = y.v ∧ f 66 = .bool (((!(decide (b.2.2.2.2.2.2 = 0))) || (!q.2)) || (!r.2)) ∧ St w0 (imm I1 D.v j.2.2.1 :: imm I1 E.v j.2.2.2.1 :: imm (rI .u64) F.v j.2.2.2.2 :: imm I1 m.v b.1 :: imm I1 k.v b.2.1 :: imm I1 n.v b.2.2.1 :: imm I1 o.v b.2.2.2.1 :: imm I1 i.v b.2.2.2.2.1 :: imm I1 l.v b.2.2.2.2.2.1 :: ros) (box O 27 [iV j.1, iV j.2.1, D.v, E.v, F.v] :: box p 31 [m.v, k.v, n.v, o.v, i.v, l.v] :: row 3 I1 x.v q.1 :: row 3 I1 y.v r.1 :: rs) w) (fun c1 => ?_) ?_
  ·rcases Bool.eq_false_or_eq_true ((!(decide (b.2.2.2.2.2.2 = 0))) || (!q.2)) with K | K
   ·exact gN K (gN K (yY (pt_ (.bool true) e0 K rfl) (c1 _ _ ⟨b5, b6, b7, b8, b9, c0, (congrArg Value.bool (orT K)), c⟩)))
   ·exact yG K (m_ (.bool r.2) (eh i0)) (yG K (ynot e0) (yY (pf_ (.bool (!r.2)) e0 K e0) (c1 _ _ ⟨b5, b6, b7, b8, b9, c0, (congrArg Value.bool (orF K)), c⟩)))
  rintro f w ⟨i2, c2, c3, U, c4, c6, i3, c⟩
  refine Ym (.bool (((!(decide (b.2.2.2.2.2.2 = 0))) || (!q.2)) || (!r.2))) (eh i3) ?_
  refine joinW 14 (fun f w => f 1 = iV I ∧ f 7 = (pB O) ∧ f 8 = (pB p) ∧ f 10 = x.v ∧ f 12 = y.v ∧ f 81 = .bool ((((!(decide (b.2.2.2.2.2.2 = 0))) || (!q.2)) || (!r.2)) || (!(decide ((wa .i64 (wa .i64 (b.1.length : Int) (b.2.2.1.length : Int)) (b.2.2.2.2.1.length : Int)) = G)))) ∧ St w0 (imm I1 D.v j.2.2.1 :: imm I1 E.v j.2.2.2.1 :: imm (rI .u64) F.v j.2.2.2.2 :: imm I1 m.v b.1 :: imm I1 k.v b.2.1 :: imm I1 n.v b.2.2.1 :: imm I1 o.v b.2.2.2.1 :: imm I1 i.v b.2.2.2.2.1 :: imm I1 l.v b.2.2.2.2.2.1 :: ros) (box O 27 [iV j.1, iV j.2.1, D.v, E.v, F.v] :: box p 31 [m.v, k.v, n.v, o.v, i.v, l.v] :: row 3 I1 x.v q.1 :: row 3 I1 y.v r.1 :: rs) w) (fun c7 => ?_) ?_
  ·rcases Bool.eq_false_or_eq_true (((!(decide (b.2.2.2.2.2.2 = 0))) || (!q.2)) || (!r.2)) with d | d
   ·exact gN d (gN d (gN d (gN d (gN d (gN d (gN d (gN d (gN d (gN d (gN d (gN d (gN d (yY (pt_ (.bool true) e0 d rfl) (c7 _ _ ⟨c2, c3, U, c4, c6, (congrArg Value.bool (orT d)), c⟩))))))))))))))
   ·exact yG d (yFb FL_31_0 (eh U)) (yG d (lb_ m.v O_22 e0 c R1) (yG d (yLen SL_22 e0 c (rdI F3)) (yG d (yFb FL_31_2 (eh U)) (yG d (lb_ n.v O_22 e0 c R1) (yG d (yLen SL_22 e0 c (rdI F5)) (yG d (yadd e0 e0) (yG d (yFb FL_31_4 (eh U)) (yG d (lb_ i.v O_22 e0 c R1) (yG d (yLen SL_22 e0 c (rdI F7)) (yG d (yadd e0 e0) (yG d (m_ (iV G) (eh i2)) (yG d (yneq e0 e0) (yY (pf_ (.bool (!(decide ((wa .i64 (wa .i64 (b.1.length : Int) (b.2.2.1.length : Int)) (b.2.2.2.2.1.length : Int)) = G)))) e0 d e0) (c7 _ _ ⟨c2, c3, U, c4, c6, (congrArg Value.bool (orF d)), c⟩))))))))))))))
  rintro f w ⟨i4, c8, V, c9, d0, i5, c⟩
  refine Ym (.bool ((((!(decide (b.2.2.2.2.2.2 = 0))) || (!q.2)) || (!r.2)) || (!(decide ((wa .i64 (wa .i64 (b.1.length : Int) (b.2.2.1.length : Int)) (b.2.2.2.2.1.length : Int)) = G))))) (eh i5) ?_
  refine joinW 14 (fun f w => f 7 = (pB O) ∧ f 8 = (pB p) ∧ f 10 = x.v ∧ f 12 = y.v ∧ f 96 = .bool (((((!(decide (b.2.2.2.2.2.2 = 0))) || (!q.2)) || (!r.2)) || (!(decide ((wa .i64 (wa .i64 (b.1.length : Int) (b.2.2.1.length : Int)) (b.2.2.2.2.1.length : Int)) = G)))) || (!(decide ((wa .i64 (wa .i64 (b.2.1.length : Int) (b.2.2.2.1.length : Int)) (b.2.2.2.2.2.1.length : Int)) = I)))) ∧ St w0 (imm I1 D.v j.2.2.1 :: imm I1 E.v j.2.2.2.1 :: imm (rI .u64) F.v j.2.2.2.2 :: imm I1 m.v b.1 :: imm I1 k.v b.2.1 :: imm I1 n.v b.2.2.1 :: imm I1 o.v b.2.2.2.1 :: imm I1 i.v b.2.2.2.2.1 :: imm I1 l.v b.2.2.2.2.2.1 :: ros) (box O 27 [iV j.1, iV j.2.1, D.v, E.v, F.v] :: box p 31 [m.v, k.v, n.v, o.v, i.v, l.v] :: row 3 I1 x.v q.1 :: row 3 I1 y.v r.1 :: rs) w) (fun d1 => ?_) ?_
  ·rcases Bool.eq_false_or_eq_true ((((!(decide (b.2.2.2.2.2.2 = 0))) || (!q.2)) || (!r.2)) || (!(decide ((wa .i64 (wa .i64 (b.1.length : Int) (b.2.2.1.length : Int)) (b.2.2.2.2.1.length : Int)) = G)))) with g | g
   ·exact gN g (gN g (gN g (gN g (gN g (gN g (gN g (gN g (gN g (gN g (gN g (gN g (gN g (yY (pt_ (.bool true) e0 g rfl) (d1 _ _ ⟨c8, V, c9, d0, (congrArg Value.bool (orT g)), c⟩))))))))))))))
   ·exact yG g (yFb FL_31_1 (eh V)) (yG g (lb_ k.v O_22 e0 c R1) (yG g (yLen SL_22 e0 c (rdI F4)) (yG g (yFb FL_31_3 (eh V)) (yG g (lb_ o.v O_22 e0 c R1) (yG g (yLen SL_22 e0 c (rdI F6)) (yG g (yadd e0 e0) (yG g (yFb FL_31_5 (eh V)) (yG g (lb_ l.v O_22 e0 c R1) (yG g (yLen SL_22 e0 c (rdI F8)) (yG g (yadd e0 e0) (yG g (m_ (iV I) (eh i4)) (yG g (yneq e0 e0) (yY (pf_ (.bool (!(decide ((wa .i64 (wa .i64 (b.2.1.length : Int) (b.2.2.2.1.length : Int)) (b.2.2.2.2.2.1.length : Int)) = I)))) e0 g e0) (d1 _ _ ⟨c8, V, c9, d0, (congrArg Value.bool (orF g)), c⟩))))))))))))))
  rintro f w ⟨i6, i7, i8, i9, j0, c⟩
  refine wK h9 (cB (eh j0) h (fun j5 h => ?_) fun j5 h => ?_)
  ·refine sR fun _ j8 => Ya (.bool false) rfl (wK j8 (wp_ret (h8 _ _ _ rfl ?_)))
   cases h
   exact Z _ _ _ (fin1r Tryz.results4 ⟨rfl, rfl⟩ ⟨rfl, ((c.pk 4 [] rfl).facts (allT (allT (allT (allT (allT (allT (allT (allT (allT allI))))))))))⟩)
  ·refine wp_skip (h7 _ _ (sR fun _ k0 => yY (lbs_ [iV j.1, iV j.2.1, D.v, E.v, F.v] ST_27 (eh i6) c R0) (bE h fun l0 l1 h => yC (yCall FN_20 (a1 e0)) (sparseref09_Entries_ok l1 F0 F1 F2 c) ?_)))
   rintro _ w ⟨T, rfl, c⟩
   refine ⟨_, rfl, ?_⟩
   refine Ya T.v e0 (wK k0 (seqQ fun p4 l2 l3 => sR fun _ l4 => Ya (iV 0) rfl (wK l4 (blockQ fun d2 d3 => bE h fun d4 l5 h => ?_))))
   have l6 : ∀ (f : FV) w, f 8 = (pB p) → St w0 (imm I1 m.v b.1 :: imm I1 k.v b.2.1 :: imm I1 n.v b.2.2.1 :: imm I1 o.v b.2.2.2.1 :: imm I1 i.v b.2.2.2.2.1 :: imm I1 l.v b.2.2.2.2.2.1 :: ros) (box p 31 [m.v, k.v, n.v, o.v, i.v, l.v] :: rs) w → .inl () = d4 → d2 (.exit 0) (fr 174 f) w := by
    intro f w H c ho
    subst ho
    refine d3 _ _ _ (l2 _ _ (sQ fun _ l7 => dR [0, 1, 3, 0, 8, 24, 63, 0, 128, 384, 0, 1024, 3072, 8064, 127, 32767] [14, 15] 2 folM ?_))
    replace c := c.drew
    refine Dn [0, 1, 2, 3, 4, 5, 6, 7, 8, 9, 10, 11, 12, 13] [] [14] (yR rfl (yFb FL_31_1 (eh H)) (yR rfl (lb_ k.v O_22 e0 c R0) (yR rfl (yLen SL_22 e0 c (rdI F1)) (yR rfl (yFb FL_31_0 (eh H)) (yR rfl (lb_ m.v O_22 e0 c R0) (yR rfl (yLen SL_22 e0 c (rdI F0)) (yR rfl (ysub e0 e0) (yR rfl (yFb FL_31_4 (eh H)) (yR rfl (lb_ i.v O_22 e0 c R0) (yR rfl (yLen SL_22 e0 c (rdI F4)) (yR rfl (yFb FL_31_5 (eh H)) (yR rfl (lb_ l.v O_22 e0 c R0) (yR rfl (yLen SL_22 e0 c (rdI F5)) ?_)))))))))))))
    refine yR rfl (ysub e0 e0) (Rn QSn ?_)
    refine Lc1 rfl ?_
    refine Ly wn (a_ (iV (ws .i64 (b.2.1.length : Int) (b.1.length : Int))) e0) (Dn [] [7, 8, 9, 10, 11, 12, 13] [15] (Rn (yS rfl (yFb FL_31_4 (eh H)) (yS rfl (lb_ i.v O_22 e0 c R0) (yS rfl (yLen SL_22 e0 c (rdI F4)) (yS rfl (yFb FL_31_5 (eh H)) (yS rfl (lb_ l.v O_22 e0 c R0) (yS rfl (yLen SL_22 e0 c (rdI F5)) (yS rfl (ysub e0 e0) QSn))))))) ?_))
    refine Lc1 rfl ?_
    refine Ly wn (a_ (iV (ws .i64 (b.2.2.2.2.1.length : Int) (b.2.2.2.2.2.1.length : Int))) e0) (Dz [] [] (Rn QSn (l7 _ _ (sR fun _ l8 => yY (yFb FL_31_2 (eh H)) (yY (lb_ n.v O_22 e0 c R0) (yY (yLen SL_22 e0 c (rdI F2)) (yY (yFb FL_31_3 (eh H)) (yY (lb_ o.v O_22 e0 c R0) (yY (yLen SL_22 e0 c (rdI F3)) (yY (yeql e0 e0) (Ym (.bool (decide ((b.2.2.1.length : Int) = (b.2.2.2.1.length : Int)))) e0 ?_)))))))))))
    refine joinW 3 (fun f w => f 8 = (pB p) ∧ f 16 = iV (ws .i64 (b.2.1.length : Int) (b.1.length : Int)) ∧ f 17 = iV (ws .i64 (b.2.2.2.2.1.length : Int) (b.2.2.2.2.2.1.length : Int)) ∧ f 146 = .bool ((decide ((b.2.2.1.length : Int) = (b.2.2.2.1.length : Int))) && (decide ((0 : Int) ≤ (ws .i64 (b.2.1.length : Int) (b.1.length : Int))))) ∧ St w0 (imm I1 m.v b.1 :: imm I1 k.v b.2.1 :: imm I1 n.v b.2.2.1 :: imm I1 o.v b.2.2.2.1 :: imm I1 i.v b.2.2.2.2.1 :: imm I1 l.v b.2.2.2.2.2.1 :: ros) (box p 31 [m.v, k.v, n.v, o.v, i.v, l.v] :: rs) w) (fun d5 => ?_) ?_
    ·rcases Bool.eq_false_or_eq_true (decide ((b.2.2.1.length : Int) = (b.2.2.2.1.length : Int))) with L | L
     ·exact yG L (m_ (iV (ws .i64 (b.2.1.length : Int) (b.1.length : Int))) e0) (yG L (ygeq e0 rfl) (yY (pt_ (.bool (decide ((0 : Int) ≤ (ws .i64 (b.2.1.length : Int) (b.1.length : Int))))) e0 L e0) (d5 _ _ ⟨H, rfl, rfl, (congrArg Value.bool (andT L)), c⟩)))
     ·exact gN L (gN L (yY (pf_ (.bool false) e0 L rfl) (d5 _ _ ⟨H, rfl, rfl, (congrArg Value.bool (andF L)), c⟩)))
    rintro f w ⟨d6, d7, b0, l9, c⟩
    refine Ym (.bool ((decide ((b.2.2.1.length : Int) = (b.2.2.2.1.length : Int))) && (decide ((0 : Int) ≤ (ws .i64 (b.2.1.length : Int) (b.1.length : Int)))))) (eh l9) ?_
    refine joinW 3 (fun f w => f 8 = (pB p) ∧ f 16 = iV (ws .i64 (b.2.1.length : Int) (b.1.length : Int)) ∧ f 17 = iV (ws .i64 (b.2.2.2.2.1.length : Int) (b.2.2.2.2.2.1.length : Int)) ∧ f 150 = .bool (((decide ((b.2.2.1.length : Int) = (b.2.2.2.1.length : Int))) && (decide ((0 : Int) ≤ (ws .i64 (b.2.1.length : Int) (b.1.length : Int))))) && (decide ((0 : Int) ≤ (ws .i64 (b.2.2.2.2.1.length : Int) (b.2.2.2.2.2.1.length : Int))))) ∧ St w0 (imm I1 m.v b.1 :: imm I1 k.v b.2.1 :: imm I1 n.v b.2.2.1 :: imm I1 o.v b.2.2.2.1 :: imm I1 i.v b.2.2.2.2.1 :: imm I1 l.v b.2.2.2.2.2.1 :: ros) (box p 31 [m.v, k.v, n.v, o.v, i.v, l.v] :: rs) w) (fun d8 => ?_) ?_
    ·rcases Bool.eq_false_or_eq_true ((decide ((b.2.2.1.length : Int) = (b.2.2.2.1.length : Int))) && (decide ((0 : Int) ≤ (ws .i64 (b.2.1.length : Int) (b.1.length : Int))))) with N | N
     ·exact yG N (m_ (iV (ws .i64 (b.2.2.2.2.1.length : Int) (b.2.2.2.2.2.1.length : Int))) (eh b0)) (yG N (ygeq e0 rfl) (yY (pt_ (.bool (decide ((0 : Int) ≤ (ws .i64 (b.2.2.2.2.1.length : Int) (b.2.2.2.2.2.1.length : Int))))) e0 N e0) (d8 _ _ ⟨d6, d7, b0, (congrArg Value.bool (andT N)), c⟩)))
     ·exact gN N (gN N (yY (pf_ (.bool false) e0 N rfl) (d8 _ _ ⟨d6, d7, b0, (congrArg Value.bool (andF N)), c⟩)))
    rintro f w ⟨a5, m0, b1, m1, c⟩
    refine Ym (.bool (((decide ((b.2.2.1.length : Int) = (b.2.2.2.1.length : Int))) && (decide ((0 : Int) ≤ (ws .i64 (b.2.1.length : Int) (b.1.length : Int))))) && (decide ((0 : Int) ≤ (ws .i64 (b.2.2.2.2.1.length : Int) (b.2.2.2.2.2.1.length : Int)))))) (eh m1) ?_
    refine joinW 9 (fun f w => f 8 = (pB p) ∧ f 17 = iV (ws .i64 (b.2.2.2.2.1.length : Int) (b.2.2.2.2.2.1.length : Int)) ∧ f 160 = .bool ((((decide ((b.2.2.1.length : Int) = (b.2.2.2.1.length : Int))) && (decide ((0 : Int) ≤ (ws .i64 (b.2.1.length : Int) (b.1.length : Int))))) && (decide ((0 : Int) ≤ (ws .i64 (b.2.2.2.2.1.length : Int) (b.2.2.2.2.2.1.length : Int))))) && ((decide ((0 : Int) < (ws .i64 (b.2.1.length : Int) (b.1.length : Int)))) || (decide ((b.2.1.length : Int) = 0)))) ∧ St w0 (imm I1 m.v b.1 :: imm I1 k.v b.2.1 :: imm I1 n.v b.2.2.1 :: imm I1 o.v b.2.2.2.1 :: imm I1 i.v b.2.2.2.2.1 :: imm I1 l.v b.2.2.2.2.2.1 :: ros) (box p 31 [m.v, k.v, n.v, o.v, i.v, l.v] :: rs) w) (fun d9 => ?_) ?_
    ·rcases Bool.eq_false_or_eq_true (((decide ((b.2.2.1.length : Int) = (b.2.2.2.1.length : Int))) && (decide ((0 : Int) ≤ (ws .i64 (b.2.1.length : Int) (b.1.length : Int))))) && (decide ((0 : Int) ≤ (ws .i64 (b.2.2.2.2.1.length : Int) (b.2.2.2.2.2.1.length : Int))))) with z | z
     ·refine yG z (m_ (iV (ws .i64 (b.2.1.length : Int) (b.1.length : Int))) (eh m0)) (yG z (ygtr e0 rfl) (yG z (m_ (.bool (decide ((0 : Int) < (ws .i64 (b.2.1.length : Int) (b.1.length : Int))))) e0) ?_))
      refine joinW 5 (fun f w => f 8 = (pB p) ∧ f 17 = iV (ws .i64 (b.2.2.2.2.1.length : Int) (b.2.2.2.2.2.1.length : Int)) ∧ f 151 = .bool (((decide ((b.2.2.1.length : Int) = (b.2.2.2.1.length : Int))) && (decide ((0 : Int) ≤ (ws .i64 (b.2.1.length : Int) (b.1.length : Int))))) && (decide ((0 : Int) ≤ (ws .i64 (b.2.2.2.2.1.length : Int) (b.2.2.2.2.2.1.length : Int))))) ∧ f 159 = .bool ((decide ((0 : Int) < (ws .i64 (b.2.1.length : Int) (b.1.length : Int)))) || (decide ((b.2.1.length : Int) = 0))) ∧ St w0 (imm I1 m.v b.1 :: imm I1 k.v b.2.1 :: imm I1 n.v b.2.2.1 :: imm I1 o.v b.2.2.2.1 :: imm I1 i.v b.2.2.2.2.1 :: imm I1 l.v b.2.2.2.2.2.1 :: ros) (box p 31 [m.v, k.v, n.v, o.v, i.v, l.v] :: rs) w) (fun e1 => ?_) ?_
      ·rcases Bool.eq_false_or_eq_true (decide ((0 : Int) < (ws .i64 (b.2.1.length : Int) (b.1.length : Int)))) with B | B
       ·exact gN B (gN B (gN B (gN B (yG z (pt_ (.bool true) e0 B rfl) (e1 _ _ ⟨a5, b1, rfl, (congrArg Value.bool (orT B)), c⟩)))))
       ·exact yG B (yFb FL_31_1 (eh a5)) (yG B (lb_ k.v O_22 e0 c R0) (yG B (yLen SL_22 e0 c (rdI F1)) (yG B (yeql e0 rfl) (yG z (pf_ (.bool (decide ((b.2.1.length : Int) = 0))) e0 B e0) (e1 _ _ ⟨a5, b1, rfl, (congrArg Value.bool (orF B)), c⟩)))))
      rintro f w ⟨m2, m3, m4, m5, c⟩
      exact yY (pt_ (.bool ((decide ((0 : Int) < (ws .i64 (b.2.1.length : Int) (b.1.length : Int)))) || (decide ((b.2.1.length : Int) = 0)))) (eh m4) z (eh m5)) (d9 _ _ ⟨m2, m3, (congrArg Value.bool (andT z)), c⟩)
     ·exact gN z (gN z (gN z (Gn (wxu rfl rfl rfl) rfl (Gn (wxu rfl rfl rfl) rfl (Gn (wxu rfl rfl rfl) rfl (Gn (wxu rfl rfl rfl) rfl (gN z (yY (pf_ (.bool false) e0 z rfl) (d9 _ _ ⟨a5, b1, (congrArg Value.bool (andF z)), c⟩)))))))))
    rintro f w ⟨m6, m7, m8, c⟩
    refine Ym (.bool ((((decide ((b.2.2.1.length : Int) = (b.2.2.2.1.length : Int))) && (decide ((0 : Int) ≤ (ws .i64 (b.2.1.length : Int) (b.1.length : Int))))) && (decide ((0 : Int) ≤ (ws .i64 (b.2.2.2.2.1.length : Int) (b.2.2.2.2.2.1.length : Int))))) && ((decide ((0 : Int) < (ws .i64 (b.2.1.length : Int) (b.1.length : Int)))) || (decide ((b.2.1.length : Int) = 0))))) (eh m8) ?_
    refine joinW 9 (fun f w => f 170 = .bool (((((decide ((b.2.2.1.length : Int) = (b.2.2.2.1.length : Int))) && (decide ((0 : Int) ≤ (ws .i64 (b.2.1.length : Int) (b.1.length : Int))))) && (decide ((0 : Int) ≤ (ws .i64 (b.2.2.2.2.1.length : Int) (b.2.2.2.2.2.1.length : Int))))) && ((decide ((0 : Int) < (ws .i64 (b.2.1.length : Int) (b.1.length : Int)))) || (decide ((b.2.1.length : Int) = 0)))) && ((decide ((0 : Int) < (ws .i64 (b.2.2.2.2.1.length : Int) (b.2.2.2.2.2.1.length : Int)))) || (decide ((b.2.2.2.2.1.length : Int) = 0)))) ∧ St w0 ros rs w) (fun e2 => ?_) ?_
    ·rcases Bool.eq_false_or_eq_true ((((decide ((b.2.2.1.length : Int) = (b.2.2.2.1.length : Int))) && (decide ((0 : Int) ≤ (ws .i64 (b.2.1.length : Int) (b.1.length : Int))))) && (decide ((0 : Int) ≤ (ws .i64 (b.2.2.2.2.1.length : Int) (b.2.2.2.2.2.1.length : Int))))) && ((decide ((0 : Int) < (ws .i64 (b.2.1.length : Int) (b.1.length : Int)))) || (decide ((b.2.1.length : Int) = 0)))) with A | A
     ·refine yG A (m_ (iV (ws .i64 (b.2.2.2.2.1.length : Int) (b.2.2.2.2.2.1.length : Int))) (eh m7)) (yG A (ygtr e0 rfl) (yG A (m_ (.bool (decide ((0 : Int) < (ws .i64 (b.2.2.2.2.1.length : Int) (b.2.2.2.2.2.1.length : Int))))) e0) ?_))
      refine joinW 5 (fun f w => f 161 = .bool ((((decide ((b.2.2.1.length : Int) = (b.2.2.2.1.length : Int))) && (decide ((0 : Int) ≤ (ws .i64 (b.2.1.length : Int) (b.1.length : Int))))) && (decide ((0 : Int) ≤ (ws .i64 (b.2.2.2.2.1.length : Int) (b.2.2.2.2.2.1.length : Int))))) && ((decide ((0 : Int) < (ws .i64 (b.2.1.length : Int) (b.1.length : Int)))) || (decide ((b.2.1.length : Int) = 0)))) ∧ f 169 = .bool ((decide ((0 : Int) < (ws .i64 (b.2.2.2.2.1.length : Int) (b.2.2.2.2.2.1.length : Int)))) || (decide ((b.2.2.2.2.1.length : Int) = 0))) ∧ St w0 ros rs w) (fun e3 => ?_) ?_
      ·rcases Bool.eq_false_or_eq_true (decide ((0 : Int) < (ws .i64 (b.2.2.2.2.1.length : Int) (b.2.2.2.2.2.1.length : Int)))) with C | C
       ·exact gN C (gN C (gN C (gN C (yG A (pt_ (.bool true) e0 C rfl) (e3 _ _ ⟨rfl, (congrArg Value.bool (orT C)), ((c.pk 1 [] rfl).facts (allT (allT (allT (allT (allT (allT allI)))))))⟩)))))
       ·exact yG C (yFb FL_31_4 (eh m6)) (yG C (lb_ i.v O_22 e0 c R0) (yG C (yLen SL_22 e0 c (rdI F4)) (yG C (yeql e0 rfl) (yG A (pf_ (.bool (decide ((b.2.2.2.2.1.length : Int) = 0))) e0 C e0) (e3 _ _ ⟨rfl, (congrArg Value.bool (orF C)), ((c.pk 1 [] rfl).facts (allT (allT (allT (allT (allT (allT allI)))))))⟩)))))
      rintro f w ⟨m9, n0, c⟩
      exact yY (pt_ (.bool ((decide ((0 : Int) < (ws .i64 (b.2.2.2.2.1.length : Int) (b.2.2.2.2.2.1.length : Int)))) || (decide ((b.2.2.2.2.1.length : Int) = 0)))) (eh m9) A (eh n0)) (e2 _ _ ⟨(congrArg Value.bool (andT A)), c⟩)
     ·exact gN A (gN A (gN A (Gn (wxu rfl rfl rfl) rfl (Gn (wxu rfl rfl rfl) rfl (Gn (wxu rfl rfl rfl) rfl (Gn (wxu rfl rfl rfl) rfl (gN A (yY (pf_ (.bool false) e0 A rfl) (e2 _ _ ⟨(congrArg Value.bool (andF A)), ((c.pk 1 [] rfl).facts (allT (allT (allT (allT (allT (allT allI)))))))⟩)))))))))
    rintro f w ⟨n1, c⟩
    refine Ym (.bool (((((decide ((b.2.2.1.length : Int) = (b.2.2.2.1.length : Int))) && (decide ((0 : Int) ≤ (ws .i64 (b.2.1.length : Int) (b.1.length : Int))))) && (decide ((0 : Int) ≤ (ws .i64 (b.2.2.2.2.1.length : Int) (b.2.2.2.2.2.1.length : Int))))) && ((decide ((0 : Int) < (ws .i64 (b.2.1.length : Int) (b.1.length : Int)))) || (decide ((b.2.1.length : Int) = 0)))) && ((decide ((0 : Int) < (ws .i64 (b.2.2.2.2.1.length : Int) (b.2.2.2.2.2.1.length : Int)))) || (decide ((b.2.2.2.2.1.length : Int) = 0))))) (eh n1) (bE h fun e4 S h => ?_)
    refine joinW 2 (fun f w => f 173 = .bool e4 ∧ St w0 ros rs w) (fun e5 => ?_) ?_
    ·rcases iteS S with ⟨W, S⟩ | ⟨W, S⟩
     ·refine bE S fun n2 n3 S => Yc (wG W) rfl (yCall FN_9 a0) (sparselaw15_awake_ok n3 c) ?_
      rintro _ w ⟨rfl, c⟩
      refine ⟨_, rfl, ?_⟩
      refine yY (pt_ (.bool n2) e0 W e0) ?_
      cases S
      exact e5 _ _ ⟨rfl, c⟩
     ·refine gN (bfalse W) (yY (pf_ (.bool false) e0 (bfalse W) rfl) ?_)
      cases S
      exact e5 _ _ ⟨rfl, c⟩
    rintro f w ⟨n4, c⟩
    refine Ya (.bool e4) (eh n4) (wK l8 (wp_ret ?_))
    cases h
    exact Z _ _ _ (fin1r Tryz.results4 ⟨rfl, rfl⟩ ⟨rfl, c⟩)
   have n6 : ∀ (f : FV) w, f 6 = .bool false → St w0 ros rs w → .inr () = d4 → d2 .ret (fr 174 f) w := by
    intro f w n7 c ho
    subst ho
    refine d3 _ _ _ (l3 _ _ _ rfl ?_)
    cases h
    exact Z _ _ _ (fin1r Tryz.results4 ⟨rfl, n7⟩ ⟨rfl, c⟩)
   refine loopQ (fun s a w => ∃ (R : Int) (f : FV), R = s ∧ a = fr 174 f ∧ f 8 = (pB p) ∧ f 10 = x.v ∧ f 12 = y.v ∧ f 14 = T.v ∧ f 15 = iV R ∧ St w0 (imm I1 m.v b.1 :: imm I1 k.v b.2.1 :: imm I1 n.v b.2.2.1 :: imm I1 o.v b.2.2.2.1 :: imm I1 i.v b.2.2.2.2.1 :: imm I1 l.v b.2.2.2.2.2.1 :: ros) (box p 31 [m.v, k.v, n.v, o.v, i.v, l.v] :: row 3 I1 x.v q.1 :: row 3 I1 y.v r.1 :: row 49 rTi64i64u64 T.v l0 :: rs) w) l5 ⟨_, _, rfl, rfl, i7, i8, i9, rfl, rfl, ((c.pk 5 [2, 2, 2, 0] rfl).facts (allC F3 (allC F4 (allC F5 (allC F6 (allC F7 (allC F8 (allT (allT (allT (allT (allT (allT (allT (allT (allT allI))))))))))))))))⟩ ?_
   rintro _ _ w p5 ⟨R, f, rfl, rfl, e6, e7, e8, a6, a7, c⟩ t e9 p6 n8 f0
   refine seqQ fun p7 n9 o0 => sR fun _ o1 => Ym (iV R) (eh a7) (Ym T.v (eh a6) (yY (yLen SL_44 e0 c rO3) (yY (ylss e0 e0) (wK o1 ?_))))
   refine cIf e0 t (fun o2 t => ?_) fun o2 t => ?_
   ·refine wp_skip (n9 _ _ (seqQ fun p8 o3 o4 => blockQ fun _ f1 => sQ fun _ o6 => bE t fun o7 f2 t => bE t fun p9 f3 t => bE t fun o8 f4 t => bE t fun q0 f5 t => dR [0, 0, 0, 6, 14, 30, 63, 127, 0, 0, 0, 1536, 3584, 7680, 16128, 32512, 65535] [] 0 folM ?_))
    replace c := c.drew
    refine Dz [0, 1, 2, 3, 4, 5, 6, 7, 8, 9, 10, 11, 12, 13, 14, 15, 16] [] (yR rfl (m_ x.v (eh e7)) (yR rfl (m_ T.v (eh a6)) (yR rfl (m_ (iV R) (eh a7)) (yR rfl (yIa SL_44 e0 e0 c rO3 f2) (yR rfl (yFe FL_49_0 e0) (yR rfl (yFf (u := iV o7.1) O_3 e0 c rO3 f2 rfl) (yR rfl (yIa SL_22 e0 e0 c rO1 f3) (yR rfl (yI O_3 e0 c rO1 f3) (yR rfl (m_ y.v (eh e8)) (yR rfl (m_ T.v (eh a6)) (yR rfl (m_ (iV R) (eh a7)) (yR rfl (yIa SL_44 e0 e0 c rO3 f4) (yR rfl (yFe FL_49_1 e0) ?_)))))))))))))
    refine yR rfl (yFf (u := iV o8.2.1) O_3 e0 c rO3 f4 rfl) (yR rfl (yIa SL_22 e0 e0 c rO2 f5) (yR rfl (yI O_3 e0 c rO2 f5) (yR rfl (ygtr e0 e0) (Rn QSn (o6 _ _ ?_)))))
    refine cIf e0 t (fun o9 t => ?_) fun o9 t => ?_
    ·refine sR fun _ p0 => Ya (.bool false) rfl (wK p0 (wp_ret (f1 _ _ _ (o4 _ _ _ rfl ?_))))
     cases t
     exact f0 _ _ _ _ rfl rfl (n6 _ _ rfl ((c.pk 4 [] rfl).facts (allT (allT (allT (allT (allT (allT allI))))))) (e9 _ rfl))
    ·refine wp_skip (f1 _ _ _ (o3 _ _ (wR (Ym (iV R) (eh a7) (yY (yadd e0 rfl) (Ya (iV (wa .i64 R 1)) e0 (wN ?_)))))))
     cases t
     exact n8 _ _ _ rfl ⟨_, _, rfl, rfl, e6, e7, e8, a6, rfl, c⟩
   ·refine wp_exit (o0 _ _ _ rfl ?_)
    cases t
    exact f0 _ _ _ _ rfl rfl (l6 _ _ e6 (c.pk 4 [0] rfl) (e9 _ rfl))
end Go.Proofs.YtgnfkbaghjmgiaaGreatDoor
