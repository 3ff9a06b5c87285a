/- Walks: each function computes its model, printed. -/
import Derived.Test.YtgnfkbaghjmgiaaGreatDoorW5
namespace Go.Proofs.YtgnfkbaghjmgiaaGreatDoor
open Go Sx M
set_option maxRecDepth 100000
set_option maxHeartbeats 40000000
set_option linter.unusedVariables false
attribute [local irreducible] wpList Code.wp Calls DR QR QS LA LS St
variable {w0 : World} {ros : List Fact} {rs : List Res} {w : World}
theorem sparsemake_Value_ok {c out : Int} (a : sparsemake_Value c = some out) (h : globF ∈ ros) (b : St w0 ros rs w) :
  Calls Tryz.prog 33 #[iV c] w (fun e w => e = .returned (.int .u64 out) ∧ St w0 ros rs w) := by
 refine enterQ Tryz.func33 rfl Tryz.ntmps33 rfl fun Q j => sR fun _ k => Ya (.int .u64 0) rfl (wK k (sR fun _ l => Ym (iV c) e0 (bE a fun d m a => yC (yCall FN_10 (a2 e0 rfl)) (sparsekit_Place_ok m b) ?_)))
 rintro _ w ⟨rfl, b⟩
 refine ⟨_, rfl, ?_⟩
 refine yY (ysub e0 rfl) (Ya (iV (ws .i64 d 8)) e0 (wK l (sR fun _ n => Ya (iV 0) rfl (wK n (sQ fun o p => sR fun _ q => Ym (iV c) e0 (yY (ycv (k' := .u64) (by kernel_rfl) (by kernel_rfl) e0) ?_))))))
 refine yY (yquoc e0 rfl (by decide)) (yY (ycv (k' := .i64) (by kernel_rfl) (by kernel_rfl) e0) (Ya (iV (wc .i64 (wqc .u64 (wc .u64 c) 17))) e0 (wK q (sR fun _ r => Ym (iV (wc .i64 (wqc .u64 (wc .u64 c) 17))) e0 (yY (yremc e0 rfl (by decide)) (yY (yeql e0 rfl) (wK r ?_)))))))
 have i : ∀ (g : Int) (f : FV) w, f 3 = iV (ws .i64 d 8) → f 4 = iV g → St w0 ros rs w → sparsemake_Value_j1 d g = some out → o .normal (fr 25 f) w := by
  intro g f w s t b a
  refine p _ _ (sR fun _ u => Ym (iV (ws .i64 d 8)) (eh s) (bE a fun B v a => yC (yCall FN_60 (a1 e0)) (sparseref02_FromInt_ok v h b) ?_))
  rintro _ w ⟨C, rfl, b⟩
  refine ⟨_, rfl, ?_⟩
  refine Ym (iV g) (eh t) (bE a fun D x a => yC (yCall FN_59 (a2 e0 e0)) (sparseref02_Scale_ok x F0 (mtF h) b) ?_)
  rintro _ w ⟨E, rfl, b⟩
  refine ⟨_, rfl, ?_⟩
  refine bE a fun y z a => yC (yCall FN_58 (a2 e0 rfl)) (sparseref03_Round_ok z F0 (F_2 h) b) ?_
  rintro _ w ⟨rfl, b⟩
  refine ⟨_, rfl, ?_⟩
  refine Ya (.int .u64 y) e0 (wK u (wp_ret ?_))
  cases a
  exact j _ _ _ (fin1r Tryz.results33 ⟨rfl, rfl⟩ ⟨rfl, (b.facts (allT (allT allI)))⟩)
 refine cIf e0 a (fun A a => ?_) fun A a => ?_
 ·exact wR (Ym (iV (wc .i64 (wqc .u64 (wc .u64 c) 17))) e0 (yY (yquoc e0 rfl (by decide)) (yY (yremc e0 rfl (by decide)) (yY (ysub e0 rfl) (Ya (iV (ws .i64 (wrc (wqc .i64 (wc .i64 (wqc .u64 (wc .u64 c) 17)) 3) 13) 6)) e0 (wN (i _ _ _ rfl rfl b a)))))))
 ·exact wp_skip (i _ _ _ rfl rfl b a)
theorem sparseref09_Pack_ok {c d : Int} {c0 : List (Int × Int × Int)} {m : Hdr} {out : Int × Int × LI × LI × LI} (t : sparseref09_Pack c d c0 = some out) (A : imm rTi64i64u64 m.v c0 ∈ ros) (b : St w0 ros rs w) :
  Calls Tryz.prog 34 #[iV c, iV d, m.v] w (fun e w => ∃ (c1 c2 c3 : Hdr), e = .returned (.agg #[iV out.1, iV out.2.1, c1.v, c2.v, c3.v]) ∧ St w0 ros (row 3 I1 c1.v out.2.2.1 :: row 3 I1 c2.v out.2.2.2.1 :: row 47 (rI .u64) c3.v out.2.2.2.2 :: rs) w) := by
 refine enterQ Tryz.func34 rfl Tryz.ntmps34 rfl fun Q d9 => sR fun _ e1 => yBb (rAl b ZT_27) fun i w b => wK e1 (sR fun _ e2 => Ym (iV c) e0 (Ym (iV d) e0 (yH (rLt (n := 1) (l := [0]) b SL_22 [iV 0] (bp1 rfl) rfl rfl (mks1 (cs := [iV 0]) rfl mkI mks0)) fun y w b => yY (ybuild (us := [iV c, iV d, y.v, hnil.v, hnil.v]) [(0, iV c), (1, iV d), (2, y.v)] SO_27 (bp3 e0 e0 e0) rfl) ?_)))
 refine yBb (rAl b ZT_27) fun j w b => yT (r_stbn (vals' := [iV c, iV d, y.v, hnil.v, hnil.v]) (us := [iV c, iV d, y.v, hnil.v, hnil.v]) b ST_27 e0 e0 rfl rfl (one_of rfl) rfl) fun w b => wK e2 (sR fun _ e3 => Ym (iV c) e0 (Ym (iV d) e0 (yY (ymul e0 e0) (bE t fun o0 e4 t => yH (rMk b SL_22 e0 e4) fun h w b => ?_))))
 refine Ya h.v e0 (wK e3 (sQ fun _ e5 => sR fun _ e6 => Ya (iV 0) rfl (wK e6 (blockQ fun e7 e8 => bE t fun e9 f0 t => ?_))))
 have f1 : ∀ (B : LI) (f : FV) w, f 0 = iV c → f 1 = iV d → f 2 = m.v → f 6 = (pB i) → f 7 = (pB j) → f 8 = h.v → St w0 ros (box i 27 [iV 0, iV 0, hnil.v, hnil.v, hnil.v] :: row 3 I1 y.v [0] :: box j 27 [iV c, iV d, y.v, hnil.v, hnil.v] :: row 3 I1 h.v B :: rs) w → B = e9 → e7 (.exit 0) (fr 90 f) w := by
  intro B f w f2 f3 f4 f5 f6 f7 b ho
  subst ho
  refine e8 _ _ _ (e5 _ _ (sQ fun _ f8 => sR fun _ f9 => Ya (iV 0) rfl (wK f9 (blockQ fun g0 g1 => bE t fun g2 g3 t => ?_))))
  have g4 : ∀ (X Z a0 : LI) (C D E : Hdr) (f : FV) w, f 6 = (pB i) → f 7 = (pB j) → St w0 ros (box i 27 [iV 0, iV 0, hnil.v, hnil.v, hnil.v] :: row 3 I1 C.v X :: row 3 I1 D.v Z :: row 47 (rI .u64) E.v a0 :: box j 27 [iV c, iV d, C.v, D.v, E.v] :: rs) w → (X, Z, a0) = g2 → g0 (.exit 2) (fr 90 f) w := by
   intro X Z a0 C D E f w c4 g5 b ho
   subst ho
   refine g1 _ _ _ (f8 _ _ (sR fun _ g6 => yY (lbs_ [iV c, iV d, C.v, D.v, E.v] ST_27 (eh g5) b R4) (yT (r_stbn (vals' := [iV c, iV d, C.v, D.v, E.v]) (us := [iV c, iV d, C.v, D.v, E.v]) b ST_27 (eh c4) e0 rfl rfl (one_of rfl) rfl) fun w b => wK g6 (wp_ret ?_))))
   cases t
   exact d9 _ _ _ (fin1r Tryz.results34 (rcs2 rfl c4 b R0 ST_27 rfl) ⟨_, _, _, rfl, (b.pk 5 [1, 1, 1] rfl)⟩)
  replace b := (b.rowNh 3 I1).rowNh 47 (rI .u64)
  refine loopQ (fun s a w => ∃ (F a1 a2 : LI) (q : Int) (f : FV) (o a3 a4 : Hdr), (F, a1, a2, q) = s ∧ a = fr 90 f ∧ f 0 = iV c ∧ f 1 = iV d ∧ f 2 = m.v ∧ f 6 = (pB i) ∧ f 7 = (pB j) ∧ f 8 = h.v ∧ f 10 = iV q ∧ St w0 ros (box i 27 [iV 0, iV 0, hnil.v, hnil.v, hnil.v] :: row 3 I1 o.v F :: row 3 I1 a3.v a1 :: row 47 (rI .u64) a4.v a2 :: box j 27 [iV c, iV d, o.v, a3.v, a4.v] :: row 3 I1 h.v B :: rs) w) g3 ⟨_, _, _, _, _, _, _, _, rfl, rfl, f2, f3, f4, f5, f6, f7, rfl, (b.pk 6 [2, 2, 1, 0, 0, 0] rfl)⟩ ?_
  rintro _ _ w o2 ⟨F, a1, a2, q, f, o, a3, a4, rfl, rfl, g7, c5, g8, c6, c7, g9, c8, b⟩ x h0 o3 h1 h2
  refine seqQ fun o4 h3 h5 => sR fun _ h7 => Ym (iV q) (eh c8) (Ym (iV d) (eh c5) (yY (ylss e0 e0) (wK h7 ?_)))
  refine cIf e0 x (fun h9 x => ?_) fun h9 x => ?_
  ·refine wp_skip (h3 _ _ (sQ fun _ i0 => blockQ fun _ i1 => sQ fun _ i2 => sR fun _ i3 => Ya (iV 0) rfl (wK i3 (blockQ fun i4 i5 => bE x fun i6 i7 x => ?_))))
   have i8 : ∀ (G a5 : LI) (I O : Hdr) (f : FV) w, f 0 = iV c → f 1 = iV d → f 2 = m.v → f 6 = (pB i) → f 7 = (pB j) → f 8 = h.v → f 10 = iV q → St w0 ros (box i 27 [iV 0, iV 0, hnil.v, hnil.v, hnil.v] :: row 3 I1 o.v F :: row 3 I1 I.v G :: row 47 (rI .u64) O.v a5 :: box j 27 [iV c, iV d, o.v, I.v, O.v] :: row 3 I1 h.v B :: rs) w → (G, a5) = i6 → i4 (.exit 4) (fr 90 f) w := by
    intro G a5 I O f w i9 j0 j1 j2 R j3 j4 b ho
    subst ho
    refine i5 _ _ _ (i2 _ _ (wR (yY (yFb FL_27_2 (eh R)) (yY (lb_ o.v O_22 e0 b R4) (yY (yFb FL_27_3 (eh R)) (yY (lb_ I.v O_22 e0 b R4) (yY (yLen SL_22 e0 b rO2) (yH (rLt (n := 1) (l := [(G.length : Int)]) b SL_22 [iV (G.length : Int)] (bp1 e0) rfl rfl (mks1 (cs := [iV (G.length : Int)]) rfl mkI mks0)) fun o5 w b => bE x fun o6 j5 x => yH (rAp (b.pk 3 [2, 0, 0] rfl) SL_22 e0 e0 rO1 j5) fun j6 w b => yY (yFb FL_27_2 (eh R)) ?_))))))))
    refine yT (r_stb1 (vals' := [iV c, iV d, j6.v, I.v, O.v]) (b.pk 6 [5, 0, 0, 0, 0, 0] rfl) O_22 e0 e0 rfl rfl rfl rfl) fun w b => wN (i1 _ _ _ (i0 _ _ (wR (Ym (iV q) (eh j4) (yY (yadd e0 rfl) (Ya (iV (wa .i64 q 1)) e0 (wN ?_)))))))
    cases x
    exact h1 _ _ _ rfl ⟨_, _, _, _, _, _, _, _, rfl, rfl, i9, j0, j1, j2, R, j3, rfl, (b.pk 7 [3, 1, 2, 2, 0, 1] rfl)⟩
   refine loopQ (fun s a w => ∃ (a6 a7 : LI) (k : Int) (f : FV) (S H : Hdr), (a6, a7, k) = s ∧ a = fr 90 f ∧ f 0 = iV c ∧ f 1 = iV d ∧ f 2 = m.v ∧ f 6 = (pB i) ∧ f 7 = (pB j) ∧ f 8 = h.v ∧ f 10 = iV q ∧ f 11 = iV k ∧ St w0 ros (box i 27 [iV 0, iV 0, hnil.v, hnil.v, hnil.v] :: row 3 I1 o.v F :: row 3 I1 S.v a6 :: row 47 (rI .u64) H.v a7 :: box j 27 [iV c, iV d, o.v, S.v, H.v] :: row 3 I1 h.v B :: rs) w) i7 ⟨_, _, _, _, _, _, rfl, rfl, g7, c5, g8, c6, c7, g9, c8, rfl, b⟩ ?_
   rintro _ _ w j7 ⟨a6, a7, k, f, S, H, rfl, rfl, J, a8, T, a9, z, U, V, K, b⟩ g j8 o7 j9 k0
   refine seqQ fun o8 k6 k7 => sR fun _ k8 => Ym (iV k) (eh K) (Ym (iV c) (eh J) (yY (ylss e0 e0) (wK k8 ?_)))
   refine cIf e0 g (fun k9 g => ?_) fun k9 g => ?_
   ·refine wp_skip (k6 _ _ (sQ fun _ l0 => blockQ fun l1 l2 => sR fun _ l3 => Ym h.v (eh U) (Ym (iV q) (eh V) (Ym (iV c) (eh J) (yY (ymul e0 e0) (Ym (iV k) (eh K) (yY (yadd e0 e0) (bE g fun b0 c9 g => yY (yIa SL_22 e0 e0 b rO5 c9) ?_))))))))
    refine yY (yI O_3 e0 b rO5 c9) (Ya (iV b0) e0 (wK l3 (sR fun _ l4 => Ym (iV b0) e0 (yY (ygtr e0 rfl) (wK l4 ?_)))))
    have d0 : ∀ (b1 b2 : LI) (b3 b4 : Hdr) (f : FV) w, f 0 = iV c → f 1 = iV d → f 2 = m.v → f 6 = (pB i) → f 7 = (pB j) → f 8 = h.v → f 10 = iV q → f 11 = iV k → St w0 ros (box i 27 [iV 0, iV 0, hnil.v, hnil.v, hnil.v] :: row 3 I1 o.v F :: row 3 I1 b3.v b1 :: row 47 (rI .u64) b4.v b2 :: box j 27 [iV c, iV d, o.v, b3.v, b4.v] :: row 3 I1 h.v B :: rs) w → sparseref09_Pack_j14 k b1 b2 = some j7 → l1 .normal (fr 90 f) w := by
     intro b1 b2 b3 b4 f w l5 l6 l7 l8 l9 m0 m1 m2 b t
     refine l2 _ _ _ (l0 _ _ (wR (Ym (iV k) (eh m2) (yY (yadd e0 rfl) (Ya (iV (wa .i64 k 1)) e0 (wN ?_))))))
     cases t
     exact j9 _ _ _ rfl ⟨_, _, _, _, _, _, rfl, rfl, l5, l6, l7, l8, l9, m0, m1, rfl, b⟩
    refine cIf e0 g (fun m3 g => ?_) fun m3 g => ?_
    ·refine sR fun _ m4 => yY (yFb FL_27_3 (eh z)) (yY (lb_ S.v O_22 e0 b R4) (Ym (iV k) (eh K) (yH (rLt (n := 1) (l := [k]) b SL_22 [iV k] (bp1 e0) rfl rfl (mks1 (cs := [iV k]) rfl mkI mks0)) fun o9 w b => bE g fun p0 m5 g => yH (rAp (b.pk 4 [3, 0, 0, 0] rfl) SL_22 e0 e0 rO1 m5) fun d1 w b => yY (yFb FL_27_3 (eh z)) (yT (r_stb1 (vals' := [iV c, iV d, o.v, d1.v, H.v]) (b.pk 6 [5, 0, 0, 0, 0, 0] rfl) O_22 e0 e0 rfl rfl rfl rfl) fun w b => wN ?_))))
     refine m4 _ _ (bE g fun W d2 g => bE g fun p1 m6 g => dR [0, 1, 0, 0, 8, 28, 60, 124, 252, 511, 1023, 2047] [8, 9, 11] 3 folM ?_)
     replace b := b.drew
     refine Dn [0, 1, 2, 3, 4, 5, 6, 7] [] [8] (yR rfl (yFb FL_27_4 (eh z)) (yR rfl (lb_ H.v O_25 e0 b R0) (yR rfl (m_ m.v (eh T)) (yR rfl (m_ (iV b0) e0) (yR rfl (ysub e0 rfl) (yR rfl (yIa SL_44 e0 e0 b (rdI A) d2) (yR rfl (yFe FL_49_2 e0) (yR rfl (yFf (u := .int .u64 W.2.2) O_47 e0 b (rdI A) d2 rfl) (Rn QSn ?_)))))))))
     refine Lc1 rfl ?_
     refine LH wn (rLt (n := 1) (l := [W.2.2]) b SL_25 [.int .u64 W.2.2] (bp1 e0) rfl rfl (mks1 (cs := [.int .u64 W.2.2]) rfl mkI mks0)) fun p2 w b => Dn [] [0, 1] [9] (Rn (yS rfl (yFb FL_27_4 (eh z)) (yS rfl (lb_ H.v O_25 e0 b R1) QSn)) ?_)
     refine Lc1 rfl ?_
     replace b := b.pk 7 [6, 0, 0, 0, 0, 0, 0] rfl
     refine LH wn (rAp b SL_25 e0 e0 rO1 m6) fun m7 w b => Dn [10] [] [11] (yR rfl (yFb FL_27_4 (eh z)) (Rn QSn ?_))
     refine Lc1 rfl ?_
     replace b := b.pk 3 [2, 0, 0] rfl
     exact LT wn (r_stb1 (vals' := [iV c, iV d, o.v, d1.v, m7.v]) b O_25 e0 e0 rfl rfl rfl rfl) fun w b => Dz [] [] (Rn QSn (d0 _ _ _ _ _ _ J a8 T a9 z U V K (b.pk 8 [5, 5, 3, 1, 0, 2] rfl) g))
    ·exact wp_skip (d0 _ _ _ _ _ _ J a8 T a9 z U V K b g)
   ·refine wp_exit (k7 _ _ _ rfl ?_)
    cases g
    exact k0 _ _ _ _ rfl rfl (i8 _ _ _ _ _ _ J a8 T a9 z U V b (j8 _ rfl))
  ·refine wp_exit (h5 _ _ _ rfl ?_)
   cases x
   exact h2 _ _ _ _ rfl rfl (g4 _ _ _ _ _ _ _ _ c6 c7 (b.pk 6 [0, 0, 0, 0, 0] rfl) (h0 _ rfl))
 refine loopQ (fun s a w => ∃ (b6 : LI) (r : Int) (f : FV), (b6, r) = s ∧ a = fr 90 f ∧ f 0 = iV c ∧ f 1 = iV d ∧ f 2 = m.v ∧ f 6 = (pB i) ∧ f 7 = (pB j) ∧ f 8 = h.v ∧ f 9 = iV r ∧ St w0 ros (box i 27 [iV 0, iV 0, hnil.v, hnil.v, hnil.v] :: row 3 I1 y.v [0] :: box j 27 [iV c, iV d, y.v, hnil.v, hnil.v] :: row 3 I1 h.v b6 :: rs) w) f0 ⟨_, _, _, rfl, rfl, rfl, rfl, rfl, rfl, rfl, rfl, rfl, (b.pk 4 [3, 2, 1, 0] rfl)⟩ ?_
 rintro _ _ w p3 ⟨b6, r, f, rfl, rfl, b8, d3, L, d4, d5, b9, N, b⟩ p m8 p4 m9 n0
 refine seqQ fun p5 n2 n3 => sR fun _ n4 => Ym (iV r) (eh N) (Ym m.v (eh L) (yY (yLen SL_44 e0 b (rdI A)) (yY (ylss e0 e0) (wK n4 ?_))))
 refine cIf e0 p (fun n5 p => ?_) fun n5 p => ?_
 ·refine wp_skip (n2 _ _ (sQ fun _ n6 => blockQ fun _ n7 => bE p fun n8 d6 p => bE p fun n9 d7 p => bE p fun p6 d8 p => dR [0, 0, 0, 6, 14, 30, 0, 126, 0, 0, 768, 1792, 3840, 8190, 0, 16384, 65535, 131071] [17] 1 folM ?_))
  replace b := b.drew
  refine Dn [0, 1, 2, 3, 4, 5, 6, 7, 8, 9, 10, 11, 12, 13, 14, 15, 16] [] [17] (yR rfl (m_ h.v (eh b9)) (yR rfl (m_ m.v (eh L)) (yR rfl (m_ (iV r) (eh N)) (yR rfl (yIa SL_44 e0 e0 b (rdI A) d6) (yR rfl (yFe FL_49_1 e0) (yR rfl (yFf (u := iV n8.2.1) O_3 e0 b (rdI A) d6 rfl) (yR rfl (m_ (iV c) (eh b8)) (yR rfl (ymul e0 e0) (yR rfl (m_ m.v (eh L)) (yR rfl (m_ (iV r) (eh N)) (yR rfl (yIa SL_44 e0 e0 b (rdI A) d7) (yR rfl (yFe FL_49_0 e0) (yR rfl (yFf (u := iV n9.1) O_3 e0 b (rdI A) d7 rfl) ?_)))))))))))))
  refine yR rfl (yadd e0 e0) (yR rfl (m_ (iV r) (eh N)) (yR rfl (yadd e0 rfl) (yR rfl (yIs SL_22 e0 e0 b rO3 d8) (Rn QSn ?_))))
  refine Lc1 rfl ?_
  replace b := b.pk 4 [3, 0, 0, 0] rfl
  refine LT wn (r_sti (cs := [iV (wa .i64 r 1)]) b O_3 rfl e0 e0 rfl mkI d8) fun w b => Dz [] [] (Rn QSn (n7 _ _ _ (n6 _ _ (wR (Ym (iV r) (eh N) (yY (yadd e0 rfl) (Ya (iV (wa .i64 r 1)) e0 (wN ?_))))))))
  cases p
  exact m9 _ _ _ rfl ⟨_, _, _, rfl, rfl, b8, d3, L, d4, d5, b9, rfl, (b.pk 4 [1, 1, 1, 0] rfl)⟩
 ·refine wp_exit (n3 _ _ _ rfl ?_)
  cases p
  exact n0 _ _ _ _ rfl rfl (f1 _ _ _ b8 d3 L d4 d5 b9 b (m8 _ rfl))
theorem sparsemake_Matrix_ok {g i : Int} {p : LI} {j : Hdr} {out : Int × Int × LI × LI × LI} (y : sparsemake_Matrix g i p = some out) (h : imm I1 j.v p ∈ ros) (b3 : globF ∈ ros) (b : St w0 ros rs w) :
  Calls Tryz.prog 11 #[iV g, iV i, j.v] w (fun e w => ∃ (O R S : Hdr), e = .returned (.agg #[iV out.1, iV out.2.1, O.v, R.v, S.v]) ∧ St w0 ros (row 3 I1 O.v out.2.2.1 :: row 3 I1 R.v out.2.2.2.1 :: row 47 (rI .u64) S.v out.2.2.2.2 :: rs) w) := by
 refine enterQ Tryz.func11 rfl Tryz.ntmps11 rfl fun Q b4 => sR fun _ b6 => yBb (rAl b ZT_27) fun q w b => wK b6 (sR fun _ b7 => Ya hnil.v rfl (wK b7 (sQ fun _ b8 => sQ fun _ b9 => ?_)))
 refine wR (Ya (iV 0) rfl (wK b9 (blockQ fun c0 c1 => bE y fun c2 c3 y => ?_)))
 have c4 : ∀ (H : List (Int × Int × Int)) (D : Hdr) (f : FV) w, f 0 = iV g → f 1 = iV i → f 6 = (pB q) → f 7 = D.v → St w0 ros (box q 27 [iV 0, iV 0, hnil.v, hnil.v, hnil.v] :: row 49 rTi64i64u64 D.v H :: rs) w → H = c2 → c0 (.exit 0) (fr 51 f) w := by
  intro H D f w c5 c6 T c7 b ho
  subst ho
  refine c1 _ _ _ (b8 _ _ (sR fun _ c8 => Ym (iV g) (eh c5) (Ym (iV i) (eh c6) (Ym D.v (eh c7) (bE y fun E c9 y => ?_)))))
  replace b := (b.pk 2 [1, 0] rfl).fz
  refine yC (yCall FN_34 (a3 e0 e0 e0)) (sparseref09_Pack_ok c9 F0 b) ?_
  rintro _ w ⟨U, V, W, rfl, b⟩
  refine ⟨_, rfl, ?_⟩
  refine yT (r_stbn (vals' := [iV E.1, iV E.2.1, U.v, V.v, W.v]) (us := [iV E.1, iV E.2.1, U.v, V.v, W.v]) (b.pk 4 [3, 0, 0, 0] rfl) ST_27 (eh T) e0 rfl rfl (one_of rfl) rfl) fun w b => wK c8 (wp_ret ?_)
  cases y
  exact b4 _ _ _ (fin1r Tryz.results11 (rcs2 rfl T b R0 ST_27 rfl) ⟨_, _, _, rfl, ((b.pk 4 [1, 1, 1] rfl).facts (allT allI))⟩)
 replace b := b.rowNh 49 rTi64i64u64
 refine loopQ (fun s a w => ∃ (z : List (Int × Int × Int)) (c : Int) (f : FV) (k : Hdr), (z, c) = s ∧ a = fr 51 f ∧ f 0 = iV g ∧ f 1 = iV i ∧ f 2 = j.v ∧ f 6 = (pB q) ∧ f 7 = k.v ∧ f 8 = iV c ∧ St w0 ros (box q 27 [iV 0, iV 0, hnil.v, hnil.v, hnil.v] :: row 49 rTi64i64u64 k.v z :: rs) w) c3 ⟨_, _, _, _, rfl, rfl, rfl, rfl, rfl, rfl, rfl, rfl, (b.pk 2 [1, 0] rfl)⟩ ?_
 rintro _ _ w e7 ⟨z, c, f, k, rfl, rfl, I, X, J, Z, a0, K, b⟩ d d0 e8 d1 d2
 refine seqQ fun e9 d3 d4 => sR fun _ d5 => Ym (iV c) (eh K) (yY (yadd e0 rfl) (Ym j.v (eh J) (yY (yLen SL_22 e0 b (rdI h)) (yY (ylss e0 e0) (Ym (.bool (decide ((wa .i64 c 2) < (p.length : Int)))) e0 ?_)))))
 refine joinW 3 (fun f w => f 0 = iV g ∧ f 1 = iV i ∧ f 2 = j.v ∧ f 6 = (pB q) ∧ f 7 = k.v ∧ f 8 = iV c ∧ f 17 = .bool ((decide ((wa .i64 c 2) < (p.length : Int))) && (decide ((0 : Int) < g))) ∧ St w0 ros (box q 27 [iV 0, iV 0, hnil.v, hnil.v, hnil.v] :: row 49 rTi64i64u64 k.v z :: rs) w) (fun a4 => ?_) ?_
 ·rcases Bool.eq_false_or_eq_true (decide ((wa .i64 c 2) < (p.length : Int))) with m | m
  ·exact yG m (m_ (iV g) (eh I)) (yG m (ygtr e0 rfl) (yY (pt_ (.bool (decide ((0 : Int) < g))) e0 m e0) (a4 _ _ ⟨I, X, J, Z, a0, K, (congrArg Value.bool (andT m)), b⟩)))
  ·exact gN m (gN m (yY (pf_ (.bool false) e0 m rfl) (a4 _ _ ⟨I, X, J, Z, a0, K, (congrArg Value.bool (andF m)), b⟩)))
 rintro f w ⟨a5, L, a6, a7, a8, a9, d6, b⟩
 refine Ym (.bool ((decide ((wa .i64 c 2) < (p.length : Int))) && (decide ((0 : Int) < g)))) (eh d6) ?_
 refine joinW 3 (fun f w => f 0 = iV g ∧ f 1 = iV i ∧ f 2 = j.v ∧ f 6 = (pB q) ∧ f 7 = k.v ∧ f 8 = iV c ∧ f 21 = .bool (((decide ((wa .i64 c 2) < (p.length : Int))) && (decide ((0 : Int) < g))) && (decide ((0 : Int) < i))) ∧ St w0 ros (box q 27 [iV 0, iV 0, hnil.v, hnil.v, hnil.v] :: row 49 rTi64i64u64 k.v z :: rs) w) (fun b0 => ?_) ?_
 ·rcases Bool.eq_false_or_eq_true ((decide ((wa .i64 c 2) < (p.length : Int))) && (decide ((0 : Int) < g))) with o | o
  ·exact yG o (m_ (iV i) (eh L)) (yG o (ygtr e0 rfl) (yY (pt_ (.bool (decide ((0 : Int) < i))) e0 o e0) (b0 _ _ ⟨a5, L, a6, a7, a8, a9, (congrArg Value.bool (andT o)), b⟩)))
  ·exact gN o (gN o (yY (pf_ (.bool false) e0 o rfl) (b0 _ _ ⟨a5, L, a6, a7, a8, a9, (congrArg Value.bool (andF o)), b⟩)))
 rintro f w ⟨N, F, r, b1, u, t, d7, b⟩
 refine wK d5 (cB (eh d7) d (fun d8 d => ?_) fun d8 d => ?_)
 ·refine wp_skip (d3 _ _ (sQ fun _ d9 => blockQ fun _ e1 => bE d fun f0 b2 d => bE d fun A e2 d => bE d fun f1 G d => bE d fun B e3 d => bE d fun f2 x d => bE d fun C e4 d => bE d fun f3 e5 d => dR [0, 0, 0, 6, 14, 0, 62, 0, 0, 256, 896, 1920, 0, 8190, 0, 0, 32768, 114688, 245760, 524286, 1048574, 2097150, 4194303, 8388607] [6, 13, 19, 21, 22, 23] 6 folM ?_))
  replace b := b.drew
  refine Dn [0, 1, 2, 3, 4, 5, 7, 8, 9, 10, 11, 12, 14, 15, 16, 17, 18] [] [6] (yR rfl (m_ k.v (eh u)) (yR rfl (m_ j.v (eh r)) (yR rfl (m_ (iV c) (eh t)) (yR rfl (yIa SL_22 e0 e0 b (rdI h) b2) (yR rfl (yI O_3 e0 b (rdI h) b2) (yR rfl (m_ (iV g) (eh N)) (yR rfl (m_ j.v (eh r)) (yR rfl (m_ (iV c) (eh t)) (yR rfl (yadd e0 rfl) (yR rfl (yIa SL_22 e0 e0 b (rdI h) G) (yR rfl (yI O_3 e0 b (rdI h) G) (yR rfl (m_ (iV i) (eh F)) (yR rfl (m_ j.v (eh r)) ?_)))))))))))))
  refine yR rfl (m_ (iV c) (eh t)) (yR rfl (yadd e0 rfl) (yR rfl (yIa SL_22 e0 e0 b (rdI h) x) (yR rfl (yI O_3 e0 b (rdI h) x) (Rn QSn ?_))))
  refine Lc1 rfl ?_
  refine Lk wn (yCall FN_10 (a2 e0 e0)) (sparsekit_Place_ok e2 b) ?_
  rintro _ w ⟨rfl, b⟩
  refine ⟨_, rfl, ?_⟩
  refine Dn [] [0, 7, 8, 9, 10, 11, 12, 14, 15, 16, 17, 18] [13] (Rn (yS rfl (m_ k.v (eh u)) (yS rfl (m_ j.v (eh r)) (yS rfl (m_ (iV c) (eh t)) (yS rfl (yadd e0 rfl) (yS rfl (yIa SL_22 e0 e0 b (rdI h) G) (yS rfl (yI O_3 e0 b (rdI h) G) (yS rfl (m_ (iV i) (eh F)) (yS rfl (m_ j.v (eh r)) (yS rfl (m_ (iV c) (eh t)) (yS rfl (yadd e0 rfl) (yS rfl (yIa SL_22 e0 e0 b (rdI h) x) (yS rfl (yI O_3 e0 b (rdI h) x) QSn)))))))))))) ?_)
  refine Lc1 rfl ?_
  refine Lk wn (yCall FN_10 (a2 e0 e0)) (sparsekit_Place_ok e3 b) ?_
  rintro _ w ⟨rfl, b⟩
  refine ⟨_, rfl, ?_⟩
  refine Dn [] [0, 14, 15, 16, 17, 18] [19] (Rn (yS rfl (m_ k.v (eh u)) (yS rfl (m_ j.v (eh r)) (yS rfl (m_ (iV c) (eh t)) (yS rfl (yadd e0 rfl) (yS rfl (yIa SL_22 e0 e0 b (rdI h) x) (yS rfl (yI O_3 e0 b (rdI h) x) QSn)))))) ?_)
  refine Lc1 rfl ?_
  refine Lk wn (yCall FN_33 (a1 e0)) (sparsemake_Value_ok e4 b3 b) ?_
  rintro _ w ⟨rfl, b⟩
  refine ⟨_, rfl, ?_⟩
  refine Dn [20] [0] [21] (yR rfl (ybuild (us := [iV A, iV B, .int .u64 C]) [(0, iV A), (1, iV B), (2, .int .u64 C)] SO_49 (bp3 e0 e0 e0) rfl) (Rn (yS rfl (m_ k.v (eh u)) QSn) ?_))
  refine Lc1 rfl ?_
  refine LH wn (rLt (n := 1) (l := [(A, B, C)]) b SL_44 [.agg #[iV A, iV B, .int .u64 C]] (bp1 e0) rfl rfl (mks1 (cs := [iV A, iV B, .int .u64 C]) rfl (mkF rfl) mks0)) fun f4 w b => Dn [] [0] [22] (Rn (yS rfl (m_ k.v (eh u)) QSn) ?_)
  refine Lc1 rfl ?_
  replace b := b.pk 3 [2, 0, 0] rfl
  refine LH wn (rAp b SL_44 e0 e0 rO1 e5) fun e6 w b => Dn [] [] [23] (Rn QSn ?_)
  refine Lc1 rfl ?_
  refine Ly wn (a_ e6.v e0) (Dz [] [] (Rn QSn (e1 _ _ _ (d9 _ _ (wR (Ym (iV c) (eh t) (yY (yadd e0 rfl) (Ya (iV (wa .i64 c 3)) e0 (wN ?_)))))))))
  cases d
  exact d1 _ _ _ rfl ⟨_, _, _, _, rfl, rfl, N, F, r, b1, rfl, rfl, (b.pk 3 [2, 0] rfl)⟩
 ·refine wp_exit (d4 _ _ _ rfl ?_)
  cases d
  exact d2 _ _ _ _ rfl rfl (c4 _ _ _ _ N F b1 u b (d0 _ rfl))
theorem sparselaw15_BlocksRank_ok {J K : Int} {V : LI} {H : Hdr} {out : Bool} (i : sparselaw15_BlocksRank J K V = some out) (h6 : out = true) (W : imm I1 H.v V ∈ ros) (b6 : globF ∈ ros) (b : St w0 ros rs w) :
  Calls Tryz.prog 5 #[iV J, iV K, H.v] w (fun e w => e = .returned (.bool out) ∧ St w0 ros rs w) := by
 refine enterQ Tryz.func5 rfl Tryz.ntmps5 rfl fun Q X => sR fun _ b7 => Ya (.bool false) rfl (wK b7 (seqQ fun h7 b8 b9 => sR fun _ c0 => Ym H.v e0 (yY (yLen SL_22 e0 b (rdI W)) (yY (ygtr e0 rfl) (wK c0 ?_)))))
 refine cIf e0 i (fun c1 i => ?_) fun c1 i => ?_
 ·refine sR fun _ c2 => bE i fun c3 c4 i => yC (yCall FN_9 a0) (sparselaw15_awake_ok c4 b) ?_
  rintro _ w ⟨rfl, b⟩
  refine ⟨_, rfl, ?_⟩
  refine Ya (.bool c3) e0 (wK c2 (wp_ret (b9 _ _ _ rfl ?_)))
  cases i
  exact X _ _ _ (fin1r Tryz.results5 ⟨rfl, rfl⟩ ⟨rfl, b⟩)
 ·refine wp_skip (b8 _ _ (sR fun _ c6 => Ym (iV J) e0 (bE i fun h8 c7 i => yC (yCall FN_10 (a2 e0 rfl)) (sparsekit_Place_ok c7 b) ?_)))
  rintro _ w ⟨rfl, b⟩
  refine ⟨_, rfl, ?_⟩
  refine Ym (iV K) e0 (bE i fun h9 c8 i => yC (yCall FN_10 (a2 e0 rfl)) (sparsekit_Place_ok c8 b) ?_)
  rintro _ w ⟨rfl, b⟩
  refine ⟨_, rfl, ?_⟩
  refine Ym H.v e0 (bE i fun d c9 i => yC (yCall FN_11 (a3 e0 e0 e0)) (sparsemake_Matrix_ok c9 W b6 b) ?_)
  rintro _ w ⟨r, t, u, rfl, b⟩
  refine ⟨_, rfl, ?_⟩
  refine yBb (rAl b ZT_27) fun C w b => yT (r_stbn (vals' := [iV d.1, iV d.2.1, r.v, t.v, u.v]) (us := [iV d.1, iV d.2.1, r.v, t.v, u.v]) b ST_27 e0 e0 rfl rfl (one_of rfl) rfl) fun w b => wK c6 (sR fun _ d0 => yY (lbs_ [iV d.1, iV d.2.1, r.v, t.v, u.v] ST_27 e0 b R0) (bE i fun c d1 i => ?_))
  replace b := (((((b.pk 2 [1, 0] rfl).fz).pk 2 [1, 0] rfl).fz).pk 2 [1, 0] rfl).fz
  refine yC (yCall FN_13 (a1 e0)) (blocks_Coarse_ok d1 F2 F1 F0 b) ?_
  rintro _ w ⟨j, n, k, o, p, l, rfl, b⟩
  refine ⟨_, rfl, ?_⟩
  refine Ym (.tuple #[.agg #[j.v, n.v, k.v, o.v, p.v, l.v], iV c.2.2.2.2.2.2]) e0 (yY (x_ (.agg #[j.v, n.v, k.v, o.v, p.v, l.v]) e0) (yY (x_ (iV c.2.2.2.2.2.2) e0) (yBb (rAl b ZT_31) fun y w b => yT (r_stbn (vals' := [j.v, n.v, k.v, o.v, p.v, l.v]) (us := [j.v, n.v, k.v, o.v, p.v, l.v]) b ST_31 e0 e0 rfl rfl (one_of rfl) rfl) fun w b => Ya (iV c.2.2.2.2.2.2) e0 (wK d0 (sR fun _ d2 => yY (lbs_ [iV d.1, iV d.2.1, r.v, t.v, u.v] ST_27 e0 b R7) (bE i fun h d3 i => ?_))))))
  refine yC (yCall FN_21 (a1 e0)) (matching_Maximum_ok d3 F2 F1 F0 b) ?_
  rintro _ w ⟨q, rfl, b⟩
  refine ⟨_, rfl, ?_⟩
  refine Ym (.tuple #[q.v, iV h.2]) e0 (yY (x_ q.v e0) (yY (x_ (iV h.2) e0) (Ya q.v e0 (Ya (iV h.2) e0 (wK d2 (sR fun _ d4 => Ya (iV 0) rfl (wK d4 (sQ fun _ d5 => sQ fun _ d6 => ?_))))))))
  refine wR (Ya (iV 0) rfl (wK d6 (blockQ fun d7 d8 => bE i fun d9 e1 i => ?_)))
  have e2 : ∀ (z : Int) (f : FV) w, f 7 = (pB C) → f 8 = (pB y) → f 9 = iV c.2.2.2.2.2.2 → f 10 = q.v → f 11 = iV h.2 → f 12 = iV z → St w0 (imm I1 r.v d.2.2.1 :: imm I1 t.v d.2.2.2.1 :: imm (rI .u64) u.v d.2.2.2.2 :: ros) (box C 27 [iV d.1, iV d.2.1, r.v, t.v, u.v] :: row 3 I1 j.v c.1 :: row 3 I1 n.v c.2.1 :: row 3 I1 k.v c.2.2.1 :: row 3 I1 o.v c.2.2.2.1 :: row 3 I1 p.v c.2.2.2.2.1 :: row 3 I1 l.v c.2.2.2.2.2.1 :: box y 31 [j.v, n.v, k.v, o.v, p.v, l.v] :: row 3 I1 q.v h.1 :: rs) w → z = d9 → d7 (.exit 0) (fr 78 f) w := by
   intro z f w Z a4 e3 a5 e4 a6 b ho
   subst ho
   refine d8 _ _ _ (d5 _ _ (sR fun _ e5 => Ym (iV c.2.2.2.2.2.2) (eh e3) (yY (yeql e0 rfl) (Ym (.bool (decide (c.2.2.2.2.2.2 = 0))) e0 ?_))))
   refine joinW 3 (fun f w => f 7 = (pB C) ∧ f 8 = (pB y) ∧ f 10 = q.v ∧ f 12 = iV z ∧ f 52 = .bool ((decide (c.2.2.2.2.2.2 = 0)) && (decide (h.2 = 0))) ∧ St w0 (imm I1 r.v d.2.2.1 :: imm I1 t.v d.2.2.2.1 :: imm (rI .u64) u.v d.2.2.2.2 :: ros) (box C 27 [iV d.1, iV d.2.1, r.v, t.v, u.v] :: row 3 I1 j.v c.1 :: row 3 I1 n.v c.2.1 :: row 3 I1 k.v c.2.2.1 :: row 3 I1 o.v c.2.2.2.1 :: row 3 I1 p.v c.2.2.2.2.1 :: row 3 I1 l.v c.2.2.2.2.2.1 :: box y 31 [j.v, n.v, k.v, o.v, p.v, l.v] :: row 3 I1 q.v h.1 :: rs) w) (fun a7 => ?_) ?_
   ·rcases Bool.eq_false_or_eq_true (decide (c.2.2.2.2.2.2 = 0)) with A | A
    ·exact yG A (m_ (iV h.2) (eh e4)) (yG A (yeql e0 rfl) (yY (pt_ (.bool (decide (h.2 = 0))) e0 A e0) (a7 _ _ ⟨Z, a4, a5, a6, (congrArg Value.bool (andT A)), b⟩)))
    ·exact gN A (gN A (yY (pf_ (.bool false) e0 A rfl) (a7 _ _ ⟨Z, a4, a5, a6, (congrArg Value.bool (andF A)), b⟩)))
   rintro f w ⟨e6, a8, e7, a9, e8, b⟩
   refine Ym (.bool ((decide (c.2.2.2.2.2.2 = 0)) && (decide (h.2 = 0)))) (eh e8) ?_
   refine joinW 6 (fun f w => f 8 = (pB y) ∧ f 12 = iV z ∧ f 59 = .bool (((decide (c.2.2.2.2.2.2 = 0)) && (decide (h.2 = 0))) && (decide ((h.1.length : Int) = d.2.1))) ∧ St w0 ros (row 3 I1 j.v c.1 :: row 3 I1 n.v c.2.1 :: row 3 I1 k.v c.2.2.1 :: row 3 I1 o.v c.2.2.2.1 :: row 3 I1 p.v c.2.2.2.2.1 :: row 3 I1 l.v c.2.2.2.2.2.1 :: box y 31 [j.v, n.v, k.v, o.v, p.v, l.v] :: rs) w) (fun b0 => ?_) ?_
   ·rcases Bool.eq_false_or_eq_true ((decide (c.2.2.2.2.2.2 = 0)) && (decide (h.2 = 0))) with m | m
    ·exact yG m (m_ q.v (eh e7)) (yG m (yLen SL_22 e0 b rO8) (yG m (yFb FL_27_1 (eh e6)) (yG m (lb_ (iV d.2.1) O_3 e0 b R0) (yG m (yeql e0 e0) (yY (pt_ (.bool (decide ((h.1.length : Int) = d.2.1))) e0 m e0) (b0 _ _ ⟨a8, a9, (congrArg Value.bool (andT m)), ((b.pk 9 [1, 1, 1, 1, 1, 1, 1] rfl).facts (allT (allT (allT allI))))⟩))))))
    ·exact gN m (gN m (gN m (gN m (gN m (yY (pf_ (.bool false) e0 m rfl) (b0 _ _ ⟨a8, a9, (congrArg Value.bool (andF m)), ((b.pk 9 [1, 1, 1, 1, 1, 1, 1] rfl).facts (allT (allT (allT allI))))⟩))))))
   rintro f w ⟨L, e9, f0, b⟩
   refine Ym (.bool (((decide (c.2.2.2.2.2.2 = 0)) && (decide (h.2 = 0))) && (decide ((h.1.length : Int) = d.2.1)))) (eh f0) ?_
   refine joinW 14 (fun f w => f 74 = .bool ((((decide (c.2.2.2.2.2.2 = 0)) && (decide (h.2 = 0))) && (decide ((h.1.length : Int) = d.2.1))) && (decide (z = (wa .i64 (wa .i64 (c.1.length : Int) (c.2.2.1.length : Int)) (c.2.2.2.2.2.1.length : Int))))) ∧ St w0 ros rs w) (fun b1 => ?_) ?_
   ·rcases Bool.eq_false_or_eq_true (((decide (c.2.2.2.2.2.2 = 0)) && (decide (h.2 = 0))) && (decide ((h.1.length : Int) = d.2.1))) with g | g
    ·exact yG g (m_ (iV z) (eh e9)) (yG g (yFb FL_31_0 (eh L)) (yG g (lb_ j.v O_22 e0 b R6) (yG g (yLen SL_22 e0 b rO0) (yG g (yFb FL_31_2 (eh L)) (yG g (lb_ k.v O_22 e0 b R6) (yG g (yLen SL_22 e0 b rO2) (yG g (yadd e0 e0) (yG g (yFb FL_31_5 (eh L)) (yG g (lb_ l.v O_22 e0 b R6) (yG g (yLen SL_22 e0 b rO5) (yG g (yadd e0 e0) (yG g (yeql e0 e0) (yY (pt_ (.bool (decide (z = (wa .i64 (wa .i64 (c.1.length : Int) (c.2.2.1.length : Int)) (c.2.2.2.2.2.1.length : Int))))) e0 g e0) (b1 _ _ ⟨(congrArg Value.bool (andT g)), (b.pk 7 [] rfl)⟩))))))))))))))
    ·exact gN g (gN g (gN g (gN g (gN g (gN g (gN g (gN g (gN g (gN g (gN g (gN g (gN g (yY (pf_ (.bool false) e0 g rfl) (b1 _ _ ⟨(congrArg Value.bool (andF g)), (b.pk 7 [] rfl)⟩))))))))))))))
   rintro f w ⟨f1, b⟩
   refine Ym (.bool ((((decide (c.2.2.2.2.2.2 = 0)) && (decide (h.2 = 0))) && (decide ((h.1.length : Int) = d.2.1))) && (decide (z = (wa .i64 (wa .i64 (c.1.length : Int) (c.2.2.1.length : Int)) (c.2.2.2.2.2.1.length : Int)))))) (eh f1) (bE i fun b2 D i => ?_)
   refine joinW 2 (fun f w => f 77 = .bool b2 ∧ St w0 ros rs w) (fun b3 => ?_) ?_
   ·rcases iteS D with ⟨E, D⟩ | ⟨E, D⟩
    ·refine bE D fun f2 f3 D => Yc (wG E) rfl (yCall FN_9 a0) (sparselaw15_awake_ok f3 b) ?_
     rintro _ w ⟨rfl, b⟩
     refine ⟨_, rfl, ?_⟩
     refine yY (pt_ (.bool f2) e0 E e0) ?_
     cases D
     exact b3 _ _ ⟨rfl, b⟩
    ·refine gN (bfalse E) (yY (pf_ (.bool false) e0 (bfalse E) rfl) ?_)
     cases D
     exact b3 _ _ ⟨rfl, b⟩
   rintro f w ⟨f4, b⟩
   refine Ya (.bool b2) (eh f4) (wK e5 (wp_ret ?_))
   cases i
   exact X _ _ _ (fin1r Tryz.results5 ⟨rfl, rfl⟩ ⟨rfl, b⟩)
  refine loopQ (fun s a w => ∃ (F B : Int) (f : FV), (F, B) = s ∧ a = fr 78 f ∧ f 7 = (pB C) ∧ f 8 = (pB y) ∧ f 9 = iV c.2.2.2.2.2.2 ∧ f 10 = q.v ∧ f 11 = iV h.2 ∧ f 12 = iV F ∧ f 13 = iV B ∧ St w0 (imm I1 r.v d.2.2.1 :: imm I1 t.v d.2.2.2.1 :: imm (rI .u64) u.v d.2.2.2.2 :: ros) (box C 27 [iV d.1, iV d.2.1, r.v, t.v, u.v] :: row 3 I1 j.v c.1 :: row 3 I1 n.v c.2.1 :: row 3 I1 k.v c.2.2.1 :: row 3 I1 o.v c.2.2.2.1 :: row 3 I1 p.v c.2.2.2.2.1 :: row 3 I1 l.v c.2.2.2.2.2.1 :: box y 31 [j.v, n.v, k.v, o.v, p.v, l.v] :: row 3 I1 q.v h.1 :: rs) w) e1 ⟨_, _, _, rfl, rfl, rfl, rfl, rfl, rfl, rfl, rfl, rfl, ((b.pk 9 [8, 2, 2, 2, 2, 2, 2, 1, 0] rfl).facts (allC F2 (allC F1 (allC F0 (allT (allT (allT allI)))))))⟩ ?_
  rintro _ _ w f5 ⟨F, B, f, rfl, rfl, N, O, R, G, S, T, I, b⟩ x f6 i0 f7 f8
  refine seqQ fun i1 f9 g0 => sR fun _ g1 => Ym (iV B) (eh I) (Ym q.v (eh G) (yY (yLen SL_22 e0 b rO8) (yY (ylss e0 e0) (wK g1 ?_))))
  refine cIf e0 x (fun g2 x => ?_) fun g2 x => ?_
  ·refine wp_skip (f9 _ _ (sQ fun _ g3 => blockQ fun g4 g5 => sR fun _ g6 => Ym q.v (eh G) (Ym (iV B) (eh I) (bE x fun i2 b4 x => yY (yIa SL_22 e0 e0 b rO8 b4) (yY (yI O_3 e0 b rO8 b4) (yY (ygeq e0 rfl) (wK g6 ?_)))))))
   have b5 : ∀ (U : Int) (f : FV) w, f 7 = (pB C) → f 8 = (pB y) → f 9 = iV c.2.2.2.2.2.2 → f 10 = q.v → f 11 = iV h.2 → f 12 = iV U → f 13 = iV B → St w0 (imm I1 r.v d.2.2.1 :: imm I1 t.v d.2.2.2.1 :: imm (rI .u64) u.v d.2.2.2.2 :: ros) (box C 27 [iV d.1, iV d.2.1, r.v, t.v, u.v] :: row 3 I1 j.v c.1 :: row 3 I1 n.v c.2.1 :: row 3 I1 k.v c.2.2.1 :: row 3 I1 o.v c.2.2.2.1 :: row 3 I1 p.v c.2.2.2.2.1 :: row 3 I1 l.v c.2.2.2.2.2.1 :: box y 31 [j.v, n.v, k.v, o.v, p.v, l.v] :: row 3 I1 q.v h.1 :: rs) w → sparselaw15_BlocksRank_j8 B U = some f5 → g4 .normal (fr 78 f) w := by
    intro U f w g7 g8 g9 h0 h1 h2 h3 b i
    refine g5 _ _ _ (g3 _ _ (wR (Ym (iV B) (eh h3) (yY (yadd e0 rfl) (Ya (iV (wa .i64 B 1)) e0 (wN ?_))))))
    cases i
    exact f7 _ _ _ rfl ⟨_, _, _, rfl, rfl, g7, g8, g9, h0, h1, h2, rfl, b⟩
   refine cIf e0 x (fun h5 x => ?_) fun h5 x => ?_
   ·exact wR (Ym (iV F) (eh T) (yY (yadd e0 rfl) (Ya (iV (wa .i64 F 1)) e0 (wN (b5 _ _ _ N O R G S rfl I b x)))))
   ·exact wp_skip (b5 _ _ _ N O R G S T I b x)
  ·refine wp_exit (g0 _ _ _ rfl ?_)
   cases x
   exact f8 _ _ _ _ rfl rfl (e2 _ _ _ N O R G S T b (f6 _ rfl))
end Go.Proofs.YtgnfkbaghjmgiaaGreatDoor
