/- Walks: each function computes its model, printed. -/
import Derived.Test.YtgnfkbaghjmgiaaGreatDoorW5
namespace Go.Proofs.YtgnfkbaghjmgiaaGreatDoor
open Go Sx M
set_option maxRecDepth 100000
set_option maxHeartbeats 40000000
set_option linter.unusedVariables false
attribute [local irreducible] wpList Code.wp Calls DR QR QS LA LS St
variable {w0 : World} {ros : List Fact} {rs : List Res} {w : World}
theorem sparsemake_Value_ok {c out : Int} (a : sparsemake_Value c = some out) (h : globF ∈ ros) (b : St w0 ros rs w) :
  Calls Tryz.prog 33 #[iV c] w (fun e w => e = .returned (.int .u64 out) ∧ St w0 ros rs w) := by
 refine enterQ Tryz.func33 rfl Tryz.ntmps33 rfl fun Q j => sR fun _ k => Ya (.int .u64 0) rfl (wK k (sR fun _ l => Ym (iV c) e0 (bE a fun d m a => yC (yCall FN_10 (a2 e0 rfl)) (sparsekit_Place_ok m b) ?_)))
 rintro _ w ⟨rfl, b⟩
 refine ⟨_, rfl, ?_⟩
 refine yY (ysub e0 rfl) (Ya (iV (ws .i64 d 8)) e0 (wK l (sR fun _ n => Ya (iV 0) rfl (wK n (sQ fun o p => sR fun _ q => Ym (iV c) e0 (yY (ycv (k' := .u64) (by kernel_rfl) (by kernel_rfl) e0) ?_))))))
 refine yY (yquoc e0 rfl (by decide)) (yY (ycv (k' := .i64) (by kernel_rfl) (by kernel_rfl) e0) (Ya (iV (wc .i64 (wqc .u64 (wc .u64 c) 17))) e0 (wK q (sR fun _ r => Ym (iV (wc .i64 (wqc .u64 (wc .u64 c) 17))) e0 (yY (yremc e0 rfl (by decide)) (yY (yeql e0 rfl) (wK r ?_)))))))
 have i : ∀ (g : Int) (f : FV) w, f 3 = iV (ws .i64 d 8) → f 4 = iV g → St w0 ros rs w → sparsemake_Value_j1 d g = some out → o .normal (fr 25 f) w := by
  intro g f w s t b a
  refine p _ _ (sR fun _ u => Ym (iV (ws .i64 d 8)) (eh s) (bE a fun B v a => yC (yCall FN_60 (a1 e0)) (sparseref02_FromInt_ok v h b) ?_))
  rintro _ w ⟨C, rfl, b⟩
  refine ⟨_, rfl, ?_⟩
  refine Ym (iV g) (eh t) (bE a fun D x a => yC (yCall FN_59 (a2 e0 e0)) (sparseref02_Scale_ok x F0 (mtF h) b) ?_)
  rintro _ w ⟨E, rfl, b⟩
  refine ⟨_, rfl, ?_⟩
  refine bE a fun y z a => yC (yCall FN_58 (a2 e0 rfl)) (sparseref03_Round_ok z F0 (F_2 h) b) ?_
  rintro _ w ⟨rfl, b⟩
  refine ⟨_, rfl, ?_⟩
  refine Ya (.int .u64 y) e0 (wK u (wp_ret ?_))
  cases a
  exact j _ _ _ (fin1r Tryz.results33 ⟨rfl, rfl⟩ ⟨rfl, (b.facts (allT (allT allI)))⟩)
 refine cIf e0 a (fun A a => ?_) fun A a => ?_
 ·exact wR (Ym (iV (wc .i64 (wqc .u64 (wc .u64 c) 17))) e0 (yY (yquoc e0 rfl (by decide)) (yY (yremc e0 rfl (by decide)) (yY (ysub e0 rfl) (Ya (iV (ws .i64 (wrc (wqc .i64 (wc .i64 (wqc .u64 (wc .u64 c) 17)) 3) 13) 6)) e0 (wN (i _ _ _ rfl rfl b a)))))))
 ·exact wp_skip (i _ _ _ rfl rfl b a)
theorem sparseref09_Pack_ok {c d : Int} {c0 : List (Int × Int × Int)} {m : Hdr} {out : Int × Int × LI × LI × LI} (t : sparseref09_Pack c d c0 = some out) (A : imm rTi64i64u64 m.v c0 ∈ ros) (b : St w0 ros rs w) :
  Calls Tryz.prog 34 #[iV c, iV d, m.v] w (fun e w => ∃ (c1 c2 c3 : Hdr), e = .returned (.agg #[iV out.1, iV out.2.1, c1.v, c2.v, c3.v]) ∧ St w0 ros (row 3 I1 c1.v out.2.2.1 :: row 3 I1 c2.v out.2.2.2.1 :: row 47 (rI .u64) c3.v out.2.2.2.2 :: rs) w) := by
 refine enterQ Tryz.func34 rfl Tryz.ntmps34 rfl fun Q d9 => sR fun _ e1 => yBb (rAl b ZT_27) fun i w b => wK e1 (sR fun _ e2 => Ym (iV c) e0 (Ym (iV d) e0 (yH (rLt (n := 1) (l := [0]) b SL_22 [iV 0] (bp1 rfl) rfl rfl (mks1 (cs := [iV 0]) rfl mkI mks0)) fun y w b => yY (ybuild (us := [iV c, iV d, y.v, hnil.v, hnil.v]) [(0, iV c), (1, iV d), (2, y.v)] SO_27 (bp3 e0 e0 e0) rfl) ?_)))
 refine yBb (rAl b ZT_27) fun j w b => yT (r_stbn (vals' := [iV c, iV d, y.v, hnil.v, hnil.v]) (us := [iV c, iV d, y.v, hnil.v, hnil.v]) b ST_27 e0 e0 rfl rfl (one_of rfl) rfl) fun w b => wK e2 (sR fun _ e3 => Ym (iV c) e0 (Ym (iV d) e0 (yY (ymul e0 e0) (bE t fun o0 e4 t => yH (rMk b SL_22 e0 e4) fun h w b => ?_))))
 refine Ya h.v e0 (wK e3 (sQ fun _ e5 => sR fun _ e6 => Ya (iV 0) rfl (wK e6 (blockQ fun e7 e8 => bE t fun e9 f0 t => ?_))))
 have f1 : ∀ (B : LI) (f : FV) w, f 0 = iV c → f 1 = iV d → f 2 = m.v → f 6 = (pB i) → f 7 = (pB j) → f 8 = h.v → St w0 ros (box i 27 [iV 0, iV 0, hnil.v, hnil.v, hnil.v] :: row 3 I1 y.v [0] :: box j 27 [iV c, iV d, y.v, hnil.v, hnil.v] :: row 3 I1 h.v B :: rs) w → B = e9 → e7 (.exit 0) (fr 90 f) w := by
  intro B f w f2 f3 f4 f5 f6 f7 b ho
  subst ho
  refine e8 _ _ _ (e5 _ _ (sQ fun _ f8 => sR fun _ f9 => Ya (iV 0) rfl (wK f9 (blockQ fun g0 g1 => bE t fun g2 g3 t => ?_))))
  have g4 : ∀ (X Z a0 : LI) (C D E : Hdr) (f : FV) w, f 6 = (pB i) → f 7 = (pB j) → St w0 ros (box i 27 [iV 0, iV 0, hnil.v, hnil.v, hnil.v] :: row 3 I1 C.v X :: row 3 I1 D.v Z :: row 47 (rI .u64) E.v a0 :: box j 27 [iV c, iV d, C.v, D.v, E.v] :: rs) w → (X, Z, a0) = g2 → g0 (.exit 2) (fr 90 f) w := by
   intro X Z a0 C D E f w c4 g5 b ho
   subst ho
   refine g1 _ _ _ (f8 _ _ (sR fun _ g6 => yY (lbs_ [iV c, iV d, C.v, D.v, E.v] ST_27 (eh g5) b R4) (yT (r_stbn (vals' := [iV c, iV d, C.v, D.v, E.v]) (us := [iV c, iV d, C.v, D.v, E.v]) b ST_27 (eh c4) e0 rfl rfl (one_of rfl) rfl) fun w b => wK g6 (wp_ret ?_))))
   cases t
   exact d9 _ _ _ (fin1r Tryz.results34 (rcs2 rfl c4 b R0 ST_27 rfl) ⟨_, _, _, rfl, (b.pk 5 [1, 1, 1] rfl)⟩)
  replace b := (b.rowNh 3 I1).rowNh 47 (rI .u64)
  refine loopQ (fun s a w => ∃ (F a1 a2 : LI) (q : Int) (f : FV) (o a3 a4 : Hdr), (F, a1, a2, q) = s ∧ a = fr 90 f ∧ f 0 = iV c ∧ f 1 = iV d ∧ f 2 = m.v ∧ f 6 = (pB i) ∧ f 7 = (pB j) ∧ f 8 = h.v ∧ f 10 = iV q ∧ St w0 ros (box i 27 [iV 0, iV 0, hnil.v, hnil.v, hnil.v] :: row 3 I1 o.v F :: row 3 I1 a3.v a1 :: row 47 (rI .u64) a4.v a2 :: box j 27 [iV c, iV d, o.v, a3.v, a4.v] :: row 3 I1 h.v B :: rs) w) g3 ⟨_, _, _, _, _, _, _, _, rfl, rfl, f2, f3, f4, f5, f6, f7, rfl, (b.pk 6 [2, 2, 1, 0, 0, 0] rfl)⟩ ?_
  rintro _ _ w o2 ⟨F, a1, a2, q, f, o, a3, a4, rfl, rfl, g7, c5, g8, c6, c7, g9, c8, b⟩ x h0 o3 h1 h2
  refine seqQ fun o4 h3 h5 => sR fun _ h7 => Ym (iV q) (eh c8) (Ym (iV d) (eh c5) (yY (ylss e0 e0) (wK h7 ?_)))
  refine cIf e0 x (fun h9 x => ?_) fun h9 x => ?_
  ·refine wp_skip (h3 _ _ (sQ fun _ i0 => blockQ fun _ i1 => sQ fun _ i2 => sR fun _ i3 => Ya (iV 0) rfl (wK i3 (blockQ fun i4 i5 => bE x fun i6 i7 x => ?_))))
   have i8 : ∀ (G a5 : LI) (I O : Hdr) (f : FV) w, f 0 = iV c → f 1 = iV d → f 2 = m.v → f 6 = (pB i) → f 7 = (pB j) → f 8 = h.v → f 10 = iV q → St w0 ros (box i 27 [iV 0, iV 0, hnil.v, hnil.v, hnil.v] :: row 3 I1 o.v F :: row 3 I1 I.v G :: row 47 (rI .u64) O.v a5 :: box j 27 [iV c, iV d, o.v, I.v, O.v] :: row 3 I1 h.v B :: rs) w → (G, a5) = i6 → i4 (.exit 4) (fr 90 f) w := by
    intro G a5 I O f w i9 j0 j1 j2 R j3 j4 b ho
    subst ho
    refine i5 _ _ _ (i2 _ _ (wR (yY (yFb FL_27_2 (eh R)) (yY (lb_ o.v O_22 e0 b R4) (yY (yFb FL_27_3 (eh R)) (yY (lb_ I.v O_22 e0 b R4) (yY (yLen SL_22 e0 b rO2) (yH (rLt (n := 1) (l := [(G.length : Int)]) b SL_22 [iV (G.length : Int)] (bp1 e0) rfl rfl (mks1 (cs := [iV (G.length : Int)]) rfl mkI mks0)) fun o5 w b => bE x fun o6 j5 x => yH (rAp (b.pk 3 [2, 0, 0] rfl) SL_22 e0 e0 rO1 j5) fun j6 w b => yY (yFb FL_27_2 (eh R)) ?_))))))))
    refine yT (r_stb1 (vals' := [iV c, iV d, j6.v, I.v, O.v]) (b.pk 6 [5, 0, 0, 0, 0, 0] rfl) O_22 e0 e0 rfl rfl rfl rfl) fun w b => wN (i1 _ _ _ (i0 _ _ (wR (Ym (iV q) (eh j4) (yY (yadd e0 rfl) (Ya (iV (wa .i64 q 1)) e0 (wN ?_)))))))
    cases x
    exact h1 _ _ _ rfl ⟨_, _, _, _, _, _, _, _, rfl, rfl, i9, j0, j1, j2, R, j3, rfl, (b.pk 7 [3, 1, 2, 2, 0, 1] rfl)⟩
   refine loopQ (fun s a w => ∃ (a6 a7 : LI) (k : Int) (f : FV) (S H : Hdr), (a6, a7, k) = s ∧ a = fr 90 f ∧ f 0 = iV c ∧ f 1 = iV d ∧ f 2 = m.v ∧ f 6 = (pB i) ∧ f 7 = (pB j) ∧ f 8 = h.v ∧ f 10 = iV q ∧ f 11 = iV k ∧ St w0 ros (box i 27 [iV 0, iV 0, hnil.v, hnil.v, hnil.v] :: row 3 I1 o.v F :: row 3 I1 S.v a6 :: row 47 (rI .u64) H.v a7 :: box j 27 [iV c, iV d, o.v, S.v, H.v] :: row 3 I1 h.v B :: rs) w) i7 ⟨_, _, _, _, _, _, rfl, rfl, g7, c5, g8, c6, c7, g9, c8, rfl, b⟩ ?_
   rintro _ _ w j7 ⟨a6, a7, k, f, S, H, rfl, rfl, J, a8, T, a9, z, U, V, K, b⟩ g j8 o7 j9 k0
   refine seqQ fun o8 k6 k7 => sR fun _ k8 => Ym (iV k) (eh K) (Ym (iV c) (eh J) (yY (ylss e0 e0) (wK k8 ?_)))
   refine cIf e0 g (fun k9 g => ?_) fun k9 g => ?_
   ·refine wp_skip (k6 _ _ (sQ fun _ l0 => blockQ fun l1 l2 => sR fun _ l3 => Ym h.v (eh U) (Ym (iV q) (eh V) (Ym (iV c) (eh J) (yY (ymul e0 e0) (Ym (iV k) (eh K) (yY (yadd e0 e0) (bE g fun b0 c9 g => yY (yIa SL_22 e0 e0 b rO5 c9) ?_))))))))
    refine yY (yI O_3 e0 b rO5 c9) (Ya (iV b0) e0 (wK l3 (sR fun _ l4 => Ym (iV b0) e0 (yY (ygtr e0 rfl) (wK l4 ?_)))))
    have d0 : ∀ (b1 b2 : LI) (b3 b4 : Hdr) (f : FV) w, f 0 = iV c → f 1 = iV d → f 2 = m.v → f 6 = (pB i) → f 7 = (pB j) → f 8 = h.v → f 10 = iV q → f 11 = iV k → St w0 ros (box i 27 [iV 0, iV 0, hnil.v, hnil.v, hnil.v] :: row 3 I1 o.v F :: row 3 I1 b3.v b1 :: row 47 (rI .u64) b4.v b2 :: box j 27 [iV c, iV d, o.v, b3.v, b4.v] :: row 3 I1 h.v B :: rs) w → sparseref09_Pack_j14 k b1 b2 = some j7 → l1 .normal (fr 90 f) w := by
     intro b1 b2 b3 b4 f w l5 l6 l7 l8 l9 m0 m1 m2 b t
     refine l2 _ _ _ (l0 _ _ (wR (Ym (iV k) (eh m2) (yY (yadd e0 rfl) (Ya (iV (wa .i64 k 1)) e0 (wN ?_))))))
     cases t
     exact j9 _ _ _ rfl ⟨_, _, _, _, _, _, rfl, rfl, l5, l6, l7, l8, l9, m0, m1, rfl, b⟩
    refine cIf e0 g (fun m3 g => ?_) fun m3 g => ?_
    ·refine sR fun _ m4 => yY (yFb FL_27_3 (eh z)) (yY (lb_ S.v O_22 e0 b R4) (Ym (iV k) (eh K) (yH (rLt (n := 1) (l := [k]) b SL_22 [iV k] (bp1 e0) rfl rfl (mks1 (cs := [iV k]) rfl mkI mks0)) fun o9 w b => bE g fun p0 m5 g => yH (rAp (b.pk 4 [3, 0, 0, 0] rfl) SL_22 e0 e0 rO1 m5) fun d1 w b => yY (yFb FL_27_3 (eh z)) (yT (r_stb1 (vals' := [iV c, iV d, o.v, d1.v, H.v]) (b.pk 6 [5, 0, 0, 0, 0, 0] rfl) O_22 e0 e0 rfl rfl rfl rfl) fun w b => wN ?_))))
     refine m4 _ _ (bE g fun W d2 g => bE g fun p1 m6 g => dR [0, 1, 0, 0, 8, 28, 60, 124, 252, 511, 1023, 2047] [8, 9, 11] 3 folM ?_)
     replace b := b.drew
     refine Dn [0, 1, 2, 3, 4, 5, 6, 7] [] [8] (yR rfl (yFb FL_27_4 (eh z)) (yR rfl (lb_ H.v O_25 e0 b R0) (yR rfl (m_ m.v (eh T)) (yR rfl (m_ (iV b0) e0) (yR rfl (ysub e0 rfl) (yR rfl (yIa SL_44 e0 e0 b (rdI A) d2) (yR rfl (yFe FL_49_2 e0) (yR rfl (yFf (u := .int .u64 W.2.2) O_47 e0 b (rdI A) d2 rfl) (Rn QSn ?_)))))))))
     refine Lc1 rfl ?_
     refine LH wn (rLt (n := 1) (l := [W.2.2]) b SL_25 [.int .u64 W.2.2] (bp1 e0) rfl rfl (mks1 (cs := [.int .u64 W.2.2]) rfl mkI mks0)) fun p2 w b => Dn [] [0, 1] [9] (Rn (yS rfl (yFb FL_27_4 (eh z)) (yS rfl (lb_ H.v O_25 e0 b R1) QSn)) ?_)
     refine Lc1 rfl ?_
     replace b := b.pk 7 [6, 0, 0, 0, 0, 0, 0] rfl
     refine LH wn (rAp b SL_25 e0 e0 rO1 m6) fun m7 w b => Dn [10] [] [11] (yR rfl (yFb FL_27_4 (eh z)) (Rn QSn ?_))
     refine Lc1 rfl ?_
     replace b := b.pk 3 [2, 0, 0] rfl
     exact LT wn (r_stb1 (vals' := [iV c, iV d, o.v, d1.v, m7.v]) b O_25 e0 e0 rfl rfl rfl rfl) fun w b => Dz [] [] (Rn QSn (d0 _ _ _ _ _ _ J a8 T a9 z U V K (b.pk 8 [5, 5, 3, 1, 0, 2] rfl) g))
    ·exact wp_skip (d0 _ _ _ _ _ _ J a8 T a9 z U V K b g)
   ·refine wp_exit (k7 _ _ _ rfl ?_)
    cases g
    exact k0 _ _ _ _ rfl rfl (i8 _ _ _ _ _ _ J a8 T a9 z U V b (j8 _ rfl))
  ·refine wp_exit (h5 _ _ _ rfl ?_)
   cases x
   exact h2 _ _ _ _ rfl rfl (g4 _ _ _ _ _ _ _ _ c6 c7 (b.pk 6 [0, 0, 0, 0, 0] rfl) (h0 _ rfl))
 refine loopQ (fun s a w => ∃ (b6 : LI) (r : Int) (f : FV), (b6, r) = s ∧ a = fr 90 f ∧ f 0 = iV c ∧ f 1 = iV d ∧ f 2 = m.v ∧ f 6 = (pB i) ∧ f 7 = (pB j) ∧ f 8 = h.v ∧ f 9 = iV r ∧ St w0 ros (box i 27 [iV 0, iV 0, hnil.v, hnil.v, hnil.v] :: row 3 I1 y.v [0] :: box j 27 [iV c, iV d, y.v, hnil.v, hnil.v] :: row 3 I1 h.v b6 :: rs) w) f0 ⟨_, _, _, rfl, rfl, rfl, rfl, rfl, rfl, rfl, rfl, rfl, (b.pk 4 [3, 2, 1, 0] rfl)⟩ ?_
 rintro _ _ w p3 ⟨b6, r, f, rfl, rfl, b8, d3, L, d4, d5, b9, N, b⟩ p m8 p4 m9 n0
 refine seqQ fun p5 n2 n3 => sR fun _ n4 => Ym (iV r) (eh N) (Ym m.v (eh L) (yY (yLen SL_44 e0 b (rdI A)) (yY (ylss e0 e0) (wK n4 ?_))))
 refine cIf e0 p (fun n5 p => ?_) fun n5 p => ?_
 ·refine wp_skip (n2 _ _ (sQ fun _ n6 => blockQ fun _ n7 => bE p fun n8 d6 p => bE p fun n9 d7 p => bE p fun p6 d8 p => dR [0, 0, 0, 6, 14, 30, 0, 126, 0, 0, 768, 1792, 3840, 8190, 0, 16384, 65535, 131071] [17] 1 folM ?_))
  replace b := b.drew
  refine Dn [0, 1, 2, 3, 4, 5, 6, 7, 8, 9, 10, 11, 12, 13, 14, 15, 16] [] [17] (yR rfl (m_ h.v (eh b9)) (yR rfl (m_ m.v (eh L)) (yR rfl (m_ (iV r) (eh N)) (yR rfl (yIa SL_44 e0 e0 b (rdI A) d6) (yR rfl (yFe FL_49_1 e0) (yR rfl (yFf (u := iV n8.2.1) O_3 e0 b (rdI A) d6 rfl) (yR rfl (m_ (iV c) (eh b8)) (yR rfl (ymul e0 e0) (yR rfl (m_ m.v (eh L)) (yR rfl (m_ (iV r) (eh N)) (yR rfl (yIa SL_44 e0 e0 b (rdI A) d7) (yR rfl (yFe FL_49_0 e0) (yR rfl (yFf (u := iV n9.1) O_3 e0 b (rdI A) d7 rfl) ?_)))))))))))))
  refine yR rfl (yadd e0 e0) (yR rfl (m_ (iV r) (eh N)) (yR rfl (yadd e0 rfl) (yR rfl (yIs SL_22 e0 e0 b rO3 d8) (Rn QSn ?_))))
  refine Lc1 rfl ?_
  replace b := b.pk 4 [3, 0, 0, 0] rfl
  refine LT wn (r_sti (cs := [iV (wa .i64 r 1)]) b O_3 rfl e0 e0 rfl mkI d8) fun w b => Dz [] [] (Rn QSn (n7 _ _ _ (n6 _ _ (wR (Ym (iV r) (eh N) (yY (yadd e0 rfl) (Ya (iV (wa .i64 r 1)) e0 (wN ?_))))))))
  cases p
  exact m9 _ _ _ rfl ⟨_, _, _, rfl, rfl, b8, d3, L, d4, d5, b9, rfl, (b.pk 4 [1, 1, 1, 0] rfl)⟩
 ·refine wp_exit (n3 _ _ _ rfl ?_)
  cases p
  exact n0 _ _ _ _ rfl rfl (f1 _ _ _ b8 d3 L d4 d5 b9 b (m8 _ rfl))
theorem sparsemake_Matrix_ok {g i : Int} {p : LI} {j : Hdr} {out : Int × Int × LI × LI × LI} (y : sparsemake_Matrix g i p = some out) (h : imm I1 j.v p ∈ ros) (b3 : globF ∈ ros) (b : St w0 ros rs w) :
  Calls Tryz.prog 11 #[iV g, iV i, j.v] w (fun e w => ∃ (O R S : Hdr), e = .returned (.agg #[iV out.1, iV out.2.1, O.v, R.v, S.v]) ∧ St w0 ros (row 3 I1 O.v out.2.2.1 :: row 3 I1 R.v out.2.2.2.1 :: row 47 (rI .u64) S.v out.2.2.2.2 :: rs) w) := by
 refine enterQ Tryz.func11 rfl Tryz.ntmps11 rfl fun Q b4 => sR fun _ b6 => yBb (rAl b ZT_27) fun q w b => wK b6 (sR fun _ b7 => Ya hnil.v rfl (wK b7 (sQ fun _ b8 => sQ fun _ b9 => ?_)))
 refine wR (Ya (iV 0) rfl (wK b9 (blockQ fun c0 c1 => bE y fun c2 c3 y => ?_)))
 have c4 : ∀ (H : List (Int × Int × Int)) (D : Hdr) (f : FV) w, f 0 = iV g → f 1 = iV i → f 6 = (pB q) → f 7 = D.v → St w0 ros (box q 27 [iV 0, iV 0, hnil.v, hnil.v, hnil.v] :: row 49 rTi64i64u64 D.v H :: rs) w → H = c2 → c0 (.exit 0) (fr 51 f) w := by
  intro H D f w c5 c6 T c7 b ho
  subst ho
  refine c1 _ _ _ (b8 _ _ (sR fun _ c8 => Ym (iV g) (eh c5) (Ym (iV i) (eh c6) (Ym D.v (eh c7) (bE y fun E c9 y => ?_)))))
  replace b := (b.pk 2 [1, 0] rfl).fz
  refine yC (yCall FN_34 (a3 e0 e0 e0)) (sparseref09_Pack_ok c9 F0 b) ?_
  rintro _ w ⟨U, V, W, rfl, b⟩
  refine ⟨_, rfl, ?_⟩
  refine yT (r_stbn (vals' := [iV E.1, iV E.2.1, U.v, V.v, W.v]) (us := [iV E.1, iV E.2.1, U.v, V.v, W.v]) (b.pk 4 [3, 0, 0, 0] rfl) ST_27 (eh T) e0 rfl rfl (one_of rfl) rfl) fun w b => wK c8 (wp_ret ?_)
  cases y
  exact b4 _ _ _ (fin1r Tryz.results11 (rcs2 rfl T b R0 ST_27 rfl) ⟨_, _, _, rfl, ((b.pk 4 [1, 1, 1] rfl).facts (allT allI))⟩)
 replace b := b.rowNh 49 rTi64i64u64
 refine loopQ (fun s a w => ∃ (z : List (Int × Int × Int)) (c : Int) (f : FV) (k : Hdr), (z, c) = s ∧ a = fr 51 f ∧ f 0 = iV g ∧ f 1 = iV i ∧ f 2 = j.v ∧ f 6 = (pB q) ∧ f 7 = k.v ∧ f 8 = iV c ∧ St w0 ros (box q 27 [iV 0, iV 0, hnil.v, hnil.v, hnil.v] :: row 49 rTi64i64u64 k.v z :: rs) w) c3 ⟨_, _, _, _, rfl, rfl, rfl, rfl, rfl, rfl, rfl, rfl, (b.pk 2 [1, 0] rfl)⟩ ?_
 rintro _ _ w e7 ⟨z, c, f, k, rfl, rfl, I, X, J, Z, a0, K, b⟩ d d0 e8 d1 d2
 refine seqQ fun e9 d3 d4 => sR fun _ d5 => Ym (iV c) (eh K) (yY (yadd e0 rfl) (Ym j.v (eh J) (yY (yLen SL_22 e0 b (rdI h)) (yY (ylss e0 e0) (Ym (.bool (decide ((wa .i64 c 2) < (p.length : Int)))) e0 ?_)))))
 refine joinW 3 (fun f w => f 0 = iV g ∧ f 1 = iV i ∧ f 2 = j.v ∧ f 6 = (pB q) ∧ f 7 = k.v ∧ f 8 = iV c ∧ f 17 = .bool ((decide ((wa .i64 c 2) < (p.length : Int))) && (decide ((0 : Int) < g))) ∧ St w0 ros (box q 27 [iV 0, iV 0, hnil.v, hnil.v, hnil.v] :: row 49 rTi64i64u64 k.v z :: rs) w) (fun a4 => ?_) ?_
 ·rcases Bool.eq_false_or_eq_true (decide ((wa .i64 c 2) < (p.length : Int))) with m | m
  ·exact yG m (m_ (iV g) (eh I)) (yG m (ygtr e0 rfl) (yY (pt_ (.bool (decide ((0 : Int) < g))) e0 m e0) (a4 _ _ ⟨I, X, J, Z, a0, K, (congrArg Value.bool (andT m)), b⟩)))
  ·exact gN m (gN m (yY (pf_ (.bool false) e0 m rfl) (a4 _ _ ⟨I, X, J, Z, a0, K, (congrArg Value.bool (andF m)), b⟩)))
 rintro f w ⟨a5, L, a6, a7, a8, a9, d6, b⟩
 refine Ym (.bool ((decide ((wa .i64 c 2) < (p.length : Int))) && (decide ((0 : Int) < g)))) (eh d6) ?_
 refine joinW 3 (fun f w => f 0 = iV g ∧ f 1 = iV i ∧ f 2 = j.v ∧ f 6 = (pB q) ∧ f 7 = k.v ∧ f 8 = iV c ∧ f 21 = .bool (((decide ((wa .i64 c 2) < (p.length : Int))) && (decide ((0 : Int) < g))) && (decide ((0 : Int) < i))) ∧ St w0 ros (box q 27 [iV 0, iV 0, hnil.v, hnil.v, hnil.v] :: row 49 rTi64i64u64 k.v z :: rs) w) (fun b0 => ?_) ?_
 ·rcases Bool.eq_false_or_eq_true ((decide ((wa .i64 c 2) < (p.length : Int))) && (decide ((0 : Int) < g))) with o | o
  ·exact yG o (m_ (iV i) (eh L)) (yG o (ygtr e0 rfl) (yY (pt_ (.bool (decide ((0 : Int) < i))) e0 o e0) (b0 _ _ ⟨a5, L, a6, a7, a8, a9, (congrArg Value.bool (andT o)), b⟩)))
  ·exact gN o (gN o (yY (pf_ (.bool false) e0 o rfl) (b0 _ _ ⟨a5, L, a6, a7, a8, a9, (congrArg Value.bool (andF o)), b⟩)))
 rintro f w ⟨N, F, r, b1, u, t, d7, b⟩
 refine wK d5 (cB (eh d7) d (fun d8 d => ?_) fun d8 d => ?_)
 ·refine wp_skip (d3 _ _ (sQ fun _ d9 => blockQ fun _ e1 => bE d fun f0 b2 d => bE d fun A e2 d => bE d fun f1 G d => bE d fun B e3 d => bE d fun f2 x d => bE d fun C e4 d => bE d fun f3 e5 d => dR [0, 0, 0, 6, 14, 0, 62, 0, 0, 256, 896, 1920, 0, 8190, 0, 0, 32768, 114688, 245760, 524286, 1048574, 2097150, 4194303, 8388607] [6, 13, 19, 21, 22, 23] 6 folM ?_))
  replace b := b.drew
  refine Dn [0, 1, 2, 3, 4, 5, 7, 8, 9, 10, 11, 12, 14, 15, 16, 17, 18] [] [6] (yR rfl (m_ k.v (eh u)) (yR rfl (m_ j.v (eh r)) (yR rfl (m_ (iV c) (eh t)) (yR rfl (yIa SL_22 e0 e0 b (rdI h) b2) (yR rfl (yI O_3 e0 b (rdI h) b2) (yR rfl (m_ (iV g) (eh N)) (yR rfl (m_ j.v (eh r)) (yR rfl (m_ (iV c) (eh t)) (yR rfl (yadd e0 rfl) (yR rfl (yIa SL_22 e0 e0 b (rdI h) G) (yR rfl (yI O_3 e0 b (rdI h) G) (yR rfl (m_ (iV i) (eh F)) (yR rfl (m_ j.v (eh r)) ?_)))))))))))))
  refine yR rfl (m_ (iV c) (eh t)) (yR rfl (yadd e0 rfl) (yR rfl (yIa SL_22 e0 e0 b (rdI h) x) (yR rfl (yI O_3 e0 b (rdI h) x) (Rn QSn ?_))))
  refine Lc1 rfl ?_
  refine Lk wn (yCall FN_10 (a2 e0 e0)) (sparsekit_Place_ok e2 b) ?_
  rintro _ w ⟨rfl, b⟩
  refine ⟨_, rfl, ?_⟩
  refine Dn [] [0, 7, 8, 9, 10, 11, 12, 14, 15, 16, 17, 18] [13] (Rn (yS rfl (m_ k.v (eh u)) (yS rfl (m_ j.v (eh r)) (yS rfl (m_ (iV c) (eh t)) (yS rfl (yadd e0 rfl) (yS rfl (yIa SL_22 e0 e0 b (rdI h) G) (yS rfl (yI O_3 e0 b (rdI h) G) (yS rfl (m_ (iV i) (eh F)) (yS rfl (m_ j.v (eh r)) (yS rfl (m_ (iV c) (eh t)) (yS rfl (yadd e0 rfl) (yS rfl (yIa SL_22 e0 e0 b (rdI h) x) (yS rfl (yI O_3 e0 b (rdI h) x) QSn)))))))))))) ?_)
  refine Lc1 rfl ?_
  refine Lk wn (yCall FN_10 (a2 e0 e0)) (sparsekit_Place_ok e3 b) ?_
  rintro _ w ⟨rfl, b⟩
  refine ⟨_, rfl, ?_⟩
  refine Dn [] [0, 14, 15, 16, 17, 18] [19] (Rn (yS rfl (m_ k.v (eh u)) (yS rfl (m_ j.v (eh r)) (yS rfl (m_ (iV c) (eh t)) (yS rfl (yadd e0 rfl) (yS rfl (yIa SL_22 e0 e0 b (rdI h) x) (yS rfl (yI O_3 e0 b (rdI h) x) QSn)))))) ?_)
  refine Lc1 rfl ?_
  refine Lk wn (yCall FN_33 (a1 e0)) (sparsemake_Value_ok e4 b3 b) ?_
  rintro _ w ⟨rfl, b⟩
  refine ⟨_, rfl, ?_⟩
  refine Dn [20] [0] [21] (yR rfl (ybuild (us := [iV A, iV B, .int .u64 C]) [(0, iV A), (1, iV B), (2, .int .u64 C)] SO_49 (bp3 e0 e0 e0) rfl) (Rn (yS rfl (m_ k.v (eh u)) QSn) ?_))
  refine Lc1 rfl ?_
  refine LH wn (rLt (n := 1) (l := [(A, B, C)]) b SL_44 [.agg #[iV A, iV B, .int .u64 C]] (bp1 e0) rfl rfl (mks1 (cs := [iV A, iV B, .int .u64 C]) rfl (mkF rfl) mks0)) fun f4 w b => Dn [] [0] [22] (Rn (yS rfl (m_ k.v (eh u)) QSn) ?_)
  refine Lc1 rfl ?_
  replace b := b.pk 3 [2, 0, 0] rfl
  refine LH wn (rAp b SL_44 e0 e0 rO1 e5) fun e6 w b => Dn [] [] [23] (Rn QSn ?_)
  refine Lc1 rfl ?_
  refine Ly wn (a_ e6.v e0) (Dz [] [] (Rn QSn (e1 _ _ _ (d9 _ _ (wR (Ym (iV c) (eh t) (yY (yadd e0 rfl) (Ya (iV (wa .i64 c 3)) e0 (wN ?_)))))))))
  cases d
  exact d1 _ _ _ rfl ⟨_, _, _, _, rfl, rfl, N, F, r, b1, rfl, rfl, (b.pk 3 [2, 0] rfl)⟩
 ·refine wp_exit (d4 _ _ _ rfl ?_)
  cases d
  exact d2 _ _ _ _ rfl rfl (c4 _ _ _ _ N F b1 u b (d0 _ rfl))
theorem sparseref13_none_ok {h : Int} {out : LI} (j : sparseref13_none h = some out) (b : St w0 ros rs w) :
  Calls Tryz.prog 64 #[iV h] w (fun e w => ∃ (o : Hdr), e = .returned (o.v) ∧ St w0 ros (row 3 I1 o.v out :: rs) w) := by
 refine enterQ Tryz.func64 rfl Tryz.ntmps64 rfl fun Q t => sR fun _ u => Ya hnil.v rfl (wK u (sR fun _ x => Ya hnil.v rfl (wK x (sQ fun _ y => sR fun _ z => ?_))))
 refine Ya (iV 0) rfl (wK z (blockQ fun A B => bE j fun C D j => ?_))
 have E : ∀ (k : LI) (g : Hdr) (f : FV) w, f 3 = g.v → St w0 ros (row 3 I1 g.v k :: rs) w → k = C → A (.exit 0) (fr 14 f) w := by
  intro k g f w F b ho
  subst ho
  refine B _ _ _ (y _ _ (sR fun _ G => Ym g.v (eh F) (Ya g.v e0 (wK G (wp_ret ?_)))))
  cases j
  exact t _ _ _ (fin1r Tryz.results64 ⟨rfl, rfl⟩ ⟨_, rfl, b⟩)
 replace b := b.rowNh 3 I1
 refine loopQ (fun s a w => ∃ (m : LI) (d : Int) (f : FV) (i : Hdr), (m, d) = s ∧ a = fr 14 f ∧ f 0 = iV h ∧ f 3 = i.v ∧ f 4 = iV d ∧ St w0 ros (row 3 I1 i.v m :: rs) w) D ⟨_, _, _, _, rfl, rfl, rfl, rfl, rfl, b⟩ ?_
 rintro _ _ w V ⟨m, d, f, i, rfl, rfl, p, q, r, b⟩ c H W I J
 refine seqQ fun X K L => sR fun _ N => Ym (iV d) (eh r) (Ym (iV h) (eh p) (yY (ylss e0 e0) (wK N ?_)))
 refine cIf e0 c (fun O c => ?_) fun O c => ?_
 ·refine wp_skip (K _ _ (sQ fun _ R => blockQ fun _ S => wR (Ym i.v (eh q) (yH (rLt (n := 1) (l := [(-1)]) b SL_22 [iV (-1)] (bp1 rfl) rfl rfl (mks1 (cs := [iV (-1)]) rfl mkI mks0)) fun Z w b => bE c fun a0 T c => yH (rAp (b.pk 2 [1, 0] rfl) SL_22 e0 e0 rO1 T) fun U w b => Ya U.v e0 (wN (S _ _ _ ?_))))))
  refine R _ _ (wR (Ym (iV d) (eh r) (yY (yadd e0 rfl) (Ya (iV (wa .i64 d 1)) e0 (wN ?_)))))
  cases c
  exact I _ _ _ rfl ⟨_, _, _, _, rfl, rfl, p, rfl, rfl, (b.pk 2 [0] rfl)⟩
 ·refine wp_exit (L _ _ _ rfl ?_)
  cases c
  exact J _ _ _ _ rfl rfl (E _ _ _ _ q b (H _ rfl))
theorem sparseref13_Search_Try_step {rec : Int → Int → LI → LI → LI → LI → LI → (List Bool) → Int → Option (LI × LI × (List Bool) × Bool)} (c3 : ∀ {w0 : World} {ros : List Fact} {rs : List Res} {w : World} {n o : Int} {z A B C D : LI} {E : List Bool} {k : Int} {d : Nat} {l m p g j h : Hdr} {out : LI × LI × (List Bool) × Bool} (u : rec n o z A B C D E k = some out) (y : imm I1 l.v z ∈ ros) (G : imm I1 m.v A ∈ ros) (a4 : imm (rI .u64) p.v B ∈ ros) (b : St w0 ros (box d 91 [iV n, iV o, l.v, m.v, p.v, g.v, j.v, h.v] :: row 3 I1 g.v C :: row 3 I1 j.v D :: row 4 rB h.v E :: rs) w), Calls Tryz.prog 65 #[(pB d), iV k] w (fun e w => e = .returned (.bool out.2.2.2) ∧ St w0 ros (row 3 I1 g.v out.1 :: row 3 I1 j.v out.2.1 :: row 4 rB h.v out.2.2.1 :: box d 91 [iV n, iV o, l.v, m.v, p.v, g.v, j.v, h.v] :: rs) w)) {w0 : World} {ros : List Fact} {rs : List Res} {w : World} {n o : Int} {z A B C D : LI} {E : List Bool} {k : Int} {d : Nat} {l m p g j h : Hdr} {out : LI × LI × (List Bool) × Bool} (u : sparseref13_Search_Try_body rec n o z A B C D E k = some out) (y : imm I1 l.v z ∈ ros) (G : imm I1 m.v A ∈ ros) (a4 : imm (rI .u64) p.v B ∈ ros) (b : St w0 ros (box d 91 [iV n, iV o, l.v, m.v, p.v, g.v, j.v, h.v] :: row 3 I1 g.v C :: row 3 I1 j.v D :: row 4 rB h.v E :: rs) w) :
  Calls Tryz.prog 65 #[(pB d), iV k] w (fun e w => e = .returned (.bool out.2.2.2) ∧ St w0 ros (row 3 I1 g.v out.1 :: row 3 I1 j.v out.2.1 :: row 4 rB h.v out.2.2.1 :: box d 91 [iV n, iV o, l.v, m.v, p.v, g.v, j.v, h.v] :: rs) w) := by
 refine enterQ Tryz.func65 rfl Tryz.ntmps65 rfl fun Q a5 => sR fun _ c4 => Ya (.bool false) rfl (wK c4 (seqQ fun g2 c5 c6 => sR fun _ c7 => Ym (pB d) e0 (yY (yn e0) (yY (yFb FL_91_0 e0) (yY (yFb FL_27_2 e0) (yY (lb_ l.v O_22 e0 b R0) ?_))))))
 refine Ym (iV k) e0 (bE u fun c8 a6 u => yY (yIa SL_22 e0 e0 b (rdI y) a6) (yY (yI O_3 e0 b (rdI y) a6) (Ya (iV c8) e0 (wK c7 (blockQ fun a7 a8 => bE u fun a9 c9 u => ?_)))))
 have d0 : ∀ (K L : LI) (N : List Bool) (f : FV) w, St w0 ros (row 3 I1 g.v K :: row 3 I1 j.v L :: row 4 rB h.v N :: box d 91 [iV n, iV o, l.v, m.v, p.v, g.v, j.v, h.v] :: rs) w → .inl (K, L, N) = a9 → a7 (.exit 0) (fr 82 f) w := by
  intro K L N f w b ho
  subst ho
  refine a8 _ _ _ (c5 _ _ (sR fun _ d1 => Ya (.bool false) rfl (wK d1 (wp_ret ?_))))
  cases u
  exact a5 _ _ _ (fin1r Tryz.results65 ⟨rfl, rfl⟩ ⟨rfl, b⟩)
 have d2 : ∀ (O R : LI) (S : List Bool) (f : FV) w, f 4 = .bool true → St w0 ros (row 3 I1 g.v O :: row 3 I1 j.v R :: row 4 rB h.v S :: box d 91 [iV n, iV o, l.v, m.v, p.v, g.v, j.v, h.v] :: rs) w → .inr (O, R, S) = a9 → a7 .ret (fr 82 f) w := by
  intro O R S f w d3 b ho
  subst ho
  refine a8 _ _ _ (c6 _ _ _ rfl ?_)
  cases u
  exact a5 _ _ _ (fin1r Tryz.results65 ⟨rfl, d3⟩ ⟨rfl, b⟩)
 refine loopQ (fun s a w => ∃ (T U : LI) (V : List Bool) (q : Int) (f : FV), (T, U, V, q) = s ∧ a = fr 82 f ∧ f 0 = (pB d) ∧ f 1 = iV k ∧ f 5 = iV q ∧ St w0 ros (row 3 I1 g.v T :: row 3 I1 j.v U :: row 4 rB h.v V :: box d 91 [iV n, iV o, l.v, m.v, p.v, g.v, j.v, h.v] :: rs) w) c9 ⟨_, _, _, _, _, rfl, rfl, rfl, rfl, rfl, (b.pk 4 [1, 1, 1, 0] rfl)⟩ ?_
 rintro _ _ w d4 ⟨T, U, V, q, f, rfl, rfl, r, H, F, b⟩ c b0 g3 d5 b2
 refine seqQ fun g4 d6 d7 => sR fun _ d8 => Ym (iV q) (eh F) (Ym (pB d) (eh r) (yY (yn e0) (yY (yFb FL_91_0 e0) (yY (yFb FL_27_2 e0) (yY (lb_ l.v O_22 e0 b R3) (Ym (iV k) (eh H) (yY (yadd e0 rfl) (bE c fun g5 b3 c => yY (yIa SL_22 e0 e0 b (rdI y) b3) (yY (yI O_3 e0 b (rdI y) b3) ?_)))))))))
 refine yY (ylss e0 e0) (wK d8 ?_)
 refine cIf e0 c (fun d9 c => ?_) fun d9 c => ?_
 ·refine wp_skip (d6 _ _ (seqQ fun e1 e2 e3 => ?_))
  have b4 : ∀ (W X : LI) (Z : List Bool) (f : FV) w, f 0 = (pB d) → f 1 = iV k → f 5 = iV q → St w0 ros (row 3 I1 g.v W :: row 3 I1 j.v X :: row 4 rB h.v Z :: box d 91 [iV n, iV o, l.v, m.v, p.v, g.v, j.v, h.v] :: rs) w → sparseref13_Search_Try_j12 q W X Z = some d4 → e1 .normal (fr 82 f) w := by
   intro W X Z f w e4 e5 e6 b u
   refine e2 _ _ (wR (Ym (iV q) (eh e6) (yY (yadd e0 rfl) (Ya (iV (wa .i64 q 1)) e0 (wN ?_)))))
   cases u
   exact d5 _ _ _ rfl ⟨_, _, _, _, _, rfl, rfl, e4, e5, rfl, b⟩
  refine blockQ fun _ a0 => sR fun _ e7 => Ym (pB d) (eh r) (yY (yn e0) (yY (yFb FL_91_0 e0) (yY (yFb FL_27_3 e0) (yY (lb_ m.v O_22 e0 b R3) (Ym (iV q) (eh F) (bE c fun t b5 c => yY (yIa SL_22 e0 e0 b (rdI G) b5) (yY (yI O_3 e0 b (rdI G) b5) (Ya (iV t) e0 (wN ?_)))))))))
  refine e7 _ _ (seqQ fun g6 e8 e9 => sR fun _ f0 => Ym (pB d) (eh r) (yY (yn e0) (yY (yFb FL_91_3 e0) (yY (lb_ h.v O_56 e0 b R3) (Ym (iV t) e0 (bE c fun g7 b6 c => yY (yIa SL_56 e0 e0 b rO2 b6) (yY (yB O_4 e0 b rO2 b6) (wK f0 (cB e0 c (fun f1 c => ?_) fun f1 c => ?_)))))))))
  ·exact wp_exit (e9 _ _ _ rfl (a0 _ _ _ (b4 _ _ _ _ _ r H F b c)))
  ·refine wp_skip (e8 _ _ (sR fun _ f2 => Ym (pB d) (eh r) (yY (yn e0) (yY (yFb FL_91_3 e0) (yY (lb_ h.v O_56 e0 b R3) (Ym (iV t) e0 (bE c fun g8 b7 c => yY (yIs SL_56 e0 e0 b rO2 b7) (yT (r_sti (cs := [.bool true]) (b.pk 3 [2, 0, 0] rfl) O_4 rfl e0 rfl rfl mkB b7) fun w b => wN ?_))))))))
   refine f2 _ _ (sR fun _ f3 => Ym (pB d) (eh r) (yY (yn e0) (yY (yFb FL_91_1 e0) (yY (lb_ g.v O_22 e0 b R3) (Ym (iV t) e0 (bE c fun f4 b8 c => yY (yIa SL_22 e0 e0 b rO1 b8) (yY (yI O_3 e0 b rO1 b8) (yY (ylss e0 rfl) (Ym (.bool (decide (f4 < 0))) e0 (bE c fun I x c => ?_))))))))))
   refine joinW 10 (fun f w => f 0 = (pB d) ∧ f 1 = iV k ∧ f 5 = iV q ∧ f 6 = iV t ∧ f 67 = .bool I.1 ∧ St w0 ros (row 3 I1 g.v I.2.1 :: row 3 I1 j.v I.2.2.1 :: row 4 rB h.v I.2.2.2 :: box d 91 [iV n, iV o, l.v, m.v, p.v, g.v, j.v, h.v] :: rs) w) (fun b9 => ?_) ?_
   ·rcases iteS x with ⟨i, x⟩ | ⟨i, x⟩
    ·refine gN (dT i) (gN (dT i) (gN (dT i) (gN (dT i) (gN (dT i) (gN (dT i) (gN (dT i) (gN (dT i) (gN (dT i) (yY (pt_ (.bool true) e0 (dT i) rfl) ?_)))))))))
     cases x
     exact b9 _ _ ⟨r, H, F, rfl, rfl, (b.pk 4 [1, 1, 0, 0] rfl)⟩
    ·refine yG (dF i) (m_ (pB d) (eh r)) (yG (dF i) (m_ (pB d) (eh r)) (yG (dF i) (yn e0) (yG (dF i) (yFb FL_91_1 e0) (yG (dF i) (lb_ g.v O_22 e0 b R3) (yG (dF i) (m_ (iV t) e0) (bE x fun g9 c0 x => yG (dF i) (yIa SL_22 e0 e0 b rO1 c0) (yG (dF i) (yI O_3 e0 b rO1 c0) (bE x fun f5 f6 x => ?_))))))))
     replace b := b.pk 4 [3, 1, 1, 0] rfl
     refine Yc (wG (dF i)) rfl (yCall FN_65 (a2 e0 e0)) (c3 f6 y G a4 b) ?_
     rintro _ w ⟨rfl, b⟩
     refine ⟨_, rfl, ?_⟩
     refine yY (pf_ (.bool f5.2.2.2) e0 (dF i) e0) ?_
     cases x
     exact b9 _ _ ⟨r, H, F, rfl, rfl, b⟩
   rintro f w ⟨a1, J, f7, a3, f8, b⟩
   refine wK f3 (cB (eh f8) c (fun f9 c => ?_) fun f9 c => ?_)
   ·refine sQ fun _ g0 => bE c fun h0 c1 c => bE c fun h1 c2 c => dR [0, 1, 3, 7, 0, 0, 32, 96, 224, 0, 0, 0, 1535, 5631, 16383, 32767] [13, 15] 2 folM ?_
    replace b := b.drew
    refine Dn [0, 1, 2, 3, 4, 5, 6, 7, 8, 9, 10, 11, 12] [] [13] (yR rfl (m_ (pB d) (eh a1)) (yR rfl (yn e0) (yR rfl (yFb FL_91_1 e0) (yR rfl (lb_ g.v O_22 e0 b R3) (yR rfl (m_ (iV t) (eh a3)) (yR rfl (m_ (pB d) (eh a1)) (yR rfl (yn e0) (yR rfl (yFb FL_91_2 e0) (yR rfl (lb_ j.v O_22 e0 b R3) (yR rfl (m_ (iV k) (eh J)) (yR rfl (m_ (iV k) (eh J)) (yR rfl (m_ (iV t) (eh a3)) (yR rfl (yIs SL_22 e0 e0 b rO0 c1) ?_)))))))))))))
    refine Rn QSn ?_
    refine Lc1 rfl ?_
    refine LT wn (r_sti (cs := [iV k]) b O_3 rfl e0 e0 rfl mkI c1) fun w b => Dn [14] [9, 11] [15] (yR rfl (yIs SL_22 e0 e0 b rO1 c2) (Rn (yS rfl (m_ (iV k) (eh J)) (yS rfl (m_ (iV t) (eh a3)) QSn)) ?_))
    refine Lc1 rfl ?_
    replace b := b.pk 2 [1, 0] rfl
    refine LT wn (r_sti (cs := [iV t]) b O_3 rfl e0 e0 rfl mkI c2) fun w b => Dz [] [] (Rn QSn (g0 _ _ (sR fun _ g1 => Ya (.bool true) rfl (wK g1 (wp_ret (a0 _ _ _ (e3 _ _ _ rfl ?_)))))))
    cases c
    exact b2 _ _ _ _ rfl rfl (d2 _ _ _ _ _ rfl (b.pk 4 [1, 0, 0, 0] rfl) (b0 _ rfl))
   ·exact wp_skip (a0 _ _ _ (b4 _ _ _ _ _ a1 J f7 b c))
 ·refine wp_exit (d7 _ _ _ rfl ?_)
  cases c
  exact b2 _ _ _ _ rfl rfl (d0 _ _ _ _ _ b (b0 _ rfl))
theorem sparseref13_Search_Try_ok_n (n : Nat) : ∀ {w0 : World} {ros : List Fact} {rs : List Res} {w : World} {f g : Int} {l m o p q : LI} {r : List Bool} {s : Int} {h : Nat} {i j k a b c : Hdr} {out : LI × LI × (List Bool) × Bool} (d : sparseref13_Search_Try n f g l m o p q r s = some out) (t : imm I1 i.v l ∈ ros) (u : imm I1 j.v m ∈ ros) (x : imm (rI .u64) k.v o ∈ ros) (y : St w0 ros (box h 91 [iV f, iV g, i.v, j.v, k.v, a.v, b.v, c.v] :: row 3 I1 a.v p :: row 3 I1 b.v q :: row 4 rB c.v r :: rs) w),
  Calls Tryz.prog 65 #[(pB h), iV s] w (fun e w => e = .returned (.bool out.2.2.2) ∧ St w0 ros (row 3 I1 a.v out.1 :: row 3 I1 b.v out.2.1 :: row 4 rB c.v out.2.2.1 :: box h 91 [iV f, iV g, i.v, j.v, k.v, a.v, b.v, c.v] :: rs) w) := by
 induction n with
 | zero => intro _ _ _ _ _ _ _ _ _ _ _ _ _ _ _ _ _ _ _ _ out d; cases d
 | succ n ih => exact fun d t u x y => sparseref13_Search_Try_step (rec := sparseref13_Search_Try n) ih d t u x y
theorem sparseref13_Search_Try_ok {d f : Int} {k l m n o : LI} {p : List Bool} {q : Int} {g : Nat} {h i j a b c : Hdr} {out : LI × LI × (List Bool) × Bool} (r : sparseref13_Search_Try FUEL d f k l m n o p q = some out) (s : imm I1 h.v k ∈ ros) (t : imm I1 i.v l ∈ ros) (u : imm (rI .u64) j.v m ∈ ros) (x : St w0 ros (box g 91 [iV d, iV f, h.v, i.v, j.v, a.v, b.v, c.v] :: row 3 I1 a.v n :: row 3 I1 b.v o :: row 4 rB c.v p :: rs) w) :
  Calls Tryz.prog 65 #[(pB g), iV q] w (fun e w => e = .returned (.bool out.2.2.2) ∧ St w0 ros (row 3 I1 a.v out.1 :: row 3 I1 b.v out.2.1 :: row 4 rB c.v out.2.2.1 :: box g 91 [iV d, iV f, h.v, i.v, j.v, a.v, b.v, c.v] :: rs) w) := sparseref13_Search_Try_ok_n FUEL r s t u x
theorem sparseref13_Find_ok {d c : Int} {D E F : LI} {g h i : Hdr} {out : LI × LI × (List Bool)} (n : sparseref13_Find d c D E F = some out) (L : imm I1 g.v D ∈ ros) (N : imm I1 h.v E ∈ ros) (O : imm (rI .u64) i.v F ∈ ros) (b : St w0 ros rs w) :
  Calls Tryz.prog 43 #[.agg #[iV d, iV c, g.v, h.v, i.v]] w (fun e w => ∃ (G : Nat) (H I J : Hdr), e = .returned (pB G) ∧ St w0 ros (row 3 I1 H.v out.1 :: row 3 I1 I.v out.2.1 :: row 4 rB J.v out.2.2 :: box G 91 [iV d, iV c, g.v, h.v, i.v, H.v, I.v, J.v] :: rs) w) := by
 refine enterQ Tryz.func43 rfl Tryz.ntmps43 rfl fun Q R => sR fun _ S => yBb (r_box (vals := [iV d, iV c, g.v, h.v, i.v]) b e0 rfl) fun K w b => Ya (.pointer none) rfl (wK S (sQ fun _ T => bE n fun c2 U n => bE n fun c3 V n => dR [0, 0, 2, 6, 0, 16, 62, 127, 255, 511] [3, 6, 8, 9] 4 folM ?_))
 replace b := b.drew
 refine Dn [0, 1, 2, 4, 5] [] [3] (yR rfl (lbs_ [iV d, iV c, g.v, h.v, i.v] ST_27 e0 b R0) (yR rfl (yFb FL_27_0 e0) (yR rfl (lb_ (iV d) O_3 e0 b R0) (yR rfl (yFb FL_27_1 e0) (yR rfl (lb_ (iV c) O_3 e0 b R0) (Rn QSn ?_))))))
 refine Lc1 rfl ?_
 refine Lk wn (yCall FN_64 (a1 e0)) (sparseref13_none_ok U b) ?_
 rintro _ w ⟨l, rfl, b⟩
 refine ⟨_, rfl, ?_⟩
 refine Dn [] [0, 4, 5] [6] (Rn (yS rfl (lbs_ [iV d, iV c, g.v, h.v, i.v] ST_27 e0 b R1) (yS rfl (yFb FL_27_1 e0) (yS rfl (lb_ (iV c) O_3 e0 b R1) QSn))) ?_)
 refine Lc1 rfl ?_
 refine Lk wn (yCall FN_64 (a1 e0)) (sparseref13_none_ok V b) ?_
 rintro _ w ⟨m, rfl, b⟩
 refine ⟨_, rfl, ?_⟩
 refine Dn [7] [0] [8] (yR rfl (ybuild (us := [iV d, iV c, g.v, h.v, i.v, l.v, m.v, hnil.v]) [(0, .agg #[iV d, iV c, g.v, h.v, i.v]), (1, l.v), (2, m.v)] SO_91 (bp3 e0 e0 e0) rfl) (Rn (yS rfl (lbs_ [iV d, iV c, g.v, h.v, i.v] ST_27 e0 b R2) QSn) ?_))
 refine Lc1 rfl ?_
 refine LB wn (r_box (vals := [iV d, iV c, g.v, h.v, i.v, l.v, m.v, hnil.v]) b e0 rfl) fun j w b => Dn [] [] [9] (Rn QSn ?_)
 refine Lc1 rfl ?_
 refine Ly wn (a_ (pB j) e0) (Dz [] [] (Rn QSn (T _ _ (sQ fun _ W => sR fun _ X => Ya (iV 0) rfl (wK X (blockQ fun Z a0 => bE n fun a3 a4 n => ?_))))))
 have a5 : ∀ (q r : LI) (t : List Bool) (u : Hdr) (f : FV) w, f 3 = (pB j) → St w0 ros (row 3 I1 l.v q :: row 3 I1 m.v r :: row 4 rB u.v t :: box j 91 [iV d, iV c, g.v, h.v, i.v, l.v, m.v, u.v] :: rs) w → (q, r, t) = a3 → Z (.exit 0) (fr 30 f) w := by
  intro q r t u f w a6 b ho
  subst ho
  refine a0 _ _ _ (W _ _ (sR fun _ a7 => Ym (pB j) (eh a6) (Ya (pB j) e0 (wK a7 (wp_ret ?_)))))
  cases n
  exact R _ _ _ (fin1r Tryz.results43 ⟨rfl, rfl⟩ ⟨_, _, _, _, rfl, b⟩)
 replace b := b.rowNh 4 rB
 refine loopQ (fun s a w => ∃ (x y : LI) (z : List Bool) (o : Int) (f : FV) (A : Hdr), (x, y, z, o) = s ∧ a = fr 30 f ∧ f 1 = (pB K) ∧ f 3 = (pB j) ∧ f 4 = iV o ∧ St w0 ros (box K 27 [iV d, iV c, g.v, h.v, i.v] :: row 3 I1 l.v x :: row 3 I1 m.v y :: row 4 rB A.v z :: box j 91 [iV d, iV c, g.v, h.v, i.v, l.v, m.v, A.v] :: rs) w) a4 ⟨_, _, _, _, _, _, rfl, rfl, rfl, rfl, rfl, (b.pk 5 [4, 3, 2, 0, 0] rfl)⟩ ?_
 rintro _ _ w c4 ⟨x, y, z, o, f, A, rfl, rfl, B, p, C, b⟩ k a8 c5 a9 b0
 refine seqQ fun c6 b1 b2 => sR fun _ b3 => Ym (iV o) (eh C) (yY (yFb FL_27_1 (eh B)) (yY (lb_ (iV c) O_3 e0 b R0) (yY (ylss e0 e0) (wK b3 ?_))))
 refine cIf e0 k (fun b4 k => ?_) fun b4 k => ?_
 ·refine wp_skip (b1 _ _ (sQ fun _ b5 => blockQ fun _ b6 => sR fun _ b7 => Ym (pB j) (eh p) (yY (yFb FL_27_0 (eh B)) (yY (lb_ (iV d) O_3 e0 b R0) (bE k fun c7 b8 k => yH (rMk b SL_56 e0 b8) fun c0 w b => yY (yn e0) (yY (yFb FL_91_3 e0) ?_))))))
  refine yT (r_stb1 (vals' := [iV d, iV c, g.v, h.v, i.v, l.v, m.v, c0.v]) (b.pk 6 [5, 0, 0, 0, 0, 0] rfl) O_56 e0 e0 rfl rfl rfl rfl) fun w b => wK b7 (wR (Ym (pB j) (eh p) (Ym (iV o) (eh C) (bE k fun c8 c1 k => ?_))))
  replace b := b.pk 5 [0, 2, 2, 0, 0] rfl
  refine yC (yCall FN_65 (a2 e0 e0)) (sparseref13_Search_Try_ok c1 L N O b) ?_
  rintro _ w ⟨rfl, b⟩
  refine ⟨_, rfl, ?_⟩
  refine wN (b6 _ _ _ (b5 _ _ (wR (Ym (iV o) (eh C) (yY (yadd e0 rfl) (Ya (iV (wa .i64 o 1)) e0 (wN ?_)))))))
  cases k
  exact a9 _ _ _ rfl ⟨_, _, _, _, _, _, rfl, rfl, B, p, rfl, (b.pk 6 [4, 0, 0, 0, 0] rfl)⟩
 ·refine wp_exit (b2 _ _ _ rfl ?_)
  cases k
  exact b0 _ _ _ _ rfl rfl (a5 _ _ _ _ _ _ p (b.pk 5 [1, 1, 1, 1] rfl) (a8 _ rfl))
theorem sparseref15_Perfect_ok {i j : Int} {p q r : LI} {k l m : Hdr} {out : LI × Bool} (h : sparseref15_Perfect i j p q r = some out) (F : imm I1 k.v p ∈ ros) (G : imm I1 l.v q ∈ ros) (H : imm (rI .u64) m.v r ∈ ros) (b : St w0 ros rs w) :
  Calls Tryz.prog 22 #[.agg #[iV i, iV j, k.v, l.v, m.v]] w (fun e w => ∃ (t : Hdr), e = .returned (.tuple #[t.v, .bool out.2]) ∧ St w0 ros (row 3 I1 t.v out.1 :: rs) w) := by
 refine enterQ Tryz.func22 rfl Tryz.ntmps22 rfl fun Q u => sR fun _ I => yBb (r_box (vals := [iV i, iV j, k.v, l.v, m.v]) b e0 rfl) fun b0 w b => Ya hnil.v rfl (Ya (.bool false) rfl (wK I (sR fun _ J => yY (lbs_ [iV i, iV j, k.v, l.v, m.v] ST_27 e0 b R0) (bE h fun x K h => yC (yCall FN_43 (a1 e0)) (sparseref13_Find_ok K F G H b) ?_))))
 rintro _ w ⟨b1, b2, d, b3, rfl, b⟩
 refine ⟨_, rfl, ?_⟩
 refine yY (yn e0) (yY (yFb FL_91_2 e0) (yY (lb_ d.v O_22 e0 b R3) (Ya d.v e0 (wK J (seqQ fun b4 L N => sR fun _ O => Ya (iV 0) rfl (wK O (blockQ fun y z => bE h fun A R h => ?_)))))))
 have S : ∀ (f : FV) w, f 4 = d.v → St w0 ros (row 3 I1 d.v x.2.1 :: rs) w → .inl () = A → y (.exit 0) (fr 23 f) w := by
  intro f w T b ho
  subst ho
  refine z _ _ _ (L _ _ (sR fun _ U => Ym d.v (eh T) (Ya d.v e0 (Ya (.bool true) rfl (wK U (wp_ret ?_))))))
  cases h
  exact u _ _ _ (fin2r Tryz.results22 ⟨rfl, rfl⟩ ⟨rfl, rfl⟩ ⟨_, rfl, b⟩)
 have V : ∀ (f : FV) w, f 2 = hnil.v → f 3 = .bool false → St w0 ros rs w → .inr () = A → y .ret (fr 23 f) w := by
  intro f w W X b ho
  subst ho
  refine z _ _ _ (N _ _ _ rfl ?_)
  cases h
  replace b := b.rowNh 3 I1
  exact u _ _ _ (fin2r Tryz.results22 ⟨rfl, W⟩ ⟨rfl, X⟩ ⟨_, rfl, b⟩)
 refine loopQ (fun s a w => ∃ (g : Int) (f : FV), g = s ∧ a = fr 23 f ∧ f 4 = d.v ∧ f 5 = iV g ∧ St w0 ros (row 3 I1 d.v x.2.1 :: rs) w) R ⟨_, _, rfl, rfl, rfl, rfl, (b.pk 5 [1] rfl)⟩ ?_
 rintro _ _ w b5 ⟨g, f, rfl, rfl, n, o, b⟩ c B b6 Z C
 refine seqQ fun b7 a0 a2 => sR fun _ a3 => Ym (iV g) (eh o) (Ym d.v (eh n) (yY (yLen SL_22 e0 b rO0) (yY (ylss e0 e0) (wK a3 ?_))))
 refine cIf e0 c (fun a4 c => ?_) fun a4 c => ?_
 ·refine wp_skip (a0 _ _ (seqQ fun b8 a5 a6 => blockQ fun _ D => sR fun _ a7 => Ym d.v (eh n) (Ym (iV g) (eh o) (bE c fun c0 E c => yY (yIa SL_22 e0 e0 b rO0 E) (yY (yI O_3 e0 b rO0 E) (yY (ylss e0 rfl) (wK a7 ?_)))))))
  refine cIf e0 c (fun a8 c => ?_) fun a8 c => ?_
  ·refine sR fun _ a9 => Ya hnil.v rfl (Ya (.bool false) rfl (wK a9 (wp_ret (D _ _ _ (a6 _ _ _ rfl ?_)))))
   cases c
   exact C _ _ _ _ rfl rfl (V _ _ rfl rfl (b.pk 1 [] rfl) (B _ rfl))
  ·refine wp_skip (D _ _ _ (a5 _ _ (wR (Ym (iV g) (eh o) (yY (yadd e0 rfl) (Ya (iV (wa .i64 g 1)) e0 (wN ?_)))))))
   cases c
   exact Z _ _ _ rfl ⟨_, _, rfl, rfl, n, rfl, b⟩
 ·refine wp_exit (a2 _ _ _ rfl ?_)
  cases c
  exact C _ _ _ _ rfl rfl (S _ _ n b (B _ rfl))
theorem sparsekit_Perm_ok {B : LI} {i : Int} {j : Hdr} {out : Bool} (k : sparsekit_Perm B i = some out) (l : imm I1 j.v B ∈ ros) (b : St w0 ros rs w) :
  Calls Tryz.prog 23 #[j.v, iV i] w (fun e w => e = .returned (.bool out) ∧ St w0 ros rs w) := by
 refine enterQ Tryz.func23 rfl Tryz.ntmps23 rfl fun Q u => sR fun _ a0 => Ya (.bool false) rfl (wK a0 (seqQ fun d5 a1 a2 => sR fun _ a3 => Ym j.v e0 (yY (yLen SL_22 e0 b (rdI l)) (Ym (iV i) e0 (yY (yneq e0 e0) (wN ?_))))))
 refine a3 _ _ ?_
 rcases iteS k with ⟨x, k⟩ | ⟨x, k⟩
 ·refine condF e0 (nF (dT x)) (wp_skip (a1 _ _ (sR fun _ a4 => Ym (iV i) e0 (bE k fun d6 a5 k => yH (rMk b SL_56 e0 a5) fun m w b => Ya m.v e0 (wK a4 (seqQ fun d7 a6 a7 => sQ fun _ a8 => ?_))))))
  refine wR (Ya (iV 0) rfl (wK a8 (blockQ fun C D => bE k fun E a9 k => ?_)))
  have b0 : ∀ (f : FV) w, St w0 ros rs w → .inl () = E → C (.exit 0) (fr 46 f) w := by
   intro f w b ho
   subst ho
   refine D _ _ _ (a6 _ _ (sR fun _ b1 => Ya (.bool true) rfl (wK b1 (wp_ret ?_))))
   cases k
   exact u _ _ _ (fin1r Tryz.results23 ⟨rfl, rfl⟩ ⟨rfl, b⟩)
  have b2 : ∀ (f : FV) w, f 4 = .bool false → St w0 ros rs w → .inr () = E → C .ret (fr 46 f) w := by
   intro f w b3 b ho
   subst ho
   refine D _ _ _ (a7 _ _ _ rfl ?_)
   cases k
   exact u _ _ _ (fin1r Tryz.results23 ⟨rfl, b3⟩ ⟨rfl, b⟩)
  refine loopQ (fun s a w => ∃ (p : List Bool) (h : Int) (f : FV), (p, h) = s ∧ a = fr 46 f ∧ f 0 = j.v ∧ f 1 = iV i ∧ f 5 = m.v ∧ f 6 = iV h ∧ St w0 ros (row 4 rB m.v p :: rs) w) a9 ⟨_, _, _, rfl, rfl, rfl, rfl, rfl, rfl, b⟩ ?_
  rintro _ _ w d8 ⟨p, h, f, rfl, rfl, r, t, F, q, b⟩ c G d9 b4 H
  refine seqQ fun e1 b5 b6 => sR fun _ b7 => Ym (iV h) (eh q) (Ym (iV i) (eh t) (yY (ylss e0 e0) (wK b7 ?_)))
  refine cIf e0 c (fun b8 c => ?_) fun b8 c => ?_
  ·refine wp_skip (b5 _ _ (seqQ fun e2 b9 c0 => blockQ fun _ I => seqQ fun e3 c1 c2 => sR fun _ c3 => Ym j.v (eh r) (Ym (iV h) (eh q) (bE c fun c5 J c => yY (yIa SL_22 e0 e0 b (rdI l) J) (yY (yI O_3 e0 b (rdI l) J) (yY (ylss e0 rfl) (Ym (.bool (decide (c5 < 0))) e0 ?_)))))))
   refine bE c fun K o c => ?_
   refine joinW 7 (fun f w => f 0 = j.v ∧ f 1 = iV i ∧ f 5 = m.v ∧ f 6 = iV h ∧ f 30 = .bool K ∧ St w0 ros (row 4 rB m.v p :: rs) w) (fun L => ?_) ?_
   ·rcases iteS o with ⟨g, o⟩ | ⟨g, o⟩
    ·refine gN (dT g) (gN (dT g) (gN (dT g) (gN (dT g) (gN (dT g) (gN (dT g) (yY (pt_ (.bool true) e0 (dT g) rfl) ?_))))))
     cases o
     exact L _ _ ⟨r, t, F, q, rfl, b⟩
    ·refine yG (dF g) (m_ j.v (eh r)) (yG (dF g) (m_ (iV h) (eh q)) (bE o fun c6 N o => yG (dF g) (yIa SL_22 e0 e0 b (rdI l) N) (yG (dF g) (yI O_3 e0 b (rdI l) N) (yG (dF g) (m_ (iV i) (eh t)) (yG (dF g) (ygeq e0 e0) (yY (pf_ (.bool (decide (i ≤ c6))) e0 (dF g) e0) ?_))))))
     cases o
     exact L _ _ ⟨r, t, F, q, rfl, b⟩
   rintro f w ⟨y, O, z, A, c7, b⟩
   refine Ym (.bool K) (eh c7) (bE c fun c8 n c => ?_)
   refine joinW 8 (fun f w => f 0 = j.v ∧ f 1 = iV i ∧ f 5 = m.v ∧ f 6 = iV h ∧ f 39 = .bool c8 ∧ St w0 ros (row 4 rB m.v p :: rs) w) (fun R => ?_) ?_
   ·rcases iteS n with ⟨d, n⟩ | ⟨d, n⟩
    ·refine gN d (gN d (gN d (gN d (gN d (gN d (gN d (yY (pt_ (.bool true) e0 d rfl) ?_)))))))
     cases n
     exact R _ _ ⟨y, O, z, A, rfl, b⟩
    ·refine yG (bfalse d) (m_ m.v (eh z)) (yG (bfalse d) (m_ j.v (eh y)) (yG (bfalse d) (m_ (iV h) (eh A)) (bE n fun e4 S n => yG (bfalse d) (yIa SL_22 e0 e0 b (rdI l) S) (yG (bfalse d) (yI O_3 e0 b (rdI l) S) (bE n fun c9 T n => yG (bfalse d) (yIa SL_56 e0 e0 b rO0 T) (yG (bfalse d) (yB O_4 e0 b rO0 T) (yY (pf_ (.bool c9) e0 (bfalse d) e0) ?_)))))))
     cases n
     exact R _ _ ⟨y, O, z, A, rfl, b⟩
   rintro f w ⟨U, d0, V, W, d1, b⟩
   refine wK c3 (cB (eh d1) c (fun d2 c => ?_) fun d2 c => ?_)
   ·refine sR fun _ d3 => Ya (.bool false) rfl (wK d3 (wp_ret (c2 _ _ _ rfl (I _ _ _ (c0 _ _ _ rfl ?_)))))
    cases c
    exact H _ _ _ _ rfl rfl (b2 _ _ rfl (b.pk 1 [] rfl) (G _ rfl))
   ·refine wp_skip (c1 _ _ (wR (Ym m.v (eh V) (Ym j.v (eh U) (Ym (iV h) (eh W) (bE c fun e5 X c => yY (yIa SL_22 e0 e0 b (rdI l) X) (yY (yI O_3 e0 b (rdI l) X) (bE c fun e6 Z c => yY (yIs SL_56 e0 e0 b rO0 Z) (yT (r_sti (cs := [.bool true]) b O_4 rfl e0 rfl rfl mkB Z) fun w b => wN ?_)))))))))
    refine I _ _ _ (b9 _ _ (wR (Ym (iV h) (eh W) (yY (yadd e0 rfl) (Ya (iV (wa .i64 h 1)) e0 (wN ?_))))))
    cases c
    exact b4 _ _ _ rfl ⟨_, _, _, rfl, rfl, U, d0, V, rfl, b⟩
  ·refine wp_exit (b6 _ _ _ rfl ?_)
   cases c
   exact H _ _ _ _ rfl rfl (b0 _ _ (b.pk 1 [] rfl) (G _ rfl))
 ·refine condT e0 (nT (dF x)) (sR fun _ d4 => Ya (.bool false) rfl (wK d4 (wp_ret (a2 _ _ _ rfl ?_))))
  cases k
  exact u _ _ _ (fin1r Tryz.results23 ⟨rfl, rfl⟩ ⟨rfl, b⟩)
theorem sparselaw15_BlocksTriangle_ok {E : Int} {J : LI} {A : Hdr} {out : Bool} (b : sparselaw15_BlocksTriangle E J = some out) (e8 : out = true) (K : imm I1 A.v J ∈ ros) (a5 : globF ∈ ros) (a : St w0 ros rs w) :
  Calls Tryz.prog 6 #[iV E, A.v] w (fun e w => e = .returned (.bool out) ∧ St w0 ros rs w) := by
 refine enterQ Tryz.func6 rfl Tryz.ntmps6 rfl fun Q F => sR fun _ a6 => Ya (.bool false) rfl (wK a6 (seqQ fun e9 a7 a8 => sR fun _ a9 => Ym A.v e0 (yY (yLen SL_22 e0 a (rdI K)) (yY (ygtr e0 rfl) (wK a9 ?_)))))
 refine cIf e0 b (fun b0 b => ?_) fun b0 b => ?_
 ·refine sR fun _ b1 => bE b fun b2 b3 b => yC (yCall FN_9 a0) (sparselaw15_awake_ok b3 a) ?_
  rintro _ w ⟨rfl, a⟩
  refine ⟨_, rfl, ?_⟩
  refine Ya (.bool b2) e0 (wK b1 (wp_ret (a8 _ _ _ rfl ?_)))
  cases b
  exact F _ _ _ (fin1r Tryz.results6 ⟨rfl, rfl⟩ ⟨rfl, a⟩)
 ·refine wp_skip (a7 _ _ (sR fun _ b4 => Ym (iV E) e0 (bE b fun x b5 b => yC (yCall FN_10 (a2 e0 rfl)) (sparsekit_Place_ok b5 a) ?_)))
  rintro _ w ⟨rfl, a⟩
  refine ⟨_, rfl, ?_⟩
  refine Ya (iV x) e0 (wK b4 (sR fun _ b6 => Ym (iV x) e0 (Ym (iV x) e0 (Ym A.v e0 (bE b fun c b7 b => yC (yCall FN_11 (a3 e0 e0 e0)) (sparsemake_Matrix_ok b7 K a5 a) ?_)))))
  rintro _ w ⟨m, n, o, rfl, a⟩
  refine ⟨_, rfl, ?_⟩
  refine yBb (rAl a ZT_27) fun B w a => yT (r_stbn (vals' := [iV c.1, iV c.2.1, m.v, n.v, o.v]) (us := [iV c.1, iV c.2.1, m.v, n.v, o.v]) a ST_27 e0 e0 rfl rfl (one_of rfl) rfl) fun w a => wK b6 (sR fun _ b8 => yY (lbs_ [iV c.1, iV c.2.1, m.v, n.v, o.v] ST_27 e0 a R0) (bE b fun d b9 b => ?_))
  replace a := (((((a.pk 2 [1, 0] rfl).fz).pk 2 [1, 0] rfl).fz).pk 2 [1, 0] rfl).fz
  refine yC (yCall FN_15 (a1 e0)) (blocks_Triangular_ok b9 F2 F1 F0 a) ?_
  rintro _ w ⟨h, l, p, rfl, a⟩
  refine ⟨_, rfl, ?_⟩
  refine Ym (.tuple #[.agg #[h.v, l.v, p.v], iV d.2.2.2]) e0 (yY (x_ (.agg #[h.v, l.v, p.v]) e0) (yY (x_ (iV d.2.2.2) e0) (yBb (rAl a ZT_36) fun C w a => yT (r_stbn (vals' := [h.v, l.v, p.v]) (us := [h.v, l.v, p.v]) a ST_36 e0 e0 rfl rfl (one_of rfl) rfl) fun w a => Ya (iV d.2.2.2) e0 (wK b8 (seqQ fun f0 c0 c1 => sR fun _ c2 => yY (lbs_ [iV c.1, iV c.2.1, m.v, n.v, o.v] ST_27 e0 a R4) ?_)))))
  refine bE b fun D c3 b => yC (yCall FN_22 (a1 e0)) (sparseref15_Perfect_ok c3 F2 F1 F0 a) ?_
  rintro _ w ⟨G, rfl, a⟩
  refine ⟨_, rfl, ?_⟩
  refine Ym (.tuple #[G.v, .bool D.2]) e0 (yY (x_ G.v e0) (yY (x_ (.bool D.2) e0) (Ya G.v e0 (Ya (.bool D.2) e0 (wK c2 (sR fun _ c5 => Ym (.bool D.2) e0 (yY (ynot e0) (wK c5 ?_))))))))
  rcases iteS b with ⟨H, b⟩ | ⟨H, b⟩
  ·refine condF e0 (nF H) (wp_skip (c0 _ _ (sR fun _ c6 => Ym (iV d.2.2.2) e0 (yY (yeql e0 rfl) (Ym (.bool (decide (d.2.2.2 = 0))) e0 (bE b fun L q b => ?_))))))
   refine joinW 5 (fun f w => f 0 = iV x ∧ f 5 = (pB B) ∧ f 6 = (pB C) ∧ f 50 = .bool L ∧ St w0 (imm I1 m.v c.2.2.1 :: imm I1 n.v c.2.2.2.1 :: imm (rI .u64) o.v c.2.2.2.2 :: imm I1 h.v d.1 :: ros) (box B 27 [iV c.1, iV c.2.1, m.v, n.v, o.v] :: row 3 I1 l.v d.2.1 :: row 3 I1 p.v d.2.2.1 :: box C 36 [h.v, l.v, p.v] :: rs) w) (fun N => ?_) ?_
   ·rcases iteS q with ⟨i, q⟩ | ⟨i, q⟩
    ·refine yG (dT i) (yFb FL_36_0 e0) (yG (dT i) (lb_ h.v O_22 e0 a R1) (yG (dT i) (m_ (iV x) e0) (bE q fun c7 c8 q => ?_)))
     replace a := (a.pk 3 [2, 0, 0] rfl).fz
     refine Yc (wG (dT i)) rfl (yCall FN_23 (a2 e0 e0)) (sparsekit_Perm_ok c8 F0 a) ?_
     rintro _ w ⟨rfl, a⟩
     refine ⟨_, rfl, ?_⟩
     refine yY (pt_ (.bool c7) e0 (dT i) e0) ?_
     cases q
     exact N _ _ ⟨rfl, rfl, rfl, rfl, ((a.pk 5 [4, 2, 2, 1] rfl).facts (allC F3 (allC F2 (allC F1 (allC F0 (allT (allT (allT (allT allI)))))))))⟩
    ·refine gN (dF i) (gN (dF i) (gN (dF i) (gN (dF i) (yY (pf_ (.bool false) e0 (dF i) rfl) ?_))))
     cases q
     replace a := (a.pk 3 [2, 0, 0] rfl).fz
     exact N _ _ ⟨rfl, rfl, rfl, rfl, ((a.pk 5 [4, 2, 2, 1] rfl).facts (allC F3 (allC F2 (allC F1 (allC F0 (allT (allT (allT (allT allI)))))))))⟩
   rintro f w ⟨c9, O, I, d0, a⟩
   refine Ym (.bool L) (eh d0) (bE b fun R r b => ?_)
   refine joinW 5 (fun f w => f 5 = (pB B) ∧ f 6 = (pB C) ∧ f 56 = .bool R ∧ St w0 (imm I1 m.v c.2.2.1 :: imm I1 n.v c.2.2.2.1 :: imm (rI .u64) o.v c.2.2.2.2 :: imm I1 h.v d.1 :: imm I1 l.v d.2.1 :: ros) (box B 27 [iV c.1, iV c.2.1, m.v, n.v, o.v] :: row 3 I1 p.v d.2.2.1 :: box C 36 [h.v, l.v, p.v] :: rs) w) (fun S => ?_) ?_
   ·rcases iteS r with ⟨j, r⟩ | ⟨j, r⟩
    ·refine yG j (yFb FL_36_1 (eh I)) (yG j (lb_ l.v O_22 e0 a R3) (yG j (m_ (iV x) (eh c9)) (bE r fun d1 d2 r => ?_)))
     replace a := (a.pk 2 [1, 0] rfl).fz
     refine Yc (wG j) rfl (yCall FN_23 (a2 e0 e0)) (sparsekit_Perm_ok d2 F0 a) ?_
     rintro _ w ⟨rfl, a⟩
     refine ⟨_, rfl, ?_⟩
     refine yY (pt_ (.bool d1) e0 j e0) ?_
     cases r
     exact S _ _ ⟨O, I, rfl, (a.facts (allC F1 (allC F2 (allC F3 (allC F4 (allC F0 (allT (allT (allT (allT (allT allI)))))))))))⟩
    ·refine gN (bfalse j) (gN (bfalse j) (gN (bfalse j) (gN (bfalse j) (yY (pf_ (.bool false) e0 (bfalse j) rfl) ?_))))
     cases r
     replace a := (a.pk 2 [1, 0] rfl).fz
     exact S _ _ ⟨O, I, rfl, (a.facts (allC F1 (allC F2 (allC F3 (allC F4 (allC F0 (allT (allT (allT (allT (allT allI)))))))))))⟩
   rintro f w ⟨d3, d4, d5, a⟩
   refine Ym (.bool R) (eh d5) (bE b fun T s b => ?_)
   refine joinW 5 (fun f w => f 62 = .bool T ∧ St w0 ros rs w) (fun U => ?_) ?_
   ·rcases iteS s with ⟨k, s⟩ | ⟨k, s⟩
    ·refine yG k (lbs_ [iV c.1, iV c.2.1, m.v, n.v, o.v] ST_27 (eh d3) a R0) (yG k (lbs_ [h.v, l.v, p.v] ST_36 (eh d4) a R2) (bE s fun d6 d7 s => ?_))
     replace a := (a.pk 2 [1, 0] rfl).fz
     refine Yc (wG k) rfl (yCall FN_24 (a2 e0 e0)) (blocks_Check_ok d7 F1 F2 F3 F4 F5 F0 a) ?_
     rintro _ w ⟨rfl, a⟩
     refine ⟨_, rfl, ?_⟩
     refine yG k (yeql e0 rfl) (yY (pt_ (.bool (decide (d6 = 0))) e0 k e0) ?_)
     cases s
     exact U _ _ ⟨rfl, ((a.pk 2 [] rfl).facts (allT (allT (allT (allT (allT (allT allI)))))))⟩
    ·refine gN (bfalse k) (gN (bfalse k) (gN (bfalse k) (gN (bfalse k) (yY (pf_ (.bool false) e0 (bfalse k) rfl) ?_))))
     cases s
     exact U _ _ ⟨rfl, ((a.pk 3 [] rfl).facts (allT (allT (allT (allT (allT allI))))))⟩
   rintro f w ⟨d8, a⟩
   refine Ym (.bool T) (eh d8) (bE b fun V t b => ?_)
   refine joinW 2 (fun f w => f 65 = .bool V ∧ St w0 ros rs w) (fun W => ?_) ?_
   ·rcases iteS t with ⟨y, t⟩ | ⟨y, t⟩
    ·refine bE t fun d9 e1 t => Yc (wG y) rfl (yCall FN_9 a0) (sparselaw15_awake_ok e1 a) ?_
     rintro _ w ⟨rfl, a⟩
     refine ⟨_, rfl, ?_⟩
     refine yY (pt_ (.bool d9) e0 y e0) ?_
     cases t
     exact W _ _ ⟨rfl, a⟩
    ·refine gN (bfalse y) (yY (pf_ (.bool false) e0 (bfalse y) rfl) ?_)
     cases t
     exact W _ _ ⟨rfl, a⟩
   rintro f w ⟨e2, a⟩
   refine Ya (.bool V) (eh e2) (wK c6 (wp_ret ?_))
   cases b
   exact F _ _ _ (fin1r Tryz.results6 ⟨rfl, rfl⟩ ⟨rfl, a⟩)
  ·refine condT e0 (nT (bfalse H)) (sR fun _ e3 => Ym (iV d.2.2.2) e0 (yY (yeql e0 rfl) (Ym (.bool (decide (d.2.2.2 = 9))) e0 ?_)))
   refine joinW 5 (fun f w => f 39 = .bool ((decide (d.2.2.2 = 9)) && (decide ((d.1.length : Int) = 0))) ∧ St w0 ros rs w) (fun X => ?_) ?_
   ·rcases Bool.eq_false_or_eq_true (decide (d.2.2.2 = 9)) with g | g
    ·exact yG g (yFb FL_36_0 e0) (yG g (lb_ h.v O_22 e0 a R1) (yG g (yLen SL_22 e0 a rO2) (yG g (yeql e0 rfl) (yY (pt_ (.bool (decide ((d.1.length : Int) = 0))) e0 g e0) (X _ _ ⟨(congrArg Value.bool (andT g)), ((a.pk 6 [] rfl).facts (allT (allT (allT allI))))⟩)))))
    ·exact gN g (gN g (gN g (gN g (yY (pf_ (.bool false) e0 g rfl) (X _ _ ⟨(congrArg Value.bool (andF g)), ((a.pk 6 [] rfl).facts (allT (allT (allT allI))))⟩)))))
   rintro f w ⟨e4, a⟩
   refine Ym (.bool ((decide (d.2.2.2 = 9)) && (decide ((d.1.length : Int) = 0)))) (eh e4) (bE b fun Z u b => ?_)
   refine joinW 2 (fun f w => f 42 = .bool Z ∧ St w0 ros rs w) (fun a4 => ?_) ?_
   ·rcases iteS u with ⟨z, u⟩ | ⟨z, u⟩
    ·refine bE u fun e5 e6 u => Yc (wG z) rfl (yCall FN_9 a0) (sparselaw15_awake_ok e6 a) ?_
     rintro _ w ⟨rfl, a⟩
     refine ⟨_, rfl, ?_⟩
     refine yY (pt_ (.bool e5) e0 z e0) ?_
     cases u
     exact a4 _ _ ⟨rfl, a⟩
    ·refine gN (bfalse z) (yY (pf_ (.bool false) e0 (bfalse z) rfl) ?_)
     cases u
     exact a4 _ _ ⟨rfl, a⟩
   rintro f w ⟨e7, a⟩
   refine Ya (.bool Z) (eh e7) (wK e3 (wp_ret (c1 _ _ _ rfl ?_)))
   cases b
   exact F _ _ _ (fin1r Tryz.results6 ⟨rfl, rfl⟩ ⟨rfl, a⟩)
end Go.Proofs.YtgnfkbaghjmgiaaGreatDoor
