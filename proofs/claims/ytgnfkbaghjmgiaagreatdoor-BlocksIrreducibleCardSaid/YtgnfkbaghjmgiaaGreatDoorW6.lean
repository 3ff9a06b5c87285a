/- Walks: each function computes its model, printed. -/
import Derived.Test.YtgnfkbaghjmgiaaGreatDoorW5
namespace Go.Proofs.YtgnfkbaghjmgiaaGreatDoor
open Go Sx M
set_option maxRecDepth 100000
set_option maxHeartbeats 40000000
set_option linter.unusedVariables false
attribute [local irreducible] wpList Code.wp Calls DR QR QS LA LS St
variable {w0 : World} {ros : List Fact} {rs : List Res} {w : World}
theorem sparseref03_Round_ok {d f : Bool} {l : LI} {g h : Int} {i : Hdr} {out : Int} (b : sparseref03_Round d f l g h = some out) (n : imm (rI .u32) i.v l ∈ ros) (m : globF ∈ ros) (a : St w0 ros rs w) :
  Calls Tryz.prog 58 #[.agg #[.bool d, .bool f, i.v, iV g], iV h] w (fun e w => e = .returned (.int .u64 out) ∧ St w0 ros rs w) := by
 refine enterQ Tryz.func58 rfl Tryz.ntmps58 rfl fun Q k => sR fun _ o => yBb (r_box (vals := [.bool d, .bool f, i.v, iV g]) a e0 rfl) fun I w a => Ya (.int .u64 0) rfl (wK o (sR fun _ p => yY (lbs_ [.bool d, .bool f, i.v, iV g] ST_100 e0 a R0) (bE b fun c q b => yC (yCall FN_79 (a1 e0)) (sparseref02_Norm_ok q n m a) ?_)))
 rintro _ w ⟨j, rfl, a⟩
 refine ⟨_, rfl, ?_⟩
 refine yT (r_stbn (vals' := [.bool c.1, .bool c.2.1, j.v, iV c.2.2.2]) (us := [.bool c.1, .bool c.2.1, j.v, iV c.2.2.2]) a ST_100 e0 e0 rfl rfl (one_of rfl) rfl) fun w a => wK p (seqQ fun J r s => sR fun _ t => yY (yFb FL_100_0 e0) (yY (lb_ (.bool c.1) O_4 e0 a R0) (wK t (cB e0 b (fun u b => ?_) fun u b => ?_))))
 ·refine sR fun _ x => Ya (.int .u64 9221120237041090560) rfl (wK x (wp_ret (s _ _ _ rfl ?_)))
  cases b
  exact k _ _ _ (fin1r Tryz.results58 ⟨rfl, rfl⟩ ⟨rfl, ((a.k10).facts (allT allI))⟩)
 ·refine wp_skip (r _ _ (seqQ fun K y z => sR fun _ A => yY (yFb FL_100_1 e0) (yY (lbs_ [.bool c.2.1, j.v] ST_98 e0 a R0) (bE b fun L B b => yC (yCall FN_80 (a1 e0)) (sparseref01_Sign_ok B F0 a) ?_))))
  rintro _ w ⟨rfl, a⟩
  refine ⟨_, rfl, ?_⟩
  refine yY (yeql e0 rfl) (wK A ?_)
  refine cIf e0 b (fun C b => ?_) fun C b => ?_
  ·refine sR fun _ D => Ya (.int .u64 0) rfl (wK D (wp_ret (z _ _ _ rfl ?_)))
   cases b
   exact k _ _ _ (fin1r Tryz.results58 ⟨rfl, rfl⟩ ⟨rfl, ((a.k10).facts (allT allI))⟩)
  ·refine wp_skip (y _ _ (sQ fun _ E => bE b fun N F b => bE b fun G H b => dR [0, 1, 3, 0, 8, 24, 0, 64, 0, 511, 1023] [5, 9, 10] 3 folM ?_))
   replace a := a.drew
   refine Dn [0, 1, 2, 3, 4, 6, 7, 8] [] [5] (yR rfl (yFb FL_100_1 e0) (yR rfl (yFb FL_98_0 e0) (yR rfl (lb_ (.bool c.2.1) O_4 e0 a R0) (yR rfl (yFb FL_100_1 e0) (yR rfl (lbs_ [.bool c.2.1, j.v] ST_98 e0 a R0) (yR rfl (yFb FL_100_2 e0) (yR rfl (lb_ (iV c.2.2.2) O_3 e0 a R0) (yR rfl (m_ (iV h) e0) (Rn QSn ?_)))))))))
   refine Lc1 rfl ?_
   refine Lk wn (yCall FN_82 (a1 e0)) (sparseref01_Abs_ok F F0 a) ?_
   rintro _ w ⟨O, rfl, a⟩
   refine ⟨_, rfl, ?_⟩
   refine Dn [] [0, 1, 2, 6, 7, 8] [9] (Rn (yS rfl (yFb FL_100_1 e0) (yS rfl (yFb FL_98_0 e0) (yS rfl (lb_ (.bool c.2.1) O_4 e0 a R1) (yS rfl (yFb FL_100_2 e0) (yS rfl (lb_ (iV c.2.2.2) O_3 e0 a R1) (yS rfl (m_ (iV h) e0) QSn)))))) ?_)
   refine Lc1 rfl ?_
   replace a := a.fz
   refine Lk wn (yCall FN_81 (a5 e0 e0 e0 rfl e0)) (sparseref03_rounded_ok H F0 (F_2 m) a) ?_
   rintro _ w ⟨rfl, a⟩
   refine ⟨_, rfl, ?_⟩
   refine Dn [] [] [10] (Rn QSn ?_)
   refine Lc1 rfl ?_
   refine Ly wn (a_ (.int .u64 G) e0) (Dz [] [] (Rn QSn (E _ _ (wp_ret ?_))))
   cases b
   exact k _ _ _ (fin1r Tryz.results58 ⟨rfl, rfl⟩ ⟨rfl, ((a.k10).facts (allT (allT allI)))⟩)
theorem sparsemake_Value_ok {c out : Int} (a : sparsemake_Value c = some out) (h : globF ∈ ros) (b : St w0 ros rs w) :
  Calls Tryz.prog 33 #[iV c] w (fun e w => e = .returned (.int .u64 out) ∧ St w0 ros rs w) := by
 refine enterQ Tryz.func33 rfl Tryz.ntmps33 rfl fun Q j => sR fun _ k => Ya (.int .u64 0) rfl (wK k (sR fun _ l => Ym (iV c) e0 (bE a fun d m a => yC (yCall FN_10 (a2 e0 rfl)) (sparsekit_Place_ok m b) ?_)))
 rintro _ w ⟨rfl, b⟩
 refine ⟨_, rfl, ?_⟩
 refine yY (ysub e0 rfl) (Ya (iV (ws .i64 d 8)) e0 (wK l (sR fun _ n => Ya (iV 0) rfl (wK n (sQ fun o p => sR fun _ q => Ym (iV c) e0 (yY (ycv (k' := .u64) (by kernel_rfl) (by kernel_rfl) e0) ?_))))))
 refine yY (yquoc e0 rfl (by decide)) (yY (ycv (k' := .i64) (by kernel_rfl) (by kernel_rfl) e0) (Ya (iV (wc .i64 (wqc .u64 (wc .u64 c) 17))) e0 (wK q (sR fun _ r => Ym (iV (wc .i64 (wqc .u64 (wc .u64 c) 17))) e0 (yY (yremc e0 rfl (by decide)) (yY (yeql e0 rfl) (wK r ?_)))))))
 have i : ∀ (g : Int) (f : FV) w, f 3 = iV (ws .i64 d 8) → f 4 = iV g → St w0 ros rs w → sparsemake_Value_j1 d g = some out → o .normal (fr 25 f) w := by
  intro g f w s t b a
  refine p _ _ (sR fun _ u => Ym (iV (ws .i64 d 8)) (eh s) (bE a fun B v a => yC (yCall FN_60 (a1 e0)) (sparseref02_FromInt_ok v h b) ?_))
  rintro _ w ⟨C, rfl, b⟩
  refine ⟨_, rfl, ?_⟩
  refine Ym (iV g) (eh t) (bE a fun D x a => yC (yCall FN_59 (a2 e0 e0)) (sparseref02_Scale_ok x F0 (mtF h) b) ?_)
  rintro _ w ⟨E, rfl, b⟩
  refine ⟨_, rfl, ?_⟩
  refine bE a fun y z a => yC (yCall FN_58 (a2 e0 rfl)) (sparseref03_Round_ok z F0 (F_2 h) b) ?_
  rintro _ w ⟨rfl, b⟩
  refine ⟨_, rfl, ?_⟩
  refine Ya (.int .u64 y) e0 (wK u (wp_ret ?_))
  cases a
  exact j _ _ _ (fin1r Tryz.results33 ⟨rfl, rfl⟩ ⟨rfl, (b.facts (allT (allT allI)))⟩)
 refine cIf e0 a (fun A a => ?_) fun A a => ?_
 ·exact wR (Ym (iV (wc .i64 (wqc .u64 (wc .u64 c) 17))) e0 (yY (yquoc e0 rfl (by decide)) (yY (yremc e0 rfl (by decide)) (yY (ysub e0 rfl) (Ya (iV (ws .i64 (wrc (wqc .i64 (wc .i64 (wqc .u64 (wc .u64 c) 17)) 3) 13) 6)) e0 (wN (i _ _ _ rfl rfl b a)))))))
 ·exact wp_skip (i _ _ _ rfl rfl b a)
theorem sparseref09_Pack_ok {c d : Int} {c0 : List (Int × Int × Int)} {m : Hdr} {out : Int × Int × LI × LI × LI} (t : sparseref09_Pack c d c0 = some out) (A : imm rTi64i64u64 m.v c0 ∈ ros) (b : St w0 ros rs w) :
  Calls Tryz.prog 34 #[iV c, iV d, m.v] w (fun e w => ∃ (c1 c2 c3 : Hdr), e = .returned (.agg #[iV out.1, iV out.2.1, c1.v, c2.v, c3.v]) ∧ St w0 ros (row 3 I1 c1.v out.2.2.1 :: row 3 I1 c2.v out.2.2.2.1 :: row 47 (rI .u64) c3.v out.2.2.2.2 :: rs) w) := by
 refine enterQ Tryz.func34 rfl Tryz.ntmps34 rfl fun Q d9 => sR fun _ e1 => yBb (rAl b ZT_27) fun i w b => wK e1 (sR fun _ e2 => Ym (iV c) e0 (Ym (iV d) e0 (yH (rLt (n := 1) (l := [0]) b SL_22 [iV 0] (bp1 rfl) rfl rfl (mks1 (cs := [iV 0]) rfl mkI mks0)) fun y w b => yY (ybuild (us := [iV c, iV d, y.v, hnil.v, hnil.v]) [(0, iV c), (1, iV d), (2, y.v)] SO_27 (bp3 e0 e0 e0) rfl) ?_)))
 refine yBb (rAl b ZT_27) fun j w b => yT (r_stbn (vals' := [iV c, iV d, y.v, hnil.v, hnil.v]) (us := [iV c, iV d, y.v, hnil.v, hnil.v]) b ST_27 e0 e0 rfl rfl (one_of rfl) rfl) fun w b => wK e2 (sR fun _ e3 => Ym (iV c) e0 (Ym (iV d) e0 (yY (ymul e0 e0) (bE t fun o0 e4 t => yH (rMk b SL_22 e0 e4) fun h w b => ?_))))
 refine Ya h.v e0 (wK e3 (sQ fun _ e5 => sR fun _ e6 => Ya (iV 0) rfl (wK e6 (blockQ fun e7 e8 => bE t fun e9 f0 t => ?_))))
 have f1 : ∀ (B : LI) (f : FV) w, f 0 = iV c → f 1 = iV d → f 2 = m.v → f 6 = (pB i) → f 7 = (pB j) → f 8 = h.v → St w0 ros (box i 27 [iV 0, iV 0, hnil.v, hnil.v, hnil.v] :: row 3 I1 y.v [0] :: box j 27 [iV c, iV d, y.v, hnil.v, hnil.v] :: row 3 I1 h.v B :: rs) w → B = e9 → e7 (.exit 0) (fr 90 f) w := by
  intro B f w f2 f3 f4 f5 f6 f7 b ho
  subst ho
  refine e8 _ _ _ (e5 _ _ (sQ fun _ f8 => sR fun _ f9 => Ya (iV 0) rfl (wK f9 (blockQ fun g0 g1 => bE t fun g2 g3 t => ?_))))
  have g4 : ∀ (X Z a0 : LI) (C D E : Hdr) (f : FV) w, f 6 = (pB i) → f 7 = (pB j) → St w0 ros (box i 27 [iV 0, iV 0, hnil.v, hnil.v, hnil.v] :: row 3 I1 C.v X :: row 3 I1 D.v Z :: row 47 (rI .u64) E.v a0 :: box j 27 [iV c, iV d, C.v, D.v, E.v] :: rs) w → (X, Z, a0) = g2 → g0 (.exit 2) (fr 90 f) w := by
   intro X Z a0 C D E f w c4 g5 b ho
   subst ho
   refine g1 _ _ _ (f8 _ _ (sR fun _ g6 => yY (lbs_ [iV c, iV d, C.v, D.v, E.v] ST_27 (eh g5) b R4) (yT (r_stbn (vals' := [iV c, iV d, C.v, D.v, E.v]) (us := [iV c, iV d, C.v, D.v, E.v]) b ST_27 (eh c4) e0 rfl rfl (one_of rfl) rfl) fun w b => wK g6 (wp_ret ?_))))
   cases t
   exact d9 _ _ _ (fin1r Tryz.results34 (rcs2 rfl c4 b R0 ST_27 rfl) ⟨_, _, _, rfl, (b.k1t)⟩)
  replace b := (b.rowNh 3 I1).rowNh 47 (rI .u64)
  refine loopQ (fun s a w => ∃ (F a1 a2 : LI) (q : Int) (f : FV) (o a3 a4 : Hdr), (F, a1, a2, q) = s ∧ a = fr 90 f ∧ f 0 = iV c ∧ f 1 = iV d ∧ f 2 = m.v ∧ f 6 = (pB i) ∧ f 7 = (pB j) ∧ f 8 = h.v ∧ f 10 = iV q ∧ St w0 ros (box i 27 [iV 0, iV 0, hnil.v, hnil.v, hnil.v] :: row 3 I1 o.v F :: row 3 I1 a3.v a1 :: row 47 (rI .u64) a4.v a2 :: box j 27 [iV c, iV d, o.v, a3.v, a4.v] :: row 3 I1 h.v B :: rs) w) g3 ⟨_, _, _, _, _, _, _, _, rfl, rfl, f2, f3, f4, f5, f6, f7, rfl, (b.k2t)⟩ ?_
  rintro _ _ w o2 ⟨F, a1, a2, q, f, o, a3, a4, rfl, rfl, g7, c5, g8, c6, c7, g9, c8, b⟩ x h0 o3 h1 h2
  refine seqQ fun o4 h3 h5 => sR fun _ h7 => Ym (iV q) (eh c8) (Ym (iV d) (eh c5) (yY (ylss e0 e0) (wK h7 ?_)))
  refine cIf e0 x (fun h9 x => ?_) fun h9 x => ?_
  ·refine wp_skip (h3 _ _ (sQ fun _ i0 => blockQ fun _ i1 => sQ fun _ i2 => sR fun _ i3 => Ya (iV 0) rfl (wK i3 (blockQ fun i4 i5 => bE x fun i6 i7 x => ?_))))
   have i8 : ∀ (G a5 : LI) (I O : Hdr) (f : FV) w, f 0 = iV c → f 1 = iV d → f 2 = m.v → f 6 = (pB i) → f 7 = (pB j) → f 8 = h.v → f 10 = iV q → St w0 ros (box i 27 [iV 0, iV 0, hnil.v, hnil.v, hnil.v] :: row 3 I1 o.v F :: row 3 I1 I.v G :: row 47 (rI .u64) O.v a5 :: box j 27 [iV c, iV d, o.v, I.v, O.v] :: row 3 I1 h.v B :: rs) w → (G, a5) = i6 → i4 (.exit 4) (fr 90 f) w := by
    intro G a5 I O f w i9 j0 j1 j2 R j3 j4 b ho
    subst ho
    refine i5 _ _ _ (i2 _ _ (wR (yY (yFb FL_27_2 (eh R)) (yY (lb_ o.v O_22 e0 b R4) (yY (yFb FL_27_3 (eh R)) (yY (lb_ I.v O_22 e0 b R4) (yY (yLen SL_22 e0 b rO2) (yH (rLt (n := 1) (l := [(G.length : Int)]) b SL_22 [iV (G.length : Int)] (bp1 e0) rfl rfl (mks1 (cs := [iV (G.length : Int)]) rfl mkI mks0)) fun o5 w b => bE x fun o6 j5 x => yH (rAp (b.k17) SL_22 e0 e0 rO1 j5) fun j6 w b => yY (yFb FL_27_2 (eh R)) ?_))))))))
    refine yT (r_stb1 (vals' := [iV c, iV d, j6.v, I.v, O.v]) (b.k1k) O_22 e0 e0 rfl rfl rfl rfl) fun w b => wN (i1 _ _ _ (i0 _ _ (wR (Ym (iV q) (eh j4) (yY (yadd e0 rfl) (Ya (iV (wa .i64 q 1)) e0 (wN ?_)))))))
    cases x
    exact h1 _ _ _ rfl ⟨_, _, _, _, _, _, _, _, rfl, rfl, i9, j0, j1, j2, R, j3, rfl, (b.k2u)⟩
   refine loopQ (fun s a w => ∃ (a6 a7 : LI) (k : Int) (f : FV) (S H : Hdr), (a6, a7, k) = s ∧ a = fr 90 f ∧ f 0 = iV c ∧ f 1 = iV d ∧ f 2 = m.v ∧ f 6 = (pB i) ∧ f 7 = (pB j) ∧ f 8 = h.v ∧ f 10 = iV q ∧ f 11 = iV k ∧ St w0 ros (box i 27 [iV 0, iV 0, hnil.v, hnil.v, hnil.v] :: row 3 I1 o.v F :: row 3 I1 S.v a6 :: row 47 (rI .u64) H.v a7 :: box j 27 [iV c, iV d, o.v, S.v, H.v] :: row 3 I1 h.v B :: rs) w) i7 ⟨_, _, _, _, _, _, rfl, rfl, g7, c5, g8, c6, c7, g9, c8, rfl, b⟩ ?_
   rintro _ _ w j7 ⟨a6, a7, k, f, S, H, rfl, rfl, J, a8, T, a9, z, U, V, K, b⟩ g j8 o7 j9 k0
   refine seqQ fun o8 k6 k7 => sR fun _ k8 => Ym (iV k) (eh K) (Ym (iV c) (eh J) (yY (ylss e0 e0) (wK k8 ?_)))
   refine cIf e0 g (fun k9 g => ?_) fun k9 g => ?_
   ·refine wp_skip (k6 _ _ (sQ fun _ l0 => blockQ fun l1 l2 => sR fun _ l3 => Ym h.v (eh U) (Ym (iV q) (eh V) (Ym (iV c) (eh J) (yY (ymul e0 e0) (Ym (iV k) (eh K) (yY (yadd e0 e0) (bE g fun b0 c9 g => yY (yIa SL_22 e0 e0 b rO5 c9) ?_))))))))
    refine yY (yI O_3 e0 b rO5 c9) (Ya (iV b0) e0 (wK l3 (sR fun _ l4 => Ym (iV b0) e0 (yY (ygtr e0 rfl) (wK l4 ?_)))))
    have d0 : ∀ (b1 b2 : LI) (b3 b4 : Hdr) (f : FV) w, f 0 = iV c → f 1 = iV d → f 2 = m.v → f 6 = (pB i) → f 7 = (pB j) → f 8 = h.v → f 10 = iV q → f 11 = iV k → St w0 ros (box i 27 [iV 0, iV 0, hnil.v, hnil.v, hnil.v] :: row 3 I1 o.v F :: row 3 I1 b3.v b1 :: row 47 (rI .u64) b4.v b2 :: box j 27 [iV c, iV d, o.v, b3.v, b4.v] :: row 3 I1 h.v B :: rs) w → sparseref09_Pack_j14 k b1 b2 = some j7 → l1 .normal (fr 90 f) w := by
     intro b1 b2 b3 b4 f w l5 l6 l7 l8 l9 m0 m1 m2 b t
     refine l2 _ _ _ (l0 _ _ (wR (Ym (iV k) (eh m2) (yY (yadd e0 rfl) (Ya (iV (wa .i64 k 1)) e0 (wN ?_))))))
     cases t
     exact j9 _ _ _ rfl ⟨_, _, _, _, _, _, rfl, rfl, l5, l6, l7, l8, l9, m0, m1, rfl, b⟩
    refine cIf e0 g (fun m3 g => ?_) fun m3 g => ?_
    ·refine sR fun _ m4 => yY (yFb FL_27_3 (eh z)) (yY (lb_ S.v O_22 e0 b R4) (Ym (iV k) (eh K) (yH (rLt (n := 1) (l := [k]) b SL_22 [iV k] (bp1 e0) rfl rfl (mks1 (cs := [iV k]) rfl mkI mks0)) fun o9 w b => bE g fun p0 m5 g => yH (rAp (b.k14) SL_22 e0 e0 rO1 m5) fun d1 w b => yY (yFb FL_27_3 (eh z)) (yT (r_stb1 (vals' := [iV c, iV d, o.v, d1.v, H.v]) (b.k1k) O_22 e0 e0 rfl rfl rfl rfl) fun w b => wN ?_))))
     refine m4 _ _ (bE g fun W d2 g => bE g fun p1 m6 g => dR [0, 1, 0, 0, 8, 28, 60, 124, 252, 511, 1023, 2047] [8, 9, 11] 3 folM ?_)
     replace b := b.drew
     refine Dn [0, 1, 2, 3, 4, 5, 6, 7] [] [8] (yR rfl (yFb FL_27_4 (eh z)) (yR rfl (lb_ H.v O_25 e0 b R0) (yR rfl (m_ m.v (eh T)) (yR rfl (m_ (iV b0) e0) (yR rfl (ysub e0 rfl) (yR rfl (yIa SL_44 e0 e0 b (rdI A) d2) (yR rfl (yFe FL_49_2 e0) (yR rfl (yFf (u := .int .u64 W.2.2) O_47 e0 b (rdI A) d2 rfl) (Rn QSn ?_)))))))))
     refine Lc1 rfl ?_
     refine LH wn (rLt (n := 1) (l := [W.2.2]) b SL_25 [.int .u64 W.2.2] (bp1 e0) rfl rfl (mks1 (cs := [.int .u64 W.2.2]) rfl mkI mks0)) fun p2 w b => Dn [] [0, 1] [9] (Rn (yS rfl (yFb FL_27_4 (eh z)) (yS rfl (lb_ H.v O_25 e0 b R1) QSn)) ?_)
     refine Lc1 rfl ?_
     replace b := b.k1a
     refine LH wn (rAp b SL_25 e0 e0 rO1 m6) fun m7 w b => Dn [10] [] [11] (yR rfl (yFb FL_27_4 (eh z)) (Rn QSn ?_))
     refine Lc1 rfl ?_
     replace b := b.k17
     exact LT wn (r_stb1 (vals' := [iV c, iV d, o.v, d1.v, m7.v]) b O_25 e0 e0 rfl rfl rfl rfl) fun w b => Dz [] [] (Rn QSn (d0 _ _ _ _ _ _ J a8 T a9 z U V K (b.k2v) g))
    ·exact wp_skip (d0 _ _ _ _ _ _ J a8 T a9 z U V K b g)
   ·refine wp_exit (k7 _ _ _ rfl ?_)
    cases g
    exact k0 _ _ _ _ rfl rfl (i8 _ _ _ _ _ _ J a8 T a9 z U V b (j8 _ rfl))
  ·refine wp_exit (h5 _ _ _ rfl ?_)
   cases x
   exact h2 _ _ _ _ rfl rfl (g4 _ _ _ _ _ _ _ _ c6 c7 (b.k1y) (h0 _ rfl))
 refine loopQ (fun s a w => ∃ (b6 : LI) (r : Int) (f : FV), (b6, r) = s ∧ a = fr 90 f ∧ f 0 = iV c ∧ f 1 = iV d ∧ f 2 = m.v ∧ f 6 = (pB i) ∧ f 7 = (pB j) ∧ f 8 = h.v ∧ f 9 = iV r ∧ St w0 ros (box i 27 [iV 0, iV 0, hnil.v, hnil.v, hnil.v] :: row 3 I1 y.v [0] :: box j 27 [iV c, iV d, y.v, hnil.v, hnil.v] :: row 3 I1 h.v b6 :: rs) w) f0 ⟨_, _, _, rfl, rfl, rfl, rfl, rfl, rfl, rfl, rfl, rfl, (b.k2g)⟩ ?_
 rintro _ _ w p3 ⟨b6, r, f, rfl, rfl, b8, d3, L, d4, d5, b9, N, b⟩ p m8 p4 m9 n0
 refine seqQ fun p5 n2 n3 => sR fun _ n4 => Ym (iV r) (eh N) (Ym m.v (eh L) (yY (yLen SL_44 e0 b (rdI A)) (yY (ylss e0 e0) (wK n4 ?_))))
 refine cIf e0 p (fun n5 p => ?_) fun n5 p => ?_
 ·refine wp_skip (n2 _ _ (sQ fun _ n6 => blockQ fun _ n7 => bE p fun n8 d6 p => bE p fun n9 d7 p => bE p fun p6 d8 p => dR [0, 0, 0, 6, 14, 30, 0, 126, 0, 0, 768, 1792, 3840, 8190, 0, 16384, 65535, 131071] [17] 1 folM ?_))
  replace b := b.drew
  refine Dn [0, 1, 2, 3, 4, 5, 6, 7, 8, 9, 10, 11, 12, 13, 14, 15, 16] [] [17] (yR rfl (m_ h.v (eh b9)) (yR rfl (m_ m.v (eh L)) (yR rfl (m_ (iV r) (eh N)) (yR rfl (yIa SL_44 e0 e0 b (rdI A) d6) (yR rfl (yFe FL_49_1 e0) (yR rfl (yFf (u := iV n8.2.1) O_3 e0 b (rdI A) d6 rfl) (yR rfl (m_ (iV c) (eh b8)) (yR rfl (ymul e0 e0) (yR rfl (m_ m.v (eh L)) (yR rfl (m_ (iV r) (eh N)) (yR rfl (yIa SL_44 e0 e0 b (rdI A) d7) (yR rfl (yFe FL_49_0 e0) (yR rfl (yFf (u := iV n9.1) O_3 e0 b (rdI A) d7 rfl) ?_)))))))))))))
  refine yR rfl (yadd e0 e0) (yR rfl (m_ (iV r) (eh N)) (yR rfl (yadd e0 rfl) (yR rfl (yIs SL_22 e0 e0 b rO3 d8) (Rn QSn ?_))))
  refine Lc1 rfl ?_
  replace b := b.k14
  refine LT wn (r_sti (cs := [iV (wa .i64 r 1)]) b O_3 rfl e0 e0 rfl mkI d8) fun w b => Dz [] [] (Rn QSn (n7 _ _ _ (n6 _ _ (wR (Ym (iV r) (eh N) (yY (yadd e0 rfl) (Ya (iV (wa .i64 r 1)) e0 (wN ?_))))))))
  cases p
  exact m9 _ _ _ rfl ⟨_, _, _, rfl, rfl, b8, d3, L, d4, d5, b9, rfl, (b.k2w)⟩
 ·refine wp_exit (n3 _ _ _ rfl ?_)
  cases p
  exact n0 _ _ _ _ rfl rfl (f1 _ _ _ b8 d3 L d4 d5 b9 b (m8 _ rfl))
theorem sparsemake_Square_ok {g : Int} {y : LI} {i : Hdr} {out : Int × Int × LI × LI × LI} (q : sparsemake_Square g y = some out) (j : imm I1 i.v y ∈ ros) (W : globF ∈ ros) (b : St w0 ros rs w) :
  Calls Tryz.prog 12 #[iV g, i.v] w (fun e w => ∃ (X Z a0 : Hdr), e = .returned (.agg #[iV out.1, iV out.2.1, X.v, Z.v, a0.v]) ∧ St w0 ros (row 3 I1 X.v out.2.2.1 :: row 3 I1 Z.v out.2.2.2.1 :: row 47 (rI .u64) a0.v out.2.2.2.2 :: rs) w) := by
 refine enterQ Tryz.func12 rfl Tryz.ntmps12 rfl fun Q b8 => sR fun _ b9 => yBb (rAl b ZT_27) fun m w b => wK b9 (sR fun _ c0 => Ya hnil.v rfl (wK c0 (sQ fun _ c1 => sQ fun _ c2 => ?_)))
 refine wR (Ya (iV 0) rfl (wK c2 (blockQ fun c3 c4 => bE q fun c5 c6 q => ?_)))
 have c7 : ∀ (K : List (Int × Int × Int)) (L : Hdr) (f : FV) w, f 0 = iV g → f 1 = i.v → f 4 = (pB m) → f 5 = L.v → St w0 ros (box m 27 [iV 0, iV 0, hnil.v, hnil.v, hnil.v] :: row 49 rTi64i64u64 L.v K :: rs) w → K = c5 → c3 (.exit 0) (fr 63 f) w := by
  intro K L f w a4 c8 c9 d0 b ho
  subst ho
  refine c4 _ _ _ (c1 _ _ (sQ fun _ d1 => sR fun _ d2 => Ym (iV g) (eh a4) (Ya (iV g) e0 (wK d2 (blockQ fun d3 d4 => bE q fun d5 d6 q => ?_)))))
  have d7 : ∀ (N : List (Int × Int × Int)) (F : Hdr) (f : FV) w, f 0 = iV g → f 4 = (pB m) → f 5 = F.v → St w0 ros (box m 27 [iV 0, iV 0, hnil.v, hnil.v, hnil.v] :: row 49 rTi64i64u64 F.v N :: rs) w → N = d5 → d3 (.exit 2) (fr 63 f) w := by
   intro N F f w a5 a6 d8 b ho
   subst ho
   refine d4 _ _ _ (d1 _ _ (sR fun _ d9 => Ym (iV g) (eh a5) (Ym (iV g) (eh a5) (Ym F.v (eh d8) (bE q fun G e1 q => ?_)))))
   replace b := (b.k11).fz
   refine yC (yCall FN_34 (a3 e0 e0 e0)) (sparseref09_Pack_ok e1 F0 b) ?_
   rintro _ w ⟨a7, a8, a9, rfl, b⟩
   refine ⟨_, rfl, ?_⟩
   refine yT (r_stbn (vals' := [iV G.1, iV G.2.1, a7.v, a8.v, a9.v]) (us := [iV G.1, iV G.2.1, a7.v, a8.v, a9.v]) (b.k14) ST_27 (eh a6) e0 rfl rfl (one_of rfl) rfl) fun w b => wK d9 (wp_ret ?_)
   cases q
   exact b8 _ _ _ (fin1r Tryz.results12 (rcs2 rfl a6 b R0 ST_27 rfl) ⟨_, _, _, rfl, ((b.k2s).facts (allT allI))⟩)
  refine loopQ (fun s a w => ∃ (H : List (Int × Int × Int)) (h : Int) (f : FV) (o : Hdr), (H, h) = s ∧ a = fr 63 f ∧ f 0 = iV g ∧ f 1 = i.v ∧ f 4 = (pB m) ∧ f 5 = o.v ∧ f 7 = iV h ∧ St w0 ros (box m 27 [iV 0, iV 0, hnil.v, hnil.v, hnil.v] :: row 49 rTi64i64u64 o.v H :: rs) w) d6 ⟨_, _, _, _, rfl, rfl, a4, c8, c9, d0, rfl, b⟩ ?_
  rintro _ _ w h0 ⟨H, h, f, o, rfl, rfl, O, R, b0, b1, S, b⟩ c e2 h1 e3 e4
  refine seqQ fun h2 e5 e6 => sR fun _ e7 => Ym (iV h) (eh S) (yY (yadd e0 rfl) (Ym i.v (eh R) (yY (yLen SL_22 e0 b (rdI j)) (yY (ylss e0 e0) (Ym (.bool (decide ((wa .i64 h 2) < (y.length : Int)))) e0 ?_)))))
  refine joinW 3 (fun f w => f 0 = iV g ∧ f 1 = i.v ∧ f 4 = (pB m) ∧ f 5 = o.v ∧ f 7 = iV h ∧ f 33 = .bool ((decide ((wa .i64 h 2) < (y.length : Int))) && (decide ((0 : Int) < g))) ∧ St w0 ros (box m 27 [iV 0, iV 0, hnil.v, hnil.v, hnil.v] :: row 49 rTi64i64u64 o.v H :: rs) w) (fun b2 => ?_) ?_
  ·rcases Bool.eq_false_or_eq_true (decide ((wa .i64 h 2) < (y.length : Int))) with p | p
   ·exact yG p (m_ (iV g) (eh O)) (yG p (ygtr e0 rfl) (yY (pt_ (.bool (decide ((0 : Int) < g))) e0 p e0) (b2 _ _ ⟨O, R, b0, b1, S, (congrArg Value.bool (andT p)), b⟩)))
   ·exact gN p (gN p (yY (pf_ (.bool false) e0 p rfl) (b2 _ _ ⟨O, R, b0, b1, S, (congrArg Value.bool (andF p)), b⟩)))
  rintro f w ⟨z, r, b3, u, t, e8, b⟩
  refine wK e7 (cB (eh e8) c (fun e9 c => ?_) fun e9 c => ?_)
  ·refine wp_skip (e5 _ _ (sQ fun _ f0 => blockQ fun _ f1 => bE c fun h4 b5 c => bE c fun A f2 c => bE c fun h5 I c => bE c fun B f3 c => bE c fun h6 x c => bE c fun C f4 c => bE c fun h7 f5 c => dR [0, 0, 0, 6, 14, 0, 62, 0, 0, 256, 896, 1920, 0, 8190, 0, 0, 32768, 114688, 245760, 524286, 1048574, 2097150, 4194303, 8388607] [6, 13, 19, 21, 22, 23] 6 folM ?_))
   replace b := b.drew
   refine Dn [0, 1, 2, 3, 4, 5, 7, 8, 9, 10, 11, 12, 14, 15, 16, 17, 18] [] [6] (yR rfl (m_ o.v (eh u)) (yR rfl (m_ i.v (eh r)) (yR rfl (m_ (iV h) (eh t)) (yR rfl (yIa SL_22 e0 e0 b (rdI j) b5) (yR rfl (yI O_3 e0 b (rdI j) b5) (yR rfl (m_ (iV g) (eh z)) (yR rfl (m_ i.v (eh r)) (yR rfl (m_ (iV h) (eh t)) (yR rfl (yadd e0 rfl) (yR rfl (yIa SL_22 e0 e0 b (rdI j) I) (yR rfl (yI O_3 e0 b (rdI j) I) (yR rfl (m_ (iV g) (eh z)) (yR rfl (m_ i.v (eh r)) ?_)))))))))))))
   refine yR rfl (m_ (iV h) (eh t)) (yR rfl (yadd e0 rfl) (yR rfl (yIa SL_22 e0 e0 b (rdI j) x) (yR rfl (yI O_3 e0 b (rdI j) x) (Rn QSn ?_))))
   refine Lc1 rfl ?_
   refine Lk wn (yCall FN_10 (a2 e0 e0)) (sparsekit_Place_ok f2 b) ?_
   rintro _ w ⟨rfl, b⟩
   refine ⟨_, rfl, ?_⟩
   refine Dn [] [0, 7, 8, 9, 10, 11, 12, 14, 15, 16, 17, 18] [13] (Rn (yS rfl (m_ o.v (eh u)) (yS rfl (m_ i.v (eh r)) (yS rfl (m_ (iV h) (eh t)) (yS rfl (yadd e0 rfl) (yS rfl (yIa SL_22 e0 e0 b (rdI j) I) (yS rfl (yI O_3 e0 b (rdI j) I) (yS rfl (m_ (iV g) (eh z)) (yS rfl (m_ i.v (eh r)) (yS rfl (m_ (iV h) (eh t)) (yS rfl (yadd e0 rfl) (yS rfl (yIa SL_22 e0 e0 b (rdI j) x) (yS rfl (yI O_3 e0 b (rdI j) x) QSn)))))))))))) ?_)
   refine Lc1 rfl ?_
   refine Lk wn (yCall FN_10 (a2 e0 e0)) (sparsekit_Place_ok f3 b) ?_
   rintro _ w ⟨rfl, b⟩
   refine ⟨_, rfl, ?_⟩
   refine Dn [] [0, 14, 15, 16, 17, 18] [19] (Rn (yS rfl (m_ o.v (eh u)) (yS rfl (m_ i.v (eh r)) (yS rfl (m_ (iV h) (eh t)) (yS rfl (yadd e0 rfl) (yS rfl (yIa SL_22 e0 e0 b (rdI j) x) (yS rfl (yI O_3 e0 b (rdI j) x) QSn)))))) ?_)
   refine Lc1 rfl ?_
   refine Lk wn (yCall FN_33 (a1 e0)) (sparsemake_Value_ok f4 W b) ?_
   rintro _ w ⟨rfl, b⟩
   refine ⟨_, rfl, ?_⟩
   refine Dn [20] [0] [21] (yR rfl (ybuild (us := [iV A, iV B, .int .u64 C]) [(0, iV A), (1, iV B), (2, .int .u64 C)] SO_49 (bp3 e0 e0 e0) rfl) (Rn (yS rfl (m_ o.v (eh u)) QSn) ?_))
   refine Lc1 rfl ?_
   refine LH wn (rLt (n := 1) (l := [(A, B, C)]) b SL_44 [.agg #[iV A, iV B, .int .u64 C]] (bp1 e0) rfl rfl (mks1 (cs := [iV A, iV B, .int .u64 C]) rfl (mkF rfl) mks0)) fun h8 w b => Dn [] [0] [22] (Rn (yS rfl (m_ o.v (eh u)) QSn) ?_)
   refine Lc1 rfl ?_
   replace b := b.k17
   refine LH wn (rAp b SL_44 e0 e0 rO1 f5) fun f6 w b => Dn [] [] [23] (Rn QSn ?_)
   refine Lc1 rfl ?_
   refine Ly wn (a_ f6.v e0) (Dz [] [] (Rn QSn (f1 _ _ _ (f0 _ _ (wR (Ym (iV h) (eh t) (yY (yadd e0 rfl) (Ya (iV (wa .i64 h 3)) e0 (wN ?_)))))))))
   cases c
   exact e3 _ _ _ rfl ⟨_, _, _, _, rfl, rfl, z, r, b3, rfl, rfl, (b.k1g)⟩
  ·refine wp_exit (e6 _ _ _ rfl ?_)
   cases c
   exact e4 _ _ _ _ rfl rfl (d7 _ _ _ _ z b3 u b (e2 _ rfl))
 replace b := b.rowNh 49 rTi64i64u64
 refine loopQ (fun s a w => ∃ (T : List (Int × Int × Int)) (d : Int) (f : FV) (J : Hdr), (T, d) = s ∧ a = fr 63 f ∧ f 0 = iV g ∧ f 1 = i.v ∧ f 4 = (pB m) ∧ f 5 = J.v ∧ f 6 = iV d ∧ St w0 ros (box m 27 [iV 0, iV 0, hnil.v, hnil.v, hnil.v] :: row 49 rTi64i64u64 J.v T :: rs) w) c6 ⟨_, _, _, _, rfl, rfl, rfl, rfl, rfl, rfl, rfl, (b.k11)⟩ ?_
 rintro _ _ w h9 ⟨T, d, f, J, rfl, rfl, U, V, b6, b7, D, b⟩ k f7 i0 f8 f9
 refine seqQ fun i1 g0 g1 => sR fun _ g2 => Ym (iV d) (eh D) (Ym (iV g) (eh U) (yY (ylss e0 e0) (wK g2 ?_)))
 refine cIf e0 k (fun g3 k => ?_) fun g3 k => ?_
 ·refine wp_skip (g0 _ _ (sQ fun _ g4 => blockQ fun _ g5 => wR (Ym J.v (eh b7) (Ym (iV d) (eh D) (Ym (iV d) (eh D) (Ym i.v (eh V) (Ym (iV d) (eh D) (bE k fun i2 g6 k => yC (yCall FN_35 (a2 e0 e0)) (sparsemake_At_ok g6 j b) ?_))))))))
  rintro _ w ⟨rfl, b⟩
  refine ⟨_, rfl, ?_⟩
  refine yY (yadd e0 rfl) (bE k fun E g7 k => yC (yCall FN_33 (a1 e0)) (sparsemake_Value_ok g7 W b) ?_)
  rintro _ w ⟨rfl, b⟩
  refine ⟨_, rfl, ?_⟩
  refine yY (ybuild (us := [iV d, iV d, .int .u64 E]) [(0, iV d), (1, iV d), (2, .int .u64 E)] SO_49 (bp3 e0 e0 e0) rfl) (yH (rLt (n := 1) (l := [(d, d, E)]) b SL_44 [.agg #[iV d, iV d, .int .u64 E]] (bp1 e0) rfl rfl (mks1 (cs := [iV d, iV d, .int .u64 E]) rfl (mkF rfl) mks0)) fun i3 w b => bE k fun i4 g8 k => yH (rAp (b.k17) SL_44 e0 e0 rO1 g8) fun g9 w b => Ya g9.v e0 (wN (g5 _ _ _ (g4 _ _ (wR (Ym (iV d) (eh D) (yY (yadd e0 rfl) (Ya (iV (wa .i64 d 1)) e0 ?_))))))))
  refine wN ?_
  cases k
  exact f8 _ _ _ rfl ⟨_, _, _, _, rfl, rfl, U, V, b6, rfl, rfl, (b.k1g)⟩
 ·refine wp_exit (g1 _ _ _ rfl ?_)
  cases k
  exact f9 _ _ _ _ rfl rfl (c7 _ _ _ _ U V b6 b7 b (f7 _ rfl))
theorem sparsekit_Perm_ok {B : LI} {i : Int} {j : Hdr} {out : Bool} (k : sparsekit_Perm B i = some out) (l : imm I1 j.v B ∈ ros) (b : St w0 ros rs w) :
  Calls Tryz.prog 23 #[j.v, iV i] w (fun e w => e = .returned (.bool out) ∧ St w0 ros rs w) := by
 refine enterQ Tryz.func23 rfl Tryz.ntmps23 rfl fun Q u => sR fun _ a0 => Ya (.bool false) rfl (wK a0 (seqQ fun d5 a1 a2 => sR fun _ a3 => Ym j.v e0 (yY (yLen SL_22 e0 b (rdI l)) (Ym (iV i) e0 (yY (yneq e0 e0) (wN ?_))))))
 refine a3 _ _ ?_
 rcases iteS k with ⟨x, k⟩ | ⟨x, k⟩
 ·refine condF e0 (nF (dT x)) (wp_skip (a1 _ _ (sR fun _ a4 => Ym (iV i) e0 (bE k fun d6 a5 k => yH (rMk b SL_56 e0 a5) fun m w b => Ya m.v e0 (wK a4 (seqQ fun d7 a6 a7 => sQ fun _ a8 => ?_))))))
  refine wR (Ya (iV 0) rfl (wK a8 (blockQ fun C D => bE k fun E a9 k => ?_)))
  have b0 : ∀ (f : FV) w, St w0 ros rs w → .inl () = E → C (.exit 0) (fr 46 f) w := by
   intro f w b ho
   subst ho
   refine D _ _ _ (a6 _ _ (sR fun _ b1 => Ya (.bool true) rfl (wK b1 (wp_ret ?_))))
   cases k
   exact u _ _ _ (fin1r Tryz.results23 ⟨rfl, rfl⟩ ⟨rfl, b⟩)
  have b2 : ∀ (f : FV) w, f 4 = .bool false → St w0 ros rs w → .inr () = E → C .ret (fr 46 f) w := by
   intro f w b3 b ho
   subst ho
   refine D _ _ _ (a7 _ _ _ rfl ?_)
   cases k
   exact u _ _ _ (fin1r Tryz.results23 ⟨rfl, b3⟩ ⟨rfl, b⟩)
  refine loopQ (fun s a w => ∃ (p : List Bool) (h : Int) (f : FV), (p, h) = s ∧ a = fr 46 f ∧ f 0 = j.v ∧ f 1 = iV i ∧ f 5 = m.v ∧ f 6 = iV h ∧ St w0 ros (row 4 rB m.v p :: rs) w) a9 ⟨_, _, _, rfl, rfl, rfl, rfl, rfl, rfl, b⟩ ?_
  rintro _ _ w d8 ⟨p, h, f, rfl, rfl, r, t, F, q, b⟩ c G d9 b4 H
  refine seqQ fun e1 b5 b6 => sR fun _ b7 => Ym (iV h) (eh q) (Ym (iV i) (eh t) (yY (ylss e0 e0) (wK b7 ?_)))
  refine cIf e0 c (fun b8 c => ?_) fun b8 c => ?_
  ·refine wp_skip (b5 _ _ (seqQ fun e2 b9 c0 => blockQ fun _ I => seqQ fun e3 c1 c2 => sR fun _ c3 => Ym j.v (eh r) (Ym (iV h) (eh q) (bE c fun c5 J c => yY (yIa SL_22 e0 e0 b (rdI l) J) (yY (yI O_3 e0 b (rdI l) J) (yY (ylss e0 rfl) (Ym (.bool (decide (c5 < 0))) e0 ?_)))))))
   refine bE c fun K o c => ?_
   refine joinW 7 (fun f w => f 0 = j.v ∧ f 1 = iV i ∧ f 5 = m.v ∧ f 6 = iV h ∧ f 30 = .bool K ∧ St w0 ros (row 4 rB m.v p :: rs) w) (fun L => ?_) ?_
   ·rcases iteS o with ⟨g, o⟩ | ⟨g, o⟩
    ·refine gN (dT g) (gN (dT g) (gN (dT g) (gN (dT g) (gN (dT g) (gN (dT g) (yY (pt_ (.bool true) e0 (dT g) rfl) ?_))))))
     cases o
     exact L _ _ ⟨r, t, F, q, rfl, b⟩
    ·refine yG (dF g) (m_ j.v (eh r)) (yG (dF g) (m_ (iV h) (eh q)) (bE o fun c6 N o => yG (dF g) (yIa SL_22 e0 e0 b (rdI l) N) (yG (dF g) (yI O_3 e0 b (rdI l) N) (yG (dF g) (m_ (iV i) (eh t)) (yG (dF g) (ygeq e0 e0) (yY (pf_ (.bool (decide (i ≤ c6))) e0 (dF g) e0) ?_))))))
     cases o
     exact L _ _ ⟨r, t, F, q, rfl, b⟩
   rintro f w ⟨y, O, z, A, c7, b⟩
   refine Ym (.bool K) (eh c7) (bE c fun c8 n c => ?_)
   refine joinW 8 (fun f w => f 0 = j.v ∧ f 1 = iV i ∧ f 5 = m.v ∧ f 6 = iV h ∧ f 39 = .bool c8 ∧ St w0 ros (row 4 rB m.v p :: rs) w) (fun R => ?_) ?_
   ·rcases iteS n with ⟨d, n⟩ | ⟨d, n⟩
    ·refine gN d (gN d (gN d (gN d (gN d (gN d (gN d (yY (pt_ (.bool true) e0 d rfl) ?_)))))))
     cases n
     exact R _ _ ⟨y, O, z, A, rfl, b⟩
    ·refine yG (bfalse d) (m_ m.v (eh z)) (yG (bfalse d) (m_ j.v (eh y)) (yG (bfalse d) (m_ (iV h) (eh A)) (bE n fun e4 S n => yG (bfalse d) (yIa SL_22 e0 e0 b (rdI l) S) (yG (bfalse d) (yI O_3 e0 b (rdI l) S) (bE n fun c9 T n => yG (bfalse d) (yIa SL_56 e0 e0 b rO0 T) (yG (bfalse d) (yB O_4 e0 b rO0 T) (yY (pf_ (.bool c9) e0 (bfalse d) e0) ?_)))))))
     cases n
     exact R _ _ ⟨y, O, z, A, rfl, b⟩
   rintro f w ⟨U, d0, V, W, d1, b⟩
   refine wK c3 (cB (eh d1) c (fun d2 c => ?_) fun d2 c => ?_)
   ·refine sR fun _ d3 => Ya (.bool false) rfl (wK d3 (wp_ret (c2 _ _ _ rfl (I _ _ _ (c0 _ _ _ rfl ?_)))))
    cases c
    exact H _ _ _ _ rfl rfl (b2 _ _ rfl (b.k10) (G _ rfl))
   ·refine wp_skip (c1 _ _ (wR (Ym m.v (eh V) (Ym j.v (eh U) (Ym (iV h) (eh W) (bE c fun e5 X c => yY (yIa SL_22 e0 e0 b (rdI l) X) (yY (yI O_3 e0 b (rdI l) X) (bE c fun e6 Z c => yY (yIs SL_56 e0 e0 b rO0 Z) (yT (r_sti (cs := [.bool true]) b O_4 rfl e0 rfl rfl mkB Z) fun w b => wN ?_)))))))))
    refine I _ _ _ (b9 _ _ (wR (Ym (iV h) (eh W) (yY (yadd e0 rfl) (Ya (iV (wa .i64 h 1)) e0 (wN ?_))))))
    cases c
    exact b4 _ _ _ rfl ⟨_, _, _, rfl, rfl, U, d0, V, rfl, b⟩
  ·refine wp_exit (b6 _ _ _ rfl ?_)
   cases c
   exact H _ _ _ _ rfl rfl (b0 _ _ (b.k10) (G _ rfl))
 ·refine condT e0 (nT (dF x)) (sR fun _ d4 => Ya (.bool false) rfl (wK d4 (wp_ret (a2 _ _ _ rfl ?_))))
  cases k
  exact u _ _ _ (fin1r Tryz.results23 ⟨rfl, rfl⟩ ⟨rfl, b⟩)
theorem sparsekit_Ascending_ok {l : LI} {g : Hdr} {out : Bool} (i : sparsekit_Ascending l = some out) (h : imm I1 g.v l ∈ ros) (b : St w0 ros rs w) :
  Calls Tryz.prog 25 #[g.v] w (fun e w => e = .returned (.bool out) ∧ St w0 ros rs w) := by
 refine enterQ Tryz.func25 rfl Tryz.ntmps25 rfl fun Q m => sR fun _ y => Ya (.bool false) rfl (wK y (seqQ fun U z A => sR fun _ B => Ya (iV 1) rfl (wK B (blockQ fun n o => bE i fun p C i => ?_))))
 have D : ∀ (f : FV) w, St w0 ros rs w → .inl () = p → n (.exit 0) (fr 20 f) w := by
  intro f w b ho
  subst ho
  refine o _ _ _ (z _ _ (sR fun _ E => Ya (.bool true) rfl (wK E (wp_ret ?_))))
  cases i
  exact m _ _ _ (fin1r Tryz.results25 ⟨rfl, rfl⟩ ⟨rfl, b⟩)
 have F : ∀ (f : FV) w, f 2 = .bool false → St w0 ros rs w → .inr () = p → n .ret (fr 20 f) w := by
  intro f w G b ho
  subst ho
  refine o _ _ _ (A _ _ _ rfl ?_)
  cases i
  exact m _ _ _ (fin1r Tryz.results25 ⟨rfl, G⟩ ⟨rfl, b⟩)
 refine loopQ (fun s a w => ∃ (d : Int) (f : FV), d = s ∧ a = fr 20 f ∧ f 0 = g.v ∧ f 3 = iV d ∧ St w0 ros rs w) C ⟨_, _, rfl, rfl, rfl, rfl, b⟩ ?_
 rintro _ _ w V ⟨d, f, rfl, rfl, j, k, b⟩ c q W H r
 refine seqQ fun X I J => sR fun _ K => Ym (iV d) (eh k) (Ym g.v (eh j) (yY (yLen SL_22 e0 b (rdI h)) (yY (ylss e0 e0) (wK K ?_))))
 refine cIf e0 c (fun L c => ?_) fun L c => ?_
 ·refine wp_skip (I _ _ (seqQ fun Z N O => blockQ fun _ t => sQ fun _ R => bE c fun a0 u c => bE c fun a1 x c => dR [0, 0, 3, 7, 0, 0, 32, 112, 240, 511] [] 0 folM ?_))
  replace b := b.drew
  refine Dz [0, 1, 2, 3, 4, 5, 6, 7, 8, 9] [] (yR rfl (m_ g.v (eh j)) (yR rfl (m_ (iV d) (eh k)) (yR rfl (yIa SL_22 e0 e0 b (rdI h) u) (yR rfl (yI O_3 e0 b (rdI h) u) (yR rfl (m_ g.v (eh j)) (yR rfl (m_ (iV d) (eh k)) (yR rfl (ysub e0 rfl) (yR rfl (yIa SL_22 e0 e0 b (rdI h) x) (yR rfl (yI O_3 e0 b (rdI h) x) (yR rfl (yleq e0 e0) (Rn QSn (R _ _ ?_))))))))))))
  refine cIf e0 c (fun S c => ?_) fun S c => ?_
  ·refine sR fun _ T => Ya (.bool false) rfl (wK T (wp_ret (t _ _ _ (O _ _ _ rfl ?_))))
   cases c
   exact r _ _ _ _ rfl rfl (F _ _ rfl b (q _ rfl))
  ·refine wp_skip (t _ _ _ (N _ _ (wR (Ym (iV d) (eh k) (yY (yadd e0 rfl) (Ya (iV (wa .i64 d 1)) e0 (wN ?_)))))))
   cases c
   exact H _ _ _ rfl ⟨_, _, rfl, rfl, j, rfl, b⟩
 ·refine wp_exit (J _ _ _ rfl ?_)
  cases c
  exact r _ _ _ _ rfl rfl (D _ _ b (q _ rfl))
theorem sparseref09_Stored_ok {g k : Int} {C D E : LI} {c d : Int} {m o q : Hdr} {out : Bool} (l : sparseref09_Stored g k C D E c d = some out) (t : imm I1 m.v C ∈ ros) (F : imm I1 o.v D ∈ ros) (d2 : imm (rI .u64) q.v E ∈ ros) (b : St w0 ros rs w) :
  Calls Tryz.prog 26 #[.agg #[iV g, iV k, m.v, o.v, q.v], iV c, iV d] w (fun e w => e = .returned (.bool out) ∧ St w0 ros rs w) := by
 refine enterQ Tryz.func26 rfl Tryz.ntmps26 rfl fun Q u => sR fun _ a3 => yBb (r_box (vals := [iV g, iV k, m.v, o.v, q.v]) b e0 rfl) fun p w b => Ya (.bool false) rfl (wK a3 (seqQ fun d3 a4 a5 => sR fun _ a6 => Ym (iV c) e0 (yY (ylss e0 rfl) (Ym (.bool (decide (c < 0))) e0 ?_))))
 refine joinW 5 (fun f w => f 1 = iV c ∧ f 2 = iV d ∧ f 3 = (pB p) ∧ f 15 = .bool ((decide (c < 0)) || (decide (g ≤ c))) ∧ St w0 ros (box p 27 [iV g, iV k, m.v, o.v, q.v] :: rs) w) (fun G => ?_) ?_
 ·rcases Bool.eq_false_or_eq_true (decide (c < 0)) with h | h
  ·exact gN h (gN h (gN h (gN h (yY (pt_ (.bool true) e0 h rfl) (G _ _ ⟨rfl, rfl, rfl, (congrArg Value.bool (orT h)), b⟩)))))
  ·exact yG h (m_ (iV c) e0) (yG h (yFb FL_27_0 e0) (yG h (lb_ (iV g) O_3 e0 b R0) (yG h (ygeq e0 e0) (yY (pf_ (.bool (decide (g ≤ c))) e0 h e0) (G _ _ ⟨rfl, rfl, rfl, (congrArg Value.bool (orF h)), b⟩)))))
 rintro f w ⟨H, x, I, a7, b⟩
 refine Ym (.bool ((decide (c < 0)) || (decide (g ≤ c)))) (eh a7) ?_
 refine joinW 3 (fun f w => f 1 = iV c ∧ f 2 = iV d ∧ f 3 = (pB p) ∧ f 19 = .bool (((decide (c < 0)) || (decide (g ≤ c))) || (decide (d < 0))) ∧ St w0 ros (box p 27 [iV g, iV k, m.v, o.v, q.v] :: rs) w) (fun J => ?_) ?_
 ·rcases Bool.eq_false_or_eq_true ((decide (c < 0)) || (decide (g ≤ c))) with n | n
  ·exact gN n (gN n (yY (pt_ (.bool true) e0 n rfl) (J _ _ ⟨H, x, I, (congrArg Value.bool (orT n)), b⟩)))
  ·exact yG n (m_ (iV d) (eh x)) (yG n (ylss e0 rfl) (yY (pf_ (.bool (decide (d < 0))) e0 n e0) (J _ _ ⟨H, x, I, (congrArg Value.bool (orF n)), b⟩)))
 rintro f w ⟨K, y, z, a8, b⟩
 refine Ym (.bool (((decide (c < 0)) || (decide (g ≤ c))) || (decide (d < 0)))) (eh a8) ?_
 refine joinW 5 (fun f w => f 1 = iV c ∧ f 2 = iV d ∧ f 3 = (pB p) ∧ f 25 = .bool ((((decide (c < 0)) || (decide (g ≤ c))) || (decide (d < 0))) || (decide (k ≤ d))) ∧ St w0 ros (box p 27 [iV g, iV k, m.v, o.v, q.v] :: rs) w) (fun L => ?_) ?_
 ·rcases Bool.eq_false_or_eq_true (((decide (c < 0)) || (decide (g ≤ c))) || (decide (d < 0))) with i | i
  ·exact gN i (gN i (gN i (gN i (yY (pt_ (.bool true) e0 i rfl) (L _ _ ⟨K, y, z, (congrArg Value.bool (orT i)), b⟩)))))
  ·exact yG i (m_ (iV d) (eh y)) (yG i (yFb FL_27_1 (eh z)) (yG i (lb_ (iV k) O_3 e0 b R0) (yG i (ygeq e0 e0) (yY (pf_ (.bool (decide (k ≤ d))) e0 i e0) (L _ _ ⟨K, y, z, (congrArg Value.bool (orF i)), b⟩)))))
 rintro f w ⟨a9, N, O, b0, b⟩
 refine wK a6 (cB (eh b0) l (fun b1 l => ?_) fun b1 l => ?_)
 ·refine sR fun _ b2 => Ya (.bool false) rfl (wK b2 (wp_ret (a5 _ _ _ rfl ?_)))
  cases l
  exact u _ _ _ (fin1r Tryz.results26 ⟨rfl, rfl⟩ ⟨rfl, (b.k10)⟩)
 ·refine wp_skip (a4 _ _ (seqQ fun d4 b3 b4 => sR fun _ b5 => yY (yFb FL_27_2 (eh O)) (yY (lb_ m.v O_22 e0 b R0) (Ym (iV d) (eh N) (bE l fun b6 R l => yY (yIa SL_22 e0 e0 b (rdI t) R) (yY (yI O_3 e0 b (rdI t) R) (Ya (iV b6) e0 (wK b5 ?_))))))))
  refine blockQ fun S T => bE l fun U b7 l => ?_
  have b8 : ∀ (f : FV) w, St w0 ros rs w → .inl () = U → S (.exit 0) (fr 48 f) w := by
   intro f w b ho
   subst ho
   refine T _ _ _ (b3 _ _ (sR fun _ b9 => Ya (.bool false) rfl (wK b9 (wp_ret ?_))))
   cases l
   exact u _ _ _ (fin1r Tryz.results26 ⟨rfl, rfl⟩ ⟨rfl, b⟩)
  have c0 : ∀ (f : FV) w, f 6 = .bool true → St w0 ros rs w → .inr () = U → S .ret (fr 48 f) w := by
   intro f w c1 b ho
   subst ho
   refine T _ _ _ (b4 _ _ _ rfl ?_)
   cases l
   exact u _ _ _ (fin1r Tryz.results26 ⟨rfl, c1⟩ ⟨rfl, b⟩)
  refine loopQ (fun s a w => ∃ (r : Int) (f : FV), r = s ∧ a = fr 48 f ∧ f 1 = iV c ∧ f 2 = iV d ∧ f 3 = (pB p) ∧ f 7 = iV r ∧ St w0 ros (box p 27 [iV g, iV k, m.v, o.v, q.v] :: rs) w) b7 ⟨_, _, rfl, rfl, a9, N, O, rfl, b⟩ ?_
  rintro _ _ w d5 ⟨r, f, rfl, rfl, V, W, A, B, b⟩ j X d6 c2 Z
  refine seqQ fun d7 c3 c4 => sR fun _ c5 => Ym (iV r) (eh B) (yY (yFb FL_27_2 (eh A)) (yY (lb_ m.v O_22 e0 b R0) (Ym (iV d) (eh W) (yY (yadd e0 rfl) (bE j fun d8 a0 j => yY (yIa SL_22 e0 e0 b (rdI t) a0) (yY (yI O_3 e0 b (rdI t) a0) (yY (ylss e0 e0) (wK c5 ?_))))))))
  refine cIf e0 j (fun c6 j => ?_) fun c6 j => ?_
  ·refine wp_skip (c3 _ _ (seqQ fun d9 c7 c8 => blockQ fun _ a1 => sR fun _ c9 => yY (yFb FL_27_3 (eh A)) (yY (lb_ o.v O_22 e0 b R0) (Ym (iV r) (eh B) (bE j fun e1 a2 j => yY (yIa SL_22 e0 e0 b (rdI F) a2) (yY (yI O_3 e0 b (rdI F) a2) (Ym (iV c) (eh V) (yY (yeql e0 e0) ?_))))))))
   refine wK c9 ?_
   refine cIf e0 j (fun d0 j => ?_) fun d0 j => ?_
   ·refine sR fun _ d1 => Ya (.bool true) rfl (wK d1 (wp_ret (a1 _ _ _ (c8 _ _ _ rfl ?_))))
    cases j
    exact Z _ _ _ _ rfl rfl (c0 _ _ rfl (b.k10) (X _ rfl))
   ·refine wp_skip (a1 _ _ _ (c7 _ _ (wR (Ym (iV r) (eh B) (yY (yadd e0 rfl) (Ya (iV (wa .i64 r 1)) e0 (wN ?_)))))))
    cases j
    exact c2 _ _ _ rfl ⟨_, _, rfl, rfl, V, W, A, rfl, b⟩
  ·refine wp_exit (c4 _ _ _ rfl ?_)
   cases j
   exact Z _ _ _ _ rfl rfl (b8 _ _ (b.k10) (X _ rfl))
theorem sparseref13_Chosen_ok {z : List Bool} {h : Bool} {g : Hdr} {out : LI} (i : sparseref13_Chosen z h = some out) (p : imm rB g.v z ∈ ros) (b : St w0 ros rs w) :
  Calls Tryz.prog 27 #[g.v, .bool h] w (fun e w => ∃ (A : Hdr), e = .returned (A.v) ∧ St w0 ros (row 3 I1 A.v out :: rs) w) := by
 refine enterQ Tryz.func27 rfl Tryz.ntmps27 rfl fun Q D => sR fun _ E => Ya hnil.v rfl (wK E (sR fun _ F => Ya hnil.v rfl (wK F (sQ fun _ G => sR fun _ H => ?_))))
 refine Ya (iV 0) rfl (wK H (blockQ fun I J => bE i fun K L i => ?_))
 have N : ∀ (q : LI) (j : Hdr) (f : FV) w, f 5 = j.v → St w0 ros (row 3 I1 j.v q :: rs) w → q = K → I (.exit 0) (fr 24 f) w := by
  intro q j f w O b ho
  subst ho
  refine J _ _ _ (G _ _ (sR fun _ R => Ym j.v (eh O) (Ya j.v e0 (wK R (wp_ret ?_)))))
  cases i
  exact D _ _ _ (fin1r Tryz.results27 ⟨rfl, rfl⟩ ⟨_, rfl, b⟩)
 replace b := b.rowNh 3 I1
 refine loopQ (fun s a w => ∃ (r : LI) (c : Int) (f : FV) (m : Hdr), (r, c) = s ∧ a = fr 24 f ∧ f 0 = g.v ∧ f 1 = .bool h ∧ f 5 = m.v ∧ f 6 = iV c ∧ St w0 ros (row 3 I1 m.v r :: rs) w) L ⟨_, _, _, _, rfl, rfl, rfl, rfl, rfl, rfl, b⟩ ?_
 rintro _ _ w S ⟨r, c, f, m, rfl, rfl, o, t, u, k, b⟩ d T b2 U V
 refine seqQ fun b3 W X => sR fun _ Z => Ym (iV c) (eh k) (Ym g.v (eh o) (yY (yLen SL_56 e0 b (rdI p)) (yY (ylss e0 e0) (wK Z ?_))))
 refine cIf e0 d (fun a0 d => ?_) fun a0 d => ?_
 ·refine wp_skip (W _ _ (sQ fun _ a1 => blockQ fun a2 a3 => sR fun _ a4 => Ym g.v (eh o) (Ym (iV c) (eh k) (bE d fun b4 B d => yY (yIa SL_56 e0 e0 b (rdI p) B) (yY (yB O_4 e0 b (rdI p) B) (Ym (.bool h) (eh t) (yY (yeqb (by kernel_rfl) e0 e0) (wN ?_))))))))
  refine a4 _ _ ?_
  have C : ∀ (x : LI) (y : Hdr) (f : FV) w, f 0 = g.v → f 1 = .bool h → f 5 = y.v → f 6 = iV c → St w0 ros (row 3 I1 y.v x :: rs) w → sparseref13_Chosen_j4 c x = some S → a2 .normal (fr 24 f) w := by
   intro x y f w a5 a6 a7 a8 b i
   refine a3 _ _ _ (a1 _ _ (wR (Ym (iV c) (eh a8) (yY (yadd e0 rfl) (Ya (iV (wa .i64 c 1)) e0 (wN ?_))))))
   cases i
   exact U _ _ _ rfl ⟨_, _, _, _, rfl, rfl, a5, a6, a7, rfl, b⟩
  refine cB e0 d (fun a9 d => ?_) fun a9 d => ?_
  ·exact wR (Ym m.v (eh u) (Ym (iV c) (eh k) (yH (rLt (n := 1) (l := [c]) b SL_22 [iV c] (bp1 e0) rfl rfl (mks1 (cs := [iV c]) rfl mkI mks0)) fun b5 w b => bE d fun b6 b0 d => yH (rAp (b.k11) SL_22 e0 e0 rO1 b0) fun b1 w b => Ya b1.v e0 (wN (C _ _ _ _ o t rfl k (b.k1f) d)))))
  ·exact wp_skip (C _ _ _ _ o t u k b d)
 ·refine wp_exit (X _ _ _ rfl ?_)
  cases d
  exact V _ _ _ _ rfl rfl (N _ _ _ _ u b (T _ rfl))
theorem sparselaw15_BlocksIrreducible_ok {d1 : Int} {f6 : LI} {d2 : List Bool} {b4 z : Hdr} {out : Bool} (m : sparselaw15_BlocksIrreducible d1 f6 d2 = some out) (E1 : out = true) (f7 : imm I1 b4.v f6 ∈ ros) (d3 : imm rB z.v d2 ∈ ros) (n8 : globF ∈ ros) (b : St w0 ros rs w) :
  Calls Tryz.prog 7 #[iV d1, b4.v, z.v] w (fun e w => e = .returned (.bool out) ∧ St w0 ros rs w) := by
 refine enterQ Tryz.func7 rfl Tryz.ntmps7 rfl fun Q b5 => sR fun _ n9 => Ya (.bool false) rfl (wK n9 (seqQ fun E2 o0 o1 => sR fun _ o2 => Ym b4.v e0 (yY (yLen SL_22 e0 b (rdI f7)) (yY (ygtr e0 rfl) (wK o2 ?_)))))
 refine cIf e0 m (fun o3 m => ?_) fun o3 m => ?_
 ·refine sR fun _ o4 => bE m fun o5 o6 m => yC (yCall FN_9 a0) (sparselaw15_awake_ok o6 b) ?_
  rintro _ w ⟨rfl, b⟩
  refine ⟨_, rfl, ?_⟩
  refine Ya (.bool o5) e0 (wK o4 (wp_ret (o1 _ _ _ rfl ?_)))
  cases m
  exact b5 _ _ _ (fin1r Tryz.results7 ⟨rfl, rfl⟩ ⟨rfl, b⟩)
 ·refine wp_skip (o0 _ _ (sR fun _ o7 => Ym (iV d1) e0 (bE m fun t o8 m => yC (yCall FN_10 (a2 e0 rfl)) (sparsekit_Place_ok o8 b) ?_)))
  rintro _ w ⟨rfl, b⟩
  refine ⟨_, rfl, ?_⟩
  refine Ya (iV t) e0 (wK o7 (sR fun _ o9 => Ym (iV t) e0 (Ym b4.v e0 (bE m fun c p0 m => yC (yCall FN_12 (a2 e0 e0)) (sparsemake_Square_ok p0 f7 n8 b) ?_))))
  rintro _ w ⟨j, k, l, rfl, b⟩
  refine ⟨_, rfl, ?_⟩
  refine yBb (rAl b ZT_27) fun o w b => yT (r_stbn (vals' := [iV c.1, iV c.2.1, j.v, k.v, l.v]) (us := [iV c.1, iV c.2.1, j.v, k.v, l.v]) b ST_27 e0 e0 rfl rfl (one_of rfl) rfl) fun w b => wK o9 (sR fun _ p1 => yY (lbs_ [iV c.1, iV c.2.1, j.v, k.v, l.v] ST_27 e0 b R0) (bE m fun d p2 m => ?_))
  replace b := (((((b.k11).fz).k11).fz).k11).fz
  refine yC (yCall FN_15 (a1 e0)) (blocks_Triangular_ok p2 F2 F1 F0 b) ?_
  rintro _ w ⟨h, i, g, rfl, b⟩
  refine ⟨_, rfl, ?_⟩
  refine Ym (.tuple #[.agg #[h.v, i.v, g.v], iV d.2.2.2]) e0 (yY (x_ (.agg #[h.v, i.v, g.v]) e0) (yY (x_ (iV d.2.2.2) e0) (yBb (rAl b ZT_36) fun p w b => yT (r_stbn (vals' := [h.v, i.v, g.v]) (us := [h.v, i.v, g.v]) b ST_36 e0 e0 rfl rfl (one_of rfl) rfl) fun w b => Ya (iV d.2.2.2) e0 (wK p1 (seqQ fun E3 p3 p4 => sR fun _ p5 => Ym (iV d.2.2.2) e0 ?_)))))
  refine yY (yneq e0 rfl) (Ym (.bool (!(decide (d.2.2.2 = 0)))) e0 (bE m fun f8 W m => ?_))
  refine joinW 6 (fun f w => f 0 = iV t ∧ f 2 = z.v ∧ f 7 = (pB o) ∧ f 8 = (pB p) ∧ f 38 = .bool f8 ∧ St w0 (imm I1 j.v c.2.2.1 :: imm I1 k.v c.2.2.2.1 :: imm (rI .u64) l.v c.2.2.2.2 :: imm I1 h.v d.1 :: ros) (box o 27 [iV c.1, iV c.2.1, j.v, k.v, l.v] :: row 3 I1 i.v d.2.1 :: row 3 I1 g.v d.2.2.1 :: box p 36 [h.v, i.v, g.v] :: rs) w) (fun f9 => ?_) ?_
  ·rcases iteS W with ⟨E, W⟩ | ⟨E, W⟩
   ·refine yG (nF (dT E)) (yFb FL_36_0 e0) (yG (nF (dT E)) (lb_ h.v O_22 e0 b R0) (yG (nF (dT E)) (m_ (iV t) e0) (bE W fun p6 p7 W => ?_)))
    replace b := (b.k11).fz
    refine Yc (wG (nF (dT E))) rfl (yCall FN_23 (a2 e0 e0)) (sparsekit_Perm_ok p7 F0 b) ?_
    rintro _ w ⟨rfl, b⟩
    refine ⟨_, rfl, ?_⟩
    refine yG (nF (dT E)) (ynot e0) (yY (pf_ (.bool (!p6)) e0 (nF (dT E)) e0) ?_)
    cases W
    exact f9 _ _ ⟨rfl, rfl, rfl, rfl, rfl, ((b.k1i).facts (allC F3 (allC F2 (allC F1 (allC F0 (allT (allT (allT (allT allI)))))))))⟩
   ·refine gN (nT (dF E)) (gN (nT (dF E)) (gN (nT (dF E)) (gN (nT (dF E)) (gN (nT (dF E)) (yY (pt_ (.bool true) e0 (nT (dF E)) rfl) ?_)))))
    cases W
    replace b := (b.k11).fz
    exact f9 _ _ ⟨rfl, rfl, rfl, rfl, rfl, ((b.k1i).facts (allC F3 (allC F2 (allC F1 (allC F0 (allT (allT (allT (allT allI)))))))))⟩
  rintro f w ⟨d4, g0, g1, d5, p8, b⟩
  refine Ym (.bool f8) (eh p8) (bE m fun b1 X m => ?_)
  refine joinW 6 (fun f w => f 0 = iV t ∧ f 2 = z.v ∧ f 7 = (pB o) ∧ f 8 = (pB p) ∧ f 45 = .bool b1 ∧ St w0 (imm I1 j.v c.2.2.1 :: imm I1 k.v c.2.2.2.1 :: imm (rI .u64) l.v c.2.2.2.2 :: imm I1 h.v d.1 :: imm I1 i.v d.2.1 :: ros) (box o 27 [iV c.1, iV c.2.1, j.v, k.v, l.v] :: row 3 I1 g.v d.2.2.1 :: box p 36 [h.v, i.v, g.v] :: rs) w) (fun g2 => ?_) ?_
  ·rcases iteS X with ⟨F, X⟩ | ⟨F, X⟩
   ·refine gN F (gN F (gN F (gN F (gN F (yY (pt_ (.bool true) e0 F rfl) ?_)))))
    cases X
    replace b := (b.k11).fz
    exact g2 _ _ ⟨d4, g0, g1, d5, rfl, (b.facts (allC F1 (allC F2 (allC F3 (allC F4 (allC F0 (allT (allT (allT (allT (allT allI)))))))))))⟩
   ·refine yG (bfalse F) (yFb FL_36_1 (eh d5)) (yG (bfalse F) (lb_ i.v O_22 e0 b R3) (yG (bfalse F) (m_ (iV t) (eh d4)) (bE X fun p9 q0 X => ?_)))
    replace b := (b.k11).fz
    refine Yc (wG (bfalse F)) rfl (yCall FN_23 (a2 e0 e0)) (sparsekit_Perm_ok q0 F0 b) ?_
    rintro _ w ⟨rfl, b⟩
    refine ⟨_, rfl, ?_⟩
    refine yG (bfalse F) (ynot e0) (yY (pf_ (.bool (!p9)) e0 (bfalse F) e0) ?_)
    cases X
    exact g2 _ _ ⟨d4, g0, g1, d5, rfl, (b.facts (allC F1 (allC F2 (allC F3 (allC F4 (allC F0 (allT (allT (allT (allT (allT allI)))))))))))⟩
  rintro f w ⟨g3, g4, g5, d6, q4, b⟩
  refine Ym (.bool b1) (eh q4) ?_
  refine joinW 5 (fun f w => f 0 = iV t ∧ f 2 = z.v ∧ f 7 = (pB o) ∧ f 8 = (pB p) ∧ f 51 = .bool (b1 || (decide ((d.2.2.1.length : Int) = 0))) ∧ St w0 (imm I1 j.v c.2.2.1 :: imm I1 k.v c.2.2.2.1 :: imm (rI .u64) l.v c.2.2.2.2 :: imm I1 h.v d.1 :: imm I1 i.v d.2.1 :: ros) (box o 27 [iV c.1, iV c.2.1, j.v, k.v, l.v] :: row 3 I1 g.v d.2.2.1 :: box p 36 [h.v, i.v, g.v] :: rs) w) (fun g6 => ?_) ?_
  ·rcases Bool.eq_false_or_eq_true b1 with G | G
   ·exact gN G (gN G (gN G (gN G (yY (pt_ (.bool true) e0 G rfl) (g6 _ _ ⟨g3, g4, g5, d6, (congrArg Value.bool (orT G)), b⟩)))))
   ·exact yG G (yFb FL_36_2 (eh d6)) (yG G (lb_ g.v O_22 e0 b R2) (yG G (yLen SL_22 e0 b rO1) (yG G (yeql e0 rfl) (yY (pf_ (.bool (decide ((d.2.2.1.length : Int) = 0))) e0 G e0) (g6 _ _ ⟨g3, g4, g5, d6, (congrArg Value.bool (orF G)), b⟩)))))
  rintro f w ⟨d7, g7, g8, b6, q5, b⟩
  refine Ym (.bool (b1 || (decide ((d.2.2.1.length : Int) = 0)))) (eh q5) (bE m fun g9 Z m => ?_)
  refine joinW 11 (fun f w => f 0 = iV t ∧ f 2 = z.v ∧ f 7 = (pB o) ∧ f 8 = (pB p) ∧ f 63 = .bool g9 ∧ St w0 (imm I1 j.v c.2.2.1 :: imm I1 k.v c.2.2.2.1 :: imm (rI .u64) l.v c.2.2.2.2 :: imm I1 h.v d.1 :: imm I1 i.v d.2.1 :: ros) (box o 27 [iV c.1, iV c.2.1, j.v, k.v, l.v] :: row 3 I1 g.v d.2.2.1 :: box p 36 [h.v, i.v, g.v] :: rs) w) (fun h0 => ?_) ?_
  ·rcases iteS Z with ⟨u, Z⟩ | ⟨u, Z⟩
   ·refine gN u (gN u (gN u (gN u (gN u (gN u (gN u (gN u (gN u (gN u (yY (pt_ (.bool true) e0 u rfl) ?_))))))))))
    cases Z
    exact h0 _ _ ⟨d7, g7, g8, b6, rfl, b⟩
   ·refine yG (bfalse u) (yFb FL_36_2 (eh b6)) (yG (bfalse u) (lb_ g.v O_22 e0 b R2) (yG (bfalse u) (yFb FL_36_2 (eh b6)) (yG (bfalse u) (lb_ g.v O_22 e0 b R2) (yG (bfalse u) (yLen SL_22 e0 b rO1) (yG (bfalse u) (ysub e0 rfl) (bE Z fun q6 h1 Z => yG (bfalse u) (yIa SL_22 e0 e0 b rO1 h1) (yG (bfalse u) (yI O_3 e0 b rO1 h1) (yG (bfalse u) (m_ (iV t) (eh d7)) (yG (bfalse u) (yneq e0 e0) (yY (pf_ (.bool (!(decide (q6 = t)))) e0 (bfalse u) e0) ?_))))))))))
    cases Z
    exact h0 _ _ ⟨d7, g7, g8, b6, rfl, b⟩
  rintro f w ⟨h2, h4, h6, d8, q7, b⟩
  refine Ym (.bool g9) (eh q7) (bE m fun h7 a4 m => ?_)
  refine joinW 6 (fun f w => f 0 = iV t ∧ f 2 = z.v ∧ f 7 = (pB o) ∧ f 8 = (pB p) ∧ f 70 = .bool h7 ∧ St w0 (imm I1 j.v c.2.2.1 :: imm I1 k.v c.2.2.2.1 :: imm (rI .u64) l.v c.2.2.2.2 :: imm I1 h.v d.1 :: imm I1 i.v d.2.1 :: ros) (box o 27 [iV c.1, iV c.2.1, j.v, k.v, l.v] :: row 3 I1 g.v d.2.2.1 :: box p 36 [h.v, i.v, g.v] :: rs) w) (fun h8 => ?_) ?_
  ·rcases iteS a4 with ⟨H, a4⟩ | ⟨H, a4⟩
   ·refine gN H (gN H (gN H (gN H (gN H (yY (pt_ (.bool true) e0 H rfl) ?_)))))
    cases a4
    exact h8 _ _ ⟨h2, h4, h6, d8, rfl, b⟩
   ·refine yG (bfalse H) (yFb FL_36_2 (eh d8)) (yG (bfalse H) (lb_ g.v O_22 e0 b R2) (bE a4 fun q8 h9 a4 => yG (bfalse H) (yIa SL_22 e0 rfl b rO1 h9) (yG (bfalse H) (yI O_3 e0 b rO1 h9) (yG (bfalse H) (yneq e0 rfl) (yY (pf_ (.bool (!(decide (q8 = 0)))) e0 (bfalse H) e0) ?_)))))
    cases a4
    exact h8 _ _ ⟨h2, h4, h6, d8, rfl, b⟩
  rintro f w ⟨i0, i1, i2, d9, q9, b⟩
  refine Ym (.bool h7) (eh q9) (bE m fun r0 a5 m => ?_)
  refine joinW 5 (fun f w => f 0 = iV t ∧ f 2 = z.v ∧ f 7 = (pB o) ∧ f 8 = (pB p) ∧ f 76 = .bool r0 ∧ St w0 (imm I1 j.v c.2.2.1 :: imm I1 k.v c.2.2.2.1 :: imm (rI .u64) l.v c.2.2.2.2 :: imm I1 h.v d.1 :: imm I1 i.v d.2.1 :: imm I1 g.v d.2.2.1 :: ros) (box o 27 [iV c.1, iV c.2.1, j.v, k.v, l.v] :: box p 36 [h.v, i.v, g.v] :: rs) w) (fun i3 => ?_) ?_
  ·rcases iteS a5 with ⟨O, a5⟩ | ⟨O, a5⟩
   ·refine gN O (gN O (gN O (gN O (yY (pt_ (.bool true) e0 O rfl) ?_))))
    cases a5
    replace b := (b.k11).fz
    exact i3 _ _ ⟨i0, i1, i2, d9, rfl, (b.facts (allC F1 (allC F2 (allC F3 (allC F4 (allC F5 (allC F0 (allT (allT (allT (allT (allT (allT allI)))))))))))))⟩
   ·refine yG (bfalse O) (yFb FL_36_2 (eh d9)) (yG (bfalse O) (lb_ g.v O_22 e0 b R2) (bE a5 fun r1 r2 a5 => ?_))
    replace b := (b.k11).fz
    refine Yc (wG (bfalse O)) rfl (yCall FN_25 (a1 e0)) (sparsekit_Ascending_ok r2 F0 b) ?_
    rintro _ w ⟨rfl, b⟩
    refine ⟨_, rfl, ?_⟩
    refine yG (bfalse O) (ynot e0) (yY (pf_ (.bool (!r1)) e0 (bfalse O) e0) ?_)
    cases a5
    exact i3 _ _ ⟨i0, i1, i2, d9, rfl, (b.facts (allC F1 (allC F2 (allC F3 (allC F4 (allC F5 (allC F0 (allT (allT (allT (allT (allT (allT allI)))))))))))))⟩
  rintro f w ⟨r3, r4, r5, r6, s0, b⟩
  refine wK p5 (cB (eh s0) m (fun s1 m => ?_) fun s1 m => ?_)
  ·refine sR fun _ s2 => Ya (.bool false) rfl (wK s2 (wp_ret (p4 _ _ _ rfl ?_)))
   cases m
   exact b5 _ _ _ (fin1r Tryz.results7 ⟨rfl, rfl⟩ ⟨rfl, ((b.k1z).facts (allT (allT (allT (allT (allT (allT allI)))))))⟩)
  ·refine wp_skip (p3 _ _ (seqQ fun E4 s3 s4 => sR fun _ s5 => Ya (iV 0) rfl (wK s5 (blockQ fun i4 i5 => bE m fun i6 s6 m => ?_))))
   have s7 : ∀ (f : FV) w, St w0 ros rs w → .inl () = i6 → i4 (.exit 0) (fr 178 f) w := by
    intro f w b ho
    subst ho
    refine i5 _ _ _ (s3 _ _ (sR fun _ s8 => bE m fun s9 t0 m => yC (yCall FN_9 a0) (sparselaw15_awake_ok t0 b) ?_))
    rintro _ w ⟨rfl, b⟩
    refine ⟨_, rfl, ?_⟩
    refine Ya (.bool s9) e0 (wK s8 (wp_ret ?_))
    cases m
    exact b5 _ _ _ (fin1r Tryz.results7 ⟨rfl, rfl⟩ ⟨rfl, b⟩)
   have t1 : ∀ (f : FV) w, f 6 = .bool false → St w0 ros rs w → .inr () = i6 → i4 .ret (fr 178 f) w := by
    intro f w t2 b ho
    subst ho
    refine i5 _ _ _ (s4 _ _ _ rfl ?_)
    cases m
    exact b5 _ _ _ (fin1r Tryz.results7 ⟨rfl, t2⟩ ⟨rfl, b⟩)
   refine loopQ (fun s a w => ∃ (x : Int) (f : FV), x = s ∧ a = fr 178 f ∧ f 0 = iV t ∧ f 2 = z.v ∧ f 7 = (pB o) ∧ f 8 = (pB p) ∧ f 10 = iV x ∧ St w0 (imm I1 j.v c.2.2.1 :: imm I1 k.v c.2.2.2.1 :: imm (rI .u64) l.v c.2.2.2.2 :: imm I1 h.v d.1 :: imm I1 i.v d.2.1 :: imm I1 g.v d.2.2.1 :: ros) (box o 27 [iV c.1, iV c.2.1, j.v, k.v, l.v] :: box p 36 [h.v, i.v, g.v] :: rs) w) s6 ⟨_, _, rfl, rfl, r3, r4, r5, r6, rfl, b⟩ ?_
   rintro _ _ w E5 ⟨x, f, rfl, rfl, i7, t3, t4, a6, a7, b⟩ y i8 E6 t5 i9
   refine seqQ fun E7 t6 t7 => sR fun _ t8 => Ym (iV x) (eh a7) (yY (yadd e0 rfl) (yY (yFb FL_36_2 (eh a6)) (yY (lb_ g.v O_22 e0 b R1) (yY (yLen SL_22 e0 b (rdI F5)) (yY (ylss e0 e0) (wK t8 ?_))))))
   refine cIf e0 y (fun t9 y => ?_) fun t9 y => ?_
   ·refine wp_skip (t6 _ _ (seqQ fun E8 u0 u1 => blockQ fun _ j0 => sQ fun _ u2 => bE y fun L b7 y => bE y fun N b8 y => dR [0, 1, 0, 4, 15, 31, 0, 64, 0, 448, 960, 2047, 0, 8191] [12, 13] 2 folM ?_))
    replace b := b.drew
    refine Dn [0, 1, 2, 3, 4, 5, 6, 7, 8, 9, 10, 11] [] [12] (yR rfl (yFb FL_36_2 (eh a6)) (yR rfl (lb_ g.v O_22 e0 b R1) (yR rfl (m_ (iV x) (eh a7)) (yR rfl (yadd e0 rfl) (yR rfl (yIa SL_22 e0 e0 b (rdI F5) b7) (yR rfl (yI O_3 e0 b (rdI F5) b7) (yR rfl (yFb FL_36_2 (eh a6)) (yR rfl (lb_ g.v O_22 e0 b R1) (yR rfl (m_ (iV x) (eh a7)) (yR rfl (yIa SL_22 e0 e0 b (rdI F5) b8) (yR rfl (yI O_3 e0 b (rdI F5) b8) (yR rfl (ysub e0 e0) (Rn QSn ?_)))))))))))))
    refine Lc1 rfl ?_
    refine Ly wn (a_ (iV 0) rfl) (Dn [] [0, 1, 2, 3, 4, 5, 6, 7, 8, 9, 10, 11] [13] (Rn (yS rfl (yFb FL_36_2 (eh a6)) (yS rfl (lb_ g.v O_22 e0 b R1) (yS rfl (m_ (iV x) (eh a7)) (yS rfl (yadd e0 rfl) (yS rfl (yIa SL_22 e0 e0 b (rdI F5) b7) (yS rfl (yI O_3 e0 b (rdI F5) b7) (yS rfl (yFb FL_36_2 (eh a6)) (yS rfl (lb_ g.v O_22 e0 b R1) (yS rfl (m_ (iV x) (eh a7)) (yS rfl (yIa SL_22 e0 e0 b (rdI F5) b8) (yS rfl (yI O_3 e0 b (rdI F5) b8) (yS rfl (ysub e0 e0) QSn)))))))))))) ?_))
    refine Lc1 rfl ?_
    refine Ly wn (a_ (iV (ws .i64 L N)) e0) (Dz [] [] (Rn QSn (u2 _ _ (sR fun _ u3 => Ym (iV t) (eh i7) (bE y fun E9 u4 y => yH (rMk b SL_56 e0 u4) fun r w b => Ya r.v e0 (wK u3 (sQ fun _ u5 => ?_)))))))
    refine sR fun _ u6 => yY (yFb FL_36_2 (eh a6)) (yY (lb_ g.v O_22 e0 b R2) (Ym (iV x) (eh a7) (bE y fun u7 j7 y => yY (yIa SL_22 e0 e0 b (rdI F5) j7) (yY (yI O_3 e0 b (rdI F5) j7) (Ya (iV u7) e0 (wK u6 (blockQ fun u8 u9 => bE y fun v0 v1 y => ?_)))))))
    have v2 : ∀ (C : Int) (b9 : List Bool) (f : FV) w, f 0 = iV t → f 2 = z.v → f 7 = (pB o) → f 8 = (pB p) → f 10 = iV x → f 11 = iV C → f 12 = iV (ws .i64 L N) → f 13 = r.v → St w0 (imm I1 j.v c.2.2.1 :: imm I1 k.v c.2.2.2.1 :: imm (rI .u64) l.v c.2.2.2.2 :: imm I1 h.v d.1 :: imm I1 i.v d.2.1 :: imm I1 g.v d.2.2.1 :: ros) (box o 27 [iV c.1, iV c.2.1, j.v, k.v, l.v] :: box p 36 [h.v, i.v, g.v] :: row 4 rB r.v b9 :: rs) w → (C, b9) = v0 → u8 (.exit 2) (fr 178 f) w := by
     intro C b9 f w j8 j9 k0 l0 l1 c0 v3 l2 b ho
     subst ho
     refine u9 _ _ _ (u5 _ _ (sR fun _ v4 => Ym (iV C) (eh c0) (yY (ygtr e0 rfl) (Ym (.bool (decide ((0 : Int) < C))) e0 ?_))))
     refine joinW 4 (fun f w => f 0 = iV t ∧ f 2 = z.v ∧ f 7 = (pB o) ∧ f 8 = (pB p) ∧ f 10 = iV x ∧ f 11 = iV C ∧ f 13 = r.v ∧ f 169 = .bool ((decide ((0 : Int) < C)) && (decide (C < (ws .i64 L N)))) ∧ St w0 (imm I1 j.v c.2.2.1 :: imm I1 k.v c.2.2.2.1 :: imm (rI .u64) l.v c.2.2.2.2 :: imm I1 h.v d.1 :: imm I1 i.v d.2.1 :: imm I1 g.v d.2.2.1 :: ros) (box o 27 [iV c.1, iV c.2.1, j.v, k.v, l.v] :: box p 36 [h.v, i.v, g.v] :: row 4 rB r.v b9 :: rs) w) (fun l3 => ?_) ?_
     ·rcases Bool.eq_false_or_eq_true (decide ((0 : Int) < C)) with R | R
      ·exact yG R (m_ (iV C) (eh c0)) (yG R (m_ (iV (ws .i64 L N)) (eh v3)) (yG R (ylss e0 e0) (yY (pt_ (.bool (decide (C < (ws .i64 L N)))) e0 R e0) (l3 _ _ ⟨j8, j9, k0, l0, l1, c0, l2, (congrArg Value.bool (andT R)), b⟩))))
      ·exact gN R (gN R (gN R (yY (pf_ (.bool false) e0 R rfl) (l3 _ _ ⟨j8, j9, k0, l0, l1, c0, l2, (congrArg Value.bool (andF R)), b⟩))))
     rintro f w ⟨l4, l5, l6, l7, l8, v5, v6, v7, b⟩
     refine Ym (.bool ((decide ((0 : Int) < C)) && (decide (C < (ws .i64 L N))))) (eh v7) (bE y fun v8 a8 y => ?_)
     refine joinW 6 (fun f w => f 0 = iV t ∧ f 2 = z.v ∧ f 7 = (pB o) ∧ f 8 = (pB p) ∧ f 10 = iV x ∧ f 176 = .bool v8 ∧ St w0 (imm I1 j.v c.2.2.1 :: imm I1 k.v c.2.2.2.1 :: imm (rI .u64) l.v c.2.2.2.2 :: imm I1 h.v d.1 :: imm I1 i.v d.2.1 :: imm I1 g.v d.2.2.1 :: ros) (box o 27 [iV c.1, iV c.2.1, j.v, k.v, l.v] :: box p 36 [h.v, i.v, g.v] :: rs) w) (fun l9 => ?_) ?_
     ·rcases iteS a8 with ⟨I, a8⟩ | ⟨I, a8⟩
      ·refine yG I (m_ r.v (eh v6)) (bE a8 fun v9 w1 a8 => ?_)
       replace b := (b.k17).fz
       refine Yc (wG I) rfl (yCall FN_27 (a2 e0 rfl)) (sparseref13_Chosen_ok w1 F0 b) ?_
       rintro _ w ⟨F7, rfl, b⟩
       refine ⟨_, rfl, ?_⟩
       refine yG I (yLen SL_22 e0 b rO0) (yG I (m_ (iV C) (eh v5)) (yG I (yleq e0 e0) (yY (pt_ (.bool (decide ((v9.length : Int) ≤ C))) e0 I e0) ?_)))
       cases a8
       exact l9 _ _ ⟨l4, l5, l6, l7, l8, rfl, ((b.k2x).facts (allC F1 (allC F2 (allC F3 (allC F4 (allC F5 (allC F6 (allT (allT (allT (allT (allT (allT (allT allI))))))))))))))⟩
      ·refine gN (bfalse I) (gN (bfalse I) (gN (bfalse I) (gN (bfalse I) (gN (bfalse I) (yY (pf_ (.bool false) e0 (bfalse I) rfl) ?_)))))
       cases a8
       exact l9 _ _ ⟨l4, l5, l6, l7, l8, rfl, (b.k1r)⟩
     rintro f w ⟨w2, w3, w4, w5, w6, w7, b⟩
     refine wK v4 (cB (eh w7) y (fun w8 y => ?_) fun w8 y => ?_)
     ·refine sR fun _ w9 => Ya (.bool false) rfl (wK w9 (wp_ret (j0 _ _ _ (u1 _ _ _ rfl ?_))))
      cases y
      exact i9 _ _ _ _ rfl rfl (t1 _ _ rfl ((b.k1z).facts (allT (allT (allT (allT (allT (allT allI))))))) (i8 _ rfl))
     ·refine wp_skip (j0 _ _ _ (u0 _ _ (wR (Ym (iV x) (eh w6) (yY (yadd e0 rfl) (Ya (iV (wa .i64 x 1)) e0 (wN ?_)))))))
      cases y
      exact t5 _ _ _ rfl ⟨_, _, rfl, rfl, w2, w3, w4, w5, rfl, b⟩
    refine loopQ (fun s a w => ∃ (U : Int) (c1 : List Bool) (B : Int) (f : FV), (U, c1, B) = s ∧ a = fr 178 f ∧ f 0 = iV t ∧ f 2 = z.v ∧ f 7 = (pB o) ∧ f 8 = (pB p) ∧ f 10 = iV x ∧ f 11 = iV U ∧ f 12 = iV (ws .i64 L N) ∧ f 13 = r.v ∧ f 14 = iV B ∧ St w0 (imm I1 j.v c.2.2.1 :: imm I1 k.v c.2.2.2.1 :: imm (rI .u64) l.v c.2.2.2.2 :: imm I1 h.v d.1 :: imm I1 i.v d.2.1 :: imm I1 g.v d.2.2.1 :: ros) (box o 27 [iV c.1, iV c.2.1, j.v, k.v, l.v] :: box p 36 [h.v, i.v, g.v] :: row 4 rB r.v c1 :: rs) w) v1 ⟨_, _, _, _, rfl, rfl, i7, t3, t4, a6, a7, rfl, rfl, rfl, rfl, (b.k1l)⟩ ?_
    rintro _ _ w x0 ⟨U, c1, B, f, rfl, rfl, e1, b2, e2, c2, c3, e3, e4, e5, b3, b⟩ A x3 F8 x5 x6
    refine seqQ fun F9 x7 x8 => sR fun _ x9 => Ym (iV B) (eh b3) (yY (yFb FL_36_2 (eh c2)) (yY (lb_ g.v O_22 e0 b R1) (Ym (iV x) (eh c3) (yY (yadd e0 rfl) (bE A fun G0 m0 A => yY (yIa SL_22 e0 e0 b (rdI F5) m0) (yY (yI O_3 e0 b (rdI F5) m0) (yY (ylss e0 e0) (wK x9 ?_))))))))
    refine cIf e0 A (fun y0 A => ?_) fun y0 A => ?_
    ·refine wp_skip (x7 _ _ (sQ fun y1 y2 => ?_))
     have m1 : ∀ (e6 : Int) (e7 : List Bool) (f : FV) w, f 0 = iV t → f 2 = z.v → f 7 = (pB o) → f 8 = (pB p) → f 10 = iV x → f 11 = iV e6 → f 12 = iV (ws .i64 L N) → f 13 = r.v → f 14 = iV B → St w0 (imm I1 j.v c.2.2.1 :: imm I1 k.v c.2.2.2.1 :: imm (rI .u64) l.v c.2.2.2.2 :: imm I1 h.v d.1 :: imm I1 i.v d.2.1 :: imm I1 g.v d.2.2.1 :: ros) (box o 27 [iV c.1, iV c.2.1, j.v, k.v, l.v] :: box p 36 [h.v, i.v, g.v] :: row 4 rB r.v e7 :: rs) w → sparselaw15_BlocksIrreducible_j311 B e6 e7 = some x0 → y1 .normal (fr 178 f) w := by
      intro e6 e7 f w y3 y4 y5 y6 y7 y8 y9 z0 z1 b m
      refine y2 _ _ (wR (Ym (iV B) (eh z1) (yY (yadd e0 rfl) (Ya (iV (wa .i64 B 1)) e0 (wN ?_)))))
      cases m
      exact x5 _ _ _ rfl ⟨_, _, _, _, rfl, rfl, y3, y4, y5, y6, y7, y8, y9, z0, rfl, b⟩
     refine blockQ fun _ m2 => seqQ fun G1 z3 z4 => sR fun _ z5 => Ym (iV B) (eh b3) (Ym z.v (eh b2) (yY (yLen SL_56 e0 b (rdI (F_6 d3))) (yY (ygeq e0 e0) (Ym (.bool (decide ((d2.length : Int) ≤ B))) e0 (bE A fun z6 a9 A => ?_)))))
     refine joinW 6 (fun f w => f 0 = iV t ∧ f 2 = z.v ∧ f 7 = (pB o) ∧ f 8 = (pB p) ∧ f 10 = iV x ∧ f 11 = iV U ∧ f 12 = iV (ws .i64 L N) ∧ f 13 = r.v ∧ f 14 = iV B ∧ f 124 = .bool z6 ∧ St w0 (imm I1 j.v c.2.2.1 :: imm I1 k.v c.2.2.2.1 :: imm (rI .u64) l.v c.2.2.2.2 :: imm I1 h.v d.1 :: imm I1 i.v d.2.1 :: imm I1 g.v d.2.2.1 :: ros) (box o 27 [iV c.1, iV c.2.1, j.v, k.v, l.v] :: box p 36 [h.v, i.v, g.v] :: row 4 rB r.v c1 :: rs) w) (fun m3 => ?_) ?_
     ·rcases iteS a9 with ⟨J, a9⟩ | ⟨J, a9⟩
      ·refine gN (dT J) (gN (dT J) (gN (dT J) (gN (dT J) (gN (dT J) (yY (pt_ (.bool true) e0 (dT J) rfl) ?_)))))
       cases a9
       exact m3 _ _ ⟨e1, b2, e2, c2, c3, e3, e4, e5, b3, rfl, b⟩
      ·refine yG (dF J) (m_ z.v (eh b2)) (yG (dF J) (m_ (iV B) (eh b3)) (bE a9 fun z7 m4 a9 => yG (dF J) (yIa SL_56 e0 e0 b (rdI (F_6 d3)) m4) (yG (dF J) (yB O_4 e0 b (rdI (F_6 d3)) m4) (yG (dF J) (ynot e0) (yY (pf_ (.bool (!z7)) e0 (dF J) e0) ?_)))))
       cases a9
       exact m3 _ _ ⟨e1, b2, e2, c2, c3, e3, e4, e5, b3, rfl, b⟩
     rintro f w ⟨m5, m6, m7, e8, e9, m8, m9, n0, n1, z9, b⟩
     refine wK z5 (cB (eh z9) A (fun A0 A => ?_) fun A0 A => ?_)
     ·exact wp_exit (z4 _ _ _ rfl (m2 _ _ _ (m1 _ _ _ _ m5 m6 m7 e8 e9 m8 m9 n0 n1 b A)))
     ·refine wp_skip (z3 _ _ (sR fun _ A1 => Ym (iV U) (eh m8) (yY (yadd e0 rfl) (Ya (iV (wa .i64 U 1)) e0 (wK A1 (sR fun _ A2 => yY (yFb FL_36_2 (eh e8)) (yY (lb_ g.v O_22 e0 b R1) (Ym (iV x) (eh e9) ?_))))))))
      refine bE A fun A3 n2 A => yY (yIa SL_22 e0 e0 b (rdI F5) n2) (yY (yI O_3 e0 b (rdI F5) n2) (Ya (iV A3) e0 (wK A2 (blockQ fun A4 A5 => bE A fun A6 A7 A => ?_))))
      have A8 : ∀ (f0 : List Bool) (f : FV) w, f 0 = iV t → f 2 = z.v → f 7 = (pB o) → f 8 = (pB p) → f 10 = iV x → f 11 = iV (wa .i64 U 1) → f 12 = iV (ws .i64 L N) → f 13 = r.v → f 14 = iV B → St w0 (imm I1 j.v c.2.2.1 :: imm I1 k.v c.2.2.2.1 :: imm (rI .u64) l.v c.2.2.2.2 :: imm I1 h.v d.1 :: imm I1 i.v d.2.1 :: imm I1 g.v d.2.2.1 :: ros) (box o 27 [iV c.1, iV c.2.1, j.v, k.v, l.v] :: box p 36 [h.v, i.v, g.v] :: row 4 rB r.v f0 :: rs) w → f0 = A6 → A4 (.exit 4) (fr 178 f) w := by
       intro f0 f w A9 B0 B1 B2 B3 B4 B5 B6 B7 b ho
       subst ho
       exact A5 _ _ _ (m2 _ _ _ (m1 _ _ _ _ A9 B0 B1 B2 B3 B4 B5 B6 B7 b A))
      refine loopQ (fun s a w => ∃ (f1 : List Bool) (D : Int) (f : FV), (f1, D) = s ∧ a = fr 178 f ∧ f 0 = iV t ∧ f 2 = z.v ∧ f 7 = (pB o) ∧ f 8 = (pB p) ∧ f 10 = iV x ∧ f 11 = iV (wa .i64 U 1) ∧ f 12 = iV (ws .i64 L N) ∧ f 13 = r.v ∧ f 14 = iV B ∧ f 15 = iV D ∧ St w0 (imm I1 j.v c.2.2.1 :: imm I1 k.v c.2.2.2.1 :: imm (rI .u64) l.v c.2.2.2.2 :: imm I1 h.v d.1 :: imm I1 i.v d.2.1 :: imm I1 g.v d.2.2.1 :: ros) (box o 27 [iV c.1, iV c.2.1, j.v, k.v, l.v] :: box p 36 [h.v, i.v, g.v] :: row 4 rB r.v f1 :: rs) w) A7 ⟨_, _, _, rfl, rfl, m5, m6, m7, e8, e9, rfl, m9, n0, n1, rfl, b⟩ ?_
      rintro _ _ w G2 ⟨f1, D, f, rfl, rfl, f2, f3, c4, b0, c5, f4, f5, V, c7, T, b⟩ K B8 G3 B9 C0
      refine seqQ fun G4 C1 C2 => sR fun _ C3 => Ym (iV D) (eh T) (yY (yFb FL_36_2 (eh b0)) (yY (lb_ g.v O_22 e0 b R1) (Ym (iV x) (eh c5) (yY (yadd e0 rfl) (bE K fun G5 n3 K => yY (yIa SL_22 e0 e0 b (rdI F5) n3) (yY (yI O_3 e0 b (rdI F5) n3) (yY (ylss e0 e0) (wK C3 ?_))))))))
      refine cIf e0 K (fun C4 K => ?_) fun C4 K => ?_
      ·refine wp_skip (C1 _ _ (sQ fun _ C5 => blockQ fun _ C6 => bE K fun n4 c8 K => bE K fun c9 S K => bE K fun C7 d0 K => ?_))
       refine joinN (n := 178) (fun f w => f 0 = iV t ∧ f 2 = z.v ∧ f 7 = (pB o) ∧ f 8 = (pB p) ∧ f 10 = iV x ∧ f 11 = iV (wa .i64 U 1) ∧ f 12 = iV (ws .i64 L N) ∧ f 13 = r.v ∧ f 14 = iV B ∧ f 15 = iV D ∧ St w0 (imm I1 j.v c.2.2.1 :: imm I1 k.v c.2.2.2.1 :: imm (rI .u64) l.v c.2.2.2.2 :: imm I1 h.v d.1 :: imm I1 i.v d.2.1 :: imm I1 g.v d.2.2.1 :: ros) (box o 27 [iV c.1, iV c.2.1, j.v, k.v, l.v] :: box p 36 [h.v, i.v, g.v] :: row 4 rB r.v C7 :: rs) w) (fun n5 => ?_) ?_
       ·rcases iteS S with ⟨q, S⟩ | ⟨q, S⟩
        ·have C8 := someI S
         refine dR [0, 0, 0, 0, 12, 28, 60, 124, 124, 380, 124, 1916, 3964, 124, 8316, 124, 57468, 123004, 262140, 524284, 1048575, 2097151] [18, 21] 2 folM ?_
         replace b := b.drew
         refine Dn [0, 1, 2, 3, 4, 5, 6, 7, 8, 9, 10, 11, 12, 13, 14, 15, 16, 17] [] [18] (yR rfl (m_ r.v (eh V)) (yR rfl (m_ (iV D) (eh T)) (yR rfl (m_ r.v (eh V)) (yR rfl (m_ (iV D) (eh T)) (yR rfl (yIa SL_56 e0 e0 b rO2 c8) (yR rfl (yB O_4 e0 b rO2 c8) (yR rfl (m_ (.bool n4) e0) (Rx rfl rfl (wX q) (Rx rfl rfl (wX q) (Rx rfl rfl (wX q) (Rx rfl rfl (wX q) (Rx rfl rfl (wX q) (Rx rfl rfl (wX q) ?_)))))))))))))
         refine Rx rfl rfl (wX q) (Rx rfl rfl (wX q) (Rx rfl rfl (wX q) (Rx rfl rfl (wX q) (Rx rfl rfl (wX q) (Rn QSn ?_)))))
         refine Lc1 rfl ?_
         refine Lx (wX q) (Dn [19, 20] [0, 1] [21] (yR rfl (pt_ (.bool c9) e0 q (eqv C8 rfl)) (yR rfl (yIs SL_56 e0 e0 b rO2 d0) (Rn (yS rfl (m_ r.v (eh V)) (yS rfl (m_ (iV D) (eh T)) QSn)) ?_))))
         refine Lc1 rfl ?_
         replace b := b.k17
         exact LT wn (r_sti (cs := [.bool c9]) b O_4 rfl e0 e0 rfl mkB d0) fun w b => Dz [] [] (Rn QSn (n5 _ _ ⟨f2, f3, c4, b0, c5, f4, f5, V, c7, T, (b.k1l)⟩))
        ·refine bE S fun G6 n6 S => bE S fun G7 n7 S => bE S fun G8 C9 S => ?_
         have D0 := someI S
         refine dR [0, 0, 0, 0, 12, 28, 60, 124, 124, 380, 124, 1916, 3964, 124, 8316, 124, 57468, 123004, 262140, 524284, 1048575, 2097151] [18, 21] 2 folM ?_
         replace b := b.drew
         refine Dn [0, 1, 2, 3, 4, 5, 6, 7, 8, 9, 10, 11, 12, 13, 14, 15, 16, 17] [] [18] (yR rfl (m_ r.v (eh V)) (yR rfl (m_ (iV D) (eh T)) (yR rfl (m_ r.v (eh V)) (yR rfl (m_ (iV D) (eh T)) (yR rfl (yIa SL_56 e0 e0 b rO2 c8) (yR rfl (yB O_4 e0 b rO2 c8) (yR rfl (m_ (.bool n4) e0) (Ry rfl rfl (wG (bfalse q)) (lbs_ [iV c.1, iV c.2.1, j.v, k.v, l.v] ST_27 (eh c4) b R0) (Ry rfl rfl (wG (bfalse q)) (yFb FL_36_0 (eh b0)) (Ry rfl rfl (wG (bfalse q)) (lb_ h.v O_22 e0 b R1) (Ry rfl rfl (wG (bfalse q)) (m_ (iV D) (eh T)) (Ry rfl rfl (wG (bfalse q)) (yIa SL_22 e0 e0 b (rdI F3) n6) (Ry rfl rfl (wG (bfalse q)) (yI O_3 e0 b (rdI F3) n6) ?_)))))))))))))
         refine Ry rfl rfl (wG (bfalse q)) (yFb FL_36_1 (eh b0)) (Ry rfl rfl (wG (bfalse q)) (lb_ i.v O_22 e0 b R1) (Ry rfl rfl (wG (bfalse q)) (m_ (iV B) (eh c7)) (Ry rfl rfl (wG (bfalse q)) (yIa SL_22 e0 e0 b (rdI F4) n7) (Ry rfl rfl (wG (bfalse q)) (yI O_3 e0 b (rdI F4) n7) (Rn QSn ?_)))))
         refine Lc1 rfl ?_
         refine Lk (wG (bfalse q)) (yCall FN_26 (a3 e0 e0 e0)) (sparseref09_Stored_ok C9 F0 F1 F2 b) ?_
         rintro _ w ⟨rfl, b⟩
         refine ⟨_, rfl, ?_⟩
         refine Dn [19, 20] [0, 1] [21] (yR rfl (pf_ (.bool c9) e0 (bfalse q) (eqv D0 e0)) (yR rfl (yIs SL_56 e0 e0 b rO2 d0) (Rn (yS rfl (m_ r.v (eh V)) (yS rfl (m_ (iV D) (eh T)) QSn)) ?_)))
         refine Lc1 rfl ?_
         replace b := b.k17
         exact LT wn (r_sti (cs := [.bool c9]) b O_4 rfl e0 e0 rfl mkB d0) fun w b => Dz [] [] (Rn QSn (n5 _ _ ⟨f2, f3, c4, b0, c5, f4, f5, V, c7, T, (b.k1l)⟩))
       rintro f w ⟨D1, D2, D3, D4, D5, D6, D7, D8, D9, E0, b⟩
       refine C6 _ _ _ (C5 _ _ (wR (Ym (iV D) (eh E0) (yY (yadd e0 rfl) (Ya (iV (wa .i64 D 1)) e0 (wN ?_))))))
       cases K
       exact B9 _ _ _ rfl ⟨_, _, _, rfl, rfl, D1, D2, D3, D4, D5, D6, D7, D8, D9, rfl, b⟩
      ·refine wp_exit (C2 _ _ _ rfl ?_)
       cases K
       exact C0 _ _ _ _ rfl rfl (A8 _ _ _ f2 f3 c4 b0 c5 f4 f5 V c7 b (B8 _ rfl))
    ·refine wp_exit (x8 _ _ _ rfl ?_)
     cases A
     exact x6 _ _ _ _ rfl rfl (v2 _ _ _ _ e1 b2 e2 c2 c3 e3 e4 e5 b (x3 _ rfl))
   ·refine wp_exit (t7 _ _ _ rfl ?_)
    cases y
    exact i9 _ _ _ _ rfl rfl (s7 _ _ ((b.k1z).facts (allT (allT (allT (allT (allT (allT allI))))))) (i8 _ rfl))
end Go.Proofs.YtgnfkbaghjmgiaaGreatDoor
