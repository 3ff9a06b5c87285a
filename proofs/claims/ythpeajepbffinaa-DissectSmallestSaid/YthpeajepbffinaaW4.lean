/- Walks: each function computes its model, printed. -/
import Derived.Test.YthpeajepbffinaaW3
namespace Go.Proofs.Ythpeajepbffinaa
open Go Sx M
set_option maxRecDepth 100000
set_option maxHeartbeats 40000000
set_option linter.unusedVariables false
attribute [local irreducible] wpList Code.wp Calls DR QR QS LA LS St
variable {w0 : World} {ros : List Fact} {rs : List Res} {w : World}
theorem sparsekit_Place_ok {a b out : Int} (c : sparsekit_Place a b = some out) (d : St w0 ros rs w) :
  Calls Try.prog 8 #[iV a, iV b] w (fun e w => e = .returned (iV out) ∧ St w0 ros rs w) := by
 refine enterQ Try.func8 rfl Try.ntmps8 rfl fun Q f => sR fun _ g => Ya (iV 0) rfl (wK g (sR fun _ h => Ym (iV a) e0 (yY (ycv (k' := .u64) (by kernel_rfl) (by kernel_rfl) e0) (Ym (iV b) e0 (yY (ycv (k' := .u64) (by kernel_rfl) (by kernel_rfl) e0) ?_)))))
 obtain ⟨i, j, c⟩ := bs c
 refine yY (yrem e0 e0 j) (yY (ycv (k' := .i64) (by kernel_rfl) (by kernel_rfl) e0) (Ya (iV (wc .i64 i)) e0 (wK h (wp_ret ?_))))
 obtain rfl := someI c
 exact f _ _ _ (fin1r Try.results8 ⟨rfl, rfl⟩ ⟨rfl, d⟩)
theorem sparseref12_FromTable_ok {V : List (List Bool)} {m : Hdr} {out : L2} (D : sparseref12_FromTable V = some out) (A : imm SB m.v V ∈ ros) (b : St w0 ros rs w) :
  Calls Try.prog 29 #[m.v] w (fun e w => ∃ (W : Hdr), e = .returned (.agg #[W.v]) ∧ St w0 ros (row 22 S1 W.v out :: rs) w) := by
 refine enterQ Try.func29 rfl Try.ntmps29 rfl fun Q c0 => sR fun _ c1 => YB wn rfl (rAl b ZT_27) ?_
 intro i w b
 refine wK c1 (sR fun _ c2 => YB wn rfl (rAl b ZT_27) ?_)
 intro j w b
 refine wK c2 (sQ fun _ c3 => sR fun _ c4 => Ya (iV 0) rfl (wK c4 (blockQ fun c5 c6 => ?_)))
 obtain ⟨c7, c8, D⟩ := bs D
 have c9 : ∀ (J : L2) (B : Hdr) (f : FV) (w : World), f 2 = (pB i) → f 3 = (pB j) → St w0 ros (box i 27 [hnil.v] :: row 22 S1 B.v J :: box j 27 [B.v] :: rs) w → J = c7 → c5 (.exit 0) (fr 51 f) w := by
  intro J B f w X d0 b ho
  subst ho
  refine c6 _ _ _ (c3 _ _ (sR fun _ d1 => yY (lbs_ [B.v] ST_27 (eh d0) b R2) (YT wn rfl (r_stbn (vals' := [B.v]) (us := [B.v]) b ST_27 (eh X) e0 rfl rfl (one_of rfl) rfl) ?_)))
  intro w b
  refine wK d1 (wp_ret ?_)
  obtain rfl := someI D
  exact c0 _ _ _ (fin1r Try.results29 (rcs2 rfl X b R0 ST_27 rfl) ⟨_, rfl, (b.pk 3 [1] rfl)⟩)
 replace b := b.rowNh 22 S1
 refine loopQ (fun s a w => ∃ (t : L2) (g : Int) (f : FV) (k : Hdr), (t, g) = s ∧ a = fr 51 f ∧ f 0 = m.v ∧ f 2 = (pB i) ∧ f 3 = (pB j) ∧ f 4 = iV g ∧ St w0 ros (box i 27 [hnil.v] :: row 22 S1 k.v t :: box j 27 [k.v] :: rs) w) c8 ⟨_, _, _, _, rfl, rfl, rfl, rfl, rfl, rfl, (b.pk 3 [2, 0, 0] rfl)⟩ ?_
 rintro _ _ w i6 ⟨t, g, f, k, rfl, rfl, Z, a0, a1, a2, b⟩ q d2 i7 d3 d4
 refine seqQ fun i8 d5 d6 => sR fun _ d7 => Ym (iV g) (eh a2) (Ym m.v (eh Z) (yY (yLen SL_66 e0 b (rdI A)) (yY (ylss e0 e0) (wK d7 ?_))))
 rcases iteS q with ⟨K, q⟩ | ⟨K, q⟩
 ·refine cT e0 K (wp_skip (d5 _ _ (sQ fun _ d8 => blockQ fun _ d9 => sR fun _ e1 => Ya hnil.v rfl (wK e1 (sQ fun _ e2 => sR fun _ e3 => Ya (iV 0) rfl ?_)))))
  refine wK e3 (blockQ fun e4 e5 => ?_)
  obtain ⟨e6, e7, q⟩ := bs q
  have e8 : ∀ (F : LI) (C : Hdr) (f : FV) (w : World), f 0 = m.v → f 2 = (pB i) → f 3 = (pB j) → f 4 = iV g → f 5 = C.v → St w0 ros (box i 27 [hnil.v] :: row 22 S1 k.v t :: box j 27 [k.v] :: row 3 I1 C.v F :: rs) w → F = e6 → e4 (.exit 2) (fr 51 f) w := by
   intro F C f w e9 f0 L f1 f2 b ho
   subst ho
   refine e5 _ _ _ (e2 _ _ (wR (yY (yFb FL_27_0 (eh L)) (yY (lb_ k.v O_25 e0 b R2) (Ym C.v (eh f2) ?_)))))
   replace b := b.pk 4 [3, 0, 0, 0] rfl
   replace b := b.fz
   refine YH wn rfl (rLt (n := 1) (l := [F]) b SL_25 [C.v] (bp1 e0) rfl rfl (mks1 (cs := [C.v]) rfl (mkS F0) mks0)) ?_
   intro i9 w b
   obtain ⟨j0, f3, q⟩ := bs q
   replace b := b.pk 3 [2, 0, 0] rfl
   refine YH wn rfl (rAp b SL_25 e0 e0 rO1 f3) ?_
   intro f4 w b
   refine yY (yFb FL_27_0 (eh L)) ?_
   replace b := b.pk 4 [3, 0, 0, 0] rfl
   refine YT wn rfl (r_stb1 (vals' := [f4.v]) b O_25 e0 e0 rfl rfl rfl rfl) ?_
   intro w b
   refine wN (d9 _ _ _ (d8 _ _ (wR (Ym (iV g) (eh f1) (yY (yadd e0 rfl) (Ya (iV (wa .i64 g 1)) e0 (wN ?_)))))))
   obtain rfl := someI q
   exact d3 _ _ _ rfl ⟨_, _, _, _, rfl, rfl, e9, f0, L, rfl, ((b.pk 4 [3, 1, 0] rfl).facts (allT allI))⟩
  replace b := b.rowNh 3 I1
  refine loopQ (fun s a w => ∃ (E : LI) (d : Int) (f : FV) (u : Hdr), (E, d) = s ∧ a = fr 51 f ∧ f 0 = m.v ∧ f 2 = (pB i) ∧ f 3 = (pB j) ∧ f 4 = iV g ∧ f 5 = u.v ∧ f 6 = iV d ∧ St w0 ros (box i 27 [hnil.v] :: row 22 S1 k.v t :: box j 27 [k.v] :: row 3 I1 u.v E :: rs) w) e7 ⟨_, _, _, _, rfl, rfl, Z, a0, a1, a2, rfl, rfl, (b.pk 4 [1, 1, 1, 0] rfl)⟩ ?_
  rintro _ _ w f5 ⟨E, d, f, u, rfl, rfl, x, G, H, y, I, z, b⟩ o f6 j1 f7 f8
  refine seqQ fun j2 f9 g0 => sR fun _ g1 => Ym (iV d) (eh z) (Ym m.v (eh x) (yY (yLen SL_66 e0 b (rdI A)) (yY (ylss e0 e0) (wK g1 ?_))))
  rcases iteS o with ⟨N, o⟩ | ⟨N, o⟩
  ·refine cT e0 N (wp_skip (f9 _ _ (sQ fun _ g2 => blockQ fun g3 g4 => sR fun _ g5 => Ym (iV g) (eh y) (Ym (iV d) (eh z) (yY (yneq e0 e0) (Ym (.bool (!(decide (g = d)))) e0 ?_))))))
   obtain ⟨g6, p, o⟩ := bs o
   refine joinW 17 (fun f w => f 0 = m.v ∧ f 2 = (pB i) ∧ f 3 = (pB j) ∧ f 4 = iV g ∧ f 5 = u.v ∧ f 6 = iV d ∧ f 39 = .bool g6 ∧ St w0 ros (box i 27 [hnil.v] :: row 22 S1 k.v t :: box j 27 [k.v] :: row 3 I1 u.v E :: rs) w) (fun a3 => ?_) ?_
   ·rcases iteS p with ⟨c, p⟩ | ⟨c, p⟩
    ·refine gN (nF (dT c)) (gN (nF (dT c)) (gN (nF (dT c)) (gN (nF (dT c)) (gN (nF (dT c)) (gN (nF (dT c)) (gN (nF (dT c)) (gN (nF (dT c)) (Gn (wxu rfl rfl rfl) rfl (Gn (wxu rfl rfl rfl) rfl (Gn (wxu rfl rfl rfl) rfl (Gn (wxu rfl rfl rfl) rfl (Gn (wxu rfl rfl rfl) rfl (Gn (wxu rfl rfl rfl) rfl ?_)))))))))))))
     refine Gn (wxu rfl rfl rfl) rfl (gN (nF (dT c)) (yY (pf_ (.bool false) e0 (nF (dT c)) rfl) ?_))
     obtain rfl := someI p
     exact a3 _ _ ⟨x, G, H, y, I, z, rfl, b⟩
    ·refine yG (nT (dF c)) (m_ m.v (eh x)) (yG (nT (dF c)) (m_ (iV g) (eh y)) ?_)
     obtain ⟨g7, a4, p⟩ := bs p
     refine yG (nT (dF c)) (yIa SL_66 e0 e0 b (rdI A) a4) ?_
     obtain ⟨a5, b⟩ := iLs b A a4
     refine yG (nT (dF c)) (yCt O_67 e0 b F1 rfl) (yG (nT (dF c)) (m_ (iV d) (eh z)) ?_)
     obtain ⟨O, a6, p⟩ := bs p
     refine yG (nT (dF c)) (yIa SL_67 e0 e0 b (rdI F0) a6) (yG (nT (dF c)) (yB O_4 e0 b (rdI F0) a6) (yG (nT (dF c)) (m_ (.bool O) e0) ?_))
     obtain ⟨a7, r, p⟩ := bs p
     refine joinW 8 (fun f w => f 0 = m.v ∧ f 2 = (pB i) ∧ f 3 = (pB j) ∧ f 4 = iV g ∧ f 5 = u.v ∧ f 6 = iV d ∧ f 22 = .bool (!(decide (g = d))) ∧ f 23 = m.v ∧ f 24 = iV g ∧ f 26 = a5.v ∧ f 27 = iV d ∧ f 29 = .bool O ∧ f 30 = .bool O ∧ f 38 = .bool a7 ∧ St w0 (imm rB a5.v g7 :: ros) (box i 27 [hnil.v] :: row 22 S1 k.v t :: box j 27 [k.v] :: row 3 I1 u.v E :: rs) w) (fun a8 => ?_) ?_
     ·rcases iteS r with ⟨h, r⟩ | ⟨h, r⟩
      ·refine gN h (gN h (gN h (gN h (gN h (gN h (gN h (yG (nT (dF c)) (pt_ (.bool true) e0 h rfl) ?_)))))))
       obtain rfl := someI r
       exact a8 _ _ ⟨x, G, H, y, I, z, rfl, rfl, rfl, rfl, rfl, rfl, rfl, rfl, (b.facts (allC F0 (allT (allT allI))))⟩
      ·refine yG (bfalse h) (m_ m.v (eh x)) (yG (bfalse h) (m_ (iV d) (eh z)) ?_)
       obtain ⟨j3, a9, r⟩ := bs r
       refine yG (bfalse h) (yIa SL_66 e0 e0 b (rdI (F_2 A)) a9) ?_
       obtain ⟨j4, b⟩ := iLs b (F_2 A) a9
       refine yG (bfalse h) (yCt O_67 e0 b F1 rfl) (yG (bfalse h) (m_ (iV g) (eh y)) ?_)
       obtain ⟨g8, b0, r⟩ := bs r
       refine yG (bfalse h) (yIa SL_67 e0 e0 b (rdI F0) b0) (yG (bfalse h) (yB O_4 e0 b (rdI F0) b0) (yG (nT (dF c)) (pf_ (.bool g8) e0 (bfalse h) e0) ?_))
       obtain rfl := someI r
       exact a8 _ _ ⟨x, G, H, y, I, z, rfl, rfl, rfl, rfl, rfl, rfl, rfl, rfl, (b.facts (allC F2 (allT (allT (allT (allT allI))))))⟩
     rintro f w ⟨g9, h0, h1, h3, h4, h5, h6, j5, j6, j7, j8, j9, k0, h7, b⟩
     refine yY (pt_ (.bool a7) (eh h6) (nT (dF c)) (eh h7)) ?_
     obtain rfl := someI p
     exact a3 _ _ ⟨g9, h0, h1, h3, h4, h5, rfl, (b.facts (allT allI))⟩
   rintro f w ⟨b1, b2, b5, b6, b7, R, b8, b⟩
   refine wK g5 ?_
   have b9 : ∀ (S : LI) (T : Hdr) (f : FV) (w : World), f 0 = m.v → f 2 = (pB i) → f 3 = (pB j) → f 4 = iV g → f 5 = T.v → f 6 = iV d → St w0 ros (box i 27 [hnil.v] :: row 22 S1 k.v t :: box j 27 [k.v] :: row 3 I1 T.v S :: rs) w → sparseref12_FromTable_j40 d S = some f5 → g3 .normal (fr 51 f) w := by
    intro S T f w h8 h9 i0 i1 i2 i3 b D
    refine g4 _ _ _ (g2 _ _ (wR (Ym (iV d) (eh i3) (yY (yadd e0 rfl) (Ya (iV (wa .i64 d 1)) e0 (wN ?_))))))
    obtain rfl := someI D
    exact f7 _ _ _ rfl ⟨_, _, _, _, rfl, rfl, h8, h9, i0, i1, i2, rfl, b⟩
   rcases iteS o with ⟨U, o⟩ | ⟨U, o⟩
   ·refine condT (eh b8) U (wR (Ym u.v (eh b7) (Ym (iV d) (eh R) (YH wn rfl (rLt (n := 1) (l := [d]) b SL_22 [iV d] (bp1 e0) rfl rfl (mks1 (cs := [iV d]) rfl mkI mks0)) ?_))))
    intro k5 w b
    obtain ⟨k6, i4, o⟩ := bs o
    replace b := b.pk 5 [4, 0, 0, 0, 0] rfl
    refine YH wn rfl (rAp b SL_22 e0 e0 rO1 i4) ?_
    intro i5 w b
    exact Ya i5.v e0 (wN (b9 _ _ _ _ b1 b2 b5 b6 rfl R (b.pk 5 [2, 2, 2, 0] rfl) o))
   ·exact condF (eh b8) (bfalse U) (wp_skip (b9 _ _ _ _ b1 b2 b5 b6 b7 R b o))
  ·refine cF e0 N (wp_exit (g0 _ _ _ rfl ?_))
   obtain rfl := someI o
   exact f8 _ _ _ _ rfl rfl (e8 _ _ _ _ x G H y I b (f6 _ rfl))
 ·refine cF e0 K (wp_exit (d6 _ _ _ rfl ?_))
  obtain rfl := someI q
  exact d4 _ _ _ _ rfl rfl (c9 _ _ _ _ a0 a1 b (d2 _ rfl))
theorem sparsemake_Graph_ok {d : Int} {u : LI} {i : Hdr} {out : L2} (p : sparsemake_Graph d u = some out) (q : imm I1 i.v u ∈ ros) (b : St w0 ros rs w) :
  Calls Try.prog 12 #[iV d, i.v] w (fun e w => ∃ (T : Hdr), e = .returned (.agg #[T.v]) ∧ St w0 ros (row 22 S1 T.v out :: rs) w) := by
 refine enterQ Try.func12 rfl Try.ntmps12 rfl fun Q b1 => sR fun _ b2 => YB wn rfl (rAl b ZT_27) ?_
 intro j w b
 refine wK b2 (sR fun _ b3 => Ya hnil.v rfl (wK b3 (sQ fun _ b5 => sR fun _ b6 => Ya (iV 0) rfl (wK b6 (blockQ fun b7 b8 => ?_)))))
 obtain ⟨b9, c0, p⟩ := bs p
 have c1 : ∀ (F : List (List Bool)) (g : Hdr) (k : List Hdr) (f : FV) (w : World), f 0 = iV d → f 1 = i.v → f 4 = (pB j) → f 5 = g.v → St w0 ros (box j 27 [hnil.v] :: row 67 rH g.v k :: fam 4 rB k F :: rs) w → F = b9 → b7 (.exit 0) (fr 48 f) w := by
  intro F g k f w c2 c3 c4 c5 b ho
  subst ho
  refine b8 _ _ _ (b5 _ _ (sQ fun _ c6 => sR fun _ c7 => Ya (iV 0) rfl (wK c7 (blockQ fun c8 c9 => ?_))))
  obtain ⟨d0, d1, p⟩ := bs p
  have d2 : ∀ (G : List (List Bool)) (f : FV) (w : World), f 4 = (pB j) → f 5 = g.v → St w0 ros (box j 27 [hnil.v] :: row 67 rH g.v k :: fam 4 rB k G :: rs) w → G = d0 → c8 (.exit 2) (fr 48 f) w := by
   intro G f w U d3 b ho
   subst ho
   refine c9 _ _ _ (c6 _ _ (sR fun _ d4 => Ym g.v (eh d3) ?_))
   obtain ⟨g0, d5, p⟩ := bs p
   replace b := b.pk 3 [1, 1, 0] rfl
   replace b := b.ffz
   refine Yc wn rfl (yCall FN_29 (a1 e0)) (sparseref12_FromTable_ok d5 F0 b) ?_
   rintro _ w ⟨V, rfl, b⟩
   refine ⟨_, rfl, ?_⟩
   replace b := b.pk 2 [1, 0] rfl
   refine YT wn rfl (r_stbn (vals' := [V.v]) (us := [V.v]) b ST_27 (eh U) e0 rfl rfl (one_of rfl) rfl) ?_
   intro w b
   refine wK d4 (wp_ret ?_)
   obtain rfl := someI p
   exact b1 _ _ _ (fin1r Try.results12 (rcs2 rfl U b R0 ST_27 rfl) ⟨_, rfl, ((b.pk 2 [1] rfl).facts (allT allI))⟩)
  refine loopQ (fun s a w => ∃ (y : List (List Bool)) (h : Int) (f : FV), (y, h) = s ∧ a = fr 48 f ∧ f 0 = iV d ∧ f 1 = i.v ∧ f 4 = (pB j) ∧ f 5 = g.v ∧ f 7 = iV h ∧ St w0 ros (box j 27 [hnil.v] :: row 67 rH g.v k :: fam 4 rB k y :: rs) w) d1 ⟨_, _, _, rfl, rfl, c2, c3, c4, c5, rfl, b⟩ ?_
  rintro _ _ w g1 ⟨y, h, f, rfl, rfl, H, I, W, X, J, b⟩ c d6 g2 d7 d8
  refine seqQ fun g3 d9 e1 => sR fun _ e2 => Ym (iV h) (eh J) (yY (yadd e0 rfl) (Ym i.v (eh I) (yY (yLen SL_22 e0 b (rdI q)) (yY (ylss e0 e0) (Ym (.bool (decide ((wa .i64 h 1) < (u.length : Int)))) e0 ?_)))))
  refine joinW 3 (fun f w => f 0 = iV d ∧ f 1 = i.v ∧ f 4 = (pB j) ∧ f 5 = g.v ∧ f 7 = iV h ∧ f 26 = .bool ((decide ((wa .i64 h 1) < (u.length : Int))) && (decide ((0 : Int) < d))) ∧ St w0 ros (box j 27 [hnil.v] :: row 67 rH g.v k :: fam 4 rB k y :: rs) w) (fun Z => ?_) ?_
  ·rcases Bool.eq_false_or_eq_true (decide ((wa .i64 h 1) < (u.length : Int))) with m | m
   ·exact yG m (m_ (iV d) (eh H)) (yG m (ygtr e0 rfl) (yY (pt_ (.bool (decide ((0 : Int) < d))) e0 m e0) (Z _ _ ⟨H, I, W, X, J, (congrArg Value.bool (andT m)), b⟩)))
   ·exact gN m (gN m (yY (pf_ (.bool false) e0 m rfl) (Z _ _ ⟨H, I, W, X, J, (congrArg Value.bool (andF m)), b⟩)))
  rintro f w ⟨z, A, a0, x, B, a3, b⟩
  refine wK e2 ?_
  rcases iteS c with ⟨K, c⟩ | ⟨K, c⟩
  ·refine condT (eh a3) K (wp_skip (d9 _ _ (sQ fun _ e3 => blockQ fun _ e4 => ?_)))
   obtain ⟨g4, a4, c⟩ := bs c
   obtain ⟨g5, e5, c⟩ := bs c
   obtain ⟨g6, L, c⟩ := bs c
   obtain ⟨g7, C, c⟩ := bs c
   obtain ⟨g8, e6, c⟩ := bs c
   obtain ⟨g9, a5, c⟩ := bs c
   obtain ⟨h0, e7, c⟩ := bs c
   refine dR [0, 0, 0, 6, 14, 0, 62, 127, 255, 0, 0, 1024, 3584, 7680, 0, 32382, 65535, 131071] [6, 15, 17] 3 folM ?_
   replace b := b.drew
   refine Dn [0, 1, 2, 3, 4, 5, 9, 10, 11, 12, 13, 14] [] [6] (yR rfl (m_ g.v (eh x)) (yR rfl (m_ i.v (eh A)) (yR rfl (m_ (iV h) (eh B)) (yR rfl (yIa SL_22 e0 e0 b (rdI q) a4) (yR rfl (yI O_3 e0 b (rdI q) a4) (yR rfl (m_ (iV d) (eh z)) (yR rfl (m_ i.v (eh A)) (yR rfl (m_ (iV h) (eh B)) (yR rfl (yadd e0 rfl) (yR rfl (yIa SL_22 e0 e0 b (rdI q) C) (yR rfl (yI O_3 e0 b (rdI q) C) (yR rfl (m_ (iV d) (eh z)) (Rn QSn ?_)))))))))))))
   refine Lc1 rfl ?_
   refine Lk wn (yCall FN_8 (a2 e0 e0)) (sparsekit_Place_ok e5 b) ?_
   rintro _ w ⟨rfl, b⟩
   refine ⟨_, rfl, ?_⟩
   refine Dn [7, 8] [0, 9, 10, 11, 12, 13, 14] [15] ?_
   obtain ⟨h1, r⟩ := b.famI R2 L
   refine yR rfl (yIa SLH_66 e0 e0 b rO1 r) (yR rfl (yF1 O_67 e0 b rO1 r rfl) (Rn (yS rfl (m_ g.v (eh x)) (yS rfl (m_ i.v (eh A)) (yS rfl (m_ (iV h) (eh B)) (yS rfl (yadd e0 rfl) (yS rfl (yIa SL_22 e0 e0 b (rdI q) C) (yS rfl (yI O_3 e0 b (rdI q) C) (yS rfl (m_ (iV d) (eh z)) QSn))))))) ?_))
   refine Lc1 rfl ?_
   refine Lk wn (yCall FN_8 (a2 e0 e0)) (sparsekit_Place_ok e6 b) ?_
   rintro _ w ⟨rfl, b⟩
   refine ⟨_, rfl, ?_⟩
   refine Dn [16] [0, 7, 8] [17] (yR rfl (yIs SL_67 e0 e0 b (rdF R2 r L) a5) (Rn (yS rfl (m_ g.v (eh x)) (yS rfl (yIa SLH_66 e0 e0 b rO1 r) (yS rfl (yF1 O_67 e0 b rO1 r rfl) QSn))) ?_))
   refine Lc1 rfl ?_
   replace b := b.pk 3 [2, 0, 0] rfl
   refine LT wn (r_sti (cs := [.bool true]) (b.foc r L) O_4 rfl e0 rfl rfl mkB a5) ?_
   intro w b
   replace b := b.unfoc' r e7
   refine Dz [] [] (Rn QSn (e4 _ _ _ (e3 _ _ (wR (Ym (iV h) (eh B) (yY (yadd e0 rfl) (Ya (iV (wa .i64 h 2)) e0 (wN ?_))))))))
   obtain rfl := someI c
   exact d7 _ _ _ rfl ⟨_, _, _, rfl, rfl, z, A, a0, x, rfl, (b.pk 3 [1, 1, 0] rfl)⟩
  ·refine condF (eh a3) (bfalse K) (wp_exit (e1 _ _ _ rfl ?_))
   obtain rfl := someI c
   exact d8 _ _ _ _ rfl rfl (d2 _ _ _ a0 x b (d6 _ rfl))
 replace b := ((b.rowNh 67 rH).fNew 4 rB).pk 2 [1, 0] rfl
 refine loopQ (fun s a w => ∃ (N : List (List Bool)) (t : Int) (f : FV) (D : Hdr) (O : List Hdr), (N, t) = s ∧ a = fr 48 f ∧ f 0 = iV d ∧ f 1 = i.v ∧ f 4 = (pB j) ∧ f 5 = D.v ∧ f 6 = iV t ∧ St w0 ros (box j 27 [hnil.v] :: row 67 rH D.v O :: fam 4 rB O N :: rs) w) c0 ⟨_, _, _, _, _, rfl, rfl, rfl, rfl, rfl, rfl, rfl, (b.pk 3 [2, 0, 0] rfl)⟩ ?_
 rintro _ _ w h2 ⟨N, t, f, D, O, rfl, rfl, E, a6, a7, a8, a9, b⟩ o e8 h4 e9 f0
 refine seqQ fun h5 f1 f2 => sR fun _ f3 => Ym (iV t) (eh a9) (Ym (iV d) (eh E) (yY (ylss e0 e0) (wK f3 ?_)))
 rcases iteS o with ⟨R, o⟩ | ⟨R, o⟩
 ·refine cT e0 R (wp_skip (f1 _ _ (sQ fun _ f4 => blockQ fun _ f5 => wR (Ym D.v (eh a8) (Ym (iV d) (eh E) ?_)))))
  obtain ⟨f6, f7, o⟩ := bs o
  refine YH wn rfl (rMk b SL_67 e0 f7) ?_
  intro S w b
  refine YH wn rfl (rLt (n := 1) (l := [S]) b SLH_66 [S.v] (bp1 e0) rfl rfl (mks1 rfl (mkF rfl) mks0)) ?_
  intro h6 w b
  obtain ⟨h7, b0, o⟩ := bs o
  replace b := b.pk 4 [3, 0, 0, 0] rfl
  obtain ⟨h8, ey82, f8⟩ := app_rep b0 (b.famL R4) (show [S].length = [f6].length from rfl)
  refine YH wn rfl (rAp b SLH_66 e0 e0 rO1 f8) ?_
  intro f9 w b
  replace b := b.pk 5 [2, 3, 0, 0, 0] rfl
  replace b := b.fPush
  rw [← ey82, ← (app_some b0).1] at b
  refine Ya f9.v e0 (wN (f5 _ _ _ (f4 _ _ (wR (Ym (iV t) (eh a9) (yY (yadd e0 rfl) (Ya (iV (wa .i64 t 1)) e0 (wN ?_))))))))
  obtain rfl := someI o
  exact e9 _ _ _ rfl ⟨_, _, _, _, _, rfl, rfl, E, a6, a7, rfl, rfl, (b.pk 4 [3, 1, 0] rfl)⟩
 ·refine cF e0 R (wp_exit (f2 _ _ _ rfl ?_))
  obtain rfl := someI o
  exact f0 _ _ _ _ rfl rfl (c1 _ _ _ _ _ E a6 a7 a8 b (e8 _ rfl))
theorem sparseref18_Ones_ok {K : L2} {c : Hdr} {out : L2 × LI × L2} (C : sparseref18_Ones K = some out) (z : imm S1 c.v K ∈ ros) (b : St w0 ros rs w) :
  Calls Try.prog 15 #[.agg #[c.v]] w (fun e w => ∃ (L N O : Hdr), e = .returned (.agg #[L.v, N.v, O.v]) ∧ St w0 (imm S1 L.v out.1 :: ros) (row 3 I1 N.v out.2.1 :: row 22 S1 O.v out.2.2 :: rs) w) := by
 refine enterQ Try.func15 rfl Try.ntmps15 rfl fun Q a3 => sR fun _ a4 => YB wn rfl (r_box (vals := [c.v]) b e0 rfl) ?_
 intro o w b
 refine YB wn rfl (rAl b ZT_29) ?_
 intro j w b
 refine wK a4 (sR fun _ a5 => yY (lbs_ [c.v] ST_27 e0 b R1) (yY (ybuild (us := [c.v, hnil.v, hnil.v]) [(0, .agg #[c.v])] SO_29 (bp1 e0) rfl) (YB wn rfl (rAl b ZT_29) ?_)))
 intro k w b
 refine YT wn rfl (r_stbn (vals' := [c.v, hnil.v, hnil.v]) (us := [c.v, hnil.v, hnil.v]) b ST_29 e0 e0 rfl rfl (one_of rfl) rfl) ?_
 intro w b
 refine wK a5 (sQ fun _ a6 => sR fun _ a7 => Ya (iV 0) rfl (wK a7 (blockQ fun a8 a9 => ?_)))
 obtain ⟨b0, b1, C⟩ := bs C
 have b2 : ∀ (D : LI) (E : L2) (p q : Hdr) (f : FV) (w : World), f 2 = (pB j) → f 3 = (pB k) → St w0 ros (box j 29 [hnil.v, hnil.v, hnil.v] :: row 3 I1 p.v D :: row 22 S1 q.v E :: box k 29 [c.v, p.v, q.v] :: rs) w → (D, E) = b0 → a8 (.exit 0) (fr 41 f) w := by
  intro D E p q f w R b6 b ho
  subst ho
  refine a9 _ _ _ (a6 _ _ (sR fun _ b7 => yY (lbs_ [c.v, p.v, q.v] ST_29 (eh b6) b R3) (YT wn rfl (r_stbn (vals' := [c.v, p.v, q.v]) (us := [c.v, p.v, q.v]) b ST_29 (eh R) e0 rfl rfl (one_of rfl) rfl) ?_)))
  intro w b
  refine wK b7 (wp_ret ?_)
  obtain rfl := someI C
  exact a3 _ _ _ (fin1r Try.results15 (rcs2 rfl R b R0 ST_29 rfl) ⟨_, _, _, rfl, ((b.pk 4 [1, 1] rfl).facts (allC z allI))⟩)
 replace b := b.rowNh 3 I1
 replace b := b.rowNh 22 S1
 refine loopQ (fun s a w => ∃ (u : LI) (x : L2) (g : Int) (f : FV) (m h : Hdr), (u, x, g) = s ∧ a = fr 41 f ∧ f 1 = (pB o) ∧ f 2 = (pB j) ∧ f 3 = (pB k) ∧ f 4 = iV g ∧ St w0 ros (box o 27 [c.v] :: box j 29 [hnil.v, hnil.v, hnil.v] :: row 3 I1 m.v u :: row 22 S1 h.v x :: box k 29 [c.v, m.v, h.v] :: rs) w) b1 ⟨_, _, _, _, _, _, rfl, rfl, rfl, rfl, rfl, rfl, (b.pk 5 [4, 3, 1, 0, 0] rfl)⟩ ?_
 rintro _ _ w f3 ⟨u, x, g, f, m, h, rfl, rfl, S, T, U, V, b⟩ d b8 f4 b9 c0
 refine seqQ fun f5 c1 c2 => sR fun _ c3 => Ym (iV g) (eh V) (yY (yFb FL_27_0 (eh S)) (yY (lb_ c.v O_25 e0 b R0) (yY (yLen SL_25 e0 b (rdI z)) (yY (ylss e0 e0) (wK c3 ?_)))))
 rcases iteS d with ⟨F, d⟩ | ⟨F, d⟩
 ·refine cT e0 F (wp_skip (c1 _ _ (sQ fun _ c4 => blockQ fun _ c5 => sR fun _ c6 => Ya hnil.v rfl (wK c6 (sQ fun _ c7 => sR fun _ c8 => Ya (iV 0) rfl ?_)))))
  refine wK c8 (blockQ fun c9 d0 => ?_)
  obtain ⟨d1, d2, d⟩ := bs d
  have d3 : ∀ (A : LI) (r : Hdr) (f : FV) (w : World), f 1 = (pB o) → f 2 = (pB j) → f 3 = (pB k) → f 4 = iV g → f 5 = r.v → St w0 ros (box o 27 [c.v] :: box j 29 [hnil.v, hnil.v, hnil.v] :: row 3 I1 m.v u :: row 22 S1 h.v x :: box k 29 [c.v, m.v, h.v] :: row 3 I1 r.v A :: rs) w → A = d1 → c9 (.exit 2) (fr 41 f) w := by
   intro A r f w d4 d5 y d6 d7 b ho
   subst ho
   refine d0 _ _ _ (c7 _ _ (sR fun _ d8 => yY (yFb FL_29_1 (eh y)) (yY (lb_ m.v O_22 e0 b R4) (YH wn rfl (rLt (n := 1) (l := [1]) b SL_22 [iV 1] (bp1 rfl) rfl rfl (mks1 (cs := [iV 1]) rfl mkI mks0)) ?_))))
   intro f6 w b
   obtain ⟨f7, d9, d⟩ := bs d
   replace b := b.pk 4 [3, 0, 0, 0] rfl
   refine YH wn rfl (rAp b SL_22 e0 e0 rO1 d9) ?_
   intro W w b
   refine yY (yFb FL_29_1 (eh y)) ?_
   replace b := b.pk 6 [5, 0, 0, 0, 0, 0] rfl
   refine YT wn rfl (r_stb1 (vals' := [c.v, W.v, h.v]) b O_22 e0 e0 rfl rfl rfl rfl) ?_
   intro w b
   refine wK d8 (wR (yY (yFb FL_29_2 (eh y)) (yY (lb_ h.v O_25 e0 b R0) (Ym r.v (eh d7) ?_))))
   replace b := b.pk 7 [6, 0, 0, 0, 0, 0, 0] rfl
   replace b := b.fz
   refine YH wn rfl (rLt (n := 1) (l := [A]) b SL_25 [r.v] (bp1 e0) rfl rfl (mks1 (cs := [r.v]) rfl (mkS F0) mks0)) ?_
   intro f8 w b
   obtain ⟨f9, e1, d⟩ := bs d
   replace b := b.pk 7 [6, 0, 0, 0, 0, 0, 0] rfl
   refine YH wn rfl (rAp b SL_25 e0 e0 rO1 e1) ?_
   intro e2 w b
   refine yY (yFb FL_29_2 (eh y)) ?_
   replace b := b.pk 3 [2, 0, 0] rfl
   refine YT wn rfl (r_stb1 (vals' := [c.v, W.v, e2.v]) b O_25 e0 e0 rfl rfl rfl rfl) ?_
   intro w b
   refine wN (c5 _ _ _ (c4 _ _ (wR (Ym (iV g) (eh d6) (yY (yadd e0 rfl) (Ya (iV (wa .i64 g 1)) e0 (wN ?_)))))))
   obtain rfl := someI d
   exact b9 _ _ _ rfl ⟨_, _, _, _, _, _, rfl, rfl, d4, d5, y, rfl, ((b.pk 7 [5, 5, 3, 1, 0] rfl).facts (allT allI))⟩
  replace b := b.rowNh 3 I1
  refine loopQ (fun s a w => ∃ (G : LI) (t : Int) (f : FV) (B : Hdr), (G, t) = s ∧ a = fr 41 f ∧ f 1 = (pB o) ∧ f 2 = (pB j) ∧ f 3 = (pB k) ∧ f 4 = iV g ∧ f 5 = B.v ∧ f 6 = iV t ∧ St w0 ros (box o 27 [c.v] :: box j 29 [hnil.v, hnil.v, hnil.v] :: row 3 I1 m.v u :: row 22 S1 h.v x :: box k 29 [c.v, m.v, h.v] :: row 3 I1 B.v G :: rs) w) d2 ⟨_, _, _, _, rfl, rfl, S, T, U, V, rfl, rfl, (b.pk 6 [1, 1, 1, 1, 1, 0] rfl)⟩ ?_
  rintro _ _ w g0 ⟨G, t, f, B, rfl, rfl, H, X, Z, I, a0, a1, b⟩ i e3 g1 e4 e5
  refine seqQ fun g2 e6 e7 => sR fun _ e8 => Ym (iV t) (eh a1) (yY (yFb FL_27_0 (eh H)) (yY (lb_ c.v O_25 e0 b R0) (Ym (iV g) (eh I) ?_)))
  obtain ⟨g3, a2, i⟩ := bs i
  refine yY (yIa SL_25 e0 e0 b (rdI z) a2) ?_
  obtain ⟨g4, b⟩ := iLs b z a2
  refine yY (yCt O_22 e0 b F1 rfl) (yY (yLen SL_22 e0 b (rdI F0)) (yY (ylss e0 e0) (wK e8 ?_)))
  rcases iteS i with ⟨J, i⟩ | ⟨J, i⟩
  ·refine cT e0 J (wp_skip (e6 _ _ (sQ fun _ e9 => blockQ fun _ f0 => wR (Ym B.v (eh a0) (YH wn rfl (rLt (n := 1) (l := [1]) b SL_22 [iV 1] (bp1 rfl) rfl rfl (mks1 (cs := [iV 1]) rfl mkI mks0)) ?_)))))
   intro g5 w b
   obtain ⟨g6, f1, i⟩ := bs i
   replace b := b.pk 7 [6, 0, 0, 0, 0, 0, 0] rfl
   refine YH wn rfl (rAp b SL_22 e0 e0 rO1 f1) ?_
   intro f2 w b
   refine Ya f2.v e0 (wN (f0 _ _ _ (e9 _ _ (wR (Ym (iV t) (eh a1) (yY (yadd e0 rfl) (Ya (iV (wa .i64 t 1)) e0 (wN ?_))))))))
   obtain rfl := someI i
   exact e4 _ _ _ rfl ⟨_, _, _, _, rfl, rfl, H, X, Z, I, rfl, rfl, ((b.pk 7 [2, 2, 2, 2, 2, 0] rfl).facts (allT (allT allI)))⟩
  ·refine cF e0 J (wp_exit (e7 _ _ _ rfl ?_))
   obtain rfl := someI i
   exact e5 _ _ _ _ rfl rfl (d3 _ _ _ _ H X Z I a0 (b.facts (allT (allT allI))) (e3 _ rfl))
 ·refine cF e0 F (wp_exit (c2 _ _ _ rfl ?_))
  obtain rfl := someI d
  exact c0 _ _ _ _ rfl rfl (b2 _ _ _ _ _ _ T U (b.pk 5 [1, 1, 1, 1] rfl) (b8 _ rfl))
theorem dissect_weight_ok {j : L2} {k : LI} {l : L2} {d h : Int} {f i g : Hdr} {out : Int} (b : dissect_weight j k l d h = some out) (m : imm S1 f.v j ∈ ros) (z : imm I1 i.v k ∈ ros) (n : imm S1 g.v l ∈ ros) (a : St w0 ros rs w) :
  Calls Try.prog 43 #[.agg #[f.v, i.v, g.v], iV d, iV h] w (fun e w => e = .returned (iV out) ∧ St w0 ros rs w) := by
 refine enterQ Try.func43 rfl Try.ntmps43 rfl fun Q r => sR fun _ s => YB wn rfl (r_box (vals := [f.v, i.v, g.v]) a e0 rfl) ?_
 intro A w a
 refine Ya (iV 0) rfl (wK s (sR fun _ t => yY (yFb FL_29_0 e0) (yY (yFb FL_27_0 e0) (yY (lb_ f.v O_25 e0 a R0) (Ym (iV d) e0 ?_)))))
 obtain ⟨B, o, b⟩ := bs b
 refine yY (yIa SL_25 e0 e0 a (rdI m) o) ?_
 obtain ⟨C, a⟩ := iLs a m o
 refine yY (yCt O_22 e0 a F1 rfl) (Ym (iV h) e0 ?_)
 obtain ⟨c, u, b⟩ := bs b
 refine Yc wn rfl (yCall FN_64 (a2 e0 e0)) (slices_BinarySearch_int_ok u F0 a) ?_
 rintro _ w ⟨rfl, a⟩
 refine ⟨_, rfl, ?_⟩
 refine Ym (.tuple #[iV c.1, .bool c.2]) e0 (yY (x_ (iV c.1) e0) (yY (x_ (.bool c.2) e0) (Ya (iV c.1) e0 (Ya (.bool c.2) e0 (wK t (sR fun _ x => yY (yFb FL_29_2 e0) (yY (lb_ g.v O_25 e0 a R0) (Ym (iV d) e0 ?_))))))))
 obtain ⟨D, p, b⟩ := bs b
 refine yY (yIa SL_25 e0 e0 a (rdI (F_2 n)) p) ?_
 obtain ⟨E, a⟩ := iLs a (F_2 n) p
 refine yY (yCt O_22 e0 a F1 rfl) (Ym (iV c.1) e0 ?_)
 obtain ⟨y, q, b⟩ := bs b
 refine yY (yIa SL_22 e0 e0 a (rdI F0) q) (yY (yI O_3 e0 a (rdI F0) q) (Ya (iV y) e0 (wK x (wp_ret ?_))))
 obtain rfl := someI b
 exact r _ _ _ (fin1r Try.results43 ⟨rfl, rfl⟩ ⟨rfl, ((a.pk 1 [] rfl).facts (allT (allT (allT (allT allI)))))⟩)
theorem dissect_CheckWeighted_ok {g : L2} {A : LI} {B : L2} {c n h : Hdr} {out : Int} (d : dissect_CheckWeighted g A B = some out) (r : imm S1 c.v g ∈ ros) (N : imm I1 n.v A ∈ ros) (t : imm S1 h.v B ∈ ros) (b : St w0 ros rs w) :
  Calls Try.prog 23 #[.agg #[c.v, n.v, h.v]] w (fun e w => e = .returned (iV out) ∧ St w0 ros rs w) := by
 refine enterQ Try.func23 rfl Try.ntmps23 rfl fun Q C => sR fun _ e7 => YB wn rfl (r_box (vals := [c.v, n.v, h.v]) b e0 rfl) ?_
 intro k w b
 refine Ya (iV 0) rfl (wK e7 (sR fun _ e8 => yY (yFb FL_29_0 e0) (yY (lbs_ [c.v] ST_27 e0 b R0) ?_)))
 obtain ⟨G, e9, d⟩ := bs d
 refine Yc wn rfl (yCall FN_30 (a1 e0)) (graph_Check_ok e9 r b) ?_
 rintro _ w ⟨rfl, b⟩
 refine ⟨_, rfl, ?_⟩
 refine Ya (iV G) e0 (wK e8 (seqQ fun o0 f0 f1 => sR fun _ f2 => Ym (iV G) e0 (yY (yneq e0 rfl) (wK f2 ?_))))
 rcases iteS d with ⟨O, d⟩ | ⟨O, d⟩
 ·refine condF e0 (nF (dT O)) (wp_skip (f0 _ _ (sR fun _ f3 => yY (yFb FL_29_0 e0) (yY (yFb FL_27_0 e0) (yY (lb_ c.v O_25 e0 b R0) (yY (yLen SL_25 e0 b (rdI r)) (Ya (iV (g.length : Int)) e0 (wK f3 (seqQ fun o1 f4 f5 => sQ fun _ f6 => ?_)))))))))
  refine wR (yY (yFb FL_29_1 e0) (yY (lb_ n.v O_22 e0 b R0) (yY (yLen SL_22 e0 b (rdI N)) (Ym (iV (g.length : Int)) e0 (yY (yneq e0 e0) (Ym (.bool (!(decide ((A.length : Int) = (g.length : Int))))) e0 ?_))))))
  refine joinW 6 (fun f w => f 1 = (pB k) ∧ f 32 = .bool ((!(decide ((A.length : Int) = (g.length : Int)))) || (!(decide ((B.length : Int) = (g.length : Int))))) ∧ St w0 ros (box k 29 [c.v, n.v, h.v] :: rs) w) (fun a4 => ?_) ?_
  ·rcases Bool.eq_false_or_eq_true (!(decide ((A.length : Int) = (g.length : Int)))) with l | l
   ·exact gN l (gN l (gN l (gN l (gN l (yY (pt_ (.bool true) e0 l rfl) (a4 _ _ ⟨rfl, (congrArg Value.bool (orT l)), b⟩))))))
   ·exact yG l (yFb FL_29_2 e0) (yG l (lb_ h.v O_25 e0 b R0) (yG l (yLen SL_25 e0 b (rdI t)) (yG l (m_ (iV (g.length : Int)) e0) (yG l (yneq e0 e0) (yY (pf_ (.bool (!(decide ((B.length : Int) = (g.length : Int))))) e0 l e0) (a4 _ _ ⟨rfl, (congrArg Value.bool (orF l)), b⟩))))))
  rintro f w ⟨R, f7, b⟩
  refine Ym (.bool ((!(decide ((A.length : Int) = (g.length : Int)))) || (!(decide ((B.length : Int) = (g.length : Int)))))) (eh f7) ?_
  obtain ⟨f8, z, d⟩ := bs d
  refine joinW 5 (fun f w => f 1 = (pB k) ∧ f 38 = .bool f8 ∧ St w0 ros (box k 29 [c.v, n.v, h.v] :: rs) w) (fun a5 => ?_) ?_
  ·rcases iteS z with ⟨p, z⟩ | ⟨p, z⟩
   ·refine gN p (gN p (gN p (gN p (yY (pt_ (.bool true) e0 p rfl) ?_))))
    obtain rfl := someI z
    exact a5 _ _ ⟨R, rfl, b⟩
   ·refine yG (bfalse p) (yFb FL_29_1 (eh R)) (yG (bfalse p) (lb_ n.v O_22 e0 b R0) ?_)
    obtain ⟨f9, g0, z⟩ := bs z
    refine Yc (wG (bfalse p)) rfl (yCall FN_42 (a1 e0)) (dissect_weights_ok g0 N b) ?_
    rintro _ w ⟨rfl, b⟩
    refine ⟨_, rfl, ?_⟩
    refine yG (bfalse p) (ynot e0) (yY (pf_ (.bool (!f9)) e0 (bfalse p) e0) ?_)
    obtain rfl := someI z
    exact a5 _ _ ⟨R, rfl, b⟩
  rintro f w ⟨a6, a7, b⟩
  refine wK f6 ?_
  rcases iteS d with ⟨S, d⟩ | ⟨S, d⟩
  ·refine condT (eh a7) S (sR fun _ g1 => Ya (iV 1) rfl (wK g1 (wp_ret (f5 _ _ _ rfl ?_))))
   obtain rfl := someI d
   exact C _ _ _ (fin1r Try.results23 ⟨rfl, rfl⟩ ⟨rfl, (b.pk 1 [] rfl)⟩)
  ·refine condF (eh a7) (bfalse S) (wp_skip (f4 _ _ (seqQ fun o2 g2 g3 => sR fun _ g4 => yY (yFb FL_29_0 (eh a6)) (yY (yFb FL_27_0 e0) (yY (lb_ c.v O_25 e0 b R0) (yY (yLen SL_25 e0 b (rdI r)) (Ym (iV 0) rfl (wK g4 (blockQ fun a8 a9 => ?_)))))))))
   obtain ⟨b0, g5, d⟩ := bs d
   have g6 : ∀ (f : FV) (w : World), f 1 = (pB k) → St w0 ros (box k 29 [c.v, n.v, h.v] :: rs) w → .inl () = b0 → a8 (.exit 0) (fr 98 f) w := by
    intro f w b1 b ho
    subst ho
    refine a9 _ _ _ (g2 _ _ (seqQ fun o3 g7 g8 => sR fun _ g9 => yY (yFb FL_29_0 (eh b1)) (yY (yFb FL_27_0 e0) (yY (lb_ c.v O_25 e0 b R0) (yY (yLen SL_25 e0 b (rdI r)) (Ym (iV 0) rfl (wK g9 (blockQ fun b2 b3 => ?_))))))))
    obtain ⟨b4, h0, d⟩ := bs d
    have h1 : ∀ (f : FV) (w : World), St w0 ros rs w → .inl () = b4 → b2 (.exit 2) (fr 98 f) w := by
     intro f w b ho
     subst ho
     refine b3 _ _ _ (g7 _ _ (sR fun _ h3 => Ya (iV 0) rfl (wK h3 (wp_ret ?_))))
     obtain rfl := someI d
     exact C _ _ _ (fin1r Try.results23 ⟨rfl, rfl⟩ ⟨rfl, b⟩)
    have h5 : ∀ (f : FV) (w : World), f 2 = iV 1 → St w0 ros rs w → .inr () = b4 → b2 .ret (fr 98 f) w := by
     intro f w h7 b ho
     subst ho
     refine b3 _ _ _ (g8 _ _ _ rfl ?_)
     obtain rfl := someI d
     exact C _ _ _ (fin1r Try.results23 ⟨rfl, h7⟩ ⟨rfl, b⟩)
    refine loopQ (fun s a w => ∃ (o : Int) (f : FV), o = s ∧ a = fr 98 f ∧ f 1 = (pB k) ∧ f 69 = c.v ∧ f 70 = iV (g.length : Int) ∧ f 71 = iV o ∧ St w0 ros (box k 29 [c.v, n.v, h.v] :: rs) w) h0 ⟨_, _, rfl, rfl, b1, rfl, rfl, rfl, b⟩ ?_
    rintro _ _ w o4 ⟨o, f, rfl, rfl, h8, b5, b6, H, b⟩ q b8 o6 h9 b9
    refine sR fun _ i0 => yY (ylss (eh H) (eh b6)) (wK i0 (seqQ fun o7 i1 i2 => ?_))
    rcases iteS q with ⟨T, q⟩ | ⟨T, q⟩
    ·refine cT e0 T (wp_skip (i1 _ _ (seqQ fun p0 i3 i4 => blockQ fun _ c0 => sR fun _ i5 => Ym (iV o) (eh H) ?_)))
     obtain ⟨c1, c2, q⟩ := bs q
     refine yY (yIa SL_25 (eh b5) (eh H) b (rdI r) c2) ?_
     obtain ⟨I, b⟩ := iLs b r c2
     refine yY (yCt O_22 e0 b F1 rfl) (Ya (iV o) e0 (Ya I.v e0 (wK i5 (sR fun _ i6 => Ym I.v e0 (yY (yLen SL_22 e0 b (rdI F0)) (Ym (iV 0) rfl (wK i6 (blockQ fun c3 c4 => ?_))))))))
     obtain ⟨c5, i7, q⟩ := bs q
     have i8 : ∀ (f : FV) (w : World), f 1 = (pB k) → f 69 = c.v → f 70 = iV (g.length : Int) → f 71 = iV o → St w0 ros (box k 29 [c.v, n.v, h.v] :: rs) w → .inl () = c5 → c3 (.exit 4) (fr 98 f) w := by
      intro f w i9 j0 j3 j4 b ho
      subst ho
      refine c4 _ _ _ (c0 _ _ _ (i3 _ _ (wR (yY (yadd (eh j4) rfl) (Ym (iV (wa .i64 o 1)) e0 (wN ?_))))))
      obtain rfl := someI q
      exact h9 _ _ _ rfl ⟨_, _, rfl, rfl, i9, j0, j3, rfl, b⟩
     have j5 : ∀ (f : FV) (w : World), f 2 = iV 1 → St w0 ros rs w → .inr () = c5 → c3 .ret (fr 98 f) w := by
      intro f w j6 b ho
      subst ho
      refine c4 _ _ _ (c0 _ _ _ (i4 _ _ _ rfl ?_))
      obtain rfl := someI q
      exact b9 _ _ _ _ rfl rfl (h5 _ _ j6 b (b8 _ rfl))
     refine loopQ (fun s a w => ∃ (y : Int) (f : FV), y = s ∧ a = fr 98 f ∧ f 1 = (pB k) ∧ f 7 = iV o ∧ f 69 = c.v ∧ f 70 = iV (g.length : Int) ∧ f 71 = iV o ∧ f 76 = I.v ∧ f 77 = iV (c1.length : Int) ∧ f 78 = iV y ∧ St w0 (imm I1 I.v c1 :: ros) (box k 29 [c.v, n.v, h.v] :: rs) w) i7 ⟨_, _, rfl, rfl, h8, rfl, b5, b6, H, rfl, rfl, rfl, (b.facts (allC F0 (allT (allT allI))))⟩ ?_
     rintro _ _ w p1 ⟨y, f, rfl, rfl, D, J, c6, c7, c8, d0, d1, K, b⟩ i d2 p2 j7 d3
     refine sR fun _ j8 => yY (ylss (eh K) (eh d1)) (wK j8 (seqQ fun p3 j9 k0 => ?_))
     rcases iteS i with ⟨U, i⟩ | ⟨U, i⟩
     ·refine cT e0 U (wp_skip (j9 _ _ (seqQ fun p4 l0 l1 => blockQ fun _ d4 => sR fun _ l2 => Ym (iV y) (eh K) ?_)))
      obtain ⟨d5, d6, i⟩ := bs i
      refine yY (yIa SL_22 (eh d0) (eh K) b (rdI F0) d6) (yY (yI O_3 e0 b (rdI F0) d6) (Ya (iV y) e0 (Ya (iV d5) e0 (wK l2 (sQ fun _ l3 => ?_)))))
      obtain ⟨p5, V, i⟩ := bs i
      obtain ⟨p6, L, i⟩ := bs i
      obtain ⟨p7, l4, i⟩ := bs i
      refine dR [0, 1, 0, 7, 15, 0, 63, 127, 0, 0, 0, 1792, 4095] [11] 1 folM ?_
      replace b := b.drew
      refine Dn [0, 1, 2, 3, 4, 5, 6, 7, 8, 9, 10] [] [11] (yR rfl (yFb FL_29_2 (eh D)) (yR rfl (lb_ h.v O_25 e0 b R0) (yR rfl (m_ (iV o) (eh J)) (yR rfl (yIa SL_25 e0 e0 b (rdI (mtF t)) V) ?_))))
      obtain ⟨p8, b⟩ := iLs b (mtF t) V
      refine yR rfl (yCt O_22 e0 b F1 rfl) (yR rfl (m_ (iV y) e0) (yR rfl (yIa SL_22 e0 e0 b (rdI F0) L) (yR rfl (yI O_3 e0 b (rdI F0) L) (yR rfl (lbs_ [c.v, n.v, h.v] ST_29 (eh D) b R0) (yR rfl (m_ (iV d5) e0) (yR rfl (m_ (iV o) (eh J)) (Rn QSn ?_)))))))
      refine Lc1 rfl ?_
      refine Lk wn (yCall FN_43 (a3 e0 e0 e0)) (dissect_weight_ok l4 (F_3 r) (F_3 N) (F_3 t) b) ?_
      rintro _ w ⟨rfl, b⟩
      refine ⟨_, rfl, ?_⟩
      refine Dz [12] [0, 1, 2, 3, 4, 5, 6, 7] (yR rfl (yneq e0 e0) (Rn (yS rfl (yFb FL_29_2 (eh D)) (yS rfl (lb_ h.v O_25 e0 b R0) (yS rfl (m_ (iV o) (eh J)) (yS rfl (yIa SL_25 e0 e0 b (rdI (F_3 t)) V) (yS rfl (yCt O_22 e0 b F1 rfl) (yS rfl (m_ (iV y) e0) (yS rfl (yIa SL_22 e0 e0 b (rdI F0) L) (yS rfl (yI O_3 e0 b (rdI F0) L) QSn)))))))) (l3 _ _ ?_)))
      rcases iteS i with ⟨W, i⟩ | ⟨W, i⟩
      ·refine condF e0 (nF (dT W)) (wp_skip (d4 _ _ _ (l0 _ _ (wR (yY (yadd (eh K) rfl) (Ym (iV (wa .i64 y 1)) e0 (wN ?_)))))))
       obtain rfl := someI i
       exact j7 _ _ _ rfl ⟨_, _, rfl, rfl, D, J, c6, c7, c8, d0, d1, rfl, (b.facts (allC F2 (allT (allT (allT allI)))))⟩
      ·refine condT e0 (nT (dF W)) (sR fun _ l5 => Ya (iV 1) rfl (wK l5 (wp_ret (d4 _ _ _ (l1 _ _ _ rfl ?_)))))
       obtain rfl := someI i
       exact d3 _ _ _ _ rfl rfl (j5 _ _ rfl ((b.pk 1 [] rfl).facts (allT (allT (allT allI)))) (d2 _ rfl))
     ·refine cF e0 U (wp_exit (k0 _ _ _ rfl ?_))
      obtain rfl := someI i
      exact d3 _ _ _ _ rfl rfl (i8 _ _ D c6 c7 c8 (b.facts (allT allI)) (d2 _ rfl))
    ·refine cF e0 T (wp_exit (i2 _ _ _ rfl ?_))
     obtain rfl := someI q
     exact b9 _ _ _ _ rfl rfl (h1 _ _ (b.pk 1 [] rfl) (b8 _ rfl))
   have l6 : ∀ (f : FV) (w : World), f 2 = iV 1 → St w0 ros rs w → .inr () = b0 → a8 .ret (fr 98 f) w := by
    intro f w l7 b ho
    subst ho
    refine a9 _ _ _ (g3 _ _ _ rfl ?_)
    obtain rfl := someI d
    exact C _ _ _ (fin1r Try.results23 ⟨rfl, l7⟩ ⟨rfl, b⟩)
   refine loopQ (fun s a w => ∃ (u : Int) (f : FV), u = s ∧ a = fr 98 f ∧ f 1 = (pB k) ∧ f 41 = c.v ∧ f 42 = iV (g.length : Int) ∧ f 43 = iV u ∧ St w0 ros (box k 29 [c.v, n.v, h.v] :: rs) w) g5 ⟨_, _, rfl, rfl, a6, rfl, rfl, rfl, b⟩ ?_
   rintro _ _ w p9 ⟨u, f, rfl, rfl, E, X, Z, F, b⟩ m d7 q0 l8 d8
   refine sR fun _ l9 => yY (ylss (eh F) (eh Z)) (wK l9 (seqQ fun q4 m0 m1 => ?_))
   rcases iteS m with ⟨a0, m⟩ | ⟨a0, m⟩
   ·refine cT e0 a0 (wp_skip (m0 _ _ (seqQ fun q5 m2 m3 => blockQ fun _ d9 => sR fun _ m4 => Ym (iV u) (eh F) ?_)))
    obtain ⟨m5, e1, m⟩ := bs m
    refine yY (yIa SL_25 (eh X) (eh F) b (rdI r) e1) ?_
    obtain ⟨e2, b⟩ := iLs b r e1
    refine yY (yCt O_22 e0 b F1 rfl) (Ya (iV u) e0 (Ya e2.v e0 (wK m4 (sR fun _ m6 => yY (yFb FL_29_2 (eh E)) (yY (lb_ h.v O_25 e0 b R0) (Ym (iV u) e0 ?_))))))
    obtain ⟨m7, e3, m⟩ := bs m
    refine yY (yIa SL_25 e0 e0 b (rdI (F_2 t)) e3) ?_
    obtain ⟨q6, b⟩ := iLs b (F_2 t) e3
    refine yY (yCt O_22 e0 b F1 rfl) (yY (yLen SL_22 e0 b (rdI F0)) (Ym e2.v e0 (yY (yLen SL_22 e0 b (rdI F2)) (yY (yneq e0 e0) (Ym (.bool (!(decide ((m7.length : Int) = (m5.length : Int))))) e0 ?_)))))
    obtain ⟨m8, x, m⟩ := bs m
    refine joinW 8 (fun f w => f 1 = (pB k) ∧ f 41 = c.v ∧ f 42 = iV (g.length : Int) ∧ f 43 = iV u ∧ f 65 = .bool m8 ∧ St w0 ros (box k 29 [c.v, n.v, h.v] :: rs) w) (fun e4 => ?_) ?_
    ·rcases iteS x with ⟨j, x⟩ | ⟨j, x⟩
     ·refine yG (nF (dT j)) (yFb FL_29_2 (eh E)) (yG (nF (dT j)) (lb_ h.v O_25 e0 b R0) (yG (nF (dT j)) (m_ (iV u) e0) ?_))
      obtain ⟨q7, e5, x⟩ := bs x
      refine yG (nF (dT j)) (yIa SL_25 e0 e0 b (rdI (F_4 t)) e5) ?_
      obtain ⟨q8, b⟩ := iLs b (F_4 t) e5
      refine yG (nF (dT j)) (yCt O_22 e0 b F1 rfl) ?_
      obtain ⟨m9, n0, x⟩ := bs x
      refine Yc (wG (nF (dT j))) rfl (yCall FN_42 (a1 e0)) (dissect_weights_ok n0 F0 b) ?_
      rintro _ w ⟨rfl, b⟩
      refine ⟨_, rfl, ?_⟩
      refine yG (nF (dT j)) (ynot e0) (yY (pf_ (.bool (!m9)) e0 (nF (dT j)) e0) ?_)
      obtain rfl := someI x
      exact e4 _ _ ⟨E, X, Z, F, rfl, (b.facts (allT (allT (allT (allT (allT (allT allI)))))))⟩
     ·refine gN (nT (dF j)) (gN (nT (dF j)) (gN (nT (dF j)) (gN (nT (dF j)) (gN (nT (dF j)) (gN (nT (dF j)) (gN (nT (dF j)) (yY (pt_ (.bool true) e0 (nT (dF j)) rfl) ?_)))))))
      obtain rfl := someI x
      exact e4 _ _ ⟨E, X, Z, F, rfl, (b.facts (allT (allT (allT (allT allI)))))⟩
    rintro f w ⟨n1, n2, n3, n4, e6, b⟩
    refine wK m6 ?_
    rcases iteS m with ⟨a2, m⟩ | ⟨a2, m⟩
    ·refine condT (eh e6) a2 (sR fun _ n6 => Ya (iV 1) rfl (wK n6 (wp_ret (d9 _ _ _ (m3 _ _ _ rfl ?_)))))
     obtain rfl := someI m
     exact d8 _ _ _ _ rfl rfl (l6 _ _ rfl (b.pk 1 [] rfl) (d7 _ rfl))
    ·refine condF (eh e6) (bfalse a2) (wp_skip (d9 _ _ _ (m2 _ _ (wR (yY (yadd (eh n4) rfl) (Ym (iV (wa .i64 u 1)) e0 (wN ?_)))))))
     obtain rfl := someI m
     exact l8 _ _ _ rfl ⟨_, _, rfl, rfl, n1, n2, n3, rfl, b⟩
   ·refine cF e0 a0 (wp_exit (m1 _ _ _ rfl ?_))
    obtain rfl := someI m
    exact d8 _ _ _ _ rfl rfl (g6 _ _ E b (d7 _ rfl))
 ·refine condT e0 (nT (dF O)) (sR fun _ n7 => Ym (iV G) e0 (Ya (iV G) e0 (wK n7 (wp_ret (f1 _ _ _ rfl ?_)))))
  obtain rfl := someI d
  exact C _ _ _ (fin1r Try.results23 ⟨rfl, rfl⟩ ⟨rfl, (b.pk 1 [] rfl)⟩)
theorem dissect_Bisect_ok {m : L2} {n : LI} {o : L2} {c d f : Hdr} {out : LI × Int} (b : dissect_Bisect m n o = some out) (p : imm S1 c.v m ∈ ros) (q : imm I1 d.v n ∈ ros) (r : imm S1 f.v o ∈ ros) (a : St w0 ros rs w) :
  Calls Try.prog 14 #[.agg #[c.v, d.v, f.v]] w (fun e w => ∃ (s : Hdr), e = .returned (.tuple #[s.v, iV out.2]) ∧ St w0 ros (row 3 I1 s.v out.1 :: rs) w) := by
 refine enterQ Try.func14 rfl Try.ntmps14 rfl fun Q j => sR fun _ t => YB wn rfl (r_box (vals := [c.v, d.v, f.v]) a e0 rfl) ?_
 intro J w a
 refine Ya hnil.v rfl (Ya (iV 0) rfl (wK t (sR fun _ u => yY (lbs_ [c.v, d.v, f.v] ST_29 e0 a R0) ?_)))
 obtain ⟨h, x, b⟩ := bs b
 refine Yc wn rfl (yCall FN_23 (a1 e0)) (dissect_CheckWeighted_ok x p q r a) ?_
 rintro _ w ⟨rfl, a⟩
 refine ⟨_, rfl, ?_⟩
 refine Ya (iV h) e0 (wK u (seqQ fun K y z => sR fun _ A => Ym (iV h) e0 (yY (yneq e0 rfl) (wK A ?_))))
 rcases iteS b with ⟨k, b⟩ | ⟨k, b⟩
 ·refine condF e0 (nF (dT k)) (wp_skip (y _ _ (sR fun _ B => yY (lbs_ [c.v, d.v, f.v] ST_29 e0 a R0) ?_)))
  obtain ⟨i, C, b⟩ := bs b
  refine Yc wn rfl (yCall FN_32 (a1 e0)) (dissect_bisect_ok C p q r a) ?_
  rintro _ w ⟨g, rfl, a⟩
  refine ⟨_, rfl, ?_⟩
  refine Ym (.tuple #[g.v, .bool i.2]) e0 (yY (x_ g.v e0) (yY (x_ (.bool i.2) e0) (Ya g.v e0 (Ya (.bool i.2) e0 (wK B (seqQ fun L D E => sR fun _ F => Ym (.bool i.2) e0 (yY (ynot e0) (wK F ?_))))))))
  rcases iteS b with ⟨l, b⟩ | ⟨l, b⟩
  ·refine condF e0 (nF l) (wp_skip (D _ _ (sR fun _ G => Ym g.v e0 (Ya g.v e0 (Ya (iV 0) rfl (wK G (wp_ret ?_)))))))
   obtain rfl := someI b
   exact j _ _ _ (fin2r Try.results14 ⟨rfl, rfl⟩ ⟨rfl, rfl⟩ ⟨_, rfl, (a.pk 2 [0] rfl)⟩)
  ·refine condT e0 (nT (bfalse l)) (sR fun _ H => Ya hnil.v rfl (Ya (iV 3) rfl (wK H (wp_ret (E _ _ _ rfl ?_)))))
   obtain rfl := someI b
   replace a := a.rowNh 3 I1
   exact j _ _ _ (fin2r Try.results14 ⟨rfl, rfl⟩ ⟨rfl, rfl⟩ ⟨_, rfl, (a.pk 3 [0] rfl)⟩)
 ·refine condT e0 (nT (dF k)) (sR fun _ I => Ym (iV h) e0 (Ya hnil.v rfl (Ya (iV h) e0 (wK I (wp_ret (z _ _ _ rfl ?_))))))
  obtain rfl := someI b
  replace a := a.rowNh 3 I1
  exact j _ _ _ (fin2r Try.results14 ⟨rfl, rfl⟩ ⟨rfl, rfl⟩ ⟨_, rfl, (a.pk 2 [0] rfl)⟩)
theorem sparsekit_TwinInts_ok {u : LI} {g : Hdr} {out : LI} (j : sparsekit_TwinInts u = some out) (k : imm I1 g.v u ∈ ros) (b : St w0 ros rs w) :
  Calls Try.prog 17 #[g.v] w (fun e w => ∃ (x : Hdr), e = .returned (x.v) ∧ St w0 ros (row 3 I1 x.v out :: rs) w) := by
 refine enterQ Try.func17 rfl Try.ntmps17 rfl fun Q A => sR fun _ B => Ya hnil.v rfl (wK B (sR fun _ C => Ya hnil.v rfl (wK C (sQ fun _ D => sR fun _ E => ?_))))
 refine Ya (iV 0) rfl (wK E (blockQ fun F G => ?_))
 obtain ⟨H, I, j⟩ := bs j
 have J : ∀ (m : LI) (h : Hdr) (f : FV) (w : World), f 3 = h.v → St w0 ros (row 3 I1 h.v m :: rs) w → m = H → F (.exit 0) (fr 19 f) w := by
  intro m h f w K b ho
  subst ho
  refine G _ _ _ (D _ _ (sR fun _ L => Ym h.v (eh K) (Ya h.v e0 (wK L (wp_ret ?_)))))
  obtain rfl := someI j
  exact A _ _ _ (fin1r Try.results17 ⟨rfl, rfl⟩ ⟨_, rfl, b⟩)
 replace b := b.rowNh 3 I1
 refine loopQ (fun s a w => ∃ (o : LI) (d : Int) (f : FV) (i : Hdr), (o, d) = s ∧ a = fr 19 f ∧ f 0 = g.v ∧ f 3 = i.v ∧ f 4 = iV d ∧ St w0 ros (row 3 I1 i.v o :: rs) w) I ⟨_, _, _, _, rfl, rfl, rfl, rfl, rfl, b⟩ ?_
 rintro _ _ w a0 ⟨o, d, f, i, rfl, rfl, p, y, q, b⟩ c N a1 O R
 refine seqQ fun a2 S T => sR fun _ U => Ym (iV d) (eh q) (Ym g.v (eh p) (yY (yLen SL_22 e0 b (rdI k)) (yY (ylss e0 e0) (wK U ?_))))
 rcases iteS c with ⟨r, c⟩ | ⟨r, c⟩
 ·refine cT e0 r (wp_skip (S _ _ (sQ fun _ V => blockQ fun _ W => wR (Ym i.v (eh y) (Ym g.v (eh p) (Ym (iV d) (eh q) ?_))))))
  obtain ⟨t, z, c⟩ := bs c
  refine yY (yIa SL_22 e0 e0 b (rdI k) z) (yY (yI O_3 e0 b (rdI k) z) (YH wn rfl (rLt (n := 1) (l := [t]) b SL_22 [iV t] (bp1 e0) rfl rfl (mks1 (cs := [iV t]) rfl mkI mks0)) ?_))
  intro a3 w b
  obtain ⟨a4, X, c⟩ := bs c
  replace b := b.pk 2 [1, 0] rfl
  refine YH wn rfl (rAp b SL_22 e0 e0 rO1 X) ?_
  intro Z w b
  refine Ya Z.v e0 (wN (W _ _ _ (V _ _ (wR (Ym (iV d) (eh q) (yY (yadd e0 rfl) (Ya (iV (wa .i64 d 1)) e0 (wN ?_))))))))
  obtain rfl := someI c
  exact O _ _ _ rfl ⟨_, _, _, _, rfl, rfl, p, rfl, rfl, (b.pk 2 [0] rfl)⟩
 ·refine cF e0 r (wp_exit (T _ _ _ rfl ?_))
  obtain rfl := someI c
  exact R _ _ _ _ rfl rfl (J _ _ _ _ y b (N _ rfl))
theorem sparsekit_Perm_ok {D : LI} {i : Int} {j : Hdr} {out : Bool} (k : sparsekit_Perm D i = some out) (l : imm I1 j.v D ∈ ros) (b : St w0 ros rs w) :
  Calls Try.prog 16 #[j.v, iV i] w (fun e w => e = .returned (.bool out) ∧ St w0 ros rs w) := by
 refine enterQ Try.func16 rfl Try.ntmps16 rfl fun Q u => sR fun _ a3 => Ya (.bool false) rfl (wK a3 (seqQ fun d5 a4 a5 => sR fun _ a6 => Ym j.v e0 (yY (yLen SL_22 e0 b (rdI l)) (Ym (iV i) e0 (yY (yneq e0 e0) (wN ?_))))))
 refine a6 _ _ ?_
 rcases iteS k with ⟨x, k⟩ | ⟨x, k⟩
 ·refine condF e0 (nF (dT x)) (wp_skip (a4 _ _ (sR fun _ a7 => Ym (iV i) e0 ?_)))
  obtain ⟨d6, a8, k⟩ := bs k
  refine YH wn rfl (rMk b SL_67 e0 a8) ?_
  intro m w b
  refine Ya m.v e0 (wK a7 (seqQ fun d7 a9 b0 => sR fun _ b1 => Ya (iV 0) rfl (wK b1 (blockQ fun E F => ?_))))
  obtain ⟨G, b2, k⟩ := bs k
  have b3 : ∀ (f : FV) (w : World), St w0 ros rs w → .inl () = G → E (.exit 0) (fr 46 f) w := by
   intro f w b ho
   subst ho
   refine F _ _ _ (a9 _ _ (sR fun _ b4 => Ya (.bool true) rfl (wK b4 (wp_ret ?_))))
   obtain rfl := someI k
   exact u _ _ _ (fin1r Try.results16 ⟨rfl, rfl⟩ ⟨rfl, b⟩)
  have b5 : ∀ (f : FV) (w : World), f 4 = .bool false → St w0 ros rs w → .inr () = G → E .ret (fr 46 f) w := by
   intro f w b6 b ho
   subst ho
   refine F _ _ _ (b0 _ _ _ rfl ?_)
   obtain rfl := someI k
   exact u _ _ _ (fin1r Try.results16 ⟨rfl, b6⟩ ⟨rfl, b⟩)
  refine loopQ (fun s a w => ∃ (p : List Bool) (h : Int) (f : FV), (p, h) = s ∧ a = fr 46 f ∧ f 0 = j.v ∧ f 1 = iV i ∧ f 5 = m.v ∧ f 6 = iV h ∧ St w0 ros (row 4 rB m.v p :: rs) w) b2 ⟨_, _, _, rfl, rfl, rfl, rfl, rfl, rfl, b⟩ ?_
  rintro _ _ w d8 ⟨p, h, f, rfl, rfl, r, t, H, q, b⟩ c I d9 b7 J
  refine seqQ fun e1 b8 b9 => sR fun _ c0 => Ym (iV h) (eh q) (Ym (iV i) (eh t) (yY (ylss e0 e0) (wK c0 ?_)))
  rcases iteS c with ⟨y, c⟩ | ⟨y, c⟩
  ·refine cT e0 y (wp_skip (b8 _ _ (seqQ fun e2 c1 c2 => blockQ fun _ K => seqQ fun e3 c3 c5 => sR fun _ c6 => Ym j.v (eh r) (Ym (iV h) (eh q) ?_))))
   obtain ⟨c7, L, c⟩ := bs c
   refine yY (yIa SL_22 e0 e0 b (rdI l) L) (yY (yI O_3 e0 b (rdI l) L) (yY (ylss e0 rfl) (Ym (.bool (decide (c7 < 0))) e0 ?_)))
   obtain ⟨N, o, c⟩ := bs c
   refine joinW 7 (fun f w => f 0 = j.v ∧ f 1 = iV i ∧ f 5 = m.v ∧ f 6 = iV h ∧ f 30 = .bool N ∧ St w0 ros (row 4 rB m.v p :: rs) w) (fun O => ?_) ?_
   ·rcases iteS o with ⟨g, o⟩ | ⟨g, o⟩
    ·refine gN (dT g) (gN (dT g) (gN (dT g) (gN (dT g) (gN (dT g) (gN (dT g) (yY (pt_ (.bool true) e0 (dT g) rfl) ?_))))))
     obtain rfl := someI o
     exact O _ _ ⟨r, t, H, q, rfl, b⟩
    ·refine yG (dF g) (m_ j.v (eh r)) (yG (dF g) (m_ (iV h) (eh q)) ?_)
     obtain ⟨c8, R, o⟩ := bs o
     refine yG (dF g) (yIa SL_22 e0 e0 b (rdI l) R) (yG (dF g) (yI O_3 e0 b (rdI l) R) (yG (dF g) (m_ (iV i) (eh t)) (yG (dF g) (ygeq e0 e0) (yY (pf_ (.bool (decide (i ≤ c8))) e0 (dF g) e0) ?_))))
     obtain rfl := someI o
     exact O _ _ ⟨r, t, H, q, rfl, b⟩
   rintro f w ⟨z, S, A, B, c9, b⟩
   refine Ym (.bool N) (eh c9) ?_
   obtain ⟨d0, n, c⟩ := bs c
   refine joinW 8 (fun f w => f 0 = j.v ∧ f 1 = iV i ∧ f 5 = m.v ∧ f 6 = iV h ∧ f 39 = .bool d0 ∧ St w0 ros (row 4 rB m.v p :: rs) w) (fun T => ?_) ?_
   ·rcases iteS n with ⟨d, n⟩ | ⟨d, n⟩
    ·refine gN d (gN d (gN d (gN d (gN d (gN d (gN d (yY (pt_ (.bool true) e0 d rfl) ?_)))))))
     obtain rfl := someI n
     exact T _ _ ⟨z, S, A, B, rfl, b⟩
    ·refine yG (bfalse d) (m_ m.v (eh A)) (yG (bfalse d) (m_ j.v (eh z)) (yG (bfalse d) (m_ (iV h) (eh B)) ?_))
     obtain ⟨e4, U, n⟩ := bs n
     refine yG (bfalse d) (yIa SL_22 e0 e0 b (rdI l) U) (yG (bfalse d) (yI O_3 e0 b (rdI l) U) ?_)
     obtain ⟨d1, V, n⟩ := bs n
     refine yG (bfalse d) (yIa SL_67 e0 e0 b rO0 V) (yG (bfalse d) (yB O_4 e0 b rO0 V) (yY (pf_ (.bool d1) e0 (bfalse d) e0) ?_))
     obtain rfl := someI n
     exact T _ _ ⟨z, S, A, B, rfl, b⟩
   rintro f w ⟨W, d2, X, Z, a0, b⟩
   refine wK c6 ?_
   rcases iteS c with ⟨C, c⟩ | ⟨C, c⟩
   ·refine condT (eh a0) C (sR fun _ d3 => Ya (.bool false) rfl (wK d3 (wp_ret (c5 _ _ _ rfl (K _ _ _ (c2 _ _ _ rfl ?_))))))
    obtain rfl := someI c
    exact J _ _ _ _ rfl rfl (b5 _ _ rfl (b.pk 1 [] rfl) (I _ rfl))
   ·refine condF (eh a0) (bfalse C) (wp_skip (c3 _ _ (wR (Ym m.v (eh X) (Ym j.v (eh W) (Ym (iV h) (eh Z) ?_))))))
    obtain ⟨e5, a1, c⟩ := bs c
    refine yY (yIa SL_22 e0 e0 b (rdI l) a1) (yY (yI O_3 e0 b (rdI l) a1) ?_)
    obtain ⟨e6, a2, c⟩ := bs c
    refine yY (yIs SL_67 e0 e0 b rO0 a2) (YT wn rfl (r_sti (cs := [.bool true]) b O_4 rfl e0 rfl rfl mkB a2) ?_)
    intro w b
    refine wN (K _ _ _ (c1 _ _ (wR (Ym (iV h) (eh Z) (yY (yadd e0 rfl) (Ya (iV (wa .i64 h 1)) e0 (wN ?_)))))))
    obtain rfl := someI c
    exact b7 _ _ _ rfl ⟨_, _, _, rfl, rfl, W, d2, X, rfl, b⟩
  ·refine cF e0 y (wp_exit (b9 _ _ _ rfl ?_))
   obtain rfl := someI c
   exact J _ _ _ _ rfl rfl (b3 _ _ (b.pk 1 [] rfl) (I _ rfl))
 ·refine condT e0 (nT (dF x)) (sR fun _ d4 => Ya (.bool false) rfl (wK d4 (wp_ret (a5 _ _ _ rfl ?_))))
  obtain rfl := someI k
  exact u _ _ _ (fin1r Try.results16 ⟨rfl, rfl⟩ ⟨rfl, b⟩)
theorem sparsekit_In_ok {o : LI} {h : Int} {g : Hdr} {out : Bool} (i : sparsekit_In o h = some out) (j : imm I1 g.v o ∈ ros) (b : St w0 ros rs w) :
  Calls Try.prog 11 #[g.v, iV h] w (fun e w => e = .returned (.bool out) ∧ St w0 ros rs w) := by
 refine enterQ Try.func11 rfl Try.ntmps11 rfl fun Q p => sR fun _ B => Ya (.bool false) rfl (wK B (seqQ fun V C D => sR fun _ E => Ya (iV 0) rfl (wK E (blockQ fun q r => ?_))))
 obtain ⟨t, F, i⟩ := bs i
 have G : ∀ (f : FV) (w : World), St w0 ros rs w → .inl () = t → q (.exit 0) (fr 18 f) w := by
  intro f w b ho
  subst ho
  refine r _ _ _ (C _ _ (sR fun _ H => Ya (.bool false) rfl (wK H (wp_ret ?_))))
  obtain rfl := someI i
  exact p _ _ _ (fin1r Try.results11 ⟨rfl, rfl⟩ ⟨rfl, b⟩)
 have I : ∀ (f : FV) (w : World), f 4 = .bool true → St w0 ros rs w → .inr () = t → q .ret (fr 18 f) w := by
  intro f w J b ho
  subst ho
  refine r _ _ _ (D _ _ _ rfl ?_)
  obtain rfl := someI i
  exact p _ _ _ (fin1r Try.results11 ⟨rfl, J⟩ ⟨rfl, b⟩)
 refine loopQ (fun s a w => ∃ (d : Int) (f : FV), d = s ∧ a = fr 18 f ∧ f 0 = g.v ∧ f 1 = iV h ∧ f 5 = iV d ∧ St w0 ros rs w) F ⟨_, _, rfl, rfl, rfl, rfl, rfl, b⟩ ?_
 rintro _ _ w W ⟨d, f, rfl, rfl, k, u, l, b⟩ c x X K y
 refine seqQ fun Z L N => sR fun _ O => Ym (iV d) (eh l) (Ym g.v (eh k) (yY (yLen SL_22 e0 b (rdI j)) (yY (ylss e0 e0) (wK O ?_))))
 rcases iteS c with ⟨m, c⟩ | ⟨m, c⟩
 ·refine cT e0 m (wp_skip (L _ _ (seqQ fun a0 R S => blockQ fun _ z => sR fun _ T => Ym g.v (eh k) (Ym (iV d) (eh l) ?_))))
  obtain ⟨a1, A, c⟩ := bs c
  refine yY (yIa SL_22 e0 e0 b (rdI j) A) (yY (yI O_3 e0 b (rdI j) A) (Ym (iV h) (eh u) (yY (yeql e0 e0) (wK T ?_))))
  rcases iteS c with ⟨n, c⟩ | ⟨n, c⟩
  ·refine cT e0 n (sR fun _ U => Ya (.bool true) rfl (wK U (wp_ret (z _ _ _ (S _ _ _ rfl ?_)))))
   obtain rfl := someI c
   exact y _ _ _ _ rfl rfl (I _ _ rfl b (x _ rfl))
  ·refine cF e0 n (wp_skip (z _ _ _ (R _ _ (wR (Ym (iV d) (eh l) (yY (yadd e0 rfl) (Ya (iV (wa .i64 d 1)) e0 (wN ?_))))))))
   obtain rfl := someI c
   exact K _ _ _ rfl ⟨_, _, rfl, rfl, k, u, rfl, b⟩
 ·refine cF e0 m (wp_exit (N _ _ _ rfl ?_))
  obtain rfl := someI c
  exact y _ _ _ _ rfl rfl (G _ _ b (x _ rfl))
theorem sparseref09_Pack_ok {c d : Int} {c4 : List (Int × Int × Int)} {m : Hdr} {out : Int × Int × LI × LI × LI} (t : sparseref09_Pack c d c4 = some out) (A : imm rTi64i64u64 m.v c4 ∈ ros) (b : St w0 ros rs w) :
  Calls Try.prog 19 #[iV c, iV d, m.v] w (fun e w => ∃ (c5 c6 c7 : Hdr), e = .returned (.agg #[iV out.1, iV out.2.1, c5.v, c6.v, c7.v]) ∧ St w0 ros (row 3 I1 c5.v out.2.2.1 :: row 3 I1 c6.v out.2.2.2.1 :: row 45 (rI .u64) c7.v out.2.2.2.2 :: rs) w) := by
 refine enterQ Try.func19 rfl Try.ntmps19 rfl fun Q e4 => sR fun _ e5 => YB wn rfl (rAl b ZT_51) ?_
 intro i w b
 refine wK e5 (sR fun _ e6 => Ym (iV c) e0 (Ym (iV d) e0 (YH wn rfl (rLt (n := 1) (l := [0]) b SL_22 [iV 0] (bp1 rfl) rfl rfl (mks1 (cs := [iV 0]) rfl mkI mks0)) ?_)))
 intro y w b
 refine yY (ybuild (us := [iV c, iV d, y.v, hnil.v, hnil.v]) [(0, iV c), (1, iV d), (2, y.v)] SO_51 (bp3 e0 e0 e0) rfl) (YB wn rfl (rAl b ZT_51) ?_)
 intro j w b
 refine YT wn rfl (r_stbn (vals' := [iV c, iV d, y.v, hnil.v, hnil.v]) (us := [iV c, iV d, y.v, hnil.v, hnil.v]) b ST_51 e0 e0 rfl rfl (one_of rfl) rfl) ?_
 intro w b
 refine wK e6 (sR fun _ e7 => Ym (iV c) e0 (Ym (iV d) e0 (yY (ymul e0 e0) ?_)))
 obtain ⟨o0, e8, t⟩ := bs t
 refine YH wn rfl (rMk b SL_22 e0 e8) ?_
 intro h w b
 refine Ya h.v e0 (wK e7 (sQ fun _ e9 => sR fun _ f0 => Ya (iV 0) rfl (wK f0 (blockQ fun f1 f2 => ?_))))
 obtain ⟨f3, f4, t⟩ := bs t
 have f5 : ∀ (B : LI) (f : FV) (w : World), f 0 = iV c → f 1 = iV d → f 2 = m.v → f 6 = (pB i) → f 7 = (pB j) → f 8 = h.v → St w0 ros (box i 51 [iV 0, iV 0, hnil.v, hnil.v, hnil.v] :: row 3 I1 y.v [0] :: box j 51 [iV c, iV d, y.v, hnil.v, hnil.v] :: row 3 I1 h.v B :: rs) w → B = f3 → f1 (.exit 0) (fr 90 f) w := by
  intro B f w f6 f7 f8 f9 g0 g1 b ho
  subst ho
  refine f2 _ _ _ (e9 _ _ (sQ fun _ g2 => sR fun _ g3 => Ya (iV 0) rfl (wK g3 (blockQ fun g4 g5 => ?_))))
  obtain ⟨g6, g7, t⟩ := bs t
  have g8 : ∀ (X Z a0 : LI) (C D E : Hdr) (f : FV) (w : World), f 6 = (pB i) → f 7 = (pB j) → St w0 ros (box i 51 [iV 0, iV 0, hnil.v, hnil.v, hnil.v] :: row 3 I1 C.v X :: row 3 I1 D.v Z :: row 45 (rI .u64) E.v a0 :: box j 51 [iV c, iV d, C.v, D.v, E.v] :: rs) w → (X, Z, a0) = g6 → g4 (.exit 2) (fr 90 f) w := by
   intro X Z a0 C D E f w c8 g9 b ho
   subst ho
   refine g5 _ _ _ (g2 _ _ (sR fun _ h0 => yY (lbs_ [iV c, iV d, C.v, D.v, E.v] ST_51 (eh g9) b R4) (YT wn rfl (r_stbn (vals' := [iV c, iV d, C.v, D.v, E.v]) (us := [iV c, iV d, C.v, D.v, E.v]) b ST_51 (eh c8) e0 rfl rfl (one_of rfl) rfl) ?_)))
   intro w b
   refine wK h0 (wp_ret ?_)
   obtain rfl := someI t
   exact e4 _ _ _ (fin1r Try.results19 (rcs2 rfl c8 b R0 ST_51 rfl) ⟨_, _, _, rfl, (b.pk 5 [1, 1, 1] rfl)⟩)
  replace b := b.rowNh 3 I1
  replace b := b.rowNh 45 (rI .u64)
  refine loopQ (fun s a w => ∃ (F a1 a2 : LI) (q : Int) (f : FV) (o a3 a4 : Hdr), (F, a1, a2, q) = s ∧ a = fr 90 f ∧ f 0 = iV c ∧ f 1 = iV d ∧ f 2 = m.v ∧ f 6 = (pB i) ∧ f 7 = (pB j) ∧ f 8 = h.v ∧ f 10 = iV q ∧ St w0 ros (box i 51 [iV 0, iV 0, hnil.v, hnil.v, hnil.v] :: row 3 I1 o.v F :: row 3 I1 a3.v a1 :: row 45 (rI .u64) a4.v a2 :: box j 51 [iV c, iV d, o.v, a3.v, a4.v] :: row 3 I1 h.v B :: rs) w) g7 ⟨_, _, _, _, _, _, _, _, rfl, rfl, f6, f7, f8, f9, g0, g1, rfl, (b.pk 6 [2, 2, 1, 0, 0, 0] rfl)⟩ ?_
  rintro _ _ w o2 ⟨F, a1, a2, q, f, o, a3, a4, rfl, rfl, h1, c9, h2, d0, d1, h3, d2, b⟩ x h5 o3 h7 h9
  refine seqQ fun o4 i0 i1 => sR fun _ i2 => Ym (iV q) (eh d2) (Ym (iV d) (eh c9) (yY (ylss e0 e0) (wK i2 ?_)))
  rcases iteS x with ⟨a5, x⟩ | ⟨a5, x⟩
  ·refine cT e0 a5 (wp_skip (i0 _ _ (sQ fun _ i3 => blockQ fun _ i4 => sQ fun _ i5 => sR fun _ i6 => Ya (iV 0) rfl (wK i6 (blockQ fun i7 i8 => ?_)))))
   obtain ⟨i9, j0, x⟩ := bs x
   have j1 : ∀ (G a6 : LI) (I O : Hdr) (f : FV) (w : World), f 0 = iV c → f 1 = iV d → f 2 = m.v → f 6 = (pB i) → f 7 = (pB j) → f 8 = h.v → f 10 = iV q → St w0 ros (box i 51 [iV 0, iV 0, hnil.v, hnil.v, hnil.v] :: row 3 I1 o.v F :: row 3 I1 I.v G :: row 45 (rI .u64) O.v a6 :: box j 51 [iV c, iV d, o.v, I.v, O.v] :: row 3 I1 h.v B :: rs) w → (G, a6) = i9 → i7 (.exit 4) (fr 90 f) w := by
    intro G a6 I O f w j2 j3 j4 j5 R j6 j7 b ho
    subst ho
    refine i8 _ _ _ (i5 _ _ (wR (yY (yFb FL_51_2 (eh R)) (yY (lb_ o.v O_22 e0 b R4) (yY (yFb FL_51_3 (eh R)) (yY (lb_ I.v O_22 e0 b R4) (yY (yLen SL_22 e0 b rO2) (YH wn rfl (rLt (n := 1) (l := [(G.length : Int)]) b SL_22 [iV (G.length : Int)] (bp1 e0) rfl rfl (mks1 (cs := [iV (G.length : Int)]) rfl mkI mks0)) ?_))))))))
    intro o5 w b
    obtain ⟨o6, j8, x⟩ := bs x
    replace b := b.pk 3 [2, 0, 0] rfl
    refine YH wn rfl (rAp b SL_22 e0 e0 rO1 j8) ?_
    intro j9 w b
    refine yY (yFb FL_51_2 (eh R)) ?_
    replace b := b.pk 6 [5, 0, 0, 0, 0, 0] rfl
    refine YT wn rfl (r_stb1 (vals' := [iV c, iV d, j9.v, I.v, O.v]) b O_22 e0 e0 rfl rfl rfl rfl) ?_
    intro w b
    refine wN (i4 _ _ _ (i3 _ _ (wR (Ym (iV q) (eh j7) (yY (yadd e0 rfl) (Ya (iV (wa .i64 q 1)) e0 (wN ?_)))))))
    obtain rfl := someI x
    exact h7 _ _ _ rfl ⟨_, _, _, _, _, _, _, _, rfl, rfl, j2, j3, j4, j5, R, j6, rfl, (b.pk 7 [3, 1, 2, 2, 0, 1] rfl)⟩
   refine loopQ (fun s a w => ∃ (a7 a8 : LI) (k : Int) (f : FV) (S H : Hdr), (a7, a8, k) = s ∧ a = fr 90 f ∧ f 0 = iV c ∧ f 1 = iV d ∧ f 2 = m.v ∧ f 6 = (pB i) ∧ f 7 = (pB j) ∧ f 8 = h.v ∧ f 10 = iV q ∧ f 11 = iV k ∧ St w0 ros (box i 51 [iV 0, iV 0, hnil.v, hnil.v, hnil.v] :: row 3 I1 o.v F :: row 3 I1 S.v a7 :: row 45 (rI .u64) H.v a8 :: box j 51 [iV c, iV d, o.v, S.v, H.v] :: row 3 I1 h.v B :: rs) w) j0 ⟨_, _, _, _, _, _, rfl, rfl, h1, c9, h2, d0, d1, h3, d2, rfl, b⟩ ?_
   rintro _ _ w k0 ⟨a7, a8, k, f, S, H, rfl, rfl, J, a9, T, b0, z, U, V, K, b⟩ g k6 o7 k7 k8
   refine seqQ fun o8 k9 l0 => sR fun _ l1 => Ym (iV k) (eh K) (Ym (iV c) (eh J) (yY (ylss e0 e0) (wK l1 ?_)))
   rcases iteS g with ⟨b1, g⟩ | ⟨b1, g⟩
   ·refine cT e0 b1 (wp_skip (k9 _ _ (sQ fun _ l2 => blockQ fun l3 l4 => sR fun _ l5 => Ym h.v (eh U) (Ym (iV q) (eh V) (Ym (iV c) (eh J) (yY (ymul e0 e0) (Ym (iV k) (eh K) (yY (yadd e0 e0) ?_))))))))
    obtain ⟨b2, d3, g⟩ := bs g
    refine yY (yIa SL_22 e0 e0 b rO5 d3) (yY (yI O_3 e0 b rO5 d3) (Ya (iV b2) e0 (wK l5 (sR fun _ l6 => Ym (iV b2) e0 (yY (ygtr e0 rfl) (wK l6 ?_))))))
    have d4 : ∀ (b3 b4 : LI) (b6 b8 : Hdr) (f : FV) (w : World), f 0 = iV c → f 1 = iV d → f 2 = m.v → f 6 = (pB i) → f 7 = (pB j) → f 8 = h.v → f 10 = iV q → f 11 = iV k → St w0 ros (box i 51 [iV 0, iV 0, hnil.v, hnil.v, hnil.v] :: row 3 I1 o.v F :: row 3 I1 b6.v b3 :: row 45 (rI .u64) b8.v b4 :: box j 51 [iV c, iV d, o.v, b6.v, b8.v] :: row 3 I1 h.v B :: rs) w → sparseref09_Pack_j14 k b3 b4 = some k0 → l3 .normal (fr 90 f) w := by
     intro b3 b4 b6 b8 f w l7 l8 l9 m0 m1 m2 m3 m4 b t
     refine l4 _ _ _ (l2 _ _ (wR (Ym (iV k) (eh m4) (yY (yadd e0 rfl) (Ya (iV (wa .i64 k 1)) e0 (wN ?_))))))
     obtain rfl := someI t
     exact k7 _ _ _ rfl ⟨_, _, _, _, _, _, rfl, rfl, l7, l8, l9, m0, m1, m2, m3, rfl, b⟩
    rcases iteS g with ⟨b9, g⟩ | ⟨b9, g⟩
    ·refine cT e0 b9 (sR fun _ m5 => yY (yFb FL_51_3 (eh z)) (yY (lb_ S.v O_22 e0 b R4) (Ym (iV k) (eh K) (YH wn rfl (rLt (n := 1) (l := [k]) b SL_22 [iV k] (bp1 e0) rfl rfl (mks1 (cs := [iV k]) rfl mkI mks0)) ?_))))
     intro o9 w b
     obtain ⟨p0, m6, g⟩ := bs g
     replace b := b.pk 4 [3, 0, 0, 0] rfl
     refine YH wn rfl (rAp b SL_22 e0 e0 rO1 m6) ?_
     intro d5 w b
     refine yY (yFb FL_51_3 (eh z)) ?_
     replace b := b.pk 6 [5, 0, 0, 0, 0, 0] rfl
     refine YT wn rfl (r_stb1 (vals' := [iV c, iV d, o.v, d5.v, H.v]) b O_22 e0 e0 rfl rfl rfl rfl) ?_
     intro w b
     refine wK m5 ?_
     obtain ⟨W, d6, g⟩ := bs g
     obtain ⟨p1, m7, g⟩ := bs g
     refine dR [0, 1, 0, 0, 8, 28, 60, 124, 252, 511, 1023, 2047] [8, 9, 11] 3 folM ?_
     replace b := b.drew
     refine Dn [0, 1, 2, 3, 4, 5, 6, 7] [] [8] (yR rfl (yFb FL_51_4 (eh z)) (yR rfl (lb_ H.v O_49 e0 b R0) (yR rfl (m_ m.v (eh T)) (yR rfl (m_ (iV b2) e0) (yR rfl (ysub e0 rfl) (yR rfl (yIa SL_43 e0 e0 b (rdI A) d6) (yR rfl (yFe FL_47_2 e0) (yR rfl (yFf (u := .int .u64 W.2.2) O_45 e0 b (rdI A) d6 rfl) (Rn QSn ?_)))))))))
     refine Lc1 rfl ?_
     refine LH wn (rLt (n := 1) (l := [W.2.2]) b SL_49 [.int .u64 W.2.2] (bp1 e0) rfl rfl (mks1 (cs := [.int .u64 W.2.2]) rfl mkI mks0)) ?_
     intro p2 w b
     refine Dn [] [0, 1] [9] (Rn (yS rfl (yFb FL_51_4 (eh z)) (yS rfl (lb_ H.v O_49 e0 b R1) QSn)) ?_)
     refine Lc1 rfl ?_
     replace b := b.pk 7 [6, 0, 0, 0, 0, 0, 0] rfl
     refine LH wn (rAp b SL_49 e0 e0 rO1 m7) ?_
     intro m8 w b
     refine Dn [10] [] [11] (yR rfl (yFb FL_51_4 (eh z)) (Rn QSn ?_))
     refine Lc1 rfl ?_
     replace b := b.pk 3 [2, 0, 0] rfl
     refine LT wn (r_stb1 (vals' := [iV c, iV d, o.v, d5.v, m8.v]) b O_49 e0 e0 rfl rfl rfl rfl) ?_
     intro w b
     exact Dz [] [] (Rn QSn (d4 _ _ _ _ _ _ J a9 T b0 z U V K (b.pk 8 [5, 5, 3, 1, 0, 2] rfl) g))
    ·exact cF e0 b9 (wp_skip (d4 _ _ _ _ _ _ J a9 T b0 z U V K b g))
   ·refine cF e0 b1 (wp_exit (l0 _ _ _ rfl ?_))
    obtain rfl := someI g
    exact k8 _ _ _ _ rfl rfl (j1 _ _ _ _ _ _ J a9 T b0 z U V b (k6 _ rfl))
  ·refine cF e0 a5 (wp_exit (i1 _ _ _ rfl ?_))
   obtain rfl := someI x
   exact h9 _ _ _ _ rfl rfl (g8 _ _ _ _ _ _ _ _ d0 d1 (b.pk 6 [0, 0, 0, 0, 0] rfl) (h5 _ rfl))
 refine loopQ (fun s a w => ∃ (c0 : LI) (r : Int) (f : FV), (c0, r) = s ∧ a = fr 90 f ∧ f 0 = iV c ∧ f 1 = iV d ∧ f 2 = m.v ∧ f 6 = (pB i) ∧ f 7 = (pB j) ∧ f 8 = h.v ∧ f 9 = iV r ∧ St w0 ros (box i 51 [iV 0, iV 0, hnil.v, hnil.v, hnil.v] :: row 3 I1 y.v [0] :: box j 51 [iV c, iV d, y.v, hnil.v, hnil.v] :: row 3 I1 h.v c0 :: rs) w) f4 ⟨_, _, _, rfl, rfl, rfl, rfl, rfl, rfl, rfl, rfl, rfl, (b.pk 4 [3, 2, 1, 0] rfl)⟩ ?_
 rintro _ _ w p3 ⟨c0, r, f, rfl, rfl, c1, d7, L, d8, d9, c2, N, b⟩ p m9 p4 n0 n2
 refine seqQ fun p5 n3 n4 => sR fun _ n5 => Ym (iV r) (eh N) (Ym m.v (eh L) (yY (yLen SL_43 e0 b (rdI A)) (yY (ylss e0 e0) (wK n5 ?_))))
 rcases iteS p with ⟨c3, p⟩ | ⟨c3, p⟩
 ·refine cT e0 c3 (wp_skip (n3 _ _ (sQ fun _ n6 => blockQ fun _ n7 => ?_)))
  obtain ⟨n8, e1, p⟩ := bs p
  obtain ⟨n9, e2, p⟩ := bs p
  obtain ⟨p6, e3, p⟩ := bs p
  refine dR [0, 0, 0, 6, 14, 30, 0, 126, 0, 0, 768, 1792, 3840, 8190, 0, 16384, 65535, 131071] [17] 1 folM ?_
  replace b := b.drew
  refine Dn [0, 1, 2, 3, 4, 5, 6, 7, 8, 9, 10, 11, 12, 13, 14, 15, 16] [] [17] (yR rfl (m_ h.v (eh c2)) (yR rfl (m_ m.v (eh L)) (yR rfl (m_ (iV r) (eh N)) (yR rfl (yIa SL_43 e0 e0 b (rdI A) e1) (yR rfl (yFe FL_47_1 e0) (yR rfl (yFf (u := iV n8.2.1) O_3 e0 b (rdI A) e1 rfl) (yR rfl (m_ (iV c) (eh c1)) (yR rfl (ymul e0 e0) (yR rfl (m_ m.v (eh L)) (yR rfl (m_ (iV r) (eh N)) (yR rfl (yIa SL_43 e0 e0 b (rdI A) e2) (yR rfl (yFe FL_47_0 e0) (yR rfl (yFf (u := iV n9.1) O_3 e0 b (rdI A) e2 rfl) ?_)))))))))))))
  refine yR rfl (yadd e0 e0) (yR rfl (m_ (iV r) (eh N)) (yR rfl (yadd e0 rfl) (yR rfl (yIs SL_22 e0 e0 b rO3 e3) (Rn QSn ?_))))
  refine Lc1 rfl ?_
  replace b := b.pk 4 [3, 0, 0, 0] rfl
  refine LT wn (r_sti (cs := [iV (wa .i64 r 1)]) b O_3 rfl e0 e0 rfl mkI e3) ?_
  intro w b
  refine Dz [] [] (Rn QSn (n7 _ _ _ (n6 _ _ (wR (Ym (iV r) (eh N) (yY (yadd e0 rfl) (Ya (iV (wa .i64 r 1)) e0 (wN ?_))))))))
  obtain rfl := someI p
  exact n0 _ _ _ rfl ⟨_, _, _, rfl, rfl, c1, d7, L, d8, d9, c2, rfl, (b.pk 4 [1, 1, 1, 0] rfl)⟩
 ·refine cF e0 c3 (wp_exit (n4 _ _ _ rfl ?_))
  obtain rfl := someI p
  exact n2 _ _ _ _ rfl rfl (f5 _ _ _ c1 d7 L d8 d9 c2 b (m9 _ rfl))
theorem matching_Maximum_ok {c d : Int} {k l m : LI} {f g h : Hdr} {out : LI × Int} (b : matching_Maximum c d k l m = some out) (n : imm I1 f.v k ∈ ros) (o : imm I1 g.v l ∈ ros) (p : imm (rI .u64) h.v m ∈ ros) (a : St w0 ros rs w) :
  Calls Try.prog 18 #[.agg #[iV c, iV d, f.v, g.v, h.v]] w (fun e w => ∃ (q : Hdr), e = .returned (.tuple #[q.v, iV out.2]) ∧ St w0 ros (row 3 I1 q.v out.1 :: rs) w) := by
 refine enterQ Try.func18 rfl Try.ntmps18 rfl fun Q r => sR fun _ t => YB wn rfl (r_box (vals := [iV c, iV d, f.v, g.v, h.v]) a e0 rfl) ?_
 intro E w a
 refine Ya hnil.v rfl (Ya (iV 0) rfl (wK t (sR fun _ u => yY (lbs_ [iV c, iV d, f.v, g.v, h.v] ST_51 e0 a R0) ?_)))
 obtain ⟨i, x, b⟩ := bs b
 refine Yc wn rfl (yCall FN_33 (a1 e0)) (matrix_Check_ok x n o p a) ?_
 rintro _ w ⟨rfl, a⟩
 refine ⟨_, rfl, ?_⟩
 refine Ya (iV i) e0 (wK u (seqQ fun F y z => sR fun _ A => Ym (iV i) e0 (yY (yneq e0 rfl) (wK A ?_))))
 rcases iteS b with ⟨j, b⟩ | ⟨j, b⟩
 ·refine condF e0 (nF (dT j)) (wp_skip (y _ _ (sR fun _ B => yY (lbs_ [iV c, iV d, f.v, g.v, h.v] ST_51 e0 a R0) ?_)))
  obtain ⟨G, C, b⟩ := bs b
  refine Yc wn rfl (yCall FN_34 (a1 e0)) (matching_matched_ok C n o p a) ?_
  rintro _ w ⟨H, I, s, J, K, rfl, a⟩
  refine ⟨_, rfl, ?_⟩
  refine yY (yn e0) (yY (yFb FL_75_1 e0) (yY (lb_ s.v O_22 e0 a R4) (Ya s.v e0 (Ya (iV 0) rfl (wK B (wp_ret ?_))))))
  obtain rfl := someI b
  exact r _ _ _ (fin2r Try.results18 ⟨rfl, rfl⟩ ⟨rfl, rfl⟩ ⟨_, rfl, (a.pk 6 [1] rfl)⟩)
 ·refine condT e0 (nT (dF j)) (sR fun _ D => Ym (iV i) e0 (Ya hnil.v rfl (Ya (iV i) e0 (wK D (wp_ret (z _ _ _ rfl ?_))))))
  obtain rfl := someI b
  replace a := a.rowNh 3 I1
  exact r _ _ _ (fin2r Try.results18 ⟨rfl, rfl⟩ ⟨rfl, rfl⟩ ⟨_, rfl, (a.pk 2 [0] rfl)⟩)
theorem sparselaw18_DissectSmallest_ok {c3 : Int} {f8 : LI} {b5 : Hdr} {out : Bool} (g : sparselaw18_DissectSmallest c3 f8 = some out) (z8 : out = true) (f9 : imm I1 b5.v f8 ∈ ros) (b : St w0 ros rs w) :
  Calls Try.prog 4 #[iV c3, b5.v] w (fun e w => e = .returned (.bool out) ∧ St w0 ros rs w) := by
 refine enterQ Try.func4 rfl Try.ntmps4 rfl fun Q b6 => sR fun _ l1 => Ya (.bool false) rfl (wK l1 (seqQ fun A0 l2 l3 => sR fun _ l4 => Ym b5.v e0 (yY (yLen SL_22 e0 b (rdI f9)) (yY (ygtr e0 rfl) (wK l4 ?_)))))
 rcases iteS g with ⟨c5, g⟩ | ⟨c5, g⟩
 ·refine cT e0 c5 (sR fun _ l5 => ?_)
  obtain ⟨l6, l7, g⟩ := bs g
  refine Yc wn rfl (yCall FN_7 a0) (sparselaw18_awake_ok l7 b) ?_
  rintro _ w ⟨rfl, b⟩
  refine ⟨_, rfl, ?_⟩
  refine Ya (.bool l6) e0 (wK l5 (wp_ret (l3 _ _ _ rfl ?_)))
  obtain rfl := someI g
  exact b6 _ _ _ (fin1r Try.results4 ⟨rfl, rfl⟩ ⟨rfl, b⟩)
 ·refine cF e0 c5 (wp_skip (l2 _ _ (sR fun _ l8 => Ym (iV c3) e0 ?_)))
  obtain ⟨j, l9, g⟩ := bs g
  refine Yc wn rfl (yCall FN_8 (a2 e0 rfl)) (sparsekit_Place_ok l9 b) ?_
  rintro _ w ⟨rfl, b⟩
  refine ⟨_, rfl, ?_⟩
  refine Ya (iV j) e0 (wK l8 (sR fun _ m0 => Ym (iV j) e0 (Ym b5.v e0 ?_)))
  obtain ⟨T, m1, g⟩ := bs g
  refine Yc wn rfl (yCall FN_12 (a2 e0 e0)) (sparsemake_Graph_ok m1 f9 b) ?_
  rintro _ w ⟨x, rfl, b⟩
  refine ⟨_, rfl, ?_⟩
  refine YB wn rfl (rAl b ZT_27) ?_
  intro B w b
  refine YT wn rfl (r_stbn (vals' := [x.v]) (us := [x.v]) b ST_27 e0 e0 rfl rfl (one_of rfl) rfl) ?_
  intro w b
  refine wK m0 (sR fun _ m2 => yY (lbs_ [x.v] ST_27 e0 b R0) ?_)
  obtain ⟨c, m3, g⟩ := bs g
  replace b := b.pk 2 [1, 0] rfl
  replace b := b.fz
  refine Yc wn rfl (yCall FN_13 (a1 e0)) (dissect_Separate_ok m3 F0 b) ?_
  rintro _ w ⟨k, i, h, rfl, b⟩
  refine ⟨_, rfl, ?_⟩
  refine Ym (.tuple #[.agg #[k.v, i.v, h.v], iV c.2.2.2]) e0 (yY (x_ (.agg #[k.v, i.v, h.v]) e0) (yY (x_ (iV c.2.2.2) e0) (YB wn rfl (rAl b ZT_38) ?_)))
  intro o w b
  refine YT wn rfl (r_stbn (vals' := [k.v, i.v, h.v]) (us := [k.v, i.v, h.v]) b ST_38 e0 e0 rfl rfl (one_of rfl) rfl) ?_
  intro w b
  refine Ya (iV c.2.2.2) e0 (wK m2 (sR fun _ m4 => yY (lbs_ [x.v] ST_27 e0 b R4) ?_))
  obtain ⟨A1, m5, g⟩ := bs g
  refine Yc wn rfl (yCall FN_15 (a1 e0)) (sparseref18_Ones_ok m5 F0 b) ?_
  rintro _ w ⟨A2, A3, A4, rfl, b⟩
  refine ⟨_, rfl, ?_⟩
  obtain ⟨C, m6, g⟩ := bs g
  replace b := b.fz
  replace b := b.fz
  refine Yc wn rfl (yCall FN_14 (a1 e0)) (dissect_Bisect_ok m6 F2 F1 F0 b) ?_
  rintro _ w ⟨t, rfl, b⟩
  refine ⟨_, rfl, ?_⟩
  refine Ym (.tuple #[t.v, iV C.2]) e0 (yY (x_ t.v e0) (yY (x_ (iV C.2) e0) (Ya t.v e0 (Ya (iV C.2) e0 (wK m4 (seqQ fun A5 m7 m8 => sQ fun _ m9 => ?_))))))
  replace b := b.pk 3 [2, 0, 0] rfl
  replace b := b.fz
  replace b := b.pk 3 [2, 0, 0] rfl
  replace b := b.fz
  replace b := b.pk 3 [2, 0, 0] rfl
  replace b := b.fz
  obtain ⟨N, a6, g⟩ := bs g
  obtain ⟨K, U, g⟩ := bs g
  obtain ⟨a7, y, g⟩ := bs g
  refine joinN (n := 156) (fun f w => f 0 = iV j ∧ f 5 = (pB B) ∧ f 6 = (pB o) ∧ f 8 = t.v ∧ f 63 = .bool a7 ∧ St w0 (imm S1 x.v T :: imm I1 k.v c.1 :: imm I1 i.v c.2.1 :: imm I1 h.v c.2.2.1 :: ros) (box B 27 [x.v] :: box o 38 [k.v, i.v, h.v] :: row 3 I1 t.v C.1 :: rs) w) (fun b7 => ?_) ?_
  ·rcases iteS a6 with ⟨D, a6⟩ | ⟨D, a6⟩
   ·have c6 := someI a6
    rcases iteS U with ⟨z, U⟩ | ⟨z, U⟩
    ·have g0 := someI U
     have p : K = true := g0.symm
     rw [if_pos p] at y
     have n0 := someI y
     refine dR [0, 1, 3, 7, 15, 31, 63, 127, 255, 127, 1023, 2047, 4095, 8191, 16383, 32767, 8191, 73727, 262143, 8191, 532479, 2097151, 8191, 8388607, 16777215, 33554431] [15, 18, 21, 23] 4 folM ?_
     replace b := b.drew
     refine Dn [0, 1, 2, 3, 4, 5, 6, 7, 8, 9, 10, 11, 12, 13, 14, 16, 17, 19, 20, 22] [] [15] (yR rfl (m_ (iV c.2.2.2) e0) (yR rfl (yneq e0 rfl) (yR rfl (m_ (.bool (!(decide (c.2.2.2 = 0)))) e0) (Ry rfl rfl (wG (nF (dT D))) (m_ (iV C.2) e0) (Ry rfl rfl (wG (nF (dT D))) (yneq e0 rfl) (yR rfl (pf_ (.bool N) e0 (nF (dT D)) (eqv c6 e0)) (yR rfl (m_ (.bool N) e0) (Rx rfl rfl (wX z) (Rx rfl rfl (wX z) (Rx rfl rfl (wX z) (Rx rfl rfl (wX z) (yR rfl (pt_ (.bool K) e0 z (eqv g0 rfl)) (yR rfl (m_ (.bool K) e0) ?_)))))))))))))
     refine Rx rfl rfl (wX p) (Rx rfl rfl (wX p) (Rx rfl rfl (wX p) (Rx rfl rfl (wX p) (Rx rfl rfl (wX p) (Rx rfl rfl (wX p) (Rx rfl rfl (wX p) (Rn QSn ?_)))))))
     refine Lc1 rfl ?_
     refine Lx (wX p) (Dn [] [16, 17, 19, 20, 22] [18] (Rn (Sx_ rfl rfl (wX p) rfl (Sx_ rfl rfl (wX p) rfl (Sx_ rfl rfl (wX p) rfl (Sx_ rfl rfl (wX p) rfl (Sx_ rfl rfl (wX p) rfl QSn))))) ?_))
     refine Lc1 rfl ?_
     refine Lx (wX p) (Dn [] [19, 20, 22] [21] (Rn (Sx_ rfl rfl (wX p) rfl (Sx_ rfl rfl (wX p) rfl (Sx_ rfl rfl (wX p) rfl QSn))) ?_))
     refine Lc1 rfl ?_
     refine Lx (wX p) (Dn [] [22] [23] (Rn (Sx_ rfl rfl (wX p) rfl QSn) ?_))
     refine Lc1 rfl ?_
     exact Lx (wX p) (Dz [24, 25] [] (Rx rfl rfl (wX p) (yR rfl (pt_ (.bool a7) e0 p (eqv n0 rfl)) (Rn QSn (b7 _ _ ⟨rfl, rfl, rfl, rfl, rfl, ((b.pk 3 [2, 1, 0] rfl).facts (allC F6 (allC F2 (allC F1 (allC F0 (allT (allT (allT (allT (allT (allT (allT allI))))))))))))⟩)))))
    ·have g1 := someI U
     rcases iteS y with ⟨d, y⟩ | ⟨d, y⟩
     ·have n1 := someI y
      refine dR [0, 1, 3, 7, 15, 31, 63, 127, 255, 127, 1023, 2047, 4095, 8191, 16383, 32767, 8191, 73727, 262143, 8191, 532479, 2097151, 8191, 8388607, 16777215, 33554431] [15, 18, 21, 23] 4 folM ?_
      replace b := b.drew
      refine Dn [0, 1, 2, 3, 4, 5, 6, 7, 8, 9, 10, 11, 12, 13, 14, 16, 17, 19, 20, 22] [] [15] (yR rfl (m_ (iV c.2.2.2) e0) (yR rfl (yneq e0 rfl) (yR rfl (m_ (.bool (!(decide (c.2.2.2 = 0)))) e0) (Ry rfl rfl (wG (nF (dT D))) (m_ (iV C.2) e0) (Ry rfl rfl (wG (nF (dT D))) (yneq e0 rfl) (yR rfl (pf_ (.bool N) e0 (nF (dT D)) (eqv c6 e0)) (yR rfl (m_ (.bool N) e0) (Ry rfl rfl (wG (bfalse z)) (m_ t.v e0) (Ry rfl rfl (wG (bfalse z)) (yLen SL_22 e0 b rO0) (Ry rfl rfl (wG (bfalse z)) (m_ (iV j) e0) (Ry rfl rfl (wG (bfalse z)) (yneq e0 e0) (yR rfl (pf_ (.bool K) e0 (bfalse z) (eqv g1 e0)) (yR rfl (m_ (.bool K) e0) ?_)))))))))))))
      refine Rx rfl rfl (wX d) (Rx rfl rfl (wX d) (Rx rfl rfl (wX d) (Rx rfl rfl (wX d) (Rx rfl rfl (wX d) (Rx rfl rfl (wX d) (Rx rfl rfl (wX d) (Rn QSn ?_)))))))
      refine Lc1 rfl ?_
      refine Lx (wX d) (Dn [] [16, 17, 19, 20, 22] [18] (Rn (Sx_ rfl rfl (wX d) rfl (Sx_ rfl rfl (wX d) rfl (Sx_ rfl rfl (wX d) rfl (Sx_ rfl rfl (wX d) rfl (Sx_ rfl rfl (wX d) rfl QSn))))) ?_))
      refine Lc1 rfl ?_
      refine Lx (wX d) (Dn [] [19, 20, 22] [21] (Rn (Sx_ rfl rfl (wX d) rfl (Sx_ rfl rfl (wX d) rfl (Sx_ rfl rfl (wX d) rfl QSn))) ?_))
      refine Lc1 rfl ?_
      refine Lx (wX d) (Dn [] [22] [23] (Rn (Sx_ rfl rfl (wX d) rfl QSn) ?_))
      refine Lc1 rfl ?_
      exact Lx (wX d) (Dz [24, 25] [] (Rx rfl rfl (wX d) (yR rfl (pt_ (.bool a7) e0 d (eqv n1 rfl)) (Rn QSn (b7 _ _ ⟨rfl, rfl, rfl, rfl, rfl, ((b.pk 3 [2, 1, 0] rfl).facts (allC F6 (allC F2 (allC F1 (allC F0 (allT (allT (allT (allT (allT (allT (allT allI))))))))))))⟩)))))
     ·obtain ⟨A6, n2, y⟩ := bs y
      obtain ⟨A7, n3, y⟩ := bs y
      obtain ⟨A8, n4, y⟩ := bs y
      obtain ⟨A9, n5, y⟩ := bs y
      have n6 := someI y
      refine dR [0, 1, 3, 7, 15, 31, 63, 127, 255, 127, 1023, 2047, 4095, 8191, 16383, 32767, 8191, 73727, 262143, 8191, 532479, 2097151, 8191, 8388607, 16777215, 33554431] [15, 18, 21, 23] 4 folM ?_
      replace b := b.drew
      refine Dn [0, 1, 2, 3, 4, 5, 6, 7, 8, 9, 10, 11, 12, 13, 14, 16, 17, 19, 20, 22] [] [15] (yR rfl (m_ (iV c.2.2.2) e0) (yR rfl (yneq e0 rfl) (yR rfl (m_ (.bool (!(decide (c.2.2.2 = 0)))) e0) (Ry rfl rfl (wG (nF (dT D))) (m_ (iV C.2) e0) (Ry rfl rfl (wG (nF (dT D))) (yneq e0 rfl) (yR rfl (pf_ (.bool N) e0 (nF (dT D)) (eqv c6 e0)) (yR rfl (m_ (.bool N) e0) (Ry rfl rfl (wG (bfalse z)) (m_ t.v e0) (Ry rfl rfl (wG (bfalse z)) (yLen SL_22 e0 b rO0) (Ry rfl rfl (wG (bfalse z)) (m_ (iV j) e0) (Ry rfl rfl (wG (bfalse z)) (yneq e0 e0) (yR rfl (pf_ (.bool K) e0 (bfalse z) (eqv g1 e0)) (yR rfl (m_ (.bool K) e0) ?_)))))))))))))
      refine Ry rfl rfl (wG (bfalse d)) (yFb FL_38_0 e0) (Ry rfl rfl (wG (bfalse d)) (lb_ k.v O_22 e0 b R1) (Ry rfl rfl (wG (bfalse d)) (yFb FL_38_1 e0) (Ry rfl rfl (wG (bfalse d)) (lb_ i.v O_22 e0 b R1) (Ry rfl rfl (wG (bfalse d)) (yFb FL_38_2 e0) (Ry rfl rfl (wG (bfalse d)) (lb_ h.v O_22 e0 b R1) (Ry rfl rfl (wG (bfalse d)) (m_ (iV j) e0) (Rn QSn ?_)))))))
      refine Lc1 rfl ?_
      refine Lk (wG (bfalse d)) (yCall FN_17 (a1 e0)) (sparsekit_TwinInts_ok n2 F2 b) ?_
      rintro _ w ⟨B0, rfl, b⟩
      refine ⟨_, rfl, ?_⟩
      refine Dn [] [16, 17, 19, 20, 22] [18] (Rn (Sy rfl rfl (wG (bfalse d)) (yFb FL_38_1 e0) rfl (Sy rfl rfl (wG (bfalse d)) (lb_ i.v O_22 e0 b R2) rfl (Sy rfl rfl (wG (bfalse d)) (yFb FL_38_2 e0) rfl (Sy rfl rfl (wG (bfalse d)) (lb_ h.v O_22 e0 b R2) rfl (Sy rfl rfl (wG (bfalse d)) (m_ (iV j) e0) rfl QSn))))) ?_)
      refine Lc1 rfl ?_
      refine LH (wG (bfalse d)) (rAp b SL_22 e0 e0 (rdI F1) n3) ?_
      intro B1 w b
      refine Dn [] [19, 20, 22] [21] (Rn (Sy rfl rfl (wG (bfalse d)) (yFb FL_38_2 e0) rfl (Sy rfl rfl (wG (bfalse d)) (lb_ h.v O_22 e0 b R2) rfl (Sy rfl rfl (wG (bfalse d)) (m_ (iV j) e0) rfl QSn))) ?_)
      refine Lc1 rfl ?_
      refine LH (wG (bfalse d)) (rAp b SL_22 e0 e0 (rdI F0) n4) ?_
      intro B2 w b
      refine Dn [] [22] [23] (Rn (Sy rfl rfl (wG (bfalse d)) (m_ (iV j) e0) rfl QSn) ?_)
      refine Lc1 rfl ?_
      replace b := b.fz
      refine Lk (wG (bfalse d)) (yCall FN_16 (a2 e0 e0)) (sparsekit_Perm_ok n5 F0 b) ?_
      rintro _ w ⟨rfl, b⟩
      refine ⟨_, rfl, ?_⟩
      exact Dz [24, 25] [] (Ry rfl rfl (wG (bfalse d)) (ynot e0) (yR rfl (pf_ (.bool a7) e0 (bfalse d) (eqv n6 e0)) (Rn QSn (b7 _ _ ⟨rfl, rfl, rfl, rfl, rfl, ((b.pk 3 [2, 1, 0] rfl).facts (allC F7 (allC F3 (allC F2 (allC F1 (allT (allT (allT (allT (allT (allT (allT (allT allI)))))))))))))⟩))))
   ·have g2 := someI a6
    have Z : N = true := g2.symm
    rw [if_pos Z] at U
    have g3 := someI U
    have q : K = true := g3.symm
    rw [if_pos q] at y
    have n7 := someI y
    refine dR [0, 1, 3, 7, 15, 31, 63, 127, 255, 127, 1023, 2047, 4095, 8191, 16383, 32767, 8191, 73727, 262143, 8191, 532479, 2097151, 8191, 8388607, 16777215, 33554431] [15, 18, 21, 23] 4 folM ?_
    replace b := b.drew
    refine Dn [0, 1, 2, 3, 4, 5, 6, 7, 8, 9, 10, 11, 12, 13, 14, 16, 17, 19, 20, 22] [] [15] (yR rfl (m_ (iV c.2.2.2) e0) (yR rfl (yneq e0 rfl) (yR rfl (m_ (.bool (!(decide (c.2.2.2 = 0)))) e0) (Rx rfl rfl (wX (nT (dF D))) (Rx rfl rfl (wX (nT (dF D))) (yR rfl (pt_ (.bool N) e0 (nT (dF D)) (eqv g2 rfl)) (yR rfl (m_ (.bool N) e0) (Rx rfl rfl (wX Z) (Rx rfl rfl (wX Z) (Rx rfl rfl (wX Z) (Rx rfl rfl (wX Z) (yR rfl (pt_ (.bool K) e0 Z (eqv g3 rfl)) (yR rfl (m_ (.bool K) e0) ?_)))))))))))))
    refine Rx rfl rfl (wX q) (Rx rfl rfl (wX q) (Rx rfl rfl (wX q) (Rx rfl rfl (wX q) (Rx rfl rfl (wX q) (Rx rfl rfl (wX q) (Rx rfl rfl (wX q) (Rn QSn ?_)))))))
    refine Lc1 rfl ?_
    refine Lx (wX q) (Dn [] [16, 17, 19, 20, 22] [18] (Rn (Sx_ rfl rfl (wX q) rfl (Sx_ rfl rfl (wX q) rfl (Sx_ rfl rfl (wX q) rfl (Sx_ rfl rfl (wX q) rfl (Sx_ rfl rfl (wX q) rfl QSn))))) ?_))
    refine Lc1 rfl ?_
    refine Lx (wX q) (Dn [] [19, 20, 22] [21] (Rn (Sx_ rfl rfl (wX q) rfl (Sx_ rfl rfl (wX q) rfl (Sx_ rfl rfl (wX q) rfl QSn))) ?_))
    refine Lc1 rfl ?_
    refine Lx (wX q) (Dn [] [22] [23] (Rn (Sx_ rfl rfl (wX q) rfl QSn) ?_))
    refine Lc1 rfl ?_
    exact Lx (wX q) (Dz [24, 25] [] (Rx rfl rfl (wX q) (yR rfl (pt_ (.bool a7) e0 q (eqv n7 rfl)) (Rn QSn (b7 _ _ ⟨rfl, rfl, rfl, rfl, rfl, ((b.pk 3 [2, 1, 0] rfl).facts (allC F6 (allC F2 (allC F1 (allC F0 (allT (allT (allT (allT (allT (allT (allT allI))))))))))))⟩)))))
  rintro f w ⟨n8, n9, o0, o1, g4, b⟩
  refine m9 _ _ ?_
  rcases iteS g with ⟨c7, g⟩ | ⟨c7, g⟩
  ·refine condT (eh g4) c7 (sR fun _ o2 => Ya (.bool false) rfl (wK o2 (wp_ret (m8 _ _ _ rfl ?_))))
   obtain rfl := someI g
   exact b6 _ _ _ (fin1r Try.results4 ⟨rfl, rfl⟩ ⟨rfl, ((b.pk 3 [] rfl).facts (allT (allT (allT (allT allI)))))⟩)
  ·refine condF (eh g4) (bfalse c7) (wp_skip (m7 _ _ (sR fun _ o3 => Ya hnil.v rfl (wK o3 (seqQ fun B3 o4 o5 => sR fun _ o6 => Ya (iV 0) rfl (wK o6 ?_))))))
   refine blockQ fun g5 g6 => ?_
   obtain ⟨g7, o7, g⟩ := bs g
   have o8 : ∀ (c8 : List (Int × Int × Int)) (b8 : Hdr) (f : FV) (w : World), f 0 = iV j → f 6 = (pB o) → f 10 = b8.v → St w0 (imm I1 k.v c.1 :: imm I1 i.v c.2.1 :: imm I1 h.v c.2.2.1 :: ros) (box o 38 [k.v, i.v, h.v] :: row 47 rTi64i64u64 b8.v c8 :: rs) w → .inl c8 = g7 → g5 (.exit 0) (fr 156 f) w := by
    intro c8 b8 f w c9 o9 p0 b ho
    subst ho
    refine g6 _ _ _ (o4 _ _ (sR fun _ p1 => Ym (iV j) (eh c9) (Ym (iV j) (eh c9) (Ym b8.v (eh p0) ?_))))
    obtain ⟨B4, p2, g⟩ := bs g
    replace b := b.pk 2 [1, 0] rfl
    replace b := b.fz
    refine Yc wn rfl (yCall FN_19 (a3 e0 e0 e0)) (sparseref09_Pack_ok p2 F0 b) ?_
    rintro _ w ⟨B5, B6, B7, rfl, b⟩
    refine ⟨_, rfl, ?_⟩
    obtain ⟨r, p3, g⟩ := bs g
    replace b := b.fz
    replace b := b.fz
    replace b := b.fz
    refine Yc wn rfl (yCall FN_18 (a1 e0)) (matching_Maximum_ok p3 F2 F1 F0 b) ?_
    rintro _ w ⟨H, rfl, b⟩
    refine ⟨_, rfl, ?_⟩
    refine Ym (.tuple #[H.v, iV r.2]) e0 (yY (x_ H.v e0) (yY (x_ (iV r.2) e0) (Ya H.v e0 (Ya (iV r.2) e0 (wK p1 (sR fun _ p4 => Ya (iV 0) rfl (wK p4 (sQ fun _ p5 => sQ fun _ p6 => ?_))))))))
    refine wR (Ya (iV 0) rfl (wK p6 (blockQ fun p7 p8 => ?_)))
    obtain ⟨p9, q0, g⟩ := bs g
    have q2 : ∀ (R : Int) (f : FV) (w : World), f 0 = iV j → f 6 = (pB o) → f 14 = H.v → f 15 = iV r.2 → f 16 = iV R → St w0 (imm I1 k.v c.1 :: imm I1 i.v c.2.1 :: imm I1 h.v c.2.2.1 :: ros) (box o 38 [k.v, i.v, h.v] :: row 3 I1 H.v r.1 :: rs) w → R = p9 → p7 (.exit 4) (fr 156 f) w := by
     intro R f w q3 g8 q4 q5 g9 b ho
     subst ho
     refine p8 _ _ _ (p5 _ _ (sR fun _ q6 => Ym (iV r.2) (eh q5) (yY (yeql e0 rfl) (Ym (.bool (decide (r.2 = 0))) e0 ?_))))
     refine joinW 5 (fun f w => f 6 = (pB o) ∧ f 16 = iV R ∧ f 145 = .bool ((decide (r.2 = 0)) && (decide ((r.1.length : Int) = j))) ∧ St w0 (imm I1 k.v c.1 :: imm I1 i.v c.2.1 :: imm I1 h.v c.2.2.1 :: ros) (box o 38 [k.v, i.v, h.v] :: rs) w) (fun h0 => ?_) ?_
     ·rcases Bool.eq_false_or_eq_true (decide (r.2 = 0)) with E | E
      ·exact yG E (m_ H.v (eh q4)) (yG E (yLen SL_22 e0 b rO1) (yG E (m_ (iV j) (eh q3)) (yG E (yeql e0 e0) (yY (pt_ (.bool (decide ((r.1.length : Int) = j))) e0 E e0) (h0 _ _ ⟨g8, g9, (congrArg Value.bool (andT E)), (b.pk 2 [0] rfl)⟩)))))
      ·exact gN E (gN E (gN E (gN E (yY (pf_ (.bool false) e0 E rfl) (h0 _ _ ⟨g8, g9, (congrArg Value.bool (andF E)), (b.pk 2 [0] rfl)⟩)))))
     rintro f w ⟨q7, q8, q9, b⟩
     refine Ym (.bool ((decide (r.2 = 0)) && (decide ((r.1.length : Int) = j)))) (eh q9) ?_
     refine joinW 6 (fun f w => f 152 = .bool (((decide (r.2 = 0)) && (decide ((r.1.length : Int) = j))) && (decide (R = (c.2.2.1.length : Int)))) ∧ St w0 ros rs w) (fun h1 => ?_) ?_
     ·rcases Bool.eq_false_or_eq_true ((decide (r.2 = 0)) && (decide ((r.1.length : Int) = j))) with A | A
      ·exact yG A (m_ (iV R) (eh q8)) (yG A (yFb FL_38_2 (eh q7)) (yG A (lb_ h.v O_22 e0 b R0) (yG A (yLen SL_22 e0 b (rdI F2)) (yG A (yeql e0 e0) (yY (pt_ (.bool (decide (R = (c.2.2.1.length : Int)))) e0 A e0) (h1 _ _ ⟨(congrArg Value.bool (andT A)), ((b.pk 1 [] rfl).facts (allT (allT (allT allI))))⟩))))))
      ·exact gN A (gN A (gN A (gN A (gN A (yY (pf_ (.bool false) e0 A rfl) (h1 _ _ ⟨(congrArg Value.bool (andF A)), ((b.pk 1 [] rfl).facts (allT (allT (allT allI))))⟩))))))
     rintro f w ⟨r0, b⟩
     refine Ym (.bool (((decide (r.2 = 0)) && (decide ((r.1.length : Int) = j))) && (decide (R = (c.2.2.1.length : Int))))) (eh r0) ?_
     obtain ⟨h2, V, g⟩ := bs g
     refine joinW 2 (fun f w => f 155 = .bool h2 ∧ St w0 ros rs w) (fun h4 => ?_) ?_
     ·rcases iteS V with ⟨a8, V⟩ | ⟨a8, V⟩
      ·obtain ⟨r1, r2, V⟩ := bs V
       refine Yc (wG a8) rfl (yCall FN_7 a0) (sparselaw18_awake_ok r2 b) ?_
       rintro _ w ⟨rfl, b⟩
       refine ⟨_, rfl, ?_⟩
       refine yY (pt_ (.bool r1) e0 a8 e0) ?_
       obtain rfl := someI V
       exact h4 _ _ ⟨rfl, b⟩
      ·refine gN (bfalse a8) (yY (pf_ (.bool false) e0 (bfalse a8) rfl) ?_)
       obtain rfl := someI V
       exact h4 _ _ ⟨rfl, b⟩
     rintro f w ⟨r3, b⟩
     refine Ya (.bool h2) (eh r3) (wK q6 (wp_ret ?_))
     obtain rfl := someI g
     exact b6 _ _ _ (fin1r Try.results4 ⟨rfl, rfl⟩ ⟨rfl, b⟩)
    refine loopQ (fun s a w => ∃ (a9 O : Int) (f : FV), (a9, O) = s ∧ a = fr 156 f ∧ f 0 = iV j ∧ f 6 = (pB o) ∧ f 14 = H.v ∧ f 15 = iV r.2 ∧ f 16 = iV a9 ∧ f 17 = iV O ∧ St w0 (imm I1 k.v c.1 :: imm I1 i.v c.2.1 :: imm I1 h.v c.2.2.1 :: ros) (box o 38 [k.v, i.v, h.v] :: row 3 I1 H.v r.1 :: rs) w) q0 ⟨_, _, _, rfl, rfl, c9, o9, rfl, rfl, rfl, rfl, ((b.pk 2 [1, 0] rfl).facts (allC F4 (allC F5 (allC F6 (allT (allT (allT (allT (allT (allT (allT allI)))))))))))⟩ ?_
    rintro _ _ w r4 ⟨a9, O, f, rfl, rfl, d0, d1, b0, d2, d3, c0, b⟩ I r8 B8 r9 s0
    refine seqQ fun B9 s1 s2 => sR fun _ s3 => Ym (iV O) (eh c0) (Ym H.v (eh b0) (yY (yLen SL_22 e0 b rO1) (yY (ylss e0 e0) (wK s3 ?_))))
    rcases iteS I with ⟨d4, I⟩ | ⟨d4, I⟩
    ·refine cT e0 d4 (wp_skip (s1 _ _ (sQ fun _ s4 => blockQ fun s5 s6 => sR fun _ s7 => Ym H.v (eh b0) (Ym (iV O) (eh c0) ?_))))
     obtain ⟨C0, h5, I⟩ := bs I
     refine yY (yIa SL_22 e0 e0 b rO1 h5) (yY (yI O_3 e0 b rO1 h5) (yY (ygeq e0 rfl) (wK s7 ?_)))
     have h6 : ∀ (d5 : Int) (f : FV) (w : World), f 0 = iV j → f 6 = (pB o) → f 14 = H.v → f 15 = iV r.2 → f 16 = iV d5 → f 17 = iV O → St w0 (imm I1 k.v c.1 :: imm I1 i.v c.2.1 :: imm I1 h.v c.2.2.1 :: ros) (box o 38 [k.v, i.v, h.v] :: row 3 I1 H.v r.1 :: rs) w → sparselaw18_DissectSmallest_j62 O d5 = some r4 → s5 .normal (fr 156 f) w := by
      intro d5 f w s8 s9 t0 t1 t2 t3 b g
      refine s6 _ _ _ (s4 _ _ (wR (Ym (iV O) (eh t3) (yY (yadd e0 rfl) (Ya (iV (wa .i64 O 1)) e0 (wN ?_))))))
      obtain rfl := someI g
      exact r9 _ _ _ rfl ⟨_, _, _, rfl, rfl, s8, s9, t0, t1, t2, rfl, b⟩
     rcases iteS I with ⟨d6, I⟩ | ⟨d6, I⟩
     ·exact cT e0 d6 (wR (Ym (iV a9) (eh d3) (yY (yadd e0 rfl) (Ya (iV (wa .i64 a9 1)) e0 (wN (h6 _ _ _ d0 d1 b0 d2 rfl c0 b I))))))
     ·exact cF e0 d6 (wp_skip (h6 _ _ _ d0 d1 b0 d2 d3 c0 b I))
    ·refine cF e0 d4 (wp_exit (s2 _ _ _ rfl ?_))
     obtain rfl := someI I
     exact s0 _ _ _ _ rfl rfl (q2 _ _ _ d0 d1 b0 d2 d3 b (r8 _ rfl))
   have t4 : ∀ (f : FV) (w : World), f 4 = .bool false → St w0 ros rs w → .inr () = g7 → g5 .ret (fr 156 f) w := by
    intro f w t5 b ho
    subst ho
    refine g6 _ _ _ (o5 _ _ _ rfl ?_)
    obtain rfl := someI g
    exact b6 _ _ _ (fin1r Try.results4 ⟨rfl, t5⟩ ⟨rfl, b⟩)
   replace b := b.rowNh 47 rTi64i64u64
   refine loopQ (fun s a w => ∃ (d7 : List (Int × Int × Int)) (u : Int) (f : FV) (d8 : Hdr), (d7, u) = s ∧ a = fr 156 f ∧ f 0 = iV j ∧ f 5 = (pB B) ∧ f 6 = (pB o) ∧ f 8 = t.v ∧ f 10 = d8.v ∧ f 11 = iV u ∧ St w0 (imm S1 x.v T :: imm I1 k.v c.1 :: imm I1 i.v c.2.1 :: imm I1 h.v c.2.2.1 :: ros) (box B 27 [x.v] :: box o 38 [k.v, i.v, h.v] :: row 3 I1 t.v C.1 :: row 47 rTi64i64u64 d8.v d7 :: rs) w) o7 ⟨_, _, _, _, rfl, rfl, n8, n9, o0, o1, rfl, rfl, (b.pk 4 [1, 1, 1, 0] rfl)⟩ ?_
   rintro _ _ w C1 ⟨d7, u, f, d8, rfl, rfl, d9, t6, h7, t7, h9, i0, b⟩ S i1 C2 t8 i2
   refine seqQ fun C3 t9 u0 => sR fun _ u1 => Ym (iV u) (eh i0) (Ym (iV j) (eh d9) (yY (ylss e0 e0) (wK u1 ?_)))
   rcases iteS S with ⟨e1, S⟩ | ⟨e1, S⟩
   ·refine cT e0 e1 (wp_skip (t9 _ _ (seqQ fun C4 u2 u3 => blockQ fun _ i3 => sR fun _ u4 => Ya (iV 0) rfl (wK u4 (blockQ fun i4 i5 => ?_)))))
    obtain ⟨i6, u5, S⟩ := bs S
    have u6 : ∀ (e2 : List (Int × Int × Int)) (e3 : Hdr) (f : FV) (w : World), f 0 = iV j → f 5 = (pB B) → f 6 = (pB o) → f 8 = t.v → f 10 = e3.v → f 11 = iV u → St w0 (imm S1 x.v T :: imm I1 k.v c.1 :: imm I1 i.v c.2.1 :: imm I1 h.v c.2.2.1 :: ros) (box B 27 [x.v] :: box o 38 [k.v, i.v, h.v] :: row 3 I1 t.v C.1 :: row 47 rTi64i64u64 e3.v e2 :: rs) w → .inl e2 = i6 → i4 (.exit 2) (fr 156 f) w := by
     intro e2 e3 f w u7 u8 u9 v0 v1 v2 b ho
     subst ho
     refine i5 _ _ _ (i3 _ _ _ (u2 _ _ (wR (Ym (iV u) (eh v2) (yY (yadd e0 rfl) (Ya (iV (wa .i64 u 1)) e0 (wN ?_)))))))
     obtain rfl := someI S
     exact t8 _ _ _ rfl ⟨_, _, _, _, rfl, rfl, u7, u8, u9, v0, v1, rfl, b⟩
    have v3 : ∀ (f : FV) (w : World), f 4 = .bool false → St w0 ros rs w → .inr () = i6 → i4 .ret (fr 156 f) w := by
     intro f w v4 b ho
     subst ho
     refine i5 _ _ _ (i3 _ _ _ (u3 _ _ _ rfl ?_))
     obtain rfl := someI S
     exact i2 _ _ _ _ rfl rfl (t4 _ _ v4 b (i1 _ rfl))
    refine loopQ (fun s a w => ∃ (c1 : List (Int × Int × Int)) (J : Int) (f : FV) (a4 : Hdr), (c1, J) = s ∧ a = fr 156 f ∧ f 0 = iV j ∧ f 5 = (pB B) ∧ f 6 = (pB o) ∧ f 8 = t.v ∧ f 10 = a4.v ∧ f 11 = iV u ∧ f 12 = iV J ∧ St w0 (imm S1 x.v T :: imm I1 k.v c.1 :: imm I1 i.v c.2.1 :: imm I1 h.v c.2.2.1 :: ros) (box B 27 [x.v] :: box o 38 [k.v, i.v, h.v] :: row 3 I1 t.v C.1 :: row 47 rTi64i64u64 a4.v c1 :: rs) w) u5 ⟨_, _, _, _, rfl, rfl, d9, t6, h7, t7, h9, i0, rfl, b⟩ ?_
    rintro _ _ w v5 ⟨c1, J, f, a4, rfl, rfl, e4, b1, e5, b2, e6, a5, c2, b⟩ m i7 C5 v6 i8
    refine seqQ fun C6 v7 v8 => sR fun _ v9 => Ym (iV J) (eh c2) (yY (yFb FL_27_0 (eh b1)) (yY (lb_ x.v O_25 e0 b R0) (Ym (iV u) (eh a5) ?_)))
    obtain ⟨C7, i9, m⟩ := bs m
    refine yY (yIa SL_25 e0 e0 b (rdI F0) i9) ?_
    obtain ⟨C8, b⟩ := iLs b F0 i9
    refine yY (yCt O_22 e0 b F1 rfl) (yY (yLen SL_22 e0 b (rdI F0)) (yY (ylss e0 e0) (wK v9 ?_)))
    rcases iteS m with ⟨e7, m⟩ | ⟨e7, m⟩
    ·refine cT e0 e7 (wp_skip (v7 _ _ (seqQ fun w1 w2 w3 => ?_)))
     have j0 : ∀ (e8 : List (Int × Int × Int)) (e9 : Hdr) (f : FV) (w : World), f 0 = iV j → f 5 = (pB B) → f 6 = (pB o) → f 8 = t.v → f 10 = e9.v → f 11 = iV u → f 12 = iV J → St w0 (imm S1 x.v T :: imm I1 k.v c.1 :: imm I1 i.v c.2.1 :: imm I1 h.v c.2.2.1 :: ros) (box B 27 [x.v] :: box o 38 [k.v, i.v, h.v] :: row 3 I1 t.v C.1 :: row 47 rTi64i64u64 e9.v e8 :: rs) w → sparselaw18_DissectSmallest_j82 J e8 = some v5 → w1 .normal (fr 156 f) w := by
      intro e8 e9 f w w4 w5 w6 w7 w8 w9 x0 b g
      refine w2 _ _ (wR (Ym (iV J) (eh x0) (yY (yadd e0 rfl) (Ya (iV (wa .i64 J 1)) e0 (wN ?_)))))
      obtain rfl := someI g
      exact v6 _ _ _ rfl ⟨_, _, _, _, rfl, rfl, w4, w5, w6, w7, w8, w9, rfl, b⟩
     refine blockQ fun _ f0 => sR fun _ x3 => yY (yFb FL_27_0 (eh b1)) (yY (lb_ x.v O_25 e0 b R0) (Ym (iV u) (eh a5) ?_))
     obtain ⟨C9, j2, m⟩ := bs m
     refine yY (yIa SL_25 e0 e0 b (rdI F2) j2) ?_
     obtain ⟨D0, b⟩ := iLs b F2 j2
     refine yY (yCt O_22 e0 b F1 rfl) (Ym (iV J) (eh c2) ?_)
     obtain ⟨L, j3, m⟩ := bs m
     refine yY (yIa SL_22 e0 e0 b (rdI F0) j3) (yY (yI O_3 e0 b (rdI F0) j3) (Ya (iV L) e0 (wK x3 (seqQ fun D1 x4 x5 => sR fun _ x6 => Ym t.v (eh b2) (Ym (iV u) (eh a5) ?_)))))
     obtain ⟨x7, j4, m⟩ := bs m
     refine yY (yIa SL_22 e0 e0 b rO2 j4) (yY (yI O_3 e0 b rO2 j4) (yY (yneq e0 rfl) (Ym (.bool (!(decide (x7 = 0)))) e0 ?_)))
     obtain ⟨x8, W, m⟩ := bs m
     refine joinW 6 (fun f w => f 0 = iV j ∧ f 5 = (pB B) ∧ f 6 = (pB o) ∧ f 8 = t.v ∧ f 10 = a4.v ∧ f 11 = iV u ∧ f 12 = iV J ∧ f 13 = iV L ∧ f 98 = .bool x8 ∧ St w0 (imm S1 x.v T :: imm I1 k.v c.1 :: imm I1 i.v c.2.1 :: imm I1 h.v c.2.2.1 :: ros) (box B 27 [x.v] :: box o 38 [k.v, i.v, h.v] :: row 3 I1 t.v C.1 :: row 47 rTi64i64u64 a4.v c1 :: rs) w) (fun j5 => ?_) ?_
     ·rcases iteS W with ⟨F, W⟩ | ⟨F, W⟩
      ·refine yG (nF (dT F)) (m_ t.v (eh b2)) (yG (nF (dT F)) (m_ (iV L) e0) ?_)
       obtain ⟨x9, j6, W⟩ := bs W
       refine yG (nF (dT F)) (yIa SL_22 e0 e0 b rO2 j6) (yG (nF (dT F)) (yI O_3 e0 b rO2 j6) (yG (nF (dT F)) (yneq e0 rfl) (yY (pf_ (.bool (!(decide (x9 = 1)))) e0 (nF (dT F)) e0) ?_)))
       obtain rfl := someI W
       exact j5 _ _ ⟨e4, b1, e5, b2, e6, a5, c2, rfl, rfl, (b.facts (allC F4 (allC F5 (allC F6 (allC F7 (allT (allT (allT (allT (allT (allT (allT (allT allI)))))))))))))⟩
      ·refine gN (nT (dF F)) (gN (nT (dF F)) (gN (nT (dF F)) (gN (nT (dF F)) (gN (nT (dF F)) (yY (pt_ (.bool true) e0 (nT (dF F)) rfl) ?_)))))
       obtain rfl := someI W
       exact j5 _ _ ⟨e4, b1, e5, b2, e6, a5, c2, rfl, rfl, (b.facts (allC F4 (allC F5 (allC F6 (allC F7 (allT (allT (allT (allT (allT (allT (allT (allT allI)))))))))))))⟩
     rintro f w ⟨f1, f2, b3, f3, j7, b4, f4, j8, j9, b⟩
     refine wK x6 ?_
     rcases iteS m with ⟨f5, m⟩ | ⟨f5, m⟩
     ·exact condT (eh j9) f5 (wp_exit (x5 _ _ _ rfl (f0 _ _ _ (j0 _ _ _ _ f1 f2 b3 f3 j7 b4 f4 b m))))
     ·refine condF (eh j9) (bfalse f5) (wp_skip (x4 _ _ (sR fun _ y0 => Ym a4.v (eh j7) (Ym (iV u) (eh b4) (Ym (iV L) (eh j8) (yY (ybuild (us := [iV u, iV L, .int .u64 0]) [(0, iV u), (1, iV L)] SO_47 (bp2 e0 e0) rfl) (YH wn rfl (rLt (n := 1) (l := [(u, L, 0)]) b SL_43 [.agg #[iV u, iV L, .int .u64 0]] (bp1 e0) rfl rfl (mks1 (cs := [iV u, iV L, .int .u64 0]) rfl (mkF rfl) mks0)) ?_)))))))
      intro D2 w b
      obtain ⟨y1, y2, m⟩ := bs m
      replace b := b.pk 5 [4, 0, 0, 0, 0] rfl
      refine YH wn rfl (rAp b SL_43 e0 e0 rO1 y2) ?_
      intro f6 w b
      refine Ya f6.v e0 (wK y0 (sR fun _ y3 => yY (yFb FL_38_2 (eh b3)) (yY (lb_ h.v O_22 e0 b R3) (Ym (iV u) (eh b4) ?_))))
      obtain ⟨y4, y5, m⟩ := bs m
      refine Yc wn rfl (yCall FN_11 (a2 e0 e0)) (sparsekit_In_ok y5 F3 b) ?_
      rintro _ w ⟨rfl, b⟩
      refine ⟨_, rfl, ?_⟩
      refine yY (ynot e0) (Ym (.bool (!y4)) e0 ?_)
      obtain ⟨y6, X, m⟩ := bs m
      refine joinW 6 (fun f w => f 0 = iV j ∧ f 5 = (pB B) ∧ f 6 = (pB o) ∧ f 8 = t.v ∧ f 10 = f6.v ∧ f 11 = iV u ∧ f 12 = iV J ∧ f 116 = .bool y6 ∧ St w0 (imm S1 x.v T :: imm I1 k.v c.1 :: imm I1 i.v c.2.1 :: imm I1 h.v c.2.2.1 :: ros) (box B 27 [x.v] :: box o 38 [k.v, i.v, h.v] :: row 3 I1 t.v C.1 :: row 47 rTi64i64u64 f6.v y1 :: rs) w) (fun k0 => ?_) ?_
      ·rcases iteS X with ⟨G, X⟩ | ⟨G, X⟩
       ·refine gN (nF G) (gN (nF G) (gN (nF G) (gN (nF G) (gN (nF G) (yY (pf_ (.bool false) e0 (nF G) rfl) ?_)))))
        obtain rfl := someI X
        exact k0 _ _ ⟨f1, f2, b3, f3, rfl, b4, f4, rfl, (b.pk 5 [2, 2, 2, 0] rfl)⟩
       ·refine yG (nT (bfalse G)) (yFb FL_38_2 (eh b3)) (yG (nT (bfalse G)) (lb_ h.v O_22 e0 b R3) (yG (nT (bfalse G)) (m_ (iV L) (eh j8)) ?_))
        obtain ⟨y7, y8, X⟩ := bs X
        refine Yc (wG (nT (bfalse G))) rfl (yCall FN_11 (a2 e0 e0)) (sparsekit_In_ok y8 F3 b) ?_
        rintro _ w ⟨rfl, b⟩
        refine ⟨_, rfl, ?_⟩
        refine yG (nT (bfalse G)) (ynot e0) (yY (pt_ (.bool (!y7)) e0 (nT (bfalse G)) e0) ?_)
        obtain rfl := someI X
        exact k0 _ _ ⟨f1, f2, b3, f3, rfl, b4, f4, rfl, (b.pk 5 [2, 2, 2, 0] rfl)⟩
      rintro f w ⟨y9, z0, z1, z3, z4, z5, z6, l0, b⟩
      refine wK y3 ?_
      rcases iteS m with ⟨f7, m⟩ | ⟨f7, m⟩
      ·refine condT (eh l0) f7 (sR fun _ z7 => Ya (.bool false) rfl (wK z7 (wp_ret (f0 _ _ _ (w3 _ _ _ rfl ?_)))))
       obtain rfl := someI m
       exact i8 _ _ _ _ rfl rfl (v3 _ _ rfl ((b.pk 4 [] rfl).facts (allT (allT (allT (allT allI))))) (i7 _ rfl))
      ·exact condF (eh l0) (bfalse f7) (wp_skip (f0 _ _ _ (j0 _ _ _ _ y9 z0 z1 z3 z4 z5 z6 b m)))
    ·refine cF e0 e7 (wp_exit (v8 _ _ _ rfl ?_))
     obtain rfl := someI m
     exact i8 _ _ _ _ rfl rfl (u6 _ _ _ _ e4 b1 e5 b2 e6 a5 (b.facts (allC F2 (allC F3 (allC F4 (allC F5 (allT (allT (allT (allT (allT (allT allI))))))))))) (i7 _ rfl))
   ·refine cF e0 e1 (wp_exit (u0 _ _ _ rfl ?_))
    obtain rfl := someI S
    exact i2 _ _ _ _ rfl rfl (o8 _ _ _ _ d9 h7 h9 ((b.pk 4 [1, 2] rfl).facts (allC F1 (allC F2 (allC F3 (allT (allT (allT (allT allI)))))))) (i1 _ rfl))
end Go.Proofs.Ythpeajepbffinaa
