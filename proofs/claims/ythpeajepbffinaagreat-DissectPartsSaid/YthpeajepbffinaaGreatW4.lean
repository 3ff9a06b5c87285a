/- Walks: each function computes its model, printed. -/
import Derived.Test.YthpeajepbffinaaGreatW3
namespace Go.Proofs.YthpeajepbffinaaGreat
open Go Sx M
set_option maxRecDepth 100000
set_option maxHeartbeats 40000000
set_option linter.unusedVariables false
attribute [local irreducible] wpList Code.wp Calls DR QR QS LA LS St
variable {w0 : World} {ros : List Fact} {rs : List Res} {w : World}
theorem sparsekit_Place_ok {a b out : Int} (c : sparsekit_Place a b = some out) (d : St w0 ros rs w) :
  Calls Tryz.prog 10 #[iV a, iV b] w (fun e w => e = .returned (iV out) ∧ St w0 ros rs w) := by
 refine enterQ Tryz.func10 rfl Tryz.ntmps10 rfl fun Q f => sR fun _ g => Ya (iV 0) rfl (wK g (sR fun _ h => Ym (iV a) e0 (yY (ycv (k' := .u64) (by kernel_rfl) (by kernel_rfl) e0) (Ym (iV b) e0 (yY (ycv (k' := .u64) (by kernel_rfl) (by kernel_rfl) e0) ?_)))))
 obtain ⟨i, j, c⟩ := bs c
 refine yY (yrem e0 e0 j) (yY (ycv (k' := .i64) (by kernel_rfl) (by kernel_rfl) e0) (Ya (iV (wc .i64 i)) e0 (wK h (wp_ret ?_))))
 obtain rfl := someI c
 exact f _ _ _ (fin1r Tryz.results10 ⟨rfl, rfl⟩ ⟨rfl, d⟩)
theorem sparseref12_FromTable_ok {V : List (List Bool)} {m : Hdr} {out : L2} (D : sparseref12_FromTable V = some out) (A : imm SB m.v V ∈ ros) (b : St w0 ros rs w) :
  Calls Tryz.prog 67 #[m.v] w (fun e w => ∃ (W : Hdr), e = .returned (.agg #[W.v]) ∧ St w0 ros (row 22 S1 W.v out :: rs) w) := by
 refine enterQ Tryz.func67 rfl Tryz.ntmps67 rfl fun Q c0 => sR fun _ c1 => YB wn rfl (rAl b ZT_26) ?_
 intro i w b
 refine wK c1 (sR fun _ c2 => YB wn rfl (rAl b ZT_26) ?_)
 intro j w b
 refine wK c2 (sQ fun _ c3 => sR fun _ c4 => Ya (iV 0) rfl (wK c4 (blockQ fun c5 c6 => ?_)))
 obtain ⟨c7, c8, D⟩ := bs D
 have c9 : ∀ (J : L2) (B : Hdr) (f : FV) (w : World), f 2 = (pB i) → f 3 = (pB j) → St w0 ros (box i 26 [hnil.v] :: row 22 S1 B.v J :: box j 26 [B.v] :: rs) w → J = c7 → c5 (.exit 0) (fr 51 f) w := by
  intro J B f w X d0 b ho
  subst ho
  refine c6 _ _ _ (c3 _ _ (sR fun _ d1 => yY (lbs_ [B.v] ST_26 (eh d0) b R2) (YT wn rfl (r_stbn (vals' := [B.v]) (us := [B.v]) b ST_26 (eh X) e0 rfl rfl (one_of rfl) rfl) ?_)))
  intro w b
  refine wK d1 (wp_ret ?_)
  obtain rfl := someI D
  exact c0 _ _ _ (fin1r Tryz.results67 (rcs2 rfl X b R0 ST_26 rfl) ⟨_, rfl, (b.pk 3 [1] rfl)⟩)
 replace b := b.rowNh 22 S1
 refine loopQ (fun s a w => ∃ (t : L2) (g : Int) (f : FV) (k : Hdr), (t, g) = s ∧ a = fr 51 f ∧ f 0 = m.v ∧ f 2 = (pB i) ∧ f 3 = (pB j) ∧ f 4 = iV g ∧ St w0 ros (box i 26 [hnil.v] :: row 22 S1 k.v t :: box j 26 [k.v] :: rs) w) c8 ⟨_, _, _, _, rfl, rfl, rfl, rfl, rfl, rfl, (b.pk 3 [2, 0, 0] rfl)⟩ ?_
 rintro _ _ w i6 ⟨t, g, f, k, rfl, rfl, Z, a0, a1, a2, b⟩ q d2 i7 d3 d4
 refine seqQ fun i8 d5 d6 => sR fun _ d7 => Ym (iV g) (eh a2) (Ym m.v (eh Z) (yY (yLen SL_98 e0 b (rdI A)) (yY (ylss e0 e0) (wK d7 ?_))))
 rcases iteS q with ⟨K, q⟩ | ⟨K, q⟩
 ·refine cT e0 K (wp_skip (d5 _ _ (sQ fun _ d8 => blockQ fun _ d9 => sR fun _ e1 => Ya hnil.v rfl (wK e1 (sQ fun _ e2 => sR fun _ e3 => Ya (iV 0) rfl ?_)))))
  refine wK e3 (blockQ fun e4 e5 => ?_)
  obtain ⟨e6, e7, q⟩ := bs q
  have e8 : ∀ (F : LI) (C : Hdr) (f : FV) (w : World), f 0 = m.v → f 2 = (pB i) → f 3 = (pB j) → f 4 = iV g → f 5 = C.v → St w0 ros (box i 26 [hnil.v] :: row 22 S1 k.v t :: box j 26 [k.v] :: row 3 I1 C.v F :: rs) w → F = e6 → e4 (.exit 2) (fr 51 f) w := by
   intro F C f w e9 f0 L f1 f2 b ho
   subst ho
   refine e5 _ _ _ (e2 _ _ (wR (yY (yFb FL_26_0 (eh L)) (yY (lb_ k.v O_24 e0 b R2) (Ym C.v (eh f2) ?_)))))
   replace b := b.pk 4 [3, 0, 0, 0] rfl
   replace b := b.fz
   refine YH wn rfl (rLt (n := 1) (l := [F]) b SL_24 [C.v] (bp1 e0) rfl rfl (mks1 (cs := [C.v]) rfl (mkS F0) mks0)) ?_
   intro i9 w b
   obtain ⟨j0, f3, q⟩ := bs q
   replace b := b.pk 3 [2, 0, 0] rfl
   refine YH wn rfl (rAp b SL_24 e0 e0 rO1 f3) ?_
   intro f4 w b
   refine yY (yFb FL_26_0 (eh L)) ?_
   replace b := b.pk 4 [3, 0, 0, 0] rfl
   refine YT wn rfl (r_stb1 (vals' := [f4.v]) b O_24 e0 e0 rfl rfl rfl rfl) ?_
   intro w b
   refine wN (d9 _ _ _ (d8 _ _ (wR (Ym (iV g) (eh f1) (yY (yadd e0 rfl) (Ya (iV (wa .i64 g 1)) e0 (wN ?_)))))))
   obtain rfl := someI q
   exact d3 _ _ _ rfl ⟨_, _, _, _, rfl, rfl, e9, f0, L, rfl, ((b.pk 4 [3, 1, 0] rfl).facts (allT allI))⟩
  replace b := b.rowNh 3 I1
  refine loopQ (fun s a w => ∃ (E : LI) (d : Int) (f : FV) (u : Hdr), (E, d) = s ∧ a = fr 51 f ∧ f 0 = m.v ∧ f 2 = (pB i) ∧ f 3 = (pB j) ∧ f 4 = iV g ∧ f 5 = u.v ∧ f 6 = iV d ∧ St w0 ros (box i 26 [hnil.v] :: row 22 S1 k.v t :: box j 26 [k.v] :: row 3 I1 u.v E :: rs) w) e7 ⟨_, _, _, _, rfl, rfl, Z, a0, a1, a2, rfl, rfl, (b.pk 4 [1, 1, 1, 0] rfl)⟩ ?_
  rintro _ _ w f5 ⟨E, d, f, u, rfl, rfl, x, G, H, y, I, z, b⟩ o f6 j1 f7 f8
  refine seqQ fun j2 f9 g0 => sR fun _ g1 => Ym (iV d) (eh z) (Ym m.v (eh x) (yY (yLen SL_98 e0 b (rdI A)) (yY (ylss e0 e0) (wK g1 ?_))))
  rcases iteS o with ⟨N, o⟩ | ⟨N, o⟩
  ·refine cT e0 N (wp_skip (f9 _ _ (sQ fun _ g2 => blockQ fun g3 g4 => sR fun _ g5 => Ym (iV g) (eh y) (Ym (iV d) (eh z) (yY (yneq e0 e0) (Ym (.bool (!(decide (g = d)))) e0 ?_))))))
   obtain ⟨g6, p, o⟩ := bs o
   refine joinW 17 (fun f w => f 0 = m.v ∧ f 2 = (pB i) ∧ f 3 = (pB j) ∧ f 4 = iV g ∧ f 5 = u.v ∧ f 6 = iV d ∧ f 39 = .bool g6 ∧ St w0 ros (box i 26 [hnil.v] :: row 22 S1 k.v t :: box j 26 [k.v] :: row 3 I1 u.v E :: rs) w) (fun a3 => ?_) ?_
   ·rcases iteS p with ⟨c, p⟩ | ⟨c, p⟩
    ·refine gN (nF (dT c)) (gN (nF (dT c)) (gN (nF (dT c)) (gN (nF (dT c)) (gN (nF (dT c)) (gN (nF (dT c)) (gN (nF (dT c)) (gN (nF (dT c)) (Gn (wxu rfl rfl rfl) rfl (Gn (wxu rfl rfl rfl) rfl (Gn (wxu rfl rfl rfl) rfl (Gn (wxu rfl rfl rfl) rfl (Gn (wxu rfl rfl rfl) rfl (Gn (wxu rfl rfl rfl) rfl ?_)))))))))))))
     refine Gn (wxu rfl rfl rfl) rfl (gN (nF (dT c)) (yY (pf_ (.bool false) e0 (nF (dT c)) rfl) ?_))
     obtain rfl := someI p
     exact a3 _ _ ⟨x, G, H, y, I, z, rfl, b⟩
    ·refine yG (nT (dF c)) (m_ m.v (eh x)) (yG (nT (dF c)) (m_ (iV g) (eh y)) ?_)
     obtain ⟨g7, a4, p⟩ := bs p
     refine yG (nT (dF c)) (yIa SL_98 e0 e0 b (rdI A) a4) ?_
     obtain ⟨a5, b⟩ := iLs b A a4
     refine yG (nT (dF c)) (yCt O_93 e0 b F1 rfl) (yG (nT (dF c)) (m_ (iV d) (eh z)) ?_)
     obtain ⟨O, a6, p⟩ := bs p
     refine yG (nT (dF c)) (yIa SL_93 e0 e0 b (rdI F0) a6) (yG (nT (dF c)) (yB O_4 e0 b (rdI F0) a6) (yG (nT (dF c)) (m_ (.bool O) e0) ?_))
     obtain ⟨a7, r, p⟩ := bs p
     refine joinW 8 (fun f w => f 0 = m.v ∧ f 2 = (pB i) ∧ f 3 = (pB j) ∧ f 4 = iV g ∧ f 5 = u.v ∧ f 6 = iV d ∧ f 22 = .bool (!(decide (g = d))) ∧ f 23 = m.v ∧ f 24 = iV g ∧ f 26 = a5.v ∧ f 27 = iV d ∧ f 29 = .bool O ∧ f 30 = .bool O ∧ f 38 = .bool a7 ∧ St w0 (imm rB a5.v g7 :: ros) (box i 26 [hnil.v] :: row 22 S1 k.v t :: box j 26 [k.v] :: row 3 I1 u.v E :: rs) w) (fun a8 => ?_) ?_
     ·rcases iteS r with ⟨h, r⟩ | ⟨h, r⟩
      ·refine gN h (gN h (gN h (gN h (gN h (gN h (gN h (yG (nT (dF c)) (pt_ (.bool true) e0 h rfl) ?_)))))))
       obtain rfl := someI r
       exact a8 _ _ ⟨x, G, H, y, I, z, rfl, rfl, rfl, rfl, rfl, rfl, rfl, rfl, (b.facts (allC F0 (allT (allT allI))))⟩
      ·refine yG (bfalse h) (m_ m.v (eh x)) (yG (bfalse h) (m_ (iV d) (eh z)) ?_)
       obtain ⟨j3, a9, r⟩ := bs r
       refine yG (bfalse h) (yIa SL_98 e0 e0 b (rdI (F_2 A)) a9) ?_
       obtain ⟨j4, b⟩ := iLs b (F_2 A) a9
       refine yG (bfalse h) (yCt O_93 e0 b F1 rfl) (yG (bfalse h) (m_ (iV g) (eh y)) ?_)
       obtain ⟨g8, b0, r⟩ := bs r
       refine yG (bfalse h) (yIa SL_93 e0 e0 b (rdI F0) b0) (yG (bfalse h) (yB O_4 e0 b (rdI F0) b0) (yG (nT (dF c)) (pf_ (.bool g8) e0 (bfalse h) e0) ?_))
       obtain rfl := someI r
       exact a8 _ _ ⟨x, G, H, y, I, z, rfl, rfl, rfl, rfl, rfl, rfl, rfl, rfl, (b.facts (allC F2 (allT (allT (allT (allT allI))))))⟩
     rintro f w ⟨g9, h0, h1, h3, h4, h5, h6, j5, j6, j7, j8, j9, k0, h7, b⟩
     refine yY (pt_ (.bool a7) (eh h6) (nT (dF c)) (eh h7)) ?_
     obtain rfl := someI p
     exact a3 _ _ ⟨g9, h0, h1, h3, h4, h5, rfl, (b.facts (allT allI))⟩
   rintro f w ⟨b1, b2, b5, b6, b7, R, b8, b⟩
   refine wK g5 ?_
   have b9 : ∀ (S : LI) (T : Hdr) (f : FV) (w : World), f 0 = m.v → f 2 = (pB i) → f 3 = (pB j) → f 4 = iV g → f 5 = T.v → f 6 = iV d → St w0 ros (box i 26 [hnil.v] :: row 22 S1 k.v t :: box j 26 [k.v] :: row 3 I1 T.v S :: rs) w → sparseref12_FromTable_j40 d S = some f5 → g3 .normal (fr 51 f) w := by
    intro S T f w h8 h9 i0 i1 i2 i3 b D
    refine g4 _ _ _ (g2 _ _ (wR (Ym (iV d) (eh i3) (yY (yadd e0 rfl) (Ya (iV (wa .i64 d 1)) e0 (wN ?_))))))
    obtain rfl := someI D
    exact f7 _ _ _ rfl ⟨_, _, _, _, rfl, rfl, h8, h9, i0, i1, i2, rfl, b⟩
   rcases iteS o with ⟨U, o⟩ | ⟨U, o⟩
   ·refine condT (eh b8) U (wR (Ym u.v (eh b7) (Ym (iV d) (eh R) (YH wn rfl (rLt (n := 1) (l := [d]) b SL_22 [iV d] (bp1 e0) rfl rfl (mks1 (cs := [iV d]) rfl mkI mks0)) ?_))))
    intro k5 w b
    obtain ⟨k6, i4, o⟩ := bs o
    replace b := b.pk 5 [4, 0, 0, 0, 0] rfl
    refine YH wn rfl (rAp b SL_22 e0 e0 rO1 i4) ?_
    intro i5 w b
    exact Ya i5.v e0 (wN (b9 _ _ _ _ b1 b2 b5 b6 rfl R (b.pk 5 [2, 2, 2, 0] rfl) o))
   ·exact condF (eh b8) (bfalse U) (wp_skip (b9 _ _ _ _ b1 b2 b5 b6 b7 R b o))
  ·refine cF e0 N (wp_exit (g0 _ _ _ rfl ?_))
   obtain rfl := someI o
   exact f8 _ _ _ _ rfl rfl (e8 _ _ _ _ x G H y I b (f6 _ rfl))
 ·refine cF e0 K (wp_exit (d6 _ _ _ rfl ?_))
  obtain rfl := someI q
  exact d4 _ _ _ _ rfl rfl (c9 _ _ _ _ a0 a1 b (d2 _ rfl))
theorem sparsemake_Graph_ok {d : Int} {u : LI} {i : Hdr} {out : L2} (p : sparsemake_Graph d u = some out) (q : imm I1 i.v u ∈ ros) (b : St w0 ros rs w) :
  Calls Tryz.prog 35 #[iV d, i.v] w (fun e w => ∃ (T : Hdr), e = .returned (.agg #[T.v]) ∧ St w0 ros (row 22 S1 T.v out :: rs) w) := by
 refine enterQ Tryz.func35 rfl Tryz.ntmps35 rfl fun Q b1 => sR fun _ b2 => YB wn rfl (rAl b ZT_26) ?_
 intro j w b
 refine wK b2 (sR fun _ b3 => Ya hnil.v rfl (wK b3 (sQ fun _ b5 => sR fun _ b6 => Ya (iV 0) rfl (wK b6 (blockQ fun b7 b8 => ?_)))))
 obtain ⟨b9, c0, p⟩ := bs p
 have c1 : ∀ (F : List (List Bool)) (g : Hdr) (k : List Hdr) (f : FV) (w : World), f 0 = iV d → f 1 = i.v → f 4 = (pB j) → f 5 = g.v → St w0 ros (box j 26 [hnil.v] :: row 93 rH g.v k :: fam 4 rB k F :: rs) w → F = b9 → b7 (.exit 0) (fr 48 f) w := by
  intro F g k f w c2 c3 c4 c5 b ho
  subst ho
  refine b8 _ _ _ (b5 _ _ (sQ fun _ c6 => sR fun _ c7 => Ya (iV 0) rfl (wK c7 (blockQ fun c8 c9 => ?_))))
  obtain ⟨d0, d1, p⟩ := bs p
  have d2 : ∀ (G : List (List Bool)) (f : FV) (w : World), f 4 = (pB j) → f 5 = g.v → St w0 ros (box j 26 [hnil.v] :: row 93 rH g.v k :: fam 4 rB k G :: rs) w → G = d0 → c8 (.exit 2) (fr 48 f) w := by
   intro G f w U d3 b ho
   subst ho
   refine c9 _ _ _ (c6 _ _ (sR fun _ d4 => Ym g.v (eh d3) ?_))
   obtain ⟨g0, d5, p⟩ := bs p
   replace b := b.pk 3 [1, 1, 0] rfl
   replace b := b.ffz
   refine Yc wn rfl (yCall FN_67 (a1 e0)) (sparseref12_FromTable_ok d5 F0 b) ?_
   rintro _ w ⟨V, rfl, b⟩
   refine ⟨_, rfl, ?_⟩
   replace b := b.pk 2 [1, 0] rfl
   refine YT wn rfl (r_stbn (vals' := [V.v]) (us := [V.v]) b ST_26 (eh U) e0 rfl rfl (one_of rfl) rfl) ?_
   intro w b
   refine wK d4 (wp_ret ?_)
   obtain rfl := someI p
   exact b1 _ _ _ (fin1r Tryz.results35 (rcs2 rfl U b R0 ST_26 rfl) ⟨_, rfl, ((b.pk 2 [1] rfl).facts (allT allI))⟩)
  refine loopQ (fun s a w => ∃ (y : List (List Bool)) (h : Int) (f : FV), (y, h) = s ∧ a = fr 48 f ∧ f 0 = iV d ∧ f 1 = i.v ∧ f 4 = (pB j) ∧ f 5 = g.v ∧ f 7 = iV h ∧ St w0 ros (box j 26 [hnil.v] :: row 93 rH g.v k :: fam 4 rB k y :: rs) w) d1 ⟨_, _, _, rfl, rfl, c2, c3, c4, c5, rfl, b⟩ ?_
  rintro _ _ w g1 ⟨y, h, f, rfl, rfl, H, I, W, X, J, b⟩ c d6 g2 d7 d8
  refine seqQ fun g3 d9 e1 => sR fun _ e2 => Ym (iV h) (eh J) (yY (yadd e0 rfl) (Ym i.v (eh I) (yY (yLen SL_22 e0 b (rdI q)) (yY (ylss e0 e0) (Ym (.bool (decide ((wa .i64 h 1) < (u.length : Int)))) e0 ?_)))))
  refine joinW 3 (fun f w => f 0 = iV d ∧ f 1 = i.v ∧ f 4 = (pB j) ∧ f 5 = g.v ∧ f 7 = iV h ∧ f 26 = .bool ((decide ((wa .i64 h 1) < (u.length : Int))) && (decide ((0 : Int) < d))) ∧ St w0 ros (box j 26 [hnil.v] :: row 93 rH g.v k :: fam 4 rB k y :: rs) w) (fun Z => ?_) ?_
  ·rcases Bool.eq_false_or_eq_true (decide ((wa .i64 h 1) < (u.length : Int))) with m | m
   ·exact yG m (m_ (iV d) (eh H)) (yG m (ygtr e0 rfl) (yY (pt_ (.bool (decide ((0 : Int) < d))) e0 m e0) (Z _ _ ⟨H, I, W, X, J, (congrArg Value.bool (andT m)), b⟩)))
   ·exact gN m (gN m (yY (pf_ (.bool false) e0 m rfl) (Z _ _ ⟨H, I, W, X, J, (congrArg Value.bool (andF m)), b⟩)))
  rintro f w ⟨z, A, a0, x, B, a3, b⟩
  refine wK e2 ?_
  rcases iteS c with ⟨K, c⟩ | ⟨K, c⟩
  ·refine condT (eh a3) K (wp_skip (d9 _ _ (sQ fun _ e3 => blockQ fun _ e4 => ?_)))
   obtain ⟨g4, a4, c⟩ := bs c
   obtain ⟨g5, e5, c⟩ := bs c
   obtain ⟨g6, L, c⟩ := bs c
   obtain ⟨g7, C, c⟩ := bs c
   obtain ⟨g8, e6, c⟩ := bs c
   obtain ⟨g9, a5, c⟩ := bs c
   obtain ⟨h0, e7, c⟩ := bs c
   refine dR [0, 0, 0, 6, 14, 0, 62, 127, 255, 0, 0, 1024, 3584, 7680, 0, 32382, 65535, 131071] [6, 15, 17] 3 folM ?_
   replace b := b.drew
   refine Dn [0, 1, 2, 3, 4, 5, 9, 10, 11, 12, 13, 14] [] [6] (yR rfl (m_ g.v (eh x)) (yR rfl (m_ i.v (eh A)) (yR rfl (m_ (iV h) (eh B)) (yR rfl (yIa SL_22 e0 e0 b (rdI q) a4) (yR rfl (yI O_3 e0 b (rdI q) a4) (yR rfl (m_ (iV d) (eh z)) (yR rfl (m_ i.v (eh A)) (yR rfl (m_ (iV h) (eh B)) (yR rfl (yadd e0 rfl) (yR rfl (yIa SL_22 e0 e0 b (rdI q) C) (yR rfl (yI O_3 e0 b (rdI q) C) (yR rfl (m_ (iV d) (eh z)) (Rn QSn ?_)))))))))))))
   refine Lc1 rfl ?_
   refine Lk wn (yCall FN_10 (a2 e0 e0)) (sparsekit_Place_ok e5 b) ?_
   rintro _ w ⟨rfl, b⟩
   refine ⟨_, rfl, ?_⟩
   refine Dn [7, 8] [0, 9, 10, 11, 12, 13, 14] [15] ?_
   obtain ⟨h1, r⟩ := b.famI R2 L
   refine yR rfl (yIa SLH_98 e0 e0 b rO1 r) (yR rfl (yF1 O_93 e0 b rO1 r rfl) (Rn (yS rfl (m_ g.v (eh x)) (yS rfl (m_ i.v (eh A)) (yS rfl (m_ (iV h) (eh B)) (yS rfl (yadd e0 rfl) (yS rfl (yIa SL_22 e0 e0 b (rdI q) C) (yS rfl (yI O_3 e0 b (rdI q) C) (yS rfl (m_ (iV d) (eh z)) QSn))))))) ?_))
   refine Lc1 rfl ?_
   refine Lk wn (yCall FN_10 (a2 e0 e0)) (sparsekit_Place_ok e6 b) ?_
   rintro _ w ⟨rfl, b⟩
   refine ⟨_, rfl, ?_⟩
   refine Dn [16] [0, 7, 8] [17] (yR rfl (yIs SL_93 e0 e0 b (rdF R2 r L) a5) (Rn (yS rfl (m_ g.v (eh x)) (yS rfl (yIa SLH_98 e0 e0 b rO1 r) (yS rfl (yF1 O_93 e0 b rO1 r rfl) QSn))) ?_))
   refine Lc1 rfl ?_
   replace b := b.pk 3 [2, 0, 0] rfl
   refine LT wn (r_sti (cs := [.bool true]) (b.foc r L) O_4 rfl e0 rfl rfl mkB a5) ?_
   intro w b
   replace b := b.unfoc' r e7
   refine Dz [] [] (Rn QSn (e4 _ _ _ (e3 _ _ (wR (Ym (iV h) (eh B) (yY (yadd e0 rfl) (Ya (iV (wa .i64 h 2)) e0 (wN ?_))))))))
   obtain rfl := someI c
   exact d7 _ _ _ rfl ⟨_, _, _, rfl, rfl, z, A, a0, x, rfl, (b.pk 3 [1, 1, 0] rfl)⟩
  ·refine condF (eh a3) (bfalse K) (wp_exit (e1 _ _ _ rfl ?_))
   obtain rfl := someI c
   exact d8 _ _ _ _ rfl rfl (d2 _ _ _ a0 x b (d6 _ rfl))
 replace b := ((b.rowNh 93 rH).fNew 4 rB).pk 2 [1, 0] rfl
 refine loopQ (fun s a w => ∃ (N : List (List Bool)) (t : Int) (f : FV) (D : Hdr) (O : List Hdr), (N, t) = s ∧ a = fr 48 f ∧ f 0 = iV d ∧ f 1 = i.v ∧ f 4 = (pB j) ∧ f 5 = D.v ∧ f 6 = iV t ∧ St w0 ros (box j 26 [hnil.v] :: row 93 rH D.v O :: fam 4 rB O N :: rs) w) c0 ⟨_, _, _, _, _, rfl, rfl, rfl, rfl, rfl, rfl, rfl, (b.pk 3 [2, 0, 0] rfl)⟩ ?_
 rintro _ _ w h2 ⟨N, t, f, D, O, rfl, rfl, E, a6, a7, a8, a9, b⟩ o e8 h4 e9 f0
 refine seqQ fun h5 f1 f2 => sR fun _ f3 => Ym (iV t) (eh a9) (Ym (iV d) (eh E) (yY (ylss e0 e0) (wK f3 ?_)))
 rcases iteS o with ⟨R, o⟩ | ⟨R, o⟩
 ·refine cT e0 R (wp_skip (f1 _ _ (sQ fun _ f4 => blockQ fun _ f5 => wR (Ym D.v (eh a8) (Ym (iV d) (eh E) ?_)))))
  obtain ⟨f6, f7, o⟩ := bs o
  refine YH wn rfl (rMk b SL_93 e0 f7) ?_
  intro S w b
  refine YH wn rfl (rLt (n := 1) (l := [S]) b SLH_98 [S.v] (bp1 e0) rfl rfl (mks1 rfl (mkF rfl) mks0)) ?_
  intro h6 w b
  obtain ⟨h7, b0, o⟩ := bs o
  replace b := b.pk 4 [3, 0, 0, 0] rfl
  obtain ⟨h8, ey82, f8⟩ := app_rep b0 (b.famL R4) (show [S].length = [f6].length from rfl)
  refine YH wn rfl (rAp b SLH_98 e0 e0 rO1 f8) ?_
  intro f9 w b
  replace b := b.pk 5 [2, 3, 0, 0, 0] rfl
  replace b := b.fPush
  rw [← ey82, ← (app_some b0).1] at b
  refine Ya f9.v e0 (wN (f5 _ _ _ (f4 _ _ (wR (Ym (iV t) (eh a9) (yY (yadd e0 rfl) (Ya (iV (wa .i64 t 1)) e0 (wN ?_))))))))
  obtain rfl := someI o
  exact e9 _ _ _ rfl ⟨_, _, _, _, _, rfl, rfl, E, a6, a7, rfl, rfl, (b.pk 4 [3, 1, 0] rfl)⟩
 ·refine cF e0 R (wp_exit (f2 _ _ _ rfl ?_))
  obtain rfl := someI o
  exact f0 _ _ _ _ rfl rfl (c1 _ _ _ _ _ E a6 a7 a8 b (e8 _ rfl))
theorem graph_NewSets_ok {h : Int} {out : (List (List Bool))} (i : graph_NewSets h = some out) (b : St w0 ros rs w) :
  Calls Tryz.prog 131 #[iV h] w (fun e w => ∃ (r : Hdr) (t : List Hdr), e = .returned (r.v) ∧ St w0 ros (row 93 rH r.v t :: fam 4 rB t out :: rs) w) := by
 refine enterQ Tryz.func131 rfl Tryz.ntmps131 rfl fun Q B => sR fun _ C => Ya hnil.v rfl (wK C (sR fun _ D => Ym (iV h) e0 ?_))
 obtain ⟨E, F, i⟩ := bs i
 obtain ⟨G, em3, H⟩ := mkL_rep F hnil
 refine YH wn rfl (rMk b SLH_136 e0 H) ?_
 intro c w b
 replace b := (b.fReps 4 rB G).pk 2 [1, 0] rfl
 rw [← em3] at b
 refine Ya c.v e0 (wK D (sQ fun _ I => sR fun _ J => Ym c.v e0 (yY (yLenF SLH_136 e0 b rO0 R1) (Ym (iV 0) rfl (wK J (blockQ fun K L => ?_))))))
 obtain ⟨N, O, i⟩ := bs i
 have R : ∀ (j : List (List Bool)) (k : List Hdr) (f : FV) (w : World), f 3 = c.v → St w0 ros (row 93 rH c.v k :: fam 4 rB k j :: rs) w → j = N → K (.exit 0) (fr 19 f) w := by
  intro j k f w S b ho
  subst ho
  refine L _ _ _ (I _ _ (sR fun _ T => Ym c.v (eh S) (Ya c.v e0 (wK T (wp_ret ?_)))))
  obtain rfl := someI i
  exact B _ _ _ (fin1r Tryz.results131 ⟨rfl, rfl⟩ ⟨_, _, rfl, b⟩)
 refine loopQ (fun s a w => ∃ (l : List (List Bool)) (g : Int) (f : FV) (m : List Hdr), (l, g) = s ∧ a = fr 19 f ∧ f 0 = iV h ∧ f 3 = c.v ∧ f 8 = iV (E.length : Int) ∧ f 9 = iV g ∧ St w0 ros (row 93 rH c.v m :: fam 4 rB m l :: rs) w) O ⟨_, _, _, _, rfl, rfl, rfl, rfl, rfl, rfl, b⟩ ?_
 rintro _ _ w a5 ⟨l, g, f, m, rfl, rfl, x, n, y, o, b⟩ d U a6 V W
 refine sR fun _ X => yY (ylss (eh o) (eh y)) (wK X (seqQ fun a7 Z a0 => ?_))
 rcases iteS d with ⟨p, d⟩ | ⟨p, d⟩
 ·refine cT e0 p (wp_skip (Z _ _ (sQ fun _ a1 => blockQ fun _ a2 => sR fun _ a3 => Ym (iV g) (eh o) (Ya (iV g) e0 (wK a3 (wR (Ym c.v (eh n) (Ym (iV g) e0 ?_))))))))
  refine Ym (iV h) (eh x) ?_
  obtain ⟨a8, a4, d⟩ := bs d
  refine YH wn rfl (rMk b SL_93 e0 a4) ?_
  intro z w b
  obtain ⟨a9, A, d⟩ := bs d
  obtain ⟨b0, q⟩ := setI_len (u := z) A (b.famL (mtR (mtR mhR)))
  refine yY (yIs SLH_136 e0 e0 b rO1 q) ?_
  replace b := b.pk 2 [1, 0] rfl
  refine YT wn rfl (r_sti (cs := [z.v]) b O_93 rfl e0 e0 rfl (mkF rfl) q) ?_
  intro w b
  replace b := b.pk 3 [1, 1, 0] rfl
  replace b := b.fput q A
  refine wN (a2 _ _ _ (a1 _ _ (wR (yY (yadd (eh o) rfl) (Ym (iV (wa .i64 g 1)) e0 (wN ?_))))))
  obtain rfl := someI d
  exact V _ _ _ rfl ⟨_, _, _, _, rfl, rfl, x, n, y, rfl, (b.pk 2 [1, 0] rfl)⟩
 ·refine cF e0 p (wp_exit (a0 _ _ _ rfl ?_))
  obtain rfl := someI d
  exact W _ _ _ _ rfl rfl (R _ _ _ _ n b (U _ rfl))
theorem graph_Sets_Join_ok {n : List (List Bool)} {c h : Int} {d : Hdr} {g : List Hdr} {out : (List (List Bool))} (b : graph_Sets_Join n c h = some out) (a : St w0 ros (row 93 rH d.v g :: fam 4 rB g n :: rs) w) :
  Calls Tryz.prog 127 #[d.v, iV c, iV h] w (fun e w => e = .returned (.tuple #[]) ∧ St w0 ros (row 93 rH d.v g :: fam 4 rB g out :: rs) w) := by
 refine enterQ Tryz.func127 rfl Tryz.ntmps127 rfl fun Q s => sR fun _ t => Ym (iV c) e0 (Ym (iV h) e0 (yY (yneq e0 e0) (wK t ?_)))
 have o : ∀ (k : List (List Bool)) (f : FV) (w : World), St w0 ros (row 93 rH d.v g :: fam 4 rB g k :: rs) w → graph_Sets_Join_j1 k = some out → Q .normal (fr 21 f) w := by
  intro k f w a b
  obtain rfl := someI b
  exact s _ _ _ (fin0n Tryz.results127 ⟨rfl, a⟩)
 rcases iteS b with ⟨l, b⟩ | ⟨l, b⟩
 ·exact condF e0 (nF (dT l)) (wp_skip (o _ _ _ a b))
 ·refine condT e0 (nT (dF l)) ?_
  obtain ⟨z, m, b⟩ := bs b
  obtain ⟨A, u, b⟩ := bs b
  obtain ⟨B, p, b⟩ := bs b
  obtain ⟨C, x, b⟩ := bs b
  obtain ⟨D, q, b⟩ := bs b
  obtain ⟨E, r, b⟩ := bs b
  obtain ⟨F, y, b⟩ := bs b
  refine dR [0, 0, 3, 7, 0, 0, 0, 96, 224, 0, 511, 1535, 4095, 8191] [11, 13] 2 folM ?_
  replace a := a.drew
  refine Dn [0, 1, 2, 3, 4, 5, 6, 7, 8, 9, 10] [] [11] (yR rfl (m_ d.v e0) (yR rfl (m_ (iV c) e0) ?_))
  obtain ⟨G, i⟩ := a.famI R1 m
  refine yR rfl (yIa SLH_136 e0 e0 a rO0 i) (yR rfl (yF1 O_93 e0 a rO0 i rfl) (yR rfl (m_ (iV h) e0) (yR rfl (m_ d.v e0) (yR rfl (m_ (iV h) e0) ?_))))
  obtain ⟨H, j⟩ := a.famI R1 u
  refine yR rfl (yIa SLH_136 e0 e0 a rO0 j) (yR rfl (yF1 O_93 e0 a rO0 j rfl) (yR rfl (m_ (iV c) e0) (yR rfl (yIs SL_93 e0 e0 a (rdF R1 i m) p) (Rn QSn ?_))))
  refine Lc1 rfl ?_
  replace a := a.pk 2 [1, 0] rfl
  refine LT wn (r_sti (cs := [.bool true]) (a.foc i m) O_4 rfl e0 rfl rfl mkB p) ?_
  intro w a
  replace a := a.unfoc' i x
  refine Dn [12] [9] [13] (yR rfl (yIs SL_93 e0 e0 a (rdF R0 j q) r) (Rn (yS rfl (m_ (iV c) e0) QSn) ?_))
  refine Lc1 rfl ?_
  refine LT wn (r_sti (cs := [.bool true]) (a.foc j q) O_4 rfl e0 rfl rfl mkB r) ?_
  intro w a
  replace a := a.unfoc' j y
  exact Dz [] [] (Rn QSn (o _ _ _ (a.pk 2 [1, 0] rfl) b))
theorem graph_Table_ok {k : L2} {i : Hdr} {out : (List (List Bool))} (l : graph_Table k = some out) (m : imm S1 i.v k ∈ ros) (b : St w0 ros rs w) :
  Calls Tryz.prog 126 #[.agg #[i.v]] w (fun e w => ∃ (B : Hdr) (C : List Hdr), e = .returned (B.v) ∧ St w0 ros (row 93 rH B.v C :: fam 4 rB C out :: rs) w) := by
 refine enterQ Tryz.func126 rfl Tryz.ntmps126 rfl fun Q T => sR fun _ U => YB wn rfl (r_box (vals := [i.v]) b e0 rfl) ?_
 intro d9 w b
 refine Ya hnil.v rfl (wK U (sR fun _ V => yY (yFb FL_26_0 e0) (yY (lb_ i.v O_24 e0 b R0) (yY (yLen SL_24 e0 b (rdI m)) ?_))))
 obtain ⟨e1, W, l⟩ := bs l
 refine Yc wn rfl (yCall FN_131 (a1 e0)) (graph_NewSets_ok W b) ?_
 rintro _ w ⟨c, j, rfl, b⟩
 refine ⟨_, rfl, ?_⟩
 refine Ya c.v e0 (wK V (sQ fun _ X => sR fun _ Z => yY (yFb FL_26_0 e0) (yY (lb_ i.v O_24 e0 b R2) (yY (yLen SL_24 e0 b (rdI m)) (Ym (iV 0) rfl (wK Z (blockQ fun a0 a2 => ?_)))))))
 obtain ⟨a4, a5, l⟩ := bs l
 have a6 : ∀ (q : List (List Bool)) (f : FV) (w : World), f 3 = c.v → St w0 ros (row 93 rH c.v j :: fam 4 rB j q :: rs) w → q = a4 → a0 (.exit 0) (fr 33 f) w := by
  intro q f w a7 b ho
  subst ho
  refine a2 _ _ _ (X _ _ (sR fun _ a8 => Ym c.v (eh a7) (Ya c.v e0 (wK a8 (wp_ret ?_)))))
  obtain rfl := someI l
  exact T _ _ _ (fin1r Tryz.results126 ⟨rfl, rfl⟩ ⟨_, _, rfl, b⟩)
 refine loopQ (fun s a w => ∃ (r : List (List Bool)) (d : Int) (f : FV), (r, d) = s ∧ a = fr 33 f ∧ f 3 = c.v ∧ f 13 = i.v ∧ f 14 = iV (k.length : Int) ∧ f 15 = iV d ∧ St w0 ros (row 93 rH c.v j :: fam 4 rB j r :: rs) w) a5 ⟨_, _, _, rfl, rfl, rfl, rfl, rfl, rfl, (b.pk 3 [0, 0] rfl)⟩ ?_
 rintro _ _ w e2 ⟨r, d, f, rfl, rfl, D, E, F, n, b⟩ g a9 e3 b0 b1
 refine sR fun _ b2 => yY (ylss (eh n) (eh F)) (wK b2 (seqQ fun e4 b4 b5 => ?_))
 rcases iteS g with ⟨t, g⟩ | ⟨t, g⟩
 ·refine cT e0 t (wp_skip (b4 _ _ (sQ fun _ b6 => blockQ fun _ b7 => sR fun _ b8 => Ym (iV d) (eh n) ?_)))
  obtain ⟨G, H, g⟩ := bs g
  refine yY (yIa SL_24 (eh E) (eh n) b (rdI m) H) ?_
  obtain ⟨o, b⟩ := iLs b m H
  refine yY (yCt O_22 e0 b F1 rfl) (Ya (iV d) e0 (Ya o.v e0 (wK b8 (sR fun _ b9 => Ym o.v e0 (yY (yLen SL_22 e0 b (rdI F0)) (Ym (iV 0) rfl (wK b9 (blockQ fun c0 c1 => ?_))))))))
  obtain ⟨c2, c3, g⟩ := bs g
  have c4 : ∀ (u : List (List Bool)) (f : FV) (w : World), f 3 = c.v → f 13 = i.v → f 14 = iV (k.length : Int) → f 15 = iV d → St w0 ros (row 93 rH c.v j :: fam 4 rB j u :: rs) w → u = c2 → c0 (.exit 2) (fr 33 f) w := by
   intro u f w c5 c6 c7 c8 b ho
   subst ho
   refine c1 _ _ _ (b7 _ _ _ (b6 _ _ (wR (yY (yadd (eh c8) rfl) (Ym (iV (wa .i64 d 1)) e0 (wN ?_))))))
   obtain rfl := someI g
   exact b0 _ _ _ rfl ⟨_, _, _, rfl, rfl, c5, c6, c7, rfl, b⟩
  refine loopQ (fun s a w => ∃ (x : List (List Bool)) (p : Int) (f : FV), (x, p) = s ∧ a = fr 33 f ∧ f 3 = c.v ∧ f 4 = iV d ∧ f 13 = i.v ∧ f 14 = iV (k.length : Int) ∧ f 15 = iV d ∧ f 20 = o.v ∧ f 21 = iV (G.length : Int) ∧ f 22 = iV p ∧ St w0 (imm I1 o.v G :: ros) (row 93 rH c.v j :: fam 4 rB j x :: rs) w) c3 ⟨_, _, _, rfl, rfl, D, rfl, E, F, n, rfl, rfl, rfl, (b.facts (allC F0 (allT (allT allI))))⟩ ?_
  rintro _ _ w e5 ⟨x, p, f, rfl, rfl, y, I, J, K, L, N, O, z, b⟩ h c9 e6 d0 d1
  refine sR fun _ d2 => yY (ylss (eh z) (eh O)) (wK d2 (seqQ fun e7 d3 d4 => ?_))
  rcases iteS h with ⟨A, h⟩ | ⟨A, h⟩
  ·refine cT e0 A (wp_skip (d3 _ _ (sQ fun _ d5 => blockQ fun _ d6 => sR fun _ d7 => ?_)))
   obtain ⟨R, S, h⟩ := bs h
   refine yY (yIa SL_22 (eh N) (eh z) b (rdI F0) S) (yY (yI O_3 e0 b (rdI F0) S) (Ya (iV R) e0 (wK d7 (wR (Ym c.v (eh y) (Ym (iV d) (eh I) (Ym (iV R) e0 ?_)))))))
   obtain ⟨e8, d8, h⟩ := bs h
   refine Yc wn rfl (yCall FN_127 (a3 e0 e0 e0)) (graph_Sets_Join_ok d8 b) ?_
   rintro _ w ⟨rfl, b⟩
   refine ⟨_, rfl, ?_⟩
   refine wN (d6 _ _ _ (d5 _ _ (wR (yY (yadd (eh z) rfl) (Ym (iV (wa .i64 p 1)) e0 (wN ?_))))))
   obtain rfl := someI h
   exact d0 _ _ _ rfl ⟨_, _, _, rfl, rfl, y, I, J, K, L, N, O, rfl, b⟩
  ·refine cF e0 A (wp_exit (d4 _ _ _ rfl ?_))
   obtain rfl := someI h
   exact d1 _ _ _ _ rfl rfl (c4 _ _ _ y J K L (b.facts (allT allI)) (c9 _ rfl))
 ·refine cF e0 t (wp_exit (b5 _ _ _ rfl ?_))
  obtain rfl := someI g
  exact b1 _ _ _ _ rfl rfl (a6 _ _ _ D b (a9 _ rfl))
theorem mindeg_Start_ok {o : L2} {b : Hdr} {out : (List (List Bool)) × (List Bool)} (g : mindeg_Start o = some out) (h : imm S1 b.v o ∈ ros) (a : St w0 ros rs w) :
  Calls Tryz.prog 108 #[.agg #[b.v]] w (fun e w => ∃ (p : Nat) (q : Hdr) (r : List Hdr) (s : Hdr), e = .returned (pB p) ∧ St w0 ros (row 93 rH q.v r :: fam 4 rB r out.1 :: row 4 rB s.v out.2 :: box p 138 [q.v, s.v] :: rs) w) := by
 refine enterQ Tryz.func108 rfl Tryz.ntmps108 rfl fun Q y => sR fun _ z => YB wn rfl (r_box (vals := [b.v]) a e0 rfl) ?_
 intro F w a
 refine Ya (.pointer none) rfl (wK z (sQ fun _ A => ?_))
 obtain ⟨B, t, g⟩ := bs g
 obtain ⟨C, u, g⟩ := bs g
 refine joinN (n := 11) (fun f w => ∃ (i : Nat) (j : Hdr) (k : List Hdr) (l : Hdr), f 2 = (pB i) ∧ St w0 ros (row 93 rH j.v k :: fam 4 rB k B :: row 4 rB l.v C :: box i 138 [j.v, l.v] :: rs) w) (fun x => ?_) ?_
 ·refine dR [0, 1, 0, 4, 12, 28, 63, 127, 255] [1, 5, 7, 8] 4 folM ?_
  replace a := a.drew
  refine Dn [0, 2, 3, 4] [] [1, 5] (yR rfl (lbs_ [b.v] ST_26 e0 a R0) (yR rfl (yFb FL_26_0 e0) (yR rfl (lb_ b.v O_24 e0 a R0) (yR rfl (yLen SL_24 e0 a (rdI h)) (Rn QSn ?_)))))
  refine Lc rfl ?_ (Lc1 rfl ?_)
  ·refine Lk wn (yCall FN_126 (a1 e0)) (graph_Table_ok t h a) ?_
   rintro _ w ⟨c, D, rfl, a⟩
   refine ⟨_, rfl, ?_⟩
   refine Dn [] [2, 3, 4] [5] (Rn (yS rfl (yFb FL_26_0 e0) (yS rfl (lb_ b.v O_24 e0 a R2) (yS rfl (yLen SL_24 e0 a (rdI h)) QSn))) ?_)
   refine Lc1 rfl ?_
   refine LH wn (rMk a SL_93 e0 u) ?_
   intro d w a
   refine Dn [6] [] [7] (yR rfl (ybuild (us := [c.v, d.v]) [(0, c.v), (1, d.v)] SO_138 (bp2 e0 e0) rfl) (Rn QSn ?_))
   refine Lc1 rfl ?_
   refine LB wn (r_box (vals := [c.v, d.v]) a e0 rfl) ?_
   intro m w a
   refine Dn [] [] [8] (Rn QSn ?_)
   refine Lc1 rfl ?_
   exact Ly wn (a_ (pB m) e0) (Dz [] [] (Rn QSn (x _ _ ⟨_, _, _, _, rfl, (a.pk 5 [2, 2, 1, 0] rfl)⟩)))
  ·refine LH wn (rMk a SL_93 e0 u) ?_
   intro d w a
   refine Dn [] [0] [1] (Rn (yS rfl (lbs_ [b.v] ST_26 e0 a R1) QSn) ?_)
   refine Lc1 rfl ?_
   refine Lk wn (yCall FN_126 (a1 e0)) (graph_Table_ok t h a) ?_
   rintro _ w ⟨c, D, rfl, a⟩
   refine ⟨_, rfl, ?_⟩
   refine Dn [6] [] [7] (yR rfl (ybuild (us := [c.v, d.v]) [(0, c.v), (1, d.v)] SO_138 (bp2 e0 e0) rfl) (Rn QSn ?_))
   refine Lc1 rfl ?_
   refine LB wn (r_box (vals := [c.v, d.v]) a e0 rfl) ?_
   intro m w a
   refine Dn [] [] [8] (Rn QSn ?_)
   refine Lc1 rfl ?_
   exact Ly wn (a_ (pB m) e0) (Dz [] [] (Rn QSn (x _ _ ⟨_, _, _, _, rfl, (a.pk 5 [1, 1, 1, 0] rfl)⟩)))
 rintro f w ⟨i, j, k, l, E, a⟩
 refine A _ _ (wp_ret ?_)
 obtain rfl := someI g
 exact y _ _ _ (fin1r Tryz.results108 ⟨rfl, E⟩ ⟨_, _, _, _, rfl, a⟩)
theorem graph_Sets_List_ok {C : List (List Bool)} {o : Int} {p : Hdr} {out : LI} (g : graph_Sets_List C o = some out) (D : imm SB p.v C ∈ ros) (b : St w0 ros rs w) :
  Calls Tryz.prog 109 #[p.v, iV o] w (fun e w => ∃ (E : Hdr), e = .returned (E.v) ∧ St w0 ros (row 3 I1 E.v out :: rs) w) := by
 refine enterQ Tryz.func109 rfl Tryz.ntmps109 rfl fun Q J => sR fun _ K => Ya hnil.v rfl (wK K (sR fun _ L => Ya hnil.v rfl (wK L (sQ fun _ N => sR fun _ O => ?_))))
 refine Ym p.v e0 (Ym (iV o) e0 ?_)
 obtain ⟨j, F, g⟩ := bs g
 refine yY (yIa SL_136 e0 e0 b (rdI D) F) ?_
 obtain ⟨k, b⟩ := iLs b D F
 refine yY (yCt O_93 e0 b F1 rfl) (yY (yLen SL_93 e0 b (rdI F0)) (Ym (iV 0) rfl (wK O (blockQ fun R S => ?_))))
 obtain ⟨T, U, g⟩ := bs g
 have V : ∀ (q : LI) (h : Hdr) (f : FV) (w : World), f 5 = h.v → St w0 ros (row 3 I1 h.v q :: rs) w → q = T → R (.exit 0) (fr 25 f) w := by
  intro q h f w W b ho
  subst ho
  refine S _ _ _ (N _ _ (sR fun _ X => Ym h.v (eh W) (Ya h.v e0 (wK X (wp_ret ?_)))))
  obtain rfl := someI g
  exact J _ _ _ (fin1r Tryz.results109 ⟨rfl, rfl⟩ ⟨_, rfl, b⟩)
 replace b := b.rowNh 3 I1
 refine loopQ (fun s a w => ∃ (r : LI) (d : Int) (f : FV) (m : Hdr), (r, d) = s ∧ a = fr 25 f ∧ f 5 = m.v ∧ f 11 = k.v ∧ f 12 = iV (j.length : Int) ∧ f 13 = iV d ∧ St w0 (imm rB k.v j :: ros) (row 3 I1 m.v r :: rs) w) U ⟨_, _, _, _, rfl, rfl, rfl, rfl, rfl, rfl, (b.facts (allC F0 (allT (allT allI))))⟩ ?_
 rintro _ _ w Z ⟨r, d, f, m, rfl, rfl, t, u, x, i, b⟩ c a0 b7 a1 a2
 refine sR fun _ a3 => yY (ylss (eh i) (eh x)) (wK a3 (seqQ fun b8 a4 a5 => ?_))
 rcases iteS c with ⟨y, c⟩ | ⟨y, c⟩
 ·refine cT e0 y (wp_skip (a4 _ _ (sQ fun _ a6 => blockQ fun a7 a8 => sR fun _ a9 => Ym (iV d) (eh i) ?_)))
  obtain ⟨G, H, c⟩ := bs c
  refine yY (yIa SL_93 (eh u) (eh i) b (rdI F0) H) (yY (yB O_4 e0 b (rdI F0) H) (Ya (iV d) e0 (Ya (.bool G) e0 (wK a9 (sR fun _ b0 => Ym (.bool G) e0 (wK b0 ?_))))))
  have I : ∀ (z : LI) (A : Hdr) (f : FV) (w : World), f 5 = A.v → f 11 = k.v → f 12 = iV (j.length : Int) → f 13 = iV d → St w0 (imm rB k.v j :: ros) (row 3 I1 A.v z :: rs) w → graph_Sets_List_j4 d z = some Z → a7 .normal (fr 25 f) w := by
   intro z A f w b1 b2 b3 b4 b g
   refine a8 _ _ _ (a6 _ _ (wR (yY (yadd (eh b4) rfl) (Ym (iV (wa .i64 d 1)) e0 (wN ?_)))))
   obtain rfl := someI g
   exact a1 _ _ _ rfl ⟨_, _, _, _, rfl, rfl, b1, b2, b3, rfl, b⟩
  rcases iteS c with ⟨B, c⟩ | ⟨B, c⟩
  ·refine condT e0 B (wR (Ym m.v (eh t) (Ym (iV d) e0 (YH wn rfl (rLt (n := 1) (l := [d]) b SL_22 [iV d] (bp1 e0) rfl rfl (mks1 (cs := [iV d]) rfl mkI mks0)) ?_))))
   intro b9 w b
   obtain ⟨c0, b5, c⟩ := bs c
   replace b := b.pk 2 [1, 0] rfl
   refine YH wn rfl (rAp b SL_22 e0 e0 rO1 b5) ?_
   intro b6 w b
   exact Ya b6.v e0 (wN (I _ _ _ _ rfl u x i (b.pk 2 [0] rfl) c))
  ·exact condF e0 (bfalse B) (wp_skip (I _ _ _ _ t u x i b c))
 ·refine cF e0 y (wp_exit (a5 _ _ _ rfl ?_))
  obtain rfl := someI c
  exact a2 _ _ _ _ rfl rfl (V _ _ _ _ t (b.facts (allT allI)) (a0 _ rfl))
theorem mindeg_Elimination_Eliminate_ok {O : List (List Bool)} {q : List Bool} {l : Int} {g : Nat} {h : Hdr} {j : List Hdr} {i : Hdr} {out : (List (List Bool)) × (List Bool) × LI} (n : mindeg_Elimination_Eliminate O q l = some out) (b : St w0 ros (box g 138 [h.v, i.v] :: row 93 rH h.v j :: fam 4 rB j O :: row 4 rB i.v q :: rs) w) :
  Calls Tryz.prog 110 #[(pB g), iV l] w (fun e w => ∃ (R : Hdr), e = .returned (R.v) ∧ St w0 (imm I1 R.v out.2.2 :: ros) (row 93 rH h.v j :: fam 4 rB j out.1 :: row 4 rB i.v out.2.1 :: box g 138 [h.v, i.v] :: rs) w) := by
 refine enterQ Tryz.func110 rfl Tryz.ntmps110 rfl fun Q b7 => sR fun _ k1 => Ya hnil.v rfl (wK k1 (sR fun _ b8 => Ym (pB g) e0 (yY (yn e0) (yY (yFb FL_138_0 e0) (yY (lb_ h.v O_136 e0 b R0) (Ym (iV l) e0 ?_))))))
 obtain ⟨o, b9, n⟩ := bs n
 have S := b
 replace b := b.pk 3 [1, 1, 0] rfl
 replace b := b.ffz
 have r := b.guest0
 replace b := S
 clear S
 refine Yc wn rfl (yCall FN_109 (a2 e0 e0)) (graph_Sets_List_ok b9 F0 r) ?_
 clear r
 rintro _ w ⟨d, rfl, r⟩
 replace b := b.back1 r
 clear r
 refine ⟨_, rfl, ?_⟩
 refine Ya d.v e0 (wK b8 (sQ fun _ c0 => sR fun _ c1 => Ym d.v e0 (yY (yLen SL_22 e0 b rO0) (Ym (iV 0) rfl (wK c1 (blockQ fun c2 c3 => ?_))))))
 obtain ⟨c4, c5, n⟩ := bs n
 have c6 : ∀ (z : List (List Bool)) (f : FV) (w : World), f 0 = (pB g) → f 1 = iV l → f 5 = d.v → St w0 (imm I1 d.v o :: ros) (row 93 rH h.v j :: fam 4 rB j z :: row 4 rB i.v q :: box g 138 [h.v, i.v] :: rs) w → z = c4 → c2 (.exit 0) (fr 65 f) w := by
  intro z f w c7 c8 c9 b ho
  subst ho
  refine c3 _ _ _ (c0 _ _ (sR fun _ d0 => Ym (pB g) (eh c7) (yY (yn e0) (yY (yFb FL_138_1 e0) (yY (lb_ i.v O_93 e0 b R3) (Ym (iV l) (eh c8) ?_))))))
  obtain ⟨g6, T, n⟩ := bs n
  refine yY (yIs SL_93 e0 e0 b rO2 T) ?_
  replace b := b.pk 3 [2, 0, 0] rfl
  refine YT wn rfl (r_sti (cs := [.bool true]) b O_4 rfl e0 rfl rfl mkB T) ?_
  intro w b
  refine wK d0 (sR fun _ d1 => Ym d.v (eh c9) (Ya d.v e0 (wK d1 (wp_ret ?_))))
  obtain rfl := someI n
  exact b7 _ _ _ (fin1r Tryz.results110 ⟨rfl, rfl⟩ ⟨_, rfl, (b.pk 4 [1, 1, 0, 0] rfl)⟩)
 replace b := b.fz
 refine loopQ (fun s a w => ∃ (A : List (List Bool)) (k : Int) (f : FV), (A, k) = s ∧ a = fr 65 f ∧ f 0 = (pB g) ∧ f 1 = iV l ∧ f 5 = d.v ∧ f 16 = d.v ∧ f 17 = iV (o.length : Int) ∧ f 18 = iV k ∧ St w0 (imm I1 d.v o :: ros) (row 93 rH h.v j :: fam 4 rB j A :: row 4 rB i.v q :: box g 138 [h.v, i.v] :: rs) w) c5 ⟨_, _, _, rfl, rfl, rfl, rfl, rfl, rfl, rfl, rfl, (b.pk 4 [1, 1, 1, 0] rfl)⟩ ?_
 rintro _ _ w g7 ⟨A, k, f, rfl, rfl, U, V, B, W, X, x, b⟩ c d2 g8 d3 d4
 refine sR fun _ d5 => yY (ylss (eh x) (eh X)) (wK d5 (seqQ fun g9 d6 d7 => ?_))
 rcases iteS c with ⟨C, c⟩ | ⟨C, c⟩
 ·refine cT e0 C (wp_skip (d6 _ _ (sQ fun _ d8 => blockQ fun _ d9 => sR fun _ e1 => Ym (iV k) (eh x) ?_)))
  obtain ⟨p, Z, c⟩ := bs c
  refine yY (yIa SL_22 (eh W) (eh x) b (rdI F0) Z) (yY (yI O_3 e0 b (rdI F0) Z) (Ya (iV k) e0 (Ya (iV p) e0 (wK e1 (sQ fun _ e2 => sR fun _ e3 => Ym d.v (eh B) (Ym (iV k) e0 ?_))))))
  obtain ⟨a0, a1, c⟩ := bs c
  refine yY (ySl (k1 := .i64) SL_22 e0 b (rdI F0) (.inr ⟨rfl, rfl⟩) (.inl (congrArg some e0)) a1) ?_
  replace b := b.sub F0 a1
  refine yY (yLen SL_22 e0 b (rdI F0)) (Ym (iV 0) rfl (wK e3 (blockQ fun e4 e5 => ?_)))
  obtain ⟨e6, e7, c⟩ := bs c
  have e8 : ∀ (D : List (List Bool)) (f : FV) (w : World), f 0 = (pB g) → f 1 = iV l → f 5 = d.v → f 7 = iV p → f 16 = d.v → f 17 = iV (o.length : Int) → f 18 = iV k → St w0 (imm I1 d.v o :: ros) (row 93 rH h.v j :: fam 4 rB j D :: row 4 rB i.v q :: box g 138 [h.v, i.v] :: rs) w → D = e6 → e4 (.exit 2) (fr 65 f) w := by
   intro D f w E F e9 G f0 f1 f2 b ho
   subst ho
   refine e5 _ _ _ (e2 _ _ ?_)
   obtain ⟨h0, H, c⟩ := bs c
   obtain ⟨h1, f3, c⟩ := bs c
   obtain ⟨h2, a4, c⟩ := bs c
   obtain ⟨h4, f4, c⟩ := bs c
   obtain ⟨h5, a5, c⟩ := bs c
   obtain ⟨h7, a6, c⟩ := bs c
   obtain ⟨h8, f5, c⟩ := bs c
   refine dR [0, 1, 3, 7, 0, 31, 63, 0, 0, 256, 768, 1792, 0, 7936, 16128, 0, 32767, 98303, 262143, 524287] [17, 19] 2 folM ?_
   replace b := b.drew
   refine Dn [0, 1, 2, 3, 4, 5, 6, 7, 8, 9, 10, 11, 12, 13, 14, 15, 16] [] [17] (yR rfl (m_ (pB g) (eh E)) (yR rfl (yn e0) (yR rfl (yFb FL_138_0 e0) (yR rfl (lb_ h.v O_136 e0 b R3) (yR rfl (m_ (iV p) (eh G)) ?_)))))
   obtain ⟨i0, t⟩ := b.famI R1 H
   refine yR rfl (yIa SLH_136 e0 e0 b rO0 t) (yR rfl (yF1 O_93 e0 b rO0 t rfl) (yR rfl (m_ (iV l) (eh F)) (yR rfl (m_ (pB g) (eh E)) (yR rfl (yn e0) (yR rfl (yFb FL_138_0 e0) (yR rfl (lb_ h.v O_136 e0 b R3) (yR rfl (m_ (iV l) (eh F)) ?_)))))))
   obtain ⟨i1, u⟩ := b.famI R1 f3
   refine yR rfl (yIa SLH_136 e0 e0 b rO0 u) (yR rfl (yF1 O_93 e0 b rO0 u rfl) (yR rfl (m_ (iV p) (eh G)) (yR rfl (yIs SL_93 e0 e0 b (rdF R1 t H) a4) (Rn QSn ?_))))
   refine Lc1 rfl ?_
   replace b := b.pk 2 [1, 0] rfl
   refine LT wn (r_sti (cs := [.bool false]) (b.foc t H) O_4 rfl e0 rfl rfl mkB a4) ?_
   intro w b
   replace b := b.unfoc' t f4
   refine Dn [18] [15] [19] (yR rfl (yIs SL_93 e0 e0 b (rdF R0 u a5) a6) (Rn (yS rfl (m_ (iV p) (eh G)) QSn) ?_))
   refine Lc1 rfl ?_
   refine LT wn (r_sti (cs := [.bool false]) (b.foc u a5) O_4 rfl e0 rfl rfl mkB a6) ?_
   intro w b
   replace b := b.unfoc' u f5
   refine Dz [] [] (Rn QSn (d9 _ _ _ (d8 _ _ (wR (yY (yadd (eh f2) rfl) (Ym (iV (wa .i64 k 1)) e0 (wN ?_)))))))
   obtain rfl := someI c
   exact d3 _ _ _ rfl ⟨_, _, _, rfl, rfl, E, F, e9, f0, f1, rfl, (b.pk 4 [1, 0, 0, 0] rfl)⟩
  refine loopQ (fun s a w => ∃ (I : List (List Bool)) (y : Int) (f : FV), (I, y) = s ∧ a = fr 65 f ∧ f 0 = (pB g) ∧ f 1 = iV l ∧ f 5 = d.v ∧ f 7 = iV p ∧ f 16 = d.v ∧ f 17 = iV (o.length : Int) ∧ f 18 = iV k ∧ f 25 = (subH d 1 0 k).v ∧ f 26 = iV (a0.length : Int) ∧ f 27 = iV y ∧ St w0 (imm I1 d.v o :: imm I1 (subH d 1 0 k).v a0 :: ros) (row 93 rH h.v j :: fam 4 rB j I :: row 4 rB i.v q :: box g 138 [h.v, i.v] :: rs) w) e7 ⟨_, _, _, rfl, rfl, U, V, B, rfl, W, X, x, rfl, rfl, rfl, (b.facts (allC F1 (allC F0 (allT (allT allI)))))⟩ ?_
  rintro _ _ w i2 ⟨I, y, f, rfl, rfl, J, a7, a8, K, a9, b0, b2, b3, b4, L, b⟩ m f6 i3 f7 f8
  refine sR fun _ f9 => yY (ylss (eh L) (eh b4)) (wK f9 (seqQ fun i4 g0 g1 => ?_))
  rcases iteS m with ⟨N, m⟩ | ⟨N, m⟩
  ·refine cT e0 N (wp_skip (g0 _ _ (sQ fun _ g2 => blockQ fun _ g3 => sR fun _ g4 => ?_)))
   obtain ⟨b5, b6, m⟩ := bs m
   refine yY (yIa SL_22 (eh b3) (eh L) b (rdI F1) b6) (yY (yI O_3 e0 b (rdI F1) b6) (Ya (iV b5) e0 (wK g4 (wR (Ym (pB g) (eh J) (yY (yn e0) (yY (yFb FL_138_0 e0) (yY (lb_ h.v O_136 e0 b R3) (Ym (iV p) (eh K) (Ym (iV b5) e0 ?_))))))))))
   obtain ⟨i5, g5, m⟩ := bs m
   refine Yc wn rfl (yCall FN_127 (a3 e0 e0 e0)) (graph_Sets_Join_ok g5 b) ?_
   rintro _ w ⟨rfl, b⟩
   refine ⟨_, rfl, ?_⟩
   refine wN (g3 _ _ _ (g2 _ _ (wR (yY (yadd (eh L) rfl) (Ym (iV (wa .i64 y 1)) e0 (wN ?_))))))
   obtain rfl := someI m
   exact f7 _ _ _ rfl ⟨_, _, _, rfl, rfl, J, a7, a8, K, a9, b0, b2, b3, b4, rfl, b⟩
  ·refine cF e0 N (wp_exit (g1 _ _ _ rfl ?_))
   obtain rfl := someI m
   exact f8 _ _ _ _ rfl rfl (e8 _ _ _ J a7 a8 K a9 b0 b2 (b.facts (allC F0 (allT (allT allI)))) (f6 _ rfl))
 ·refine cF e0 C (wp_exit (d7 _ _ _ rfl ?_))
  obtain rfl := someI c
  exact d4 _ _ _ _ rfl rfl (c6 _ _ _ U V B b (d2 _ rfl))
theorem mindeg_Exact_ok {q : L2} {j : Hdr} {out : LI × Int} (k : mindeg_Exact q = some out) (K : imm S1 j.v q ∈ ros) (b : St w0 ros rs w) :
  Calls Tryz.prog 90 #[.agg #[j.v]] w (fun e w => ∃ (a6 : Hdr), e = .returned (.tuple #[a6.v, iV out.2]) ∧ St w0 ros (row 3 I1 a6.v out.1 :: rs) w) := by
 refine enterQ Tryz.func90 rfl Tryz.ntmps90 rfl fun Q a7 => sR fun _ d0 => YB wn rfl (r_box (vals := [j.v]) b e0 rfl) ?_
 intro r w b
 refine Ya hnil.v rfl (Ya (iV 0) rfl (wK d0 (sR fun _ d1 => yY (lbs_ [j.v] ST_26 e0 b R0) ?_)))
 obtain ⟨L, d2, k⟩ := bs k
 refine Yc wn rfl (yCall FN_51 (a1 e0)) (graph_Check_ok d2 K b) ?_
 rintro _ w ⟨rfl, b⟩
 refine ⟨_, rfl, ?_⟩
 refine Ya (iV L) e0 (wK d1 (seqQ fun m5 d3 d4 => sR fun _ d5 => Ym (iV L) e0 (yY (yneq e0 rfl) (wK d5 ?_))))
 rcases iteS k with ⟨W, k⟩ | ⟨W, k⟩
 ·refine condF e0 (nF (dT W)) (wp_skip (d3 _ _ (sR fun _ d6 => yY (lbs_ [j.v] ST_26 e0 b R0) ?_)))
  obtain ⟨m6, d7, k⟩ := bs k
  refine Yc wn rfl (yCall FN_108 (a1 e0)) (mindeg_Start_ok d7 K b) ?_
  rintro _ w ⟨c, m, t, o, rfl, b⟩
  refine ⟨_, rfl, ?_⟩
  refine Ya (pB c) e0 (wK d6 (sR fun _ d8 => Ya hnil.v rfl (wK d8 (sQ fun _ d9 => sR fun _ e1 => yY (yFb FL_26_0 e0) (yY (lb_ j.v O_24 e0 b R4) (yY (yLen SL_24 e0 b (rdI K)) ?_))))))
  refine Ym (iV 0) rfl (wK e1 (blockQ fun e2 e3 => ?_))
  obtain ⟨e4, e5, k⟩ := bs k
  have e6 : ∀ (X : LI) (G : Hdr) (f : FV) (w : World), f 6 = G.v → St w0 ros (row 3 I1 G.v X :: rs) w → X = e4 → e2 (.exit 0) (fr 65 f) w := by
   intro X G f w e7 b ho
   subst ho
   refine e3 _ _ _ (d9 _ _ (sR fun _ e8 => Ym G.v (eh e7) (Ya G.v e0 (Ya (iV 0) rfl (wK e8 (wp_ret ?_))))))
   obtain rfl := someI k
   exact a7 _ _ _ (fin2r Tryz.results90 ⟨rfl, rfl⟩ ⟨rfl, rfl⟩ ⟨_, rfl, b⟩)
  replace b := b.rowNh 3 I1
  refine loopQ (fun s a w => ∃ (B : List (List Bool)) (C : List Bool) (D : LI) (A : Int) (f : FV) (g : Hdr), (B, C, D, A) = s ∧ a = fr 65 f ∧ f 1 = (pB r) ∧ f 5 = (pB c) ∧ f 6 = g.v ∧ f 20 = iV (q.length : Int) ∧ f 21 = iV A ∧ St w0 ros (box r 26 [j.v] :: row 93 rH m.v t :: fam 4 rB t B :: row 4 rB o.v C :: box c 138 [m.v, o.v] :: row 3 I1 g.v D :: rs) w) e5 ⟨_, _, _, _, _, _, rfl, rfl, rfl, rfl, rfl, rfl, rfl, (b.pk 6 [5, 1, 1, 1, 1, 0] rfl)⟩ ?_
  rintro _ _ w m7 ⟨B, C, D, A, f, g, rfl, rfl, a8, e9, a9, b0, b1, b⟩ u f0 m8 f1 f2
  refine sR fun _ f3 => yY (ylss (eh b1) (eh b0)) (wK f3 (seqQ fun m9 f4 f5 => ?_))
  rcases iteS u with ⟨Z, u⟩ | ⟨Z, u⟩
  ·refine cT e0 Z (wp_skip (f4 _ _ (sQ fun _ f6 => blockQ fun _ f7 => sR fun _ f8 => Ya (iV (-1)) rfl (Ya (iV 0) rfl (wK f8 (sQ fun _ f9 => sR fun _ g0 => ?_))))))
   refine yY (yFb FL_26_0 (eh a8)) (yY (lb_ j.v O_24 e0 b R0) (yY (yLen SL_24 e0 b (rdI K)) (Ym (iV 0) rfl (wK g0 (blockQ fun g1 g2 => ?_)))))
   obtain ⟨g3, g4, u⟩ := bs u
   have g5 : ∀ (E : Int) (f : FV) (w : World), f 1 = (pB r) → f 5 = (pB c) → f 6 = g.v → f 7 = iV E → f 20 = iV (q.length : Int) → f 21 = iV A → St w0 ros (box r 26 [j.v] :: row 93 rH m.v t :: fam 4 rB t B :: row 4 rB o.v C :: box c 138 [m.v, o.v] :: row 3 I1 g.v D :: rs) w → E = g3 → g1 (.exit 2) (fr 65 f) w := by
    intro E f w g6 b2 g7 b4 g8 g9 b ho
    subst ho
    refine g2 _ _ _ (f9 _ _ (sR fun _ h0 => Ym (pB c) (eh b2) (Ym (iV E) (eh b4) ?_)))
    obtain ⟨n0, h1, u⟩ := bs u
    replace b := b.pk 5 [4, 1, 1, 1, 0] rfl
    refine Yc wn rfl (yCall FN_110 (a2 e0 e0)) (mindeg_Elimination_Eliminate_ok h1 b) ?_
    rintro _ w ⟨n1, rfl, b⟩
    refine ⟨_, rfl, ?_⟩
    refine wK h0 (wR (Ym g.v (eh g7) (Ym (iV E) (eh b4) (YH wn rfl (rLt (n := 1) (l := [E]) b SL_22 [iV E] (bp1 e0) rfl rfl (mks1 (cs := [iV E]) rfl mkI mks0)) ?_))))
    intro n2 w b
    obtain ⟨n3, h3, u⟩ := bs u
    replace b := b.pk 7 [6, 0, 0, 0, 0, 0, 0] rfl
    refine YH wn rfl (rAp b SL_22 e0 e0 rO1 h3) ?_
    intro h4 w b
    refine Ya h4.v e0 (wN (f7 _ _ _ (f6 _ _ (wR (yY (yadd (eh g9) rfl) (Ym (iV (wa .i64 A 1)) e0 (wN ?_)))))))
    obtain rfl := someI u
    exact f1 _ _ _ rfl ⟨_, _, _, _, _, _, rfl, rfl, g6, b2, rfl, g8, rfl, ((b.pk 7 [6, 2, 2, 2, 2, 0] rfl).facts (allT allI))⟩
   refine loopQ (fun s a w => ∃ (h y d : Int) (f : FV), (h, y, d) = s ∧ a = fr 65 f ∧ f 1 = (pB r) ∧ f 5 = (pB c) ∧ f 6 = g.v ∧ f 7 = iV h ∧ f 8 = iV y ∧ f 20 = iV (q.length : Int) ∧ f 21 = iV A ∧ f 25 = iV (q.length : Int) ∧ f 26 = iV d ∧ St w0 ros (box r 26 [j.v] :: row 93 rH m.v t :: fam 4 rB t B :: row 4 rB o.v C :: box c 138 [m.v, o.v] :: row 3 I1 g.v D :: rs) w) g4 ⟨_, _, _, _, rfl, rfl, a8, e9, a9, rfl, rfl, b0, b1, rfl, rfl, b⟩ ?_
   rintro _ _ w h5 ⟨h, y, d, f, rfl, rfl, N, F, O, H, R, S, T, U, I, b⟩ p h6 n4 h7 h9
   refine sR fun _ i0 => yY (ylss (eh I) (eh U)) (wK i0 (seqQ fun n5 i1 i2 => ?_))
   rcases iteS p with ⟨a0, p⟩ | ⟨a0, p⟩
   ·refine cT e0 a0 (wp_skip (i1 _ _ (sQ fun _ i3 => blockQ fun i4 i5 => sR fun _ i6 => Ym (iV d) (eh I) (Ya (iV d) e0 (wK i6 (sR fun _ i7 => Ym (pB c) (eh F) ?_))))))
    refine yY (yn e0) (yY (yFb FL_138_0 e0) (yY (lb_ m.v O_136 e0 b R4) (Ym (iV d) e0 ?_)))
    obtain ⟨z, i8, p⟩ := bs p
    have b5 := b
    replace b := b.pk 3 [1, 1, 0] rfl
    replace b := b.ffz
    have J := b.guest0
    replace b := b5
    clear b5
    refine Yc wn rfl (yCall FN_109 (a2 e0 e0)) (graph_Sets_List_ok i8 F0 J) ?_
    clear J
    rintro _ w ⟨n6, rfl, J⟩
    replace b := b.back1 J
    clear J
    refine ⟨_, rfl, ?_⟩
    refine yY (yLen SL_22 e0 b rO0) (Ya (iV (z.length : Int)) e0 (wK i7 (sR fun _ i9 => Ym (pB c) (eh F) (yY (yn e0) (yY (yFb FL_138_1 e0) (yY (lb_ o.v O_93 e0 b R5) (Ym (iV d) e0 ?_)))))))
    obtain ⟨V, b6, p⟩ := bs p
    refine yY (yIa SL_93 e0 e0 b rO4 b6) (yY (yB O_4 e0 b rO4 b6) (yY (ynot e0) (Ym (.bool (!V)) e0 ?_)))
    refine joinW 8 (fun f w => f 1 = (pB r) ∧ f 5 = (pB c) ∧ f 6 = g.v ∧ f 7 = iV h ∧ f 8 = iV y ∧ f 9 = iV d ∧ f 10 = iV (z.length : Int) ∧ f 20 = iV (q.length : Int) ∧ f 21 = iV A ∧ f 25 = iV (q.length : Int) ∧ f 26 = iV d ∧ f 52 = .bool ((!V) && ((decide (h < 0)) || (decide ((z.length : Int) < y)))) ∧ St w0 ros (box r 26 [j.v] :: row 93 rH m.v t :: fam 4 rB t B :: row 4 rB o.v C :: box c 138 [m.v, o.v] :: row 3 I1 g.v D :: rs) w) (fun b8 => ?_) ?_
    ·rcases Bool.eq_false_or_eq_true (!V) with i | i
     ·refine yG i (m_ (iV h) (eh H)) (yG i (ylss e0 rfl) (yG i (m_ (.bool (decide (h < 0))) e0) ?_))
      refine joinW 4 (fun f w => f 1 = (pB r) ∧ f 5 = (pB c) ∧ f 6 = g.v ∧ f 7 = iV h ∧ f 8 = iV y ∧ f 9 = iV d ∧ f 10 = iV (z.length : Int) ∧ f 20 = iV (q.length : Int) ∧ f 21 = iV A ∧ f 25 = iV (q.length : Int) ∧ f 26 = iV d ∧ f 44 = .bool (!V) ∧ f 45 = iV h ∧ f 46 = .bool (decide (h < 0)) ∧ f 47 = .bool (decide (h < 0)) ∧ f 51 = .bool ((decide (h < 0)) || (decide ((z.length : Int) < y))) ∧ St w0 ros (box r 26 [j.v] :: row 93 rH m.v t :: fam 4 rB t B :: row 4 rB o.v C :: box c 138 [m.v, o.v] :: row 3 I1 g.v D :: rs) w) (fun b9 => ?_) ?_
      ·rcases Bool.eq_false_or_eq_true (decide (h < 0)) with x | x
       ·exact gN x (gN x (gN x (yG i (pt_ (.bool true) e0 x rfl) (b9 _ _ ⟨N, F, O, H, R, rfl, rfl, S, T, U, I, rfl, rfl, rfl, rfl, (congrArg Value.bool (orT x)), (b.pk 7 [1, 1, 1, 1, 1, 1] rfl)⟩))))
       ·exact yG x (m_ (iV (z.length : Int)) e0) (yG x (m_ (iV y) (eh R)) (yG x (ylss e0 e0) (yG i (pf_ (.bool (decide ((z.length : Int) < y))) e0 x e0) (b9 _ _ ⟨N, F, O, H, R, rfl, rfl, S, T, U, I, rfl, rfl, rfl, rfl, (congrArg Value.bool (orF x)), (b.pk 7 [1, 1, 1, 1, 1, 1] rfl)⟩))))
      rintro f w ⟨j0, j1, j2, j3, j4, j5, j6, j7, j8, j9, k0, k9, n7, n8, n9, l0, b⟩
      exact yY (pt_ (.bool ((decide (h < 0)) || (decide ((z.length : Int) < y)))) (eh k9) i (eh l0)) (b8 _ _ ⟨j0, j1, j2, j3, j4, j5, j6, j7, j8, j9, k0, (congrArg Value.bool (andT i)), b⟩)
     ·exact gN i (gN i (gN i (Gn (wxu rfl rfl rfl) rfl (Gn (wxu rfl rfl rfl) rfl (Gn (wxu rfl rfl rfl) rfl (gN i (yY (pf_ (.bool false) e0 i rfl) (b8 _ _ ⟨N, F, O, H, R, rfl, rfl, S, T, U, I, (congrArg Value.bool (andF i)), (b.pk 7 [1, 1, 1, 1, 1, 1] rfl)⟩))))))))
    rintro f w ⟨c0, c1, c2, l1, l2, l3, l4, c3, c4, c6, c7, c8, b⟩
    refine wK i9 ?_
    have c9 : ∀ (a3 a4 : Int) (f : FV) (w : World), f 1 = (pB r) → f 5 = (pB c) → f 6 = g.v → f 7 = iV a3 → f 8 = iV a4 → f 20 = iV (q.length : Int) → f 21 = iV A → f 25 = iV (q.length : Int) → f 26 = iV d → St w0 ros (box r 26 [j.v] :: row 93 rH m.v t :: fam 4 rB t B :: row 4 rB o.v C :: box c 138 [m.v, o.v] :: row 3 I1 g.v D :: rs) w → mindeg_Exact_j40 d a3 a4 = some h5 → i4 .normal (fr 65 f) w := by
     intro a3 a4 f w l5 l6 l7 l8 l9 m0 m1 m2 m3 b k
     refine i5 _ _ _ (i3 _ _ (wR (yY (yadd (eh m3) rfl) (Ym (iV (wa .i64 d 1)) e0 (wN ?_)))))
     obtain rfl := someI k
     exact h7 _ _ _ rfl ⟨_, _, _, _, rfl, rfl, l5, l6, l7, l8, l9, m0, m1, m2, rfl, b⟩
    rcases iteS p with ⟨a5, p⟩ | ⟨a5, p⟩
    ·exact condT (eh c8) a5 (wR (Ym (iV d) (eh l3) (Ym (iV (z.length : Int)) (eh l4) (Ya (iV d) e0 (Ya (iV (z.length : Int)) e0 (wN (c9 _ _ _ _ c0 c1 c2 rfl rfl c3 c4 c6 c7 b p)))))))
    ·exact condF (eh c8) (bfalse a5) (wp_skip (c9 _ _ _ _ c0 c1 c2 l1 l2 c3 c4 c6 c7 b p))
   ·refine cF e0 a0 (wp_exit (i2 _ _ _ rfl ?_))
    obtain rfl := someI p
    exact h9 _ _ _ _ rfl rfl (g5 _ _ _ N F O H S T b (h6 _ rfl))
  ·refine cF e0 Z (wp_exit (f5 _ _ _ rfl ?_))
   obtain rfl := someI u
   exact f2 _ _ _ _ rfl rfl (e6 _ _ _ _ a9 (b.pk 6 [5] rfl) (f0 _ rfl))
 ·refine condT e0 (nT (dF W)) (sR fun _ m4 => Ym (iV L) e0 (Ya hnil.v rfl (Ya (iV L) e0 (wK m4 (wp_ret (d4 _ _ _ rfl ?_))))))
  obtain rfl := someI k
  replace b := b.rowNh 3 I1
  exact a7 _ _ _ (fin2r Tryz.results90 ⟨rfl, rfl⟩ ⟨rfl, rfl⟩ ⟨_, rfl, (b.pk 2 [0] rfl)⟩)
theorem graph_Induced_1_ok {c : Int} {g : L2} {d : Nat} {a : Hdr} {out : Bool} (f : graph_Induced_1 c g = some out) (h : imm S1 a.v g ∈ ros) (b : St w0 ros (box d 26 [a.v] :: rs) w) :
  Calls Tryz.prog 111 #[iV c, (pB d)] w (fun e w => e = .returned (.bool out) ∧ St w0 ros (box d 26 [a.v] :: rs) w) := by
 refine enterQ Tryz.func111 rfl Tryz.ntmps111 rfl fun Q i => sR fun _ j => Ya (.bool false) rfl (wK j (sR fun _ k => yY (lbs_ [a.v] ST_26 e0 b R0) (Ym (iV c) e0 ?_)))
 obtain ⟨l, m, f⟩ := bs f
 refine Yc wn rfl (yCall FN_112 (a2 e0 e0)) (graph_vertex_ok m h b) ?_
 rintro _ w ⟨rfl, b⟩
 refine ⟨_, rfl, ?_⟩
 refine yY (ynot e0) (Ya (.bool (!l)) e0 (wK k (wp_ret ?_)))
 obtain rfl := someI f
 exact i _ _ _ (fin1r Tryz.results111 ⟨rfl, rfl⟩ ⟨rfl, b⟩)
theorem slices_IndexFunc_int_v3_ok {k : LI} {q : L2} {i : Hdr} {g : Nat} {h : Hdr} {out : Int} (j : slices_IndexFunc_int_v3 k q = some out) (l : imm I1 i.v k ∈ ros) (F : imm S1 h.v q ∈ ros) (b : St w0 ros (box g 26 [h.v] :: rs) w) :
  Calls Tryz.prog 80 #[i.v, .func (.func 111) #[] #[(pB g)]] w (fun e w => e = .returned (iV out) ∧ St w0 ros (box g 26 [h.v] :: rs) w) := by
 refine enterQ Tryz.func80 rfl Tryz.ntmps80 rfl fun Q r => sR fun _ G => Ya (iV 0) rfl (wK G (seqQ fun a4 H I => sR fun _ J => Ym i.v e0 (yY (yLen SL_22 e0 b (rdI l)) (Ym (iV 0) rfl (wK J ?_)))))
 refine blockQ fun t u => ?_
 obtain ⟨x, K, j⟩ := bs j
 have L : ∀ (f : FV) (w : World), St w0 ros (box g 26 [h.v] :: rs) w → .inl () = x → t (.exit 0) (fr 19 f) w := by
  intro f w b ho
  subst ho
  refine u _ _ _ (H _ _ (sR fun _ N => Ya (iV (-1)) rfl (wK N (wp_ret ?_))))
  obtain rfl := someI j
  exact r _ _ _ (fin1r Tryz.results80 ⟨rfl, rfl⟩ ⟨rfl, b⟩)
 have O : ∀ (m : Int) (f : FV) (w : World), f 4 = iV m → St w0 ros (box g 26 [h.v] :: rs) w → .inr m = x → t .ret (fr 19 f) w := by
  intro m f w R b ho
  subst ho
  refine u _ _ _ (I _ _ _ rfl ?_)
  obtain rfl := someI j
  exact r _ _ _ (fin1r Tryz.results80 ⟨rfl, R⟩ ⟨rfl, b⟩)
 refine loopQ (fun s a w => ∃ (d : Int) (f : FV), d = s ∧ a = fr 19 f ∧ f 0 = i.v ∧ f 1 = .func (.func 111) #[] #[(pB g)] ∧ f 7 = iV (k.length : Int) ∧ f 8 = iV d ∧ St w0 ros (box g 26 [h.v] :: rs) w) K ⟨_, _, rfl, rfl, rfl, rfl, rfl, rfl, b⟩ ?_
 rintro _ _ w a5 ⟨d, f, rfl, rfl, y, z, A, n, b⟩ c B a6 S C
 refine sR fun _ T => yY (ylss (eh n) (eh A)) (wK T (seqQ fun a7 U V => ?_))
 rcases iteS c with ⟨o, c⟩ | ⟨o, c⟩
 ·refine cT e0 o (wp_skip (U _ _ (seqQ fun a8 W X => blockQ fun _ D => sR fun _ Z => Ym (iV d) (eh n) (Ya (iV d) e0 (wK Z (sR fun _ a0 => Ym (.func (.func 111) #[] #[(pB g)]) (eh z) ?_))))))
  refine Ym i.v (eh y) (Ym (iV d) e0 ?_)
  obtain ⟨a9, E, c⟩ := bs c
  refine yY (yIa SL_22 e0 e0 b (rdI l) E) (yY (yI O_3 e0 b (rdI l) E) ?_)
  obtain ⟨b0, a2, c⟩ := bs c
  refine Yc wn rfl (yCallw FN_111 e0 (a1 e0)) (graph_Induced_1_ok a2 F b) ?_
  rintro _ w ⟨rfl, b⟩
  refine ⟨_, rfl, ?_⟩
  refine wK a0 ?_
  rcases iteS c with ⟨p, c⟩ | ⟨p, c⟩
  ·refine condT e0 p (sR fun _ a3 => Ym (iV d) e0 (Ya (iV d) e0 (wK a3 (wp_ret (D _ _ _ (X _ _ _ rfl ?_))))))
   obtain rfl := someI c
   exact C _ _ _ _ rfl rfl (O _ _ _ rfl b (B _ rfl))
  ·refine condF e0 (bfalse p) (wp_skip (D _ _ _ (W _ _ (wR (yY (yadd (eh n) rfl) (Ym (iV (wa .i64 d 1)) e0 (wN ?_)))))))
   obtain rfl := someI c
   exact S _ _ _ rfl ⟨_, _, rfl, rfl, y, z, A, rfl, b⟩
 ·refine cF e0 o (wp_exit (V _ _ _ rfl ?_))
  obtain rfl := someI c
  exact C _ _ _ _ rfl rfl (L _ _ b (B _ rfl))
theorem slices_ContainsFunc_int_v3_ok {g : LI} {h : L2} {b : Hdr} {a : Nat} {c : Hdr} {out : Bool} (d : slices_ContainsFunc_int_v3 g h = some out) (i : imm I1 b.v g ∈ ros) (j : imm S1 c.v h ∈ ros) (f : St w0 ros (box a 26 [c.v] :: rs) w) :
  Calls Tryz.prog 49 #[b.v, .func (.func 111) #[] #[(pB a)]] w (fun e w => e = .returned (.bool out) ∧ St w0 ros (box a 26 [c.v] :: rs) w) := by
 refine enterQ Tryz.func49 rfl Tryz.ntmps49 rfl fun Q k => sR fun _ l => Ya (.bool false) rfl (wK l (sR fun _ m => Ym b.v e0 (Ym (.func (.func 111) #[] #[(pB a)]) e0 ?_)))
 obtain ⟨n, o, d⟩ := bs d
 refine Yc wn rfl (yCall FN_80 (a2 e0 e0)) (slices_IndexFunc_int_v3_ok o i j f) ?_
 rintro _ w ⟨rfl, f⟩
 refine ⟨_, rfl, ?_⟩
 refine yY (ygeq e0 rfl) (Ya (.bool (decide ((0 : Int) ≤ n))) e0 (wK m (wp_ret ?_)))
 obtain rfl := someI d
 exact k _ _ _ (fin1r Tryz.results49 ⟨rfl, rfl⟩ ⟨rfl, f⟩)
theorem slices_Values_int_ok {c : LI} {a : Hdr} {out : Unit} (g : slices_Values_int c = some out) (k : imm I1 a.v c ∈ ros) (b : St w0 ros rs w) :
  Calls Tryz.prog 130 #[a.v] w (fun e w => ∃ (d : Nat), e = .returned (.func (.func 142) #[] #[(pB d)]) ∧ St w0 ros (box d 22 [a.v] :: rs) w) := by
 refine enterQ Tryz.func130 rfl Tryz.ntmps130 rfl fun Q h => sR fun _ i => YB wn rfl (r_box (vals := [a.v]) b e0 rfl) ?_
 intro f w b
 refine Ya .nilFunc rfl (wK i (sR fun _ j => yY (ymf (vf := #[]) (vc := #[(pB f)]) a0 (a1 e0)) (Ya (.func (.func 142) #[] #[(pB f)]) e0 (wK j (wp_ret ?_)))))
 obtain rfl := someI g
 exact h _ _ _ (fin1r Tryz.results130 ⟨rfl, rfl⟩ ⟨_, rfl, b⟩)
end Go.Proofs.YthpeajepbffinaaGreat
