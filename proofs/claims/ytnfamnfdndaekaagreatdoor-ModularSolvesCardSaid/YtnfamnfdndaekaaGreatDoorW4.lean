/- Walks: each function computes its model, printed. -/
import Derived.Test.YtnfamnfdndaekaaGreatDoorW3
namespace Go.Proofs.YtnfamnfdndaekaaGreatDoor
open Go Sx M
set_option maxRecDepth 100000
set_option maxHeartbeats 40000000
set_option linter.unusedVariables false
attribute [local irreducible] wpList Code.wp Calls DR QR QS LA LS St
variable {w0 : World} {ros : List Fact} {rs : List Res} {w : World}
theorem sparsekit_Place_ok {a b out : Int} (c : sparsekit_Place a b = some out) (d : St w0 ros rs w) :
  Calls Tryz.prog 20 #[iV a, iV b] w (fun e w => e = .returned (iV out) ∧ St w0 ros rs w) := by
 refine enterQ Tryz.func20 rfl Tryz.ntmps20 rfl fun Q f => sR fun _ g => Ya (iV 0) rfl (wK g (sR fun _ h => Ym (iV a) e0 (yY (ycv (k' := .u64) (by kernel_rfl) (by kernel_rfl) e0) (Ym (iV b) e0 (yY (ycv (k' := .u64) (by kernel_rfl) (by kernel_rfl) e0) (bE c fun i j c => yY (yrem e0 e0 j) ?_))))))
 refine yY (ycv (k' := .i64) (by kernel_rfl) (by kernel_rfl) e0) (Ya (iV (wc .i64 i)) e0 (wK h (wp_ret ?_)))
 cases c
 exact f _ _ _ (fin1r Tryz.results20 ⟨rfl, rfl⟩ ⟨rfl, d⟩)
theorem sparselaw07_prime_ok {c out : Int} (b : sparselaw07_prime c = some out) (a : St w0 ros rs w) :
  Calls Tryz.prog 34 #[iV c] w (fun e w => e = .returned (iV out) ∧ St w0 ros rs w) := by
 refine enterQ Tryz.func34 rfl Tryz.ntmps34 rfl fun Q f => sR fun _ g => Ya (iV 0) rfl (wK g (sR fun _ h => yH (rLt (n := 10) (l := [2, 3, 5, 7, 11, 13, 101, 65537, 1000003, 2147483647]) a SL_22 [iV 2, iV 3, iV 5, iV 7, iV 11, iV 13, iV 101, iV 65537, iV 1000003, iV 2147483647] (bp10 rfl rfl rfl rfl rfl rfl rfl rfl rfl rfl) rfl rfl (mks1 (cs := [iV 2]) rfl mkI (mks1 (cs := [iV 3]) rfl mkI (mks1 (cs := [iV 5]) rfl mkI (mks1 (cs := [iV 7]) rfl mkI (mks1 (cs := [iV 11]) rfl mkI (mks1 (cs := [iV 13]) rfl mkI (mks1 (cs := [iV 101]) rfl mkI (mks1 (cs := [iV 65537]) rfl mkI (mks1 (cs := [iV 1000003]) rfl mkI (mks1 (cs := [iV 2147483647]) rfl mkI mks0))))))))))) fun k w a => Ym (iV c) e0 (bE b fun m i b => yC (yCall FN_20 (a2 e0 rfl)) (sparsekit_Place_ok i a) ?_)))
 rintro _ w ⟨rfl, a⟩
 refine ⟨_, rfl, ?_⟩
 refine bE b fun j d b => yY (yIa SL_22 e0 e0 a rO0 d) (yY (yI O_3 e0 a rO0 d) (Ya (iV j) e0 (wK h (wp_ret ?_))))
 cases b
 exact f _ _ _ (fin1r Tryz.results34 ⟨rfl, rfl⟩ ⟨rfl, (a.k10)⟩)
theorem sparselaw07_square_ok {G : LI} {g : Int} {k : Hdr} {out : L2} (m : sparselaw07_square G g = some out) (C : imm I1 k.v G ∈ ros) (b : St w0 ros rs w) :
  Calls Tryz.prog 35 #[k.v, iV g] w (fun e w => ∃ (H : Hdr), e = .returned (H.v) ∧ St w0 ros (row 22 S1 H.v out :: rs) w) := by
 refine enterQ Tryz.func35 rfl Tryz.ntmps35 rfl fun Q O => sR fun _ R => Ya hnil.v rfl (wK R (sR fun _ S => Ya hnil.v rfl (wK S (sQ fun _ T => sR fun _ U => ?_))))
 refine Ya (iV 0) rfl (wK U (blockQ fun V W => bE m fun X Z m => ?_))
 have a0 : ∀ (D : L2) (u : Hdr) (f : FV) w, f 5 = u.v → St w0 ros (row 22 S1 u.v D :: rs) w → D = X → V (.exit 0) (fr 45 f) w := by
  intro D u f w a1 b ho
  subst ho
  refine W _ _ _ (T _ _ (sR fun _ a2 => Ym u.v (eh a1) (Ya u.v e0 (wK a2 (wp_ret ?_)))))
  cases m
  exact O _ _ _ (fin1r Tryz.results35 ⟨rfl, rfl⟩ ⟨_, rfl, b⟩)
 replace b := b.rowNh 22 S1
 refine loopQ (fun s a w => ∃ (p : L2) (c : Int) (f : FV) (h : Hdr), (p, c) = s ∧ a = fr 45 f ∧ f 0 = k.v ∧ f 1 = iV g ∧ f 5 = h.v ∧ f 6 = iV c ∧ St w0 ros (row 22 S1 h.v p :: rs) w) Z ⟨_, _, _, _, rfl, rfl, rfl, rfl, rfl, rfl, b⟩ ?_
 rintro _ _ w f4 ⟨p, c, f, h, rfl, rfl, a3, I, J, K, b⟩ j a4 f5 a5 a6
 refine seqQ fun f6 a7 a8 => sR fun _ a9 => Ym (iV c) (eh K) (Ym (iV g) (eh I) (yY (ylss e0 e0) (wK a9 ?_)))
 refine cIf e0 j (fun b0 j => ?_) fun b0 j => ?_
 ·refine wp_skip (a7 _ _ (sQ fun _ b1 => blockQ fun _ b2 => sR fun _ b3 => Ya hnil.v rfl (wK b3 (sQ fun _ b4 => sR fun _ b5 => Ya (iV 0) rfl (wN ?_)))))
  refine b5 _ _ (blockQ fun b6 b7 => bE j fun b8 b9 j => ?_)
  have c0 : ∀ (B : LI) (q : Hdr) (f : FV) w, f 0 = k.v → f 1 = iV g → f 5 = h.v → f 6 = iV c → f 7 = q.v → St w0 ros (row 22 S1 h.v p :: row 3 I1 q.v B :: rs) w → B = b8 → b6 (.exit 2) (fr 45 f) w := by
   intro B q f w c1 c2 c3 c4 c5 b ho
   subst ho
   refine b7 _ _ _ (b4 _ _ (wR (Ym h.v (eh c3) (Ym q.v (eh c5) (yH (rLt (n := 1) (l := [B]) ((b.k11).fz) SL_52 [q.v] (bp1 e0) rfl rfl (mks1 (cs := [q.v]) rfl (mkS F0) mks0)) fun f7 w b => bE j fun f8 c6 j => yH (rAp (b.k11) SL_52 e0 e0 rO1 c6) fun c7 w b => Ya c7.v e0 (wN (b2 _ _ _ (b1 _ _ ?_))))))))
   refine wR (Ym (iV c) (eh c4) (yY (yadd e0 rfl) (Ya (iV (wa .i64 c 1)) e0 (wN ?_))))
   cases j
   exact a5 _ _ _ rfl ⟨_, _, _, _, rfl, rfl, c1, c2, rfl, rfl, ((b.k1g).facts (allT allI))⟩
  replace b := b.rowNh 3 I1
  refine loopQ (fun s a w => ∃ (x : LI) (i : Int) (f : FV) (r : Hdr), (x, i) = s ∧ a = fr 45 f ∧ f 0 = k.v ∧ f 1 = iV g ∧ f 5 = h.v ∧ f 6 = iV c ∧ f 7 = r.v ∧ f 8 = iV i ∧ St w0 ros (row 22 S1 h.v p :: row 3 I1 r.v x :: rs) w) b9 ⟨_, _, _, _, rfl, rfl, a3, I, J, K, rfl, rfl, (b.k11)⟩ ?_
  rintro _ _ w c8 ⟨x, i, f, r, rfl, rfl, y, t, E, z, F, A, b⟩ d c9 f9 d0 d1
  refine seqQ fun g0 d2 d3 => sR fun _ d4 => Ym (iV i) (eh A) (Ym (iV g) (eh t) (yY (ylss e0 e0) (wK d4 ?_)))
  refine cIf e0 d (fun d5 d => ?_) fun d5 d => ?_
  ·refine wp_skip (d2 _ _ (sQ fun _ d6 => blockQ fun _ d7 => sR fun _ d8 => Ya (iV 0) rfl (wK d8 (sQ fun d9 e1 => sR fun _ e2 => Ym (iV g) (eh t) (Ym (iV c) (eh z) ?_)))))
   refine yY (ymul e0 e0) (Ym (iV i) (eh A) (yY (yadd e0 e0) (Ym k.v (eh y) (yY (yLen SL_22 e0 b (rdI C)) (yY (ylss e0 e0) (wK e2 ?_))))))
   have L : ∀ (o : Int) (f : FV) w, f 0 = k.v → f 1 = iV g → f 5 = h.v → f 6 = iV c → f 7 = r.v → f 8 = iV i → f 9 = iV o → St w0 ros (row 22 S1 h.v p :: row 3 I1 r.v x :: rs) w → sparselaw07_square_j13 x i o = some c8 → d9 .normal (fr 45 f) w := by
    intro o f w e3 e4 e5 e6 e7 e8 e9 b m
    refine e1 _ _ (wR (Ym r.v (eh e7) (Ym (iV o) (eh e9) (yH (rLt (n := 1) (l := [o]) b SL_22 [iV o] (bp1 e0) rfl rfl (mks1 (cs := [iV o]) rfl mkI mks0)) fun g1 w b => bE m fun g2 f0 m => yH (rAp (b.k1a) SL_22 e0 e0 rO1 f0) fun f1 w b => Ya f1.v e0 (wN (d7 _ _ _ (d6 _ _ (wR ?_))))))))
    refine Ym (iV i) (eh e8) (yY (yadd e0 rfl) (Ya (iV (wa .i64 i 1)) e0 (wN ?_)))
    cases m
    exact d0 _ _ _ rfl ⟨_, _, _, _, rfl, rfl, e3, e4, e5, e6, rfl, rfl, (b.k1o)⟩
   refine cIf e0 d (fun f2 d => ?_) fun f2 d => ?_
   ·exact wR (Ym k.v (eh y) (Ym (iV g) (eh t) (Ym (iV c) (eh z) (yY (ymul e0 e0) (Ym (iV i) (eh A) (yY (yadd e0 e0) (bE d fun f3 N d => yY (yIa SL_22 e0 e0 b (rdI C) N) (yY (yI O_3 e0 b (rdI C) N) (Ya (iV f3) e0 (wN (L _ _ _ y t E z F A rfl b d)))))))))))
   ·exact wp_skip (L _ _ _ y t E z F A rfl b d)
  ·refine wp_exit (d3 _ _ _ rfl ?_)
   cases d
   exact d1 _ _ _ _ rfl rfl (c0 _ _ _ _ y t E z F b (c9 _ rfl))
 ·refine wp_exit (a8 _ _ _ rfl ?_)
  cases j
  exact a6 _ _ _ _ rfl rfl (a0 _ _ _ _ J b (a4 _ rfl))
theorem modular_Rank_ok {j : L2} {c : Int} {d : Hdr} {out : Int × Int} (a : modular_Rank j c = some out) (k : imm S1 d.v j ∈ ros) (b : St w0 ros rs w) :
  Calls Tryz.prog 38 #[d.v, iV c] w (fun e w => e = .returned (.tuple #[iV out.1, iV out.2]) ∧ St w0 ros rs w) := by
 refine enterQ Tryz.func38 rfl Tryz.ntmps38 rfl fun Q l => sR fun _ m => Ya (iV 0) rfl (Ya (iV 0) rfl (wK m (sR fun _ n => Ym d.v e0 (Ym (iV c) e0 (bE a fun f o a => yC (yCall FN_83 (a2 e0 e0)) (modular_check_ok o k b) ?_)))))
 rintro _ w ⟨rfl, b⟩
 refine ⟨_, rfl, ?_⟩
 refine Ya (iV f) e0 (wK n (seqQ fun z p q => sR fun _ r => Ym (iV f) e0 (yY (yneq e0 rfl) (wK r ?_))))
 rcases iteS a with ⟨i, a⟩ | ⟨i, a⟩
 ·refine condF e0 (nF (dT i)) (wp_skip (p _ _ (sR fun _ s => Ym d.v e0 (Ym (iV c) e0 (bE a fun A t a => yC (yCall FN_82 (a2 e0 e0)) (modular_reduced_ok t k b) ?_)))))
  rintro _ w ⟨B, C, rfl, b⟩
  refine ⟨_, rfl, ?_⟩
  refine Ym (iV c) e0 (bE a fun g u a => yC (yCall FN_81 (a2 e0 e0)) (modular_echelon_ok u b) ?_)
  rintro _ w ⟨D, h, rfl, b⟩
  refine ⟨_, rfl, ?_⟩
  refine Ym (.tuple #[h.v, iV g.2.2]) e0 (yY (x_ h.v e0) (yY (x_ (iV g.2.2) e0) (Ya h.v e0 (Ya (iV g.2.2) e0 (wK s (sR fun _ x => Ym h.v e0 (yY (yLen SL_22 e0 b rO2) (Ya (iV (g.2.1.length : Int)) e0 (Ya (iV 0) rfl (wN ?_))))))))))
  refine x _ _ (wp_ret ?_)
  cases a
  exact l _ _ _ (fin2r Tryz.results38 ⟨rfl, rfl⟩ ⟨rfl, rfl⟩ ⟨rfl, (b.k1k)⟩)
 ·refine condT e0 (nT (dF i)) (sR fun _ y => Ym (iV f) e0 (Ya (iV 0) rfl (Ya (iV f) e0 (wK y (wp_ret (q _ _ _ rfl ?_))))))
  cases a
  exact l _ _ _ (fin2r Tryz.results38 ⟨rfl, rfl⟩ ⟨rfl, rfl⟩ ⟨rfl, b⟩)
theorem sparseref07_Mod_ok {h b out : Int} (a : sparseref07_Mod h b = some out) (d : St w0 ros rs w) :
  Calls Tryz.prog 31 #[iV h, iV b] w (fun e w => e = .returned (iV out) ∧ St w0 ros rs w) := by
 refine enterQ Tryz.func31 rfl Tryz.ntmps31 rfl fun Q j => sR fun _ k => Ya (iV 0) rfl (wK k (sR fun _ l => Ym (iV h) e0 (Ym (iV b) e0 (bE a fun g m a => yY (yrem e0 e0 m) (Ya (iV g) e0 (wN ?_))))))
 refine l _ _ (sQ fun n o => sR fun _ p => Ym (iV g) e0 (yY (ylss e0 rfl) (wK p ?_)))
 have i : ∀ (c : Int) (f : FV) w, f 5 = iV c → St w0 ros rs w → sparseref07_Mod_j1 c = some out → n .normal (fr 15 f) w := by
  intro c f w q d a
  refine o _ _ (sR fun _ r => Ym (iV c) (eh q) (Ya (iV c) e0 (wK r (wp_ret ?_))))
  cases a
  exact j _ _ _ (fin1r Tryz.results31 ⟨rfl, rfl⟩ ⟨rfl, d⟩)
 refine cIf e0 a (fun s a => ?_) fun s a => ?_
 ·exact wR (Ym (iV g) e0 (Ym (iV b) e0 (yY (yadd e0 e0) (Ya (iV (wa .i64 g b)) e0 (wN (i _ _ _ rfl d a))))))
 ·exact wp_skip (i _ _ _ rfl d a)
theorem sparselaw07_product_ok {G : L2} {H : LI} {d : Int} {o j : Hdr} {out : LI} (B : sparselaw07_product G H d = some out) (C : imm S1 o.v G ∈ ros) (r : imm I1 j.v H ∈ ros) (b : St w0 ros rs w) :
  Calls Tryz.prog 45 #[o.v, j.v, iV d] w (fun e w => ∃ (I : Hdr), e = .returned (I.v) ∧ St w0 ros (row 3 I1 I.v out :: rs) w) := by
 refine enterQ Tryz.func45 rfl Tryz.ntmps45 rfl fun Q S => sR fun _ T => Ya hnil.v rfl (wK T (sR fun _ U => Ya hnil.v rfl (wK U (sQ fun _ V => sR fun _ W => ?_))))
 refine Ya (iV 0) rfl (wK W (blockQ fun X Z => bE B fun a0 a1 B => ?_))
 have a3 : ∀ (D : LI) (t : Hdr) (f : FV) w, f 7 = t.v → St w0 ros (row 3 I1 t.v D :: rs) w → D = a0 → X (.exit 0) (fr 48 f) w := by
  intro D t f w a4 b ho
  subst ho
  refine Z _ _ _ (V _ _ (sR fun _ a5 => Ym t.v (eh a4) (Ya t.v e0 (wK a5 (wp_ret ?_)))))
  cases B
  exact S _ _ _ (fin1r Tryz.results45 ⟨rfl, rfl⟩ ⟨_, rfl, b⟩)
 replace b := b.rowNh 3 I1
 refine loopQ (fun s a w => ∃ (u : LI) (g : Int) (f : FV) (k : Hdr), (u, g) = s ∧ a = fr 48 f ∧ f 0 = o.v ∧ f 1 = j.v ∧ f 2 = iV d ∧ f 7 = k.v ∧ f 8 = iV g ∧ St w0 ros (row 3 I1 k.v u :: rs) w) a1 ⟨_, _, _, _, rfl, rfl, rfl, rfl, rfl, rfl, rfl, b⟩ ?_
 rintro _ _ w e7 ⟨u, g, f, k, rfl, rfl, J, a6, a7, K, L, b⟩ h a8 e8 a9 b0
 refine seqQ fun e9 b1 b2 => sR fun _ b3 => Ym (iV g) (eh L) (Ym o.v (eh J) (yY (yLen SL_52 e0 b (rdI C)) (yY (ylss e0 e0) (wK b3 ?_))))
 refine cIf e0 h (fun b4 h => ?_) fun b4 h => ?_
 ·refine wp_skip (b1 _ _ (sQ fun _ b5 => blockQ fun _ b6 => sR fun _ b7 => Ya (iV 0) rfl (wK b7 (sQ fun _ b8 => sR fun _ b9 => Ya (iV 0) rfl (wN ?_)))))
  refine b9 _ _ (blockQ fun c0 c1 => bE h fun c2 c3 h => ?_)
  have c4 : ∀ (p : Int) (f : FV) w, f 0 = o.v → f 1 = j.v → f 2 = iV d → f 7 = k.v → f 8 = iV g → f 9 = iV p → St w0 ros (row 3 I1 k.v u :: rs) w → p = c2 → c0 (.exit 2) (fr 48 f) w := by
   intro p f w c5 c6 c7 c8 c9 d0 b ho
   subst ho
   refine c1 _ _ _ (b8 _ _ (wR (Ym k.v (eh c8) (Ym (iV p) (eh d0) (yH (rLt (n := 1) (l := [p]) b SL_22 [iV p] (bp1 e0) rfl rfl (mks1 (cs := [iV p]) rfl mkI mks0)) fun f0 w b => bE h fun f1 d1 h => yH (rAp (b.k11) SL_22 e0 e0 rO1 d1) fun d2 w b => Ya d2.v e0 (wN (b6 _ _ _ (b5 _ _ ?_))))))))
   refine wR (Ym (iV g) (eh c9) (yY (yadd e0 rfl) (Ya (iV (wa .i64 g 1)) e0 (wN ?_))))
   cases h
   exact a9 _ _ _ rfl ⟨_, _, _, _, rfl, rfl, c5, c6, c7, rfl, rfl, (b.k1g)⟩
  refine loopQ (fun s a w => ∃ (q i : Int) (f : FV), (q, i) = s ∧ a = fr 48 f ∧ f 0 = o.v ∧ f 1 = j.v ∧ f 2 = iV d ∧ f 7 = k.v ∧ f 8 = iV g ∧ f 9 = iV q ∧ f 10 = iV i ∧ St w0 ros (row 3 I1 k.v u :: rs) w) c3 ⟨_, _, _, rfl, rfl, J, a6, a7, K, L, rfl, rfl, b⟩ ?_
  rintro _ _ w f2 ⟨q, i, f, rfl, rfl, E, x, m, N, F, z, y, b⟩ c d3 f3 d4 d5
  refine seqQ fun f4 d6 d7 => sR fun _ d8 => Ym (iV i) (eh y) (Ym j.v (eh x) (yY (yLen SL_22 e0 b (rdI r)) (yY (ylss e0 e0) (wK d8 ?_))))
  refine cIf e0 c (fun d9 c => ?_) fun d9 c => ?_
  ·refine wp_skip (d6 _ _ (sQ fun _ e1 => blockQ fun _ e2 => bE c fun f5 O c => bE c fun f6 R c => bE c fun f7 e3 c => bE c fun f8 A c => bE c fun f9 e4 c => bE c fun e5 e6 c => dR [0, 0, 0, 6, 14, 0, 62, 126, 0, 510, 0, 0, 3072, 7168, 0, 32766, 65534, 131071, 0, 524287, 1048575] [9, 15, 20] 3 folM ?_))
   replace b := b.drew
   refine Dn [0, 1, 2, 3, 4, 5, 6, 7, 8, 10, 11, 12, 13, 14, 18] [] [9] (yR rfl (m_ (iV q) (eh z)) (yR rfl (m_ o.v (eh E)) (yR rfl (m_ (iV g) (eh F)) (yR rfl (yIa SL_52 e0 e0 b (rdI C) O) ?_))))
   obtain ⟨g0, b⟩ := iLs b C O
   refine yR rfl (yCt O_22 e0 b F1 rfl) (yR rfl (m_ (iV i) (eh y)) (yR rfl (yIa SL_22 e0 e0 b (rdI F0) R) (yR rfl (yI O_3 e0 b (rdI F0) R) (yR rfl (m_ (iV d) (eh m)) (yR rfl (m_ j.v (eh x)) (yR rfl (m_ (iV i) (eh y)) (yR rfl (yIa SL_22 e0 e0 b (rdI (F_2 r)) A) (yR rfl (yI O_3 e0 b (rdI (F_2 r)) A) (yR rfl (m_ (iV d) (eh m)) (yR rfl (m_ (iV d) (eh m)) (Rn QSn ?_)))))))))))
   refine Lc1 rfl ?_
   refine Lk wn (yCall FN_31 (a2 e0 e0)) (sparseref07_Mod_ok e3 b) ?_
   rintro _ w ⟨rfl, b⟩
   refine ⟨_, rfl, ?_⟩
   refine Dn [] [0, 10, 11, 12, 13, 14, 18] [15] (Rn (yS rfl (m_ (iV q) (eh z)) (yS rfl (m_ j.v (eh x)) (yS rfl (m_ (iV i) (eh y)) (yS rfl (yIa SL_22 e0 e0 b (rdI (F_2 r)) A) (yS rfl (yI O_3 e0 b (rdI (F_2 r)) A) (yS rfl (m_ (iV d) (eh m)) (yS rfl (m_ (iV d) (eh m)) QSn))))))) ?_)
   refine Lc1 rfl ?_
   refine Lk wn (yCall FN_31 (a2 e0 e0)) (sparseref07_Mod_ok e4 b) ?_
   rintro _ w ⟨rfl, b⟩
   refine ⟨_, rfl, ?_⟩
   refine Dn [16, 17, 19] [0, 18] [20] (yR rfl (ymul e0 e0) (yR rfl (yadd e0 e0) (yR rfl (yrem e0 e0 e6) (Rn (yS rfl (m_ (iV q) (eh z)) (yS rfl (m_ (iV d) (eh m)) QSn)) ?_))))
   refine Lc1 rfl ?_
   refine Ly wn (a_ (iV e5) e0) (Dz [] [] (Rn QSn (e2 _ _ _ (e1 _ _ (wR (Ym (iV i) (eh y) (yY (yadd e0 rfl) (Ya (iV (wa .i64 i 1)) e0 (wN ?_)))))))))
   cases c
   exact d4 _ _ _ rfl ⟨_, _, _, rfl, rfl, E, x, m, N, F, rfl, rfl, (b.facts (allT (allT allI)))⟩
  ·refine wp_exit (d7 _ _ _ rfl ?_)
   cases c
   exact d5 _ _ _ _ rfl rfl (c4 _ _ _ E x m N F z b (d3 _ rfl))
 ·refine wp_exit (b2 _ _ _ rfl ?_)
  cases h
  exact b0 _ _ _ _ rfl rfl (a3 _ _ _ _ K b (a8 _ rfl))
theorem modular_square_ok {i : L2} {j : Int} {h : Hdr} {out : Int} (c : modular_square i j = some out) (k : imm S1 h.v i ∈ ros) (b : St w0 ros rs w) :
  Calls Tryz.prog 80 #[h.v, iV j] w (fun e w => e = .returned (iV out) ∧ St w0 ros rs w) := by
 refine enterQ Tryz.func80 rfl Tryz.ntmps80 rfl fun Q l => sR fun _ n => Ya (iV 0) rfl (wK n (sR fun _ o => Ym h.v e0 (Ym (iV j) e0 (bE c fun g p c => yC (yCall FN_83 (a2 e0 e0)) (modular_check_ok p k b) ?_))))
 rintro _ w ⟨rfl, b⟩
 refine ⟨_, rfl, ?_⟩
 refine Ya (iV g) e0 (wK o (seqQ fun D q r => sR fun _ s => Ym (iV g) e0 (yY (yeql e0 rfl) (Ym (.bool (decide (g = 0))) e0 (bE c fun t d c => ?_)))))
 refine joinW 6 (fun f w => f 5 = iV g ∧ f 17 = .bool t ∧ St w0 ros rs w) (fun m => ?_) ?_
 ·rcases iteS d with ⟨a, d⟩ | ⟨a, d⟩
  ·refine yG (dT a) (m_ h.v e0) (yG (dT a) (yLen SL_52 e0 b (rdI k)) (yG (dT a) (m_ h.v e0) (bE d fun u x d => Yc (wG (dT a)) rfl (yCall FN_94 (a1 e0)) (modular_columns_ok x k b) ?_)))
   rintro _ w ⟨rfl, b⟩
   refine ⟨_, rfl, ?_⟩
   refine yG (dT a) (yneq e0 e0) (yY (pt_ (.bool (!(decide ((i.length : Int) = u)))) e0 (dT a) e0) ?_)
   cases d
   exact m _ _ ⟨rfl, rfl, b⟩
  ·refine gN (dF a) (gN (dF a) (gN (dF a) (gN (dF a) (gN (dF a) (yY (pf_ (.bool false) e0 (dF a) rfl) ?_)))))
   cases d
   exact m _ _ ⟨rfl, rfl, b⟩
 rintro f w ⟨y, z, b⟩
 refine wK s (cB (eh z) c (fun A c => ?_) fun A c => ?_)
 ·refine sR fun _ B => Ya (iV 5) rfl (wK B (wp_ret (r _ _ _ rfl ?_)))
  cases c
  exact l _ _ _ (fin1r Tryz.results80 ⟨rfl, rfl⟩ ⟨rfl, b⟩)
 ·refine wp_skip (q _ _ (sR fun _ C => Ym (iV g) (eh y) (Ya (iV g) e0 (wK C (wp_ret ?_)))))
  cases c
  exact l _ _ _ (fin1r Tryz.results80 ⟨rfl, rfl⟩ ⟨rfl, b⟩)
theorem modular_Solve_ok {z : L2} {E : LI} {q : Int} {m A : Hdr} {out : LI × Int} (c : modular_Solve z E q = some out) (B : imm S1 m.v z ∈ ros) (F : imm I1 A.v E ∈ ros) (b : St w0 ros rs w) :
  Calls Tryz.prog 46 #[m.v, A.v, iV q] w (fun e w => ∃ (a7 : Hdr), e = .returned (.tuple #[a7.v, iV out.2]) ∧ St w0 ros (row 3 I1 a7.v out.1 :: rs) w) := by
 refine enterQ Tryz.func46 rfl Tryz.ntmps46 rfl fun Q G => sR fun _ d4 => Ya hnil.v rfl (Ya (iV 0) rfl (wK d4 (sR fun _ d5 => Ym m.v e0 (Ym (iV q) e0 (bE c fun C d6 c => yC (yCall FN_80 (a2 e0 e0)) (modular_square_ok d6 B b) ?_)))))
 rintro _ w ⟨rfl, b⟩
 refine ⟨_, rfl, ?_⟩
 refine Ya (iV C) e0 (wK d5 (seqQ fun l2 d7 a8 => blockQ fun _ O => sR fun _ d8 => Ym (iV C) e0 (yY (yneq e0 rfl) (Ya (.bool (!(decide (C = 0)))) e0 (wK d8 ?_)))))
 rcases iteS c with ⟨R, c⟩ | ⟨R, c⟩
 ·refine condF e0 (nF (dT R)) (sR fun _ d9 => Ym A.v e0 (yY (yLen SL_22 e0 b (rdI F)) (Ym m.v e0 (yY (yLen SL_52 e0 b (rdI B)) (yY (yneq e0 e0) (Ya (.bool (!(decide ((E.length : Int) = (z.length : Int))))) e0 (wK d9 ?_)))))))
  rcases iteS c with ⟨S, c⟩ | ⟨S, c⟩
  ·refine condF e0 (nF (dT S)) (wp_skip (O _ _ _ (d7 _ _ (sR fun _ e1 => Ym m.v e0 (Ym (iV q) e0 (bE c fun l3 e2 c => yC (yCall FN_82 (a2 e0 e0)) (modular_reduced_ok e2 B b) ?_))))))
   rintro _ w ⟨d, l4, rfl, b⟩
   refine ⟨_, rfl, ?_⟩
   refine Ya d.v e0 (wK e1 (sQ fun _ e3 => sR fun _ e4 => Ym A.v e0 (yY (yLen SL_22 e0 b (rdI F)) (Ym (iV 0) rfl (wK e4 (blockQ fun e5 e6 => bE c fun e7 e8 c => ?_))))))
   have e9 : ∀ (T : L2) (U : List Hdr) (f : FV) w, f 0 = m.v → f 2 = iV q → f 9 = d.v → St w0 ros (row 22 rH d.v U :: fam 3 I1 U T :: rs) w → T = e7 → e5 (.exit 1) (fr 88 f) w := by
    intro T U f w a9 f0 b0 b ho
    subst ho
    refine e6 _ _ _ (e3 _ _ (sR fun _ f1 => Ym d.v (eh b0) (Ym (iV q) (eh f0) (bE c fun r f2 c => yC (yCall FN_81 (a2 e0 e0)) (modular_echelon_ok f2 b) ?_))))
    rintro _ w ⟨H, o, rfl, b⟩
    refine ⟨_, rfl, ?_⟩
    refine Ym (.tuple #[o.v, iV r.2.2]) e0 (yY (x_ o.v e0) (yY (x_ (iV r.2.2) e0) (Ya o.v e0 (Ya (iV r.2.2) e0 (wK f1 (sR fun _ f3 => Ya hnil.v rfl (wK f3 (seqQ fun l5 f4 f5 => sQ fun _ f6 => ?_))))))))
    refine wR (Ym m.v (eh a9) (yY (yLen SL_52 e0 b (rdI B)) (Ym (iV 0) rfl (wK f6 (blockQ fun b1 b2 => bE c fun b3 f7 c => ?_)))))
    have f8 : ∀ (V : LI) (D : Hdr) (f : FV) w, f 14 = D.v → St w0 ros (row 3 I1 D.v V :: rs) w → .inl V = b3 → b1 (.exit 3) (fr 88 f) w := by
     intro V D f w f9 b ho
     subst ho
     refine b2 _ _ _ (f4 _ _ (sR fun _ g0 => Ym D.v (eh f9) (Ya D.v e0 (Ya (iV 0) rfl (wK g0 (wp_ret ?_))))))
     cases c
     exact G _ _ _ (fin2r Tryz.results46 ⟨rfl, rfl⟩ ⟨rfl, rfl⟩ ⟨_, rfl, b⟩)
    have g1 : ∀ (f : FV) w, f 6 = hnil.v → f 7 = iV 9 → St w0 ros rs w → .inr () = b3 → b1 .ret (fr 88 f) w := by
     intro f w g2 g3 b ho
     subst ho
     refine b2 _ _ _ (f5 _ _ _ rfl ?_)
     cases c
     replace b := b.rowNh 3 I1
     exact G _ _ _ (fin2r Tryz.results46 ⟨rfl, g2⟩ ⟨rfl, g3⟩ ⟨_, rfl, b⟩)
    replace b := b.rowNh 3 I1
    refine loopQ (fun s a w => ∃ (I : LI) (j : Int) (f : FV) (y : Hdr), (I, j) = s ∧ a = fr 88 f ∧ f 0 = m.v ∧ f 9 = d.v ∧ f 12 = o.v ∧ f 14 = y.v ∧ f 59 = iV (z.length : Int) ∧ f 60 = iV j ∧ St w0 ros (row 22 rH d.v H :: fam 3 I1 H r.1 :: row 3 I1 o.v r.2.1 :: row 3 I1 y.v I :: rs) w) f7 ⟨_, _, _, _, rfl, rfl, a9, b0, rfl, rfl, rfl, rfl, (b.k1c)⟩ ?_
    rintro _ _ w l6 ⟨I, j, f, y, rfl, rfl, b4, b5, J, W, X, K, b⟩ g b6 l7 g4 b7
    refine sR fun _ g5 => yY (ylss (eh K) (eh X)) (wK g5 (seqQ fun l8 g6 g7 => ?_))
    refine cIf e0 g (fun g8 g => ?_) fun g8 g => ?_
    ·refine wp_skip (g6 _ _ (seqQ fun l9 g9 h0 => blockQ fun _ b8 => sR fun _ h1 => Ym (iV j) (eh K) (Ya (iV j) e0 (wK h1 (seqQ fun m0 h3 h5 => sR fun _ h6 => Ym (iV j) e0 ?_)))))
     refine Ym o.v (eh J) (yY (yLen SL_22 e0 b rO2) (yY (ygeq e0 e0) (Ym (.bool (decide ((r.2.1.length : Int) ≤ j))) e0 (bE g fun h7 x g => ?_))))
     refine joinW 7 (fun f w => f 0 = m.v ∧ f 9 = d.v ∧ f 12 = o.v ∧ f 14 = y.v ∧ f 15 = iV j ∧ f 59 = iV (z.length : Int) ∧ f 60 = iV j ∧ f 74 = .bool h7 ∧ St w0 ros (row 22 rH d.v H :: fam 3 I1 H r.1 :: row 3 I1 o.v r.2.1 :: row 3 I1 y.v I :: rs) w) (fun b9 => ?_) ?_
     ·rcases iteS x with ⟨h, x⟩ | ⟨h, x⟩
      ·refine gN (dT h) (gN (dT h) (gN (dT h) (gN (dT h) (gN (dT h) (gN (dT h) (yY (pt_ (.bool true) e0 (dT h) rfl) ?_))))))
       cases x
       exact b9 _ _ ⟨b4, b5, J, W, rfl, X, K, rfl, b⟩
      ·refine yG (dF h) (m_ o.v (eh J)) (yG (dF h) (m_ (iV j) e0) (bE x fun h8 c0 x => yG (dF h) (yIa SL_22 e0 e0 b rO2 c0) (yG (dF h) (yI O_3 e0 b rO2 c0) (yG (dF h) (m_ (iV j) e0) (yG (dF h) (yneq e0 e0) (yY (pf_ (.bool (!(decide (h8 = j)))) e0 (dF h) e0) ?_))))))
       cases x
       exact b9 _ _ ⟨b4, b5, J, W, rfl, X, K, rfl, b⟩
     rintro f w ⟨c1, c2, h9, i0, i1, i2, i3, i4, b⟩
     refine wK h6 (cB (eh i4) g (fun i5 g => ?_) fun i5 g => ?_)
     ·refine sR fun _ i6 => Ya hnil.v rfl (Ya (iV 9) rfl (wK i6 (wp_ret (h5 _ _ _ rfl (b8 _ _ _ (h0 _ _ _ rfl ?_))))))
      cases g
      exact b7 _ _ _ _ rfl rfl (g1 _ _ rfl rfl (b.k1h) (b6 _ rfl))
     ·refine wp_skip (h3 _ _ (wR (Ym y.v (eh i0) (Ym d.v (eh c2) (Ym (iV j) (eh i1) (bE g fun m1 Z g => ?_))))))
      obtain ⟨m2, L⟩ := b.famI R1 Z
      refine yY (yIa SLH_52 e0 e0 b rO0 L) (yY (yF1 O_22 e0 b rO0 L rfl) (Ym m.v (eh c1) (yY (yLen SL_52 e0 b (rdI B)) (bE g fun a0 c3 g => yY (yIa SL_22 e0 e0 b (rdF R1 L Z) c3) (yY (yI O_3 e0 b (rdF R1 L Z) c3) (yH (rLt (n := 1) (l := [a0]) b SL_22 [iV a0] (bp1 e0) rfl rfl (mks1 (cs := [iV a0]) rfl mkI mks0)) fun m3 w b => bE g fun m4 i7 g => yH (rAp (b.k1r) SL_22 e0 e0 rO1 i7) fun i8 w b => Ya i8.v e0 (wN ?_)))))))
      refine b8 _ _ _ (g9 _ _ (wR (yY (yadd (eh i3) rfl) (Ym (iV (wa .i64 j 1)) e0 (wN ?_)))))
      cases g
      exact g4 _ _ _ rfl ⟨_, _, _, _, rfl, rfl, c1, c2, h9, rfl, i2, rfl, (b.k1s)⟩
    ·refine wp_exit (g7 _ _ _ rfl ?_)
     cases g
     exact b7 _ _ _ _ rfl rfl (f8 _ _ _ _ W (b.k1t) (b6 _ rfl))
   refine loopQ (fun s a w => ∃ (a1 : L2) (k : Int) (f : FV) (a3 : List Hdr), (a1, k) = s ∧ a = fr 88 f ∧ f 0 = m.v ∧ f 2 = iV q ∧ f 9 = d.v ∧ f 32 = A.v ∧ f 33 = iV (E.length : Int) ∧ f 34 = iV k ∧ St w0 ros (row 22 rH d.v a3 :: fam 3 I1 a3 a1 :: rs) w) e8 ⟨_, _, _, _, rfl, rfl, rfl, rfl, rfl, rfl, rfl, rfl, b⟩ ?_
   rintro _ _ w m5 ⟨a1, k, f, a3, rfl, rfl, c4, a4, p, c5, c6, N, b⟩ i i9 m6 j0 j1
   refine sR fun _ j2 => yY (ylss (eh N) (eh c6)) (wK j2 (seqQ fun m7 j3 j4 => ?_))
   refine cIf e0 i (fun j6 i => ?_) fun j6 i => ?_
   ·refine wp_skip (j3 _ _ (sQ fun _ j7 => blockQ fun _ j8 => sR fun _ j9 => Ym (iV k) (eh N) (bE i fun c9 d0 i => yY (yIa SL_22 (eh c5) (eh N) b (rdI F) d0) (yY (yI O_3 e0 b (rdI F) d0) (Ya (iV k) e0 (Ya (iV c9) e0 (wK j9 ?_)))))))
    refine bE i fun m8 d1 i => bE i fun a5 k0 i => bE i fun m9 k4 i => bE i fun n0 d2 i => dR [0, 0, 0, 0, 12, 28, 0, 0, 192, 448, 1020, 2047, 4095] [8, 9, 10, 12] 4 folM ?_
    replace b := b.drew
    refine Dn [0, 1, 2, 3, 4, 5, 6, 7] [] [8] (yR rfl (m_ d.v (eh p)) (yR rfl (m_ (iV k) e0) (yR rfl (m_ d.v (eh p)) (yR rfl (m_ (iV k) e0) ?_))))
    obtain ⟨n2, t⟩ := b.famI R1 d1
    refine yR rfl (yIa SLH_52 e0 e0 b rO0 t) (yR rfl (yF1 O_22 e0 b rO0 t rfl) (yR rfl (m_ (iV c9) e0) (yR rfl (m_ (iV q) (eh a4)) (Rn QSn ?_))))
    refine Lc1 rfl ?_
    refine Lk wn (yCall FN_62 (a2 e0 e0)) (modular_mod_ok k0 b) ?_
    rintro _ w ⟨rfl, b⟩
    refine ⟨_, rfl, ?_⟩
    refine Dn [] [0, 1, 2, 3, 4, 5] [9] (Rn (yS rfl (m_ d.v (eh p)) (yS rfl (m_ (iV k) e0) (yS rfl (m_ d.v (eh p)) (yS rfl (m_ (iV k) e0) (yS rfl (yIa SLH_52 e0 e0 b rO0 t) (yS rfl (yF1 O_22 e0 b rO0 t rfl) QSn)))))) ?_)
    refine Lc1 rfl ?_
    refine LH wn (rLt (n := 1) (l := [a5]) b SL_22 [iV a5] (bp1 e0) rfl rfl (mks1 (cs := [iV a5]) rfl mkI mks0)) fun n3 w b => Dn [] [0, 1, 2, 3, 4, 5] [10] (Rn (yS rfl (m_ d.v (eh p)) (yS rfl (m_ (iV k) e0) (yS rfl (m_ d.v (eh p)) (yS rfl (m_ (iV k) e0) (yS rfl (yIa SLH_52 e0 e0 b rO1 t) (yS rfl (yF1 O_22 e0 b rO1 t rfl) QSn)))))) ?_)
    refine Lc1 rfl ?_
    replace b := (b.k1a).foc t d1
    refine LH wn (rAp b SL_22 e0 e0 rO2 k4) fun d3 w b => Dn [11] [0, 1] [12] ?_
    obtain ⟨n5, a6⟩ := setI_len (u := d3) d2 (b.famLx (mtR mhR))
    refine yR rfl (yIs SLH_52 e0 e0 b rO3 a6) (Rn (yS rfl (m_ d.v (eh p)) (yS rfl (m_ (iV k) e0) QSn)) ?_)
    refine Lc1 rfl ?_
    replace b := b.k15
    refine LT wn (r_sti (cs := [d3.v]) b O_22 rfl e0 e0 rfl (mkF rfl) a6) fun w b => ?_
    replace b := (b.k14).unfS t a6 d2
    refine Dz [] [] (Rn QSn (j8 _ _ _ (j7 _ _ (wR (yY (yadd (eh N) rfl) (Ym (iV (wa .i64 k 1)) e0 (wN ?_)))))))
    cases i
    exact j0 _ _ _ rfl ⟨_, _, _, _, rfl, rfl, c4, a4, p, c5, c6, rfl, (b.k13)⟩
   ·refine wp_exit (j4 _ _ _ rfl ?_)
    cases i
    exact j1 _ _ _ _ rfl rfl (e9 _ _ _ _ c4 a4 p b (i9 _ rfl))
  ·refine condT e0 (nT (dF S)) (sR fun _ l0 => Ya hnil.v rfl (Ya (iV 2) rfl (wK l0 (wp_ret (O _ _ _ (a8 _ _ _ rfl ?_))))))
   cases c
   replace b := b.rowNh 3 I1
   exact G _ _ _ (fin2r Tryz.results46 ⟨rfl, rfl⟩ ⟨rfl, rfl⟩ ⟨_, rfl, b⟩)
 ·refine condT e0 (nT (dF R)) (sR fun _ l1 => Ym (iV C) e0 (Ya hnil.v rfl (Ya (iV C) e0 (wK l1 (wp_ret (O _ _ _ (a8 _ _ _ rfl ?_)))))))
  cases c
  replace b := b.rowNh 3 I1
  exact G _ _ _ (fin2r Tryz.results46 ⟨rfl, rfl⟩ ⟨rfl, rfl⟩ ⟨_, rfl, b⟩)
theorem sparselaw07_ModularSolves_ok {U I : LI} {a6 a7 a8 : Int} {V n : Hdr} {out : Bool} (c : sparselaw07_ModularSolves U I a6 a7 a8 = some out) (C5 : out = true) (f0 : imm I1 V.v U ∈ ros) (a9 : imm I1 n.v I ∈ ros) (b : St w0 ros rs w) :
  Calls Tryz.prog 9 #[V.v, n.v, iV a6, iV a7, iV a8] w (fun e w => e = .returned (.bool out) ∧ St w0 ros rs w) := by
 refine enterQ Tryz.func9 rfl Tryz.ntmps9 rfl fun Q J => sR fun _ k1 => Ya (.bool false) rfl (wK k1 (seqQ fun C6 l1 l2 => sR fun _ l3 => Ym V.v e0 (yY (yLen SL_22 e0 b (rdI f0)) (yY (ygtr e0 rfl) (Ym (.bool (decide ((25 : Int) < (U.length : Int)))) e0 ?_)))))
 refine joinW 4 (fun f w => f 0 = V.v ∧ f 1 = n.v ∧ f 2 = iV a6 ∧ f 3 = iV a7 ∧ f 4 = iV a8 ∧ f 31 = .bool ((decide ((25 : Int) < (U.length : Int))) || (decide ((25 : Int) < (I.length : Int)))) ∧ St w0 ros rs w) (fun f1 => ?_) ?_
 ·rcases Bool.eq_false_or_eq_true (decide ((25 : Int) < (U.length : Int))) with C | C
  ·exact gN C (gN C (gN C (yY (pt_ (.bool true) e0 C rfl) (f1 _ _ ⟨rfl, rfl, rfl, rfl, rfl, (congrArg Value.bool (orT C)), b⟩))))
  ·exact yG C (m_ n.v e0) (yG C (yLen SL_22 e0 b (rdI a9)) (yG C (ygtr e0 rfl) (yY (pf_ (.bool (decide ((25 : Int) < (I.length : Int)))) e0 C e0) (f1 _ _ ⟨rfl, rfl, rfl, rfl, rfl, (congrArg Value.bool (orF C)), b⟩))))
 rintro f w ⟨l4, f2, l5, l6, l7, l8, b⟩
 refine wK l3 (cB (eh l8) c (fun l9 c => ?_) fun l9 c => ?_)
 ·refine sR fun _ m0 => bE c fun m1 m2 c => yC (yCall FN_11 a0) (sparselaw07_awake_ok m2 b) ?_
  rintro _ w ⟨rfl, b⟩
  refine ⟨_, rfl, ?_⟩
  refine Ya (.bool m1) e0 (wK m0 (wp_ret (l2 _ _ _ rfl ?_)))
  cases c
  exact J _ _ _ (fin1r Tryz.results9 ⟨rfl, rfl⟩ ⟨rfl, b⟩)
 ·refine wp_skip (l1 _ _ (sR fun _ m3 => Ym (iV a8) (eh l7) (bE c fun j m4 c => yC (yCall FN_34 (a1 e0)) (sparselaw07_prime_ok m4 b) ?_)))
  rintro _ w ⟨rfl, b⟩
  refine ⟨_, rfl, ?_⟩
  refine Ym (iV a6) (eh l5) (bE c fun h m5 c => yC (yCall FN_20 (a2 e0 rfl)) (sparsekit_Place_ok m5 b) ?_)
  rintro _ w ⟨rfl, b⟩
  refine ⟨_, rfl, ?_⟩
  refine yY (yadd rfl e0) (Ya (iV j) e0 (Ya (iV (wa .i64 1 h)) e0 (wK m3 (sR fun _ m6 => Ym V.v (eh l4) (Ym (iV (wa .i64 1 h)) e0 (bE c fun C7 m7 c => yC (yCall FN_35 (a2 e0 e0)) (sparselaw07_square_ok m7 f0 b) ?_))))))
  rintro _ w ⟨d, rfl, b⟩
  refine ⟨_, rfl, ?_⟩
  refine Ya d.v e0 (wK m6 (sR fun _ m8 => Ym d.v e0 (Ym (iV a7) (eh l6) (Ym (iV (wa .i64 1 h)) e0 (bE c fun g m9 c => yC (yCall FN_20 (a2 e0 e0)) (sparsekit_Place_ok m9 b) ?_)))))
  rintro _ w ⟨rfl, b⟩
  refine ⟨_, rfl, ?_⟩
  refine yY (yadd rfl e0) (bE c fun o f3 c => ?_)
  replace b := b.fz
  refine yY (ySl (k1 := .i64) SL_52 e0 b (rdI F0) (.inr ⟨rfl, rfl⟩) (.inl (congrArg some e0)) f3) ?_
  replace b := b.sub F0 f3
  refine Ya ((subH d 1 0 (wa .i64 1 g)).v) e0 (wK m8 (sR fun _ n0 => Ym ((subH d 1 0 (wa .i64 1 g)).v) e0 (Ym (iV j) e0 (bE c fun k n1 c => yC (yCall FN_44 (a2 e0 e0)) (modular_Kernel_ok n1 F0 b) ?_))))
  rintro _ w ⟨l, rfl, b⟩
  refine ⟨_, rfl, ?_⟩
  refine Ym (.tuple #[l.v, iV k.2]) e0 (yY (x_ l.v e0) (yY (x_ (iV k.2) e0) (Ya l.v e0 (Ya (iV k.2) e0 (wK n0 (sR fun _ n2 => Ym ((subH d 1 0 (wa .i64 1 g)).v) e0 (Ym (iV j) e0 (bE c fun i n3 c => yC (yCall FN_38 (a2 e0 e0)) (modular_Rank_ok n3 F0 b) ?_))))))))
  rintro _ w ⟨rfl, b⟩
  refine ⟨_, rfl, ?_⟩
  refine Ym (.tuple #[iV i.1, iV i.2]) e0 (yY (x_ (iV i.1) e0) (yY (x_ (iV i.2) e0) (Ya (iV i.1) e0 (Ya (iV i.2) e0 (wK n2 (seqQ fun C8 n4 n5 => sR fun _ n6 => Ym (iV k.2) e0 (yY (yneq e0 rfl) (Ym (.bool (!(decide (k.2 = 0)))) e0 ?_))))))))
  refine joinW 3 (fun f w => f 1 = n.v ∧ f 2 = iV (wa .i64 1 h) ∧ f 4 = iV j ∧ f 11 = (subH d 1 0 (wa .i64 1 g)).v ∧ f 12 = l.v ∧ f 14 = iV i.1 ∧ f 64 = .bool ((!(decide (k.2 = 0))) || (!(decide (i.2 = 0)))) ∧ St w0 (imm S1 (subH d 1 0 (wa .i64 1 g)).v o :: ros) (row 3 I1 l.v k.1 :: rs) w) (fun f4 => ?_) ?_
  ·rcases Bool.eq_false_or_eq_true (!(decide (k.2 = 0))) with E | E
   ·exact gN E (gN E (yY (pt_ (.bool true) e0 E rfl) (f4 _ _ ⟨f2, rfl, rfl, rfl, rfl, rfl, (congrArg Value.bool (orT E)), (b.facts (allC F0 (allT (allT allI))))⟩)))
   ·exact yG E (m_ (iV i.2) e0) (yG E (yneq e0 rfl) (yY (pf_ (.bool (!(decide (i.2 = 0)))) e0 E e0) (f4 _ _ ⟨f2, rfl, rfl, rfl, rfl, rfl, (congrArg Value.bool (orF E)), (b.facts (allC F0 (allT (allT allI))))⟩)))
  rintro f w ⟨f5, b9, f6, f7, c0, c1, n7, b⟩
  refine Ym (.bool ((!(decide (k.2 = 0))) || (!(decide (i.2 = 0))))) (eh n7) ?_
  refine joinW 8 (fun f w => f 1 = n.v ∧ f 2 = iV (wa .i64 1 h) ∧ f 4 = iV j ∧ f 11 = (subH d 1 0 (wa .i64 1 g)).v ∧ f 12 = l.v ∧ f 14 = iV i.1 ∧ f 73 = .bool (((!(decide (k.2 = 0))) || (!(decide (i.2 = 0)))) || (!((decide ((0 : Int) < (k.1.length : Int))) == (decide (i.1 < (wa .i64 1 h)))))) ∧ St w0 (imm S1 (subH d 1 0 (wa .i64 1 g)).v o :: ros) (row 3 I1 l.v k.1 :: rs) w) (fun f8 => ?_) ?_
  ·rcases Bool.eq_false_or_eq_true ((!(decide (k.2 = 0))) || (!(decide (i.2 = 0)))) with m | m
   ·exact gN m (gN m (gN m (gN m (gN m (gN m (gN m (yY (pt_ (.bool true) e0 m rfl) (f8 _ _ ⟨f5, b9, f6, f7, c0, c1, (congrArg Value.bool (orT m)), b⟩))))))))
   ·exact yG m (m_ l.v (eh c0)) (yG m (yLen SL_22 e0 b rO0) (yG m (ygtr e0 rfl) (yG m (m_ (iV i.1) (eh c1)) (yG m (m_ (iV (wa .i64 1 h)) (eh b9)) (yG m (ylss e0 e0) (yG m (yneb (by kernel_rfl) e0 e0) (yY (pf_ (.bool (!((decide ((0 : Int) < (k.1.length : Int))) == (decide (i.1 < (wa .i64 1 h)))))) e0 m e0) (f8 _ _ ⟨f5, b9, f6, f7, c0, c1, (congrArg Value.bool (orF m)), b⟩))))))))
  rintro f w ⟨f9, c2, g0, g1, b0, g2, n8, b⟩
  refine wK n6 (cB (eh n8) c (fun n9 c => ?_) fun n9 c => ?_)
  ·refine sR fun _ o0 => Ya (.bool false) rfl (wK o0 (wp_ret (n5 _ _ _ rfl ?_)))
   cases c
   exact J _ _ _ (fin1r Tryz.results9 ⟨rfl, rfl⟩ ⟨rfl, ((b.k10).facts (allT allI))⟩)
  ·refine wp_skip (n4 _ _ (seqQ fun C9 o1 o2 => sR fun _ o3 => Ym l.v (eh b0) (yY (yLen SL_22 e0 b rO0) (yY (ygtr e0 rfl) (Ym (.bool (decide ((0 : Int) < (k.1.length : Int)))) e0 ?_)))))
   refine joinW 5 (fun f w => f 1 = n.v ∧ f 2 = iV (wa .i64 1 h) ∧ f 4 = iV j ∧ f 11 = (subH d 1 0 (wa .i64 1 g)).v ∧ f 12 = l.v ∧ f 14 = iV i.1 ∧ f 82 = .bool ((decide ((0 : Int) < (k.1.length : Int))) && (!(decide ((k.1.length : Int) = (wa .i64 1 h))))) ∧ St w0 (imm S1 (subH d 1 0 (wa .i64 1 g)).v o :: ros) (row 3 I1 l.v k.1 :: rs) w) (fun g3 => ?_) ?_
   ·rcases Bool.eq_false_or_eq_true (decide ((0 : Int) < (k.1.length : Int))) with t | t
    ·exact yG t (m_ l.v (eh b0)) (yG t (yLen SL_22 e0 b rO0) (yG t (m_ (iV (wa .i64 1 h)) (eh c2)) (yG t (yneq e0 e0) (yY (pt_ (.bool (!(decide ((k.1.length : Int) = (wa .i64 1 h))))) e0 t e0) (g3 _ _ ⟨f9, c2, g0, g1, b0, g2, (congrArg Value.bool (andT t)), b⟩)))))
    ·exact gN t (gN t (gN t (gN t (yY (pf_ (.bool false) e0 t rfl) (g3 _ _ ⟨f9, c2, g0, g1, b0, g2, (congrArg Value.bool (andF t)), b⟩)))))
   rintro f w ⟨g4, g5, c3, c4, c5, g6, o4, b⟩
   refine wK o3 (cB (eh o4) c (fun o5 c => ?_) fun o5 c => ?_)
   ·refine sR fun _ o6 => Ya (.bool false) rfl (wK o6 (wp_ret (o2 _ _ _ rfl ?_)))
    cases c
    exact J _ _ _ (fin1r Tryz.results9 ⟨rfl, rfl⟩ ⟨rfl, ((b.k10).facts (allT allI))⟩)
   ·refine wp_skip (o1 _ _ (seqQ fun o7 o8 o9 => sR fun _ p0 => Ym l.v (eh c5) (yY (yLen SL_22 e0 b rO0) (yY (ygtr e0 rfl) (wK p0 ?_)))))
    have g7 : ∀ (f : FV) w, f 1 = n.v → f 2 = iV (wa .i64 1 h) → f 4 = iV j → f 11 = (subH d 1 0 (wa .i64 1 g)).v → f 14 = iV i.1 → St w0 (imm S1 (subH d 1 0 (wa .i64 1 g)).v o :: ros) rs w → sparselaw07_ModularSolves_j12 o h I j i = some out → o7 .normal (fr 181 f) w := by
     intro f w p1 c6 p2 g8 p3 b c
     refine o8 _ _ (seqQ fun D0 p4 p5 => sR fun _ p6 => Ym ((subH d 1 0 (wa .i64 1 g)).v) (eh g8) (yY (yLen SL_52 e0 b (rdI F0)) (Ym (iV (wa .i64 1 h)) (eh c6) (yY (ylss e0 e0) (wK p6 ?_)))))
     refine cIf e0 c (fun p7 c => ?_) fun p7 c => ?_
     ·refine sR fun _ p8 => bE c fun p9 q0 c => yC (yCall FN_11 a0) (sparselaw07_awake_ok q0 b) ?_
      rintro _ w ⟨rfl, b⟩
      refine ⟨_, rfl, ?_⟩
      refine Ya (.bool p9) e0 (wK p8 (wp_ret (p5 _ _ _ rfl ?_)))
      cases c
      exact J _ _ _ (fin1r Tryz.results9 ⟨rfl, rfl⟩ ⟨rfl, (b.facts (allT allI))⟩)
     ·refine wp_skip (p4 _ _ (sR fun _ q3 => Ym (iV (wa .i64 1 h)) (eh c6) (bE c fun D1 q4 c => yH (rMk b SL_22 e0 q4) fun B w b => Ya B.v e0 (wK q3 (sQ fun _ q5 => sR fun _ q6 => ?_)))))
      refine Ya (iV 0) rfl (wK q6 (blockQ fun q7 q8 => bE c fun q9 r0 c => ?_))
      have r1 : ∀ (b1 : LI) (f : FV) w, f 2 = iV (wa .i64 1 h) → f 4 = iV j → f 11 = (subH d 1 0 (wa .i64 1 g)).v → f 14 = iV i.1 → f 20 = B.v → St w0 (imm S1 (subH d 1 0 (wa .i64 1 g)).v o :: ros) (row 3 I1 B.v b1 :: rs) w → b1 = q9 → q7 (.exit 4) (fr 181 f) w := by
       intro b1 f w g9 c7 c8 r2 d0 b ho
       subst ho
       refine q8 _ _ _ (q5 _ _ (sR fun _ r3 => Ym ((subH d 1 0 (wa .i64 1 g)).v) (eh c8) (Ym B.v (eh d0) (Ym (iV j) (eh c7) (bE c fun r r4 c => ?_)))))
       replace b := b.fz
       refine yC (yCall FN_46 (a3 e0 e0 e0)) (modular_Solve_ok r4 F1 F0 b) ?_
       rintro _ w ⟨K, rfl, b⟩
       refine ⟨_, rfl, ?_⟩
       refine Ym (.tuple #[K.v, iV r.2]) e0 (yY (x_ K.v e0) (yY (x_ (iV r.2) e0) (Ya K.v e0 (Ya (iV r.2) e0 (wK r3 (seqQ fun D2 r5 r6 => sR fun _ r7 => Ym (iV i.1) (eh r2) (Ym (iV (wa .i64 1 h)) (eh g9) (yY (ylss e0 e0) (wN ?_)))))))))
       refine r7 _ _ ?_
       refine cIf e0 c (fun r8 c => ?_) fun r8 c => ?_
       ·refine sR fun _ r9 => Ym (iV r.2) e0 (yY (yeql e0 rfl) (Ym (.bool (decide (r.2 = 9))) e0 (bE c fun h0 L c => ?_)))
        refine joinW 2 (fun f w => f 161 = .bool h0 ∧ St w0 ros rs w) (fun h1 => ?_) ?_
        ·rcases iteS L with ⟨W, L⟩ | ⟨W, L⟩
         ·refine bE L fun s0 s1 L => Yc (wG (dT W)) rfl (yCall FN_11 a0) (sparselaw07_awake_ok s1 b) ?_
          rintro _ w ⟨rfl, b⟩
          refine ⟨_, rfl, ?_⟩
          refine yY (pt_ (.bool s0) e0 (dT W) e0) ?_
          cases L
          exact h1 _ _ ⟨rfl, ((b.k10).facts (allT (allT allI)))⟩
         ·refine gN (dF W) (yY (pf_ (.bool false) e0 (dF W) rfl) ?_)
          cases L
          exact h1 _ _ ⟨rfl, ((b.k10).facts (allT (allT allI)))⟩
        rintro f w ⟨s2, b⟩
        refine Ya (.bool h0) (eh s2) (wK r9 (wp_ret (r6 _ _ _ rfl ?_)))
        cases c
        exact J _ _ _ (fin1r Tryz.results9 ⟨rfl, rfl⟩ ⟨rfl, b⟩)
       ·refine wp_skip (r5 _ _ (sR fun _ s3 => Ym (iV r.2) e0 (yY (yeql e0 rfl) (Ym (.bool (decide (r.2 = 0))) e0 ?_))))
        refine joinW 5 (fun f w => f 4 = iV j ∧ f 11 = (subH d 1 0 (wa .i64 1 g)).v ∧ f 20 = B.v ∧ f 22 = K.v ∧ f 169 = .bool ((decide (r.2 = 0)) && (decide ((r.1.length : Int) = (wa .i64 1 h)))) ∧ St w0 (imm S1 (subH d 1 0 (wa .i64 1 g)).v o :: imm I1 B.v b1 :: ros) (row 3 I1 K.v r.1 :: rs) w) (fun h3 => ?_) ?_
        ·rcases Bool.eq_false_or_eq_true (decide (r.2 = 0)) with u | u
         ·exact yG u (m_ K.v e0) (yG u (yLen SL_22 e0 b rO0) (yG u (m_ (iV (wa .i64 1 h)) (eh g9)) (yG u (yeql e0 e0) (yY (pt_ (.bool (decide ((r.1.length : Int) = (wa .i64 1 h)))) e0 u e0) (h3 _ _ ⟨c7, c8, d0, rfl, (congrArg Value.bool (andT u)), (b.facts (allC F1 (allC F0 (allT (allT allI)))))⟩)))))
         ·exact gN u (gN u (gN u (gN u (yY (pf_ (.bool false) e0 u rfl) (h3 _ _ ⟨c7, c8, d0, rfl, (congrArg Value.bool (andF u)), (b.facts (allC F1 (allC F0 (allT (allT allI)))))⟩)))))
        rintro f w ⟨s4, s5, s6, s7, s8, b⟩
        refine Ym (.bool ((decide (r.2 = 0)) && (decide ((r.1.length : Int) = (wa .i64 1 h))))) (eh s8) (bE c fun h5 F c => ?_)
        refine joinW 7 (fun f w => f 177 = .bool h5 ∧ St w0 ros rs w) (fun h6 => ?_) ?_
        ·rcases iteS F with ⟨p, F⟩ | ⟨p, F⟩
         ·refine yG p (m_ ((subH d 1 0 (wa .i64 1 g)).v) (eh s5)) (yG p (m_ K.v (eh s7)) (yG p (m_ (iV j) (eh s4)) (bE F fun D3 s9 F => ?_)))
          replace b := b.fz
          refine Yc (wG p) rfl (yCall FN_45 (a3 e0 e0 e0)) (sparselaw07_product_ok s9 F1 F0 b) ?_
          rintro _ w ⟨D4, rfl, b⟩
          refine ⟨_, rfl, ?_⟩
          refine yG p (m_ B.v (eh s6)) (bE F fun t0 t1 F => ?_)
          replace b := b.fz
          refine Yc (wG p) rfl (yCall FN_25 (a2 e0 e0)) (sparsekit_Ints_ok t1 F0 F3 b) ?_
          rintro _ w ⟨rfl, b⟩
          refine ⟨_, rfl, ?_⟩
          refine yY (pt_ (.bool t0) e0 p e0) ?_
          cases F
          exact h6 _ _ ⟨rfl, (b.facts (allT (allT (allT (allT allI)))))⟩
         ·refine gN (bfalse p) (gN (bfalse p) (gN (bfalse p) (gN (bfalse p) (gN (bfalse p) (gN (bfalse p) (yY (pf_ (.bool false) e0 (bfalse p) rfl) ?_))))))
          cases F
          exact h6 _ _ ⟨rfl, ((b.k10).facts (allT (allT allI)))⟩
        rintro f w ⟨t2, b⟩
        refine Ym (.bool h5) (eh t2) (bE c fun h7 N c => ?_)
        refine joinW 2 (fun f w => f 180 = .bool h7 ∧ St w0 ros rs w) (fun h8 => ?_) ?_
        ·rcases iteS N with ⟨X, N⟩ | ⟨X, N⟩
         ·refine bE N fun t3 t4 N => Yc (wG X) rfl (yCall FN_11 a0) (sparselaw07_awake_ok t4 b) ?_
          rintro _ w ⟨rfl, b⟩
          refine ⟨_, rfl, ?_⟩
          refine yY (pt_ (.bool t3) e0 X e0) ?_
          cases N
          exact h8 _ _ ⟨rfl, b⟩
         ·refine gN (bfalse X) (yY (pf_ (.bool false) e0 (bfalse X) rfl) ?_)
          cases N
          exact h8 _ _ ⟨rfl, b⟩
        rintro f w ⟨t5, b⟩
        refine Ya (.bool h7) (eh t5) (wK s3 (wp_ret ?_))
        cases c
        exact J _ _ _ (fin1r Tryz.results9 ⟨rfl, rfl⟩ ⟨rfl, b⟩)
      refine loopQ (fun s a w => ∃ (b2 : LI) (q : Int) (f : FV), (b2, q) = s ∧ a = fr 181 f ∧ f 1 = n.v ∧ f 2 = iV (wa .i64 1 h) ∧ f 4 = iV j ∧ f 11 = (subH d 1 0 (wa .i64 1 g)).v ∧ f 14 = iV i.1 ∧ f 20 = B.v ∧ f 21 = iV q ∧ St w0 (imm S1 (subH d 1 0 (wa .i64 1 g)).v o :: ros) (row 3 I1 B.v b2 :: rs) w) r0 ⟨_, _, _, rfl, rfl, p1, c6, p2, g8, p3, rfl, rfl, b⟩ ?_
      rintro _ _ w D5 ⟨b2, q, f, rfl, rfl, d1, d2, h9, i0, i1, i2, b3, b⟩ D t6 D6 t7 t8
      refine seqQ fun D7 t9 u0 => sR fun _ u1 => Ym (iV q) (eh b3) (Ym (iV (wa .i64 1 h)) (eh d2) (yY (ylss e0 e0) (Ym (.bool (decide (q < (wa .i64 1 h)))) e0 ?_)))
      refine joinW 5 (fun f w => f 1 = n.v ∧ f 2 = iV (wa .i64 1 h) ∧ f 4 = iV j ∧ f 11 = (subH d 1 0 (wa .i64 1 g)).v ∧ f 14 = iV i.1 ∧ f 20 = B.v ∧ f 21 = iV q ∧ f 135 = .bool ((decide (q < (wa .i64 1 h))) && (decide (q < (I.length : Int)))) ∧ St w0 (imm S1 (subH d 1 0 (wa .i64 1 g)).v o :: ros) (row 3 I1 B.v b2 :: rs) w) (fun i3 => ?_) ?_
      ·rcases Bool.eq_false_or_eq_true (decide (q < (wa .i64 1 h))) with x | x
       ·exact yG x (m_ (iV q) (eh b3)) (yG x (m_ n.v (eh d1)) (yG x (yLen SL_22 e0 b (rdI (mtF a9))) (yG x (ylss e0 e0) (yY (pt_ (.bool (decide (q < (I.length : Int)))) e0 x e0) (i3 _ _ ⟨d1, d2, h9, i0, i1, i2, b3, (congrArg Value.bool (andT x)), b⟩)))))
       ·exact gN x (gN x (gN x (gN x (yY (pf_ (.bool false) e0 x rfl) (i3 _ _ ⟨d1, d2, h9, i0, i1, i2, b3, (congrArg Value.bool (andF x)), b⟩)))))
      rintro f w ⟨i4, i5, d3, i6, i7, d4, d5, u2, b⟩
      refine wK u1 (cB (eh u2) D (fun u3 D => ?_) fun u3 D => ?_)
      ·refine wp_skip (t9 _ _ (sQ fun _ u4 => blockQ fun _ u5 => wR (Ym B.v (eh d4) (Ym (iV q) (eh d5) (Ym n.v (eh i4) (Ym (iV q) (eh d5) (bE D fun D8 i8 D => yY (yIa SL_22 e0 e0 b (rdI (mtF a9)) i8) (yY (yI O_3 e0 b (rdI (mtF a9)) i8) (Ym (iV j) (eh d3) (bE D fun u6 u7 D => ?_))))))))))
       refine yC (yCall FN_31 (a2 e0 e0)) (sparseref07_Mod_ok u7 b) ?_
       rintro _ w ⟨rfl, b⟩
       refine ⟨_, rfl, ?_⟩
       refine bE D fun D9 i9 D => yY (yIs SL_22 e0 e0 b rO0 i9) (yT (r_sti (cs := [iV u6]) b O_3 rfl e0 e0 rfl mkI i9) fun w b => wN (u5 _ _ _ (u4 _ _ (wR (Ym (iV q) (eh d5) (yY (yadd e0 rfl) (Ya (iV (wa .i64 q 1)) e0 (wN ?_))))))))
       cases D
       exact t7 _ _ _ rfl ⟨_, _, _, rfl, rfl, i4, i5, d3, i6, i7, d4, rfl, b⟩
      ·refine wp_exit (u0 _ _ _ rfl ?_)
       cases D
       exact t8 _ _ _ _ rfl rfl (r1 _ _ _ i5 d3 i6 i7 d4 b (t6 _ rfl))
    refine cIf e0 c (fun u8 c => ?_) fun u8 c => ?_
    ·refine sR fun _ u9 => Ym ((subH d 1 0 (wa .i64 1 g)).v) (eh c4) (Ym l.v (eh c5) (Ym (iV j) (eh c3) (bE c fun Z v0 c => ?_)))
     replace b := b.fz
     refine yC (yCall FN_45 (a3 e0 e0 e0)) (sparselaw07_product_ok v0 F1 F0 b) ?_
     rintro _ w ⟨y, rfl, b⟩
     refine ⟨_, rfl, ?_⟩
     refine Ya y.v e0 (wK u9 (sR fun _ v1 => Ya (.bool false) rfl (wK v1 (sQ fun _ v2 => sR fun _ v3 => Ya (iV 0) rfl (wK v3 ?_)))))
     refine blockQ fun v4 v5 => bE c fun v6 v7 c => ?_
     have v8 : ∀ (d6 : Bool) (f : FV) w, f 1 = n.v → f 2 = iV (wa .i64 1 h) → f 4 = iV j → f 11 = (subH d 1 0 (wa .i64 1 g)).v → f 14 = iV i.1 → f 16 = y.v → f 17 = .bool d6 → St w0 (imm S1 (subH d 1 0 (wa .i64 1 g)).v o :: ros) (row 3 I1 y.v Z :: rs) w → d6 = v6 → v4 (.exit 0) (fr 181 f) w := by
      intro d6 f w v9 w1 w2 w3 w4 w5 w6 b ho
      subst ho
      refine v5 _ _ _ (v2 _ _ (sQ fun _ w7 => sR fun _ w8 => Ya (iV 0) rfl (wK w8 (blockQ fun w9 x0 => bE c fun x2 x4 c => ?_))))
      have x8 : ∀ (b4 : Bool) (f : FV) w, f 1 = n.v → f 2 = iV (wa .i64 1 h) → f 4 = iV j → f 11 = (subH d 1 0 (wa .i64 1 g)).v → f 14 = iV i.1 → f 17 = .bool b4 → St w0 (imm S1 (subH d 1 0 (wa .i64 1 g)).v o :: ros) rs w → b4 = x2 → w9 (.exit 2) (fr 181 f) w := by
       intro b4 f w x9 y0 y1 y2 y3 y4 b ho
       subst ho
       refine x0 _ _ _ (w7 _ _ (sR fun _ y5 => Ym (.bool b4) (eh y4) (yY (ynot e0) (wK y5 ?_))))
       rcases iteS c with ⟨d7, c⟩ | ⟨d7, c⟩
       ·exact condF e0 (nF d7) (wp_skip (g7 _ _ x9 y0 y1 y2 y3 b c))
       ·refine condT e0 (nT (bfalse d7)) (sR fun _ y6 => Ya (.bool false) rfl (wK y6 (wp_ret (o9 _ _ _ rfl ?_))))
        cases c
        exact J _ _ _ (fin1r Tryz.results9 ⟨rfl, rfl⟩ ⟨rfl, (b.facts (allT allI))⟩)
      refine loopQ (fun s a w => ∃ (a4 : Bool) (G : Int) (f : FV), (a4, G) = s ∧ a = fr 181 f ∧ f 1 = n.v ∧ f 2 = iV (wa .i64 1 h) ∧ f 4 = iV j ∧ f 11 = (subH d 1 0 (wa .i64 1 g)).v ∧ f 14 = iV i.1 ∧ f 16 = y.v ∧ f 17 = .bool a4 ∧ f 19 = iV G ∧ St w0 (imm S1 (subH d 1 0 (wa .i64 1 g)).v o :: ros) (row 3 I1 y.v Z :: rs) w) x4 ⟨_, _, _, rfl, rfl, v9, w1, w2, w3, w4, w5, w6, rfl, b⟩ ?_
      rintro _ _ w E0 ⟨a4, G, f, rfl, rfl, d8, d9, e1, e2, e3, b5, j0, b6, b⟩ O y7 E1 y8 y9
      refine seqQ fun E2 z0 z1 => sR fun _ z3 => Ym (iV G) (eh b6) (Ym y.v (eh b5) (yY (yLen SL_22 e0 b rO0) (yY (ylss e0 e0) (wK z3 ?_))))
      refine cIf e0 O (fun z4 O => ?_) fun z4 O => ?_
      ·refine wp_skip (z0 _ _ (sQ fun _ z5 => blockQ fun _ z6 => wR (Ym (.bool a4) (eh j0) (Ym (.bool a4) e0 (bE O fun j5 R O => ?_)))))
       refine joinW 6 (fun f w => f 1 = n.v ∧ f 2 = iV (wa .i64 1 h) ∧ f 4 = iV j ∧ f 11 = (subH d 1 0 (wa .i64 1 g)).v ∧ f 14 = iV i.1 ∧ f 16 = y.v ∧ f 19 = iV G ∧ f 117 = .bool j5 ∧ St w0 (imm S1 (subH d 1 0 (wa .i64 1 g)).v o :: ros) (row 3 I1 y.v Z :: rs) w) (fun j6 => ?_) ?_
       ·rcases iteS R with ⟨z, R⟩ | ⟨z, R⟩
        ·refine yG z (m_ y.v (eh b5)) (yG z (m_ (iV G) (eh b6)) (bE R fun z7 j7 R => yG z (yIa SL_22 e0 e0 b rO0 j7) (yG z (yI O_3 e0 b rO0 j7) (yG z (yeql e0 rfl) (yY (pt_ (.bool (decide (z7 = 0))) e0 z e0) ?_)))))
         cases R
         exact j6 _ _ ⟨d8, d9, e1, e2, e3, b5, b6, rfl, b⟩
        ·refine gN (bfalse z) (gN (bfalse z) (gN (bfalse z) (gN (bfalse z) (gN (bfalse z) (yY (pf_ (.bool false) e0 (bfalse z) rfl) ?_)))))
         cases R
         exact j6 _ _ ⟨d8, d9, e1, e2, e3, b5, b6, rfl, b⟩
       rintro f w ⟨z8, z9, A0, A1, A2, A3, A4, A5, b⟩
       refine Ya (.bool j5) (eh A5) (wN (z6 _ _ _ (z5 _ _ (wR (Ym (iV G) (eh A4) (yY (yadd e0 rfl) (Ya (iV (wa .i64 G 1)) e0 (wN ?_))))))))
       cases O
       exact y8 _ _ _ rfl ⟨_, _, _, rfl, rfl, z8, z9, A0, A1, A2, A3, rfl, rfl, b⟩
      ·refine wp_exit (z1 _ _ _ rfl ?_)
       cases O
       exact y9 _ _ _ _ rfl rfl (x8 _ _ _ d8 d9 e1 e2 e3 j0 (b.k10) (y7 _ rfl))
     refine loopQ (fun s a w => ∃ (a5 : Bool) (H : Int) (f : FV), (a5, H) = s ∧ a = fr 181 f ∧ f 1 = n.v ∧ f 2 = iV (wa .i64 1 h) ∧ f 4 = iV j ∧ f 11 = (subH d 1 0 (wa .i64 1 g)).v ∧ f 12 = l.v ∧ f 14 = iV i.1 ∧ f 16 = y.v ∧ f 17 = .bool a5 ∧ f 18 = iV H ∧ St w0 (imm S1 (subH d 1 0 (wa .i64 1 g)).v o :: imm I1 l.v k.1 :: ros) (row 3 I1 y.v Z :: rs) w) v7 ⟨_, _, _, rfl, rfl, g4, g5, c3, c4, c5, g6, rfl, rfl, rfl, (b.facts (allC F1 (allC F0 (allT (allT allI)))))⟩ ?_
     rintro _ _ w E3 ⟨a5, H, f, rfl, rfl, e4, e5, e6, e7, b7, e8, e9, j8, b8, b⟩ S A6 E4 A7 A8
     refine seqQ fun E5 A9 B0 => sR fun _ B1 => Ym (iV H) (eh b8) (Ym l.v (eh b7) (yY (yLen SL_22 e0 b (rdI F1)) (yY (ylss e0 e0) (wK B1 ?_))))
     refine cIf e0 S (fun B2 S => ?_) fun B2 S => ?_
     ·refine wp_skip (A9 _ _ (sQ fun _ B3 => blockQ fun _ B4 => wR (Ym (.bool a5) (eh j8) (Ym (.bool a5) e0 (bE S fun j9 T S => ?_)))))
      refine joinW 6 (fun f w => f 1 = n.v ∧ f 2 = iV (wa .i64 1 h) ∧ f 4 = iV j ∧ f 11 = (subH d 1 0 (wa .i64 1 g)).v ∧ f 12 = l.v ∧ f 14 = iV i.1 ∧ f 16 = y.v ∧ f 18 = iV H ∧ f 103 = .bool j9 ∧ St w0 (imm S1 (subH d 1 0 (wa .i64 1 g)).v o :: imm I1 l.v k.1 :: ros) (row 3 I1 y.v Z :: rs) w) (fun k0 => ?_) ?_
      ·rcases iteS T with ⟨A, T⟩ | ⟨A, T⟩
       ·refine gN A (gN A (gN A (gN A (gN A (yY (pt_ (.bool true) e0 A rfl) ?_)))))
        cases T
        exact k0 _ _ ⟨e4, e5, e6, e7, b7, e8, e9, b8, rfl, b⟩
       ·refine yG (bfalse A) (m_ l.v (eh b7)) (yG (bfalse A) (m_ (iV H) (eh b8)) (bE T fun B5 l0 T => yG (bfalse A) (yIa SL_22 e0 e0 b (rdI F1) l0) (yG (bfalse A) (yI O_3 e0 b (rdI F1) l0) (yG (bfalse A) (yneq e0 rfl) (yY (pf_ (.bool (!(decide (B5 = 0)))) e0 (bfalse A) e0) ?_)))))
        cases T
        exact k0 _ _ ⟨e4, e5, e6, e7, b7, e8, e9, b8, rfl, b⟩
      rintro f w ⟨B6, B7, B8, B9, C0, C1, C2, C3, C4, b⟩
      refine Ya (.bool j9) (eh C4) (wN (B4 _ _ _ (B3 _ _ (wR (Ym (iV H) (eh C3) (yY (yadd e0 rfl) (Ya (iV (wa .i64 H 1)) e0 (wN ?_))))))))
      cases S
      exact A7 _ _ _ rfl ⟨_, _, _, rfl, rfl, B6, B7, B8, B9, C0, C1, C2, rfl, rfl, b⟩
     ·refine wp_exit (B0 _ _ _ rfl ?_)
      cases S
      exact A8 _ _ _ _ rfl rfl (v8 _ _ _ e4 e5 e6 e7 e8 e9 j8 (b.facts (allC F0 (allT (allT allI)))) (A6 _ rfl))
    ·exact wp_skip (g7 _ _ g4 g5 c3 c4 g6 (b.k10) c)
end Go.Proofs.YtnfamnfdndaekaaGreatDoor
