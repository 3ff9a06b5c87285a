/- Walks: each function computes its model, printed. -/
import Derived.Test.YtnfamnfdndaekaaGreatDoorW3
namespace Go.Proofs.YtnfamnfdndaekaaGreatDoor
open Go Sx M
set_option maxRecDepth 100000
set_option maxHeartbeats 40000000
set_option linter.unusedVariables false
attribute [local irreducible] wpList Code.wp Calls DR QR QS LA LS St
variable {w0 : World} {ros : List Fact} {rs : List Res} {w : World}
theorem sparsekit_Place_ok {a b out : Int} (c : sparsekit_Place a b = some out) (d : St w0 ros rs w) :
  Calls Tryz.prog 20 #[iV a, iV b] w (fun e w => e = .returned (iV out) ∧ St w0 ros rs w) := by
 refine enterQ Tryz.func20 rfl Tryz.ntmps20 rfl fun Q f => sR fun _ g => Ya (iV 0) rfl (wK g (sR fun _ h => Ym (iV a) e0 (yY (ycv (k' := .u64) (by kernel_rfl) (by kernel_rfl) e0) (Ym (iV b) e0 (yY (ycv (k' := .u64) (by kernel_rfl) (by kernel_rfl) e0) (bE c fun i j c => yY (yrem e0 e0 j) ?_))))))
 refine yY (ycv (k' := .i64) (by kernel_rfl) (by kernel_rfl) e0) (Ya (iV (wc .i64 i)) e0 (wK h (wp_ret ?_)))
 cases c
 exact f _ _ _ (fin1r Tryz.results20 ⟨rfl, rfl⟩ ⟨rfl, d⟩)
theorem sparselaw07_prime_ok {c out : Int} (b : sparselaw07_prime c = some out) (a : St w0 ros rs w) :
  Calls Tryz.prog 34 #[iV c] w (fun e w => e = .returned (iV out) ∧ St w0 ros rs w) := by
 refine enterQ Tryz.func34 rfl Tryz.ntmps34 rfl fun Q f => sR fun _ g => Ya (iV 0) rfl (wK g (sR fun _ h => yH (rLt (n := 10) (l := [2, 3, 5, 7, 11, 13, 101, 65537, 1000003, 2147483647]) a SL_22 [iV 2, iV 3, iV 5, iV 7, iV 11, iV 13, iV 101, iV 65537, iV 1000003, iV 2147483647] (bp10 rfl rfl rfl rfl rfl rfl rfl rfl rfl rfl) rfl rfl (mks1 (cs := [iV 2]) rfl mkI (mks1 (cs := [iV 3]) rfl mkI (mks1 (cs := [iV 5]) rfl mkI (mks1 (cs := [iV 7]) rfl mkI (mks1 (cs := [iV 11]) rfl mkI (mks1 (cs := [iV 13]) rfl mkI (mks1 (cs := [iV 101]) rfl mkI (mks1 (cs := [iV 65537]) rfl mkI (mks1 (cs := [iV 1000003]) rfl mkI (mks1 (cs := [iV 2147483647]) rfl mkI mks0))))))))))) fun k w a => Ym (iV c) e0 (bE b fun m i b => yC (yCall FN_20 (a2 e0 rfl)) (sparsekit_Place_ok i a) ?_)))
 rintro _ w ⟨rfl, a⟩
 refine ⟨_, rfl, ?_⟩
 refine bE b fun j d b => yY (yIa SL_22 e0 e0 a rO0 d) (yY (yI O_3 e0 a rO0 d) (Ya (iV j) e0 (wK h (wp_ret ?_))))
 cases b
 exact f _ _ _ (fin1r Tryz.results34 ⟨rfl, rfl⟩ ⟨rfl, (a.k10)⟩)
theorem sparselaw07_square_ok {I : LI} {g : Int} {m : Hdr} {out : L2} (o : sparselaw07_square I g = some out) (D : imm I1 m.v I ∈ ros) (b : St w0 ros rs w) :
  Calls Tryz.prog 35 #[m.v, iV g] w (fun e w => ∃ (J : Hdr) (K : List Hdr), e = .returned (J.v) ∧ St w0 ros (row 22 rH J.v K :: fam 3 I1 K out :: rs) w) := by
 refine enterQ Tryz.func35 rfl Tryz.ntmps35 rfl fun Q U => sR fun _ V => Ya hnil.v rfl (wK V (sR fun _ W => Ya hnil.v rfl (wK W (sQ fun _ X => sR fun _ Z => ?_))))
 refine Ya (iV 0) rfl (wK Z (blockQ fun a0 a1 => bE o fun a2 a3 o => ?_))
 have a4 : ∀ (E : L2) (x : Hdr) (F : List Hdr) (f : FV) w, f 5 = x.v → St w0 ros (row 22 rH x.v F :: fam 3 I1 F E :: rs) w → E = a2 → a0 (.exit 0) (fr 45 f) w := by
  intro E x F f w a5 b ho
  subst ho
  refine a1 _ _ _ (X _ _ (sR fun _ a6 => Ym x.v (eh a5) (Ya x.v e0 (wK a6 (wp_ret ?_)))))
  cases o
  exact U _ _ _ (fin1r Tryz.results35 ⟨rfl, rfl⟩ ⟨_, _, rfl, b⟩)
 replace b := ((b.rowNh 22 rH).fNew 3 I1).k11
 refine loopQ (fun s a w => ∃ (r : L2) (c : Int) (f : FV) (h : Hdr) (j : List Hdr), (r, c) = s ∧ a = fr 45 f ∧ f 0 = m.v ∧ f 1 = iV g ∧ f 5 = h.v ∧ f 6 = iV c ∧ St w0 ros (row 22 rH h.v j :: fam 3 I1 j r :: rs) w) a3 ⟨_, _, _, _, _, rfl, rfl, rfl, rfl, rfl, rfl, b⟩ ?_
 rintro _ _ w f8 ⟨r, c, f, h, j, rfl, rfl, a7, L, N, O, b⟩ k a8 f9 a9 b0
 refine seqQ fun g0 b1 b2 => sR fun _ b3 => Ym (iV c) (eh O) (Ym (iV g) (eh L) (yY (ylss e0 e0) (wK b3 ?_)))
 refine cIf e0 k (fun b4 k => ?_) fun b4 k => ?_
 ·refine wp_skip (b1 _ _ (sQ fun _ b5 => blockQ fun _ b6 => sR fun _ b7 => Ya hnil.v rfl (wK b7 (sQ fun _ b8 => sR fun _ b9 => Ya (iV 0) rfl (wN ?_)))))
  refine b9 _ _ (blockQ fun c0 c1 => bE k fun c2 c3 k => ?_)
  have c4 : ∀ (C : LI) (p : Hdr) (f : FV) w, f 0 = m.v → f 1 = iV g → f 5 = h.v → f 6 = iV c → f 7 = p.v → St w0 ros (row 22 rH h.v j :: fam 3 I1 j r :: row 3 I1 p.v C :: rs) w → C = c2 → c0 (.exit 2) (fr 45 f) w := by
   intro C p f w c5 c6 c7 c8 c9 b ho
   subst ho
   refine c1 _ _ _ (b8 _ _ (wR (Ym h.v (eh c7) (Ym p.v (eh c9) (yH (rLt (n := 1) (l := [p]) b SLH_52 [p.v] (bp1 e0) rfl rfl (mks1 rfl (mkF rfl) mks0)) fun g1 w b => bE k fun g2 R k => ?_)))))
   replace b := b.k11
   obtain ⟨g3, ey120, d0⟩ := app_rep R (b.famL R2) (show [p].length = [C].length from rfl)
   refine yH (rAp b SLH_52 e0 e0 rO1 d0) fun d1 w b => ?_
   replace b := (b.k12).fPush
   rw [← ey120, ← (app_some R).1] at b
   refine Ya d1.v e0 (wN (b6 _ _ _ (b5 _ _ (wR (Ym (iV c) (eh c8) (yY (yadd e0 rfl) (Ya (iV (wa .i64 c 1)) e0 (wN ?_))))))))
   cases k
   exact a9 _ _ _ rfl ⟨_, _, _, _, _, rfl, rfl, c5, c6, rfl, rfl, (b.k13)⟩
  replace b := b.rowNh 3 I1
  refine loopQ (fun s a w => ∃ (y : LI) (i : Int) (f : FV) (t : Hdr), (y, i) = s ∧ a = fr 45 f ∧ f 0 = m.v ∧ f 1 = iV g ∧ f 5 = h.v ∧ f 6 = iV c ∧ f 7 = t.v ∧ f 8 = iV i ∧ St w0 ros (row 22 rH h.v j :: fam 3 I1 j r :: row 3 I1 t.v y :: rs) w) c3 ⟨_, _, _, _, rfl, rfl, a7, L, N, O, rfl, rfl, (b.k14)⟩ ?_
  rintro _ _ w d2 ⟨y, i, f, t, rfl, rfl, z, u, G, A, H, B, b⟩ d d3 g4 d4 d5
  refine seqQ fun g5 d6 d7 => sR fun _ d8 => Ym (iV i) (eh B) (Ym (iV g) (eh u) (yY (ylss e0 e0) (wK d8 ?_)))
  refine cIf e0 d (fun d9 d => ?_) fun d9 d => ?_
  ·refine wp_skip (d6 _ _ (sQ fun _ e1 => blockQ fun _ e2 => sR fun _ e3 => Ya (iV 0) rfl (wK e3 (sQ fun e4 e5 => sR fun _ e6 => Ym (iV g) (eh u) (Ym (iV c) (eh A) ?_)))))
   refine yY (ymul e0 e0) (Ym (iV i) (eh B) (yY (yadd e0 e0) (Ym m.v (eh z) (yY (yLen SL_22 e0 b (rdI D)) (yY (ylss e0 e0) (wK e6 ?_))))))
   have S : ∀ (q : Int) (f : FV) w, f 0 = m.v → f 1 = iV g → f 5 = h.v → f 6 = iV c → f 7 = t.v → f 8 = iV i → f 9 = iV q → St w0 ros (row 22 rH h.v j :: fam 3 I1 j r :: row 3 I1 t.v y :: rs) w → sparselaw07_square_j13 y i q = some d2 → e4 .normal (fr 45 f) w := by
    intro q f w e7 e8 e9 f0 f1 f2 f3 b o
    refine e5 _ _ (wR (Ym t.v (eh f1) (Ym (iV q) (eh f3) (yH (rLt (n := 1) (l := [q]) b SL_22 [iV q] (bp1 e0) rfl rfl (mks1 (cs := [iV q]) rfl mkI mks0)) fun g6 w b => bE o fun g7 f4 o => yH (rAp (b.k15) SL_22 e0 e0 rO1 f4) fun f5 w b => Ya f5.v e0 (wN (e2 _ _ _ (e1 _ _ (wR ?_))))))))
    refine Ym (iV i) (eh f2) (yY (yadd e0 rfl) (Ya (iV (wa .i64 i 1)) e0 (wN ?_)))
    cases o
    exact d4 _ _ _ rfl ⟨_, _, _, _, rfl, rfl, e7, e8, e9, f0, rfl, rfl, (b.k16)⟩
   refine cIf e0 d (fun f6 d => ?_) fun f6 d => ?_
   ·exact wR (Ym m.v (eh z) (Ym (iV g) (eh u) (Ym (iV c) (eh A) (yY (ymul e0 e0) (Ym (iV i) (eh B) (yY (yadd e0 e0) (bE d fun f7 T d => yY (yIa SL_22 e0 e0 b (rdI D) T) (yY (yI O_3 e0 b (rdI D) T) (Ya (iV f7) e0 (wN (S _ _ _ z u G A H B rfl b d)))))))))))
   ·exact wp_skip (S _ _ _ z u G A H B rfl b d)
  ·refine wp_exit (d7 _ _ _ rfl ?_)
   cases d
   exact d5 _ _ _ _ rfl rfl (c4 _ _ _ _ z u G A H b (d3 _ rfl))
 ·refine wp_exit (b2 _ _ _ rfl ?_)
  cases k
  exact b0 _ _ _ _ rfl rfl (a4 _ _ _ _ _ N b (a8 _ rfl))
theorem modular_square_ok {i : L2} {j : Int} {h : Hdr} {out : Int} (c : modular_square i j = some out) (k : imm S1 h.v i ∈ ros) (b : St w0 ros rs w) :
  Calls Tryz.prog 80 #[h.v, iV j] w (fun e w => e = .returned (iV out) ∧ St w0 ros rs w) := by
 refine enterQ Tryz.func80 rfl Tryz.ntmps80 rfl fun Q l => sR fun _ n => Ya (iV 0) rfl (wK n (sR fun _ o => Ym h.v e0 (Ym (iV j) e0 (bE c fun g p c => yC (yCall FN_83 (a2 e0 e0)) (modular_check_ok p k b) ?_))))
 rintro _ w ⟨rfl, b⟩
 refine ⟨_, rfl, ?_⟩
 refine Ya (iV g) e0 (wK o (seqQ fun D q r => sR fun _ s => Ym (iV g) e0 (yY (yeql e0 rfl) (Ym (.bool (decide (g = 0))) e0 (bE c fun t d c => ?_)))))
 refine joinW 6 (fun f w => f 5 = iV g ∧ f 17 = .bool t ∧ St w0 ros rs w) (fun m => ?_) ?_
 ·rcases iteS d with ⟨a, d⟩ | ⟨a, d⟩
  ·refine yG (dT a) (m_ h.v e0) (yG (dT a) (yLen SL_52 e0 b (rdI k)) (yG (dT a) (m_ h.v e0) (bE d fun u x d => Yc (wG (dT a)) rfl (yCall FN_94 (a1 e0)) (modular_columns_ok x k b) ?_)))
   rintro _ w ⟨rfl, b⟩
   refine ⟨_, rfl, ?_⟩
   refine yG (dT a) (yneq e0 e0) (yY (pt_ (.bool (!(decide ((i.length : Int) = u)))) e0 (dT a) e0) ?_)
   cases d
   exact m _ _ ⟨rfl, rfl, b⟩
  ·refine gN (dF a) (gN (dF a) (gN (dF a) (gN (dF a) (gN (dF a) (yY (pf_ (.bool false) e0 (dF a) rfl) ?_)))))
   cases d
   exact m _ _ ⟨rfl, rfl, b⟩
 rintro f w ⟨y, z, b⟩
 refine wK s (cB (eh z) c (fun A c => ?_) fun A c => ?_)
 ·refine sR fun _ B => Ya (iV 5) rfl (wK B (wp_ret (r _ _ _ rfl ?_)))
  cases c
  exact l _ _ _ (fin1r Tryz.results80 ⟨rfl, rfl⟩ ⟨rfl, b⟩)
 ·refine wp_skip (q _ _ (sR fun _ C => Ym (iV g) (eh y) (Ya (iV g) e0 (wK C (wp_ret ?_)))))
  cases c
  exact l _ _ _ (fin1r Tryz.results80 ⟨rfl, rfl⟩ ⟨rfl, b⟩)
theorem modular_Det_ok {l : L2} {c : Int} {d : Hdr} {out : Int × Int} (a : modular_Det l c = some out) (i : imm S1 d.v l ∈ ros) (b : St w0 ros rs w) :
  Calls Tryz.prog 36 #[d.v, iV c] w (fun e w => e = .returned (.tuple #[iV out.1, iV out.2]) ∧ St w0 ros rs w) := by
 refine enterQ Tryz.func36 rfl Tryz.ntmps36 rfl fun Q j => sR fun _ m => Ya (iV 0) rfl (Ya (iV 0) rfl (wK m (sR fun _ n => Ym d.v e0 (Ym (iV c) e0 (bE a fun g o a => yC (yCall FN_80 (a2 e0 e0)) (modular_square_ok o i b) ?_)))))
 rintro _ w ⟨rfl, b⟩
 refine ⟨_, rfl, ?_⟩
 refine Ya (iV g) e0 (wK n (seqQ fun E p q => sR fun _ r => Ym (iV g) e0 (yY (yneq e0 rfl) (wK r ?_))))
 rcases iteS a with ⟨k, a⟩ | ⟨k, a⟩
 ·refine condF e0 (nF (dT k)) (wp_skip (p _ _ (sR fun _ s => Ym d.v e0 (Ym (iV c) e0 (bE a fun F t a => yC (yCall FN_82 (a2 e0 e0)) (modular_reduced_ok t i b) ?_)))))
  rintro _ w ⟨G, H, rfl, b⟩
  refine ⟨_, rfl, ?_⟩
  refine Ym (iV c) e0 (bE a fun f u a => yC (yCall FN_81 (a2 e0 e0)) (modular_echelon_ok u b) ?_)
  rintro _ w ⟨I, h, rfl, b⟩
  refine ⟨_, rfl, ?_⟩
  refine Ym (.tuple #[h.v, iV f.2.2]) e0 (yY (x_ h.v e0) (yY (x_ (iV f.2.2) e0) (Ya h.v e0 (Ya (iV f.2.2) e0 (wK s (seqQ fun J x y => sR fun _ z => Ym h.v e0 (yY (yLen SL_22 e0 b rO2) (Ym d.v e0 (yY (yLen SL_52 e0 b (rdI i)) ?_)))))))))
  refine yY (ylss e0 e0) (wK z ?_)
  refine cIf e0 a (fun A a => ?_) fun A a => ?_
  ·refine sR fun _ B => Ya (iV 0) rfl (Ya (iV 0) rfl (wK B (wp_ret (y _ _ _ rfl ?_))))
   cases a
   exact j _ _ _ (fin2r Tryz.results36 ⟨rfl, rfl⟩ ⟨rfl, rfl⟩ ⟨rfl, (b.k1k)⟩)
  ·refine wp_skip (x _ _ (sR fun _ C => Ym (iV f.2.2) e0 (Ya (iV f.2.2) e0 (Ya (iV 0) rfl (wK C (wp_ret ?_))))))
   cases a
   exact j _ _ _ (fin2r Tryz.results36 ⟨rfl, rfl⟩ ⟨rfl, rfl⟩ ⟨rfl, (b.k1k)⟩)
 ·refine condT e0 (nT (dF k)) (sR fun _ D => Ym (iV g) e0 (Ya (iV 0) rfl (Ya (iV g) e0 (wK D (wp_ret (q _ _ _ rfl ?_))))))
  cases a
  exact j _ _ _ (fin2r Tryz.results36 ⟨rfl, rfl⟩ ⟨rfl, rfl⟩ ⟨rfl, b⟩)
theorem sparseref07_Mod_ok {h b out : Int} (a : sparseref07_Mod h b = some out) (d : St w0 ros rs w) :
  Calls Tryz.prog 31 #[iV h, iV b] w (fun e w => e = .returned (iV out) ∧ St w0 ros rs w) := by
 refine enterQ Tryz.func31 rfl Tryz.ntmps31 rfl fun Q j => sR fun _ k => Ya (iV 0) rfl (wK k (sR fun _ l => Ym (iV h) e0 (Ym (iV b) e0 (bE a fun g m a => yY (yrem e0 e0 m) (Ya (iV g) e0 (wN ?_))))))
 refine l _ _ (sQ fun n o => sR fun _ p => Ym (iV g) e0 (yY (ylss e0 rfl) (wK p ?_)))
 have i : ∀ (c : Int) (f : FV) w, f 5 = iV c → St w0 ros rs w → sparseref07_Mod_j1 c = some out → n .normal (fr 15 f) w := by
  intro c f w q d a
  refine o _ _ (sR fun _ r => Ym (iV c) (eh q) (Ya (iV c) e0 (wK r (wp_ret ?_))))
  cases a
  exact j _ _ _ (fin1r Tryz.results31 ⟨rfl, rfl⟩ ⟨rfl, d⟩)
 refine cIf e0 a (fun s a => ?_) fun s a => ?_
 ·exact wR (Ym (iV g) e0 (Ym (iV b) e0 (yY (yadd e0 e0) (Ya (iV (wa .i64 g b)) e0 (wN (i _ _ _ rfl d a))))))
 ·exact wp_skip (i _ _ _ rfl d a)
theorem sparselaw07_times_ok {U V : L2} {d : Int} {h m : Hdr} {out : L2} (K : sparselaw07_times U V d = some out) (A : imm S1 h.v U ∈ ros) (L : imm S1 m.v V ∈ ros) (b : St w0 ros rs w) :
  Calls Tryz.prog 37 #[h.v, m.v, iV d] w (fun e w => ∃ (W : Hdr) (X : List Hdr), e = .returned (W.v) ∧ St w0 ros (row 22 rH W.v X :: fam 3 I1 X out :: rs) w) := by
 refine enterQ Tryz.func37 rfl Tryz.ntmps37 rfl fun Q b4 => sR fun _ b5 => Ya hnil.v rfl (wK b5 (sR fun _ b6 => Ya hnil.v rfl (wK b6 (sQ fun _ b7 => sR fun _ b8 => ?_))))
 refine Ya (iV 0) rfl (wK b8 (blockQ fun b9 c0 => bE K fun c1 c2 K => ?_))
 have c3 : ∀ (N : L2) (B : Hdr) (O : List Hdr) (f : FV) w, f 7 = B.v → St w0 ros (row 22 rH B.v O :: fam 3 I1 O N :: rs) w → N = c1 → b9 (.exit 0) (fr 63 f) w := by
  intro N B O f w c4 b ho
  subst ho
  refine c0 _ _ _ (b7 _ _ (sR fun _ c5 => Ym B.v (eh c4) (Ya B.v e0 (wK c5 (wp_ret ?_)))))
  cases K
  exact b4 _ _ _ (fin1r Tryz.results37 ⟨rfl, rfl⟩ ⟨_, _, rfl, b⟩)
 replace b := ((b.rowNh 22 rH).fNew 3 I1).k11
 refine loopQ (fun s a w => ∃ (u : L2) (i : Int) (f : FV) (g : Hdr) (j : List Hdr), (u, i) = s ∧ a = fr 63 f ∧ f 0 = h.v ∧ f 1 = m.v ∧ f 2 = iV d ∧ f 7 = g.v ∧ f 8 = iV i ∧ St w0 ros (row 22 rH g.v j :: fam 3 I1 j u :: rs) w) c2 ⟨_, _, _, _, _, rfl, rfl, rfl, rfl, rfl, rfl, rfl, b⟩ ?_
 rintro _ _ w j6 ⟨u, i, f, g, j, rfl, rfl, Z, c6, c7, a0, a1, b⟩ o c8 j7 c9 d0
 refine seqQ fun j8 d1 d2 => sR fun _ d3 => Ym (iV i) (eh a1) (Ym h.v (eh Z) (yY (yLen SL_52 e0 b (rdI A)) (yY (ylss e0 e0) (wK d3 ?_))))
 refine cIf e0 o (fun d4 o => ?_) fun d4 o => ?_
 ·refine wp_skip (d1 _ _ (sQ fun _ d5 => blockQ fun _ d6 => sR fun _ d7 => Ya hnil.v rfl (wK d7 (sQ fun _ d8 => sR fun _ d9 => Ya (iV 0) rfl (wN ?_)))))
  refine d9 _ _ (blockQ fun e1 e2 => bE o fun e3 e4 o => ?_)
  have e5 : ∀ (E : LI) (x : Hdr) (f : FV) w, f 0 = h.v → f 1 = m.v → f 2 = iV d → f 7 = g.v → f 8 = iV i → f 9 = x.v → St w0 ros (row 22 rH g.v j :: fam 3 I1 j u :: row 3 I1 x.v E :: rs) w → E = e3 → e1 (.exit 2) (fr 63 f) w := by
   intro E x f w e6 e7 e8 e9 f0 f1 b ho
   subst ho
   refine e2 _ _ _ (d8 _ _ (wR (Ym g.v (eh e9) (Ym x.v (eh f1) (yH (rLt (n := 1) (l := [x]) b SLH_52 [x.v] (bp1 e0) rfl rfl (mks1 rfl (mkF rfl) mks0)) fun j9 w b => bE o fun k0 a3 o => ?_)))))
   replace b := b.k11
   obtain ⟨k5, ey370, f2⟩ := app_rep a3 (b.famL R2) (show [x].length = [E].length from rfl)
   refine yH (rAp b SLH_52 e0 e0 rO1 f2) fun f3 w b => ?_
   replace b := (b.k12).fPush
   rw [← ey370, ← (app_some a3).1] at b
   refine Ya f3.v e0 (wN (d6 _ _ _ (d5 _ _ (wR (Ym (iV i) (eh f0) (yY (yadd e0 rfl) (Ya (iV (wa .i64 i 1)) e0 (wN ?_))))))))
   cases o
   exact c9 _ _ _ rfl ⟨_, _, _, _, _, rfl, rfl, e6, e7, e8, rfl, rfl, (b.k13)⟩
  replace b := b.rowNh 3 I1
  refine loopQ (fun s a w => ∃ (C : LI) (k : Int) (f : FV) (r : Hdr), (C, k) = s ∧ a = fr 63 f ∧ f 0 = h.v ∧ f 1 = m.v ∧ f 2 = iV d ∧ f 7 = g.v ∧ f 8 = iV i ∧ f 9 = r.v ∧ f 10 = iV k ∧ St w0 ros (row 22 rH g.v j :: fam 3 I1 j u :: row 3 I1 r.v C :: rs) w) e4 ⟨_, _, _, _, rfl, rfl, Z, c6, c7, a0, a1, rfl, rfl, (b.k14)⟩ ?_
  rintro _ _ w k6 ⟨C, k, f, r, rfl, rfl, R, a4, a5, a6, a7, a8, a9, b⟩ p f4 k7 f5 f6
  refine seqQ fun k8 f7 f8 => sR fun _ f9 => Ym (iV k) (eh a9) (Ym h.v (eh R) (yY (yLen SL_52 e0 b (rdI A)) (yY (ylss e0 e0) (wK f9 ?_))))
  refine cIf e0 p (fun g0 p => ?_) fun g0 p => ?_
  ·refine wp_skip (f7 _ _ (sQ fun _ g1 => blockQ fun _ g2 => sR fun _ g3 => Ya (iV 0) rfl (wK g3 (sQ fun _ g4 => sR fun _ g5 => Ya (iV 0) rfl (wN ?_)))))
   refine g5 _ _ (blockQ fun g6 g7 => bE p fun g8 g9 p => ?_)
   have h0 : ∀ (y : Int) (f : FV) w, f 0 = h.v → f 1 = m.v → f 2 = iV d → f 7 = g.v → f 8 = iV i → f 9 = r.v → f 10 = iV k → f 11 = iV y → St w0 ros (row 22 rH g.v j :: fam 3 I1 j u :: row 3 I1 r.v C :: rs) w → y = g8 → g6 (.exit 4) (fr 63 f) w := by
    intro y f w h1 h3 h5 h6 h7 h8 h9 i0 b ho
    subst ho
    refine g7 _ _ _ (g4 _ _ (wR (Ym r.v (eh h8) (Ym (iV y) (eh i0) (yH (rLt (n := 1) (l := [y]) b SL_22 [iV y] (bp1 e0) rfl rfl (mks1 (cs := [iV y]) rfl mkI mks0)) fun k9 w b => bE p fun l0 i1 p => yH (rAp (b.k15) SL_22 e0 e0 rO1 i1) fun i2 w b => Ya i2.v e0 (wN (g2 _ _ _ (g1 _ _ ?_))))))))
    refine wR (Ym (iV k) (eh h9) (yY (yadd e0 rfl) (Ya (iV (wa .i64 k 1)) e0 (wN ?_))))
    cases p
    exact f5 _ _ _ rfl ⟨_, _, _, _, rfl, rfl, h1, h3, h5, h6, h7, rfl, rfl, (b.k16)⟩
   refine loopQ (fun s a w => ∃ (z q : Int) (f : FV), (z, q) = s ∧ a = fr 63 f ∧ f 0 = h.v ∧ f 1 = m.v ∧ f 2 = iV d ∧ f 7 = g.v ∧ f 8 = iV i ∧ f 9 = r.v ∧ f 10 = iV k ∧ f 11 = iV z ∧ f 12 = iV q ∧ St w0 ros (row 22 rH g.v j :: fam 3 I1 j u :: row 3 I1 r.v C :: rs) w) g9 ⟨_, _, _, rfl, rfl, R, a4, a5, a6, a7, a8, a9, rfl, rfl, b⟩ ?_
   rintro _ _ w l1 ⟨z, q, f, rfl, rfl, F, G, t, b0, S, b1, H, I, D, b⟩ c i3 l2 i4 i5
   refine seqQ fun l3 i6 i7 => sR fun _ i8 => Ym (iV q) (eh D) (Ym h.v (eh F) (yY (yLen SL_52 e0 b (rdI A)) (yY (ylss e0 e0) (wK i8 ?_))))
   refine cIf e0 c (fun i9 c => ?_) fun i9 c => ?_
   ·refine wp_skip (i6 _ _ (sQ fun _ j0 => blockQ fun _ j1 => bE c fun l4 b2 c => bE c fun l5 b3 c => bE c fun l6 j2 c => bE c fun l7 T c => bE c fun l8 J c => bE c fun l9 j3 c => bE c fun j4 j5 c => dR [0, 0, 0, 6, 14, 0, 62, 126, 0, 510, 0, 0, 3072, 7168, 0, 31744, 64512, 0, 262142, 524286, 1048575, 0, 4194303, 8388607] [9, 18, 23] 3 folM ?_))
    replace b := b.drew
    refine Dn [0, 1, 2, 3, 4, 5, 6, 7, 8, 10, 11, 12, 13, 14, 15, 16, 17, 21] [] [9] (yR rfl (m_ (iV z) (eh I)) (yR rfl (m_ h.v (eh F)) (yR rfl (m_ (iV i) (eh S)) (yR rfl (yIa SL_52 e0 e0 b (rdI A) b2) ?_))))
    obtain ⟨m0, b⟩ := iLs b A b2
    refine yR rfl (yCt O_22 e0 b F1 rfl) (yR rfl (m_ (iV q) (eh D)) (yR rfl (yIa SL_22 e0 e0 b (rdI F0) b3) (yR rfl (yI O_3 e0 b (rdI F0) b3) (yR rfl (m_ (iV d) (eh t)) (yR rfl (m_ m.v (eh G)) (yR rfl (m_ (iV q) (eh D)) (yR rfl (yIa SL_52 e0 e0 b (rdI (F_2 L)) T) ?_)))))))
    obtain ⟨m1, b⟩ := iLs b (F_2 L) T
    refine yR rfl (yCt O_22 e0 b F1 rfl) (yR rfl (m_ (iV k) (eh H)) (yR rfl (yIa SL_22 e0 e0 b (rdI F0) J) (yR rfl (yI O_3 e0 b (rdI F0) J) (yR rfl (m_ (iV d) (eh t)) (yR rfl (m_ (iV d) (eh t)) (Rn QSn ?_))))))
    refine Lc1 rfl ?_
    refine Lk wn (yCall FN_31 (a2 e0 e0)) (sparseref07_Mod_ok j2 b) ?_
    rintro _ w ⟨rfl, b⟩
    refine ⟨_, rfl, ?_⟩
    refine Dn [] [0, 10, 11, 12, 13, 14, 15, 16, 17, 21] [18] (Rn (yS rfl (m_ (iV z) (eh I)) (yS rfl (m_ m.v (eh G)) (yS rfl (m_ (iV q) (eh D)) (yS rfl (yIa SL_52 e0 e0 b (rdI (F_4 L)) T) (yS rfl (yCt O_22 e0 b F1 rfl) (yS rfl (m_ (iV k) (eh H)) (yS rfl (yIa SL_22 e0 e0 b (rdI F0) J) (yS rfl (yI O_3 e0 b (rdI F0) J) (yS rfl (m_ (iV d) (eh t)) (yS rfl (m_ (iV d) (eh t)) QSn)))))))))) ?_)
    refine Lc1 rfl ?_
    refine Lk wn (yCall FN_31 (a2 e0 e0)) (sparseref07_Mod_ok j3 b) ?_
    rintro _ w ⟨rfl, b⟩
    refine ⟨_, rfl, ?_⟩
    refine Dn [19, 20, 22] [0, 21] [23] (yR rfl (ymul e0 e0) (yR rfl (yadd e0 e0) (yR rfl (yrem e0 e0 j5) (Rn (yS rfl (m_ (iV z) (eh I)) (yS rfl (m_ (iV d) (eh t)) QSn)) ?_))))
    refine Lc1 rfl ?_
    refine Ly wn (a_ (iV j4) e0) (Dz [] [] (Rn QSn (j1 _ _ _ (j0 _ _ (wR (Ym (iV q) (eh D) (yY (yadd e0 rfl) (Ya (iV (wa .i64 q 1)) e0 (wN ?_)))))))))
    cases c
    exact i4 _ _ _ rfl ⟨_, _, _, rfl, rfl, F, G, t, b0, S, b1, H, rfl, rfl, (b.facts (allT (allT (allT (allT allI)))))⟩
   ·refine wp_exit (i7 _ _ _ rfl ?_)
    cases c
    exact i5 _ _ _ _ rfl rfl (h0 _ _ _ F G t b0 S b1 H I b (i3 _ rfl))
  ·refine wp_exit (f8 _ _ _ rfl ?_)
   cases p
   exact f6 _ _ _ _ rfl rfl (e5 _ _ _ _ R a4 a5 a6 a7 a8 b (f4 _ rfl))
 ·refine wp_exit (d2 _ _ _ rfl ?_)
  cases o
  exact d0 _ _ _ _ rfl rfl (c3 _ _ _ _ _ a0 b (c8 _ rfl))
theorem modular_Rank_ok {j : L2} {c : Int} {d : Hdr} {out : Int × Int} (a : modular_Rank j c = some out) (k : imm S1 d.v j ∈ ros) (b : St w0 ros rs w) :
  Calls Tryz.prog 38 #[d.v, iV c] w (fun e w => e = .returned (.tuple #[iV out.1, iV out.2]) ∧ St w0 ros rs w) := by
 refine enterQ Tryz.func38 rfl Tryz.ntmps38 rfl fun Q l => sR fun _ m => Ya (iV 0) rfl (Ya (iV 0) rfl (wK m (sR fun _ n => Ym d.v e0 (Ym (iV c) e0 (bE a fun f o a => yC (yCall FN_83 (a2 e0 e0)) (modular_check_ok o k b) ?_)))))
 rintro _ w ⟨rfl, b⟩
 refine ⟨_, rfl, ?_⟩
 refine Ya (iV f) e0 (wK n (seqQ fun z p q => sR fun _ r => Ym (iV f) e0 (yY (yneq e0 rfl) (wK r ?_))))
 rcases iteS a with ⟨i, a⟩ | ⟨i, a⟩
 ·refine condF e0 (nF (dT i)) (wp_skip (p _ _ (sR fun _ s => Ym d.v e0 (Ym (iV c) e0 (bE a fun A t a => yC (yCall FN_82 (a2 e0 e0)) (modular_reduced_ok t k b) ?_)))))
  rintro _ w ⟨B, C, rfl, b⟩
  refine ⟨_, rfl, ?_⟩
  refine Ym (iV c) e0 (bE a fun g u a => yC (yCall FN_81 (a2 e0 e0)) (modular_echelon_ok u b) ?_)
  rintro _ w ⟨D, h, rfl, b⟩
  refine ⟨_, rfl, ?_⟩
  refine Ym (.tuple #[h.v, iV g.2.2]) e0 (yY (x_ h.v e0) (yY (x_ (iV g.2.2) e0) (Ya h.v e0 (Ya (iV g.2.2) e0 (wK s (sR fun _ x => Ym h.v e0 (yY (yLen SL_22 e0 b rO2) (Ya (iV (g.2.1.length : Int)) e0 (Ya (iV 0) rfl (wN ?_))))))))))
  refine x _ _ (wp_ret ?_)
  cases a
  exact l _ _ _ (fin2r Tryz.results38 ⟨rfl, rfl⟩ ⟨rfl, rfl⟩ ⟨rfl, (b.k1k)⟩)
 ·refine condT e0 (nT (dF i)) (sR fun _ y => Ym (iV f) e0 (Ya (iV 0) rfl (Ya (iV f) e0 (wK y (wp_ret (q _ _ _ rfl ?_))))))
  cases a
  exact l _ _ _ (fin2r Tryz.results38 ⟨rfl, rfl⟩ ⟨rfl, rfl⟩ ⟨rfl, b⟩)
theorem sparselaw07_ModularDet_ok {F K : LI} {L s N : Int} {G H : Hdr} {out : Bool} (b : sparselaw07_ModularDet F K L s N = some out) (n8 : out = true) (a7 : imm I1 G.v F ∈ ros) (a8 : imm I1 H.v K ∈ ros) (a : St w0 ros rs w) :
  Calls Tryz.prog 7 #[G.v, H.v, iV L, iV s, iV N] w (fun e w => e = .returned (.bool out) ∧ St w0 ros rs w) := by
 refine enterQ Tryz.func7 rfl Tryz.ntmps7 rfl fun Q O => sR fun _ f3 => Ya (.bool false) rfl (wK f3 (seqQ fun n9 f4 f5 => sR fun _ f6 => Ym G.v e0 (yY (yLen SL_22 e0 a (rdI a7)) (yY (ygtr e0 rfl) (Ym (.bool (decide ((25 : Int) < (F.length : Int)))) e0 ?_)))))
 refine joinW 4 (fun f w => f 0 = G.v ∧ f 1 = H.v ∧ f 2 = iV L ∧ f 3 = iV s ∧ f 4 = iV N ∧ f 30 = .bool ((decide ((25 : Int) < (F.length : Int))) || (decide ((25 : Int) < (K.length : Int)))) ∧ St w0 ros rs w) (fun a9 => ?_) ?_
 ·rcases Bool.eq_false_or_eq_true (decide ((25 : Int) < (F.length : Int))) with q | q
  ·exact gN q (gN q (gN q (yY (pt_ (.bool true) e0 q rfl) (a9 _ _ ⟨rfl, rfl, rfl, rfl, rfl, (congrArg Value.bool (orT q)), a⟩))))
  ·exact yG q (m_ H.v e0) (yG q (yLen SL_22 e0 a (rdI a8)) (yG q (ygtr e0 rfl) (yY (pf_ (.bool (decide ((25 : Int) < (K.length : Int)))) e0 q e0) (a9 _ _ ⟨rfl, rfl, rfl, rfl, rfl, (congrArg Value.bool (orF q)), a⟩))))
 rintro f w ⟨f7, f8, f9, b0, g0, g1, a⟩
 refine wK f6 (cB (eh g1) b (fun g2 b => ?_) fun g2 b => ?_)
 ·refine sR fun _ g3 => bE b fun g4 g5 b => yC (yCall FN_11 a0) (sparselaw07_awake_ok g5 a) ?_
  rintro _ w ⟨rfl, a⟩
  refine ⟨_, rfl, ?_⟩
  refine Ya (.bool g4) e0 (wK g3 (wp_ret (f5 _ _ _ rfl ?_)))
  cases b
  exact O _ _ _ (fin1r Tryz.results7 ⟨rfl, rfl⟩ ⟨rfl, a⟩)
 ·refine wp_skip (f4 _ _ (sR fun _ g6 => Ym (iV N) (eh g0) (bE b fun o g7 b => yC (yCall FN_34 (a1 e0)) (sparselaw07_prime_ok g7 a) ?_)))
  rintro _ w ⟨rfl, a⟩
  refine ⟨_, rfl, ?_⟩
  refine Ym (iV L) (eh f9) (bE b fun p g8 b => yC (yCall FN_20 (a2 e0 rfl)) (sparsekit_Place_ok g8 a) ?_)
  rintro _ w ⟨rfl, a⟩
  refine ⟨_, rfl, ?_⟩
  refine Ya (iV o) e0 (Ya (iV p) e0 (wK g6 (sR fun _ g9 => Ym G.v (eh f7) (Ym (iV p) e0 (bE b fun I h0 b => yC (yCall FN_35 (a2 e0 e0)) (sparselaw07_square_ok h0 a7 a) ?_)))))
  rintro _ w ⟨g, r, rfl, a⟩
  refine ⟨_, rfl, ?_⟩
  refine Ym H.v (eh f8) (Ym (iV p) e0 (bE b fun o0 h1 b => yC (yCall FN_35 (a2 e0 e0)) (sparselaw07_square_ok h1 a8 a) ?_))
  rintro _ w ⟨T, o1, rfl, a⟩
  refine ⟨_, rfl, ?_⟩
  refine Ya g.v e0 (Ya T.v e0 (wK g9 (sR fun _ h3 => Ym g.v e0 (Ym (iV o) e0 (bE b fun d h5 b => ?_)))))
  have k := a
  replace a := (a.k1r).ffz
  have c := a.guest0
  replace a := k
  clear k
  refine yC (yCall FN_36 (a2 e0 e0)) (modular_Det_ok h5 F0 c) ?_
  clear c
  rintro _ w ⟨rfl, c⟩
  replace a := a.back c
  clear c
  refine ⟨_, rfl, ?_⟩
  refine Ym (.tuple #[iV d.1, iV d.2]) e0 (yY (x_ (iV d.1) e0) (yY (x_ (iV d.2) e0) (Ya (iV d.1) e0 (Ya (iV d.2) e0 (wK h3 (sR fun _ h6 => Ym T.v e0 (Ym (iV o) e0 (bE b fun h h7 b => ?_))))))))
  have k := a
  replace a := a.ffz
  have c := a.guest0
  replace a := k
  clear k
  refine yC (yCall FN_36 (a2 e0 e0)) (modular_Det_ok h7 F0 c) ?_
  clear c
  rintro _ w ⟨rfl, c⟩
  replace a := a.back c
  clear c
  refine ⟨_, rfl, ?_⟩
  refine Ym (.tuple #[iV h.1, iV h.2]) e0 (yY (x_ (iV h.1) e0) (yY (x_ (iV h.2) e0) (Ya (iV h.1) e0 (Ya (iV h.2) e0 (wK h6 (sR fun _ h8 => Ym g.v e0 (Ym T.v e0 (Ym (iV o) e0 (bE b fun o2 h9 b => ?_)))))))))
  have k := a
  replace a := ((a.k1r).ffz).ffz
  have c := a.guest0
  replace a := k
  clear k
  refine yC (yCall FN_37 (a3 e0 e0 e0)) (sparselaw07_times_ok h9 F1 F0 c) ?_
  clear c
  rintro _ w ⟨o3, o4, rfl, c⟩
  replace a := a.backF c
  clear c
  refine ⟨_, rfl, ?_⟩
  refine Ym (iV o) e0 (bE b fun i i0 b => ?_)
  have k := a
  replace a := a.ffz
  have c := a.guest0
  replace a := k
  clear k
  refine yC (yCall FN_36 (a2 e0 e0)) (modular_Det_ok i0 F0 c) ?_
  clear c
  rintro _ w ⟨rfl, c⟩
  replace a := a.back c
  clear c
  refine ⟨_, rfl, ?_⟩
  refine Ym (.tuple #[iV i.1, iV i.2]) e0 (yY (x_ (iV i.1) e0) (yY (x_ (iV i.2) e0) (Ya (iV i.1) e0 (Ya (iV i.2) e0 (wK h8 (sR fun _ i1 => Ym g.v e0 (Ym (iV o) e0 (bE b fun j i2 b => ?_))))))))
  have k := a
  replace a := (a.k1s).ffz
  have c := a.guest0
  replace a := k
  clear k
  refine yC (yCall FN_38 (a2 e0 e0)) (modular_Rank_ok i2 F0 c) ?_
  clear c
  rintro _ w ⟨rfl, c⟩
  replace a := a.back c
  clear c
  refine ⟨_, rfl, ?_⟩
  refine Ym (.tuple #[iV j.1, iV j.2]) e0 (yY (x_ (iV j.1) e0) (yY (x_ (iV j.2) e0) (Ya (iV j.1) e0 (Ya (iV j.2) e0 (wK i1 (seqQ fun o5 i3 i4 => sR fun _ i5 => Ym (iV d.2) e0 (yY (yneq e0 rfl) (Ym (.bool (!(decide (d.2 = 0)))) e0 ?_))))))))
  refine joinW 3 (fun f w => f 2 = iV p ∧ f 3 = iV s ∧ f 4 = iV o ∧ f 11 = g.v ∧ f 13 = iV d.1 ∧ f 15 = iV h.1 ∧ f 17 = iV i.1 ∧ f 18 = iV i.2 ∧ f 19 = iV j.1 ∧ f 20 = iV j.2 ∧ f 74 = .bool ((!(decide (d.2 = 0))) || (!(decide (h.2 = 0)))) ∧ St w0 ros (row 22 rH g.v r :: fam 3 I1 r I :: rs) w) (fun b1 => ?_) ?_
  ·rcases Bool.eq_false_or_eq_true (!(decide (d.2 = 0))) with t | t
   ·exact gN t (gN t (yY (pt_ (.bool true) e0 t rfl) (b1 _ _ ⟨rfl, b0, rfl, rfl, rfl, rfl, rfl, rfl, rfl, rfl, (congrArg Value.bool (orT t)), (a.k1t)⟩)))
   ·exact yG t (m_ (iV h.2) e0) (yG t (yneq e0 rfl) (yY (pf_ (.bool (!(decide (h.2 = 0)))) e0 t e0) (b1 _ _ ⟨rfl, b0, rfl, rfl, rfl, rfl, rfl, rfl, rfl, rfl, (congrArg Value.bool (orF t)), (a.k1t)⟩)))
  rintro f w ⟨b2, b3, b4, b5, b6, b7, b8, i6, b9, c0, i7, a⟩
  refine Ym (.bool ((!(decide (d.2 = 0))) || (!(decide (h.2 = 0))))) (eh i7) ?_
  refine joinW 3 (fun f w => f 2 = iV p ∧ f 3 = iV s ∧ f 4 = iV o ∧ f 11 = g.v ∧ f 13 = iV d.1 ∧ f 15 = iV h.1 ∧ f 17 = iV i.1 ∧ f 19 = iV j.1 ∧ f 20 = iV j.2 ∧ f 78 = .bool (((!(decide (d.2 = 0))) || (!(decide (h.2 = 0)))) || (!(decide (i.2 = 0)))) ∧ St w0 ros (row 22 rH g.v r :: fam 3 I1 r I :: rs) w) (fun c1 => ?_) ?_
  ·rcases Bool.eq_false_or_eq_true ((!(decide (d.2 = 0))) || (!(decide (h.2 = 0)))) with x | x
   ·exact gN x (gN x (yY (pt_ (.bool true) e0 x rfl) (c1 _ _ ⟨b2, b3, b4, b5, b6, b7, b8, b9, c0, (congrArg Value.bool (orT x)), a⟩)))
   ·exact yG x (m_ (iV i.2) (eh i6)) (yG x (yneq e0 rfl) (yY (pf_ (.bool (!(decide (i.2 = 0)))) e0 x e0) (c1 _ _ ⟨b2, b3, b4, b5, b6, b7, b8, b9, c0, (congrArg Value.bool (orF x)), a⟩)))
  rintro f w ⟨c2, c3, c4, c5, c6, c7, c8, d0, i8, i9, a⟩
  refine Ym (.bool (((!(decide (d.2 = 0))) || (!(decide (h.2 = 0)))) || (!(decide (i.2 = 0))))) (eh i9) ?_
  refine joinW 3 (fun f w => f 2 = iV p ∧ f 3 = iV s ∧ f 4 = iV o ∧ f 11 = g.v ∧ f 13 = iV d.1 ∧ f 15 = iV h.1 ∧ f 17 = iV i.1 ∧ f 19 = iV j.1 ∧ f 82 = .bool ((((!(decide (d.2 = 0))) || (!(decide (h.2 = 0)))) || (!(decide (i.2 = 0)))) || (!(decide (j.2 = 0)))) ∧ St w0 ros (row 22 rH g.v r :: fam 3 I1 r I :: rs) w) (fun d1 => ?_) ?_
  ·rcases Bool.eq_false_or_eq_true (((!(decide (d.2 = 0))) || (!(decide (h.2 = 0)))) || (!(decide (i.2 = 0)))) with y | y
   ·exact gN y (gN y (yY (pt_ (.bool true) e0 y rfl) (d1 _ _ ⟨c2, c3, c4, c5, c6, c7, c8, d0, (congrArg Value.bool (orT y)), a⟩)))
   ·exact yG y (m_ (iV j.2) (eh i8)) (yG y (yneq e0 rfl) (yY (pf_ (.bool (!(decide (j.2 = 0)))) e0 y e0) (d1 _ _ ⟨c2, c3, c4, c5, c6, c7, c8, d0, (congrArg Value.bool (orF y)), a⟩)))
  rintro f w ⟨d2, d3, U, d4, V, j0, j9, d5, k0, a⟩
  refine Ym (.bool ((((!(decide (d.2 = 0))) || (!(decide (h.2 = 0)))) || (!(decide (i.2 = 0)))) || (!(decide (j.2 = 0))))) (eh k0) (bE b fun R A b => ?_)
  refine joinW 8 (fun f w => f 2 = iV p ∧ f 3 = iV s ∧ f 4 = iV o ∧ f 11 = g.v ∧ f 13 = iV d.1 ∧ f 19 = iV j.1 ∧ f 91 = .bool R ∧ St w0 ros (row 22 rH g.v r :: fam 3 I1 r I :: rs) w) (fun d6 => ?_) ?_
  ·rcases iteS A with ⟨l, A⟩ | ⟨l, A⟩
   ·refine gN l (gN l (gN l (gN l (gN l (gN l (gN l (yY (pt_ (.bool true) e0 l rfl) ?_)))))))
    cases A
    exact d6 _ _ ⟨d2, d3, U, d4, V, d5, rfl, a⟩
   ·refine yG (bfalse l) (m_ (iV i.1) (eh j9)) (yG (bfalse l) (m_ (iV d.1) (eh V)) (yG (bfalse l) (m_ (iV h.1) (eh j0)) (yG (bfalse l) (ymul e0 e0) (yG (bfalse l) (m_ (iV o) (eh U)) (bE A fun l0 l1 A => yG (bfalse l) (yrem e0 e0 l1) (yG (bfalse l) (yneq e0 e0) (yY (pf_ (.bool (!(decide (i.1 = l0)))) e0 (bfalse l) e0) ?_)))))))
    cases A
    exact d6 _ _ ⟨d2, d3, U, d4, V, d5, rfl, a⟩
  rintro f w ⟨W, d7, d8, d9, X, l2, l3, a⟩
  refine Ym (.bool R) (eh l3) ?_
  refine joinW 7 (fun f w => f 2 = iV p ∧ f 3 = iV s ∧ f 4 = iV o ∧ f 11 = g.v ∧ f 13 = iV d.1 ∧ f 99 = .bool (R || (!((!(decide (d.1 = 0))) == (decide (j.1 = p))))) ∧ St w0 ros (row 22 rH g.v r :: fam 3 I1 r I :: rs) w) (fun e1 => ?_) ?_
  ·rcases Bool.eq_false_or_eq_true R with m | m
   ·exact gN m (gN m (gN m (gN m (gN m (gN m (yY (pt_ (.bool true) e0 m rfl) (e1 _ _ ⟨W, d7, d8, d9, X, (congrArg Value.bool (orT m)), a⟩)))))))
   ·exact yG m (m_ (iV d.1) (eh X)) (yG m (yneq e0 rfl) (yG m (m_ (iV j.1) (eh l2)) (yG m (m_ (iV p) (eh W)) (yG m (yeql e0 e0) (yG m (yneb (by kernel_rfl) e0 e0) (yY (pf_ (.bool (!((!(decide (d.1 = 0))) == (decide (j.1 = p))))) e0 m e0) (e1 _ _ ⟨W, d7, d8, d9, X, (congrArg Value.bool (orF m)), a⟩)))))))
  rintro f w ⟨e2, l4, e3, D, l5, l6, a⟩
  refine wK i5 (cB (eh l6) b (fun l7 b => ?_) fun l7 b => ?_)
  ·refine sR fun _ l8 => Ya (.bool false) rfl (wK l8 (wp_ret (i4 _ _ _ rfl ?_)))
   cases b
   exact O _ _ _ (fin1r Tryz.results7 ⟨rfl, rfl⟩ ⟨rfl, (a.k1l)⟩)
  ·refine wp_skip (i3 _ _ (seqQ fun o6 l9 m0 => sR fun _ m1 => Ym (iV p) (eh e2) (yY (ylss e0 rfl) (wK m1 ?_))))
   refine cIf e0 b (fun m2 b => ?_) fun m2 b => ?_
   ·refine sR fun _ m3 => bE b fun m4 m5 b => yC (yCall FN_11 a0) (sparselaw07_awake_ok m5 a) ?_
    rintro _ w ⟨rfl, a⟩
    refine ⟨_, rfl, ?_⟩
    refine Ya (.bool m4) e0 (wK m3 (wp_ret (m0 _ _ _ rfl ?_)))
    cases b
    exact O _ _ _ (fin1r Tryz.results7 ⟨rfl, rfl⟩ ⟨rfl, (a.k1l)⟩)
   ·refine wp_skip (l9 _ _ (sR fun _ m6 => Ym (iV s) (eh l4) (Ym (iV p) (eh e2) (yY (ysub e0 rfl) (bE b fun E m7 b => yC (yCall FN_20 (a2 e0 e0)) (sparsekit_Place_ok m7 a) ?_)))))
    rintro _ w ⟨rfl, a⟩
    refine ⟨_, rfl, ?_⟩
    refine Ya (iV E) e0 (wK m6 (sQ fun _ m8 => bE b fun o7 e4 b => bE b fun o8 e5 b => bE b fun o9 Z b => bE b fun p0 e6 b => dR [0, 0, 0, 0, 8, 0, 0, 64, 224, 480, 0, 0, 3072, 7168, 16355, 32739, 65535, 131071] [15, 17] 2 folM ?_))
    replace a := a.drew
    refine Dn [0, 1, 2, 3, 4, 5, 6, 7, 8, 9, 10, 11, 12, 13, 14] [] [15] (yR rfl (m_ g.v (eh D)) (yR rfl (m_ (iV E) e0) (yR rfl (m_ g.v (eh D)) (yR rfl (m_ (iV E) e0) (yR rfl (yadd e0 rfl) (yR rfl (m_ g.v (eh D)) (yR rfl (m_ (iV E) e0) (yR rfl (yadd e0 rfl) ?_))))))))
    obtain ⟨e7, a4⟩ := a.famI R1 e4
    refine yR rfl (yIa SLH_52 e0 e0 a rO0 a4) (yR rfl (yF1 O_22 e0 a rO0 a4 rfl) (yR rfl (m_ g.v (eh D)) (yR rfl (m_ (iV E) e0) ?_)))
    obtain ⟨e8, a5⟩ := a.famI R1 e5
    refine yR rfl (yIa SLH_52 e0 e0 a rO0 a5) (yR rfl (yF1 O_22 e0 a rO0 a5 rfl) ?_)
    obtain ⟨p1, S⟩ := setI_len (u := e7) Z (a.famL (mtR mhR))
    refine yR rfl (yIs SLH_52 e0 e0 a rO0 S) (Rn QSn ?_)
    refine Lc1 rfl ?_
    refine LT wn (r_sti (cs := [e7.v]) a O_22 rfl e0 e0 rfl (mkF rfl) S) fun w a => Dn [16] [2, 3, 4] [17] ?_
    obtain ⟨p2, a6⟩ := setI_len (u := e8) e6 (swap_len Z S (a.famL (mtR mhR)))
    refine yR rfl (yIs SLH_52 e0 e0 a rO0 a6) (Rn (yS rfl (m_ g.v (eh D)) (yS rfl (m_ (iV E) e0) (yS rfl (yadd e0 rfl) QSn))) ?_)
    refine Lc1 rfl ?_
    refine LT wn (r_sti (cs := [e8.v]) a O_22 rfl e0 e0 rfl (mkF rfl) a6) fun w a => ?_
    replace a := (a.k11).fswap a4 e4 a5 e5 S Z a6 e6
    refine Dz [] [] (Rn QSn (m8 _ _ (sR fun _ m9 => Ym g.v (eh D) (Ym (iV o) (eh e3) (bE b fun z n0 b => ?_)))))
    have k := a
    replace a := (a.k11).ffz
    have c := a.guest0
    replace a := k
    clear k
    refine yC (yCall FN_36 (a2 e0 e0)) (modular_Det_ok n0 F0 c) ?_
    clear c
    rintro _ w ⟨rfl, c⟩
    replace a := a.back c
    clear c
    refine ⟨_, rfl, ?_⟩
    refine Ym (.tuple #[iV z.1, iV z.2]) e0 (yY (x_ (iV z.1) e0) (yY (x_ (iV z.2) e0) (Ya (iV z.1) e0 (Ya (iV z.2) e0 (wK m9 (sR fun _ n1 => Ym (iV z.2) e0 (yY (yeql e0 rfl) (Ym (.bool (decide (z.2 = 0))) e0 (bE b fun e9 B b => ?_)))))))))
    refine joinW 7 (fun f w => f 138 = .bool e9 ∧ St w0 ros rs w) (fun f0 => ?_) ?_
    ·rcases iteS B with ⟨n, B⟩ | ⟨n, B⟩
     ·refine yG (dT n) (m_ (iV z.1) e0) (yG (dT n) (m_ (iV d.1) (eh l5)) (yG (dT n) (yadd e0 e0) (yG (dT n) (m_ (iV o) (eh e3)) (bE B fun n2 n3 B => yG (dT n) (yrem e0 e0 n3) (yG (dT n) (yeql e0 rfl) (yY (pt_ (.bool (decide (n2 = 0))) e0 (dT n) e0) ?_))))))
      cases B
      exact f0 _ _ ⟨rfl, (a.k1l)⟩
     ·refine gN (dF n) (gN (dF n) (gN (dF n) (gN (dF n) (gN (dF n) (gN (dF n) (yY (pf_ (.bool false) e0 (dF n) rfl) ?_))))))
      cases B
      exact f0 _ _ ⟨rfl, (a.k1l)⟩
    rintro f w ⟨n4, a⟩
    refine Ym (.bool e9) (eh n4) (bE b fun f1 C b => ?_)
    refine joinW 2 (fun f w => f 141 = .bool f1 ∧ St w0 ros rs w) (fun f2 => ?_) ?_
    ·rcases iteS C with ⟨J, C⟩ | ⟨J, C⟩
     ·refine bE C fun n5 n6 C => Yc (wG J) rfl (yCall FN_11 a0) (sparselaw07_awake_ok n6 a) ?_
      rintro _ w ⟨rfl, a⟩
      refine ⟨_, rfl, ?_⟩
      refine yY (pt_ (.bool n5) e0 J e0) ?_
      cases C
      exact f2 _ _ ⟨rfl, a⟩
     ·refine gN (bfalse J) (yY (pf_ (.bool false) e0 (bfalse J) rfl) ?_)
      cases C
      exact f2 _ _ ⟨rfl, a⟩
    rintro f w ⟨n7, a⟩
    refine Ya (.bool f1) (eh n7) (wK n1 (wp_ret ?_))
    cases b
    exact O _ _ _ (fin1r Tryz.results7 ⟨rfl, rfl⟩ ⟨rfl, a⟩)
end Go.Proofs.YtnfamnfdndaekaaGreatDoor
