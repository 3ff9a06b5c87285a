/- Walks: each function computes its model, printed. -/
import Derived.Test.YtnfamnfdndaekaaGreatDoorW3
namespace Go.Proofs.YtnfamnfdndaekaaGreatDoor
open Go Sx M
set_option maxRecDepth 100000
set_option maxHeartbeats 40000000
set_option linter.unusedVariables false
attribute [local irreducible] wpList Code.wp Calls DR QR QS LA LS St
variable {w0 : World} {ros : List Fact} {rs : List Res} {w : World}
theorem sparseref07_IsPrime_ok {b : Int} {out : Bool} (h : sparseref07_IsPrime b = some out) (c : St w0 ros rs w) :
  Calls Tryz.prog 14 #[iV b] w (fun e w => e = .returned (.bool out) ∧ St w0 ros rs w) := by
 refine enterQ Tryz.func14 rfl Tryz.ntmps14 rfl fun Q l => sR fun _ u => Ya (.bool false) rfl (wK u (seqQ fun Z v x => sR fun _ y => Ym (iV b) e0 (yY (ylss e0 rfl) (Ym (.bool (decide (b < 2))) e0 ?_))))
 refine joinW 3 (fun f w => f 0 = iV b ∧ f 9 = .bool ((decide (b < 2)) || (decide ((2147483647 : Int) < b))) ∧ St w0 ros rs w) (fun m => ?_) ?_
 ·rcases Bool.eq_false_or_eq_true (decide (b < 2)) with g | g
  ·exact gN g (gN g (yY (pt_ (.bool true) e0 g rfl) (m _ _ ⟨rfl, (congrArg Value.bool (orT g)), c⟩)))
  ·exact yG g (m_ (iV b) e0) (yG g (ygtr e0 rfl) (yY (pf_ (.bool (decide ((2147483647 : Int) < b))) e0 g e0) (m _ _ ⟨rfl, (congrArg Value.bool (orF g)), c⟩)))
 rintro f w ⟨j, z, c⟩
 refine wK y (cB (eh z) h (fun A h => ?_) fun A h => ?_)
 ·refine sR fun _ B => Ya (.bool false) rfl (wK B (wp_ret (x _ _ _ rfl ?_)))
  cases h
  exact l _ _ _ (fin1r Tryz.results14 ⟨rfl, rfl⟩ ⟨rfl, c⟩)
 ·refine wp_skip (v _ _ (seqQ fun a0 C D => sR fun _ E => Ya (iV 2) rfl (wK E (blockQ fun n o => bE h fun p F h => ?_))))
  have G : ∀ (f : FV) w, St w0 ros rs w → .inl () = p → n (.exit 0) (fr 21 f) w := by
   intro f w c ho
   subst ho
   refine o _ _ _ (C _ _ (sR fun _ H => Ya (.bool true) rfl (wK H (wp_ret ?_))))
   cases h
   exact l _ _ _ (fin1r Tryz.results14 ⟨rfl, rfl⟩ ⟨rfl, c⟩)
  have I : ∀ (f : FV) w, f 2 = .bool false → St w0 ros rs w → .inr () = p → n .ret (fr 21 f) w := by
   intro f w J c ho
   subst ho
   refine o _ _ _ (D _ _ _ rfl ?_)
   cases h
   exact l _ _ _ (fin1r Tryz.results14 ⟨rfl, J⟩ ⟨rfl, c⟩)
  refine loopQ (fun s a w => ∃ (i : Int) (f : FV), i = s ∧ a = fr 21 f ∧ f 0 = iV b ∧ f 3 = iV i ∧ St w0 ros rs w) F ⟨_, _, rfl, rfl, j, rfl, c⟩ ?_
  rintro _ _ w a1 ⟨i, f, rfl, rfl, j, k, c⟩ d q a2 K r
  refine seqQ fun a3 L N => sR fun _ O => Ym (iV i) (eh k) (Ym (iV i) (eh k) (yY (ymul e0 e0) (Ym (iV b) (eh j) (yY (yleq e0 e0) (wK O ?_)))))
  refine cIf e0 d (fun R d => ?_) fun R d => ?_
  ·refine wp_skip (L _ _ (seqQ fun a4 S T => blockQ fun _ t => sR fun _ U => Ym (iV b) (eh j) (Ym (iV i) (eh k) (bE d fun a5 V d => yY (yrem e0 e0 V) (yY (yeql e0 rfl) (wK U ?_))))))
   refine cIf e0 d (fun W d => ?_) fun W d => ?_
   ·refine sR fun _ X => Ya (.bool false) rfl (wK X (wp_ret (t _ _ _ (T _ _ _ rfl ?_))))
    cases d
    exact r _ _ _ _ rfl rfl (I _ _ rfl c (q _ rfl))
   ·refine wp_skip (t _ _ _ (S _ _ (wR (Ym (iV i) (eh k) (yY (yadd e0 rfl) (Ya (iV (wa .i64 i 1)) e0 (wN ?_)))))))
    cases d
    exact K _ _ _ rfl ⟨_, _, rfl, rfl, j, rfl, c⟩
  ·refine wp_exit (N _ _ _ rfl ?_)
   cases d
   exact r _ _ _ _ rfl rfl (G _ _ c (q _ rfl))
theorem modular_Primes_ok {m i : Int} {out : LI} (h : modular_Primes m i = some out) (b : St w0 ros rs w) :
  Calls Tryz.prog 26 #[iV m, iV i] w (fun e w => ∃ (A : Hdr), e = .returned (A.v) ∧ St w0 ros (row 3 I1 A.v out :: rs) w) := by
 refine enterQ Tryz.func26 rfl Tryz.ntmps26 rfl fun Q B => sR fun _ F => Ya hnil.v rfl (wK F (sR fun _ G => Ya hnil.v rfl (wK G (seqQ fun c0 H I => sR fun _ J => ?_))))
 refine Ym (iV m) e0 (yY (yleq e0 rfl) (wK J ?_))
 refine cIf e0 h (fun K h => ?_) fun K h => ?_
 ·refine sR fun _ L => Ya hnil.v rfl (wK L (wp_ret (I _ _ _ rfl ?_)))
  cases h
  replace b := b.rowNh 3 I1
  exact B _ _ _ (fin1r Tryz.results26 ⟨rfl, rfl⟩ ⟨_, rfl, b⟩)
 ·refine wp_skip (H _ _ (sQ fun _ N => sR fun _ O => Ym (iV m) e0 (yY (ysub e0 rfl) (yY (ymin e0 rfl) (Ya (iV (imin (ws .i64 m 1) 2147483647)) e0 (wK O (blockQ fun R S => bE h fun T U h => ?_)))))))
  have V : ∀ (q : LI) (o : Hdr) (f : FV) w, f 5 = o.v → St w0 ros (row 3 I1 o.v q :: rs) w → q = T → R (.exit 0) (fr 30 f) w := by
   intro q o f w W b ho
   subst ho
   refine S _ _ _ (N _ _ (sR fun _ X => Ym o.v (eh W) (Ya o.v e0 (wK X (wp_ret ?_)))))
   cases h
   exact B _ _ _ (fin1r Tryz.results26 ⟨rfl, rfl⟩ ⟨_, rfl, b⟩)
  replace b := b.rowNh 3 I1
  refine loopQ (fun s a w => ∃ (k : LI) (c : Int) (f : FV) (j : Hdr), (k, c) = s ∧ a = fr 30 f ∧ f 1 = iV i ∧ f 5 = j.v ∧ f 6 = iV c ∧ St w0 ros (row 3 I1 j.v k :: rs) w) U ⟨_, _, _, _, rfl, rfl, rfl, rfl, rfl, b⟩ ?_
  rintro _ _ w Z ⟨k, c, f, j, rfl, rfl, r, t, u, b⟩ g a0 c1 a2 a3
  refine seqQ fun c2 a4 a5 => sR fun _ a6 => Ym (iV c) (eh u) (yY (ygeq e0 rfl) (Ym (.bool (decide ((2 : Int) ≤ c))) e0 ?_))
  refine joinW 6 (fun f w => f 1 = iV i ∧ f 5 = j.v ∧ f 6 = iV c ∧ f 20 = .bool ((decide ((2 : Int) ≤ c)) && (decide ((k.length : Int) < (imin i 100)))) ∧ St w0 ros (row 3 I1 j.v k :: rs) w) (fun C => ?_) ?_
  ·rcases Bool.eq_false_or_eq_true (decide ((2 : Int) ≤ c)) with d | d
   ·exact yG d (m_ j.v (eh t)) (yG d (yLen SL_22 e0 b rO0) (yG d (m_ (iV i) (eh r)) (yG d (ymin e0 rfl) (yG d (ylss e0 e0) (yY (pt_ (.bool (decide ((k.length : Int) < (imin i 100)))) e0 d e0) (C _ _ ⟨r, t, u, (congrArg Value.bool (andT d)), b⟩))))))
   ·exact gN d (gN d (gN d (gN d (gN d (yY (pf_ (.bool false) e0 d rfl) (C _ _ ⟨r, t, u, (congrArg Value.bool (andF d)), b⟩))))))
  rintro f w ⟨D, x, p, a7, b⟩
  refine wK a6 (cB (eh a7) g (fun a8 g => ?_) fun a8 g => ?_)
  ·refine wp_skip (a4 _ _ (sQ fun _ a9 => blockQ fun b0 b1 => sR fun _ b2 => Ym (iV c) (eh p) (bE g fun c4 b3 g => yC (yCall FN_24 (a1 e0)) (modular_IsPrime_ok b3 b) ?_)))
   rintro _ w ⟨rfl, b⟩
   refine ⟨_, rfl, ?_⟩
   refine wK b2 ?_
   have E : ∀ (y : LI) (z : Hdr) (f : FV) w, f 1 = iV i → f 5 = z.v → f 6 = iV c → St w0 ros (row 3 I1 z.v y :: rs) w → modular_Primes_j7 c y = some Z → b0 .normal (fr 30 f) w := by
    intro y z f w b4 b5 b6 b h
    refine b1 _ _ _ (a9 _ _ (wR (Ym (iV c) (eh b6) (yY (ysub e0 rfl) (Ya (iV (ws .i64 c 1)) e0 (wN ?_))))))
    cases h
    exact a2 _ _ _ rfl ⟨_, _, _, _, rfl, rfl, b4, b5, rfl, b⟩
   refine cB e0 g (fun b7 g => ?_) fun b7 g => ?_
   ·exact wR (Ym j.v (eh x) (Ym (iV c) (eh p) (yH (rLt (n := 1) (l := [c]) b SL_22 [iV c] (bp1 e0) rfl rfl (mks1 (cs := [iV c]) rfl mkI mks0)) fun c5 w b => bE g fun c6 b8 g => yH (rAp (b.k11) SL_22 e0 e0 rO1 b8) fun b9 w b => Ya b9.v e0 (wN (E _ _ _ _ D rfl p (b.k1f) g)))))
   ·exact wp_skip (E _ _ _ _ D x p b g)
  ·refine wp_exit (a5 _ _ _ rfl ?_)
   cases g
   exact a3 _ _ _ _ rfl rfl (V _ _ _ _ x b (a0 _ rfl))
theorem sparseref07_Primes_ok {m i : Int} {out : LI} (h : sparseref07_Primes m i = some out) (b : St w0 ros rs w) :
  Calls Tryz.prog 27 #[iV m, iV i] w (fun e w => ∃ (A : Hdr), e = .returned (A.v) ∧ St w0 ros (row 3 I1 A.v out :: rs) w) := by
 refine enterQ Tryz.func27 rfl Tryz.ntmps27 rfl fun Q B => sR fun _ F => Ya hnil.v rfl (wK F (sR fun _ G => Ya hnil.v rfl (wK G (seqQ fun c0 H I => sR fun _ J => ?_))))
 refine Ym (iV m) e0 (yY (yleq e0 rfl) (wK J ?_))
 refine cIf e0 h (fun K h => ?_) fun K h => ?_
 ·refine sR fun _ L => Ym hnil.v e0 (Ya hnil.v e0 (wK L (wp_ret (I _ _ _ rfl ?_))))
  cases h
  replace b := b.rowNh 3 I1
  exact B _ _ _ (fin1r Tryz.results27 ⟨rfl, rfl⟩ ⟨_, rfl, b⟩)
 ·refine wp_skip (H _ _ (sQ fun _ N => sR fun _ O => Ym (iV m) e0 (yY (ymin e0 rfl) (yY (ysub e0 rfl) (Ya (iV (ws .i64 (imin m 2147483648) 1)) e0 (wK O (blockQ fun R S => bE h fun T U h => ?_)))))))
  have V : ∀ (q : LI) (o : Hdr) (f : FV) w, f 5 = o.v → St w0 ros (row 3 I1 o.v q :: rs) w → q = T → R (.exit 0) (fr 31 f) w := by
   intro q o f w W b ho
   subst ho
   refine S _ _ _ (N _ _ (sR fun _ X => Ym o.v (eh W) (Ya o.v e0 (wK X (wp_ret ?_)))))
   cases h
   exact B _ _ _ (fin1r Tryz.results27 ⟨rfl, rfl⟩ ⟨_, rfl, b⟩)
  replace b := b.rowNh 3 I1
  refine loopQ (fun s a w => ∃ (k : LI) (c : Int) (f : FV) (j : Hdr), (k, c) = s ∧ a = fr 31 f ∧ f 1 = iV i ∧ f 5 = j.v ∧ f 6 = iV c ∧ St w0 ros (row 3 I1 j.v k :: rs) w) U ⟨_, _, _, _, rfl, rfl, rfl, rfl, rfl, b⟩ ?_
  rintro _ _ w Z ⟨k, c, f, j, rfl, rfl, r, t, u, b⟩ g a0 c1 a2 a3
  refine seqQ fun c2 a4 a5 => sR fun _ a6 => Ym (iV c) (eh u) (yY (ygtr e0 rfl) (Ym (.bool (decide ((1 : Int) < c))) e0 ?_))
  refine joinW 6 (fun f w => f 1 = iV i ∧ f 5 = j.v ∧ f 6 = iV c ∧ f 21 = .bool ((decide ((1 : Int) < c)) && (decide ((k.length : Int) < (imin i 100)))) ∧ St w0 ros (row 3 I1 j.v k :: rs) w) (fun C => ?_) ?_
  ·rcases Bool.eq_false_or_eq_true (decide ((1 : Int) < c)) with d | d
   ·exact yG d (m_ j.v (eh t)) (yG d (yLen SL_22 e0 b rO0) (yG d (m_ (iV i) (eh r)) (yG d (ymin e0 rfl) (yG d (ylss e0 e0) (yY (pt_ (.bool (decide ((k.length : Int) < (imin i 100)))) e0 d e0) (C _ _ ⟨r, t, u, (congrArg Value.bool (andT d)), b⟩))))))
   ·exact gN d (gN d (gN d (gN d (gN d (yY (pf_ (.bool false) e0 d rfl) (C _ _ ⟨r, t, u, (congrArg Value.bool (andF d)), b⟩))))))
  rintro f w ⟨D, x, p, a7, b⟩
  refine wK a6 (cB (eh a7) g (fun a8 g => ?_) fun a8 g => ?_)
  ·refine wp_skip (a4 _ _ (sQ fun _ a9 => blockQ fun b0 b1 => sR fun _ b2 => Ym (iV c) (eh p) (bE g fun c4 b3 g => yC (yCall FN_14 (a1 e0)) (sparseref07_IsPrime_ok b3 b) ?_)))
   rintro _ w ⟨rfl, b⟩
   refine ⟨_, rfl, ?_⟩
   refine wK b2 ?_
   have E : ∀ (y : LI) (z : Hdr) (f : FV) w, f 1 = iV i → f 5 = z.v → f 6 = iV c → St w0 ros (row 3 I1 z.v y :: rs) w → sparseref07_Primes_j7 c y = some Z → b0 .normal (fr 31 f) w := by
    intro y z f w b4 b5 b6 b h
    refine b1 _ _ _ (a9 _ _ (wR (Ym (iV c) (eh b6) (yY (ysub e0 rfl) (Ya (iV (ws .i64 c 1)) e0 (wN ?_))))))
    cases h
    exact a2 _ _ _ rfl ⟨_, _, _, _, rfl, rfl, b4, b5, rfl, b⟩
   refine cB e0 g (fun b7 g => ?_) fun b7 g => ?_
   ·exact wR (Ym j.v (eh x) (Ym (iV c) (eh p) (yH (rLt (n := 1) (l := [c]) b SL_22 [iV c] (bp1 e0) rfl rfl (mks1 (cs := [iV c]) rfl mkI mks0)) fun c5 w b => bE g fun c6 b8 g => yH (rAp (b.k11) SL_22 e0 e0 rO1 b8) fun b9 w b => Ya b9.v e0 (wN (E _ _ _ _ D rfl p (b.k1f) g)))))
   ·exact wp_skip (E _ _ _ _ D x p b g)
  ·refine wp_exit (a5 _ _ _ rfl ?_)
   cases g
   exact a3 _ _ _ _ rfl rfl (V _ _ _ _ x b (a0 _ rfl))
theorem sparselaw07_ModularPrimes_ok {j b g : Int} {out : Bool} (c : sparselaw07_ModularPrimes j b g = some out) (d7 : out = true) (a : St w0 ros rs w) :
  Calls Tryz.prog 5 #[iV j, iV b, iV g] w (fun e w => e = .returned (.bool out) ∧ St w0 ros rs w) := by
 refine enterQ Tryz.func5 rfl Tryz.ntmps5 rfl fun Q y => sR fun _ S => Ya (.bool false) rfl (wK S (seqQ fun d8 T U => sR fun _ V => Ym (iV j) e0 (bE c fun o W c => yC (yCall FN_12 (a1 e0)) (sparselaw07_modulus_ok W a) ?_)))
 rintro _ w ⟨rfl, a⟩
 refine ⟨_, rfl, ?_⟩
 refine yY (ynot e0) (Ym (.bool (!o)) e0 ?_)
 refine joinW 7 (fun f w => f 0 = iV j ∧ f 1 = iV b ∧ f 2 = iV g ∧ f 17 = .bool ((!o) || ((decide ((5000 : Int) < b)) && (decide (b ≤ 2147483637)))) ∧ St w0 ros rs w) (fun z => ?_) ?_
 ·rcases Bool.eq_false_or_eq_true (!o) with h | h
  ·exact gN h (gN h (gN h (Gn (wxu rfl rfl rfl) rfl (Gn (wxu rfl rfl rfl) rfl (gN h (yY (pt_ (.bool true) e0 h rfl) (z _ _ ⟨rfl, rfl, rfl, (congrArg Value.bool (orT h)), a⟩)))))))
  ·refine yG h (m_ (iV b) e0) (yG h (ygtr e0 rfl) (yG h (m_ (.bool (decide ((5000 : Int) < b))) e0) ?_))
   refine joinW 3 (fun f w => f 0 = iV j ∧ f 1 = iV b ∧ f 2 = iV g ∧ f 10 = .bool (!o) ∧ f 16 = .bool ((decide ((5000 : Int) < b)) && (decide (b ≤ 2147483637))) ∧ St w0 ros rs w) (fun A => ?_) ?_
   ·rcases Bool.eq_false_or_eq_true (decide ((5000 : Int) < b)) with l | l
    ·exact yG l (m_ (iV b) e0) (yG l (yleq e0 rfl) (yG h (pt_ (.bool (decide (b ≤ 2147483637))) e0 l e0) (A _ _ ⟨rfl, rfl, rfl, rfl, (congrArg Value.bool (andT l)), a⟩)))
    ·exact gN l (gN l (yG h (pf_ (.bool false) e0 l rfl) (A _ _ ⟨rfl, rfl, rfl, rfl, (congrArg Value.bool (andF l)), a⟩)))
   rintro f w ⟨X, Z, a3, a4, a5, a⟩
   exact yY (pf_ (.bool ((decide ((5000 : Int) < b)) && (decide (b ≤ 2147483637)))) (eh a4) h (eh a5)) (z _ _ ⟨X, Z, a3, (congrArg Value.bool (orF h)), a⟩)
 rintro f w ⟨u, s, t, a6, a⟩
 refine Ym (.bool ((!o) || ((decide ((5000 : Int) < b)) && (decide (b ≤ 2147483637))))) (eh a6) ?_
 refine joinW 7 (fun f w => f 0 = iV j ∧ f 1 = iV b ∧ f 2 = iV g ∧ f 25 = .bool (((!o) || ((decide ((5000 : Int) < b)) && (decide (b ≤ 2147483637)))) || ((decide ((4 : Int) < g)) && (decide ((1000 : Int) < b)))) ∧ St w0 ros rs w) (fun B => ?_) ?_
 ·rcases Bool.eq_false_or_eq_true ((!o) || ((decide ((5000 : Int) < b)) && (decide (b ≤ 2147483637)))) with i | i
  ·exact gN i (gN i (gN i (Gn (wxu rfl rfl rfl) rfl (Gn (wxu rfl rfl rfl) rfl (gN i (yY (pt_ (.bool true) e0 i rfl) (B _ _ ⟨u, s, t, (congrArg Value.bool (orT i)), a⟩)))))))
  ·refine yG i (m_ (iV g) (eh t)) (yG i (ygtr e0 rfl) (yG i (m_ (.bool (decide ((4 : Int) < g))) e0) ?_))
   refine joinW 3 (fun f w => f 0 = iV j ∧ f 1 = iV b ∧ f 2 = iV g ∧ f 18 = .bool ((!o) || ((decide ((5000 : Int) < b)) && (decide (b ≤ 2147483637)))) ∧ f 24 = .bool ((decide ((4 : Int) < g)) && (decide ((1000 : Int) < b))) ∧ St w0 ros rs w) (fun C => ?_) ?_
   ·rcases Bool.eq_false_or_eq_true (decide ((4 : Int) < g)) with m | m
    ·exact yG m (m_ (iV b) (eh s)) (yG m (ygtr e0 rfl) (yG i (pt_ (.bool (decide ((1000 : Int) < b))) e0 m e0) (C _ _ ⟨u, s, t, rfl, (congrArg Value.bool (andT m)), a⟩)))
    ·exact gN m (gN m (yG i (pf_ (.bool false) e0 m rfl) (C _ _ ⟨u, s, t, rfl, (congrArg Value.bool (andF m)), a⟩)))
   rintro f w ⟨a7, a8, a9, b0, b1, a⟩
   exact yY (pf_ (.bool ((decide ((4 : Int) < g)) && (decide ((1000 : Int) < b)))) (eh b0) i (eh b1)) (B _ _ ⟨a7, a8, a9, (congrArg Value.bool (orF i)), a⟩)
 rintro f w ⟨D, v, x, b2, a⟩
 refine wK V (cB (eh b2) c (fun b3 c => ?_) fun b3 c => ?_)
 ·refine sR fun _ b4 => bE c fun b5 b6 c => yC (yCall FN_11 a0) (sparselaw07_awake_ok b6 a) ?_
  rintro _ w ⟨rfl, a⟩
  refine ⟨_, rfl, ?_⟩
  refine Ya (.bool b5) e0 (wK b4 (wp_ret (U _ _ _ rfl ?_)))
  cases c
  exact y _ _ _ (fin1r Tryz.results5 ⟨rfl, rfl⟩ ⟨rfl, a⟩)
 ·refine wp_skip (T _ _ (sQ fun b7 b8 => sR fun _ b9 => Ym (iV b) (eh v) (yY (ygtr e0 rfl) (Ym (.bool (decide ((2147483637 : Int) < b))) e0 ?_))))
  refine joinW 3 (fun f w => f 0 = iV j ∧ f 1 = iV b ∧ f 2 = iV g ∧ f 32 = .bool ((decide ((2147483637 : Int) < b)) && (decide ((2 : Int) < g))) ∧ St w0 ros rs w) (fun E => ?_) ?_
  ·rcases Bool.eq_false_or_eq_true (decide ((2147483637 : Int) < b)) with n | n
   ·exact yG n (m_ (iV g) (eh x)) (yG n (ygtr e0 rfl) (yY (pt_ (.bool (decide ((2 : Int) < g))) e0 n e0) (E _ _ ⟨D, v, x, (congrArg Value.bool (andT n)), a⟩)))
   ·exact gN n (gN n (yY (pf_ (.bool false) e0 n rfl) (E _ _ ⟨D, v, x, (congrArg Value.bool (andF n)), a⟩)))
  rintro f w ⟨F, G, c0, c1, a⟩
  refine wK b9 ?_
  have H : ∀ (q : Int) (f : FV) w, f 0 = iV j → f 1 = iV b → f 2 = iV q → St w0 ros rs w → sparselaw07_ModularPrimes_j8 j b q = some out → b7 .normal (fr 50 f) w := by
   intro q f w I J K a c
   refine b8 _ _ (sR fun _ c2 => Ym (iV j) (eh I) (bE c fun c3 c4 c => yC (yCall FN_24 (a1 e0)) (modular_IsPrime_ok c4 a) ?_))
   rintro _ w ⟨rfl, a⟩
   refine ⟨_, rfl, ?_⟩
   refine Ym (iV j) (eh I) (bE c fun c5 c6 c => yC (yCall FN_14 (a1 e0)) (sparseref07_IsPrime_ok c6 a) ?_)
   rintro _ w ⟨rfl, a⟩
   refine ⟨_, rfl, ?_⟩
   refine yY (yeqb (by kernel_rfl) e0 e0) (Ym (.bool (c3 == c5)) e0 (bE c fun L k c => ?_))
   refine joinW 8 (fun f w => f 46 = .bool L ∧ St w0 ros rs w) (fun N => ?_) ?_
   ·rcases iteS k with ⟨d, k⟩ | ⟨d, k⟩
    ·refine yG d (m_ (iV b) (eh J)) (yG d (m_ (iV q) (eh K)) (bE k fun d9 c7 k => Yc (wG d) rfl (yCall FN_26 (a2 e0 e0)) (modular_Primes_ok c7 a) ?_))
     rintro _ w ⟨e1, rfl, a⟩
     refine ⟨_, rfl, ?_⟩
     refine yG d (m_ (iV b) (eh J)) (yG d (m_ (iV q) (eh K)) (bE k fun e2 c9 k => Yc (wG d) rfl (yCall FN_27 (a2 e0 e0)) (sparseref07_Primes_ok c9 a) ?_))
     rintro _ w ⟨e3, rfl, a⟩
     refine ⟨_, rfl, ?_⟩
     refine bE k fun d0 d1 k => ?_
     replace a := ((a.k11).fz).fz
     refine Yc (wG d) rfl (yCall FN_25 (a2 e0 e0)) (sparsekit_Ints_ok d1 F1 F0 a) ?_
     rintro _ w ⟨rfl, a⟩
     refine ⟨_, rfl, ?_⟩
     refine yY (pt_ (.bool d0) e0 d e0) ?_
     cases k
     exact N _ _ ⟨rfl, (a.facts (allT (allT allI)))⟩
    ·refine gN (bfalse d) (gN (bfalse d) (gN (bfalse d) (gN (bfalse d) (gN (bfalse d) (gN (bfalse d) (gN (bfalse d) (yY (pf_ (.bool false) e0 (bfalse d) rfl) ?_)))))))
     cases k
     exact N _ _ ⟨rfl, a⟩
   rintro f w ⟨d2, a⟩
   refine Ym (.bool L) (eh d2) (bE c fun O p c => ?_)
   refine joinW 2 (fun f w => f 49 = .bool O ∧ St w0 ros rs w) (fun R => ?_) ?_
   ·rcases iteS p with ⟨r, p⟩ | ⟨r, p⟩
    ·refine bE p fun d3 d4 p => Yc (wG r) rfl (yCall FN_11 a0) (sparselaw07_awake_ok d4 a) ?_
     rintro _ w ⟨rfl, a⟩
     refine ⟨_, rfl, ?_⟩
     refine yY (pt_ (.bool d3) e0 r e0) ?_
     cases p
     exact R _ _ ⟨rfl, a⟩
    ·refine gN (bfalse r) (yY (pf_ (.bool false) e0 (bfalse r) rfl) ?_)
     cases p
     exact R _ _ ⟨rfl, a⟩
   rintro f w ⟨d5, a⟩
   refine Ya (.bool O) (eh d5) (wK c2 (wp_ret ?_))
   cases c
   exact y _ _ _ (fin1r Tryz.results5 ⟨rfl, rfl⟩ ⟨rfl, a⟩)
  refine cB (eh c1) c (fun d6 c => ?_) fun d6 c => ?_
  ·exact wR (Ya (iV 2) rfl (wN (H _ _ _ F G rfl a c)))
  ·exact wp_skip (H _ _ _ F G c0 a c)
end Go.Proofs.YtnfamnfdndaekaaGreatDoor
