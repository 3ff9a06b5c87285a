/- Walks: each function computes its model, printed. -/
import Derived.Test.YtnfamnfdndaekaaGreatDoorW3
namespace Go.Proofs.YtnfamnfdndaekaaGreatDoor
open Go Sx M
set_option maxRecDepth 100000
set_option maxHeartbeats 40000000
set_option linter.unusedVariables false
attribute [local irreducible] wpList Code.wp Calls DR QR QS LA LS St
variable {w0 : World} {ros : List Fact} {rs : List Res} {w : World}
theorem sparselaw07_modulus_ok {a : Int} {out : Bool} (g : sparselaw07_modulus a = some out) (c : St w0 ros rs w) :
  Calls Tryz.prog 12 #[iV a] w (fun e w => e = .returned (.bool out) ∧ St w0 ros rs w) := by
 refine enterQ Tryz.func12 rfl Tryz.ntmps12 rfl fun Q h => sR fun _ i => Ya (.bool false) rfl (wK i (sR fun _ j => Ym (iV a) e0 (yY (ylss e0 rfl) (Ym (.bool (decide (a < 100000))) e0 ?_))))
 refine joinW 3 (fun f w => f 8 = .bool ((decide (a < 100000)) || (decide ((2147483637 : Int) < a))) ∧ St w0 ros rs w) (fun d => ?_) ?_
 ·rcases Bool.eq_false_or_eq_true (decide (a < 100000)) with b | b
  ·exact gN b (gN b (yY (pt_ (.bool true) e0 b rfl) (d _ _ ⟨(congrArg Value.bool (orT b)), c⟩)))
  ·exact yG b (m_ (iV a) e0) (yG b (ygtr e0 rfl) (yY (pf_ (.bool (decide ((2147483637 : Int) < a))) e0 b e0) (d _ _ ⟨(congrArg Value.bool (orF b)), c⟩)))
 rintro f w ⟨k, c⟩
 refine Ya (.bool ((decide (a < 100000)) || (decide ((2147483637 : Int) < a)))) (eh k) (wK j (wp_ret ?_))
 cases g
 exact h _ _ _ (fin1r Tryz.results12 ⟨rfl, rfl⟩ ⟨rfl, c⟩)
theorem sparseref07_IsPrime_ok {b : Int} {out : Bool} (h : sparseref07_IsPrime b = some out) (c : St w0 ros rs w) :
  Calls Tryz.prog 14 #[iV b] w (fun e w => e = .returned (.bool out) ∧ St w0 ros rs w) := by
 refine enterQ Tryz.func14 rfl Tryz.ntmps14 rfl fun Q l => sR fun _ u => Ya (.bool false) rfl (wK u (seqQ fun Z v x => sR fun _ y => Ym (iV b) e0 (yY (ylss e0 rfl) (Ym (.bool (decide (b < 2))) e0 ?_))))
 refine joinW 3 (fun f w => f 0 = iV b ∧ f 9 = .bool ((decide (b < 2)) || (decide ((2147483647 : Int) < b))) ∧ St w0 ros rs w) (fun m => ?_) ?_
 ·rcases Bool.eq_false_or_eq_true (decide (b < 2)) with g | g
  ·exact gN g (gN g (yY (pt_ (.bool true) e0 g rfl) (m _ _ ⟨rfl, (congrArg Value.bool (orT g)), c⟩)))
  ·exact yG g (m_ (iV b) e0) (yG g (ygtr e0 rfl) (yY (pf_ (.bool (decide ((2147483647 : Int) < b))) e0 g e0) (m _ _ ⟨rfl, (congrArg Value.bool (orF g)), c⟩)))
 rintro f w ⟨j, z, c⟩
 refine wK y (cB (eh z) h (fun A h => ?_) fun A h => ?_)
 ·refine sR fun _ B => Ya (.bool false) rfl (wK B (wp_ret (x _ _ _ rfl ?_)))
  cases h
  exact l _ _ _ (fin1r Tryz.results14 ⟨rfl, rfl⟩ ⟨rfl, c⟩)
 ·refine wp_skip (v _ _ (seqQ fun a0 C D => sR fun _ E => Ya (iV 2) rfl (wK E (blockQ fun n o => bE h fun p F h => ?_))))
  have G : ∀ (f : FV) w, St w0 ros rs w → .inl () = p → n (.exit 0) (fr 21 f) w := by
   intro f w c ho
   subst ho
   refine o _ _ _ (C _ _ (sR fun _ H => Ya (.bool true) rfl (wK H (wp_ret ?_))))
   cases h
   exact l _ _ _ (fin1r Tryz.results14 ⟨rfl, rfl⟩ ⟨rfl, c⟩)
  have I : ∀ (f : FV) w, f 2 = .bool false → St w0 ros rs w → .inr () = p → n .ret (fr 21 f) w := by
   intro f w J c ho
   subst ho
   refine o _ _ _ (D _ _ _ rfl ?_)
   cases h
   exact l _ _ _ (fin1r Tryz.results14 ⟨rfl, J⟩ ⟨rfl, c⟩)
  refine loopQ (fun s a w => ∃ (i : Int) (f : FV), i = s ∧ a = fr 21 f ∧ f 0 = iV b ∧ f 3 = iV i ∧ St w0 ros rs w) F ⟨_, _, rfl, rfl, j, rfl, c⟩ ?_
  rintro _ _ w a1 ⟨i, f, rfl, rfl, j, k, c⟩ d q a2 K r
  refine seqQ fun a3 L N => sR fun _ O => Ym (iV i) (eh k) (Ym (iV i) (eh k) (yY (ymul e0 e0) (Ym (iV b) (eh j) (yY (yleq e0 e0) (wK O ?_)))))
  refine cIf e0 d (fun R d => ?_) fun R d => ?_
  ·refine wp_skip (L _ _ (seqQ fun a4 S T => blockQ fun _ t => sR fun _ U => Ym (iV b) (eh j) (Ym (iV i) (eh k) (bE d fun a5 V d => yY (yrem e0 e0 V) (yY (yeql e0 rfl) (wK U ?_))))))
   refine cIf e0 d (fun W d => ?_) fun W d => ?_
   ·refine sR fun _ X => Ya (.bool false) rfl (wK X (wp_ret (t _ _ _ (T _ _ _ rfl ?_))))
    cases d
    exact r _ _ _ _ rfl rfl (I _ _ rfl c (q _ rfl))
   ·refine wp_skip (t _ _ _ (S _ _ (wR (Ym (iV i) (eh k) (yY (yadd e0 rfl) (Ya (iV (wa .i64 i 1)) e0 (wN ?_)))))))
    cases d
    exact K _ _ _ rfl ⟨_, _, rfl, rfl, j, rfl, c⟩
  ·refine wp_exit (N _ _ _ rfl ?_)
   cases d
   exact r _ _ _ _ rfl rfl (G _ _ c (q _ rfl))
theorem sparsekit_In_ok {m : LI} {h : Int} {g : Hdr} {out : Bool} (i : sparsekit_In m h = some out) (j : imm I1 g.v m ∈ ros) (b : St w0 ros rs w) :
  Calls Tryz.prog 15 #[g.v, iV h] w (fun e w => e = .returned (.bool out) ∧ St w0 ros rs w) := by
 refine enterQ Tryz.func15 rfl Tryz.ntmps15 rfl fun Q n => sR fun _ z => Ya (.bool false) rfl (wK z (seqQ fun V A B => sR fun _ C => Ya (iV 0) rfl (wK C (blockQ fun o p => bE i fun q D i => ?_))))
 have E : ∀ (f : FV) w, St w0 ros rs w → .inl () = q → o (.exit 0) (fr 18 f) w := by
  intro f w b ho
  subst ho
  refine p _ _ _ (A _ _ (sR fun _ F => Ya (.bool false) rfl (wK F (wp_ret ?_))))
  cases i
  exact n _ _ _ (fin1r Tryz.results15 ⟨rfl, rfl⟩ ⟨rfl, b⟩)
 have G : ∀ (f : FV) w, f 4 = .bool true → St w0 ros rs w → .inr () = q → o .ret (fr 18 f) w := by
  intro f w H b ho
  subst ho
  refine p _ _ _ (B _ _ _ rfl ?_)
  cases i
  exact n _ _ _ (fin1r Tryz.results15 ⟨rfl, H⟩ ⟨rfl, b⟩)
 refine loopQ (fun s a w => ∃ (d : Int) (f : FV), d = s ∧ a = fr 18 f ∧ f 0 = g.v ∧ f 1 = iV h ∧ f 5 = iV d ∧ St w0 ros rs w) D ⟨_, _, rfl, rfl, rfl, rfl, rfl, b⟩ ?_
 rintro _ _ w W ⟨d, f, rfl, rfl, k, r, l, b⟩ c t X I u
 refine seqQ fun Z J K => sR fun _ L => Ym (iV d) (eh l) (Ym g.v (eh k) (yY (yLen SL_22 e0 b (rdI j)) (yY (ylss e0 e0) (wK L ?_))))
 refine cIf e0 c (fun N c => ?_) fun N c => ?_
 ·refine wp_skip (J _ _ (seqQ fun a0 O R => blockQ fun _ x => sR fun _ S => Ym g.v (eh k) (Ym (iV d) (eh l) (bE c fun a1 y c => yY (yIa SL_22 e0 e0 b (rdI j) y) (yY (yI O_3 e0 b (rdI j) y) (Ym (iV h) (eh r) (yY (yeql e0 e0) (wN ?_))))))))
  refine S _ _ ?_
  refine cIf e0 c (fun T c => ?_) fun T c => ?_
  ·refine sR fun _ U => Ya (.bool true) rfl (wK U (wp_ret (x _ _ _ (R _ _ _ rfl ?_))))
   cases c
   exact u _ _ _ _ rfl rfl (G _ _ rfl b (t _ rfl))
  ·refine wp_skip (x _ _ _ (O _ _ (wR (Ym (iV d) (eh l) (yY (yadd e0 rfl) (Ya (iV (wa .i64 d 1)) e0 (wN ?_)))))))
   cases c
   exact I _ _ _ rfl ⟨_, _, rfl, rfl, k, r, rfl, b⟩
 ·refine wp_exit (K _ _ _ rfl ?_)
  cases c
  exact u _ _ _ _ rfl rfl (E _ _ b (t _ rfl))
theorem sparseref01_trim_ok {u : LI} {d : Hdr} {out : LI} (m : sparseref01_trim u = some out) (o : imm (rI .u32) d.v u ∈ ros) (b : St w0 ros rs w) :
  Calls Tryz.prog 111 #[d.v] w (fun e w => ∃ (C : Hdr), e = .returned (C.v) ∧ St w0 ros (row 88 (rI .u32) C.v out :: rs) w) := by
 refine enterQ Tryz.func111 rfl Tryz.ntmps111 rfl fun Q L => sR fun _ N => Ya hnil.v rfl (wK N (sR fun _ O => Ym d.v e0 (yY (yLen SL_25 e0 b (rdI o)) (Ya (iV (u.length : Int)) e0 (wK O (sQ fun _ R => ?_))))))
 refine blockQ fun S T => bE m fun U V m => ?_
 have W : ∀ (p : Int) (f : FV) w, f 0 = d.v → f 3 = iV p → St w0 ros rs w → p = U → S (.exit 0) (fr 33 f) w := by
  intro p f w X Z b ho
  subst ho
  refine T _ _ _ (R _ _ (sR fun _ a0 => Ya hnil.v rfl (wK a0 (sQ fun _ a1 => sR fun _ a2 => Ya (iV 0) rfl (wK a2 (blockQ fun a3 a4 => ?_))))))
  refine bE m fun a5 a6 m => ?_
  have a7 : ∀ (x : LI) (q : Hdr) (f : FV) w, f 4 = q.v → St w0 ros (row 88 (rI .u32) q.v x :: rs) w → x = a5 → a3 (.exit 2) (fr 33 f) w := by
   intro x q f w a8 b ho
   subst ho
   refine a4 _ _ _ (a1 _ _ (sR fun _ a9 => Ym q.v (eh a8) (Ya q.v e0 (wK a9 (wp_ret ?_)))))
   cases m
   exact L _ _ _ (fin1r Tryz.results111 ⟨rfl, rfl⟩ ⟨_, rfl, b⟩)
  replace b := b.rowNh 88 (rI .u32)
  refine loopQ (fun s a w => ∃ (y : LI) (i : Int) (f : FV) (r : Hdr), (y, i) = s ∧ a = fr 33 f ∧ f 0 = d.v ∧ f 3 = iV p ∧ f 4 = r.v ∧ f 5 = iV i ∧ St w0 ros (row 88 (rI .u32) r.v y :: rs) w) a6 ⟨_, _, _, _, rfl, rfl, X, Z, rfl, rfl, b⟩ ?_
  rintro _ _ w d2 ⟨y, i, f, r, rfl, rfl, D, E, F, z, b⟩ g b0 d3 b1 b2
  refine seqQ fun d4 b3 b4 => sR fun _ b5 => Ym (iV i) (eh z) (Ym (iV p) (eh E) (yY (ylss e0 e0) (wK b5 ?_)))
  refine cIf e0 g (fun b6 g => ?_) fun b6 g => ?_
  ·refine wp_skip (b3 _ _ (sQ fun _ b7 => blockQ fun _ b8 => wR (Ym r.v (eh F) (Ym d.v (eh D) (Ym (iV i) (eh z) (bE g fun A G g => yY (yIa SL_25 e0 e0 b (rdI o) G) (yY (yI O_88 e0 b (rdI o) G) (yH (rLt (n := 1) (l := [A]) b SL_25 [.int .u32 A] (bp1 e0) rfl rfl (mks1 (cs := [.int .u32 A]) rfl mkI mks0)) fun d5 w b => bE g fun d6 b9 g => ?_))))))))
   refine yH (rAp (b.k11) SL_25 e0 e0 rO1 b9) fun c0 w b => Ya c0.v e0 (wN (b8 _ _ _ (b7 _ _ (wR (Ym (iV i) (eh z) (yY (yadd e0 rfl) (Ya (iV (wa .i64 i 1)) e0 (wN ?_))))))))
   cases g
   exact b1 _ _ _ rfl ⟨_, _, _, _, rfl, rfl, D, E, rfl, rfl, (b.k1g)⟩
  ·refine wp_exit (b4 _ _ _ rfl ?_)
   cases g
   exact b2 _ _ _ _ rfl rfl (a7 _ _ _ _ F b (b0 _ rfl))
 refine loopQ (fun s a w => ∃ (h : Int) (f : FV), h = s ∧ a = fr 33 f ∧ f 0 = d.v ∧ f 3 = iV h ∧ St w0 ros rs w) V ⟨_, _, rfl, rfl, rfl, rfl, b⟩ ?_
 rintro _ _ w d7 ⟨h, f, rfl, rfl, B, t, b⟩ j c1 d8 c2 c3
 refine seqQ fun d9 c4 c5 => sR fun _ c6 => Ym (iV h) (eh t) (yY (ygtr e0 rfl) (Ym (.bool (decide ((0 : Int) < h))) e0 (bE j fun c7 k j => ?_)))
 refine joinW 7 (fun f w => f 0 = d.v ∧ f 3 = iV h ∧ f 17 = .bool c7 ∧ St w0 ros rs w) (fun H => ?_) ?_
 ·rcases iteS k with ⟨c, k⟩ | ⟨c, k⟩
  ·refine yG (dT c) (m_ d.v (eh B)) (yG (dT c) (m_ (iV h) (eh t)) (yG (dT c) (ysub e0 rfl) (bE k fun c8 I k => yG (dT c) (yIa SL_25 e0 e0 b (rdI o) I) (yG (dT c) (yI O_88 e0 b (rdI o) I) (yG (dT c) (yeql e0 rfl) (yY (pt_ (.bool (decide (c8 = 0))) e0 (dT c) e0) ?_))))))
   cases k
   exact H _ _ ⟨B, t, rfl, b⟩
  ·refine gN (dF c) (gN (dF c) (gN (dF c) (gN (dF c) (gN (dF c) (gN (dF c) (yY (pf_ (.bool false) e0 (dF c) rfl) ?_))))))
   cases k
   exact H _ _ ⟨B, t, rfl, b⟩
 rintro f w ⟨J, K, c9, b⟩
 refine wK c6 (cB (eh c9) j (fun d0 j => ?_) fun d0 j => ?_)
 ·refine wp_skip (c4 _ _ (blockQ fun _ d1 => wR (Ym (iV h) (eh K) (yY (ysub e0 rfl) (Ya (iV (ws .i64 h 1)) e0 (wN (d1 _ _ _ ?_)))))))
  cases j
  exact c2 _ _ _ rfl ⟨_, _, rfl, rfl, J, rfl, b⟩
 ·refine wp_exit (c5 _ _ _ rfl ?_)
  cases j
  exact c3 _ _ _ _ rfl rfl (W _ _ _ J K b (c1 _ rfl))
theorem sparseref01_make1_ok {c : Bool} {j : LI} {h : Hdr} {out : Bool × LI} (i : sparseref01_make1 c j = some out) (o : imm (rI .u32) h.v j ∈ ros) (a : St w0 ros rs w) :
  Calls Tryz.prog 93 #[.bool c, h.v] w (fun e w => ∃ (k : Hdr), e = .returned (.agg #[.bool out.1, k.v]) ∧ St w0 ros (row 88 (rI .u32) k.v out.2 :: rs) w) := by
 refine enterQ Tryz.func93 rfl Tryz.ntmps93 rfl fun Q p => sR fun _ q => yBb (rAl a ZT_27) fun l w a => wK q (sR fun _ r => Ym h.v e0 (bE i fun g s i => yC (yCall FN_111 (a1 e0)) (sparseref01_trim_ok s o a) ?_))
 rintro _ w ⟨d, rfl, a⟩
 refine ⟨_, rfl, ?_⟩
 refine Ya d.v e0 (wK r (sR fun _ t => Ym (.bool c) e0 (Ym (.bool c) e0 ?_)))
 refine joinW 4 (fun f w => f 1 = d.v ∧ f 4 = (pB l) ∧ f 12 = .bool (c && (decide ((0 : Int) < (g.length : Int)))) ∧ St w0 ros (row 88 (rI .u32) d.v g :: box l 27 [.bool false, hnil.v] :: rs) w) (fun m => ?_) ?_
 ·rcases Bool.eq_false_or_eq_true c with b | b
  ·exact yG b (m_ d.v e0) (yG b (yLen SL_25 e0 a rO0) (yG b (ygtr e0 rfl) (yY (pt_ (.bool (decide ((0 : Int) < (g.length : Int)))) e0 b e0) (m _ _ ⟨rfl, rfl, (congrArg Value.bool (andT b)), a⟩))))
  ·exact gN b (gN b (gN b (yY (pf_ (.bool false) e0 b rfl) (m _ _ ⟨rfl, rfl, (congrArg Value.bool (andF b)), a⟩))))
 rintro f w ⟨u, n, x, a⟩
 refine Ym d.v (eh u) (yY (ybuild (us := [.bool (c && (decide ((0 : Int) < (g.length : Int)))), d.v]) [(0, .bool (c && (decide ((0 : Int) < (g.length : Int))))), (1, d.v)] SO_27 (bp2 (eh x) e0) rfl) (yT (r_stbn (vals' := [.bool (c && (decide ((0 : Int) < (g.length : Int)))), d.v]) (us := [.bool (c && (decide ((0 : Int) < (g.length : Int)))), d.v]) (a.k11) ST_27 (eh n) e0 rfl rfl (one_of rfl) rfl) fun w a => wK t (wp_ret ?_)))
 cases i
 exact p _ _ _ (fin1r Tryz.results93 (rcs2 rfl n a R0 ST_27 rfl) ⟨_, rfl, (a.k1n)⟩)
theorem sparseref01_FromInt_ok {c : Int} {out : Bool × LI} (d : sparseref01_FromInt c = some out) (a : St w0 ros rs w) :
  Calls Tryz.prog 43 #[iV c] w (fun e w => ∃ (g : Hdr), e = .returned (.agg #[.bool out.1, g.v]) ∧ St w0 ros (row 88 (rI .u32) g.v out.2 :: rs) w) := by
 refine enterQ Tryz.func43 rfl Tryz.ntmps43 rfl fun Q p => sR fun _ q => yBb (rAl a ZT_27) fun h w a => wK q (sR fun _ r => Ym (iV c) e0 (yY (ycv (k' := .u64) (by kernel_rfl) (by kernel_rfl) e0) (Ya (.int .u64 (wc .u64 c)) e0 (wK r ?_))))
 refine sQ fun s t => sR fun _ u => Ym (iV c) e0 (yY (ylss e0 rfl) (wK u ?_))
 have i : ∀ (b : Int) (f : FV) w, f 0 = iV c → f 2 = (pB h) → f 3 = .int .u64 b → St w0 ros (box h 27 [.bool false, hnil.v] :: rs) w → sparseref01_FromInt_j1 c b = some out → s .normal (fr 22 f) w := by
  intro b f w x j k a d
  refine t _ _ (sR fun _ y => Ym (iV c) (eh x) (yY (ylss e0 rfl) (Ym (.int .u64 b) (eh k) (yY (ycv (k' := .u32) (by kernel_rfl) (by kernel_rfl) e0) (Ym (.int .u64 b) (eh k) (yY (yshrc e0 rfl) (yY (ycv (k' := .u32) (by kernel_rfl) (by kernel_rfl) e0) (yH (rLt (n := 2) (l := [wc .u32 b, wc .u32 (wsrc .u64 b 32)]) a SL_25 [.int .u32 (wc .u32 b), .int .u32 (wc .u32 (wsrc .u64 b 32))] (bp2 e0 e0) rfl rfl (mks1 (cs := [.int .u32 (wc .u32 b)]) rfl mkI (mks1 (cs := [.int .u32 (wc .u32 (wsrc .u64 b 32))]) rfl mkI mks0))) fun B w a => bE d fun m z d => ?_))))))))
  replace a := a.fz
  refine yC (yCall FN_93 (a2 e0 e0)) (sparseref01_make1_ok z F0 a) ?_
  rintro _ w ⟨o, rfl, a⟩
  refine ⟨_, rfl, ?_⟩
  refine yT (r_stbn (vals' := [.bool m.1, o.v]) (us := [.bool m.1, o.v]) (a.k11) ST_27 (eh j) e0 rfl rfl (one_of rfl) rfl) fun w a => wK y (wp_ret ?_)
  cases d
  exact p _ _ _ (fin1r Tryz.results43 (rcs2 rfl j a R0 ST_27 rfl) ⟨_, rfl, ((a.k1n).facts (allT allI))⟩)
 refine cIf e0 d (fun A d => ?_) fun A d => ?_
 ·exact wR (Ym (iV c) e0 (yY (yadd e0 rfl) (yY (yneg e0) (yY (ycv (k' := .u64) (by kernel_rfl) (by kernel_rfl) e0) (yY (yadd e0 rfl) (Ya (.int .u64 (wa .u64 (wc .u64 (wneg .i64 (wa .i64 c 1))) 1)) e0 (wN (i _ _ _ rfl rfl rfl a d))))))))
 ·exact wp_skip (i _ _ _ rfl rfl rfl a d)
theorem sparseref07_Mod_ok {h b out : Int} (a : sparseref07_Mod h b = some out) (d : St w0 ros rs w) :
  Calls Tryz.prog 31 #[iV h, iV b] w (fun e w => e = .returned (iV out) ∧ St w0 ros rs w) := by
 refine enterQ Tryz.func31 rfl Tryz.ntmps31 rfl fun Q j => sR fun _ k => Ya (iV 0) rfl (wK k (sR fun _ l => Ym (iV h) e0 (Ym (iV b) e0 (bE a fun g m a => yY (yrem e0 e0 m) (Ya (iV g) e0 (wN ?_))))))
 refine l _ _ (sQ fun n o => sR fun _ p => Ym (iV g) e0 (yY (ylss e0 rfl) (wK p ?_)))
 have i : ∀ (c : Int) (f : FV) w, f 5 = iV c → St w0 ros rs w → sparseref07_Mod_j1 c = some out → n .normal (fr 15 f) w := by
  intro c f w q d a
  refine o _ _ (sR fun _ r => Ym (iV c) (eh q) (Ya (iV c) e0 (wK r (wp_ret ?_))))
  cases a
  exact j _ _ _ (fin1r Tryz.results31 ⟨rfl, rfl⟩ ⟨rfl, d⟩)
 refine cIf e0 a (fun s a => ?_) fun s a => ?_
 ·exact wR (Ym (iV g) e0 (Ym (iV b) e0 (yY (yadd e0 e0) (Ya (iV (wa .i64 g b)) e0 (wN (i _ _ _ rfl d a))))))
 ·exact wp_skip (i _ _ _ rfl d a)
theorem sparseref01_Norm_ok {b : Bool} {f : LI} {c : Hdr} {out : Bool × LI} (d : sparseref01_Norm b f = some out) (j : imm (rI .u32) c.v f ∈ ros) (a : St w0 ros rs w) :
  Calls Tryz.prog 91 #[.agg #[.bool b, c.v]] w (fun e w => ∃ (g : Hdr), e = .returned (.agg #[.bool out.1, g.v]) ∧ St w0 ros (row 88 (rI .u32) g.v out.2 :: rs) w) := by
 refine enterQ Tryz.func91 rfl Tryz.ntmps91 rfl fun Q k => sR fun _ l => yBb (r_box (vals := [.bool b, c.v]) a e0 rfl) fun o w a => yBb (rAl a ZT_27) fun p w a => wK l (sR fun _ m => yY (yFb FL_27_0 e0) (yY (lb_ (.bool b) O_4 e0 a R1) (yY (yFb FL_27_1 e0) ?_)))
 refine yY (lb_ c.v O_25 e0 a R1) (bE d fun h n d => yC (yCall FN_93 (a2 e0 e0)) (sparseref01_make1_ok n j a) ?_)
 rintro _ w ⟨i, rfl, a⟩
 refine ⟨_, rfl, ?_⟩
 refine yT (r_stbn (vals' := [.bool h.1, i.v]) (us := [.bool h.1, i.v]) (a.k11) ST_27 e0 e0 rfl rfl (one_of rfl) rfl) fun w a => wK m (wp_ret ?_)
 cases d
 exact k _ _ _ (fin1r Tryz.results91 (rcs2 rfl rfl a R0 ST_27 rfl) ⟨_, rfl, (a.k1r)⟩)
theorem sparseref01_cmpMag_ok {n z : LI} {h i : Hdr} {out : Int} (d : sparseref01_cmpMag n z = some out) (j : imm (rI .u32) h.v n ∈ ros) (k : imm (rI .u32) i.v z ∈ ros) (b : St w0 ros rs w) :
  Calls Tryz.prog 113 #[h.v, i.v] w (fun e w => e = .returned (iV out) ∧ St w0 ros rs w) := by
 refine enterQ Tryz.func113 rfl Tryz.ntmps113 rfl fun Q m => sR fun _ K => Ya (iV 0) rfl (wK K (seqQ fun b7 L A => sR fun _ N => Ym h.v e0 (yY (yLen SL_25 e0 b (rdI j)) (Ym i.v e0 (yY (yLen SL_25 e0 b (rdI k)) (yY (yneq e0 e0) ?_))))))
 refine wK N ?_
 rcases iteS d with ⟨o, d⟩ | ⟨o, d⟩
 ·refine condF e0 (nF (dT o)) (wp_skip (L _ _ (seqQ fun b8 O R => sR fun _ S => Ym h.v e0 (yY (yLen SL_25 e0 b (rdI j)) (yY (ysub e0 rfl) (Ya (iV (ws .i64 (n.length : Int) 1)) e0 (wK S (blockQ fun B C => bE d fun D T d => ?_))))))))
  have U : ∀ (f : FV) w, St w0 ros rs w → .inl () = D → B (.exit 0) (fr 41 f) w := by
   intro f w b ho
   subst ho
   refine C _ _ _ (O _ _ (sR fun _ V => Ya (iV 0) rfl (wK V (wp_ret ?_))))
   cases d
   exact m _ _ _ (fin1r Tryz.results113 ⟨rfl, rfl⟩ ⟨rfl, b⟩)
  have E : ∀ (p : Int) (f : FV) w, f 4 = iV p → St w0 ros rs w → .inr p = D → B .ret (fr 41 f) w := by
   intro p f w W b ho
   subst ho
   refine C _ _ _ (R _ _ _ rfl ?_)
   cases d
   exact m _ _ _ (fin1r Tryz.results113 ⟨rfl, W⟩ ⟨rfl, b⟩)
  refine loopQ (fun s a w => ∃ (g : Int) (f : FV), g = s ∧ a = fr 41 f ∧ f 0 = h.v ∧ f 1 = i.v ∧ f 5 = iV g ∧ St w0 ros rs w) T ⟨_, _, rfl, rfl, rfl, rfl, rfl, b⟩ ?_
  rintro _ _ w b9 ⟨g, f, rfl, rfl, q, r, l, b⟩ c t c0 X u
  refine seqQ fun c1 Z a0 => sR fun _ a1 => Ym (iV g) (eh l) (yY (ygeq e0 rfl) (wK a1 ?_))
  refine cIf e0 c (fun a2 c => ?_) fun a2 c => ?_
  ·refine wp_skip (Z _ _ (seqQ fun c2 a3 F => blockQ fun _ x => sQ fun _ a4 => bE c fun c3 G c => bE c fun c4 H c => dR [0, 0, 3, 7, 0, 0, 48, 112, 255] [] 0 folM ?_))
   replace b := b.drew
   refine Dz [0, 1, 2, 3, 4, 5, 6, 7, 8] [] (yR rfl (m_ h.v (eh q)) (yR rfl (m_ (iV g) (eh l)) (yR rfl (yIa SL_25 e0 e0 b (rdI j) G) (yR rfl (yI O_88 e0 b (rdI j) G) (yR rfl (m_ i.v (eh r)) (yR rfl (m_ (iV g) (eh l)) (yR rfl (yIa SL_25 e0 e0 b (rdI k) H) (yR rfl (yI O_88 e0 b (rdI k) H) (yR rfl (yneq e0 e0) (Rn QSn (a4 _ _ ?_)))))))))))
   rcases iteS c with ⟨y, c⟩ | ⟨y, c⟩
   ·refine condF e0 (nF (dT y)) (wp_skip (x _ _ _ (a3 _ _ (wR (Ym (iV g) (eh l) (yY (ysub e0 rfl) (Ya (iV (ws .i64 g 1)) e0 (wN ?_))))))))
    cases c
    exact X _ _ _ rfl ⟨_, _, rfl, rfl, q, r, rfl, b⟩
   ·refine condT e0 (nT (dF y)) (seqQ fun c6 a5 a6 => sQ fun _ a7 => bE c fun c7 I c => bE c fun c8 J c => dR [0, 0, 3, 7, 0, 0, 48, 112, 255] [] 0 folM ?_)
    replace b := b.drew
    refine Dz [0, 1, 2, 3, 4, 5, 6, 7, 8] [] (yR rfl (m_ h.v (eh q)) (yR rfl (m_ (iV g) (eh l)) (yR rfl (yIa SL_25 e0 e0 b (rdI j) I) (yR rfl (yI O_88 e0 b (rdI j) I) (yR rfl (m_ i.v (eh r)) (yR rfl (m_ (iV g) (eh l)) (yR rfl (yIa SL_25 e0 e0 b (rdI k) J) (yR rfl (yI O_88 e0 b (rdI k) J) (yR rfl (ylss e0 e0) (Rn QSn (a7 _ _ ?_)))))))))))
    refine cIf e0 c (fun a8 c => ?_) fun a8 c => ?_
    ·refine sR fun _ a9 => Ya (iV (-1)) rfl (wK a9 (wp_ret (a6 _ _ _ rfl (x _ _ _ (F _ _ _ rfl ?_)))))
     cases c
     exact u _ _ _ _ rfl rfl (E _ _ _ rfl b (t _ rfl))
    ·refine wp_skip (a5 _ _ (sR fun _ b0 => Ya (iV 1) rfl (wK b0 (wp_ret (x _ _ _ (F _ _ _ rfl ?_))))))
     cases c
     exact u _ _ _ _ rfl rfl (E _ _ _ rfl b (t _ rfl))
  ·refine wp_exit (a0 _ _ _ rfl ?_)
   cases c
   exact u _ _ _ _ rfl rfl (U _ _ b (t _ rfl))
 ·refine condT e0 (nT (dF o)) (seqQ fun c9 b1 b2 => sR fun _ b3 => Ym h.v e0 (yY (yLen SL_25 e0 b (rdI j)) (Ym i.v e0 (yY (yLen SL_25 e0 b (rdI k)) (yY (ylss e0 e0) (wK b3 ?_))))))
  refine cIf e0 d (fun b4 d => ?_) fun b4 d => ?_
  ·refine sR fun _ b5 => Ya (iV (-1)) rfl (wK b5 (wp_ret (b2 _ _ _ rfl (A _ _ _ rfl ?_))))
   cases d
   exact m _ _ _ (fin1r Tryz.results113 ⟨rfl, rfl⟩ ⟨rfl, b⟩)
  ·refine wp_skip (b1 _ _ (sR fun _ b6 => Ya (iV 1) rfl (wK b6 (wp_ret (A _ _ _ rfl ?_)))))
   cases d
   exact m _ _ _ (fin1r Tryz.results113 ⟨rfl, rfl⟩ ⟨rfl, b⟩)
theorem sparseref01_shl_ok {y : LI} {k : Int} {m : Hdr} {out : LI} (g : sparseref01_shl y k = some out) (q : imm (rI .u32) m.v y ∈ ros) (b : St w0 ros rs w) :
  Calls Tryz.prog 116 #[m.v, iV k] w (fun e w => ∃ (z : Hdr), e = .returned (z.v) ∧ St w0 ros (row 88 (rI .u32) z.v out :: rs) w) := by
 refine enterQ Tryz.func116 rfl Tryz.ntmps116 rfl fun Q E => sR fun _ F => Ya hnil.v rfl (wK F (sR fun _ G => Ym (iV k) e0 (yY (yquoc e0 rfl (by decide)) (bE g fun b4 H g => yH (rMk b SL_25 e0 H) fun I w b => Ya I.v e0 ?_))))
 refine wK G (sR fun _ J => Ya (.int .u64 0) rfl (wK J (sQ fun _ K => sR fun _ L => Ya (iV 0) rfl (wK L (blockQ fun N O => ?_)))))
 refine bE g fun R S g => ?_
 have T : ∀ (r : LI) (h : Int) (o : Hdr) (f : FV) w, f 5 = o.v → f 6 = .int .u64 h → St w0 ros (row 88 (rI .u32) o.v r :: rs) w → (r, h) = R → N (.exit 0) (fr 39 f) w := by
  intro r h o f w U V b ho
  subst ho
  refine O _ _ _ (K _ _ (sR fun _ W => Ym o.v (eh U) (Ym (.int .u64 h) (eh V) (yY (ycv (k' := .u32) (by kernel_rfl) (by kernel_rfl) e0) (yH (rLt (n := 1) (l := [wc .u32 h]) b SL_25 [.int .u32 (wc .u32 h)] (bp1 e0) rfl rfl (mks1 (cs := [.int .u32 (wc .u32 h)]) rfl mkI mks0)) fun b5 w b => bE g fun b6 X g => yH (rAp (b.k11) SL_25 e0 e0 rO1 X) fun Z w b => Ya Z.v e0 (wN ?_))))))
  refine W _ _ (wp_ret ?_)
  cases g
  exact E _ _ _ (fin1r Tryz.results116 ⟨rfl, rfl⟩ ⟨_, rfl, (b.k1g)⟩)
 refine loopQ (fun s a w => ∃ (t : LI) (c i : Int) (f : FV) (p : Hdr), (t, c, i) = s ∧ a = fr 39 f ∧ f 0 = m.v ∧ f 1 = iV k ∧ f 5 = p.v ∧ f 6 = .int .u64 c ∧ f 7 = iV i ∧ St w0 ros (row 88 (rI .u32) p.v t :: rs) w) S ⟨_, _, _, _, _, rfl, rfl, rfl, rfl, rfl, rfl, rfl, b⟩ ?_
 rintro _ _ w b7 ⟨t, c, i, f, p, rfl, rfl, u, A, B, C, x, b⟩ d a0 b8 a1 a2
 refine seqQ fun b9 a3 a4 => sR fun _ a5 => Ym (iV i) (eh x) (Ym m.v (eh u) (yY (yLen SL_25 e0 b (rdI q)) (yY (ylss e0 e0) (wK a5 ?_))))
 refine cIf e0 d (fun a6 d => ?_) fun a6 d => ?_
 ·refine wp_skip (a3 _ _ (sQ fun _ a7 => blockQ fun _ a8 => sR fun _ a9 => Ym (.int .u64 c) (eh C) (Ym m.v (eh u) (Ym (iV i) (eh x) (bE d fun c0 D d => yY (yIa SL_25 e0 e0 b (rdI q) D) (yY (yI O_88 e0 b (rdI q) D) (yY (ycv (k' := .u64) (by kernel_rfl) (by kernel_rfl) e0) (Ym (iV k) (eh A) ?_))))))))
  refine yY (yremc e0 rfl (by decide)) (bE d fun j b0 d => yY (yshl e0 e0 b0) (yY (yor e0 e0) (Ya (.int .u64 (wor .u64 c j)) e0 (wK a9 (sR fun _ b1 => Ym p.v (eh B) (Ym (.int .u64 (wor .u64 c j)) e0 (yY (ycv (k' := .u32) (by kernel_rfl) (by kernel_rfl) e0) (yH (rLt (n := 1) (l := [wc .u32 (wor .u64 c j)]) b SL_25 [.int .u32 (wc .u32 (wor .u64 c j))] (bp1 e0) rfl rfl (mks1 (cs := [.int .u32 (wc .u32 (wor .u64 c j))]) rfl mkI mks0)) fun c1 w b => ?_))))))))
  refine bE d fun c2 b2 d => yH (rAp (b.k11) SL_25 e0 e0 rO1 b2) fun b3 w b => Ya b3.v e0 (wK b1 (wR (Ym (.int .u64 (wor .u64 c j)) e0 (yY (yshrc e0 rfl) (Ya (.int .u64 (wsrc .u64 (wor .u64 c j) 32)) e0 (wN (a8 _ _ _ (a7 _ _ (wR ?_)))))))))
  refine Ym (iV i) (eh x) (yY (yadd e0 rfl) (Ya (iV (wa .i64 i 1)) e0 (wN ?_)))
  cases d
  exact a1 _ _ _ rfl ⟨_, _, _, _, _, rfl, rfl, u, A, rfl, rfl, rfl, (b.k1g)⟩
 ·refine wp_exit (a4 _ _ _ rfl ?_)
  cases d
  exact a2 _ _ _ _ rfl rfl (T _ _ _ _ _ B C b (a0 _ rfl))
theorem sparseref01_take_ok {p h : LI} {m q : Int} {d r : Hdr} {out : LI × Bool} (c : sparseref01_take p h m q = some out) (D : imm (rI .u32) r.v h ∈ ros) (b : St w0 ros (row 88 (rI .u32) d.v p :: rs) w) :
  Calls Tryz.prog 138 #[d.v, r.v, iV m, .int .u64 q] w (fun e w => e = .returned (.bool out.2) ∧ St w0 ros (row 88 (rI .u32) d.v out.1 :: rs) w) := by
 refine enterQ Tryz.func138 rfl Tryz.ntmps138 rfl fun Q R => sR fun _ a8 => Ya (.bool false) rfl (wK a8 (sR fun _ a9 => Ym r.v e0 (yY (yLen SL_25 e0 b (rdI D)) (Ya (iV (h.length : Int)) e0 (wK a9 (sQ fun _ b0 => ?_))))))
 refine wR (Ym (iV (h.length : Int)) e0 (yY (yadd e0 rfl) (bE c fun h0 b1 c => yH (rMk b SL_25 e0 b1) fun i w b => Ya i.v e0 (wK b0 (sR fun _ b2 => Ya (.int .u64 0) rfl (Ya (.int .u64 0) rfl (wN ?_)))))))
 refine b2 _ _ (sQ fun _ b3 => sR fun _ b4 => Ya (iV 0) rfl (wK b4 (blockQ fun b5 b6 => bE c fun b7 b8 c => ?_)))
 have b9 : ∀ (A : LI) (B : Int) (f : FV) w, f 0 = d.v → f 2 = iV m → f 9 = iV (h.length : Int) → f 10 = i.v → f 11 = .int .u64 B → St w0 ros (row 88 (rI .u32) d.v p :: row 88 (rI .u32) i.v A :: rs) w → (A, B) = b7 → b5 (.exit 0) (fr 75 f) w := by
  intro A B f w c0 c1 c2 c3 c4 b ho
  subst ho
  refine b6 _ _ _ (b3 _ _ (seqQ fun h1 c5 c6 => sR fun _ c7 => Ym (.int .u64 B) (eh c4) (yY (yneq e0 rfl) (wK c7 ?_))))
  rcases iteS c with ⟨E, c⟩ | ⟨E, c⟩
  ·refine condF e0 (nF (dT E)) (wp_skip (c5 _ _ (sQ fun _ c8 => sR fun _ c9 => Ya (iV 0) rfl (wK c9 (blockQ fun d0 d1 => bE c fun d2 d3 c => ?_)))))
   have d4 : ∀ (F : LI) (f : FV) w, St w0 ros (row 88 (rI .u32) d.v F :: rs) w → F = d2 → d0 (.exit 2) (fr 75 f) w := by
    intro F f w b ho
    subst ho
    refine d1 _ _ _ (c8 _ _ (sR fun _ d5 => Ya (.bool true) rfl (wK d5 (wp_ret ?_))))
    cases c
    exact R _ _ _ (fin1r Tryz.results138 ⟨rfl, rfl⟩ ⟨rfl, b⟩)
   refine loopQ (fun s a w => ∃ (G : LI) (o : Int) (f : FV), (G, o) = s ∧ a = fr 75 f ∧ f 0 = d.v ∧ f 2 = iV m ∧ f 9 = iV (h.length : Int) ∧ f 10 = i.v ∧ f 15 = iV o ∧ St w0 ros (row 88 (rI .u32) d.v G :: row 88 (rI .u32) i.v A :: rs) w) d3 ⟨_, _, _, rfl, rfl, c0, c1, c2, c3, rfl, b⟩ ?_
   rintro _ _ w h3 ⟨G, o, f, rfl, rfl, S, T, U, V, C, b⟩ n d6 h5 d7 d8
   refine seqQ fun h6 d9 e1 => sR fun _ e2 => Ym (iV o) (eh C) (Ym (iV (h.length : Int)) (eh U) (yY (yleq e0 e0) (wK e2 ?_)))
   refine cIf e0 n (fun e3 n => ?_) fun e3 n => ?_
   ·refine wp_skip (d9 _ _ (sQ fun _ e4 => blockQ fun _ e5 => wR (Ym d.v (eh S) (Ym (iV o) (eh C) (Ym (iV m) (eh T) (yY (yadd e0 e0) (Ym i.v (eh V) (Ym (iV o) (eh C) (bE n fun e6 W n => yY (yIa SL_25 e0 e0 b rO1 W) (yY (yI O_88 e0 b rO1 W) ?_))))))))))
    refine bE n fun h8 X n => yY (yIs SL_25 e0 e0 b rO0 X) (yT (r_sti (cs := [.int .u32 e6]) b O_88 rfl e0 e0 rfl mkI X) fun w b => wN (e5 _ _ _ (e4 _ _ (wR (Ym (iV o) (eh C) (yY (yadd e0 rfl) (Ya (iV (wa .i64 o 1)) e0 (wN ?_))))))))
    cases n
    exact d7 _ _ _ rfl ⟨_, _, _, rfl, rfl, S, T, U, V, rfl, b⟩
   ·refine wp_exit (e1 _ _ _ rfl ?_)
    cases n
    exact d8 _ _ _ _ rfl rfl (d4 _ _ _ (b.k1g) (d6 _ rfl))
  ·refine condT e0 (nT (dF E)) (sR fun _ e7 => Ya (.bool false) rfl (wK e7 (wp_ret (c6 _ _ _ rfl ?_))))
   cases c
   exact R _ _ _ (fin1r Tryz.results138 ⟨rfl, rfl⟩ ⟨rfl, (b.k1g)⟩)
 refine loopQ (fun s a w => ∃ (t : LI) (j u g : Int) (f : FV), (t, j, u, g) = s ∧ a = fr 75 f ∧ f 0 = d.v ∧ f 1 = r.v ∧ f 2 = iV m ∧ f 3 = .int .u64 q ∧ f 9 = iV (h.length : Int) ∧ f 10 = i.v ∧ f 11 = .int .u64 j ∧ f 12 = .int .u64 u ∧ f 13 = iV g ∧ St w0 ros (row 88 (rI .u32) d.v p :: row 88 (rI .u32) i.v t :: rs) w) b8 ⟨_, _, _, _, _, rfl, rfl, rfl, rfl, rfl, rfl, rfl, rfl, rfl, rfl, rfl, (b.k11)⟩ ?_
 rintro _ _ w e8 ⟨t, j, u, g, f, rfl, rfl, H, I, J, K, x, L, N, Z, y, b⟩ k e9 h9 f0 f1
 refine seqQ fun i0 f2 f3 => sR fun _ f4 => Ym (iV g) (eh y) (Ym (iV (h.length : Int)) (eh x) (yY (yleq e0 e0) (wK f4 ?_)))
 refine cIf e0 k (fun f5 k => ?_) fun f5 k => ?_
 ·refine wp_skip (f2 _ _ (sQ fun _ f6 => blockQ fun _ f7 => sQ fun f8 f9 => sR fun _ g0 => Ym (iV g) (eh y) (Ym (iV (h.length : Int)) (eh x) (yY (ylss e0 e0) (wK g0 ?_)))))
  have a0 : ∀ (l : Int) (f : FV) w, f 0 = d.v → f 1 = r.v → f 2 = iV m → f 3 = .int .u64 q → f 9 = iV (h.length : Int) → f 10 = i.v → f 11 = .int .u64 j → f 12 = .int .u64 l → f 13 = iV g → St w0 ros (row 88 (rI .u32) d.v p :: row 88 (rI .u32) i.v t :: rs) w → sparseref01_take_j5 p g m t j l = some e8 → f8 .normal (fr 75 f) w := by
   intro l f w a1 g1 a2 g2 g3 a3 g4 a4 O b c
   refine f9 _ _ (sR fun _ g5 => Ym d.v (eh a1) (Ym (iV g) (eh O) (Ym (iV m) (eh a2) (yY (yadd e0 e0) (bE c fun z a5 c => yY (yIa SL_25 e0 e0 b rO0 a5) (yY (yI O_88 e0 b rO0 a5) (yY (ycv (k' := .u64) (by kernel_rfl) (by kernel_rfl) e0) (Ym (.int .u64 j) (eh g4) (yY (ysub e0 e0) (Ym (.int .u64 l) (eh a4) ?_))))))))))
   refine yY (yand e0 rfl) (yY (ysub e0 e0) (Ya (.int .u64 (ws .u64 (ws .u64 (wc .u64 z) j) (wand .u64 l 4294967295))) e0 (wK g5 (sR fun _ g6 => Ym (.int .u64 l) (eh a4) (yY (yshrc e0 rfl) (Ya (.int .u64 (wsrc .u64 l 32)) e0 (wK g6 (sR fun _ g7 => ?_))))))))
   refine Ym i.v (eh a3) (Ym (iV g) (eh O) (Ym (.int .u64 (ws .u64 (ws .u64 (wc .u64 z) j) (wand .u64 l 4294967295))) e0 (yY (ycv (k' := .u32) (by kernel_rfl) (by kernel_rfl) e0) (bE c fun i1 a6 c => yY (yIs SL_25 e0 e0 b rO1 a6) (yT (r_sti (cs := [.int .u32 (wc .u32 (ws .u64 (ws .u64 (wc .u64 z) j) (wand .u64 l 4294967295)))]) (b.k11) O_88 rfl e0 e0 rfl mkI a6) fun w b => wK g7 (wR (Ym (.int .u64 (ws .u64 (ws .u64 (wc .u64 z) j) (wand .u64 l 4294967295))) e0 (yY (yshrc e0 rfl) (Ya (.int .u64 (wsrc .u64 (ws .u64 (ws .u64 (wc .u64 z) j) (wand .u64 l 4294967295)) 63)) e0 ?_)))))))))
   refine wN (f7 _ _ _ (f6 _ _ (wR (Ym (iV g) (eh O) (yY (yadd e0 rfl) (Ya (iV (wa .i64 g 1)) e0 (wN ?_)))))))
   cases c
   exact f0 _ _ _ rfl ⟨_, _, _, _, _, rfl, rfl, a1, g1, a2, g2, g3, a3, rfl, rfl, rfl, (b.k11)⟩
  refine cIf e0 k (fun g8 k => ?_) fun g8 k => ?_
  ·exact wR (Ym (.int .u64 u) (eh Z) (Ym (.int .u64 q) (eh K) (Ym r.v (eh I) (Ym (iV g) (eh y) (bE k fun g9 a7 k => yY (yIa SL_25 e0 e0 b (rdI D) a7) (yY (yI O_88 e0 b (rdI D) a7) (yY (ycv (k' := .u64) (by kernel_rfl) (by kernel_rfl) e0) (yY (ymul e0 e0) (yY (yadd e0 e0) (Ya (.int .u64 (wa .u64 u (wm .u64 q (wc .u64 g9)))) e0 (wN (a0 _ _ _ H I J K x L N rfl y b k))))))))))))
  ·exact wp_skip (a0 _ _ _ H I J K x L N Z y b k)
 ·refine wp_exit (f3 _ _ _ rfl ?_)
  cases k
  exact f1 _ _ _ _ rfl rfl (b9 _ _ _ _ H J x L N b (e9 _ rfl))
theorem sparseref01_shr_ok {D : LI} {c : Int} {i : Hdr} {out : LI × Bool} (g : sparseref01_shr D c = some out) (p : imm (rI .u32) i.v D ∈ ros) (b : St w0 ros rs w) :
  Calls Tryz.prog 117 #[i.v, iV c] w (fun e w => ∃ (a3 : Hdr), e = .returned (.tuple #[a3.v, .bool out.2]) ∧ St w0 ros (row 88 (rI .u32) a3.v out.1 :: rs) w) := by
 refine enterQ Tryz.func117 rfl Tryz.ntmps117 rfl fun Q c9 => sR fun _ d0 => Ya hnil.v rfl (Ya (.bool false) rfl (wK d0 (sR fun _ d1 => Ya (.bool false) rfl (wK d1 (sQ fun _ d2 => sQ fun _ d3 => ?_)))))
 refine wR (Ya (iV 0) rfl (wK d3 (blockQ fun d4 d5 => bE g fun d6 d7 g => ?_)))
 have d8 : ∀ (K : Bool) (f : FV) w, f 0 = i.v → f 1 = iV c → f 6 = .bool K → St w0 ros rs w → K = d6 → d4 (.exit 0) (fr 85 f) w := by
  intro K f w d9 L e1 b ho
  subst ho
  refine d5 _ _ _ (d2 _ _ (sR fun _ e2 => Ya hnil.v rfl (wK e2 (sR fun _ e3 => Ym (iV c) (eh L) (yY (yremc e0 rfl (by decide)) (Ya (iV (wrc c 32)) e0 (wK e3 ?_)))))))
  refine sQ fun _ e4 => sR fun _ e5 => Ym (iV c) (eh L) (yY (yquoc e0 rfl (by decide)) (Ya (iV (wqc .i64 c 32)) e0 (wK e5 (blockQ fun e6 e7 => bE g fun e8 e9 g => ?_))))
  have f0 : ∀ (E : Bool) (N : LI) (F : Hdr) (f : FV) w, f 6 = .bool E → f 8 = F.v → St w0 ros (row 88 (rI .u32) F.v N :: rs) w → (E, N) = e8 → e6 (.exit 2) (fr 85 f) w := by
   intro E N F f w f1 f2 b ho
   subst ho
   refine e7 _ _ _ (e4 _ _ (sR fun _ f3 => Ym F.v (eh f2) (Ym (.bool E) (eh f1) (Ya F.v e0 (Ya (.bool E) e0 (wK f3 (wp_ret ?_)))))))
   cases g
   exact c9 _ _ _ (fin2r Tryz.results117 ⟨rfl, rfl⟩ ⟨rfl, rfl⟩ ⟨_, rfl, b⟩)
  replace b := b.rowNh 88 (rI .u32)
  refine loopQ (fun s a w => ∃ (z : Bool) (t : LI) (h : Int) (f : FV) (q : Hdr), (z, t, h) = s ∧ a = fr 85 f ∧ f 0 = i.v ∧ f 1 = iV c ∧ f 6 = .bool z ∧ f 8 = q.v ∧ f 9 = iV (wrc c 32) ∧ f 10 = iV h ∧ St w0 ros (row 88 (rI .u32) q.v t :: rs) w) e9 ⟨_, _, _, _, _, rfl, rfl, d9, L, e1, rfl, rfl, rfl, b⟩ ?_
  rintro _ _ w a4 ⟨z, t, h, f, q, rfl, rfl, A, a5, O, R, a6, B, b⟩ k f4 k7 f5 f6
  refine seqQ fun k8 f7 f8 => sR fun _ f9 => Ym (iV h) (eh B) (Ym i.v (eh A) (yY (yLen SL_25 e0 b (rdI p)) (yY (ylss e0 e0) (wK f9 ?_))))
  refine cIf e0 k (fun g0 k => ?_) fun g0 k => ?_
  ·refine wp_skip (f7 _ _ (sQ fun _ g1 => blockQ fun _ g2 => sR fun _ g3 => Ym i.v (eh A) (Ym (iV h) (eh B) (bE k fun S a7 k => yY (yIa SL_25 e0 e0 b (rdI p) a7) (yY (yI O_88 e0 b (rdI p) a7) (yY (ycv (k' := .u64) (by kernel_rfl) (by kernel_rfl) e0) (Ya (.int .u64 (wc .u64 S)) e0 (wN ?_))))))))
   refine g3 _ _ (sQ fun g4 g5 => sR fun _ g6 => Ym (iV h) (eh B) (yY (yadd e0 rfl) (Ym i.v (eh A) (yY (yLen SL_25 e0 b (rdI p)) (yY (ylss e0 e0) (wK g6 ?_))))))
   have a8 : ∀ (u : Int) (f : FV) w, f 0 = i.v → f 1 = iV c → f 6 = .bool z → f 8 = q.v → f 9 = iV (wrc c 32) → f 10 = iV h → f 11 = .int .u64 u → St w0 ros (row 88 (rI .u32) q.v t :: rs) w → sparseref01_shr_j16 h c D t z u = some a4 → g4 .normal (fr 85 f) w := by
    intro u f w T H a9 b0 U G b1 b g
    refine g5 _ _ (sQ fun g7 g8 => sQ fun _ g9 => bE g fun V r g => ?_)
    refine joinN (n := 85) (fun f w => f 0 = i.v ∧ f 1 = iV c ∧ f 6 = .bool z ∧ f 8 = q.v ∧ f 9 = iV (wrc c 32) ∧ f 10 = iV h ∧ f 11 = .int .u64 u ∧ f 75 = .bool V ∧ St w0 ros (row 88 (rI .u32) q.v t :: rs) w) (fun b2 => ?_) ?_
    ·rcases iteS r with ⟨d, r⟩ | ⟨d, r⟩
     ·refine bE r fun k9 b3 r => bE r fun l0 h0 r => ?_
      have h1 := someI r
      refine dR [0, 0, 2, 7, 15, 31, 31, 127, 255, 31, 543, 1567, 4095, 8191, 16383] [] 0 folM ?_
      replace b := b.drew
      refine Dz [0, 1, 2, 3, 4, 5, 6, 7, 8, 9, 10, 11, 12, 13, 14] [] (yR rfl (m_ (iV h) (eh G)) (yR rfl (m_ (iV c) (eh H)) (yR rfl (yquoc e0 rfl (by decide)) (yR rfl (yeql e0 e0) (yR rfl (m_ (.bool (decide (h = (wqc .i64 c 32)))) e0) (Ry rfl rfl (wG (dT d)) (m_ i.v (eh T)) (Ry rfl rfl (wG (dT d)) (m_ (iV h) (eh G)) (Ry rfl rfl (wG (dT d)) (yIa SL_25 e0 e0 b (rdI p) b3) (Ry rfl rfl (wG (dT d)) (yI O_88 e0 b (rdI p) b3) (Ry rfl rfl (wG (dT d)) (m_ (iV (wrc c 32)) (eh U)) (Ry rfl rfl (wG (dT d)) (yshl rfl e0 h0) (Ry rfl rfl (wG (dT d)) (ysub e0 rfl) (Ry rfl rfl (wG (dT d)) (yand e0 e0) ?_)))))))))))))
      exact Ry rfl rfl (wG (dT d)) (yneq e0 rfl) (yR rfl (pt_ (.bool V) e0 (dT d) (eqv h1 e0)) (Rn QSn (b2 _ _ ⟨T, H, a9, b0, U, G, b1, rfl, b⟩)))
     ·have h3 := someI r
      refine dR [0, 0, 2, 7, 15, 31, 31, 127, 255, 31, 543, 1567, 4095, 8191, 16383] [] 0 folM ?_
      replace b := b.drew
      refine Dz [0, 1, 2, 3, 4, 5, 6, 7, 8, 9, 10, 11, 12, 13, 14] [] (yR rfl (m_ (iV h) (eh G)) (yR rfl (m_ (iV c) (eh H)) (yR rfl (yquoc e0 rfl (by decide)) (yR rfl (yeql e0 e0) (yR rfl (m_ (.bool (decide (h = (wqc .i64 c 32)))) e0) (Rx rfl rfl (wX (dF d)) (Rx rfl rfl (wX (dF d)) (Rx rfl rfl (wX (dF d)) (Rx rfl rfl (wX (dF d)) (Rx rfl rfl (wX (dF d)) (Rx rfl rfl (wX (dF d)) (Rx rfl rfl (wX (dF d)) (Rx rfl rfl (wX (dF d)) ?_)))))))))))))
      exact Rx rfl rfl (wX (dF d)) (yR rfl (pf_ (.bool V) e0 (dF d) (eqv h3 rfl)) (Rn QSn (b2 _ _ ⟨T, H, a9, b0, U, G, b1, rfl, b⟩)))
    rintro f w ⟨b4, b5, h4, b6, b7, b8, b9, h5, b⟩
    refine g9 _ _ ?_
    have c0 : ∀ (W : Bool) (f : FV) w, f 0 = i.v → f 1 = iV c → f 6 = .bool W → f 8 = q.v → f 9 = iV (wrc c 32) → f 10 = iV h → f 11 = .int .u64 u → St w0 ros (row 88 (rI .u32) q.v t :: rs) w → sparseref01_shr_j20 u c t h W = some a4 → g7 .normal (fr 85 f) w := by
     intro W f w h6 h7 h8 h9 c1 i0 i1 b g
     refine g8 _ _ (wR (Ym q.v (eh h9) (Ym (.int .u64 u) (eh i1) (Ym (iV (wrc c 32)) (eh c1) (bE g fun X i2 g => yY (yshr e0 e0 i2) (yY (ycv (k' := .u32) (by kernel_rfl) (by kernel_rfl) e0) (yH (rLt (n := 1) (l := [wc .u32 X]) b SL_25 [.int .u32 (wc .u32 X)] (bp1 e0) rfl rfl (mks1 (cs := [.int .u32 (wc .u32 X)]) rfl mkI mks0)) fun l1 w b => bE g fun l2 i3 g => yH (rAp (b.k11) SL_25 e0 e0 rO1 i3) fun i4 w b => Ya i4.v e0 ?_)))))))
     refine wN (g2 _ _ _ (g1 _ _ (wR (Ym (iV h) (eh i0) (yY (yadd e0 rfl) (Ya (iV (wa .i64 h 1)) e0 (wN ?_)))))))
     cases g
     exact f5 _ _ _ rfl ⟨_, _, _, _, _, rfl, rfl, h6, h7, h8, rfl, c1, rfl, (b.k1g)⟩
    refine cB (eh h5) g (fun i5 g => ?_) fun i5 g => ?_
    ·exact wR (Ya (.bool true) rfl (wN (c0 _ _ _ b4 b5 rfl b6 b7 b8 b9 b g)))
    ·exact wp_skip (c0 _ _ _ b4 b5 h4 b6 b7 b8 b9 b g)
   refine cIf e0 k (fun i6 k => ?_) fun i6 k => ?_
   ·exact wR (Ym (.int .u64 (wc .u64 S)) e0 (Ym i.v (eh A) (Ym (iV h) (eh B) (yY (yadd e0 rfl) (bE k fun i7 c2 k => yY (yIa SL_25 e0 e0 b (rdI p) c2) (yY (yI O_88 e0 b (rdI p) c2) (yY (ycv (k' := .u64) (by kernel_rfl) (by kernel_rfl) e0) (yY (yshlc e0 rfl) (yY (yor e0 e0) (Ya (.int .u64 (wor .u64 (wc .u64 S) (wslc .u64 (wc .u64 i7) 32))) e0 (wN (a8 _ _ _ A a5 O R a6 B rfl b k))))))))))))
   ·exact wp_skip (a8 _ _ _ A a5 O R a6 B rfl b k)
  ·refine wp_exit (f8 _ _ _ rfl ?_)
   cases k
   exact f6 _ _ _ _ rfl rfl (f0 _ _ _ _ _ O R b (f4 _ rfl))
 refine loopQ (fun s a w => ∃ (C : Bool) (j : Int) (f : FV), (C, j) = s ∧ a = fr 85 f ∧ f 0 = i.v ∧ f 1 = iV c ∧ f 6 = .bool C ∧ f 7 = iV j ∧ St w0 ros rs w) d7 ⟨_, _, _, rfl, rfl, rfl, rfl, rfl, rfl, b⟩ ?_
 rintro _ _ w l3 ⟨C, j, f, rfl, rfl, Z, a0, c3, I, b⟩ x i8 l4 i9 j0
 refine seqQ fun l5 j1 j2 => sR fun _ j3 => Ym (iV j) (eh I) (Ym (iV c) (eh a0) (yY (yquoc e0 rfl (by decide)) (yY (ylss e0 e0) (Ym (.bool (decide (j < (wqc .i64 c 32)))) e0 ?_))))
 refine joinW 5 (fun f w => f 0 = i.v ∧ f 1 = iV c ∧ f 6 = .bool C ∧ f 7 = iV j ∧ f 21 = .bool ((decide (j < (wqc .i64 c 32))) && (decide (j < (D.length : Int)))) ∧ St w0 ros rs w) (fun c4 => ?_) ?_
 ·rcases Bool.eq_false_or_eq_true (decide (j < (wqc .i64 c 32))) with m | m
  ·exact yG m (m_ (iV j) (eh I)) (yG m (m_ i.v (eh Z)) (yG m (yLen SL_25 e0 b (rdI p)) (yG m (ylss e0 e0) (yY (pt_ (.bool (decide (j < (D.length : Int)))) e0 m e0) (c4 _ _ ⟨Z, a0, c3, I, (congrArg Value.bool (andT m)), b⟩)))))
  ·exact gN m (gN m (gN m (gN m (yY (pf_ (.bool false) e0 m rfl) (c4 _ _ ⟨Z, a0, c3, I, (congrArg Value.bool (andF m)), b⟩)))))
 rintro f w ⟨J, a1, c5, a2, j4, b⟩
 refine wK j3 (cB (eh j4) x (fun j5 x => ?_) fun j5 x => ?_)
 ·refine wp_skip (j1 _ _ (sQ fun _ j6 => blockQ fun _ j7 => wR (Ym (.bool C) (eh c5) (Ym (.bool C) e0 (bE x fun c6 y x => ?_)))))
  refine joinW 6 (fun f w => f 0 = i.v ∧ f 1 = iV c ∧ f 7 = iV j ∧ f 31 = .bool c6 ∧ St w0 ros rs w) (fun c7 => ?_) ?_
  ·rcases iteS y with ⟨o, y⟩ | ⟨o, y⟩
   ·refine gN o (gN o (gN o (gN o (gN o (yY (pt_ (.bool true) e0 o rfl) ?_)))))
    cases y
    exact c7 _ _ ⟨J, a1, a2, rfl, b⟩
   ·refine yG (bfalse o) (m_ i.v (eh J)) (yG (bfalse o) (m_ (iV j) (eh a2)) (bE y fun j8 c8 y => yG (bfalse o) (yIa SL_25 e0 e0 b (rdI p) c8) (yG (bfalse o) (yI O_88 e0 b (rdI p) c8) (yG (bfalse o) (yneq e0 rfl) (yY (pf_ (.bool (!(decide (j8 = 0)))) e0 (bfalse o) e0) ?_)))))
    cases y
    exact c7 _ _ ⟨J, a1, a2, rfl, b⟩
  rintro f w ⟨j9, k0, k5, k6, b⟩
  refine Ya (.bool c6) (eh k6) (wN (j7 _ _ _ (j6 _ _ (wR (Ym (iV j) (eh k5) (yY (yadd e0 rfl) (Ya (iV (wa .i64 j 1)) e0 (wN ?_))))))))
  cases x
  exact i9 _ _ _ rfl ⟨_, _, _, rfl, rfl, j9, k0, rfl, rfl, b⟩
 ·refine wp_exit (j2 _ _ _ rfl ?_)
  cases x
  exact j0 _ _ _ _ rfl rfl (d8 _ _ _ J a1 c5 b (i8 _ rfl))
theorem sparseref01_divMag_ok {A d : LI} {o p : Hdr} {out : LI × LI} (c : sparseref01_divMag A d = some out) (r : imm (rI .u32) o.v A ∈ ros) (u : imm (rI .u32) p.v d ∈ ros) (b : St w0 ros rs w) :
  Calls Tryz.prog 118 #[o.v, p.v] w (fun e w => ∃ (X Z : Hdr), e = .returned (.tuple #[X.v, Z.v]) ∧ St w0 (imm (rI .u32) Z.v out.2 :: ros) (row 88 (rI .u32) X.v out.1 :: rs) w) := by
 refine enterQ Tryz.func118 rfl Tryz.ntmps118 rfl fun Q a0 => sR fun _ k1 => Ya hnil.v rfl (Ya hnil.v rfl (wK k1 (seqQ fun j9 c1 c2 => sR fun _ c3 => Ym o.v e0 (Ym p.v e0 (bE c fun k0 c4 c => yC (yCall FN_113 (a2 e0 e0)) (sparseref01_cmpMag_ok c4 r u b) ?_)))))
 rintro _ w ⟨rfl, b⟩
 refine ⟨_, rfl, ?_⟩
 refine yY (ylss e0 rfl) (wK c3 ?_)
 refine cIf e0 c (fun c5 c => ?_) fun c5 c => ?_
 ·refine sR fun _ c7 => Ym o.v e0 (Ya hnil.v rfl (Ya o.v e0 (wK c7 (wp_ret (c2 _ _ _ rfl ?_)))))
  cases c
  replace b := b.rowNh 88 (rI .u32)
  exact a0 _ _ _ (fin2r Tryz.results118 ⟨rfl, rfl⟩ ⟨rfl, rfl⟩ ⟨_, _, rfl, (b.facts (allC r allI))⟩)
 ·refine wp_skip (c1 _ _ (sR fun _ c8 => Ym p.v e0 (yY (yLen SL_25 e0 b (rdI u)) (Ya (iV (d.length : Int)) e0 (wK c8 (sR fun _ c9 => Ym p.v e0 (Ym (iV (d.length : Int)) e0 (yY (ysub e0 rfl) ?_))))))))
  refine bE c fun l0 a3 c => yY (yIa SL_25 e0 e0 b (rdI u) a3) (yY (yI O_88 e0 b (rdI u) a3) (bE c fun j d0 c => yC (yCall FN_137 (a1 e0)) (math_bits_LeadingZeros32_ok d0 b) ?_))
  rintro _ w ⟨rfl, b⟩
  refine ⟨_, rfl, ?_⟩
  refine Ya (iV j) e0 (wK c9 (sQ fun _ d1 => bE c fun l1 d2 c => bE c fun l2 d3 c => bE c fun x F c => dR [0, 0, 3, 0, 0, 31, 0, 127, 63, 511] [2, 5, 8, 9] 4 folM ?_))
  replace b := b.drew
  refine Dn [0, 1, 3, 4, 6] [] [2] (yR rfl (m_ o.v e0) (yR rfl (m_ (iV j) e0) (yR rfl (m_ p.v e0) (yR rfl (m_ (iV j) e0) (yR rfl (m_ (iV (d.length : Int)) e0) (Rn QSn ?_))))))
  refine Lc1 rfl ?_
  refine Lk wn (yCall FN_116 (a2 e0 e0)) (sparseref01_shl_ok d2 r b) ?_
  rintro _ w ⟨G, rfl, b⟩
  refine ⟨_, rfl, ?_⟩
  refine Dn [] [3, 4, 6] [5] (Rn (yS rfl (m_ p.v e0) (yS rfl (m_ (iV j) e0) (yS rfl (m_ (iV (d.length : Int)) e0) QSn))) ?_)
  refine Lc1 rfl ?_
  refine Lk wn (yCall FN_116 (a2 e0 e0)) (sparseref01_shl_ok d3 u b) ?_
  rintro _ w ⟨k, rfl, b⟩
  refine ⟨_, rfl, ?_⟩
  refine Dn [7] [6] [8] ?_
  replace b := b.fz
  refine yR rfl (ySl (k1 := .i64) SL_25 e0 b (rdI F0) (.inr ⟨rfl, rfl⟩) (.inl (congrArg some e0)) F) ?_
  replace b := b.sub F0 F
  refine Rn (yS rfl (m_ (iV (d.length : Int)) e0) QSn) ?_
  refine Lc1 rfl ?_
  refine Ly wn (a_ G.v e0) (Dn [] [6, 7] [9] (Rn (yS rfl (m_ (iV (d.length : Int)) e0) (yS rfl (ySl (k1 := .i64) SL_25 e0 b (rdI F1) (.inr ⟨rfl, rfl⟩) (.inl (congrArg some e0)) F) QSn)) ?_))
  refine Lc1 rfl ?_
  refine Ly wn (a_ ((subH k 1 0 (d.length : Int)).v) e0) (Dz [] [] (Rn QSn (d1 _ _ (sQ fun d4 d5 => sR fun _ d6 => Ym G.v e0 (yY (yLen SL_25 e0 b rO0) (Ym o.v e0 (yY (yLen SL_25 e0 b (rdI (F_2 r))) (yY (yeql e0 e0) (wK d6 ?_)))))))))
  have a5 : ∀ (H : LI) (h : Hdr) (f : FV) w, f 0 = o.v → f 6 = iV (d.length : Int) → f 7 = iV j → f 8 = h.v → f 9 = (subH k 1 0 (d.length : Int)).v → St w0 (imm (rI .u32) (subH k 1 0 (d.length : Int)).v x :: ros) (row 88 (rI .u32) h.v H :: rs) w → sparseref01_divMag_j1 A d x j H = some out → d4 .normal (fr 109 f) w := by
   intro H h f w a6 I d7 d8 d9 b c
   refine d5 _ _ (sR fun _ e1 => Ym o.v (eh a6) (yY (yLen SL_25 e0 b (rdI (mtF r))) (Ym (iV (d.length : Int)) (eh I) (yY (ysub e0 e0) (yY (yadd e0 rfl) (bE c fun l3 e2 c => yH (rMk b SL_25 e0 e2) fun m w b => Ya m.v e0 (wK e1 ?_)))))))
   refine sQ fun _ e3 => sR fun _ e4 => Ym o.v (eh a6) (yY (yLen SL_25 e0 b (rdI (mtF r))) (Ym (iV (d.length : Int)) (eh I) (yY (ysub e0 e0) (Ya (iV (ws .i64 (A.length : Int) (d.length : Int))) e0 (wK e4 (blockQ fun e5 e6 => bE c fun e7 e8 c => ?_))))))
   have e9 : ∀ (J K : LI) (f : FV) w, f 7 = iV j → f 8 = h.v → f 10 = m.v → St w0 ros (row 88 (rI .u32) h.v J :: row 88 (rI .u32) m.v K :: rs) w → (J, K) = e7 → e5 (.exit 0) (fr 109 f) w := by
    intro J K f w f0 f1 f2 b ho
    subst ho
    refine e6 _ _ _ (e3 _ _ (sR fun _ f3 => Ym h.v (eh f1) (bE c fun l4 f4 c => ?_)))
    replace b := b.fz
    refine yC (yCall FN_111 (a1 e0)) (sparseref01_trim_ok f4 F0 b) ?_
    rintro _ w ⟨l5, rfl, b⟩
    refine ⟨_, rfl, ?_⟩
    refine Ym (iV j) (eh f0) (bE c fun L f5 c => ?_)
    replace b := b.fz
    refine yC (yCall FN_117 (a2 e0 e0)) (sparseref01_shr_ok f5 F0 b) ?_
    rintro _ w ⟨B, rfl, b⟩
    refine ⟨_, rfl, ?_⟩
    refine Ym (.tuple #[B.v, .bool L.2]) e0 (yY (x_ B.v e0) (yY (x_ (.bool L.2) e0) (Ya B.v e0 (Ya (.bool L.2) e0 (wK f3 (sR fun _ f6 => Ym m.v (eh f2) (bE c fun l6 f7 c => ?_)))))))
    replace b := (b.k11).fz
    refine yC (yCall FN_111 (a1 e0)) (sparseref01_trim_ok f7 F0 b) ?_
    rintro _ w ⟨f8, rfl, b⟩
    refine ⟨_, rfl, ?_⟩
    refine Ym B.v e0 (bE c fun l7 f9 c => ?_)
    replace b := (b.k11).fz
    refine yC (yCall FN_111 (a1 e0)) (sparseref01_trim_ok f9 F0 b) ?_
    rintro _ w ⟨g0, rfl, b⟩
    refine ⟨_, rfl, ?_⟩
    refine Ya f8.v e0 (Ya g0.v e0 (wK f6 (wp_ret ?_)))
    cases c
    replace b := b.fz
    exact a0 _ _ _ (fin2r Tryz.results118 ⟨rfl, rfl⟩ ⟨rfl, rfl⟩ ⟨_, _, rfl, (b.facts (allC F0 (allT (allT (allT (allT (allT allI)))))))⟩)
   refine loopQ (fun s a w => ∃ (N y : LI) (i : Int) (f : FV), (N, y, i) = s ∧ a = fr 109 f ∧ f 6 = iV (d.length : Int) ∧ f 7 = iV j ∧ f 8 = h.v ∧ f 9 = (subH k 1 0 (d.length : Int)).v ∧ f 10 = m.v ∧ f 11 = iV i ∧ St w0 (imm (rI .u32) (subH k 1 0 (d.length : Int)).v x :: ros) (row 88 (rI .u32) h.v N :: row 88 (rI .u32) m.v y :: rs) w) e8 ⟨_, _, _, _, rfl, rfl, I, d7, d8, d9, rfl, rfl, (b.k11)⟩ ?_
   rintro _ _ w l8 ⟨N, y, i, f, rfl, rfl, C, a7, D, a8, a9, E, b⟩ g g1 l9 g2 g3
   refine seqQ fun m0 g4 g5 => sR fun _ g6 => Ym (iV i) (eh E) (yY (ygeq e0 rfl) (wK g6 ?_))
   refine cIf e0 g (fun g7 g => ?_) fun g7 g => ?_
   ·refine wp_skip (g4 _ _ (sQ fun _ g8 => blockQ fun _ g9 => sQ fun _ h0 => bE g fun b0 b1 g => bE g fun b2 b3 g => dR [0, 0, 0, 6, 15, 31, 63, 127, 0, 0, 0, 1536, 3584, 7936, 16128, 32512, 65535, 131071] [17] 1 folM ?_))
    replace b := b.drew
    refine Dn [0, 1, 2, 3, 4, 5, 6, 7, 8, 9, 10, 11, 12, 13, 14, 15, 16] [] [17] (yR rfl (m_ h.v (eh D)) (yR rfl (m_ (iV i) (eh E)) (yR rfl (m_ (iV (d.length : Int)) (eh C)) (yR rfl (yadd e0 e0) (yR rfl (yIa SL_25 e0 e0 b rO0 b1) (yR rfl (yI O_88 e0 b rO0 b1) (yR rfl (ycv (k' := .u64) (by kernel_rfl) (by kernel_rfl) e0) (yR rfl (yshlc e0 rfl) (yR rfl (m_ h.v (eh D)) (yR rfl (m_ (iV i) (eh E)) (yR rfl (m_ (iV (d.length : Int)) (eh C)) (yR rfl (yadd e0 e0) (yR rfl (ysub e0 rfl) ?_)))))))))))))
    refine yR rfl (yIa SL_25 e0 e0 b rO0 b3) (yR rfl (yI O_88 e0 b rO0 b3) (yR rfl (ycv (k' := .u64) (by kernel_rfl) (by kernel_rfl) e0) (yR rfl (yor e0 e0) (Rn QSn ?_))))
    refine Lc1 rfl ?_
    refine Ly wn (a_ (.int .u64 (wor .u64 (wslc .u64 (wc .u64 b0) 32) (wc .u64 b2))) e0) (Dz [] [] (Rn QSn (h0 _ _ (sR fun _ h1 => Ym (.int .u64 (wor .u64 (wslc .u64 (wc .u64 b0) 32) (wc .u64 b2))) e0 (Ym ((subH k 1 0 (d.length : Int)).v) (eh a8) (Ym (iV (d.length : Int)) (eh C) (yY (ysub e0 rfl) (bE g fun m1 b4 g => yY (yIa SL_25 e0 e0 b (rdI F0) b4) (yY (yI O_88 e0 b (rdI F0) b4) (yY (ycv (k' := .u64) (by kernel_rfl) (by kernel_rfl) e0) ?_))))))))))
    refine bE g fun h3 h5 g => yY (yquo e0 e0 h5) (yY (ymin e0 rfl) (Ya (.int .u64 (imin h3 4294967295)) e0 (wK h1 (sQ fun _ h6 => blockQ fun h7 h8 => bE g fun h9 i0 g => ?_))))
    have i1 : ∀ (O : LI) (z : Int) (f : FV) w, f 6 = iV (d.length : Int) → f 7 = iV j → f 8 = h.v → f 9 = (subH k 1 0 (d.length : Int)).v → f 10 = m.v → f 11 = iV i → f 13 = .int .u64 z → St w0 (imm (rI .u32) (subH k 1 0 (d.length : Int)).v x :: ros) (row 88 (rI .u32) h.v O :: row 88 (rI .u32) m.v y :: rs) w → (O, z) = h9 → h7 (.exit 2) (fr 109 f) w := by
     intro O z f w i2 i3 i4 i5 b5 b6 i6 b ho
     subst ho
     refine h8 _ _ _ (h6 _ _ (wR (Ym m.v (eh b5) (Ym (iV i) (eh b6) (Ym (.int .u64 z) (eh i6) (yY (ycv (k' := .u32) (by kernel_rfl) (by kernel_rfl) e0) (bE g fun m2 b7 g => yY (yIs SL_25 e0 e0 b rO1 b7) (yT (r_sti (cs := [.int .u32 (wc .u32 z)]) (b.k11) O_88 rfl e0 e0 rfl mkI b7) fun w b => wN (g9 _ _ _ (g8 _ _ ?_))))))))))
     refine wR (Ym (iV i) (eh b6) (yY (ysub e0 rfl) (Ya (iV (ws .i64 i 1)) e0 (wN ?_))))
     cases g
     exact g2 _ _ _ rfl ⟨_, _, _, _, rfl, rfl, i2, i3, i4, i5, b5, rfl, (b.k11)⟩
    refine loopQ (fun s a w => ∃ (R : LI) (t : Int) (f : FV), (R, t) = s ∧ a = fr 109 f ∧ f 6 = iV (d.length : Int) ∧ f 7 = iV j ∧ f 8 = h.v ∧ f 9 = (subH k 1 0 (d.length : Int)).v ∧ f 10 = m.v ∧ f 11 = iV i ∧ f 13 = .int .u64 t ∧ St w0 (imm (rI .u32) (subH k 1 0 (d.length : Int)).v x :: ros) (row 88 (rI .u32) h.v R :: row 88 (rI .u32) m.v y :: rs) w) i0 ⟨_, _, _, rfl, rfl, C, a7, D, a8, a9, E, rfl, b⟩ ?_
    rintro _ _ w m3 ⟨R, t, f, rfl, rfl, b8, b9, S, T, c0, U, V, b⟩ q i7 m4 i8 i9
    refine seqQ fun m5 j0 j2 => sR fun _ j3 => Ym h.v (eh S) (Ym ((subH k 1 0 (d.length : Int)).v) (eh T) (Ym (iV i) (eh U) (Ym (.int .u64 t) (eh V) (bE q fun m6 j4 q => yC (yCall FN_138 (a4 e0 e0 e0 e0)) (sparseref01_take_ok j4 F0 b) ?_))))
    rintro _ w ⟨rfl, b⟩
    refine ⟨_, rfl, ?_⟩
    refine yY (ynot e0) (wK j3 ?_)
    rcases iteS q with ⟨W, q⟩ | ⟨W, q⟩
    ·refine condF e0 (nF W) (wp_exit (j2 _ _ _ rfl ?_))
     cases q
     exact i9 _ _ _ _ rfl rfl (i1 _ _ _ _ b8 b9 S T c0 U V b (i7 _ rfl))
    ·refine condT e0 (nT (bfalse W)) (wp_skip (j0 _ _ (blockQ fun _ j5 => wR (Ym (.int .u64 t) (eh V) (yY (ysub e0 rfl) (Ya (.int .u64 (ws .u64 t 1)) e0 (wN (j5 _ _ _ ?_))))))))
     cases q
     exact i8 _ _ _ rfl ⟨_, _, _, rfl, rfl, b8, b9, S, T, c0, U, rfl, b⟩
   ·refine wp_exit (g5 _ _ _ rfl ?_)
    cases g
    exact g3 _ _ _ _ rfl rfl (e9 _ _ _ _ a7 D a9 (b.facts (allT allI)) (g1 _ rfl))
  refine cIf e0 c (fun j6 c => ?_) fun j6 c => ?_
  ·exact wR (Ym G.v e0 (yH (rLt (n := 1) (l := [0]) b SL_25 [.int .u32 0] (bp1 rfl) rfl rfl (mks1 (cs := [.int .u32 0]) rfl mkI mks0)) fun m7 w b => bE c fun m8 j7 c => yH (rAp (b.k11) SL_25 e0 e0 rO1 j7) fun j8 w b => Ya j8.v e0 (wN (a5 _ _ _ _ rfl rfl rfl rfl rfl ((b.k1g).facts (allC F0 (allT (allT allI)))) c))))
  ·exact wp_skip (a5 _ _ _ _ rfl rfl rfl rfl rfl (b.facts (allC F0 (allT (allT allI)))) c)
theorem sparseref01_Sign_ok {d : Bool} {j : LI} {f : Hdr} {out : Int} (b : sparseref01_Sign d j = some out) (l : imm (rI .u32) f.v j ∈ ros) (a : St w0 ros rs w) :
  Calls Tryz.prog 89 #[.agg #[.bool d, f.v]] w (fun e w => e = .returned (iV out) ∧ St w0 ros rs w) := by
 refine enterQ Tryz.func89 rfl Tryz.ntmps89 rfl fun Q g => sR fun _ m => yBb (r_box (vals := [.bool d, f.v]) a e0 rfl) fun z w a => Ya (iV 0) rfl (wK m (sR fun _ n => yY (lbs_ [.bool d, f.v] ST_27 e0 a R0) (bE b fun c o b => yC (yCall FN_91 (a1 e0)) (sparseref01_Norm_ok o l a) ?_)))
 rintro _ w ⟨h, rfl, a⟩
 refine ⟨_, rfl, ?_⟩
 refine yT (r_stbn (vals' := [.bool c.1, h.v]) (us := [.bool c.1, h.v]) (a.k11) ST_27 e0 e0 rfl rfl (one_of rfl) rfl) fun w a => wK n (seqQ fun A p k => blockQ fun _ i => sR fun _ q => yY (yFb FL_27_1 e0) (yY (lb_ h.v O_25 e0 a R0) (yY (yLen SL_25 e0 a rO1) (yY (yeql e0 rfl) (Ya (.bool (decide ((c.2.length : Int) = 0))) e0 (wN ?_))))))
 refine q _ _ ?_
 refine cIf e0 b (fun r b => ?_) fun r b => ?_
 ·refine sR fun _ s => Ya (iV 0) rfl (wK s (wp_ret (i _ _ _ (k _ _ _ rfl ?_))))
  cases b
  exact g _ _ _ (fin1r Tryz.results89 ⟨rfl, rfl⟩ ⟨rfl, (a.k1l)⟩)
 ·refine sR fun _ t => yY (yFb FL_27_0 e0) (yY (lb_ (.bool c.1) O_4 e0 a R0) (Ya (.bool c.1) e0 (wK t (cB e0 b (fun u b => ?_) fun u b => ?_))))
  ·refine sR fun _ x => Ya (iV (-1)) rfl (wK x (wp_ret (i _ _ _ (k _ _ _ rfl ?_))))
   cases b
   exact g _ _ _ (fin1r Tryz.results89 ⟨rfl, rfl⟩ ⟨rfl, (a.k1l)⟩)
  ·refine wp_skip (i _ _ _ (p _ _ (sR fun _ y => Ya (iV 1) rfl (wK y (wp_ret ?_)))))
   cases b
   exact g _ _ _ (fin1r Tryz.results89 ⟨rfl, rfl⟩ ⟨rfl, (a.k1l)⟩)
end Go.Proofs.YtnfamnfdndaekaaGreatDoor
