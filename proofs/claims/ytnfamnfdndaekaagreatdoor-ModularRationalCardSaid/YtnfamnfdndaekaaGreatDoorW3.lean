/- Walks: each function computes its model, printed. -/
import Derived.Test.YtnfamnfdndaekaaGreatDoorW2
namespace Go.Proofs.YtnfamnfdndaekaaGreatDoor
open Go Sx M
set_option maxRecDepth 100000
set_option maxHeartbeats 40000000
set_option linter.unusedVariables false
attribute [local irreducible] wpList Code.wp Calls DR QR QS LA LS St
variable {w0 : World} {ros : List Fact} {rs : List Res} {w : World}
theorem integer_plus_ok {H I : LI} {q r : Hdr} {out : LI} (c : integer_plus H I = some out) (B : imm (rI .u32) q.v H ∈ ros) (C : imm (rI .u32) r.v I ∈ ros) (b : St w0 ros rs w) :
  Calls Tryz.prog 108 #[q.v, r.v] w (fun e w => ∃ (J : Hdr), e = .returned (J.v) ∧ St w0 (imm (rI .u32) J.v out :: ros) rs w) := by
 refine enterQ Tryz.func108 rfl Tryz.ntmps108 rfl fun Q U => sR fun _ V => Ya hnil.v rfl (wK V (sQ fun W X => sR fun _ Z => Ym q.v e0 (yY (yLen SL_25 e0 b (rdI B)) (Ym r.v e0 (yY (yLen SL_25 e0 b (rdI C)) (yY (ylss e0 e0) ?_))))))
 refine wK Z ?_
 have K : ∀ (k t : LI) (h i : Hdr) (f : FV) w, f 0 = h.v → f 1 = i.v → St w0 (imm (rI .u32) h.v k :: imm (rI .u32) i.v t :: ros) rs w → integer_plus_j1 k t = some out → W .normal (fr 58 f) w := by
  intro k t h i f w L a0 b c
  refine X _ _ (sR fun _ a2 => Ym h.v (eh L) (yY (yLen SL_25 e0 b (rdI F0)) (yY (yadd e0 rfl) (bE c fun e6 a3 c => yH (rMkc b SL_25 rfl e0 a3) fun a4 w b => Ya a4.v e0 (wK a2 (sR fun _ a5 => ?_))))))
  refine Ya (.int .u64 0) rfl (wK a5 (sQ fun _ a6 => sR fun _ a7 => Ym h.v (eh L) (yY (yLen SL_25 e0 b (rdI F0)) (Ym (iV 0) rfl (wK a7 (blockQ fun a8 a9 => bE c fun b0 b1 c => ?_))))))
  have b2 : ∀ (D : LI) (m : Int) (z : Hdr) (f : FV) w, f 5 = z.v → f 6 = .int .u64 m → St w0 ros (row 88 (rI .u32) z.v D :: rs) w → (D, m) = b0 → a8 (.exit 0) (fr 58 f) w := by
   intro D m z f w b3 b4 b ho
   subst ho
   refine a9 _ _ _ (a6 _ _ (sR fun _ b5 => Ym z.v (eh b3) (Ym (.int .u64 m) (eh b4) (yY (ycv (k' := .u32) (by kernel_rfl) (by kernel_rfl) e0) (yH (rLt (n := 1) (l := [wc .u32 m]) b SL_25 [.int .u32 (wc .u32 m)] (bp1 e0) rfl rfl (mks1 (cs := [.int .u32 (wc .u32 m)]) rfl mkI mks0)) fun e7 w b => bE c fun e8 b6 c => yH (rAp (b.k11) SL_25 e0 e0 rO1 b6) fun e9 w b => bE c fun f0 b7 c => ?_)))))
   replace b := b.fz
   refine yC (yCall FN_77 (a1 e0)) (integer_trim_ok b7 F0 b) ?_
   rintro _ w ⟨b8, rfl, b⟩
   refine ⟨_, rfl, ?_⟩
   refine Ya b8.v e0 (wK b5 (wp_ret ?_))
   cases c
   exact U _ _ _ (fin1r Tryz.results108 ⟨rfl, rfl⟩ ⟨_, rfl, ((b.k10).facts (allC F0 (allT (allT allI))))⟩)
  refine loopQ (fun s a w => ∃ (u : LI) (o g : Int) (f : FV) (p : Hdr), (u, o, g) = s ∧ a = fr 58 f ∧ f 1 = i.v ∧ f 5 = p.v ∧ f 6 = .int .u64 o ∧ f 21 = h.v ∧ f 22 = iV (k.length : Int) ∧ f 23 = iV g ∧ St w0 (imm (rI .u32) i.v t :: imm (rI .u32) h.v k :: ros) (row 88 (rI .u32) p.v u :: rs) w) b1 ⟨_, _, _, _, _, rfl, rfl, a0, rfl, rfl, rfl, rfl, rfl, (b.facts (allC F1 (allC F0 (allT (allT allI)))))⟩ ?_
  rintro _ _ w b9 ⟨u, o, g, f, p, rfl, rfl, A, E, N, F, G, x, b⟩ d c0 f1 c1 c2
  refine sR fun _ c3 => yY (ylss (eh x) (eh G)) (wK c3 (seqQ fun f2 c4 c5 => ?_))
  refine cIf e0 d (fun c6 d => ?_) fun c6 d => ?_
  ·refine wp_skip (c4 _ _ (sQ fun _ c7 => blockQ fun _ c8 => sR fun _ c9 => Ym (iV g) (eh x) (bE d fun y O d => yY (yIa SL_25 (eh F) (eh x) b (rdI F1) O) (yY (yI O_88 e0 b (rdI F1) O) (Ya (iV g) e0 (Ya (.int .u32 y) e0 (wK c9 ?_)))))))
   refine sR fun _ d0 => Ym (.int .u32 y) e0 (yY (ycv (k' := .u64) (by kernel_rfl) (by kernel_rfl) e0) (Ym (.int .u64 o) (eh N) (yY (yadd e0 e0) (Ya (.int .u64 (wa .u64 (wc .u64 y) o)) e0 (wK d0 (sQ fun d1 d2 => sR fun _ d3 => Ym (iV g) e0 (Ym i.v (eh A) ?_)))))))
   refine yY (yLen SL_25 e0 b (rdI F0)) (yY (ylss e0 e0) (wK d3 ?_))
   have R : ∀ (j : Int) (f : FV) w, f 1 = i.v → f 5 = p.v → f 9 = .int .u64 j → f 21 = h.v → f 22 = iV (k.length : Int) → f 23 = iV g → St w0 (imm (rI .u32) i.v t :: imm (rI .u32) h.v k :: ros) (row 88 (rI .u32) p.v u :: rs) w → integer_plus_j5 u g j = some b9 → d1 .normal (fr 58 f) w := by
    intro j f w d4 d5 S d6 d7 d8 b c
    refine d2 _ _ (sR fun _ d9 => Ym p.v (eh d5) (Ym (.int .u64 j) (eh S) (yY (yand e0 rfl) (yY (ycv (k' := .u32) (by kernel_rfl) (by kernel_rfl) e0) (yH (rLt (n := 1) (l := [wc .u32 (wand .u64 j 4294967295)]) b SL_25 [.int .u32 (wc .u32 (wand .u64 j 4294967295))] (bp1 e0) rfl rfl (mks1 (cs := [.int .u32 (wc .u32 (wand .u64 j 4294967295))]) rfl mkI mks0)) fun f3 w b => bE c fun f4 e1 c => yH (rAp (b.k11) SL_25 e0 e0 rO1 e1) fun e2 w b => Ya e2.v e0 (wN ?_))))))
    refine d9 _ _ (wR (Ym (.int .u64 j) (eh S) (yY (yshrc e0 rfl) (Ya (.int .u64 (wsrc .u64 j 32)) e0 (wN (c8 _ _ _ (c7 _ _ (wR (yY (yadd (eh d8) rfl) (Ym (iV (wa .i64 g 1)) e0 (wN ?_)))))))))))
    cases c
    exact c1 _ _ _ rfl ⟨_, _, _, _, _, rfl, rfl, d4, rfl, rfl, d6, d7, rfl, (b.k1g)⟩
   refine cIf e0 d (fun e3 d => ?_) fun e3 d => ?_
   ·exact wR (Ym (.int .u64 (wa .u64 (wc .u64 y) o)) e0 (Ym i.v (eh A) (Ym (iV g) e0 (bE d fun e4 T d => yY (yIa SL_25 e0 e0 b (rdI F0) T) (yY (yI O_88 e0 b (rdI F0) T) (yY (ycv (k' := .u64) (by kernel_rfl) (by kernel_rfl) e0) (yY (yadd e0 e0) (Ya (.int .u64 (wa .u64 (wa .u64 (wc .u64 y) o) (wc .u64 e4))) e0 (wN (R _ _ _ A E rfl F G x b d))))))))))
   ·exact wp_skip (R _ _ _ A E rfl F G x b d)
  ·refine wp_exit (c5 _ _ _ rfl ?_)
   cases d
   exact c2 _ _ _ _ rfl rfl (b2 _ _ _ _ _ E N (b.facts (allT (allT allI))) (c0 _ rfl))
 refine cIf e0 c (fun e5 c => ?_) fun e5 c => ?_
 ·exact wR (Ym r.v e0 (Ym q.v e0 (Ya r.v e0 (Ya q.v e0 (wN (K _ _ _ _ _ _ rfl rfl (b.facts (allC C (allC B allI))) c))))))
 ·exact wp_skip (K _ _ _ _ _ _ rfl rfl (b.facts (allC B (allC C allI))) c)
theorem integer_minus_ok {p A : LI} {k l : Hdr} {out : LI} (g : integer_minus p A = some out) (q : imm (rI .u32) k.v p ∈ ros) (t : imm (rI .u32) l.v A ∈ ros) (b : St w0 ros rs w) :
  Calls Tryz.prog 110 #[k.v, l.v] w (fun e w => ∃ (B : Hdr), e = .returned (B.v) ∧ St w0 (imm (rI .u32) B.v out :: ros) rs w) := by
 refine enterQ Tryz.func110 rfl Tryz.ntmps110 rfl fun Q I => sR fun _ J => Ya hnil.v rfl (wK J (sR fun _ K => Ym k.v e0 (yY (yLen SL_25 e0 b (rdI q)) (bE g fun c7 L g => yH (rMk b SL_25 e0 L) fun h w b => Ya h.v e0 ?_))))
 refine wK K (sR fun _ N => Ya (.int .u64 0) rfl (wK N (sQ fun _ O => sR fun _ R => Ym k.v e0 (yY (yLen SL_25 e0 b (rdI q)) (Ym (iV 0) rfl (wN ?_))))))
 refine R _ _ (blockQ fun S T => bE g fun U V g => ?_)
 have W : ∀ (u : LI) (f : FV) w, f 5 = h.v → St w0 ros (row 88 (rI .u32) h.v u :: rs) w → u = U → S (.exit 0) (fr 47 f) w := by
  intro u f w X b ho
  subst ho
  refine T _ _ _ (O _ _ (sR fun _ Z => Ym h.v (eh X) (bE g fun c8 a0 g => ?_)))
  replace b := b.fz
  refine yC (yCall FN_77 (a1 e0)) (integer_trim_ok a0 F0 b) ?_
  rintro _ w ⟨a2, rfl, b⟩
  refine ⟨_, rfl, ?_⟩
  refine Ya a2.v e0 (wK Z (wp_ret ?_))
  cases g
  exact I _ _ _ (fin1r Tryz.results110 ⟨rfl, rfl⟩ ⟨_, rfl, (b.facts (allC F0 (allT (allT allI))))⟩)
 refine loopQ (fun s a w => ∃ (m : LI) (i d : Int) (f : FV), (m, i, d) = s ∧ a = fr 47 f ∧ f 1 = l.v ∧ f 5 = h.v ∧ f 6 = .int .u64 i ∧ f 13 = k.v ∧ f 14 = iV (p.length : Int) ∧ f 15 = iV d ∧ St w0 ros (row 88 (rI .u32) h.v m :: rs) w) V ⟨_, _, _, _, rfl, rfl, rfl, rfl, rfl, rfl, rfl, rfl, b⟩ ?_
 rintro _ _ w a3 ⟨m, i, d, f, rfl, rfl, r, x, a4, y, z, n, b⟩ c a5 c9 a6 a7
 refine sR fun _ a8 => yY (ylss (eh n) (eh z)) (wK a8 (seqQ fun d0 a9 b0 => ?_))
 refine cIf e0 c (fun b1 c => ?_) fun b1 c => ?_
 ·refine wp_skip (a9 _ _ (sQ fun _ b2 => blockQ fun _ b3 => sR fun _ b4 => Ym (iV d) (eh n) (bE c fun o C c => yY (yIa SL_25 (eh y) (eh n) b (rdI q) C) (yY (yI O_88 e0 b (rdI q) C) (Ya (iV d) e0 (Ya (.int .u32 o) e0 (wK b4 ?_)))))))
  refine sR fun _ b5 => Ym (.int .u32 o) e0 (yY (ycv (k' := .u64) (by kernel_rfl) (by kernel_rfl) e0) (Ym (.int .u64 i) (eh a4) (yY (ysub e0 e0) (Ya (.int .u64 (ws .u64 (wc .u64 o) i)) e0 (wK b5 (sQ fun b6 b7 => sR fun _ b8 => Ym (iV d) e0 (Ym l.v (eh r) ?_)))))))
  refine yY (yLen SL_25 e0 b (rdI t)) (yY (ylss e0 e0) (wK b8 ?_))
  have D : ∀ (j : Int) (f : FV) w, f 1 = l.v → f 5 = h.v → f 7 = iV d → f 9 = .int .u64 j → f 13 = k.v → f 14 = iV (p.length : Int) → f 15 = iV d → St w0 ros (row 88 (rI .u32) h.v m :: rs) w → integer_minus_j4 m d j = some a3 → b6 .normal (fr 47 f) w := by
   intro j f w b9 E c0 F c1 c2 c3 b g
   refine b7 _ _ (sR fun _ c4 => Ym h.v (eh E) (Ym (iV d) (eh c0) (Ym (.int .u64 j) (eh F) (yY (yand e0 rfl) (yY (ycv (k' := .u32) (by kernel_rfl) (by kernel_rfl) e0) (bE g fun d1 G g => yY (yIs SL_25 e0 e0 b rO0 G) (yT (r_sti (cs := [.int .u32 (wc .u32 (wand .u64 j 4294967295))]) b O_88 rfl e0 e0 rfl mkI G) fun w b => wK c4 ?_)))))))
   refine wR (Ym (.int .u64 j) (eh F) (yY (yshrc e0 rfl) (yY (yand e0 rfl) (Ya (.int .u64 (wand .u64 (wsrc .u64 j 32) 1)) e0 (wN (b3 _ _ _ (b2 _ _ (wR (yY (yadd (eh c3) rfl) (Ym (iV (wa .i64 d 1)) e0 (wN ?_)))))))))))
   cases g
   exact a6 _ _ _ rfl ⟨_, _, _, _, rfl, rfl, b9, E, rfl, c1, c2, rfl, b⟩
  refine cIf e0 c (fun c5 c => ?_) fun c5 c => ?_
  ·exact wR (Ym (.int .u64 (ws .u64 (wc .u64 o) i)) e0 (Ym l.v (eh r) (Ym (iV d) e0 (bE c fun c6 H c => yY (yIa SL_25 e0 e0 b (rdI t) H) (yY (yI O_88 e0 b (rdI t) H) (yY (ycv (k' := .u64) (by kernel_rfl) (by kernel_rfl) e0) (yY (ysub e0 e0) (Ya (.int .u64 (ws .u64 (ws .u64 (wc .u64 o) i) (wc .u64 c6))) e0 (wN (D _ _ _ r x rfl rfl y z n b c))))))))))
  ·exact wp_skip (D _ _ _ r x rfl rfl y z n b c)
 ·refine wp_exit (b0 _ _ _ rfl ?_)
  cases c
  exact a7 _ _ _ _ rfl rfl (W _ _ _ x b (a5 _ rfl))
theorem integer_DivMod_ok {c : Bool} {z : LI} {g : Bool} {A : LI} {i j : Hdr} {out : Bool × LI × Bool × LI × Int} (b : integer_DivMod c z g A = some out) (V : imm (rI .u32) i.v z ∈ ros) (W : imm (rI .u32) j.v A ∈ ros) (a : St w0 ros rs w) :
  Calls Tryz.prog 85 #[.agg #[.bool c, i.v], .agg #[.bool g, j.v]] w (fun e w => ∃ (B C : Hdr), e = .returned (.tuple #[.agg #[.bool out.1, B.v], .agg #[.bool out.2.2.1, C.v], iV out.2.2.2.2]) ∧ St w0 (imm (rI .u32) B.v out.2.1 :: imm (rI .u32) C.v out.2.2.2.1 :: ros) rs w) := by
 refine enterQ Tryz.func85 rfl Tryz.ntmps85 rfl fun Q D => sR fun _ X => yBb (r_box (vals := [.bool c, i.v]) a e0 rfl) fun o w a => yBb (r_box (vals := [.bool g, j.v]) a e0 rfl) fun p w a => yBb (rAl a ZT_27) fun q w a => yBb (rAl a ZT_27) fun r w a => Ya (iV 0) rfl (wK X ?_)
 refine sR fun _ Z => yY (yFb FL_27_1 e0) (yY (lb_ j.v O_25 e0 a R2) (bE b fun a0 a3 b => yC (yCall FN_77 (a1 e0)) (integer_trim_ok a3 W a) ?_))
 rintro _ w ⟨k, rfl, a⟩
 refine ⟨_, rfl, ?_⟩
 refine Ya k.v e0 (wK Z (seqQ fun d2 a4 a5 => sR fun _ a6 => Ym k.v e0 (yY (yLen SL_25 e0 a (rdI F0)) (yY (yeql e0 rfl) (wK a6 ?_)))))
 refine cIf e0 b (fun a7 b => ?_) fun a7 b => ?_
 ·refine sR fun _ a8 => yY (ybuild (us := [.bool false, hnil.v]) [] SO_27 bp0 rfl) (yY (ybuild (us := [.bool false, hnil.v]) [] SO_27 bp0 rfl) (yT (r_stbn (vals' := [.bool false, hnil.v]) (us := [.bool false, hnil.v]) (a.k11) ST_27 e0 e0 rfl rfl (one_of rfl) rfl) fun w a => yT (r_stbn (vals' := [.bool false, hnil.v]) (us := [.bool false, hnil.v]) (a.k11) ST_27 e0 e0 rfl rfl (one_of rfl) rfl) fun w a => Ya (iV 8) rfl (wK a8 (wp_ret (a5 _ _ _ rfl ?_)))))
  cases b
  replace a := a.immNh (rI .u32)
  exact D _ _ _ (fin3r Tryz.results85 (rcs2 rfl rfl a R1 ST_27 rfl) (rcs2 rfl rfl a R0 ST_27 rfl) ⟨rfl, rfl⟩ ⟨_, _, rfl, ((a.k1h).facts (allC F0 (allC F0 (allT (allT allI)))))⟩)
 ·refine wp_skip (a4 _ _ (sR fun _ a9 => yY (yFb FL_27_1 e0) (yY (lb_ i.v O_25 e0 a R3) (bE b fun d3 b0 b => yC (yCall FN_77 (a1 e0)) (integer_trim_ok b0 (mtF V) a) ?_))))
  rintro _ w ⟨d4, rfl, a⟩
  refine ⟨_, rfl, ?_⟩
  refine Ym k.v e0 (bE b fun s b1 b => yC (yCall FN_124 (a2 e0 e0)) (integer_divide_ok b1 F0 F1 a) ?_)
  rintro _ w ⟨m, h, rfl, a⟩
  refine ⟨_, rfl, ?_⟩
  refine Ym (.tuple #[m.v, h.v]) e0 (yY (x_ m.v e0) (yY (x_ h.v e0) (Ya m.v e0 (Ya h.v e0 (wK a9 (sQ fun b2 b3 => sR fun _ b4 => yY (yFb FL_27_0 e0) (yY (lb_ (.bool c) O_4 e0 a R3) (Ym (.bool c) e0 ?_))))))))
  refine joinW 4 (fun f w => f 2 = (pB o) ∧ f 3 = (pB p) ∧ f 4 = (pB q) ∧ f 5 = (pB r) ∧ f 7 = k.v ∧ f 8 = m.v ∧ f 9 = h.v ∧ f 32 = .bool (c && (decide ((0 : Int) < (s.2.length : Int)))) ∧ St w0 (imm (rI .u32) k.v a0 :: imm (rI .u32) m.v s.1 :: imm (rI .u32) h.v s.2 :: ros) (box o 27 [.bool c, i.v] :: box p 27 [.bool g, j.v] :: box q 27 [.bool false, hnil.v] :: box r 27 [.bool false, hnil.v] :: rs) w) (fun E => ?_) ?_
  ·rcases Bool.eq_false_or_eq_true c with d | d
   ·exact yG d (m_ h.v e0) (yG d (yLen SL_25 e0 a (rdI F1)) (yG d (ygtr e0 rfl) (yY (pt_ (.bool (decide ((0 : Int) < (s.2.length : Int)))) e0 d e0) (E _ _ ⟨rfl, rfl, rfl, rfl, rfl, rfl, rfl, (congrArg Value.bool (andT d)), ((a.k1i).facts (allC F3 (allC F0 (allC F1 (allT (allT (allT (allT allI))))))))⟩))))
   ·exact gN d (gN d (gN d (yY (pf_ (.bool false) e0 d rfl) (E _ _ ⟨rfl, rfl, rfl, rfl, rfl, rfl, rfl, (congrArg Value.bool (andF d)), ((a.k1i).facts (allC F3 (allC F0 (allC F1 (allT (allT (allT (allT allI))))))))⟩))))
  rintro f w ⟨F, G, H, I, b5, J, K, b6, a⟩
  refine wK b4 ?_
  have L : ∀ (x y : LI) (t u : Hdr) (f : FV) w, f 2 = (pB o) → f 3 = (pB p) → f 4 = (pB q) → f 5 = (pB r) → f 8 = t.v → f 9 = u.v → St w0 (imm (rI .u32) t.v x :: imm (rI .u32) u.v y :: ros) (box o 27 [.bool c, i.v] :: box p 27 [.bool g, j.v] :: box q 27 [.bool false, hnil.v] :: box r 27 [.bool false, hnil.v] :: rs) w → integer_DivMod_j2 c g x y = some out → b2 .normal (fr 48 f) w := by
   intro x y t u f w c0 c1 N O c2 c3 a b
   refine b3 _ _ (sR fun _ c4 => yY (yFb FL_27_0 (eh c0)) (yY (lb_ (.bool c) O_4 e0 a R0) (yY (yFb FL_27_0 (eh c1)) (yY (lb_ (.bool g) O_4 e0 a R1) (yY (yneb (by kernel_rfl) e0 e0) (Ym t.v (eh c2) (bE b fun R c5 b => yC (yCall FN_74 (a2 e0 e0)) (integer_big_ok c5 F0 a) ?_)))))))
   rintro _ w ⟨S, rfl, a⟩
   refine ⟨_, rfl, ?_⟩
   refine Ym u.v (eh c3) (bE b fun T c6 b => yC (yCall FN_74 (a2 rfl e0)) (integer_big_ok c6 F2 a) ?_)
   rintro _ w ⟨U, rfl, a⟩
   refine ⟨_, rfl, ?_⟩
   refine yT (r_stbn (vals' := [.bool R.1, S.v]) (us := [.bool R.1, S.v]) (a.k1a) ST_27 (eh N) e0 rfl rfl (one_of rfl) rfl) fun w a => yT (r_stbn (vals' := [.bool T.1, U.v]) (us := [.bool T.1, U.v]) (a.k15) ST_27 (eh O) e0 rfl rfl (one_of rfl) rfl) fun w a => Ya (iV 0) rfl (wK c4 (wp_ret ?_))
   cases b
   exact D _ _ _ (fin3r Tryz.results85 (rcs2 rfl N a R1 ST_27 rfl) (rcs2 rfl O a R0 ST_27 rfl) ⟨rfl, rfl⟩ ⟨_, _, rfl, ((a.k1h).facts (allC F1 (allC F0 (allT (allT (allT (allT allI)))))))⟩)
  refine cB (eh b6) b (fun c7 b => ?_) fun c7 b => ?_
  ·refine wR (Ym m.v (eh J) (yH (rLt (n := 1) (l := [1]) a SL_25 [.int .u32 1] (bp1 rfl) rfl rfl (mks1 (cs := [.int .u32 1]) rfl mkI mks0)) fun d5 w a => bE b fun d6 c8 b => ?_))
   replace a := a.fz
   refine yC (yCall FN_108 (a2 e0 e0)) (integer_plus_ok c8 F2 F0 a) ?_
   rintro _ w ⟨c9, rfl, a⟩
   refine ⟨_, rfl, ?_⟩
   refine Ym k.v (eh b5) (Ym h.v (eh K) (bE b fun d7 d0 b => yC (yCall FN_110 (a2 e0 e0)) (integer_minus_ok d0 F2 F4 a) ?_))
   rintro _ w ⟨d1, rfl, a⟩
   refine ⟨_, rfl, ?_⟩
   exact Ya c9.v e0 (Ya d1.v e0 (wN (L _ _ _ _ _ _ F G H I rfl rfl (a.facts (allC F1 (allC F0 (allT (allT (allT (allT (allT (allT allI))))))))) b)))
  ·exact wp_skip (L _ _ _ _ _ _ F G H I J K (a.facts (allC F1 (allC F2 (allT (allT (allT allI)))))) b)
theorem integer_Int_ok {d : Bool} {B : LI} {m : Hdr} {out : Int × Bool} (g : integer_Int d B = some out) (S : imm (rI .u32) m.v B ∈ ros) (c : St w0 ros rs w) :
  Calls Tryz.prog 107 #[.agg #[.bool d, m.v]] w (fun e w => e = .returned (.tuple #[iV out.1, .bool out.2]) ∧ St w0 ros rs w) := by
 refine enterQ Tryz.func107 rfl Tryz.ntmps107 rfl fun Q t => sR fun _ T => yBb (r_box (vals := [.bool d, m.v]) c e0 rfl) fun n w c => Ya (iV 0) rfl (Ya (.bool false) rfl (wK T (sR fun _ U => yY (yFb FL_27_1 e0) (yY (lb_ m.v O_25 e0 c R0) (bE g fun C V g => ?_)))))
 refine yC (yCall FN_77 (a1 e0)) (integer_trim_ok V S c) ?_
 rintro _ w ⟨q, rfl, c⟩
 refine ⟨_, rfl, ?_⟩
 refine Ya q.v e0 (wK U (seqQ fun e2 W X => sR fun _ Z => Ym q.v e0 (yY (yLen SL_25 e0 c (rdI F0)) (yY (ygtr e0 rfl) (wK Z ?_)))))
 refine cIf e0 g (fun a0 g => ?_) fun a0 g => ?_
 ·refine sR fun _ a2 => Ya (iV 0) rfl (Ya (.bool false) rfl (wK a2 (wp_ret (X _ _ _ rfl ?_))))
  cases g
  exact t _ _ _ (fin2r Tryz.results107 ⟨rfl, rfl⟩ ⟨rfl, rfl⟩ ⟨rfl, ((c.k10).facts (allT allI))⟩)
 ·refine wp_skip (W _ _ (sR fun _ a3 => Ya (.int .u64 0) rfl (wK a3 (sQ fun _ a4 => sR fun _ a5 => Ym q.v e0 (yY (yLen SL_25 e0 c (rdI F0)) (Ym (iV 0) rfl (wN ?_)))))))
  refine a5 _ _ (blockQ fun a6 a7 => bE g fun a8 a9 g => ?_)
  have b0 : ∀ (b : Int) (f : FV) w, f 1 = (pB n) → f 5 = .int .u64 b → St w0 ros (box n 27 [.bool d, m.v] :: rs) w → b = a8 → a6 (.exit 0) (fr 59 f) w := by
   intro b f w x y c ho
   subst ho
   refine a7 _ _ _ (a4 _ _ (seqQ fun e3 b1 D => blockQ fun _ z => sR fun _ b2 => yY (yFb FL_27_0 (eh x)) (yY (lb_ (.bool d) O_4 e0 c R0) (Ym (.bool d) e0 ?_))))
   refine joinW 3 (fun f w => f 1 = (pB n) ∧ f 5 = .int .u64 b ∧ f 35 = .bool (d && (decide ((0 : Int) < b))) ∧ St w0 ros (box n 27 [.bool d, m.v] :: rs) w) (fun E => ?_) ?_
   ·rcases Bool.eq_false_or_eq_true d with i | i
    ·exact yG i (m_ (.int .u64 b) (eh y)) (yG i (ygtr e0 rfl) (yY (pt_ (.bool (decide ((0 : Int) < b))) e0 i e0) (E _ _ ⟨x, y, (congrArg Value.bool (andT i)), c⟩)))
    ·exact gN i (gN i (yY (pf_ (.bool false) e0 i rfl) (E _ _ ⟨x, y, (congrArg Value.bool (andF i)), c⟩)))
   rintro f w ⟨F, A, b3, c⟩
   refine Ym (.bool (d && (decide ((0 : Int) < b)))) (eh b3) ?_
   refine joinW 3 (fun f w => f 1 = (pB n) ∧ f 5 = .int .u64 b ∧ f 39 = .bool ((d && (decide ((0 : Int) < b))) && (decide (b ≤ 9223372036854775808))) ∧ St w0 ros (box n 27 [.bool d, m.v] :: rs) w) (fun G => ?_) ?_
   ·rcases Bool.eq_false_or_eq_true (d && (decide ((0 : Int) < b))) with j | j
    ·exact yG j (m_ (.int .u64 b) (eh A)) (yG j (yleq e0 rfl) (yY (pt_ (.bool (decide (b ≤ 9223372036854775808))) e0 j e0) (G _ _ ⟨F, A, (congrArg Value.bool (andT j)), c⟩)))
    ·exact gN j (gN j (yY (pf_ (.bool false) e0 j rfl) (G _ _ ⟨F, A, (congrArg Value.bool (andF j)), c⟩)))
   rintro f w ⟨b5, p, b6, c⟩
   refine Ya (.bool ((d && (decide ((0 : Int) < b))) && (decide (b ≤ 9223372036854775808)))) (eh b6) (wK b2 (cB e0 g (fun b7 g => ?_) fun b7 g => ?_))
   ·refine sR fun _ b8 => Ym (.int .u64 b) (eh p) (yY (ysub e0 rfl) (yY (ycv (k' := .i64) (by kernel_rfl) (by kernel_rfl) e0) (yY (yneg e0) (yY (ysub e0 rfl) (Ya (iV (ws .i64 (wneg .i64 (wc .i64 (ws .u64 b 1))) 1)) e0 (Ya (.bool true) rfl (wK b8 (wp_ret (z _ _ _ (D _ _ _ rfl ?_))))))))))
    cases g
    exact t _ _ _ (fin2r Tryz.results107 ⟨rfl, rfl⟩ ⟨rfl, rfl⟩ ⟨rfl, (c.k10)⟩)
   ·refine sR fun _ b9 => Ym (.int .u64 b) (eh p) (yY (ylss e0 rfl) (Ym (.bool (decide (b < 9223372036854775808))) e0 ?_))
    refine joinW 8 (fun f w => f 5 = .int .u64 b ∧ f 56 = .bool ((decide (b < 9223372036854775808)) && ((!d) || (decide (b = 0)))) ∧ St w0 ros rs w) (fun H => ?_) ?_
    ·rcases Bool.eq_false_or_eq_true (decide (b < 9223372036854775808)) with h | h
     ·refine yG h (yFb FL_27_0 (eh b5)) (yG h (lb_ (.bool d) O_4 e0 c R0) (yG h (ynot e0) (yG h (m_ (.bool (!d)) e0) ?_)))
      refine joinW 3 (fun f w => f 5 = .int .u64 b ∧ f 48 = .bool (decide (b < 9223372036854775808)) ∧ f 55 = .bool ((!d) || (decide (b = 0))) ∧ St w0 ros rs w) (fun I => ?_) ?_
      ·rcases Bool.eq_false_or_eq_true (!d) with k | k
       ·exact gN k (gN k (yG h (pt_ (.bool true) e0 k rfl) (I _ _ ⟨p, rfl, (congrArg Value.bool (orT k)), (c.k10)⟩)))
       ·exact yG k (m_ (.int .u64 b) (eh p)) (yG k (yeql e0 rfl) (yG h (pf_ (.bool (decide (b = 0))) e0 k e0) (I _ _ ⟨p, rfl, (congrArg Value.bool (orF k)), (c.k10)⟩)))
      rintro f w ⟨c0, c1, c2, c⟩
      exact yY (pt_ (.bool ((!d) || (decide (b = 0)))) (eh c1) h (eh c2)) (H _ _ ⟨c0, (congrArg Value.bool (andT h)), c⟩)
     ·exact gN h (gN h (gN h (gN h (Gn (wxu rfl rfl rfl) rfl (Gn (wxu rfl rfl rfl) rfl (gN h (yY (pf_ (.bool false) e0 h rfl) (H _ _ ⟨p, (congrArg Value.bool (andF h)), (c.k10)⟩))))))))
    rintro f w ⟨c3, c4, c⟩
    refine Ya (.bool ((decide (b < 9223372036854775808)) && ((!d) || (decide (b = 0))))) (eh c4) (wK b9 (cB e0 g (fun c5 g => ?_) fun c5 g => ?_))
    ·refine sR fun _ c6 => Ym (.int .u64 b) (eh c3) (yY (ycv (k' := .i64) (by kernel_rfl) (by kernel_rfl) e0) (Ya (iV (wc .i64 b)) e0 (Ya (.bool true) rfl (wK c6 (wp_ret (z _ _ _ (D _ _ _ rfl ?_)))))))
     cases g
     exact t _ _ _ (fin2r Tryz.results107 ⟨rfl, rfl⟩ ⟨rfl, rfl⟩ ⟨rfl, c⟩)
    ·refine wp_skip (z _ _ _ (b1 _ _ (sR fun _ c8 => Ya (iV 0) rfl (Ya (.bool false) rfl (wK c8 (wp_ret ?_))))))
     cases g
     exact t _ _ _ (fin2r Tryz.results107 ⟨rfl, rfl⟩ ⟨rfl, rfl⟩ ⟨rfl, c⟩)
  refine loopQ (fun s a w => ∃ (r o : Int) (f : FV), (r, o) = s ∧ a = fr 59 f ∧ f 1 = (pB n) ∧ f 5 = .int .u64 r ∧ f 14 = q.v ∧ f 15 = iV (C.length : Int) ∧ f 16 = iV o ∧ St w0 (imm (rI .u32) q.v C :: ros) (box n 27 [.bool d, m.v] :: rs) w) a9 ⟨_, _, _, rfl, rfl, rfl, rfl, rfl, rfl, rfl, c⟩ ?_
  rintro _ _ w e4 ⟨r, o, f, rfl, rfl, J, K, L, N, u, c⟩ l c9 e5 d0 d1
  refine sR fun _ d2 => yY (ylss (eh u) (eh N)) (wK d2 (seqQ fun e6 d3 d4 => ?_))
  refine cIf e0 l (fun d5 l => ?_) fun d5 l => ?_
  ·refine wp_skip (d3 _ _ (sQ fun _ d6 => blockQ fun _ d7 => sR fun _ d8 => Ym (iV o) (eh u) (bE l fun O R l => yY (yIa SL_25 (eh L) (eh u) c (rdI F0) R) (yY (yI O_88 e0 c (rdI F0) R) (Ya (iV o) e0 (Ya (.int .u32 O) e0 (wK d8 ?_)))))))
   refine wR (Ym (.int .u64 r) (eh K) (Ym (.int .u32 O) e0 (yY (ycv (k' := .u64) (by kernel_rfl) (by kernel_rfl) e0) (Ym (iV o) e0 (yY (ymul rfl e0) (bE l fun d9 e1 l => yY (yshl e0 e0 e1) (yY (yor e0 e0) (Ya (.int .u64 (wor .u64 r d9)) e0 (wN (d7 _ _ _ (d6 _ _ (wR ?_))))))))))))
   refine yY (yadd (eh u) rfl) (Ym (iV (wa .i64 o 1)) e0 (wN ?_))
   cases l
   exact d0 _ _ _ rfl ⟨_, _, _, rfl, rfl, J, rfl, L, N, rfl, c⟩
  ·refine wp_exit (d4 _ _ _ rfl ?_)
   cases l
   exact d1 _ _ _ _ rfl rfl (b0 _ _ _ J K (c.facts (allT allI)) (c9 _ rfl))
theorem modular_remainder_ok {g : Bool} {x : LI} {p : Int} {h : Hdr} {out : Int} (q : modular_remainder g x p = some out) (j : imm (rI .u32) h.v x ∈ ros) (b : St w0 ros rs w) :
  Calls Tryz.prog 63 #[.agg #[.bool g, h.v], iV p] w (fun e w => e = .returned (iV out) ∧ St w0 ros rs w) := by
 refine enterQ Tryz.func63 rfl Tryz.ntmps63 rfl fun Q y => sR fun _ z => yBb (r_box (vals := [.bool g, h.v]) b e0 rfl) fun F w b => Ya (iV 0) rfl (wK z (sQ fun _ A => bE q fun G r q => bE q fun a k q => ?_))
 refine joinN (n := 24) (fun f w => ∃ (u : Nat) (s : Hdr), f 6 = (pB u) ∧ St w0 (imm (rI .u32) s.v a.2.2.2.1 :: ros) (box u 27 [.bool a.2.2.1, s.v] :: rs) w) (fun i => ?_) ?_
 ·refine dR [0, 0, 2, 7, 15, 31, 31, 31, 0, 0, 831, 1919, 4095] [2, 3, 8, 9, 10, 11, 12] 7 folM ?_
  replace b := b.drew
  refine Dn [0, 1] [] [2, 8, 9] (yR rfl (lbs_ [.bool g, h.v] ST_27 e0 b R0) (yR rfl (m_ (iV p) e0) (Rn QSn ?_)))
  refine Lc rfl ?_ (Lc rfl ?_ (Lc1 rfl ?_))
  ·refine Lk wn (yCall FN_23 (a1 e0)) (integer_FromInt_ok r b) ?_
   rintro _ w ⟨t, rfl, b⟩
   refine ⟨_, rfl, ?_⟩
   refine Dn [] [0] [3, 8, 9] (Rn (yS rfl (lbs_ [.bool g, h.v] ST_27 e0 b R0) QSn) ?_)
   refine Lc rfl ?_ (Lc rfl ?_ (Lc1 rfl ?_))
   ·refine Lk wn (yCall FN_85 (a2 e0 e0)) (integer_DivMod_ok k (mtF j) F0 b) ?_
    rintro _ w ⟨d, c, rfl, b⟩
    refine ⟨_, rfl, ?_⟩
    refine Dn [4, 5, 6, 7] [] [8, 9] (yR rfl (m_ (.tuple #[.agg #[.bool a.1, d.v], .agg #[.bool a.2.2.1, c.v], iV a.2.2.2.2]) e0) (yR rfl (x_ (.agg #[.bool a.1, d.v]) e0) (yR rfl (x_ (.agg #[.bool a.2.2.1, c.v]) e0) (yR rfl (x_ (iV a.2.2.2.2) e0) (Rn QSn ?_)))))
    refine Lc rfl ?_ (Lc1 rfl ?_)
    ·refine LB wn (rAl b ZT_27) fun l w b => Dn [] [4, 5, 6, 7] [9] (Rn (yS rfl (m_ (.tuple #[.agg #[.bool a.1, d.v], .agg #[.bool a.2.2.1, c.v], iV a.2.2.2.2]) e0) (yS rfl (x_ (.agg #[.bool a.1, d.v]) e0) (yS rfl (x_ (.agg #[.bool a.2.2.1, c.v]) e0) (yS rfl (x_ (iV a.2.2.2.2) e0) QSn)))) ?_)
     refine Lc1 rfl ?_
     refine LB wn (rAl b ZT_27) fun m w b => Dn [] [4, 5, 6, 7] [10] (Rn (yS rfl (m_ (.tuple #[.agg #[.bool a.1, d.v], .agg #[.bool a.2.2.1, c.v], iV a.2.2.2.2]) e0) (yS rfl (x_ (.agg #[.bool a.1, d.v]) e0) (yS rfl (x_ (.agg #[.bool a.2.2.1, c.v]) e0) (yS rfl (x_ (iV a.2.2.2.2) e0) QSn)))) ?_)
     refine Lc1 rfl ?_
     replace b := b.k11
     refine LT wn (r_stbn (vals' := [.bool a.1, d.v]) (us := [.bool a.1, d.v]) b ST_27 e0 e0 rfl rfl (one_of rfl) rfl) fun w b => Dn [] [6, 7] [11] (Rn (yS rfl (x_ (.agg #[.bool a.2.2.1, c.v]) e0) (yS rfl (x_ (iV a.2.2.2.2) e0) QSn)) ?_)
     refine Lc1 rfl ?_
     replace b := b.k11
     refine LT wn (r_stbn (vals' := [.bool a.2.2.1, c.v]) (us := [.bool a.2.2.1, c.v]) b ST_27 e0 e0 rfl rfl (one_of rfl) rfl) fun w b => Dn [] [7] [12] (Rn (yS rfl (x_ (iV a.2.2.2.2) e0) QSn) ?_)
     refine Lc1 rfl ?_
     exact Ly wn (a_ (iV a.2.2.2.2) e0) (Dz [] [] (Rn QSn (i _ _ ⟨_, _, rfl, ((b.k1j).facts (allC F1 (allT (allT (allT allI)))))⟩)))
    ·refine LB wn (rAl b ZT_27) fun m w b => Dn [] [4, 5, 6, 7] [8] (Rn (yS rfl (m_ (.tuple #[.agg #[.bool a.1, d.v], .agg #[.bool a.2.2.1, c.v], iV a.2.2.2.2]) e0) (yS rfl (x_ (.agg #[.bool a.1, d.v]) e0) (yS rfl (x_ (.agg #[.bool a.2.2.1, c.v]) e0) (yS rfl (x_ (iV a.2.2.2.2) e0) QSn)))) ?_)
     refine Lc1 rfl ?_
     refine LB wn (rAl b ZT_27) fun l w b => Dn [] [4, 5, 6, 7] [10] (Rn (yS rfl (m_ (.tuple #[.agg #[.bool a.1, d.v], .agg #[.bool a.2.2.1, c.v], iV a.2.2.2.2]) e0) (yS rfl (x_ (.agg #[.bool a.1, d.v]) e0) (yS rfl (x_ (.agg #[.bool a.2.2.1, c.v]) e0) (yS rfl (x_ (iV a.2.2.2.2) e0) QSn)))) ?_)
     refine Lc1 rfl ?_
     refine LT wn (r_stbn (vals' := [.bool a.1, d.v]) (us := [.bool a.1, d.v]) b ST_27 e0 e0 rfl rfl (one_of rfl) rfl) fun w b => Dn [] [6, 7] [11] (Rn (yS rfl (x_ (.agg #[.bool a.2.2.1, c.v]) e0) (yS rfl (x_ (iV a.2.2.2.2) e0) QSn)) ?_)
     refine Lc1 rfl ?_
     replace b := b.k11
     refine LT wn (r_stbn (vals' := [.bool a.2.2.1, c.v]) (us := [.bool a.2.2.1, c.v]) b ST_27 e0 e0 rfl rfl (one_of rfl) rfl) fun w b => Dn [] [7] [12] (Rn (yS rfl (x_ (iV a.2.2.2.2) e0) QSn) ?_)
     refine Lc1 rfl ?_
     exact Ly wn (a_ (iV a.2.2.2.2) e0) (Dz [] [] (Rn QSn (i _ _ ⟨_, _, rfl, ((b.k1j).facts (allC F1 (allT (allT (allT allI)))))⟩)))
   ·refine LB wn (rAl b ZT_27) fun l w b => Dn [] [0] [3, 9] (Rn (yS rfl (lbs_ [.bool g, h.v] ST_27 e0 b R1) QSn) ?_)
    refine Lc rfl ?_ (Lc1 rfl ?_)
    ·refine Lk wn (yCall FN_85 (a2 e0 e0)) (integer_DivMod_ok k (mtF j) F0 b) ?_
     rintro _ w ⟨d, c, rfl, b⟩
     refine ⟨_, rfl, ?_⟩
     refine Dn [4, 5, 6, 7] [] [9] (yR rfl (m_ (.tuple #[.agg #[.bool a.1, d.v], .agg #[.bool a.2.2.1, c.v], iV a.2.2.2.2]) e0) (yR rfl (x_ (.agg #[.bool a.1, d.v]) e0) (yR rfl (x_ (.agg #[.bool a.2.2.1, c.v]) e0) (yR rfl (x_ (iV a.2.2.2.2) e0) (Rn QSn ?_)))))
     refine Lc1 rfl ?_
     refine LB wn (rAl b ZT_27) fun m w b => Dn [] [4, 5, 6, 7] [10] (Rn (yS rfl (m_ (.tuple #[.agg #[.bool a.1, d.v], .agg #[.bool a.2.2.1, c.v], iV a.2.2.2.2]) e0) (yS rfl (x_ (.agg #[.bool a.1, d.v]) e0) (yS rfl (x_ (.agg #[.bool a.2.2.1, c.v]) e0) (yS rfl (x_ (iV a.2.2.2.2) e0) QSn)))) ?_)
     refine Lc1 rfl ?_
     replace b := b.k11
     refine LT wn (r_stbn (vals' := [.bool a.1, d.v]) (us := [.bool a.1, d.v]) b ST_27 e0 e0 rfl rfl (one_of rfl) rfl) fun w b => Dn [] [6, 7] [11] (Rn (yS rfl (x_ (.agg #[.bool a.2.2.1, c.v]) e0) (yS rfl (x_ (iV a.2.2.2.2) e0) QSn)) ?_)
     refine Lc1 rfl ?_
     replace b := b.k11
     refine LT wn (r_stbn (vals' := [.bool a.2.2.1, c.v]) (us := [.bool a.2.2.1, c.v]) b ST_27 e0 e0 rfl rfl (one_of rfl) rfl) fun w b => Dn [] [7] [12] (Rn (yS rfl (x_ (iV a.2.2.2.2) e0) QSn) ?_)
     refine Lc1 rfl ?_
     exact Ly wn (a_ (iV a.2.2.2.2) e0) (Dz [] [] (Rn QSn (i _ _ ⟨_, _, rfl, ((b.k1j).facts (allC F1 (allT (allT (allT allI)))))⟩)))
    ·refine LB wn (rAl b ZT_27) fun m w b => Dn [] [0] [3] (Rn (yS rfl (lbs_ [.bool g, h.v] ST_27 e0 b R2) QSn) ?_)
     refine Lc1 rfl ?_
     refine Lk wn (yCall FN_85 (a2 e0 e0)) (integer_DivMod_ok k (mtF j) F0 b) ?_
     rintro _ w ⟨d, c, rfl, b⟩
     refine ⟨_, rfl, ?_⟩
     refine Dn [4, 5, 6, 7] [] [10] (yR rfl (m_ (.tuple #[.agg #[.bool a.1, d.v], .agg #[.bool a.2.2.1, c.v], iV a.2.2.2.2]) e0) (yR rfl (x_ (.agg #[.bool a.1, d.v]) e0) (yR rfl (x_ (.agg #[.bool a.2.2.1, c.v]) e0) (yR rfl (x_ (iV a.2.2.2.2) e0) (Rn QSn ?_)))))
     refine Lc1 rfl ?_
     replace b := b.k11
     refine LT wn (r_stbn (vals' := [.bool a.1, d.v]) (us := [.bool a.1, d.v]) b ST_27 e0 e0 rfl rfl (one_of rfl) rfl) fun w b => Dn [] [6, 7] [11] (Rn (yS rfl (x_ (.agg #[.bool a.2.2.1, c.v]) e0) (yS rfl (x_ (iV a.2.2.2.2) e0) QSn)) ?_)
     refine Lc1 rfl ?_
     replace b := b.k11
     refine LT wn (r_stbn (vals' := [.bool a.2.2.1, c.v]) (us := [.bool a.2.2.1, c.v]) b ST_27 e0 e0 rfl rfl (one_of rfl) rfl) fun w b => Dn [] [7] [12] (Rn (yS rfl (x_ (iV a.2.2.2.2) e0) QSn) ?_)
     refine Lc1 rfl ?_
     exact Ly wn (a_ (iV a.2.2.2.2) e0) (Dz [] [] (Rn QSn (i _ _ ⟨_, _, rfl, ((b.k1j).facts (allC F1 (allT (allT (allT allI)))))⟩)))
   ·refine LB wn (rAl b ZT_27) fun m w b => Dn [] [0] [3, 8] (Rn (yS rfl (lbs_ [.bool g, h.v] ST_27 e0 b R1) QSn) ?_)
    refine Lc rfl ?_ (Lc1 rfl ?_)
    ·refine Lk wn (yCall FN_85 (a2 e0 e0)) (integer_DivMod_ok k (mtF j) F0 b) ?_
     rintro _ w ⟨d, c, rfl, b⟩
     refine ⟨_, rfl, ?_⟩
     refine Dn [4, 5, 6, 7] [] [8] (yR rfl (m_ (.tuple #[.agg #[.bool a.1, d.v], .agg #[.bool a.2.2.1, c.v], iV a.2.2.2.2]) e0) (yR rfl (x_ (.agg #[.bool a.1, d.v]) e0) (yR rfl (x_ (.agg #[.bool a.2.2.1, c.v]) e0) (yR rfl (x_ (iV a.2.2.2.2) e0) (Rn QSn ?_)))))
     refine Lc1 rfl ?_
     refine LB wn (rAl b ZT_27) fun l w b => Dn [] [4, 5, 6, 7] [10] (Rn (yS rfl (m_ (.tuple #[.agg #[.bool a.1, d.v], .agg #[.bool a.2.2.1, c.v], iV a.2.2.2.2]) e0) (yS rfl (x_ (.agg #[.bool a.1, d.v]) e0) (yS rfl (x_ (.agg #[.bool a.2.2.1, c.v]) e0) (yS rfl (x_ (iV a.2.2.2.2) e0) QSn)))) ?_)
     refine Lc1 rfl ?_
     refine LT wn (r_stbn (vals' := [.bool a.1, d.v]) (us := [.bool a.1, d.v]) b ST_27 e0 e0 rfl rfl (one_of rfl) rfl) fun w b => Dn [] [6, 7] [11] (Rn (yS rfl (x_ (.agg #[.bool a.2.2.1, c.v]) e0) (yS rfl (x_ (iV a.2.2.2.2) e0) QSn)) ?_)
     refine Lc1 rfl ?_
     replace b := b.k11
     refine LT wn (r_stbn (vals' := [.bool a.2.2.1, c.v]) (us := [.bool a.2.2.1, c.v]) b ST_27 e0 e0 rfl rfl (one_of rfl) rfl) fun w b => Dn [] [7] [12] (Rn (yS rfl (x_ (iV a.2.2.2.2) e0) QSn) ?_)
     refine Lc1 rfl ?_
     exact Ly wn (a_ (iV a.2.2.2.2) e0) (Dz [] [] (Rn QSn (i _ _ ⟨_, _, rfl, ((b.k1j).facts (allC F1 (allT (allT (allT allI)))))⟩)))
    ·refine LB wn (rAl b ZT_27) fun l w b => Dn [] [0] [3] (Rn (yS rfl (lbs_ [.bool g, h.v] ST_27 e0 b R2) QSn) ?_)
     refine Lc1 rfl ?_
     refine Lk wn (yCall FN_85 (a2 e0 e0)) (integer_DivMod_ok k (mtF j) F0 b) ?_
     rintro _ w ⟨d, c, rfl, b⟩
     refine ⟨_, rfl, ?_⟩
     refine Dn [4, 5, 6, 7] [] [10] (yR rfl (m_ (.tuple #[.agg #[.bool a.1, d.v], .agg #[.bool a.2.2.1, c.v], iV a.2.2.2.2]) e0) (yR rfl (x_ (.agg #[.bool a.1, d.v]) e0) (yR rfl (x_ (.agg #[.bool a.2.2.1, c.v]) e0) (yR rfl (x_ (iV a.2.2.2.2) e0) (Rn QSn ?_)))))
     refine Lc1 rfl ?_
     refine LT wn (r_stbn (vals' := [.bool a.1, d.v]) (us := [.bool a.1, d.v]) b ST_27 e0 e0 rfl rfl (one_of rfl) rfl) fun w b => Dn [] [6, 7] [11] (Rn (yS rfl (x_ (.agg #[.bool a.2.2.1, c.v]) e0) (yS rfl (x_ (iV a.2.2.2.2) e0) QSn)) ?_)
     refine Lc1 rfl ?_
     replace b := b.k11
     refine LT wn (r_stbn (vals' := [.bool a.2.2.1, c.v]) (us := [.bool a.2.2.1, c.v]) b ST_27 e0 e0 rfl rfl (one_of rfl) rfl) fun w b => Dn [] [7] [12] (Rn (yS rfl (x_ (iV a.2.2.2.2) e0) QSn) ?_)
     refine Lc1 rfl ?_
     exact Ly wn (a_ (iV a.2.2.2.2) e0) (Dz [] [] (Rn QSn (i _ _ ⟨_, _, rfl, ((b.k1j).facts (allC F1 (allT (allT (allT allI)))))⟩)))
  ·refine LB wn (rAl b ZT_27) fun l w b => Dn [] [0, 1] [2, 9] (Rn (yS rfl (lbs_ [.bool g, h.v] ST_27 e0 b R1) (yS rfl (m_ (iV p) e0) QSn)) ?_)
   refine Lc rfl ?_ (Lc1 rfl ?_)
   ·refine Lk wn (yCall FN_23 (a1 e0)) (integer_FromInt_ok r b) ?_
    rintro _ w ⟨t, rfl, b⟩
    refine ⟨_, rfl, ?_⟩
    refine Dn [] [0] [3, 9] (Rn (yS rfl (lbs_ [.bool g, h.v] ST_27 e0 b R1) QSn) ?_)
    refine Lc rfl ?_ (Lc1 rfl ?_)
    ·refine Lk wn (yCall FN_85 (a2 e0 e0)) (integer_DivMod_ok k (mtF j) F0 b) ?_
     rintro _ w ⟨d, c, rfl, b⟩
     refine ⟨_, rfl, ?_⟩
     refine Dn [4, 5, 6, 7] [] [9] (yR rfl (m_ (.tuple #[.agg #[.bool a.1, d.v], .agg #[.bool a.2.2.1, c.v], iV a.2.2.2.2]) e0) (yR rfl (x_ (.agg #[.bool a.1, d.v]) e0) (yR rfl (x_ (.agg #[.bool a.2.2.1, c.v]) e0) (yR rfl (x_ (iV a.2.2.2.2) e0) (Rn QSn ?_)))))
     refine Lc1 rfl ?_
     refine LB wn (rAl b ZT_27) fun m w b => Dn [] [4, 5, 6, 7] [10] (Rn (yS rfl (m_ (.tuple #[.agg #[.bool a.1, d.v], .agg #[.bool a.2.2.1, c.v], iV a.2.2.2.2]) e0) (yS rfl (x_ (.agg #[.bool a.1, d.v]) e0) (yS rfl (x_ (.agg #[.bool a.2.2.1, c.v]) e0) (yS rfl (x_ (iV a.2.2.2.2) e0) QSn)))) ?_)
     refine Lc1 rfl ?_
     replace b := b.k11
     refine LT wn (r_stbn (vals' := [.bool a.1, d.v]) (us := [.bool a.1, d.v]) b ST_27 e0 e0 rfl rfl (one_of rfl) rfl) fun w b => Dn [] [6, 7] [11] (Rn (yS rfl (x_ (.agg #[.bool a.2.2.1, c.v]) e0) (yS rfl (x_ (iV a.2.2.2.2) e0) QSn)) ?_)
     refine Lc1 rfl ?_
     replace b := b.k11
     refine LT wn (r_stbn (vals' := [.bool a.2.2.1, c.v]) (us := [.bool a.2.2.1, c.v]) b ST_27 e0 e0 rfl rfl (one_of rfl) rfl) fun w b => Dn [] [7] [12] (Rn (yS rfl (x_ (iV a.2.2.2.2) e0) QSn) ?_)
     refine Lc1 rfl ?_
     exact Ly wn (a_ (iV a.2.2.2.2) e0) (Dz [] [] (Rn QSn (i _ _ ⟨_, _, rfl, ((b.k1j).facts (allC F1 (allT (allT (allT allI)))))⟩)))
    ·refine LB wn (rAl b ZT_27) fun m w b => Dn [] [0] [3] (Rn (yS rfl (lbs_ [.bool g, h.v] ST_27 e0 b R2) QSn) ?_)
     refine Lc1 rfl ?_
     refine Lk wn (yCall FN_85 (a2 e0 e0)) (integer_DivMod_ok k (mtF j) F0 b) ?_
     rintro _ w ⟨d, c, rfl, b⟩
     refine ⟨_, rfl, ?_⟩
     refine Dn [4, 5, 6, 7] [] [10] (yR rfl (m_ (.tuple #[.agg #[.bool a.1, d.v], .agg #[.bool a.2.2.1, c.v], iV a.2.2.2.2]) e0) (yR rfl (x_ (.agg #[.bool a.1, d.v]) e0) (yR rfl (x_ (.agg #[.bool a.2.2.1, c.v]) e0) (yR rfl (x_ (iV a.2.2.2.2) e0) (Rn QSn ?_)))))
     refine Lc1 rfl ?_
     replace b := b.k11
     refine LT wn (r_stbn (vals' := [.bool a.1, d.v]) (us := [.bool a.1, d.v]) b ST_27 e0 e0 rfl rfl (one_of rfl) rfl) fun w b => Dn [] [6, 7] [11] (Rn (yS rfl (x_ (.agg #[.bool a.2.2.1, c.v]) e0) (yS rfl (x_ (iV a.2.2.2.2) e0) QSn)) ?_)
     refine Lc1 rfl ?_
     replace b := b.k11
     refine LT wn (r_stbn (vals' := [.bool a.2.2.1, c.v]) (us := [.bool a.2.2.1, c.v]) b ST_27 e0 e0 rfl rfl (one_of rfl) rfl) fun w b => Dn [] [7] [12] (Rn (yS rfl (x_ (iV a.2.2.2.2) e0) QSn) ?_)
     refine Lc1 rfl ?_
     exact Ly wn (a_ (iV a.2.2.2.2) e0) (Dz [] [] (Rn QSn (i _ _ ⟨_, _, rfl, ((b.k1j).facts (allC F1 (allT (allT (allT allI)))))⟩)))
   ·refine LB wn (rAl b ZT_27) fun m w b => Dn [] [0, 1] [2] (Rn (yS rfl (lbs_ [.bool g, h.v] ST_27 e0 b R2) (yS rfl (m_ (iV p) e0) QSn)) ?_)
    refine Lc1 rfl ?_
    refine Lk wn (yCall FN_23 (a1 e0)) (integer_FromInt_ok r b) ?_
    rintro _ w ⟨t, rfl, b⟩
    refine ⟨_, rfl, ?_⟩
    refine Dn [] [0] [3] (Rn (yS rfl (lbs_ [.bool g, h.v] ST_27 e0 b R2) QSn) ?_)
    refine Lc1 rfl ?_
    refine Lk wn (yCall FN_85 (a2 e0 e0)) (integer_DivMod_ok k (mtF j) F0 b) ?_
    rintro _ w ⟨d, c, rfl, b⟩
    refine ⟨_, rfl, ?_⟩
    refine Dn [4, 5, 6, 7] [] [10] (yR rfl (m_ (.tuple #[.agg #[.bool a.1, d.v], .agg #[.bool a.2.2.1, c.v], iV a.2.2.2.2]) e0) (yR rfl (x_ (.agg #[.bool a.1, d.v]) e0) (yR rfl (x_ (.agg #[.bool a.2.2.1, c.v]) e0) (yR rfl (x_ (iV a.2.2.2.2) e0) (Rn QSn ?_)))))
    refine Lc1 rfl ?_
    replace b := b.k11
    refine LT wn (r_stbn (vals' := [.bool a.1, d.v]) (us := [.bool a.1, d.v]) b ST_27 e0 e0 rfl rfl (one_of rfl) rfl) fun w b => Dn [] [6, 7] [11] (Rn (yS rfl (x_ (.agg #[.bool a.2.2.1, c.v]) e0) (yS rfl (x_ (iV a.2.2.2.2) e0) QSn)) ?_)
    refine Lc1 rfl ?_
    replace b := b.k11
    refine LT wn (r_stbn (vals' := [.bool a.2.2.1, c.v]) (us := [.bool a.2.2.1, c.v]) b ST_27 e0 e0 rfl rfl (one_of rfl) rfl) fun w b => Dn [] [7] [12] (Rn (yS rfl (x_ (iV a.2.2.2.2) e0) QSn) ?_)
    refine Lc1 rfl ?_
    exact Ly wn (a_ (iV a.2.2.2.2) e0) (Dz [] [] (Rn QSn (i _ _ ⟨_, _, rfl, ((b.k1j).facts (allC F1 (allT (allT (allT allI)))))⟩)))
  ·refine LB wn (rAl b ZT_27) fun m w b => Dn [] [0, 1] [2, 8] (Rn (yS rfl (lbs_ [.bool g, h.v] ST_27 e0 b R1) (yS rfl (m_ (iV p) e0) QSn)) ?_)
   refine Lc rfl ?_ (Lc1 rfl ?_)
   ·refine Lk wn (yCall FN_23 (a1 e0)) (integer_FromInt_ok r b) ?_
    rintro _ w ⟨t, rfl, b⟩
    refine ⟨_, rfl, ?_⟩
    refine Dn [] [0] [3, 8] (Rn (yS rfl (lbs_ [.bool g, h.v] ST_27 e0 b R1) QSn) ?_)
    refine Lc rfl ?_ (Lc1 rfl ?_)
    ·refine Lk wn (yCall FN_85 (a2 e0 e0)) (integer_DivMod_ok k (mtF j) F0 b) ?_
     rintro _ w ⟨d, c, rfl, b⟩
     refine ⟨_, rfl, ?_⟩
     refine Dn [4, 5, 6, 7] [] [8] (yR rfl (m_ (.tuple #[.agg #[.bool a.1, d.v], .agg #[.bool a.2.2.1, c.v], iV a.2.2.2.2]) e0) (yR rfl (x_ (.agg #[.bool a.1, d.v]) e0) (yR rfl (x_ (.agg #[.bool a.2.2.1, c.v]) e0) (yR rfl (x_ (iV a.2.2.2.2) e0) (Rn QSn ?_)))))
     refine Lc1 rfl ?_
     refine LB wn (rAl b ZT_27) fun l w b => Dn [] [4, 5, 6, 7] [10] (Rn (yS rfl (m_ (.tuple #[.agg #[.bool a.1, d.v], .agg #[.bool a.2.2.1, c.v], iV a.2.2.2.2]) e0) (yS rfl (x_ (.agg #[.bool a.1, d.v]) e0) (yS rfl (x_ (.agg #[.bool a.2.2.1, c.v]) e0) (yS rfl (x_ (iV a.2.2.2.2) e0) QSn)))) ?_)
     refine Lc1 rfl ?_
     refine LT wn (r_stbn (vals' := [.bool a.1, d.v]) (us := [.bool a.1, d.v]) b ST_27 e0 e0 rfl rfl (one_of rfl) rfl) fun w b => Dn [] [6, 7] [11] (Rn (yS rfl (x_ (.agg #[.bool a.2.2.1, c.v]) e0) (yS rfl (x_ (iV a.2.2.2.2) e0) QSn)) ?_)
     refine Lc1 rfl ?_
     replace b := b.k11
     refine LT wn (r_stbn (vals' := [.bool a.2.2.1, c.v]) (us := [.bool a.2.2.1, c.v]) b ST_27 e0 e0 rfl rfl (one_of rfl) rfl) fun w b => Dn [] [7] [12] (Rn (yS rfl (x_ (iV a.2.2.2.2) e0) QSn) ?_)
     refine Lc1 rfl ?_
     exact Ly wn (a_ (iV a.2.2.2.2) e0) (Dz [] [] (Rn QSn (i _ _ ⟨_, _, rfl, ((b.k1j).facts (allC F1 (allT (allT (allT allI)))))⟩)))
    ·refine LB wn (rAl b ZT_27) fun l w b => Dn [] [0] [3] (Rn (yS rfl (lbs_ [.bool g, h.v] ST_27 e0 b R2) QSn) ?_)
     refine Lc1 rfl ?_
     refine Lk wn (yCall FN_85 (a2 e0 e0)) (integer_DivMod_ok k (mtF j) F0 b) ?_
     rintro _ w ⟨d, c, rfl, b⟩
     refine ⟨_, rfl, ?_⟩
     refine Dn [4, 5, 6, 7] [] [10] (yR rfl (m_ (.tuple #[.agg #[.bool a.1, d.v], .agg #[.bool a.2.2.1, c.v], iV a.2.2.2.2]) e0) (yR rfl (x_ (.agg #[.bool a.1, d.v]) e0) (yR rfl (x_ (.agg #[.bool a.2.2.1, c.v]) e0) (yR rfl (x_ (iV a.2.2.2.2) e0) (Rn QSn ?_)))))
     refine Lc1 rfl ?_
     refine LT wn (r_stbn (vals' := [.bool a.1, d.v]) (us := [.bool a.1, d.v]) b ST_27 e0 e0 rfl rfl (one_of rfl) rfl) fun w b => Dn [] [6, 7] [11] (Rn (yS rfl (x_ (.agg #[.bool a.2.2.1, c.v]) e0) (yS rfl (x_ (iV a.2.2.2.2) e0) QSn)) ?_)
     refine Lc1 rfl ?_
     replace b := b.k11
     refine LT wn (r_stbn (vals' := [.bool a.2.2.1, c.v]) (us := [.bool a.2.2.1, c.v]) b ST_27 e0 e0 rfl rfl (one_of rfl) rfl) fun w b => Dn [] [7] [12] (Rn (yS rfl (x_ (iV a.2.2.2.2) e0) QSn) ?_)
     refine Lc1 rfl ?_
     exact Ly wn (a_ (iV a.2.2.2.2) e0) (Dz [] [] (Rn QSn (i _ _ ⟨_, _, rfl, ((b.k1j).facts (allC F1 (allT (allT (allT allI)))))⟩)))
   ·refine LB wn (rAl b ZT_27) fun l w b => Dn [] [0, 1] [2] (Rn (yS rfl (lbs_ [.bool g, h.v] ST_27 e0 b R2) (yS rfl (m_ (iV p) e0) QSn)) ?_)
    refine Lc1 rfl ?_
    refine Lk wn (yCall FN_23 (a1 e0)) (integer_FromInt_ok r b) ?_
    rintro _ w ⟨t, rfl, b⟩
    refine ⟨_, rfl, ?_⟩
    refine Dn [] [0] [3] (Rn (yS rfl (lbs_ [.bool g, h.v] ST_27 e0 b R2) QSn) ?_)
    refine Lc1 rfl ?_
    refine Lk wn (yCall FN_85 (a2 e0 e0)) (integer_DivMod_ok k (mtF j) F0 b) ?_
    rintro _ w ⟨d, c, rfl, b⟩
    refine ⟨_, rfl, ?_⟩
    refine Dn [4, 5, 6, 7] [] [10] (yR rfl (m_ (.tuple #[.agg #[.bool a.1, d.v], .agg #[.bool a.2.2.1, c.v], iV a.2.2.2.2]) e0) (yR rfl (x_ (.agg #[.bool a.1, d.v]) e0) (yR rfl (x_ (.agg #[.bool a.2.2.1, c.v]) e0) (yR rfl (x_ (iV a.2.2.2.2) e0) (Rn QSn ?_)))))
    refine Lc1 rfl ?_
    refine LT wn (r_stbn (vals' := [.bool a.1, d.v]) (us := [.bool a.1, d.v]) b ST_27 e0 e0 rfl rfl (one_of rfl) rfl) fun w b => Dn [] [6, 7] [11] (Rn (yS rfl (x_ (.agg #[.bool a.2.2.1, c.v]) e0) (yS rfl (x_ (iV a.2.2.2.2) e0) QSn)) ?_)
    refine Lc1 rfl ?_
    replace b := b.k11
    refine LT wn (r_stbn (vals' := [.bool a.2.2.1, c.v]) (us := [.bool a.2.2.1, c.v]) b ST_27 e0 e0 rfl rfl (one_of rfl) rfl) fun w b => Dn [] [7] [12] (Rn (yS rfl (x_ (iV a.2.2.2.2) e0) QSn) ?_)
    refine Lc1 rfl ?_
    exact Ly wn (a_ (iV a.2.2.2.2) e0) (Dz [] [] (Rn QSn (i _ _ ⟨_, _, rfl, ((b.k1j).facts (allC F1 (allT (allT (allT allI)))))⟩)))
 rintro f w ⟨u, s, B, b⟩
 refine A _ _ (sR fun _ C => yY (lbs_ [.bool a.2.2.1, s.v] ST_27 (eh B) b R0) (bE q fun o D q => yC (yCall FN_107 (a1 e0)) (integer_Int_ok D F0 b) ?_))
 rintro _ w ⟨rfl, b⟩
 refine ⟨_, rfl, ?_⟩
 refine Ym (.tuple #[iV o.1, .bool o.2]) e0 (yY (x_ (iV o.1) e0) (yY (x_ (.bool o.2) e0) (Ya (iV o.1) e0 (Ya (.bool o.2) e0 (wK C (sR fun _ E => Ym (iV o.1) e0 (Ya (iV o.1) e0 (wK E (wp_ret ?_)))))))))
 cases q
 exact y _ _ _ (fin1r Tryz.results63 ⟨rfl, rfl⟩ ⟨rfl, ((b.k10).facts (allT allI))⟩)
theorem integer_times_ok {n t : LI} {l g : Hdr} {out : LI} (h : integer_times n t = some out) (u : imm (rI .u32) l.v n ∈ ros) (r : imm (rI .u32) g.v t ∈ ros) (b : St w0 ros rs w) :
  Calls Tryz.prog 76 #[l.v, g.v] w (fun e w => ∃ (I : Hdr), e = .returned (I.v) ∧ St w0 (imm (rI .u32) I.v out :: ros) rs w) := by
 refine enterQ Tryz.func76 rfl Tryz.ntmps76 rfl fun Q J => sR fun _ a9 => Ya hnil.v rfl (wK a9 (seqQ fun g7 b0 b1 => sR fun _ b2 => Ym l.v e0 (yY (yLen SL_25 e0 b (rdI u)) (yY (yeql e0 rfl) (Ym (.bool (decide ((n.length : Int) = 0))) e0 ?_)))))
 refine joinW 4 (fun f w => f 0 = l.v ∧ f 1 = g.v ∧ f 19 = .bool ((decide ((n.length : Int) = 0)) || (decide ((t.length : Int) = 0))) ∧ St w0 ros rs w) (fun K => ?_) ?_
 ·rcases Bool.eq_false_or_eq_true (decide ((n.length : Int) = 0)) with i | i
  ·exact gN i (gN i (gN i (yY (pt_ (.bool true) e0 i rfl) (K _ _ ⟨rfl, rfl, (congrArg Value.bool (orT i)), b⟩))))
  ·exact yG i (m_ g.v e0) (yG i (yLen SL_25 e0 b (rdI r)) (yG i (yeql e0 rfl) (yY (pf_ (.bool (decide ((t.length : Int) = 0))) e0 i e0) (K _ _ ⟨rfl, rfl, (congrArg Value.bool (orF i)), b⟩))))
 rintro f w ⟨L, x, b3, b⟩
 refine wK b2 (cB (eh b3) h (fun b4 h => ?_) fun b4 h => ?_)
 ·refine sR fun _ b5 => Ya hnil.v rfl (wK b5 (wp_ret (b1 _ _ _ rfl ?_)))
  cases h
  replace b := b.immNh (rI .u32)
  exact J _ _ _ (fin1r Tryz.results76 ⟨rfl, rfl⟩ ⟨_, rfl, b⟩)
 ·refine wp_skip (b0 _ _ (sR fun _ b6 => Ym l.v (eh L) (yY (yLen SL_25 e0 b (rdI u)) (Ym g.v (eh x) (yY (yLen SL_25 e0 b (rdI r)) (yY (yadd e0 e0) (bE h fun g8 b7 h => yH (rMk b SL_25 e0 b7) fun c w b => Ya c.v e0 (wN ?_))))))))
  refine b6 _ _ (sQ fun _ b8 => sR fun _ b9 => Ym l.v (eh L) (yY (yLen SL_25 e0 b (rdI u)) (Ym (iV 0) rfl (wK b9 (blockQ fun c0 c1 => bE h fun c2 c3 h => ?_)))))
  have c4 : ∀ (E : LI) (f : FV) w, f 5 = c.v → St w0 ros (row 88 (rI .u32) c.v E :: rs) w → E = c2 → c0 (.exit 0) (fr 77 f) w := by
   intro E f w c5 b ho
   subst ho
   refine c1 _ _ _ (b8 _ _ (sR fun _ c8 => Ym c.v (eh c5) (bE h fun g9 c9 h => ?_)))
   replace b := b.fz
   refine yC (yCall FN_77 (a1 e0)) (integer_trim_ok c9 F0 b) ?_
   rintro _ w ⟨d0, rfl, b⟩
   refine ⟨_, rfl, ?_⟩
   refine Ya d0.v e0 (wK c8 (wp_ret ?_))
   cases h
   exact J _ _ _ (fin1r Tryz.results76 ⟨rfl, rfl⟩ ⟨_, rfl, (b.facts (allC F0 (allT (allT allI))))⟩)
  refine loopQ (fun s a w => ∃ (F : LI) (d : Int) (f : FV), (F, d) = s ∧ a = fr 77 f ∧ f 1 = g.v ∧ f 5 = c.v ∧ f 26 = l.v ∧ f 27 = iV (n.length : Int) ∧ f 28 = iV d ∧ St w0 ros (row 88 (rI .u32) c.v F :: rs) w) c3 ⟨_, _, _, rfl, rfl, x, rfl, rfl, rfl, rfl, b⟩ ?_
  rintro _ _ w h0 ⟨F, d, f, rfl, rfl, N, O, R, S, A, b⟩ j d1 h1 d2 d3
  refine sR fun _ d4 => yY (ylss (eh A) (eh S)) (wK d4 (seqQ fun h3 d5 d6 => ?_))
  refine cIf e0 j (fun d7 j => ?_) fun d7 j => ?_
  ·refine wp_skip (d5 _ _ (sQ fun _ d8 => blockQ fun _ d9 => sR fun _ e1 => Ym (iV d) (eh A) (bE j fun o T j => yY (yIa SL_25 (eh R) (eh A) b (rdI u) T) (yY (yI O_88 e0 b (rdI u) T) (Ya (iV d) e0 (Ya (.int .u32 o) e0 (wK e1 ?_)))))))
   refine sR fun _ e2 => Ya (.int .u64 0) rfl (wK e2 (sQ fun _ e3 => sR fun _ e4 => Ym g.v (eh N) (yY (yLen SL_25 e0 b (rdI r)) (Ym (iV 0) rfl (wK e4 (blockQ fun e5 e6 => ?_))))))
   refine bE j fun e7 e8 j => ?_
   have e9 : ∀ (G : LI) (y : Int) (f : FV) w, f 1 = g.v → f 5 = c.v → f 6 = iV d → f 8 = .int .u64 y → f 26 = l.v → f 27 = iV (n.length : Int) → f 28 = iV d → St w0 ros (row 88 (rI .u32) c.v G :: rs) w → (G, y) = e7 → e5 (.exit 2) (fr 77 f) w := by
    intro G y f w U V f0 f1 f2 f3 f4 b ho
    subst ho
    refine e6 _ _ _ (e3 _ _ (wR (Ym c.v (eh V) (Ym (iV d) (eh f0) (Ym g.v (eh U) (yY (yLen SL_25 e0 b (rdI r)) (yY (yadd e0 e0) (Ym (.int .u64 y) (eh f1) (yY (ycv (k' := .u32) (by kernel_rfl) (by kernel_rfl) e0) (bE j fun h5 W j => yY (yIs SL_25 e0 e0 b rO0 W) (yT (r_sti (cs := [.int .u32 (wc .u32 y)]) b O_88 rfl e0 e0 rfl mkI W) fun w b => ?_)))))))))))
    refine wN (d9 _ _ _ (d8 _ _ (wR (yY (yadd (eh f4) rfl) (Ym (iV (wa .i64 d 1)) e0 (wN ?_))))))
    cases j
    exact d2 _ _ _ rfl ⟨_, _, _, rfl, rfl, U, V, f2, f3, rfl, b⟩
   refine loopQ (fun s a w => ∃ (H : LI) (m p : Int) (f : FV), (H, m, p) = s ∧ a = fr 77 f ∧ f 1 = g.v ∧ f 5 = c.v ∧ f 6 = iV d ∧ f 7 = .int .u32 o ∧ f 8 = .int .u64 m ∧ f 26 = l.v ∧ f 27 = iV (n.length : Int) ∧ f 28 = iV d ∧ f 33 = g.v ∧ f 34 = iV (t.length : Int) ∧ f 35 = iV p ∧ St w0 ros (row 88 (rI .u32) c.v H :: rs) w) e8 ⟨_, _, _, _, rfl, rfl, N, O, rfl, rfl, rfl, R, S, A, rfl, rfl, rfl, b⟩ ?_
   rintro _ _ w h6 ⟨H, m, p, f, rfl, rfl, x, B, C, X, Z, a0, a2, a3, a4, a5, D, b⟩ k f5 h7 f6 f7
   refine sR fun _ f8 => yY (ylss (eh D) (eh a5)) (wK f8 (seqQ fun h9 f9 g0 => ?_))
   refine cIf e0 k (fun g1 k => ?_) fun g1 k => ?_
   ·refine wp_skip (f9 _ _ (sQ fun _ g2 => blockQ fun _ g3 => sR fun _ g4 => Ym (iV p) (eh D) (bE k fun q a6 k => yY (yIa SL_25 (eh a4) (eh D) b (rdI r) a6) (yY (yI O_88 e0 b (rdI r) a6) (Ya (iV p) e0 (Ya (.int .u32 q) e0 (wK g4 ?_)))))))
    refine sR fun _ g5 => Ym (.int .u32 o) (eh X) (yY (ycv (k' := .u64) (by kernel_rfl) (by kernel_rfl) e0) (Ym (.int .u32 q) e0 (yY (ycv (k' := .u64) (by kernel_rfl) (by kernel_rfl) e0) (yY (ymul e0 e0) (Ym c.v (eh B) (Ym (iV d) (eh C) (Ym (iV p) e0 (yY (yadd e0 e0) (bE k fun z a7 k => yY (yIa SL_25 e0 e0 b rO0 a7) (yY (yI O_88 e0 b rO0 a7) ?_))))))))))
    refine yY (ycv (k' := .u64) (by kernel_rfl) (by kernel_rfl) e0) (yY (yadd e0 e0) (Ym (.int .u64 m) (eh Z) (yY (yadd e0 e0) (Ya (.int .u64 (wa .u64 (wa .u64 (wm .u64 (wc .u64 o) (wc .u64 q)) (wc .u64 z)) m)) e0 (wK g5 (sR fun _ g6 => Ym c.v (eh B) (Ym (iV d) (eh C) (Ym (iV p) e0 (yY (yadd e0 e0) (Ym (.int .u64 (wa .u64 (wa .u64 (wm .u64 (wc .u64 o) (wc .u64 q)) (wc .u64 z)) m)) e0 ?_))))))))))
    refine yY (yand e0 rfl) (yY (ycv (k' := .u32) (by kernel_rfl) (by kernel_rfl) e0) (bE k fun i0 a8 k => yY (yIs SL_25 e0 e0 b rO0 a8) (yT (r_sti (cs := [.int .u32 (wc .u32 (wand .u64 (wa .u64 (wa .u64 (wm .u64 (wc .u64 o) (wc .u64 q)) (wc .u64 z)) m) 4294967295))]) b O_88 rfl e0 e0 rfl mkI a8) fun w b => wK g6 (wR (Ym (.int .u64 (wa .u64 (wa .u64 (wm .u64 (wc .u64 o) (wc .u64 q)) (wc .u64 z)) m)) e0 (yY (yshrc e0 rfl) (Ya (.int .u64 (wsrc .u64 (wa .u64 (wa .u64 (wm .u64 (wc .u64 o) (wc .u64 q)) (wc .u64 z)) m) 32)) e0 (wN (g3 _ _ _ ?_)))))))))
    refine g2 _ _ (wR (yY (yadd (eh D) rfl) (Ym (iV (wa .i64 p 1)) e0 (wN ?_))))
    cases k
    exact f6 _ _ _ rfl ⟨_, _, _, _, rfl, rfl, x, B, C, X, rfl, a0, a2, a3, a4, a5, rfl, b⟩
   ·refine wp_exit (g0 _ _ _ rfl ?_)
    cases k
    exact f7 _ _ _ _ rfl rfl (e9 _ _ _ _ x B C Z a0 a2 a3 b (f5 _ rfl))
  ·refine wp_exit (d6 _ _ _ rfl ?_)
   cases j
   exact d3 _ _ _ _ rfl rfl (c4 _ _ _ O b (d1 _ rfl))
theorem integer_Mul_ok {c : Bool} {h : LI} {d : Bool} {i : LI} {g f : Hdr} {out : Bool × LI} (b : integer_Mul c h d i = some out) (m : imm (rI .u32) g.v h ∈ ros) (n : imm (rI .u32) f.v i ∈ ros) (a : St w0 ros rs w) :
  Calls Tryz.prog 22 #[.agg #[.bool c, g.v], .agg #[.bool d, f.v]] w (fun e w => ∃ (j : Hdr), e = .returned (.agg #[.bool out.1, j.v]) ∧ St w0 (imm (rI .u32) j.v out.2 :: ros) rs w) := by
 refine enterQ Tryz.func22 rfl Tryz.ntmps22 rfl fun Q o => sR fun _ p => yBb (r_box (vals := [.bool c, g.v]) a e0 rfl) fun x w a => yBb (r_box (vals := [.bool d, f.v]) a e0 rfl) fun y w a => yBb (rAl a ZT_27) fun z w a => wK p (sQ fun _ q => bE b fun A r b => bE b fun B s b => ?_)
 refine bE b fun C t b => bE b fun k u b => dR [0, 1, 0, 4, 15, 0, 32, 96, 0, 256, 992, 2016, 4095, 8191] [7, 10, 11, 12, 13] 5 folM ?_
 replace a := a.drew
 refine Dn [0, 1, 2, 3, 4, 5, 6, 8, 9] [] [7] (yR rfl (yFb FL_27_0 e0) (yR rfl (lb_ (.bool c) O_4 e0 a R2) (yR rfl (yFb FL_27_0 e0) (yR rfl (lb_ (.bool d) O_4 e0 a R1) (yR rfl (yneb (by kernel_rfl) e0 e0) (yR rfl (yFb FL_27_1 e0) (yR rfl (lb_ g.v O_25 e0 a R2) (yR rfl (yFb FL_27_1 e0) (yR rfl (lb_ f.v O_25 e0 a R1) (Rn QSn ?_))))))))))
 refine Lc1 rfl ?_
 refine Lk wn (yCall FN_77 (a1 e0)) (integer_trim_ok r m a) ?_
 rintro _ w ⟨D, rfl, a⟩
 refine ⟨_, rfl, ?_⟩
 refine Dn [] [0, 1, 2, 3, 4, 8, 9] [10] (Rn (yS rfl (yFb FL_27_0 e0) (yS rfl (lb_ (.bool c) O_4 e0 a R2) (yS rfl (yFb FL_27_0 e0) (yS rfl (lb_ (.bool d) O_4 e0 a R1) (yS rfl (yneb (by kernel_rfl) e0 e0) (yS rfl (yFb FL_27_1 e0) (yS rfl (lb_ f.v O_25 e0 a R1) QSn))))))) ?_)
 refine Lc1 rfl ?_
 refine Lk wn (yCall FN_77 (a1 e0)) (integer_trim_ok s (mtF n) a) ?_
 rintro _ w ⟨E, rfl, a⟩
 refine ⟨_, rfl, ?_⟩
 refine Dn [] [0, 1, 2, 3, 4] [11] (Rn (yS rfl (yFb FL_27_0 e0) (yS rfl (lb_ (.bool c) O_4 e0 a R2) (yS rfl (yFb FL_27_0 e0) (yS rfl (lb_ (.bool d) O_4 e0 a R1) (yS rfl (yneb (by kernel_rfl) e0 e0) QSn))))) ?_)
 refine Lc1 rfl ?_
 refine Lk wn (yCall FN_76 (a2 e0 e0)) (integer_times_ok t F1 F0 a) ?_
 rintro _ w ⟨F, rfl, a⟩
 refine ⟨_, rfl, ?_⟩
 refine Dn [] [0, 1, 2, 3, 4] [12] (Rn (yS rfl (yFb FL_27_0 e0) (yS rfl (lb_ (.bool c) O_4 e0 a R2) (yS rfl (yFb FL_27_0 e0) (yS rfl (lb_ (.bool d) O_4 e0 a R1) (yS rfl (yneb (by kernel_rfl) e0 e0) QSn))))) ?_)
 refine Lc1 rfl ?_
 refine Lk wn (yCall FN_74 (a2 e0 e0)) (integer_big_ok u F0 a) ?_
 rintro _ w ⟨l, rfl, a⟩
 refine ⟨_, rfl, ?_⟩
 refine Dn [] [] [13] (Rn QSn ?_)
 refine Lc1 rfl ?_
 refine LT wn (r_stbn (vals' := [.bool k.1, l.v]) (us := [.bool k.1, l.v]) a ST_27 e0 e0 rfl rfl (one_of rfl) rfl) fun w a => Dz [] [] (Rn QSn (q _ _ (wp_ret ?_)))
 cases b
 exact o _ _ _ (fin1r Tryz.results22 (rcs2 rfl rfl a R0 ST_27 rfl) ⟨_, rfl, ((a.k1k).facts (allC F0 (allT (allT (allT (allT allI))))))⟩)
theorem integer_Add_ok {c : Bool} {l : LI} {d : Bool} {m : LI} {i f : Hdr} {out : Bool × LI} (b : integer_Add c l d m = some out) (x : imm (rI .u32) i.v l ∈ ros) (y : imm (rI .u32) f.v m ∈ ros) (a : St w0 ros rs w) :
  Calls Tryz.prog 65 #[.agg #[.bool c, i.v], .agg #[.bool d, f.v]] w (fun e w => ∃ (n : Hdr), e = .returned (.agg #[.bool out.1, n.v]) ∧ St w0 (imm (rI .u32) n.v out.2 :: ros) rs w) := by
 refine enterQ Tryz.func65 rfl Tryz.ntmps65 rfl fun Q j => sR fun _ z => yBb (r_box (vals := [.bool c, i.v]) a e0 rfl) fun W w a => yBb (r_box (vals := [.bool d, f.v]) a e0 rfl) fun X w a => yBb (rAl a ZT_27) fun Z w a => wK z (sQ fun _ A => bE b fun a0 B b => bE b fun a3 C b => ?_)
 refine dR [0, 1, 3, 0, 8, 31, 63, 127] [2, 5, 6, 7] 4 folM ?_
 replace a := a.drew
 refine Dn [0, 1, 3, 4] [] [2] (yR rfl (yFb FL_27_1 e0) (yR rfl (lb_ i.v O_25 e0 a R2) (yR rfl (yFb FL_27_1 e0) (yR rfl (lb_ f.v O_25 e0 a R1) (Rn QSn ?_)))))
 refine Lc1 rfl ?_
 refine Lk wn (yCall FN_77 (a1 e0)) (integer_trim_ok B x a) ?_
 rintro _ w ⟨g, rfl, a⟩
 refine ⟨_, rfl, ?_⟩
 refine Dn [] [3, 4] [5] (Rn (yS rfl (yFb FL_27_1 e0) (yS rfl (lb_ f.v O_25 e0 a R1) QSn)) ?_)
 refine Lc1 rfl ?_
 refine Lk wn (yCall FN_77 (a1 e0)) (integer_trim_ok C (mtF y) a) ?_
 rintro _ w ⟨h, rfl, a⟩
 refine ⟨_, rfl, ?_⟩
 refine Dn [] [] [6] (Rn QSn ?_)
 refine Lc1 rfl ?_
 refine Ly wn (a_ g.v e0) (Dn [] [] [7] (Rn QSn ?_))
 refine Lc1 rfl ?_
 refine Ly wn (a_ h.v e0) (Dz [] [] (Rn QSn (A _ _ (seqQ fun a4 D o => blockQ fun _ k => sR fun _ E => yY (yFb FL_27_0 e0) (yY (lb_ (.bool c) O_4 e0 a R2) (yY (yFb FL_27_0 e0) (yY (lb_ (.bool d) O_4 e0 a R1) (yY (yeqb (by kernel_rfl) e0 e0) (Ya (.bool (c == d)) e0 ?_)))))))))
 refine wK E (cB e0 b (fun F b => ?_) fun F b => ?_)
 ·refine sQ fun _ G => bE b fun a5 H b => bE b fun p I b => dR [0, 1, 0, 0, 12, 31, 63] [4, 5, 6] 3 folM ?_
  replace a := a.drew
  refine Dn [0, 1, 2, 3] [] [4] (yR rfl (yFb FL_27_0 e0) (yR rfl (lb_ (.bool c) O_4 e0 a R2) (yR rfl (m_ g.v e0) (yR rfl (m_ h.v e0) (Rn QSn ?_)))))
  refine Lc1 rfl ?_
  refine Lk wn (yCall FN_108 (a2 e0 e0)) (integer_plus_ok H F1 F0 a) ?_
  rintro _ w ⟨a6, rfl, a⟩
  refine ⟨_, rfl, ?_⟩
  refine Dn [] [0, 1] [5] (Rn (yS rfl (yFb FL_27_0 e0) (yS rfl (lb_ (.bool c) O_4 e0 a R2) QSn)) ?_)
  refine Lc1 rfl ?_
  refine Lk wn (yCall FN_74 (a2 e0 e0)) (integer_big_ok I F0 a) ?_
  rintro _ w ⟨q, rfl, a⟩
  refine ⟨_, rfl, ?_⟩
  refine Dn [] [] [6] (Rn QSn ?_)
  refine Lc1 rfl ?_
  refine LT wn (r_stbn (vals' := [.bool p.1, q.v]) (us := [.bool p.1, q.v]) a ST_27 e0 e0 rfl rfl (one_of rfl) rfl) fun w a => Dz [] [] (Rn QSn (G _ _ (wp_ret (k _ _ _ (o _ _ _ rfl ?_)))))
  cases b
  exact j _ _ _ (fin1r Tryz.results65 (rcs2 rfl rfl a R0 ST_27 rfl) ⟨_, rfl, ((a.k1k).facts (allC F0 (allT (allT (allT (allT allI))))))⟩)
 ·refine sR fun _ J => Ym g.v e0 (Ym h.v e0 (bE b fun K L b => yC (yCall FN_109 (a2 e0 e0)) (integer_compare_ok L F1 F0 a) ?_))
  rintro _ w ⟨rfl, a⟩
  refine ⟨_, rfl, ?_⟩
  refine yY (ygeq e0 rfl) (Ya (.bool (decide ((0 : Int) ≤ K))) e0 (wK J ?_))
  refine cIf e0 b (fun N b => ?_) fun N b => ?_
  ·refine sQ fun _ O => bE b fun a7 R b => bE b fun r S b => dR [0, 1, 0, 0, 12, 31, 63] [4, 5, 6] 3 folM ?_
   replace a := a.drew
   refine Dn [0, 1, 2, 3] [] [4] (yR rfl (yFb FL_27_0 e0) (yR rfl (lb_ (.bool c) O_4 e0 a R2) (yR rfl (m_ g.v e0) (yR rfl (m_ h.v e0) (Rn QSn ?_)))))
   refine Lc1 rfl ?_
   refine Lk wn (yCall FN_110 (a2 e0 e0)) (integer_minus_ok R F1 F0 a) ?_
   rintro _ w ⟨a8, rfl, a⟩
   refine ⟨_, rfl, ?_⟩
   refine Dn [] [0, 1] [5] (Rn (yS rfl (yFb FL_27_0 e0) (yS rfl (lb_ (.bool c) O_4 e0 a R2) QSn)) ?_)
   refine Lc1 rfl ?_
   refine Lk wn (yCall FN_74 (a2 e0 e0)) (integer_big_ok S F0 a) ?_
   rintro _ w ⟨s, rfl, a⟩
   refine ⟨_, rfl, ?_⟩
   refine Dn [] [] [6] (Rn QSn ?_)
   refine Lc1 rfl ?_
   refine LT wn (r_stbn (vals' := [.bool r.1, s.v]) (us := [.bool r.1, s.v]) a ST_27 e0 e0 rfl rfl (one_of rfl) rfl) fun w a => Dz [] [] (Rn QSn (O _ _ (wp_ret (k _ _ _ (o _ _ _ rfl ?_)))))
   cases b
   exact j _ _ _ (fin1r Tryz.results65 (rcs2 rfl rfl a R0 ST_27 rfl) ⟨_, rfl, ((a.k1k).facts (allC F0 (allT (allT (allT (allT allI))))))⟩)
  ·refine wp_skip (k _ _ _ (D _ _ (sQ fun _ T => bE b fun a9 U b => bE b fun t V b => dR [0, 1, 0, 0, 12, 31, 63] [4, 5, 6] 3 folM ?_)))
   replace a := a.drew
   refine Dn [0, 1, 2, 3] [] [4] (yR rfl (yFb FL_27_0 e0) (yR rfl (lb_ (.bool d) O_4 e0 a R1) (yR rfl (m_ h.v e0) (yR rfl (m_ g.v e0) (Rn QSn ?_)))))
   refine Lc1 rfl ?_
   refine Lk wn (yCall FN_110 (a2 e0 e0)) (integer_minus_ok U F0 F1 a) ?_
   rintro _ w ⟨b0, rfl, a⟩
   refine ⟨_, rfl, ?_⟩
   refine Dn [] [0, 1] [5] (Rn (yS rfl (yFb FL_27_0 e0) (yS rfl (lb_ (.bool d) O_4 e0 a R1) QSn)) ?_)
   refine Lc1 rfl ?_
   refine Lk wn (yCall FN_74 (a2 e0 e0)) (integer_big_ok V F0 a) ?_
   rintro _ w ⟨u, rfl, a⟩
   refine ⟨_, rfl, ?_⟩
   refine Dn [] [] [6] (Rn QSn ?_)
   refine Lc1 rfl ?_
   refine LT wn (r_stbn (vals' := [.bool t.1, u.v]) (us := [.bool t.1, u.v]) a ST_27 e0 e0 rfl rfl (one_of rfl) rfl) fun w a => Dz [] [] (Rn QSn (T _ _ (wp_ret ?_)))
   cases b
   exact j _ _ _ (fin1r Tryz.results65 (rcs2 rfl rfl a R0 ST_27 rfl) ⟨_, rfl, ((a.k1k).facts (allC F0 (allT (allT (allT (allT allI))))))⟩)
theorem integer_Sign_ok {c : Bool} {h : LI} {d : Hdr} {out : Int} (a : integer_Sign c h = some out) (j : imm (rI .u32) d.v h ∈ ros) (b : St w0 ros rs w) :
  Calls Tryz.prog 84 #[.agg #[.bool c, d.v]] w (fun e w => e = .returned (iV out) ∧ St w0 ros rs w) := by
 refine enterQ Tryz.func84 rfl Tryz.ntmps84 rfl fun Q f => sR fun _ k => yBb (r_box (vals := [.bool c, d.v]) b e0 rfl) fun x w b => Ya (iV 0) rfl (wK k (seqQ fun y l i => blockQ fun _ g => sR fun _ m => yY (yFb FL_27_1 e0) (yY (lb_ d.v O_25 e0 b R0) ?_)))
 refine bE a fun n o a => yC (yCall FN_77 (a1 e0)) (integer_trim_ok o j b) ?_
 rintro _ w ⟨z, rfl, b⟩
 refine ⟨_, rfl, ?_⟩
 refine yY (yLen SL_25 e0 b (rdI F0)) (yY (yeql e0 rfl) (Ya (.bool (decide ((n.length : Int) = 0))) e0 (wK m ?_)))
 refine cIf e0 a (fun p a => ?_) fun p a => ?_
 ·refine sR fun _ q => Ya (iV 0) rfl (wK q (wp_ret (g _ _ _ (i _ _ _ rfl ?_))))
  cases a
  exact f _ _ _ (fin1r Tryz.results84 ⟨rfl, rfl⟩ ⟨rfl, ((b.k10).facts (allT allI))⟩)
 ·refine sR fun _ r => yY (yFb FL_27_0 e0) (yY (lb_ (.bool c) O_4 e0 b R0) (Ya (.bool c) e0 (wK r (cB e0 a (fun s a => ?_) fun s a => ?_))))
  ·refine sR fun _ t => Ya (iV (-1)) rfl (wK t (wp_ret (g _ _ _ (i _ _ _ rfl ?_))))
   cases a
   exact f _ _ _ (fin1r Tryz.results84 ⟨rfl, rfl⟩ ⟨rfl, ((b.k10).facts (allT allI))⟩)
  ·refine wp_skip (g _ _ _ (l _ _ (sR fun _ u => Ya (iV 1) rfl (wK u (wp_ret ?_)))))
   cases a
   exact f _ _ _ (fin1r Tryz.results84 ⟨rfl, rfl⟩ ⟨rfl, ((b.k10).facts (allT allI))⟩)
theorem integer_Cmp_ok {i : Bool} {l : LI} {f : Bool} {m : LI} {g d : Hdr} {out : Int} (b : integer_Cmp i l f m = some out) (n : imm (rI .u32) g.v l ∈ ros) (o : imm (rI .u32) d.v m ∈ ros) (a : St w0 ros rs w) :
  Calls Tryz.prog 66 #[.agg #[.bool i, g.v], .agg #[.bool f, d.v]] w (fun e w => e = .returned (iV out) ∧ St w0 ros rs w) := by
 refine enterQ Tryz.func66 rfl Tryz.ntmps66 rfl fun Q j => sR fun _ q => yBb (r_box (vals := [.bool i, g.v]) a e0 rfl) fun I w a => yBb (r_box (vals := [.bool f, d.v]) a e0 rfl) fun J w a => Ya (iV 0) rfl (wK q (sQ fun _ r => bE b fun c s b => bE b fun h t b => dR [0, 1, 0, 7, 15, 31] [1, 3, 4, 5] 4 folM ?_))
 replace a := a.drew
 refine Dn [0, 2] [] [1] (yR rfl (lbs_ [.bool i, g.v] ST_27 e0 a R1) (yR rfl (lbs_ [.bool f, d.v] ST_27 e0 a R0) (Rn QSn ?_)))
 refine Lc1 rfl ?_
 refine Lk wn (yCall FN_84 (a1 e0)) (integer_Sign_ok s n a) ?_
 rintro _ w ⟨rfl, a⟩
 refine ⟨_, rfl, ?_⟩
 refine Dn [] [2] [3] (Rn (yS rfl (lbs_ [.bool f, d.v] ST_27 e0 a R0) QSn) ?_)
 refine Lc1 rfl ?_
 refine Lk wn (yCall FN_84 (a1 e0)) (integer_Sign_ok t o a) ?_
 rintro _ w ⟨rfl, a⟩
 refine ⟨_, rfl, ?_⟩
 refine Dn [] [] [4] (Rn QSn ?_)
 refine Lc1 rfl ?_
 refine Ly wn (a_ (iV c) e0) (Dn [] [] [5] (Rn QSn ?_))
 refine Lc1 rfl ?_
 refine Ly wn (a_ (iV h) e0) (Dz [] [] (Rn QSn (r _ _ (seqQ fun K u p => blockQ fun _ k => sR fun _ x => Ym (iV c) e0 (Ym (iV h) e0 (yY (ylss e0 e0) (Ya (.bool (decide (c < h))) e0 (wK x ?_))))))))
 refine cIf e0 b (fun y b => ?_) fun y b => ?_
 ·refine sR fun _ z => Ya (iV (-1)) rfl (wK z (wp_ret (k _ _ _ (p _ _ _ rfl ?_))))
  cases b
  exact j _ _ _ (fin1r Tryz.results66 ⟨rfl, rfl⟩ ⟨rfl, (a.k1l)⟩)
 ·refine sR fun _ A => Ym (iV c) e0 (Ym (iV h) e0 (yY (ygtr e0 e0) (Ya (.bool (decide (h < c))) e0 (wK A ?_))))
  refine cIf e0 b (fun B b => ?_) fun B b => ?_
  ·refine sR fun _ C => Ya (iV 1) rfl (wK C (wp_ret (k _ _ _ (p _ _ _ rfl ?_))))
   cases b
   exact j _ _ _ (fin1r Tryz.results66 ⟨rfl, rfl⟩ ⟨rfl, (a.k1l)⟩)
  ·refine wp_skip (k _ _ _ (u _ _ (sQ fun _ D => bE b fun L E b => bE b fun N F b => bE b fun G H b => dR [0, 0, 2, 6, 0, 16, 62, 126, 255, 511] [3, 6, 7, 9] 4 folM ?_)))
   replace a := a.drew
   refine Dn [0, 1, 2, 4, 5] [] [3] (yR rfl (m_ (iV c) e0) (yR rfl (yFb FL_27_1 e0) (yR rfl (lb_ g.v O_25 e0 a R1) (yR rfl (yFb FL_27_1 e0) (yR rfl (lb_ d.v O_25 e0 a R0) (Rn QSn ?_))))))
   refine Lc1 rfl ?_
   refine Lk wn (yCall FN_77 (a1 e0)) (integer_trim_ok E n a) ?_
   rintro _ w ⟨O, rfl, a⟩
   refine ⟨_, rfl, ?_⟩
   refine Dn [] [0, 4, 5] [6] (Rn (yS rfl (m_ (iV c) e0) (yS rfl (yFb FL_27_1 e0) (yS rfl (lb_ d.v O_25 e0 a R0) QSn))) ?_)
   refine Lc1 rfl ?_
   refine Lk wn (yCall FN_77 (a1 e0)) (integer_trim_ok F (mtF o) a) ?_
   rintro _ w ⟨R, rfl, a⟩
   refine ⟨_, rfl, ?_⟩
   refine Dn [] [0] [7] (Rn (yS rfl (m_ (iV c) e0) QSn) ?_)
   refine Lc1 rfl ?_
   refine Lk wn (yCall FN_109 (a2 e0 e0)) (integer_compare_ok H F1 F0 a) ?_
   rintro _ w ⟨rfl, a⟩
   refine ⟨_, rfl, ?_⟩
   refine Dn [8] [0] [9] (yR rfl (ymul e0 e0) (Rn (yS rfl (m_ (iV c) e0) QSn) ?_))
   refine Lc1 rfl ?_
   refine Ly wn (a_ (iV (wm .i64 c G)) e0) (Dz [] [] (Rn QSn (D _ _ (wp_ret ?_))))
   cases b
   exact j _ _ _ (fin1r Tryz.results66 ⟨rfl, rfl⟩ ⟨rfl, ((a.k1l).facts (allT (allT allI)))⟩)
theorem integer_Sub_ok {d : Bool} {h : LI} {b : Bool} {i : LI} {f c : Hdr} {out : Bool × LI} (g : integer_Sub d h b i = some out) (m : imm (rI .u32) f.v h ∈ ros) (n : imm (rI .u32) c.v i ∈ ros) (a : St w0 ros rs w) :
  Calls Tryz.prog 67 #[.agg #[.bool d, f.v], .agg #[.bool b, c.v]] w (fun e w => ∃ (j : Hdr), e = .returned (.agg #[.bool out.1, j.v]) ∧ St w0 (imm (rI .u32) j.v out.2 :: ros) rs w) := by
 refine enterQ Tryz.func67 rfl Tryz.ntmps67 rfl fun Q o => sR fun _ p => yBb (r_box (vals := [.bool d, f.v]) a e0 rfl) fun t w a => yBb (r_box (vals := [.bool b, c.v]) a e0 rfl) fun u w a => yBb (rAl a ZT_27) fun x w a => wK p (sR fun _ q => yY (yFb FL_27_0 e0) ?_)
 refine yY (lb_ (.bool b) O_4 e0 a R1) (yY (ynot e0) (yY (yFb FL_27_0 e0) (yT (r_stb1 (vals' := [.bool (!b), c.v]) (a.k11) O_4 e0 e0 rfl rfl rfl rfl) fun w a => wK q (sR fun _ r => yY (lbs_ [.bool d, f.v] ST_27 e0 a R2) (yY (lbs_ [.bool (!b), c.v] ST_27 e0 a R0) (bE g fun k s g => yC (yCall FN_65 (a2 e0 e0)) (integer_Add_ok s m n a) ?_))))))
 rintro _ w ⟨l, rfl, a⟩
 refine ⟨_, rfl, ?_⟩
 refine yT (r_stbn (vals' := [.bool k.1, l.v]) (us := [.bool k.1, l.v]) (a.k11) ST_27 e0 e0 rfl rfl (one_of rfl) rfl) fun w a => wK r (wp_ret ?_)
 cases g
 exact o _ _ _ (fin1r Tryz.results67 (rcs2 rfl rfl a R0 ST_27 rfl) ⟨_, rfl, (a.k1k)⟩)
theorem modular_Combine_ok {U I : LI} {C m : Hdr} {out : Bool × LI × Bool × LI × Int} (c : modular_Combine U I = some out) (J : imm I1 C.v U ∈ ros) (n : imm I1 m.v I ∈ ros) (b : St w0 ros rs w) :
  Calls Tryz.prog 13 #[C.v, m.v] w (fun e w => ∃ (V W : Hdr), e = .returned (.tuple #[.agg #[.bool out.1, V.v], .agg #[.bool out.2.2.1, W.v], iV out.2.2.2.2]) ∧ St w0 (imm (rI .u32) V.v out.2.1 :: imm (rI .u32) W.v out.2.2.2.1 :: ros) rs w) := by
 refine enterQ Tryz.func13 rfl Tryz.ntmps13 rfl fun Q F => sR fun _ b8 => yBb (rAl b ZT_27) fun t w b => yBb (rAl b ZT_27) fun u w b => Ya (iV 0) rfl (wK b8 (seqQ fun i2 b9 c0 => sR fun _ c1 => Ym C.v e0 ?_))
 refine yY (yLen SL_22 e0 b (rdI J)) (Ym m.v e0 (yY (yLen SL_22 e0 b (rdI n)) (yY (yneq e0 e0) (wK c1 ?_))))
 rcases iteS c with ⟨K, c⟩ | ⟨K, c⟩
 ·refine condF e0 (nF (dT K)) (wp_skip (b9 _ _ (seqQ fun i3 c2 c3 => sR fun _ c4 => Ym m.v e0 (bE c fun i4 c5 c => yC (yCall FN_57 (a2 e0 rfl)) (slices_ContainsFunc_int_v2_ok c5 n b) ?_))))
  rintro _ w ⟨rfl, b⟩
  refine ⟨_, rfl, ?_⟩
  refine wK c4 (cB e0 c (fun c6 c => ?_) fun c6 c => ?_)
  ·refine sR fun _ c8 => yY (ybuild (us := [.bool false, hnil.v]) [] SO_27 bp0 rfl) (yY (ybuild (us := [.bool false, hnil.v]) [] SO_27 bp0 rfl) (yT (r_stbn (vals' := [.bool false, hnil.v]) (us := [.bool false, hnil.v]) (b.k11) ST_27 e0 e0 rfl rfl (one_of rfl) rfl) fun w b => yT (r_stbn (vals' := [.bool false, hnil.v]) (us := [.bool false, hnil.v]) (b.k11) ST_27 e0 e0 rfl rfl (one_of rfl) rfl) fun w b => Ya (iV 70) rfl (wK c8 (wp_ret (c3 _ _ _ rfl ?_)))))
   cases c
   replace b := b.immNh (rI .u32)
   exact F _ _ _ (fin3r Tryz.results13 (rcs2 rfl rfl b R1 ST_27 rfl) (rcs2 rfl rfl b R0 ST_27 rfl) ⟨rfl, rfl⟩ ⟨_, _, rfl, ((b.k1l).facts (allC F0 (allC F0 (allT allI))))⟩)
  ·refine wp_skip (c2 _ _ (sR fun _ d0 => Ym m.v e0 (bE c fun i5 d1 c => yC (yCall FN_60 (a1 e0)) (slices_Values_int_ok d1 n b) ?_)))
   rintro _ w ⟨i6, rfl, b⟩
   refine ⟨_, rfl, ?_⟩
   refine bE c fun i7 d2 c => yC (yCall FN_59 (a1 e0)) (slices_Sorted_int_ok d2 n b) ?_
   rintro _ w ⟨X, rfl, b⟩
   refine ⟨_, rfl, ?_⟩
   refine Ya X.v e0 (wK d0 (seqQ fun i8 d3 d4 => sR fun _ d5 => Ym X.v e0 (bE c fun i9 d6 c => ?_)))
   replace b := b.k11
   refine yC (yCall FN_61 (a1 e0)) (compactI_ok d6 b) ?_
   rintro _ w ⟨j0, rfl, b⟩
   refine ⟨_, rfl, ?_⟩
   refine yY (yLen SL_22 e0 b rO0) (Ym m.v e0 (yY (yLen SL_22 e0 b (rdI n)) (yY (yneq e0 e0) (wK d5 ?_))))
   rcases iteS c with ⟨L, c⟩ | ⟨L, c⟩
   ·refine condF e0 (nF (dT L)) (wp_skip (d3 _ _ (sR fun _ d7 => bE c fun Z d8 c => yC (yCall FN_23 (a1 rfl)) (integer_FromInt_ok d8 b) ?_)))
    rintro _ w ⟨a0, rfl, b⟩
    refine ⟨_, rfl, ?_⟩
    refine yT (r_stbn (vals' := [.bool Z.1, a0.v]) (us := [.bool Z.1, a0.v]) (b.k1a) ST_27 e0 e0 rfl rfl (one_of rfl) rfl) fun w b => wK d7 (sQ fun _ d9 => sR fun _ e1 => Ym m.v e0 (yY (yLen SL_22 e0 b (rdI (mtF n))) (Ym (iV 0) rfl (wK e1 (blockQ fun e2 e3 => bE c fun e4 e5 c => ?_)))))
    have e6 : ∀ (x : Bool) (N : LI) (h : Bool) (D : LI) (y i : Hdr) (f : FV) w, f 4 = (pB t) → f 5 = (pB u) → St w0 (imm (rI .u32) y.v N :: imm (rI .u32) i.v D :: ros) (box t 27 [.bool x, y.v] :: box u 27 [.bool h, i.v] :: rs) w → (x, N, h, D) = e4 → e2 (.exit 0) (fr 83 f) w := by
     intro x N h D y i f w z E b ho
     subst ho
     refine e3 _ _ _ (d9 _ _ (sQ fun e7 e8 => sQ fun _ e9 => bE c fun j1 f0 c => bE c fun j3 f1 c => dR [0, 0, 3, 0, 15, 31] [2, 4] 2 folM ?_))
     replace b := b.drew
     refine Dn [0, 1, 3] [] [2] (yR rfl (lbs_ [.bool x, y.v] ST_27 (eh z) b R0) (yR rfl (lbs_ [.bool x, y.v] ST_27 (eh z) b R0) (yR rfl (lbs_ [.bool h, i.v] ST_27 (eh E) b R1) (Rn QSn ?_))))
     refine Lc1 rfl ?_
     refine Lk wn (yCall FN_65 (a2 e0 e0)) (integer_Add_ok f0 F0 F0 b) ?_
     rintro _ w ⟨j4, rfl, b⟩
     refine ⟨_, rfl, ?_⟩
     refine Dn [] [3] [4] (Rn (yS rfl (lbs_ [.bool h, i.v] ST_27 (eh E) b R1) QSn) ?_)
     refine Lc1 rfl ?_
     refine Lk wn (yCall FN_66 (a2 e0 e0)) (integer_Cmp_ok f1 F0 F2 b) ?_
     rintro _ w ⟨rfl, b⟩
     refine ⟨_, rfl, ?_⟩
     refine Dz [5] [] (yR rfl (ygtr e0 rfl) (Rn QSn (e9 _ _ ?_)))
     have a3 : ∀ (A : Bool) (O : LI) (B : Hdr) (f : FV) w, f 4 = (pB t) → f 5 = (pB u) → St w0 (imm (rI .u32) B.v O :: imm (rI .u32) i.v D :: ros) (box t 27 [.bool A, B.v] :: box u 27 [.bool h, i.v] :: rs) w → modular_Combine_j2 h D A O = some out → e7 .normal (fr 83 f) w := by
      intro A O B f w R G b c
      refine e8 _ _ (sQ fun _ f2 => dR [0, 0, 1, 7, 15] [2, 3, 4] 3 folM ?_)
      replace b := b.drew
      refine Dn [0, 1] [] [2] (yR rfl (lbs_ [.bool A, B.v] ST_27 (eh R) b R0) (yR rfl (lbs_ [.bool h, i.v] ST_27 (eh G) b R1) (Rn QSn ?_)))
      refine Lc1 rfl ?_
      refine LT wn (r_stbn (vals' := [.bool A, B.v]) (us := [.bool A, B.v]) b ST_27 (eh R) e0 rfl rfl (one_of rfl) rfl) fun w b => Dn [] [1] [3] (Rn (yS rfl (lbs_ [.bool h, i.v] ST_27 (eh G) b R1) QSn) ?_)
      refine Lc1 rfl ?_
      replace b := b.k11
      refine LT wn (r_stbn (vals' := [.bool h, i.v]) (us := [.bool h, i.v]) b ST_27 (eh G) e0 rfl rfl (one_of rfl) rfl) fun w b => Dn [] [] [4] (Rn QSn ?_)
      refine Lc1 rfl ?_
      refine Ly wn (a_ (iV 0) rfl) (Dz [] [] (Rn QSn (f2 _ _ (wp_ret ?_))))
      cases c
      exact F _ _ _ (fin3r Tryz.results13 (rcs2 rfl R b R1 ST_27 rfl) (rcs2 rfl G b R0 ST_27 rfl) ⟨rfl, rfl⟩ ⟨_, _, rfl, (b.k1l)⟩)
     refine cIf e0 c (fun f3 c => ?_) fun f3 c => ?_
     ·refine wR (yY (lbs_ [.bool x, y.v] ST_27 (eh z) b R0) (yY (lbs_ [.bool h, i.v] ST_27 (eh E) b R1) (bE c fun a4 f4 c => yC (yCall FN_67 (a2 e0 e0)) (integer_Sub_ok f4 F1 F2 b) ?_)))
      rintro _ w ⟨a5, rfl, b⟩
      refine ⟨_, rfl, ?_⟩
      exact yT (r_stbn (vals' := [.bool a4.1, a5.v]) (us := [.bool a4.1, a5.v]) b ST_27 (eh z) e0 rfl rfl (one_of rfl) rfl) fun w b => wN (a3 _ _ _ _ _ z E (b.facts (allC F0 (allC F3 (allT (allT (allT (allT allI))))))) c)
     ·exact wp_skip (a3 _ _ _ _ _ z E (b.facts (allC F1 (allC F2 (allT (allT (allT allI)))))) c)
    replace b := b.immNh (rI .u32)
    refine loopQ (fun s a w => ∃ (o : Bool) (S : LI) (j : Bool) (T : LI) (r : Int) (f : FV) (p k : Hdr), (o, S, j, T, r) = s ∧ a = fr 83 f ∧ f 0 = C.v ∧ f 4 = (pB t) ∧ f 5 = (pB u) ∧ f 34 = m.v ∧ f 35 = iV (I.length : Int) ∧ f 36 = iV r ∧ St w0 (imm (rI .u32) p.v S :: imm (rI .u32) k.v T :: ros) (box t 27 [.bool o, p.v] :: box u 27 [.bool j, k.v] :: rs) w) e5 ⟨_, _, _, _, _, _, _, _, rfl, rfl, rfl, rfl, rfl, rfl, rfl, rfl, (b.k1m)⟩ ?_
    rintro _ _ w j5 ⟨o, S, j, T, r, f, p, k, rfl, rfl, a6, q, l, a7, a8, H, b⟩ d f5 j6 f6 f7
    refine sR fun _ f8 => yY (ylss (eh H) (eh a8)) (wK f8 (seqQ fun j7 f9 g0 => ?_))
    refine cIf e0 d (fun g1 d => ?_) fun g1 d => ?_
    ·refine wp_skip (f9 _ _ (sQ fun _ g2 => blockQ fun _ g3 => sR fun _ g4 => Ym (iV r) (eh H) (bE d fun g a9 d => yY (yIa SL_22 (eh a7) (eh H) b (rdI (F_2 n)) a9) (yY (yI O_3 e0 b (rdI (F_2 n)) a9) (Ya (iV r) e0 (Ya (iV g) e0 (wK g4 ?_)))))))
     refine sQ fun _ g5 => bE d fun j8 b0 d => bE d fun j9 g6 d => bE d fun k0 g7 d => bE d fun l0 g8 d => bE d fun l1 g9 d => bE d fun l2 h0 d => bE d fun b1 h1 d => dR [0, 0, 3, 7, 0, 31, 0, 0, 255, 511, 0, 2047, 0, 0, 16383, 0, 65535, 131071, 0, 524287, 1048575] [5, 8, 11, 14, 16, 20] 6 folM ?_
     replace b := b.drew
     refine Dn [0, 1, 2, 3, 4, 6, 7, 10, 12, 13, 15, 18] [] [5] (yR rfl (m_ C.v (eh a6)) (yR rfl (m_ (iV r) e0) (yR rfl (yIa SL_22 e0 e0 b (rdI (F_2 J)) b0) (yR rfl (yI O_3 e0 b (rdI (F_2 J)) b0) (yR rfl (m_ (iV g) e0) (yR rfl (lbs_ [.bool o, p.v] ST_27 (eh q) b R0) (yR rfl (m_ (iV g) e0) (yR rfl (m_ (iV g) e0) (yR rfl (lbs_ [.bool j, k.v] ST_27 (eh l) b R1) (yR rfl (m_ (iV g) e0) (yR rfl (m_ (iV g) e0) (yR rfl (m_ (iV g) e0) (Rn QSn ?_)))))))))))))
     refine Lc1 rfl ?_
     refine Lk wn (yCall FN_62 (a2 e0 e0)) (modular_mod_ok g6 b) ?_
     rintro _ w ⟨rfl, b⟩
     refine ⟨_, rfl, ?_⟩
     refine Dn [] [6, 7, 10, 12, 13, 15, 18] [8] (Rn (yS rfl (lbs_ [.bool o, p.v] ST_27 (eh q) b R0) (yS rfl (m_ (iV g) e0) (yS rfl (m_ (iV g) e0) (yS rfl (lbs_ [.bool j, k.v] ST_27 (eh l) b R1) (yS rfl (m_ (iV g) e0) (yS rfl (m_ (iV g) e0) (yS rfl (m_ (iV g) e0) QSn))))))) ?_)
     refine Lc1 rfl ?_
     refine Lk wn (yCall FN_63 (a2 e0 e0)) (modular_remainder_ok g7 F0 b) ?_
     rintro _ w ⟨rfl, b⟩
     refine ⟨_, rfl, ?_⟩
     refine Dn [9] [10, 12, 13, 15, 18] [11] (yR rfl (ysub e0 e0) (Rn (yS rfl (m_ (iV g) e0) (yS rfl (lbs_ [.bool j, k.v] ST_27 (eh l) b R1) (yS rfl (m_ (iV g) e0) (yS rfl (m_ (iV g) e0) (yS rfl (m_ (iV g) e0) QSn))))) ?_))
     refine Lc1 rfl ?_
     refine Lk wn (yCall FN_62 (a2 e0 e0)) (modular_mod_ok g8 b) ?_
     rintro _ w ⟨rfl, b⟩
     refine ⟨_, rfl, ?_⟩
     refine Dn [] [12, 13, 15, 18] [14] (Rn (yS rfl (lbs_ [.bool j, k.v] ST_27 (eh l) b R1) (yS rfl (m_ (iV g) e0) (yS rfl (m_ (iV g) e0) (yS rfl (m_ (iV g) e0) QSn)))) ?_)
     refine Lc1 rfl ?_
     refine Lk wn (yCall FN_63 (a2 e0 e0)) (modular_remainder_ok g9 F1 b) ?_
     rintro _ w ⟨rfl, b⟩
     refine ⟨_, rfl, ?_⟩
     refine Dn [] [15, 18] [16] (Rn (yS rfl (m_ (iV g) e0) (yS rfl (m_ (iV g) e0) QSn)) ?_)
     refine Lc1 rfl ?_
     refine Lk wn (yCall FN_64 (a2 e0 e0)) (modular_inverse_ok h0 b) ?_
     rintro _ w ⟨rfl, b⟩
     refine ⟨_, rfl, ?_⟩
     refine Dn [17, 19] [18] [20] (yR rfl (ymul e0 e0) (yR rfl (yrem e0 e0 h1) (Rn (yS rfl (m_ (iV g) e0) QSn) ?_)))
     refine Lc1 rfl ?_
     refine Ly wn (a_ (iV b1) e0) (Dz [] [] (Rn QSn (g5 _ _ (sQ fun _ h3 => bE d fun l3 h5 d => bE d fun l4 h6 d => bE d fun b2 h7 d => dR [0, 0, 0, 4, 14, 31, 63] [3, 4, 5, 6] 4 folM ?_))))
     replace b := b.drew
     refine Dn [0, 1, 2] [] [3] (yR rfl (lbs_ [.bool o, p.v] ST_27 (eh q) b R0) (yR rfl (lbs_ [.bool j, k.v] ST_27 (eh l) b R1) (yR rfl (m_ (iV b1) e0) (Rn QSn ?_))))
     refine Lc1 rfl ?_
     refine Lk wn (yCall FN_23 (a1 e0)) (integer_FromInt_ok h5 b) ?_
     rintro _ w ⟨l5, rfl, b⟩
     refine ⟨_, rfl, ?_⟩
     refine Dn [] [0, 1] [4] (Rn (yS rfl (lbs_ [.bool o, p.v] ST_27 (eh q) b R0) (yS rfl (lbs_ [.bool j, k.v] ST_27 (eh l) b R1) QSn)) ?_)
     refine Lc1 rfl ?_
     refine Lk wn (yCall FN_22 (a2 e0 e0)) (integer_Mul_ok h6 F2 F0 b) ?_
     rintro _ w ⟨l6, rfl, b⟩
     refine ⟨_, rfl, ?_⟩
     refine Dn [] [0] [5] (Rn (yS rfl (lbs_ [.bool o, p.v] ST_27 (eh q) b R0) QSn) ?_)
     refine Lc1 rfl ?_
     refine Lk wn (yCall FN_65 (a2 e0 e0)) (integer_Add_ok h7 F2 F0 b) ?_
     rintro _ w ⟨b3, rfl, b⟩
     refine ⟨_, rfl, ?_⟩
     refine Dn [] [] [6] (Rn QSn ?_)
     refine Lc1 rfl ?_
     refine LT wn (r_stbn (vals' := [.bool b2.1, b3.v]) (us := [.bool b2.1, b3.v]) b ST_27 (eh q) e0 rfl rfl (one_of rfl) rfl) fun w b => Dz [] [] (Rn QSn (h3 _ _ (bE d fun l7 h8 d => bE d fun b4 h9 d => dR [0, 0, 2, 7, 15] [2, 3, 4] 3 folM ?_)))
     replace b := b.drew
     refine Dn [0, 1] [] [2] (yR rfl (lbs_ [.bool j, k.v] ST_27 (eh l) b R1) (yR rfl (m_ (iV g) e0) (Rn QSn ?_)))
     refine Lc1 rfl ?_
     refine Lk wn (yCall FN_23 (a1 e0)) (integer_FromInt_ok h8 b) ?_
     rintro _ w ⟨l8, rfl, b⟩
     refine ⟨_, rfl, ?_⟩
     refine Dn [] [0] [3] (Rn (yS rfl (lbs_ [.bool j, k.v] ST_27 (eh l) b R1) QSn) ?_)
     refine Lc1 rfl ?_
     refine Lk wn (yCall FN_22 (a2 e0 e0)) (integer_Mul_ok h9 F5 F0 b) ?_
     rintro _ w ⟨b7, rfl, b⟩
     refine ⟨_, rfl, ?_⟩
     refine Dn [] [] [4] (Rn QSn ?_)
     refine Lc1 rfl ?_
     replace b := b.k11
     refine LT wn (r_stbn (vals' := [.bool b4.1, b7.v]) (us := [.bool b4.1, b7.v]) b ST_27 (eh l) e0 rfl rfl (one_of rfl) rfl) fun w b => Dz [] [] (Rn QSn (g3 _ _ _ (g2 _ _ (wR (yY (yadd (eh H) rfl) (Ym (iV (wa .i64 r 1)) e0 (wN ?_)))))))
     cases d
     exact f6 _ _ _ rfl ⟨_, _, _, _, _, _, _, _, rfl, rfl, a6, q, l, a7, a8, rfl, ((b.k11).facts (allC F2 (allC F0 (allT (allT (allT (allT (allT (allT (allT allI))))))))))⟩
    ·refine wp_exit (g0 _ _ _ rfl ?_)
     cases d
     exact f7 _ _ _ _ rfl rfl (e6 _ _ _ _ _ _ _ _ q l b (f5 _ rfl))
   ·refine condT e0 (nT (dF L)) (sR fun _ i0 => yY (ybuild (us := [.bool false, hnil.v]) [] SO_27 bp0 rfl) (yY (ybuild (us := [.bool false, hnil.v]) [] SO_27 bp0 rfl) (yT (r_stbn (vals' := [.bool false, hnil.v]) (us := [.bool false, hnil.v]) (b.k15) ST_27 e0 e0 rfl rfl (one_of rfl) rfl) fun w b => yT (r_stbn (vals' := [.bool false, hnil.v]) (us := [.bool false, hnil.v]) (b.k15) ST_27 e0 e0 rfl rfl (one_of rfl) rfl) fun w b => Ya (iV 1) rfl (wK i0 (wp_ret (d4 _ _ _ rfl ?_))))))
    cases c
    replace b := b.immNh (rI .u32)
    exact F _ _ _ (fin3r Tryz.results13 (rcs2 rfl rfl b R1 ST_27 rfl) (rcs2 rfl rfl b R0 ST_27 rfl) ⟨rfl, rfl⟩ ⟨_, _, rfl, ((b.k1h).facts (allC F0 (allC F0 (allT allI))))⟩)
 ·refine condT e0 (nT (dF K)) (sR fun _ i1 => yY (ybuild (us := [.bool false, hnil.v]) [] SO_27 bp0 rfl) (yY (ybuild (us := [.bool false, hnil.v]) [] SO_27 bp0 rfl) (yT (r_stbn (vals' := [.bool false, hnil.v]) (us := [.bool false, hnil.v]) (b.k11) ST_27 e0 e0 rfl rfl (one_of rfl) rfl) fun w b => yT (r_stbn (vals' := [.bool false, hnil.v]) (us := [.bool false, hnil.v]) (b.k11) ST_27 e0 e0 rfl rfl (one_of rfl) rfl) fun w b => Ya (iV 2) rfl (wK i1 (wp_ret (c0 _ _ _ rfl ?_))))))
  cases c
  replace b := b.immNh (rI .u32)
  exact F _ _ _ (fin3r Tryz.results13 (rcs2 rfl rfl b R1 ST_27 rfl) (rcs2 rfl rfl b R0 ST_27 rfl) ⟨rfl, rfl⟩ ⟨_, _, rfl, ((b.k1l).facts (allC F0 (allC F0 (allT allI))))⟩)
theorem sparsekit_Ints_ok {q r : LI} {h i : Hdr} {out : Bool} (d : sparsekit_Ints q r = some out) (j : imm I1 h.v q ∈ ros) (l : imm I1 i.v r ∈ ros) (b : St w0 ros rs w) :
  Calls Tryz.prog 25 #[h.v, i.v] w (fun e w => e = .returned (.bool out) ∧ St w0 ros rs w) := by
 refine enterQ Tryz.func25 rfl Tryz.ntmps25 rfl fun Q m => sR fun _ E => Ya (.bool false) rfl (wK E (seqQ fun a4 F G => sR fun _ H => Ym h.v e0 (yY (yLen SL_22 e0 b (rdI j)) (Ym i.v e0 (yY (yLen SL_22 e0 b (rdI l)) (yY (yneq e0 e0) ?_))))))
 refine wK H ?_
 rcases iteS d with ⟨n, d⟩ | ⟨n, d⟩
 ·refine condF e0 (nF (dT n)) (wp_skip (F _ _ (seqQ fun a5 I J => sR fun _ K => Ya (iV 0) rfl (wK K (blockQ fun t u => bE d fun x L d => ?_)))))
  have N : ∀ (f : FV) w, St w0 ros rs w → .inl () = x → t (.exit 0) (fr 26 f) w := by
   intro f w b ho
   subst ho
   refine u _ _ _ (I _ _ (sR fun _ O => Ya (.bool true) rfl (wK O (wp_ret ?_))))
   cases d
   exact m _ _ _ (fin1r Tryz.results25 ⟨rfl, rfl⟩ ⟨rfl, b⟩)
  have R : ∀ (f : FV) w, f 4 = .bool false → St w0 ros rs w → .inr () = x → t .ret (fr 26 f) w := by
   intro f w S b ho
   subst ho
   refine u _ _ _ (J _ _ _ rfl ?_)
   cases d
   exact m _ _ _ (fin1r Tryz.results25 ⟨rfl, S⟩ ⟨rfl, b⟩)
  refine loopQ (fun s a w => ∃ (g : Int) (f : FV), g = s ∧ a = fr 26 f ∧ f 0 = h.v ∧ f 1 = i.v ∧ f 5 = iV g ∧ St w0 ros rs w) L ⟨_, _, rfl, rfl, rfl, rfl, rfl, b⟩ ?_
  rintro _ _ w a6 ⟨g, f, rfl, rfl, o, y, k, b⟩ c z a7 T A
  refine seqQ fun a8 U V => sR fun _ W => Ym (iV g) (eh k) (Ym h.v (eh o) (yY (yLen SL_22 e0 b (rdI j)) (yY (ylss e0 e0) (wK W ?_))))
  refine cIf e0 c (fun X c => ?_) fun X c => ?_
  ·refine wp_skip (U _ _ (seqQ fun a9 Z a0 => blockQ fun _ B => sQ fun _ a1 => bE c fun b0 C c => bE c fun b1 D c => dR [0, 0, 3, 7, 0, 0, 48, 112, 255] [] 0 folM ?_))
   replace b := b.drew
   refine Dz [0, 1, 2, 3, 4, 5, 6, 7, 8] [] (yR rfl (m_ h.v (eh o)) (yR rfl (m_ (iV g) (eh k)) (yR rfl (yIa SL_22 e0 e0 b (rdI j) C) (yR rfl (yI O_3 e0 b (rdI j) C) (yR rfl (m_ i.v (eh y)) (yR rfl (m_ (iV g) (eh k)) (yR rfl (yIa SL_22 e0 e0 b (rdI l) D) (yR rfl (yI O_3 e0 b (rdI l) D) (yR rfl (yneq e0 e0) (Rn QSn (a1 _ _ ?_)))))))))))
   rcases iteS c with ⟨p, c⟩ | ⟨p, c⟩
   ·refine condF e0 (nF (dT p)) (wp_skip (B _ _ _ (Z _ _ (wR (Ym (iV g) (eh k) (yY (yadd e0 rfl) (Ya (iV (wa .i64 g 1)) e0 (wN ?_))))))))
    cases c
    exact T _ _ _ rfl ⟨_, _, rfl, rfl, o, y, rfl, b⟩
   ·refine condT e0 (nT (dF p)) (sR fun _ a2 => Ya (.bool false) rfl (wK a2 (wp_ret (B _ _ _ (a0 _ _ _ rfl ?_)))))
    cases c
    exact A _ _ _ _ rfl rfl (R _ _ rfl b (z _ rfl))
  ·refine wp_exit (V _ _ _ rfl ?_)
   cases c
   exact A _ _ _ _ rfl rfl (N _ _ b (z _ rfl))
 ·refine condT e0 (nT (dF n)) (sR fun _ a3 => Ya (.bool false) rfl (wK a3 (wp_ret (G _ _ _ rfl ?_))))
  cases d
  exact m _ _ _ (fin1r Tryz.results25 ⟨rfl, rfl⟩ ⟨rfl, b⟩)
theorem slices_Reverse_string_ok {l : List ByteArray} {d : Hdr} {out : (List ByteArray)} (m : slices_Reverse_string l = some out) (b : St w0 ros (row 9 rG d.v l :: rs) w) :
  Calls Tryz.prog 101 #[d.v] w (fun e w => e = .returned (.tuple #[]) ∧ St w0 ros (row 9 rG d.v out :: rs) w) := by
 refine enterQ Tryz.func101 rfl Tryz.ntmps101 rfl fun Q u => sR fun _ x => Ym d.v e0 (yY (yLen SL_101 e0 b rO0) (yY (ysub e0 rfl) (Ya (iV 0) rfl (Ya (iV (ws .i64 (l.length : Int) 1)) e0 (wK x (blockQ fun y z => bE m fun A B m => ?_))))))
 have C : ∀ (n : List ByteArray) (f : FV) w, St w0 ros (row 9 rG d.v n :: rs) w → n = A → y (.exit 0) (fr 28 f) w := by
  intro n f w b ho
  subst ho
  refine z _ _ _ ?_
  cases m
  exact u _ _ _ (fin0n Tryz.results101 ⟨rfl, b⟩)
 refine loopQ (fun s a w => ∃ (o : List ByteArray) (h g : Int) (f : FV), (o, h, g) = s ∧ a = fr 28 f ∧ f 0 = d.v ∧ f 2 = iV h ∧ f 3 = iV g ∧ St w0 ros (row 9 rG d.v o :: rs) w) B ⟨_, _, _, _, rfl, rfl, rfl, rfl, rfl, b⟩ ?_
 rintro _ _ w R ⟨o, h, g, f, rfl, rfl, i, k, j, b⟩ c D S E F
 refine seqQ fun T G H => sR fun _ I => Ym (iV h) (eh k) (Ym (iV g) (eh j) (yY (ylss e0 e0) (wK I ?_)))
 refine cIf e0 c (fun J c => ?_) fun J c => ?_
 ·refine wp_skip (G _ _ (sQ fun _ K => blockQ fun _ L => bE c fun N p c => bE c fun O q c => bE c fun U r c => bE c fun V t c => dR [0, 0, 0, 0, 0, 0, 48, 112, 0, 0, 768, 1792, 4083, 8179, 16383, 32767] [13, 15] 2 folM ?_))
  replace b := b.drew
  refine Dn [0, 1, 2, 3, 4, 5, 6, 7, 8, 9, 10, 11, 12] [] [13] (yR rfl (m_ d.v (eh i)) (yR rfl (m_ (iV h) (eh k)) (yR rfl (m_ d.v (eh i)) (yR rfl (m_ (iV g) (eh j)) (yR rfl (m_ d.v (eh i)) (yR rfl (m_ (iV g) (eh j)) (yR rfl (yIa SL_101 e0 e0 b rO0 p) (yR rfl (ySt O_9 e0 b rO0 p) (yR rfl (m_ d.v (eh i)) (yR rfl (m_ (iV h) (eh k)) (yR rfl (yIa SL_101 e0 e0 b rO0 q) (yR rfl (ySt O_9 e0 b rO0 q) (yR rfl (yIs SL_101 e0 e0 b rO0 r) ?_)))))))))))))
  refine Rn QSn ?_
  refine Lc1 rfl ?_
  refine LT wn (r_sti (cs := [.string N]) b O_9 rfl e0 e0 rfl mkG r) fun w b => Dn [14] [2, 3] [15] (yR rfl (yIs SL_101 e0 e0 b rO0 t) (Rn (yS rfl (m_ d.v (eh i)) (yS rfl (m_ (iV g) (eh j)) QSn)) ?_))
  refine Lc1 rfl ?_
  refine LT wn (r_sti (cs := [.string O]) b O_9 rfl e0 e0 rfl mkG t) fun w b => Dz [] [] (Rn QSn (L _ _ _ (K _ _ (wR (Ym (iV h) (eh k) (yY (yadd e0 rfl) (Ym (iV g) (eh j) (yY (ysub e0 rfl) (Ya (iV (wa .i64 h 1)) e0 (Ya (iV (ws .i64 g 1)) e0 (wN ?_)))))))))))
  cases c
  exact E _ _ _ rfl ⟨_, _, _, _, rfl, rfl, i, rfl, rfl, b⟩
 ·refine wp_exit (H _ _ _ rfl ?_)
  cases c
  exact F _ _ _ _ rfl rfl (C _ _ _ b (D _ rfl))
end Go.Proofs.YtnfamnfdndaekaaGreatDoor
