/- Walks: each function computes its model, printed. -/
import Derived.Test.YtnfamnfdndaekaaGreatDoorW3
namespace Go.Proofs.YtnfamnfdndaekaaGreatDoor
open Go Sx M
set_option maxRecDepth 100000
set_option maxHeartbeats 40000000
set_option linter.unusedVariables false
attribute [local irreducible] wpList Code.wp Calls DR QR QS LA LS St
variable {w0 : World} {ros : List Fact} {rs : List Res} {w : World}
theorem integer_Format_ok {h : Bool} {A : LI} {i : Hdr} {out : ByteArray} (c : integer_Format h A = some out) (H : imm (rI .u32) i.v A ∈ ros) (b : St w0 ros rs w) :
  Calls Tryz.prog 56 #[.agg #[.bool h, i.v]] w (fun e w => e = .returned (.string out) ∧ St w0 ros rs w) := by
 refine enterQ Tryz.func56 rfl Tryz.ntmps56 rfl fun Q B => sR fun _ I => yBb (r_box (vals := [.bool h, i.v]) b e0 rfl) fun k w b => Ya (.string (⟨#[]⟩ : ByteArray)) rfl (wK I (sR fun _ J => yY (yFb FL_27_1 e0) (yY (lb_ i.v O_25 e0 b R0) (bE c fun e3 K c => yC (yCall FN_77 (a1 e0)) (integer_trim_ok K H b) ?_))))
 rintro _ w ⟨e4, rfl, b⟩
 refine ⟨_, rfl, ?_⟩
 refine bE c fun e5 L c => yC (yCall FN_75 (a1 e0)) (slices_Clone_uint32_ok L F0 b) ?_
 rintro _ w ⟨N, rfl, b⟩
 refine ⟨_, rfl, ?_⟩
 refine Ya N.v e0 (wK J (sR fun _ O => Ya hnil.v rfl (wK O (sQ fun _ R => blockQ fun S T => bE c fun U V c => ?_))))
 have W : ∀ (u : List ByteArray) (p : Hdr) (f : FV) w, f 1 = (pB k) → f 4 = p.v → St w0 ros (box k 27 [.bool h, i.v] :: row 9 rG p.v u :: rs) w → u = U → S (.exit 0) (fr 49 f) w := by
  intro u p f w X x b ho
  subst ho
  refine T _ _ _ (R _ _ (seqQ fun e6 Z a0 => sR fun _ a3 => Ym p.v (eh x) (yY (yLen SL_101 e0 b rO1) (yY (yeql e0 rfl) (wK a3 ?_)))))
  refine cIf e0 c (fun a4 c => ?_) fun a4 c => ?_
  ·refine sR fun _ a5 => Ya (.string (⟨#[48]⟩ : ByteArray)) rfl (wK a5 (wp_ret (a0 _ _ _ rfl ?_)))
   cases c
   exact B _ _ _ (fin1r Tryz.results56 ⟨rfl, rfl⟩ ⟨rfl, (b.k1l)⟩)
  ·refine wp_skip (Z _ _ (sQ fun a6 a7 => sR fun _ a8 => yY (yFb FL_27_0 (eh X)) (yY (lb_ (.bool h) O_4 e0 b R0) (wK a8 ?_))))
   have C : ∀ (y : List ByteArray) (q : Hdr) (f : FV) w, f 4 = q.v → St w0 ros (row 9 rG q.v y :: rs) w → integer_Format_j4 y = some out → a6 .normal (fr 49 f) w := by
    intro y q f w D b c
    refine a7 _ _ (sR fun _ a9 => Ym q.v (eh D) (bE c fun e7 b0 c => yC (yCall FN_101 (a1 e0)) (slices_Reverse_string_ok b0 b) ?_))
    rintro _ w ⟨rfl, b⟩
    refine ⟨_, rfl, ?_⟩
    refine wK a9 (sR fun _ b1 => Ym q.v (eh D) (bE c fun b2 b3 c => ?_))
    replace b := b.fz
    refine yC (yCall FN_102 (a2 e0 rfl)) (joinG_ok b3 F0 b) ?_
    rintro _ w ⟨rfl, b⟩
    refine ⟨_, rfl, ?_⟩
    refine Ya (.string b2) e0 (wK b1 (wp_ret ?_))
    cases c
    exact B _ _ _ (fin1r Tryz.results56 ⟨rfl, rfl⟩ ⟨rfl, (b.facts (allT allI))⟩)
   refine cB e0 c (fun b5 c => ?_) fun b5 c => ?_
   ·exact wR (Ym p.v (eh x) (yH (rLt (n := 1) (l := [(⟨#[45]⟩ : ByteArray)]) b SL_101 [.string (⟨#[45]⟩ : ByteArray)] (bp1 rfl) rfl rfl (mks1 (cs := [.string (⟨#[45]⟩ : ByteArray)]) rfl mkG mks0)) fun e8 w b => bE c fun e9 b6 c => yH (rAp (b.k1a) SL_101 e0 e0 rO1 b6) fun b7 w b => Ya b7.v e0 (wN (C _ _ _ _ rfl (b.k1j) c))))
   ·exact wp_skip (C _ _ _ _ x (b.k1n) c)
 replace b := b.fz.rowNh 9 rG
 refine loopQ (fun s a w => ∃ (z : LI) (r : List ByteArray) (f : FV) (t m : Hdr), (z, r) = s ∧ a = fr 49 f ∧ f 1 = (pB k) ∧ f 3 = t.v ∧ f 4 = m.v ∧ St w0 (imm (rI .u32) t.v z :: ros) (box k 27 [.bool h, i.v] :: row 9 rG m.v r :: rs) w) V ⟨_, _, _, _, _, rfl, rfl, rfl, rfl, rfl, ((b.k11).facts (allC F0 (allT (allT allI))))⟩ ?_
 rintro _ _ w b8 ⟨z, r, f, t, m, rfl, rfl, E, F, G, b⟩ d b9 f0 c0 c1
 refine seqQ fun f1 c2 c3 => sR fun _ c4 => Ym t.v (eh F) (yY (yLen SL_25 e0 b (rdI F0)) (yY (ygtr e0 rfl) (wK c4 ?_)))
 refine cIf e0 d (fun c5 d => ?_) fun c5 d => ?_
 ·refine wp_skip (c2 _ _ (blockQ fun _ c6 => sR fun _ c7 => Ym t.v (eh F) (bE d fun o c8 d => yC (yCall FN_98 (a2 e0 rfl)) (integer_short_ok c8 F0 b) ?_)))
  rintro _ w ⟨g, rfl, b⟩
  refine ⟨_, rfl, ?_⟩
  refine Ym (.tuple #[g.v, .int .u32 o.2]) e0 (yY (x_ g.v e0) (yY (x_ (.int .u32 o.2) e0) (Ya g.v e0 (Ya (.int .u32 o.2) e0 (wK c7 (sR fun _ c9 => Ym (.int .u32 o.2) e0 (yY (ycv (k' := .i64) (by kernel_rfl) (by kernel_rfl) e0) (bE d fun j d0 d => yC (yCall FN_99 (a1 e0)) (itoaG_ok d0 b) ?_))))))))
  rintro _ w ⟨rfl, b⟩
  refine ⟨_, rfl, ?_⟩
  refine Ya (.string j) e0 (wK c9 (sQ fun d1 d2 => sR fun _ d3 => Ym g.v e0 (yY (yLen SL_25 e0 b (rdI F0)) (yY (ygtr e0 rfl) (wK d3 ?_)))))
  have d4 : ∀ (f : FV) w, f 1 = (pB k) → f 4 = m.v → f 5 = g.v → f 7 = .string j → St w0 (imm (rI .u32) g.v o.1 :: ros) (box k 27 [.bool h, i.v] :: row 9 rG m.v r :: rs) w → integer_Format_j5 r j o = some b8 → d1 .normal (fr 49 f) w := by
   intro f w d5 d6 d7 d8 b c
   refine d2 _ _ (wR (Ym m.v (eh d6) (Ym (.string j) (eh d8) (yH (rLt (n := 1) (l := [j]) b SL_101 [.string j] (bp1 e0) rfl rfl (mks1 (cs := [.string j]) rfl mkG mks0)) fun f2 w b => bE c fun f3 d9 c => yH (rAp (b.k1a) SL_101 e0 e0 rO1 d9) fun e1 w b => Ym g.v (eh d7) (Ya e1.v e0 (Ya g.v e0 (wN (c6 _ _ _ ?_))))))))
   cases c
   exact c0 _ _ _ rfl ⟨_, _, _, _, _, rfl, rfl, d5, rfl, rfl, (b.k1o)⟩
  refine cIf e0 d (fun e2 d => ?_) fun e2 d => ?_
  ·cases d
  ·exact wp_skip (d4 _ _ E G rfl rfl (b.facts (allC F0 (allT (allT allI)))) d)
 ·refine wp_exit (c3 _ _ _ rfl ?_)
  cases d
  exact c1 _ _ _ _ rfl rfl (W _ _ _ _ E G (b.facts (allT allI)) (b9 _ rfl))
theorem sparselaw07_awake_ok {out : Bool} (d : sparselaw07_awake = some out) (a : St w0 ros rs w) :
  Calls Tryz.prog 11 #[] w (fun e w => e = .returned (.bool out) ∧ St w0 ros rs w) := by
 refine enterQ Tryz.func11 rfl Tryz.ntmps11 rfl fun Q a7 => sR fun _ a8 => Ya (.bool false) rfl (wK a8 (sR fun _ a9 => bE d fun c b0 d => yC (yCall FN_28 (a2 rfl rfl)) (modular_Inverse_ok b0 a) ?_))
 rintro _ w ⟨rfl, a⟩
 refine ⟨_, rfl, ?_⟩
 refine Ym (.tuple #[iV c.1, iV c.2]) e0 (yY (x_ (iV c.1) e0) (yY (x_ (iV c.2) e0) (Ya (iV c.1) e0 (Ya (iV c.2) e0 (wK a9 (sR fun _ b1 => yH (rLt (n := 2) (l := [1, 2]) a SL_22 [iV 1, iV 2] (bp2 rfl rfl) rfl rfl (mks1 (cs := [iV 1]) rfl mkI (mks1 (cs := [iV 2]) rfl mkI mks0))) fun E w a => yH (rLt (n := 1) (l := [[1, 2]]) a.fz SL_52 [E.v] (bp1 e0) rfl rfl (mks1 (cs := [E.v]) rfl (mkS F0) mks0)) fun d9 w a => bE d fun i b2 d => ?_))))))
 replace a := a.fz
 refine yC (yCall FN_44 (a2 e0 rfl)) (modular_Kernel_ok b2 F0 a) ?_
 rintro _ w ⟨s, rfl, a⟩
 refine ⟨_, rfl, ?_⟩
 refine Ym (.tuple #[s.v, iV i.2]) e0 (yY (x_ s.v e0) (yY (x_ (iV i.2) e0) (Ya s.v e0 (Ya (iV i.2) e0 (wK b1 (sR fun _ b3 => yH (rLt (n := 2) (l := [1, 2]) a SL_22 [iV 1, iV 2] (bp2 rfl rfl) rfl rfl (mks1 (cs := [iV 1]) rfl mkI (mks1 (cs := [iV 2]) rfl mkI mks0))) fun e1 w a => yH (rLt (n := 2) (l := [2, 3]) a SL_22 [iV 2, iV 3] (bp2 rfl rfl) rfl rfl (mks1 (cs := [iV 2]) rfl mkI (mks1 (cs := [iV 3]) rfl mkI mks0))) fun e2 w a => bE d fun b b4 d => ?_))))))
 replace a := ((a.k11).fz).fz
 refine yC (yCall FN_13 (a2 e0 e0)) (modular_Combine_ok b4 F1 F0 a) ?_
 rintro _ w ⟨h, g, rfl, a⟩
 refine ⟨_, rfl, ?_⟩
 refine Ym (.tuple #[.agg #[.bool b.1, h.v], .agg #[.bool b.2.2.1, g.v], iV b.2.2.2.2]) e0 (yY (x_ (.agg #[.bool b.1, h.v]) e0) (yY (x_ (.agg #[.bool b.2.2.1, g.v]) e0) (yY (x_ (iV b.2.2.2.2) e0) (yBb (rAl a ZT_27) fun t w a => yBb (rAl a ZT_27) fun j w a => yT (r_stbn (vals' := [.bool b.1, h.v]) (us := [.bool b.1, h.v]) (a.k11) ST_27 e0 e0 rfl rfl (one_of rfl) rfl) fun w a => yT (r_stbn (vals' := [.bool b.2.2.1, g.v]) (us := [.bool b.2.2.1, g.v]) (a.k11) ST_27 e0 e0 rfl rfl (one_of rfl) rfl) fun w a => Ya (iV b.2.2.2.2) e0 (wN ?_)))))
 refine b3 _ _ (sR fun _ b5 => Ym (iV c.2) e0 (yY (yeql e0 rfl) (Ym (.bool (decide (c.2 = 0))) e0 ?_)))
 refine joinW 3 (fun f w => f 3 = s.v ∧ f 4 = iV i.2 ∧ f 5 = (pB t) ∧ f 6 = (pB j) ∧ f 7 = iV b.2.2.2.2 ∧ f 30 = .bool ((decide (c.2 = 0)) && (decide (c.1 = 5))) ∧ St w0 (imm (rI .u32) h.v b.2.1 :: imm (rI .u32) g.v b.2.2.2.1 :: ros) (row 3 I1 s.v i.1 :: box t 27 [.bool b.1, h.v] :: box j 27 [.bool b.2.2.1, g.v] :: rs) w) (fun F => ?_) ?_
 ·rcases Bool.eq_false_or_eq_true (decide (c.2 = 0)) with k | k
  ·exact yG k (m_ (iV c.1) e0) (yG k (yeql e0 rfl) (yY (pt_ (.bool (decide (c.1 = 5))) e0 k e0) (F _ _ ⟨rfl, rfl, rfl, rfl, rfl, (congrArg Value.bool (andT k)), ((a.k1p).facts (allC F0 (allC F1 (allT (allT (allT (allT (allT (allT allI)))))))))⟩)))
  ·exact gN k (gN k (yY (pf_ (.bool false) e0 k rfl) (F _ _ ⟨rfl, rfl, rfl, rfl, rfl, (congrArg Value.bool (andF k)), ((a.k1p).facts (allC F0 (allC F1 (allT (allT (allT (allT (allT (allT allI)))))))))⟩)))
 rintro f w ⟨G, b6, H, I, J, b7, a⟩
 refine Ym (.bool ((decide (c.2 = 0)) && (decide (c.1 = 5)))) (eh b7) ?_
 refine joinW 3 (fun f w => f 3 = s.v ∧ f 5 = (pB t) ∧ f 6 = (pB j) ∧ f 7 = iV b.2.2.2.2 ∧ f 34 = .bool (((decide (c.2 = 0)) && (decide (c.1 = 5))) && (decide (i.2 = 0))) ∧ St w0 (imm (rI .u32) h.v b.2.1 :: imm (rI .u32) g.v b.2.2.2.1 :: ros) (row 3 I1 s.v i.1 :: box t 27 [.bool b.1, h.v] :: box j 27 [.bool b.2.2.1, g.v] :: rs) w) (fun K => ?_) ?_
 ·rcases Bool.eq_false_or_eq_true ((decide (c.2 = 0)) && (decide (c.1 = 5))) with m | m
  ·exact yG m (m_ (iV i.2) (eh b6)) (yG m (yeql e0 rfl) (yY (pt_ (.bool (decide (i.2 = 0))) e0 m e0) (K _ _ ⟨G, H, I, J, (congrArg Value.bool (andT m)), a⟩)))
  ·exact gN m (gN m (yY (pf_ (.bool false) e0 m rfl) (K _ _ ⟨G, H, I, J, (congrArg Value.bool (andF m)), a⟩)))
 rintro f w ⟨b8, L, N, O, b9, a⟩
 refine Ym (.bool (((decide (c.2 = 0)) && (decide (c.1 = 5))) && (decide (i.2 = 0)))) (eh b9) (bE d fun C u d => ?_)
 refine joinW 4 (fun f w => f 5 = (pB t) ∧ f 6 = (pB j) ∧ f 7 = iV b.2.2.2.2 ∧ f 39 = .bool C ∧ St w0 (imm (rI .u32) h.v b.2.1 :: imm (rI .u32) g.v b.2.2.2.1 :: ros) (box t 27 [.bool b.1, h.v] :: box j 27 [.bool b.2.2.1, g.v] :: rs) w) (fun R => ?_) ?_
 ·rcases iteS u with ⟨o, u⟩ | ⟨o, u⟩
  ·refine yG o (m_ s.v (eh b8)) (YH (wG o) rfl (rLt (n := 2) (l := [5, 1]) a SL_22 [iV 5, iV 1] (bp2 rfl rfl) rfl rfl (mks1 (cs := [iV 5]) rfl mkI (mks1 (cs := [iV 1]) rfl mkI mks0))) fun e3 w a => bE u fun c0 c1 u => ?_)
   replace a := ((a.k11).fz).fz
   refine Yc (wG o) rfl (yCall FN_25 (a2 e0 e0)) (sparsekit_Ints_ok c1 F1 F0 a) ?_
   rintro _ w ⟨rfl, a⟩
   refine ⟨_, rfl, ?_⟩
   refine yY (pt_ (.bool c0) e0 o e0) ?_
   cases u
   exact R _ _ ⟨L, N, O, rfl, (a.facts (allC F2 (allC F3 (allT (allT (allT (allT allI)))))))⟩
  ·refine gN (bfalse o) (gN (bfalse o) (gN (bfalse o) (yY (pf_ (.bool false) e0 (bfalse o) rfl) ?_)))
   cases u
   exact R _ _ ⟨L, N, O, rfl, (a.k1q)⟩
 rintro f w ⟨S, T, c2, c3, a⟩
 refine Ym (.bool C) (eh c3) ?_
 refine joinW 3 (fun f w => f 5 = (pB t) ∧ f 6 = (pB j) ∧ f 43 = .bool (C && (decide (b.2.2.2.2 = 0))) ∧ St w0 (imm (rI .u32) h.v b.2.1 :: imm (rI .u32) g.v b.2.2.2.1 :: ros) (box t 27 [.bool b.1, h.v] :: box j 27 [.bool b.2.2.1, g.v] :: rs) w) (fun U => ?_) ?_
 ·rcases Bool.eq_false_or_eq_true C with p | p
  ·exact yG p (m_ (iV b.2.2.2.2) (eh c2)) (yG p (yeql e0 rfl) (yY (pt_ (.bool (decide (b.2.2.2.2 = 0))) e0 p e0) (U _ _ ⟨S, T, (congrArg Value.bool (andT p)), a⟩)))
  ·exact gN p (gN p (yY (pf_ (.bool false) e0 p rfl) (U _ _ ⟨S, T, (congrArg Value.bool (andF p)), a⟩)))
 rintro f w ⟨c4, V, c5, a⟩
 refine Ym (.bool (C && (decide (b.2.2.2.2 = 0)))) (eh c5) (bE d fun W x d => ?_)
 refine joinW 4 (fun f w => f 6 = (pB j) ∧ f 48 = .bool W ∧ St w0 (imm (rI .u32) g.v b.2.2.2.1 :: ros) (box j 27 [.bool b.2.2.1, g.v] :: rs) w) (fun X => ?_) ?_
 ·rcases iteS x with ⟨q, x⟩ | ⟨q, x⟩
  ·refine yG q (lbs_ [.bool b.1, h.v] ST_27 (eh c4) a R0) (bE x fun c6 c7 x => Yc (wG q) rfl (yCall FN_56 (a1 e0)) (integer_Format_ok c7 F0 a) ?_)
   rintro _ w ⟨rfl, a⟩
   refine ⟨_, rfl, ?_⟩
   refine yG q (yegs e0 rfl) (yY (pt_ (.bool (decide (c6 = (⟨#[45, 49]⟩ : ByteArray)))) e0 q e0) ?_)
   cases x
   exact X _ _ ⟨V, rfl, ((a.k1n).facts (allC F1 (allT (allT allI))))⟩
  ·refine gN (bfalse q) (gN (bfalse q) (gN (bfalse q) (yY (pf_ (.bool false) e0 (bfalse q) rfl) ?_)))
   cases x
   exact X _ _ ⟨V, rfl, ((a.k1n).facts (allC F1 (allT (allT allI))))⟩
 rintro f w ⟨c8, c9, a⟩
 refine Ym (.bool W) (eh c9) (bE d fun Z y d => ?_)
 refine joinW 4 (fun f w => f 53 = .bool Z ∧ St w0 ros rs w) (fun a0 => ?_) ?_
 ·rcases iteS y with ⟨r, y⟩ | ⟨r, y⟩
  ·refine yG r (lbs_ [.bool b.2.2.1, g.v] ST_27 (eh c8) a R0) (bE y fun d0 d1 y => Yc (wG r) rfl (yCall FN_56 (a1 e0)) (integer_Format_ok d1 F0 a) ?_)
   rintro _ w ⟨rfl, a⟩
   refine ⟨_, rfl, ?_⟩
   refine yG r (yegs e0 rfl) (yY (pt_ (.bool (decide (d0 = (⟨#[54]⟩ : ByteArray)))) e0 r e0) ?_)
   cases y
   exact a0 _ _ ⟨rfl, ((a.k10).facts (allT allI))⟩
  ·refine gN (bfalse r) (gN (bfalse r) (gN (bfalse r) (yY (pf_ (.bool false) e0 (bfalse r) rfl) ?_)))
   cases y
   exact a0 _ _ ⟨rfl, ((a.k10).facts (allT allI))⟩
 rintro f w ⟨d2, a⟩
 refine Ym (.bool Z) (eh d2) (bE d fun a3 z d => ?_)
 refine joinW 2 (fun f w => f 56 = .bool a3 ∧ St w0 ros rs w) (fun a4 => ?_) ?_
 ·rcases iteS z with ⟨D, z⟩ | ⟨D, z⟩
  ·refine bE z fun d3 d4 z => Yc (wG D) rfl (yCall FN_24 (a1 rfl)) (modular_IsPrime_ok d4 a) ?_
   rintro _ w ⟨rfl, a⟩
   refine ⟨_, rfl, ?_⟩
   refine yY (pt_ (.bool d3) e0 D e0) ?_
   cases z
   exact a4 _ _ ⟨rfl, a⟩
  ·refine gN (bfalse D) (yY (pf_ (.bool false) e0 (bfalse D) rfl) ?_)
   cases z
   exact a4 _ _ ⟨rfl, a⟩
 rintro f w ⟨d5, a⟩
 refine Ym (.bool a3) (eh d5) (bE d fun a5 A d => ?_)
 refine joinW 3 (fun f w => f 60 = .bool a5 ∧ St w0 ros rs w) (fun a6 => ?_) ?_
 ·rcases iteS A with ⟨B, A⟩ | ⟨B, A⟩
  ·refine bE A fun d6 d7 A => Yc (wG B) rfl (yCall FN_24 (a1 rfl)) (modular_IsPrime_ok d7 a) ?_
   rintro _ w ⟨rfl, a⟩
   refine ⟨_, rfl, ?_⟩
   refine yG B (ynot e0) (yY (pt_ (.bool (!d6)) e0 B e0) ?_)
   cases A
   exact a6 _ _ ⟨rfl, a⟩
  ·refine gN (bfalse B) (gN (bfalse B) (yY (pf_ (.bool false) e0 (bfalse B) rfl) ?_))
   cases A
   exact a6 _ _ ⟨rfl, a⟩
 rintro f w ⟨d8, a⟩
 refine Ya (.bool a5) (eh d8) (wK b5 (wp_ret ?_))
 cases d
 exact a7 _ _ _ (fin1r Tryz.results11 ⟨rfl, rfl⟩ ⟨rfl, a⟩)
theorem sparsekit_TwinInts_ok {t : LI} {g : Hdr} {out : LI} (j : sparsekit_TwinInts t = some out) (k : imm I1 g.v t ∈ ros) (b : St w0 ros rs w) :
  Calls Tryz.prog 49 #[g.v] w (fun e w => ∃ (u : Hdr), e = .returned (u.v) ∧ St w0 ros (row 3 I1 u.v out :: rs) w) := by
 refine enterQ Tryz.func49 rfl Tryz.ntmps49 rfl fun Q z => sR fun _ A => Ya hnil.v rfl (wK A (sR fun _ B => Ya hnil.v rfl (wK B (sQ fun _ C => sR fun _ D => ?_))))
 refine Ya (iV 0) rfl (wK D (blockQ fun E F => bE j fun G H j => ?_))
 have I : ∀ (m : LI) (h : Hdr) (f : FV) w, f 3 = h.v → St w0 ros (row 3 I1 h.v m :: rs) w → m = G → E (.exit 0) (fr 19 f) w := by
  intro m h f w J b ho
  subst ho
  refine F _ _ _ (C _ _ (sR fun _ K => Ym h.v (eh J) (Ya h.v e0 (wK K (wp_ret ?_)))))
  cases j
  exact z _ _ _ (fin1r Tryz.results49 ⟨rfl, rfl⟩ ⟨_, rfl, b⟩)
 replace b := b.rowNh 3 I1
 refine loopQ (fun s a w => ∃ (o : LI) (d : Int) (f : FV) (i : Hdr), (o, d) = s ∧ a = fr 19 f ∧ f 0 = g.v ∧ f 3 = i.v ∧ f 4 = iV d ∧ St w0 ros (row 3 I1 i.v o :: rs) w) H ⟨_, _, _, _, rfl, rfl, rfl, rfl, rfl, b⟩ ?_
 rintro _ _ w a0 ⟨o, d, f, i, rfl, rfl, p, x, q, b⟩ c L a1 N O
 refine seqQ fun a2 R S => sR fun _ T => Ym (iV d) (eh q) (Ym g.v (eh p) (yY (yLen SL_22 e0 b (rdI k)) (yY (ylss e0 e0) (wK T ?_))))
 refine cIf e0 c (fun U c => ?_) fun U c => ?_
 ·refine wp_skip (R _ _ (sQ fun _ V => blockQ fun _ W => wR (Ym i.v (eh x) (Ym g.v (eh p) (Ym (iV d) (eh q) (bE c fun r y c => yY (yIa SL_22 e0 e0 b (rdI k) y) (yY (yI O_3 e0 b (rdI k) y) (yH (rLt (n := 1) (l := [r]) b SL_22 [iV r] (bp1 e0) rfl rfl (mks1 (cs := [iV r]) rfl mkI mks0)) fun a3 w b => bE c fun a4 X c => ?_))))))))
  refine yH (rAp (b.k11) SL_22 e0 e0 rO1 X) fun Z w b => Ya Z.v e0 (wN (W _ _ _ (V _ _ (wR (Ym (iV d) (eh q) (yY (yadd e0 rfl) (Ya (iV (wa .i64 d 1)) e0 (wN ?_))))))))
  cases c
  exact N _ _ _ rfl ⟨_, _, _, _, rfl, rfl, p, rfl, rfl, (b.k1g)⟩
 ·refine wp_exit (S _ _ _ rfl ?_)
  cases c
  exact O _ _ _ _ rfl rfl (I _ _ _ _ x b (L _ rfl))
theorem sparsekit_TwinLists_ok {r : L2} {g : Hdr} {out : L2} (j : sparsekit_TwinLists r = some out) (k : imm S1 g.v r ∈ ros) (b : St w0 ros rs w) :
  Calls Tryz.prog 48 #[g.v] w (fun e w => ∃ (t : Hdr), e = .returned (t.v) ∧ St w0 ros (row 22 S1 t.v out :: rs) w) := by
 refine enterQ Tryz.func48 rfl Tryz.ntmps48 rfl fun Q z => sR fun _ A => Ya hnil.v rfl (wK A (sR fun _ B => Ya hnil.v rfl (wK B (sQ fun _ C => sR fun _ D => ?_))))
 refine Ya (iV 0) rfl (wK D (blockQ fun E F => bE j fun G H j => ?_))
 have I : ∀ (m : L2) (h : Hdr) (f : FV) w, f 3 = h.v → St w0 ros (row 22 S1 h.v m :: rs) w → m = G → E (.exit 0) (fr 20 f) w := by
  intro m h f w J b ho
  subst ho
  refine F _ _ _ (C _ _ (sR fun _ K => Ym h.v (eh J) (Ya h.v e0 (wK K (wp_ret ?_)))))
  cases j
  exact z _ _ _ (fin1r Tryz.results48 ⟨rfl, rfl⟩ ⟨_, rfl, b⟩)
 replace b := b.rowNh 22 S1
 refine loopQ (fun s a w => ∃ (o : L2) (d : Int) (f : FV) (i : Hdr), (o, d) = s ∧ a = fr 20 f ∧ f 0 = g.v ∧ f 3 = i.v ∧ f 4 = iV d ∧ St w0 ros (row 22 S1 i.v o :: rs) w) H ⟨_, _, _, _, rfl, rfl, rfl, rfl, rfl, b⟩ ?_
 rintro _ _ w a3 ⟨o, d, f, i, rfl, rfl, p, u, q, b⟩ c L a4 N O
 refine seqQ fun a5 R S => sR fun _ T => Ym (iV d) (eh q) (Ym g.v (eh p) (yY (yLen SL_52 e0 b (rdI k)) (yY (ylss e0 e0) (wK T ?_))))
 refine cIf e0 c (fun U c => ?_) fun U c => ?_
 ·refine wp_skip (R _ _ (sQ fun _ V => blockQ fun _ W => wR (Ym i.v (eh u) (Ym g.v (eh p) (Ym (iV d) (eh q) (bE c fun a6 x c => yY (yIa SL_52 e0 e0 b (rdI k) x) ?_))))))
  obtain ⟨a7, b⟩ := iLs b k x
  refine yY (yCt O_22 e0 b F1 rfl) (bE c fun X Z c => yC (yCall FN_49 (a1 e0)) (sparsekit_TwinInts_ok Z F0 b) ?_)
  rintro _ w ⟨y, rfl, b⟩
  refine ⟨_, rfl, ?_⟩
  refine yH (rLt (n := 1) (l := [X]) b.fz SL_52 [y.v] (bp1 e0) rfl rfl (mks1 (cs := [y.v]) rfl (mkS F0) mks0)) fun a8 w b => bE c fun a9 a0 c => yH (rAp (b.k11) SL_52 e0 e0 rO1 a0) fun a2 w b => Ya a2.v e0 (wN (W _ _ _ (V _ _ (wR (Ym (iV d) (eh q) (yY (yadd e0 rfl) (Ya (iV (wa .i64 d 1)) e0 (wN ?_))))))))
  cases c
  exact N _ _ _ rfl ⟨_, _, _, _, rfl, rfl, p, rfl, rfl, ((b.k1g).facts (allT (allT (allT allI))))⟩
 ·refine wp_exit (S _ _ _ rfl ?_)
  cases c
  exact O _ _ _ _ rfl rfl (I _ _ _ _ u b (L _ rfl))
theorem modular_Rank_ok {j : L2} {c : Int} {d : Hdr} {out : Int × Int} (a : modular_Rank j c = some out) (k : imm S1 d.v j ∈ ros) (b : St w0 ros rs w) :
  Calls Tryz.prog 38 #[d.v, iV c] w (fun e w => e = .returned (.tuple #[iV out.1, iV out.2]) ∧ St w0 ros rs w) := by
 refine enterQ Tryz.func38 rfl Tryz.ntmps38 rfl fun Q l => sR fun _ m => Ya (iV 0) rfl (Ya (iV 0) rfl (wK m (sR fun _ n => Ym d.v e0 (Ym (iV c) e0 (bE a fun f o a => yC (yCall FN_83 (a2 e0 e0)) (modular_check_ok o k b) ?_)))))
 rintro _ w ⟨rfl, b⟩
 refine ⟨_, rfl, ?_⟩
 refine Ya (iV f) e0 (wK n (seqQ fun z p q => sR fun _ r => Ym (iV f) e0 (yY (yneq e0 rfl) (wK r ?_))))
 rcases iteS a with ⟨i, a⟩ | ⟨i, a⟩
 ·refine condF e0 (nF (dT i)) (wp_skip (p _ _ (sR fun _ s => Ym d.v e0 (Ym (iV c) e0 (bE a fun A t a => yC (yCall FN_82 (a2 e0 e0)) (modular_reduced_ok t k b) ?_)))))
  rintro _ w ⟨B, C, rfl, b⟩
  refine ⟨_, rfl, ?_⟩
  refine Ym (iV c) e0 (bE a fun g u a => yC (yCall FN_81 (a2 e0 e0)) (modular_echelon_ok u b) ?_)
  rintro _ w ⟨D, h, rfl, b⟩
  refine ⟨_, rfl, ?_⟩
  refine Ym (.tuple #[h.v, iV g.2.2]) e0 (yY (x_ h.v e0) (yY (x_ (iV g.2.2) e0) (Ya h.v e0 (Ya (iV g.2.2) e0 (wK s (sR fun _ x => Ym h.v e0 (yY (yLen SL_22 e0 b rO2) (Ya (iV (g.2.1.length : Int)) e0 (Ya (iV 0) rfl (wN ?_))))))))))
  refine x _ _ (wp_ret ?_)
  cases a
  exact l _ _ _ (fin2r Tryz.results38 ⟨rfl, rfl⟩ ⟨rfl, rfl⟩ ⟨rfl, (b.k1k)⟩)
 ·refine condT e0 (nT (dF i)) (sR fun _ y => Ym (iV f) e0 (Ya (iV 0) rfl (Ya (iV f) e0 (wK y (wp_ret (q _ _ _ rfl ?_))))))
  cases a
  exact l _ _ _ (fin2r Tryz.results38 ⟨rfl, rfl⟩ ⟨rfl, rfl⟩ ⟨rfl, b⟩)
theorem modular_square_ok {i : L2} {j : Int} {h : Hdr} {out : Int} (c : modular_square i j = some out) (k : imm S1 h.v i ∈ ros) (b : St w0 ros rs w) :
  Calls Tryz.prog 80 #[h.v, iV j] w (fun e w => e = .returned (iV out) ∧ St w0 ros rs w) := by
 refine enterQ Tryz.func80 rfl Tryz.ntmps80 rfl fun Q l => sR fun _ n => Ya (iV 0) rfl (wK n (sR fun _ o => Ym h.v e0 (Ym (iV j) e0 (bE c fun g p c => yC (yCall FN_83 (a2 e0 e0)) (modular_check_ok p k b) ?_))))
 rintro _ w ⟨rfl, b⟩
 refine ⟨_, rfl, ?_⟩
 refine Ya (iV g) e0 (wK o (seqQ fun D q r => sR fun _ s => Ym (iV g) e0 (yY (yeql e0 rfl) (Ym (.bool (decide (g = 0))) e0 (bE c fun t d c => ?_)))))
 refine joinW 6 (fun f w => f 5 = iV g ∧ f 17 = .bool t ∧ St w0 ros rs w) (fun m => ?_) ?_
 ·rcases iteS d with ⟨a, d⟩ | ⟨a, d⟩
  ·refine yG (dT a) (m_ h.v e0) (yG (dT a) (yLen SL_52 e0 b (rdI k)) (yG (dT a) (m_ h.v e0) (bE d fun u x d => Yc (wG (dT a)) rfl (yCall FN_94 (a1 e0)) (modular_columns_ok x k b) ?_)))
   rintro _ w ⟨rfl, b⟩
   refine ⟨_, rfl, ?_⟩
   refine yG (dT a) (yneq e0 e0) (yY (pt_ (.bool (!(decide ((i.length : Int) = u)))) e0 (dT a) e0) ?_)
   cases d
   exact m _ _ ⟨rfl, rfl, b⟩
  ·refine gN (dF a) (gN (dF a) (gN (dF a) (gN (dF a) (gN (dF a) (yY (pf_ (.bool false) e0 (dF a) rfl) ?_)))))
   cases d
   exact m _ _ ⟨rfl, rfl, b⟩
 rintro f w ⟨y, z, b⟩
 refine wK s (cB (eh z) c (fun A c => ?_) fun A c => ?_)
 ·refine sR fun _ B => Ya (iV 5) rfl (wK B (wp_ret (r _ _ _ rfl ?_)))
  cases c
  exact l _ _ _ (fin1r Tryz.results80 ⟨rfl, rfl⟩ ⟨rfl, b⟩)
 ·refine wp_skip (q _ _ (sR fun _ C => Ym (iV g) (eh y) (Ya (iV g) e0 (wK C (wp_ret ?_)))))
  cases c
  exact l _ _ _ (fin1r Tryz.results80 ⟨rfl, rfl⟩ ⟨rfl, b⟩)
theorem modular_Det_ok {l : L2} {c : Int} {d : Hdr} {out : Int × Int} (a : modular_Det l c = some out) (i : imm S1 d.v l ∈ ros) (b : St w0 ros rs w) :
  Calls Tryz.prog 36 #[d.v, iV c] w (fun e w => e = .returned (.tuple #[iV out.1, iV out.2]) ∧ St w0 ros rs w) := by
 refine enterQ Tryz.func36 rfl Tryz.ntmps36 rfl fun Q j => sR fun _ m => Ya (iV 0) rfl (Ya (iV 0) rfl (wK m (sR fun _ n => Ym d.v e0 (Ym (iV c) e0 (bE a fun g o a => yC (yCall FN_80 (a2 e0 e0)) (modular_square_ok o i b) ?_)))))
 rintro _ w ⟨rfl, b⟩
 refine ⟨_, rfl, ?_⟩
 refine Ya (iV g) e0 (wK n (seqQ fun E p q => sR fun _ r => Ym (iV g) e0 (yY (yneq e0 rfl) (wK r ?_))))
 rcases iteS a with ⟨k, a⟩ | ⟨k, a⟩
 ·refine condF e0 (nF (dT k)) (wp_skip (p _ _ (sR fun _ s => Ym d.v e0 (Ym (iV c) e0 (bE a fun F t a => yC (yCall FN_82 (a2 e0 e0)) (modular_reduced_ok t i b) ?_)))))
  rintro _ w ⟨G, H, rfl, b⟩
  refine ⟨_, rfl, ?_⟩
  refine Ym (iV c) e0 (bE a fun f u a => yC (yCall FN_81 (a2 e0 e0)) (modular_echelon_ok u b) ?_)
  rintro _ w ⟨I, h, rfl, b⟩
  refine ⟨_, rfl, ?_⟩
  refine Ym (.tuple #[h.v, iV f.2.2]) e0 (yY (x_ h.v e0) (yY (x_ (iV f.2.2) e0) (Ya h.v e0 (Ya (iV f.2.2) e0 (wK s (seqQ fun J x y => sR fun _ z => Ym h.v e0 (yY (yLen SL_22 e0 b rO2) (Ym d.v e0 (yY (yLen SL_52 e0 b (rdI i)) ?_)))))))))
  refine yY (ylss e0 e0) (wK z ?_)
  refine cIf e0 a (fun A a => ?_) fun A a => ?_
  ·refine sR fun _ B => Ya (iV 0) rfl (Ya (iV 0) rfl (wK B (wp_ret (y _ _ _ rfl ?_))))
   cases a
   exact j _ _ _ (fin2r Tryz.results36 ⟨rfl, rfl⟩ ⟨rfl, rfl⟩ ⟨rfl, (b.k1k)⟩)
  ·refine wp_skip (x _ _ (sR fun _ C => Ym (iV f.2.2) e0 (Ya (iV f.2.2) e0 (Ya (iV 0) rfl (wK C (wp_ret ?_))))))
   cases a
   exact j _ _ _ (fin2r Tryz.results36 ⟨rfl, rfl⟩ ⟨rfl, rfl⟩ ⟨rfl, (b.k1k)⟩)
 ·refine condT e0 (nT (dF k)) (sR fun _ D => Ym (iV g) e0 (Ya (iV 0) rfl (Ya (iV g) e0 (wK D (wp_ret (q _ _ _ rfl ?_))))))
  cases a
  exact j _ _ _ (fin2r Tryz.results36 ⟨rfl, rfl⟩ ⟨rfl, rfl⟩ ⟨rfl, b⟩)
theorem modular_Solve_ok {z : L2} {E : LI} {q : Int} {m A : Hdr} {out : LI × Int} (c : modular_Solve z E q = some out) (B : imm S1 m.v z ∈ ros) (F : imm I1 A.v E ∈ ros) (b : St w0 ros rs w) :
  Calls Tryz.prog 46 #[m.v, A.v, iV q] w (fun e w => ∃ (a7 : Hdr), e = .returned (.tuple #[a7.v, iV out.2]) ∧ St w0 ros (row 3 I1 a7.v out.1 :: rs) w) := by
 refine enterQ Tryz.func46 rfl Tryz.ntmps46 rfl fun Q G => sR fun _ d4 => Ya hnil.v rfl (Ya (iV 0) rfl (wK d4 (sR fun _ d5 => Ym m.v e0 (Ym (iV q) e0 (bE c fun C d6 c => yC (yCall FN_80 (a2 e0 e0)) (modular_square_ok d6 B b) ?_)))))
 rintro _ w ⟨rfl, b⟩
 refine ⟨_, rfl, ?_⟩
 refine Ya (iV C) e0 (wK d5 (seqQ fun l2 d7 a8 => blockQ fun _ O => sR fun _ d8 => Ym (iV C) e0 (yY (yneq e0 rfl) (Ya (.bool (!(decide (C = 0)))) e0 (wK d8 ?_)))))
 rcases iteS c with ⟨R, c⟩ | ⟨R, c⟩
 ·refine condF e0 (nF (dT R)) (sR fun _ d9 => Ym A.v e0 (yY (yLen SL_22 e0 b (rdI F)) (Ym m.v e0 (yY (yLen SL_52 e0 b (rdI B)) (yY (yneq e0 e0) (Ya (.bool (!(decide ((E.length : Int) = (z.length : Int))))) e0 (wK d9 ?_)))))))
  rcases iteS c with ⟨S, c⟩ | ⟨S, c⟩
  ·refine condF e0 (nF (dT S)) (wp_skip (O _ _ _ (d7 _ _ (sR fun _ e1 => Ym m.v e0 (Ym (iV q) e0 (bE c fun l3 e2 c => yC (yCall FN_82 (a2 e0 e0)) (modular_reduced_ok e2 B b) ?_))))))
   rintro _ w ⟨d, l4, rfl, b⟩
   refine ⟨_, rfl, ?_⟩
   refine Ya d.v e0 (wK e1 (sQ fun _ e3 => sR fun _ e4 => Ym A.v e0 (yY (yLen SL_22 e0 b (rdI F)) (Ym (iV 0) rfl (wK e4 (blockQ fun e5 e6 => bE c fun e7 e8 c => ?_))))))
   have e9 : ∀ (T : L2) (U : List Hdr) (f : FV) w, f 0 = m.v → f 2 = iV q → f 9 = d.v → St w0 ros (row 22 rH d.v U :: fam 3 I1 U T :: rs) w → T = e7 → e5 (.exit 1) (fr 88 f) w := by
    intro T U f w a9 f0 b0 b ho
    subst ho
    refine e6 _ _ _ (e3 _ _ (sR fun _ f1 => Ym d.v (eh b0) (Ym (iV q) (eh f0) (bE c fun r f2 c => yC (yCall FN_81 (a2 e0 e0)) (modular_echelon_ok f2 b) ?_))))
    rintro _ w ⟨H, o, rfl, b⟩
    refine ⟨_, rfl, ?_⟩
    refine Ym (.tuple #[o.v, iV r.2.2]) e0 (yY (x_ o.v e0) (yY (x_ (iV r.2.2) e0) (Ya o.v e0 (Ya (iV r.2.2) e0 (wK f1 (sR fun _ f3 => Ya hnil.v rfl (wK f3 (seqQ fun l5 f4 f5 => sQ fun _ f6 => ?_))))))))
    refine wR (Ym m.v (eh a9) (yY (yLen SL_52 e0 b (rdI B)) (Ym (iV 0) rfl (wK f6 (blockQ fun b1 b2 => bE c fun b3 f7 c => ?_)))))
    have f8 : ∀ (V : LI) (D : Hdr) (f : FV) w, f 14 = D.v → St w0 ros (row 3 I1 D.v V :: rs) w → .inl V = b3 → b1 (.exit 3) (fr 88 f) w := by
     intro V D f w f9 b ho
     subst ho
     refine b2 _ _ _ (f4 _ _ (sR fun _ g0 => Ym D.v (eh f9) (Ya D.v e0 (Ya (iV 0) rfl (wK g0 (wp_ret ?_))))))
     cases c
     exact G _ _ _ (fin2r Tryz.results46 ⟨rfl, rfl⟩ ⟨rfl, rfl⟩ ⟨_, rfl, b⟩)
    have g1 : ∀ (f : FV) w, f 6 = hnil.v → f 7 = iV 9 → St w0 ros rs w → .inr () = b3 → b1 .ret (fr 88 f) w := by
     intro f w g2 g3 b ho
     subst ho
     refine b2 _ _ _ (f5 _ _ _ rfl ?_)
     cases c
     replace b := b.rowNh 3 I1
     exact G _ _ _ (fin2r Tryz.results46 ⟨rfl, g2⟩ ⟨rfl, g3⟩ ⟨_, rfl, b⟩)
    replace b := b.rowNh 3 I1
    refine loopQ (fun s a w => ∃ (I : LI) (j : Int) (f : FV) (y : Hdr), (I, j) = s ∧ a = fr 88 f ∧ f 0 = m.v ∧ f 9 = d.v ∧ f 12 = o.v ∧ f 14 = y.v ∧ f 59 = iV (z.length : Int) ∧ f 60 = iV j ∧ St w0 ros (row 22 rH d.v H :: fam 3 I1 H r.1 :: row 3 I1 o.v r.2.1 :: row 3 I1 y.v I :: rs) w) f7 ⟨_, _, _, _, rfl, rfl, a9, b0, rfl, rfl, rfl, rfl, (b.k1c)⟩ ?_
    rintro _ _ w l6 ⟨I, j, f, y, rfl, rfl, b4, b5, J, W, X, K, b⟩ g b6 l7 g4 b7
    refine sR fun _ g5 => yY (ylss (eh K) (eh X)) (wK g5 (seqQ fun l8 g6 g7 => ?_))
    refine cIf e0 g (fun g8 g => ?_) fun g8 g => ?_
    ·refine wp_skip (g6 _ _ (seqQ fun l9 g9 h0 => blockQ fun _ b8 => sR fun _ h1 => Ym (iV j) (eh K) (Ya (iV j) e0 (wK h1 (seqQ fun m0 h3 h5 => sR fun _ h6 => Ym (iV j) e0 ?_)))))
     refine Ym o.v (eh J) (yY (yLen SL_22 e0 b rO2) (yY (ygeq e0 e0) (Ym (.bool (decide ((r.2.1.length : Int) ≤ j))) e0 (bE g fun h7 x g => ?_))))
     refine joinW 7 (fun f w => f 0 = m.v ∧ f 9 = d.v ∧ f 12 = o.v ∧ f 14 = y.v ∧ f 15 = iV j ∧ f 59 = iV (z.length : Int) ∧ f 60 = iV j ∧ f 74 = .bool h7 ∧ St w0 ros (row 22 rH d.v H :: fam 3 I1 H r.1 :: row 3 I1 o.v r.2.1 :: row 3 I1 y.v I :: rs) w) (fun b9 => ?_) ?_
     ·rcases iteS x with ⟨h, x⟩ | ⟨h, x⟩
      ·refine gN (dT h) (gN (dT h) (gN (dT h) (gN (dT h) (gN (dT h) (gN (dT h) (yY (pt_ (.bool true) e0 (dT h) rfl) ?_))))))
       cases x
       exact b9 _ _ ⟨b4, b5, J, W, rfl, X, K, rfl, b⟩
      ·refine yG (dF h) (m_ o.v (eh J)) (yG (dF h) (m_ (iV j) e0) (bE x fun h8 c0 x => yG (dF h) (yIa SL_22 e0 e0 b rO2 c0) (yG (dF h) (yI O_3 e0 b rO2 c0) (yG (dF h) (m_ (iV j) e0) (yG (dF h) (yneq e0 e0) (yY (pf_ (.bool (!(decide (h8 = j)))) e0 (dF h) e0) ?_))))))
       cases x
       exact b9 _ _ ⟨b4, b5, J, W, rfl, X, K, rfl, b⟩
     rintro f w ⟨c1, c2, h9, i0, i1, i2, i3, i4, b⟩
     refine wK h6 (cB (eh i4) g (fun i5 g => ?_) fun i5 g => ?_)
     ·refine sR fun _ i6 => Ya hnil.v rfl (Ya (iV 9) rfl (wK i6 (wp_ret (h5 _ _ _ rfl (b8 _ _ _ (h0 _ _ _ rfl ?_))))))
      cases g
      exact b7 _ _ _ _ rfl rfl (g1 _ _ rfl rfl (b.k1h) (b6 _ rfl))
     ·refine wp_skip (h3 _ _ (wR (Ym y.v (eh i0) (Ym d.v (eh c2) (Ym (iV j) (eh i1) (bE g fun m1 Z g => ?_))))))
      obtain ⟨m2, L⟩ := b.famI R1 Z
      refine yY (yIa SLH_52 e0 e0 b rO0 L) (yY (yF1 O_22 e0 b rO0 L rfl) (Ym m.v (eh c1) (yY (yLen SL_52 e0 b (rdI B)) (bE g fun a0 c3 g => yY (yIa SL_22 e0 e0 b (rdF R1 L Z) c3) (yY (yI O_3 e0 b (rdF R1 L Z) c3) (yH (rLt (n := 1) (l := [a0]) b SL_22 [iV a0] (bp1 e0) rfl rfl (mks1 (cs := [iV a0]) rfl mkI mks0)) fun m3 w b => bE g fun m4 i7 g => yH (rAp (b.k1r) SL_22 e0 e0 rO1 i7) fun i8 w b => Ya i8.v e0 (wN ?_)))))))
      refine b8 _ _ _ (g9 _ _ (wR (yY (yadd (eh i3) rfl) (Ym (iV (wa .i64 j 1)) e0 (wN ?_)))))
      cases g
      exact g4 _ _ _ rfl ⟨_, _, _, _, rfl, rfl, c1, c2, h9, rfl, i2, rfl, (b.k1s)⟩
    ·refine wp_exit (g7 _ _ _ rfl ?_)
     cases g
     exact b7 _ _ _ _ rfl rfl (f8 _ _ _ _ W (b.k1t) (b6 _ rfl))
   refine loopQ (fun s a w => ∃ (a1 : L2) (k : Int) (f : FV) (a3 : List Hdr), (a1, k) = s ∧ a = fr 88 f ∧ f 0 = m.v ∧ f 2 = iV q ∧ f 9 = d.v ∧ f 32 = A.v ∧ f 33 = iV (E.length : Int) ∧ f 34 = iV k ∧ St w0 ros (row 22 rH d.v a3 :: fam 3 I1 a3 a1 :: rs) w) e8 ⟨_, _, _, _, rfl, rfl, rfl, rfl, rfl, rfl, rfl, rfl, b⟩ ?_
   rintro _ _ w m5 ⟨a1, k, f, a3, rfl, rfl, c4, a4, p, c5, c6, N, b⟩ i i9 m6 j0 j1
   refine sR fun _ j2 => yY (ylss (eh N) (eh c6)) (wK j2 (seqQ fun m7 j3 j4 => ?_))
   refine cIf e0 i (fun j6 i => ?_) fun j6 i => ?_
   ·refine wp_skip (j3 _ _ (sQ fun _ j7 => blockQ fun _ j8 => sR fun _ j9 => Ym (iV k) (eh N) (bE i fun c9 d0 i => yY (yIa SL_22 (eh c5) (eh N) b (rdI F) d0) (yY (yI O_3 e0 b (rdI F) d0) (Ya (iV k) e0 (Ya (iV c9) e0 (wK j9 ?_)))))))
    refine bE i fun m8 d1 i => bE i fun a5 k0 i => bE i fun m9 k4 i => bE i fun n0 d2 i => dR [0, 0, 0, 0, 12, 28, 0, 0, 192, 448, 1020, 2047, 4095] [8, 9, 10, 12] 4 folM ?_
    replace b := b.drew
    refine Dn [0, 1, 2, 3, 4, 5, 6, 7] [] [8] (yR rfl (m_ d.v (eh p)) (yR rfl (m_ (iV k) e0) (yR rfl (m_ d.v (eh p)) (yR rfl (m_ (iV k) e0) ?_))))
    obtain ⟨n2, t⟩ := b.famI R1 d1
    refine yR rfl (yIa SLH_52 e0 e0 b rO0 t) (yR rfl (yF1 O_22 e0 b rO0 t rfl) (yR rfl (m_ (iV c9) e0) (yR rfl (m_ (iV q) (eh a4)) (Rn QSn ?_))))
    refine Lc1 rfl ?_
    refine Lk wn (yCall FN_62 (a2 e0 e0)) (modular_mod_ok k0 b) ?_
    rintro _ w ⟨rfl, b⟩
    refine ⟨_, rfl, ?_⟩
    refine Dn [] [0, 1, 2, 3, 4, 5] [9] (Rn (yS rfl (m_ d.v (eh p)) (yS rfl (m_ (iV k) e0) (yS rfl (m_ d.v (eh p)) (yS rfl (m_ (iV k) e0) (yS rfl (yIa SLH_52 e0 e0 b rO0 t) (yS rfl (yF1 O_22 e0 b rO0 t rfl) QSn)))))) ?_)
    refine Lc1 rfl ?_
    refine LH wn (rLt (n := 1) (l := [a5]) b SL_22 [iV a5] (bp1 e0) rfl rfl (mks1 (cs := [iV a5]) rfl mkI mks0)) fun n3 w b => Dn [] [0, 1, 2, 3, 4, 5] [10] (Rn (yS rfl (m_ d.v (eh p)) (yS rfl (m_ (iV k) e0) (yS rfl (m_ d.v (eh p)) (yS rfl (m_ (iV k) e0) (yS rfl (yIa SLH_52 e0 e0 b rO1 t) (yS rfl (yF1 O_22 e0 b rO1 t rfl) QSn)))))) ?_)
    refine Lc1 rfl ?_
    replace b := (b.k1a).foc t d1
    refine LH wn (rAp b SL_22 e0 e0 rO2 k4) fun d3 w b => Dn [11] [0, 1] [12] ?_
    obtain ⟨n5, a6⟩ := setI_len (u := d3) d2 (b.famLx (mtR mhR))
    refine yR rfl (yIs SLH_52 e0 e0 b rO3 a6) (Rn (yS rfl (m_ d.v (eh p)) (yS rfl (m_ (iV k) e0) QSn)) ?_)
    refine Lc1 rfl ?_
    replace b := b.k15
    refine LT wn (r_sti (cs := [d3.v]) b O_22 rfl e0 e0 rfl (mkF rfl) a6) fun w b => ?_
    replace b := (b.k14).unfS t a6 d2
    refine Dz [] [] (Rn QSn (j8 _ _ _ (j7 _ _ (wR (yY (yadd (eh N) rfl) (Ym (iV (wa .i64 k 1)) e0 (wN ?_)))))))
    cases i
    exact j0 _ _ _ rfl ⟨_, _, _, _, rfl, rfl, c4, a4, p, c5, c6, rfl, (b.k13)⟩
   ·refine wp_exit (j4 _ _ _ rfl ?_)
    cases i
    exact j1 _ _ _ _ rfl rfl (e9 _ _ _ _ c4 a4 p b (i9 _ rfl))
  ·refine condT e0 (nT (dF S)) (sR fun _ l0 => Ya hnil.v rfl (Ya (iV 2) rfl (wK l0 (wp_ret (O _ _ _ (a8 _ _ _ rfl ?_))))))
   cases c
   replace b := b.rowNh 3 I1
   exact G _ _ _ (fin2r Tryz.results46 ⟨rfl, rfl⟩ ⟨rfl, rfl⟩ ⟨_, rfl, b⟩)
 ·refine condT e0 (nT (dF R)) (sR fun _ l1 => Ym (iV C) e0 (Ya hnil.v rfl (Ya (iV C) e0 (wK l1 (wp_ret (O _ _ _ (a8 _ _ _ rfl ?_)))))))
  cases c
  replace b := b.rowNh 3 I1
  exact G _ _ _ (fin2r Tryz.results46 ⟨rfl, rfl⟩ ⟨rfl, rfl⟩ ⟨_, rfl, b⟩)
theorem sparsekit_Lists_ok {q r : L2} {h i : Hdr} {out : Bool} (d : sparsekit_Lists q r = some out) (j : imm S1 h.v q ∈ ros) (l : imm S1 i.v r ∈ ros) (b : St w0 ros rs w) :
  Calls Tryz.prog 50 #[h.v, i.v] w (fun e w => e = .returned (.bool out) ∧ St w0 ros rs w) := by
 refine enterQ Tryz.func50 rfl Tryz.ntmps50 rfl fun Q m => sR fun _ E => Ya (.bool false) rfl (wK E (seqQ fun a6 F G => sR fun _ H => Ym h.v e0 (yY (yLen SL_52 e0 b (rdI j)) (Ym i.v e0 (yY (yLen SL_52 e0 b (rdI l)) (yY (yneq e0 e0) ?_))))))
 refine wK H ?_
 rcases iteS d with ⟨n, d⟩ | ⟨n, d⟩
 ·refine condF e0 (nF (dT n)) (wp_skip (F _ _ (seqQ fun a7 I J => sR fun _ K => Ya (iV 0) rfl (wK K (blockQ fun t u => bE d fun x L d => ?_)))))
  have N : ∀ (f : FV) w, St w0 ros rs w → .inl () = x → t (.exit 0) (fr 27 f) w := by
   intro f w b ho
   subst ho
   refine u _ _ _ (I _ _ (sR fun _ O => Ya (.bool true) rfl (wK O (wp_ret ?_))))
   cases d
   exact m _ _ _ (fin1r Tryz.results50 ⟨rfl, rfl⟩ ⟨rfl, b⟩)
  have R : ∀ (f : FV) w, f 4 = .bool false → St w0 ros rs w → .inr () = x → t .ret (fr 27 f) w := by
   intro f w S b ho
   subst ho
   refine u _ _ _ (J _ _ _ rfl ?_)
   cases d
   exact m _ _ _ (fin1r Tryz.results50 ⟨rfl, S⟩ ⟨rfl, b⟩)
  refine loopQ (fun s a w => ∃ (g : Int) (f : FV), g = s ∧ a = fr 27 f ∧ f 0 = h.v ∧ f 1 = i.v ∧ f 5 = iV g ∧ St w0 ros rs w) L ⟨_, _, rfl, rfl, rfl, rfl, rfl, b⟩ ?_
  rintro _ _ w a8 ⟨g, f, rfl, rfl, o, y, k, b⟩ c z a9 T A
  refine seqQ fun b0 U V => sR fun _ W => Ym (iV g) (eh k) (Ym h.v (eh o) (yY (yLen SL_52 e0 b (rdI j)) (yY (ylss e0 e0) (wK W ?_))))
  refine cIf e0 c (fun X c => ?_) fun X c => ?_
  ·refine wp_skip (U _ _ (seqQ fun b1 Z a0 => blockQ fun _ B => sQ fun _ a1 => bE c fun b2 C c => bE c fun b3 D c => bE c fun b4 a3 c => dR [0, 0, 3, 7, 0, 0, 48, 112, 255, 511] [8] 1 folM ?_))
   replace b := b.drew
   refine Dn [0, 1, 2, 3, 4, 5, 6, 7] [] [8] (yR rfl (m_ h.v (eh o)) (yR rfl (m_ (iV g) (eh k)) (yR rfl (yIa SL_52 e0 e0 b (rdI j) C) ?_)))
   obtain ⟨b5, b⟩ := iLs b j C
   refine yR rfl (yCt O_22 e0 b F1 rfl) (yR rfl (m_ i.v (eh y)) (yR rfl (m_ (iV g) (eh k)) (yR rfl (yIa SL_52 e0 e0 b (rdI (F_2 l)) D) ?_)))
   obtain ⟨b6, b⟩ := iLs b (F_2 l) D
   refine yR rfl (yCt O_22 e0 b F1 rfl) (Rn QSn ?_)
   refine Lc1 rfl ?_
   refine Lk wn (yCall FN_25 (a2 e0 e0)) (sparsekit_Ints_ok a3 F2 F0 b) ?_
   rintro _ w ⟨rfl, b⟩
   refine ⟨_, rfl, ?_⟩
   refine Dz [9] [] (yR rfl (ynot e0) (Rn QSn (a1 _ _ ?_)))
   rcases iteS c with ⟨p, c⟩ | ⟨p, c⟩
   ·refine condF e0 (nF p) (wp_skip (B _ _ _ (Z _ _ (wR (Ym (iV g) (eh k) (yY (yadd e0 rfl) (Ya (iV (wa .i64 g 1)) e0 (wN ?_))))))))
    cases c
    exact T _ _ _ rfl ⟨_, _, rfl, rfl, o, y, rfl, (b.facts (allT (allT (allT (allT allI)))))⟩
   ·refine condT e0 (nT (bfalse p)) (sR fun _ a4 => Ya (.bool false) rfl (wK a4 (wp_ret (B _ _ _ (a0 _ _ _ rfl ?_)))))
    cases c
    exact A _ _ _ _ rfl rfl (R _ _ rfl (b.facts (allT (allT (allT (allT allI))))) (z _ rfl))
  ·refine wp_exit (V _ _ _ rfl ?_)
   cases c
   exact A _ _ _ _ rfl rfl (N _ _ b (z _ rfl))
 ·refine condT e0 (nT (dF n)) (sR fun _ a5 => Ya (.bool false) rfl (wK a5 (wp_ret (G _ _ _ rfl ?_))))
  cases d
  exact m _ _ _ (fin1r Tryz.results50 ⟨rfl, rfl⟩ ⟨rfl, b⟩)
theorem sparseref07_IsPrime_ok {b : Int} {out : Bool} (h : sparseref07_IsPrime b = some out) (c : St w0 ros rs w) :
  Calls Tryz.prog 14 #[iV b] w (fun e w => e = .returned (.bool out) ∧ St w0 ros rs w) := by
 refine enterQ Tryz.func14 rfl Tryz.ntmps14 rfl fun Q l => sR fun _ u => Ya (.bool false) rfl (wK u (seqQ fun Z v x => sR fun _ y => Ym (iV b) e0 (yY (ylss e0 rfl) (Ym (.bool (decide (b < 2))) e0 ?_))))
 refine joinW 3 (fun f w => f 0 = iV b ∧ f 9 = .bool ((decide (b < 2)) || (decide ((2147483647 : Int) < b))) ∧ St w0 ros rs w) (fun m => ?_) ?_
 ·rcases Bool.eq_false_or_eq_true (decide (b < 2)) with g | g
  ·exact gN g (gN g (yY (pt_ (.bool true) e0 g rfl) (m _ _ ⟨rfl, (congrArg Value.bool (orT g)), c⟩)))
  ·exact yG g (m_ (iV b) e0) (yG g (ygtr e0 rfl) (yY (pf_ (.bool (decide ((2147483647 : Int) < b))) e0 g e0) (m _ _ ⟨rfl, (congrArg Value.bool (orF g)), c⟩)))
 rintro f w ⟨j, z, c⟩
 refine wK y (cB (eh z) h (fun A h => ?_) fun A h => ?_)
 ·refine sR fun _ B => Ya (.bool false) rfl (wK B (wp_ret (x _ _ _ rfl ?_)))
  cases h
  exact l _ _ _ (fin1r Tryz.results14 ⟨rfl, rfl⟩ ⟨rfl, c⟩)
 ·refine wp_skip (v _ _ (seqQ fun a0 C D => sR fun _ E => Ya (iV 2) rfl (wK E (blockQ fun n o => bE h fun p F h => ?_))))
  have G : ∀ (f : FV) w, St w0 ros rs w → .inl () = p → n (.exit 0) (fr 21 f) w := by
   intro f w c ho
   subst ho
   refine o _ _ _ (C _ _ (sR fun _ H => Ya (.bool true) rfl (wK H (wp_ret ?_))))
   cases h
   exact l _ _ _ (fin1r Tryz.results14 ⟨rfl, rfl⟩ ⟨rfl, c⟩)
  have I : ∀ (f : FV) w, f 2 = .bool false → St w0 ros rs w → .inr () = p → n .ret (fr 21 f) w := by
   intro f w J c ho
   subst ho
   refine o _ _ _ (D _ _ _ rfl ?_)
   cases h
   exact l _ _ _ (fin1r Tryz.results14 ⟨rfl, J⟩ ⟨rfl, c⟩)
  refine loopQ (fun s a w => ∃ (i : Int) (f : FV), i = s ∧ a = fr 21 f ∧ f 0 = iV b ∧ f 3 = iV i ∧ St w0 ros rs w) F ⟨_, _, rfl, rfl, j, rfl, c⟩ ?_
  rintro _ _ w a1 ⟨i, f, rfl, rfl, j, k, c⟩ d q a2 K r
  refine seqQ fun a3 L N => sR fun _ O => Ym (iV i) (eh k) (Ym (iV i) (eh k) (yY (ymul e0 e0) (Ym (iV b) (eh j) (yY (yleq e0 e0) (wK O ?_)))))
  refine cIf e0 d (fun R d => ?_) fun R d => ?_
  ·refine wp_skip (L _ _ (seqQ fun a4 S T => blockQ fun _ t => sR fun _ U => Ym (iV b) (eh j) (Ym (iV i) (eh k) (bE d fun a5 V d => yY (yrem e0 e0 V) (yY (yeql e0 rfl) (wK U ?_))))))
   refine cIf e0 d (fun W d => ?_) fun W d => ?_
   ·refine sR fun _ X => Ya (.bool false) rfl (wK X (wp_ret (t _ _ _ (T _ _ _ rfl ?_))))
    cases d
    exact r _ _ _ _ rfl rfl (I _ _ rfl c (q _ rfl))
   ·refine wp_skip (t _ _ _ (S _ _ (wR (Ym (iV i) (eh k) (yY (yadd e0 rfl) (Ya (iV (wa .i64 i 1)) e0 (wN ?_)))))))
    cases d
    exact K _ _ _ rfl ⟨_, _, rfl, rfl, j, rfl, c⟩
  ·refine wp_exit (N _ _ _ rfl ?_)
   cases d
   exact r _ _ _ _ rfl rfl (G _ _ c (q _ rfl))
theorem sparseref07_Shape_ok {n : LI} {h : Hdr} {out : Int} (i : sparseref07_Shape n = some out) (j : imm I1 h.v n ∈ ros) (b : St w0 ros rs w) :
  Calls Tryz.prog 95 #[h.v] w (fun e w => e = .returned (iV out) ∧ St w0 ros rs w) := by
 refine enterQ Tryz.func95 rfl Tryz.ntmps95 rfl fun Q p => sR fun _ I => Ya (iV 0) rfl (wK I (seqQ fun b4 J K => sR fun _ L => Ya (iV 0) rfl (wK L (blockQ fun u x => bE i fun y N i => ?_))))
 have O : ∀ (f : FV) w, f 0 = h.v → St w0 ros rs w → .inl () = y → u (.exit 0) (fr 32 f) w := by
  intro f w q b ho
  subst ho
  refine x _ _ _ (J _ _ (seqQ fun b5 R S => sR fun _ T => Ym h.v (eh q) (yY (yLen SL_22 e0 b (rdI j)) (yY (ygtr e0 rfl) (Ym (.bool (decide ((200 : Int) < (n.length : Int)))) e0 (bE i fun U k i => ?_))))))
  refine joinW 10 (fun f w => f 31 = .bool U ∧ St w0 ros rs w) (fun z => ?_) ?_
  ·rcases iteS k with ⟨c, k⟩ | ⟨c, k⟩
   ·refine gN (dT c) (gN (dT c) (gN (dT c) (gN (dT c) (Gn (wxu rfl rfl rfl) rfl (Gn (wxu rfl rfl rfl) rfl (Gn (wxu rfl rfl rfl) rfl (Gn (wxu rfl rfl rfl) rfl (gN (dT c) (yY (pt_ (.bool true) e0 (dT c) rfl) ?_)))))))))
    cases k
    exact z _ _ ⟨rfl, b⟩
   ·refine yG (dF c) (m_ h.v (eh q)) (yG (dF c) (yLen SL_22 e0 b (rdI j)) (yG (dF c) (ygtr e0 rfl) (yG (dF c) (m_ (.bool (decide ((0 : Int) < (n.length : Int)))) e0) (bE k fun A l k => ?_))))
    refine joinW 5 (fun f w => f 21 = .bool (decide ((200 : Int) < (n.length : Int))) ∧ f 30 = .bool A ∧ St w0 ros rs w) (fun B => ?_) ?_
    ·rcases iteS l with ⟨g, l⟩ | ⟨g, l⟩
     ·refine yG (dT g) (m_ h.v (eh q)) (bE l fun V C l => yG (dT g) (yIa SL_22 e0 rfl b (rdI j) C) (yG (dT g) (yI O_3 e0 b (rdI j) C) (yG (dT g) (ygtr e0 rfl) (yG (dF c) (pt_ (.bool (decide ((200 : Int) < V))) e0 (dT g) e0) ?_))))
      cases l
      exact B _ _ ⟨rfl, rfl, b⟩
     ·refine gN (dF g) (gN (dF g) (gN (dF g) (gN (dF g) (yG (dF c) (pf_ (.bool false) e0 (dF g) rfl) ?_))))
      cases l
      exact B _ _ ⟨rfl, rfl, b⟩
    rintro f w ⟨W, X, b⟩
    refine yY (pf_ (.bool A) (eh W) (dF c) (eh X)) ?_
    cases k
    exact z _ _ ⟨rfl, b⟩
  rintro f w ⟨Z, b⟩
  refine wK T (cB (eh Z) i (fun a0 i => ?_) fun a0 i => ?_)
  ·refine sR fun _ a1 => Ya (iV 6) rfl (wK a1 (wp_ret (S _ _ _ rfl ?_)))
   cases i
   exact p _ _ _ (fin1r Tryz.results95 ⟨rfl, rfl⟩ ⟨rfl, b⟩)
  ·refine wp_skip (R _ _ (sR fun _ a2 => Ya (iV 0) rfl (wK a2 (wp_ret ?_))))
   cases i
   exact p _ _ _ (fin1r Tryz.results95 ⟨rfl, rfl⟩ ⟨rfl, b⟩)
 have a3 : ∀ (f : FV) w, f 2 = iV 5 → St w0 ros rs w → .inr () = y → u .ret (fr 32 f) w := by
  intro f w a4 b ho
  subst ho
  refine x _ _ _ (K _ _ _ rfl ?_)
  cases i
  exact p _ _ _ (fin1r Tryz.results95 ⟨rfl, a4⟩ ⟨rfl, b⟩)
 refine loopQ (fun s a w => ∃ (m : Int) (f : FV), m = s ∧ a = fr 32 f ∧ f 0 = h.v ∧ f 3 = iV m ∧ St w0 ros rs w) N ⟨_, _, rfl, rfl, rfl, rfl, b⟩ ?_
 rintro _ _ w b6 ⟨m, f, rfl, rfl, o, r, b⟩ d D b7 a5 E
 refine seqQ fun b8 a6 a7 => sR fun _ a8 => Ym (iV m) (eh r) (Ym h.v (eh o) (yY (yLen SL_22 e0 b (rdI j)) (yY (ylss e0 e0) (wK a8 ?_))))
 refine cIf e0 d (fun a9 d => ?_) fun a9 d => ?_
 ·refine wp_skip (a6 _ _ (seqQ fun b9 b0 b1 => blockQ fun _ F => sQ fun _ b2 => bE d fun c0 G d => bE d fun c1 H d => dR [0, 0, 3, 7, 0, 16, 48, 127] [] 0 folM ?_))
  replace b := b.drew
  refine Dz [0, 1, 2, 3, 4, 5, 6, 7] [] (yR rfl (m_ h.v (eh o)) (yR rfl (m_ (iV m) (eh r)) (yR rfl (yIa SL_22 e0 e0 b (rdI j) G) (yR rfl (yI O_3 e0 b (rdI j) G) (yR rfl (m_ h.v (eh o)) (yR rfl (yIa SL_22 e0 rfl b (rdI j) H) (yR rfl (yI O_3 e0 b (rdI j) H) (yR rfl (yneq e0 e0) (Rn QSn (b2 _ _ ?_))))))))))
  rcases iteS d with ⟨t, d⟩ | ⟨t, d⟩
  ·refine condF e0 (nF (dT t)) (wp_skip (F _ _ _ (b0 _ _ (wR (Ym (iV m) (eh r) (yY (yadd e0 rfl) (Ya (iV (wa .i64 m 1)) e0 (wN ?_))))))))
   cases d
   exact a5 _ _ _ rfl ⟨_, _, rfl, rfl, o, rfl, b⟩
  ·refine condT e0 (nT (dF t)) (sR fun _ b3 => Ya (iV 5) rfl (wK b3 (wp_ret (F _ _ _ (b1 _ _ _ rfl ?_)))))
   cases d
   exact E _ _ _ _ rfl rfl (a3 _ _ rfl b (D _ rfl))
 ·refine wp_exit (a7 _ _ _ rfl ?_)
  cases d
  exact E _ _ _ _ rfl rfl (O _ _ o b (D _ rfl))
theorem sparseref07_Check_ok {x : L2} {k : Int} {h : Hdr} {out : Int} (c : sparseref07_Check x k = some out) (m : imm S1 h.v x ∈ ros) (b : St w0 ros rs w) :
  Calls Tryz.prog 51 #[h.v, iV k] w (fun e w => e = .returned (iV out) ∧ St w0 ros rs w) := by
 refine enterQ Tryz.func51 rfl Tryz.ntmps51 rfl fun Q y => sR fun _ B => Ya (iV 0) rfl (wK B (seqQ fun a9 C D => sR fun _ E => Ym (iV k) e0 (bE c fun b0 F c => yC (yCall FN_14 (a1 e0)) (sparseref07_IsPrime_ok F b) ?_)))
 rintro _ w ⟨rfl, b⟩
 refine ⟨_, rfl, ?_⟩
 refine yY (ynot e0) (wK E ?_)
 rcases iteS c with ⟨o, c⟩ | ⟨o, c⟩
 ·refine condF e0 (nF o) (wp_skip (C _ _ (sR fun _ G => Ya hnil.v rfl (wK G (sQ fun _ H => sR fun _ I => Ya (iV 0) rfl (wK I ?_))))))
  refine blockQ fun J K => bE c fun L N c => ?_
  have O : ∀ (p : LI) (i : Hdr) (f : FV) w, f 5 = i.v → St w0 ros (row 3 I1 i.v p :: rs) w → p = L → J (.exit 0) (fr 26 f) w := by
   intro p i f w R b ho
   subst ho
   refine K _ _ _ (H _ _ (sR fun _ S => Ym i.v (eh R) (bE c fun T U c => ?_)))
   replace b := b.fz
   refine yC (yCall FN_95 (a1 e0)) (sparseref07_Shape_ok U F0 b) ?_
   rintro _ w ⟨rfl, b⟩
   refine ⟨_, rfl, ?_⟩
   refine Ya (iV T) e0 (wK S (wp_ret ?_))
   cases c
   exact y _ _ _ (fin1r Tryz.results51 ⟨rfl, rfl⟩ ⟨rfl, (b.facts (allT allI))⟩)
  replace b := b.rowNh 3 I1
  refine loopQ (fun s a w => ∃ (q : LI) (g : Int) (f : FV) (j : Hdr), (q, g) = s ∧ a = fr 26 f ∧ f 0 = h.v ∧ f 5 = j.v ∧ f 6 = iV g ∧ St w0 ros (row 3 I1 j.v q :: rs) w) N ⟨_, _, _, _, rfl, rfl, rfl, rfl, rfl, b⟩ ?_
  rintro _ _ w b1 ⟨q, g, f, j, rfl, rfl, r, z, t, b⟩ d V b2 W X
  refine seqQ fun b3 Z a0 => sR fun _ a2 => Ym (iV g) (eh t) (Ym h.v (eh r) (yY (yLen SL_52 e0 b (rdI m)) (yY (ylss e0 e0) (wK a2 ?_))))
  refine cIf e0 d (fun a3 d => ?_) fun a3 d => ?_
  ·refine wp_skip (Z _ _ (sQ fun _ a4 => blockQ fun _ a5 => wR (Ym j.v (eh z) (Ym h.v (eh r) (Ym (iV g) (eh t) (bE d fun u A d => yY (yIa SL_52 e0 e0 b (rdI m) A) ?_))))))
   obtain ⟨b4, b⟩ := iLs b m A
   refine yY (yCt O_22 e0 b F1 rfl) (yY (yLen SL_22 e0 b (rdI F0)) (yH (rLt (n := 1) (l := [(u.length : Int)]) b SL_22 [iV (u.length : Int)] (bp1 e0) rfl rfl (mks1 (cs := [iV (u.length : Int)]) rfl mkI mks0)) fun b5 w b => bE d fun b6 a6 d => yH (rAp (b.k11) SL_22 e0 e0 rO1 a6) fun a7 w b => Ya a7.v e0 (wN (a5 _ _ _ (a4 _ _ (wR (Ym (iV g) (eh t) (yY (yadd e0 rfl) ?_))))))))
   refine Ya (iV (wa .i64 g 1)) e0 (wN ?_)
   cases d
   exact W _ _ _ rfl ⟨_, _, _, _, rfl, rfl, r, rfl, rfl, ((b.k1g).facts (allT (allT allI)))⟩
  ·refine wp_exit (a0 _ _ _ rfl ?_)
   cases d
   exact X _ _ _ _ rfl rfl (O _ _ _ _ z b (V _ rfl))
 ·refine condT e0 (nT (bfalse o)) (sR fun _ a8 => Ya (iV 70) rfl (wK a8 (wp_ret (D _ _ _ rfl ?_))))
  cases c
  exact y _ _ _ (fin1r Tryz.results51 ⟨rfl, rfl⟩ ⟨rfl, b⟩)
theorem sparseref07_Mod_ok {h b out : Int} (a : sparseref07_Mod h b = some out) (d : St w0 ros rs w) :
  Calls Tryz.prog 31 #[iV h, iV b] w (fun e w => e = .returned (iV out) ∧ St w0 ros rs w) := by
 refine enterQ Tryz.func31 rfl Tryz.ntmps31 rfl fun Q j => sR fun _ k => Ya (iV 0) rfl (wK k (sR fun _ l => Ym (iV h) e0 (Ym (iV b) e0 (bE a fun g m a => yY (yrem e0 e0 m) (Ya (iV g) e0 (wN ?_))))))
 refine l _ _ (sQ fun n o => sR fun _ p => Ym (iV g) e0 (yY (ylss e0 rfl) (wK p ?_)))
 have i : ∀ (c : Int) (f : FV) w, f 5 = iV c → St w0 ros rs w → sparseref07_Mod_j1 c = some out → n .normal (fr 15 f) w := by
  intro c f w q d a
  refine o _ _ (sR fun _ r => Ym (iV c) (eh q) (Ya (iV c) e0 (wK r (wp_ret ?_))))
  cases a
  exact j _ _ _ (fin1r Tryz.results31 ⟨rfl, rfl⟩ ⟨rfl, d⟩)
 refine cIf e0 a (fun s a => ?_) fun s a => ?_
 ·exact wR (Ym (iV g) e0 (Ym (iV b) e0 (yY (yadd e0 e0) (Ya (iV (wa .i64 g b)) e0 (wN (i _ _ _ rfl d a))))))
 ·exact wp_skip (i _ _ _ rfl d a)
theorem sparseref07_cols_ok {f : L2} {c : Hdr} {out : Int} (b : sparseref07_cols f = some out) (d : imm S1 c.v f ∈ ros) (a : St w0 ros rs w) :
  Calls Tryz.prog 97 #[c.v] w (fun e w => e = .returned (iV out) ∧ St w0 ros rs w) := by
 refine enterQ Tryz.func97 rfl Tryz.ntmps97 rfl fun Q g => sR fun _ i => Ya (iV 0) rfl (wK i (seqQ fun q j k => sR fun _ l => Ym c.v e0 (yY (yLen SL_52 e0 a (rdI d)) (yY (yeql e0 rfl) (wK l ?_)))))
 refine cIf e0 b (fun m b => ?_) fun m b => ?_
 ·refine sR fun _ n => Ya (iV 0) rfl (wK n (wp_ret (k _ _ _ rfl ?_)))
  cases b
  exact g _ _ _ (fin1r Tryz.results97 ⟨rfl, rfl⟩ ⟨rfl, a⟩)
 ·refine wp_skip (j _ _ (sR fun _ o => Ym c.v e0 (bE b fun p h b => yY (yIa SL_52 e0 rfl a (rdI d) h) ?_)))
  obtain ⟨r, a⟩ := iLs a d h
  refine yY (yCt O_22 e0 a F1 rfl) (yY (yLen SL_22 e0 a (rdI F0)) (Ya (iV (p.length : Int)) e0 (wK o (wp_ret ?_))))
  cases b
  exact g _ _ _ (fin1r Tryz.results97 ⟨rfl, rfl⟩ ⟨rfl, (a.facts (allT (allT allI)))⟩)
end Go.Proofs.YtnfamnfdndaekaaGreatDoor
