/- Walks: each function computes its model, printed. -/
import Derived.Test.YtnfamnfdndaekaaGreatDoorW3
namespace Go.Proofs.YtnfamnfdndaekaaGreatDoor
open Go Sx M
set_option maxRecDepth 100000
set_option maxHeartbeats 40000000
set_option linter.unusedVariables false
attribute [local irreducible] wpList Code.wp Calls DR QR QS LA LS St
variable {w0 : World} {ros : List Fact} {rs : List Res} {w : World}
theorem integer_Format_ok {h : Bool} {A : LI} {i : Hdr} {out : ByteArray} (c : integer_Format h A = some out) (H : imm (rI .u32) i.v A ∈ ros) (b : St w0 ros rs w) :
  Calls Tryz.prog 56 #[.agg #[.bool h, i.v]] w (fun e w => e = .returned (.string out) ∧ St w0 ros rs w) := by
 refine enterQ Tryz.func56 rfl Tryz.ntmps56 rfl fun Q B => sR fun _ I => yBb (r_box (vals := [.bool h, i.v]) b e0 rfl) fun k w b => Ya (.string (⟨#[]⟩ : ByteArray)) rfl (wK I (sR fun _ J => yY (yFb FL_27_1 e0) (yY (lb_ i.v O_25 e0 b R0) (bE c fun e3 K c => yC (yCall FN_77 (a1 e0)) (integer_trim_ok K H b) ?_))))
 rintro _ w ⟨e4, rfl, b⟩
 refine ⟨_, rfl, ?_⟩
 refine bE c fun e5 L c => yC (yCall FN_75 (a1 e0)) (slices_Clone_uint32_ok L F0 b) ?_
 rintro _ w ⟨N, rfl, b⟩
 refine ⟨_, rfl, ?_⟩
 refine Ya N.v e0 (wK J (sR fun _ O => Ya hnil.v rfl (wK O (sQ fun _ R => blockQ fun S T => bE c fun U V c => ?_))))
 have W : ∀ (u : List ByteArray) (p : Hdr) (f : FV) w, f 1 = (pB k) → f 4 = p.v → St w0 ros (box k 27 [.bool h, i.v] :: row 9 rG p.v u :: rs) w → u = U → S (.exit 0) (fr 49 f) w := by
  intro u p f w X x b ho
  subst ho
  refine T _ _ _ (R _ _ (seqQ fun e6 Z a0 => sR fun _ a3 => Ym p.v (eh x) (yY (yLen SL_101 e0 b rO1) (yY (yeql e0 rfl) (wK a3 ?_)))))
  refine cIf e0 c (fun a4 c => ?_) fun a4 c => ?_
  ·refine sR fun _ a5 => Ya (.string (⟨#[48]⟩ : ByteArray)) rfl (wK a5 (wp_ret (a0 _ _ _ rfl ?_)))
   cases c
   exact B _ _ _ (fin1r Tryz.results56 ⟨rfl, rfl⟩ ⟨rfl, (b.k1l)⟩)
  ·refine wp_skip (Z _ _ (sQ fun a6 a7 => sR fun _ a8 => yY (yFb FL_27_0 (eh X)) (yY (lb_ (.bool h) O_4 e0 b R0) (wK a8 ?_))))
   have C : ∀ (y : List ByteArray) (q : Hdr) (f : FV) w, f 4 = q.v → St w0 ros (row 9 rG q.v y :: rs) w → integer_Format_j4 y = some out → a6 .normal (fr 49 f) w := by
    intro y q f w D b c
    refine a7 _ _ (sR fun _ a9 => Ym q.v (eh D) (bE c fun e7 b0 c => yC (yCall FN_101 (a1 e0)) (slices_Reverse_string_ok b0 b) ?_))
    rintro _ w ⟨rfl, b⟩
    refine ⟨_, rfl, ?_⟩
    refine wK a9 (sR fun _ b1 => Ym q.v (eh D) (bE c fun b2 b3 c => ?_))
    replace b := b.fz
    refine yC (yCall FN_102 (a2 e0 rfl)) (joinG_ok b3 F0 b) ?_
    rintro _ w ⟨rfl, b⟩
    refine ⟨_, rfl, ?_⟩
    refine Ya (.string b2) e0 (wK b1 (wp_ret ?_))
    cases c
    exact B _ _ _ (fin1r Tryz.results56 ⟨rfl, rfl⟩ ⟨rfl, (b.facts (allT allI))⟩)
   refine cB e0 c (fun b5 c => ?_) fun b5 c => ?_
   ·exact wR (Ym p.v (eh x) (yH (rLt (n := 1) (l := [(⟨#[45]⟩ : ByteArray)]) b SL_101 [.string (⟨#[45]⟩ : ByteArray)] (bp1 rfl) rfl rfl (mks1 (cs := [.string (⟨#[45]⟩ : ByteArray)]) rfl mkG mks0)) fun e8 w b => bE c fun e9 b6 c => yH (rAp (b.k1a) SL_101 e0 e0 rO1 b6) fun b7 w b => Ya b7.v e0 (wN (C _ _ _ _ rfl (b.k1j) c))))
   ·exact wp_skip (C _ _ _ _ x (b.k1n) c)
 replace b := b.fz.rowNh 9 rG
 refine loopQ (fun s a w => ∃ (z : LI) (r : List ByteArray) (f : FV) (t m : Hdr), (z, r) = s ∧ a = fr 49 f ∧ f 1 = (pB k) ∧ f 3 = t.v ∧ f 4 = m.v ∧ St w0 (imm (rI .u32) t.v z :: ros) (box k 27 [.bool h, i.v] :: row 9 rG m.v r :: rs) w) V ⟨_, _, _, _, _, rfl, rfl, rfl, rfl, rfl, ((b.k11).facts (allC F0 (allT (allT allI))))⟩ ?_
 rintro _ _ w b8 ⟨z, r, f, t, m, rfl, rfl, E, F, G, b⟩ d b9 f0 c0 c1
 refine seqQ fun f1 c2 c3 => sR fun _ c4 => Ym t.v (eh F) (yY (yLen SL_25 e0 b (rdI F0)) (yY (ygtr e0 rfl) (wK c4 ?_)))
 refine cIf e0 d (fun c5 d => ?_) fun c5 d => ?_
 ·refine wp_skip (c2 _ _ (blockQ fun _ c6 => sR fun _ c7 => Ym t.v (eh F) (bE d fun o c8 d => yC (yCall FN_98 (a2 e0 rfl)) (integer_short_ok c8 F0 b) ?_)))
  rintro _ w ⟨g, rfl, b⟩
  refine ⟨_, rfl, ?_⟩
  refine Ym (.tuple #[g.v, .int .u32 o.2]) e0 (yY (x_ g.v e0) (yY (x_ (.int .u32 o.2) e0) (Ya g.v e0 (Ya (.int .u32 o.2) e0 (wK c7 (sR fun _ c9 => Ym (.int .u32 o.2) e0 (yY (ycv (k' := .i64) (by kernel_rfl) (by kernel_rfl) e0) (bE d fun j d0 d => yC (yCall FN_99 (a1 e0)) (itoaG_ok d0 b) ?_))))))))
  rintro _ w ⟨rfl, b⟩
  refine ⟨_, rfl, ?_⟩
  refine Ya (.string j) e0 (wK c9 (sQ fun d1 d2 => sR fun _ d3 => Ym g.v e0 (yY (yLen SL_25 e0 b (rdI F0)) (yY (ygtr e0 rfl) (wK d3 ?_)))))
  have d4 : ∀ (f : FV) w, f 1 = (pB k) → f 4 = m.v → f 5 = g.v → f 7 = .string j → St w0 (imm (rI .u32) g.v o.1 :: ros) (box k 27 [.bool h, i.v] :: row 9 rG m.v r :: rs) w → integer_Format_j5 r j o = some b8 → d1 .normal (fr 49 f) w := by
   intro f w d5 d6 d7 d8 b c
   refine d2 _ _ (wR (Ym m.v (eh d6) (Ym (.string j) (eh d8) (yH (rLt (n := 1) (l := [j]) b SL_101 [.string j] (bp1 e0) rfl rfl (mks1 (cs := [.string j]) rfl mkG mks0)) fun f2 w b => bE c fun f3 d9 c => yH (rAp (b.k1a) SL_101 e0 e0 rO1 d9) fun e1 w b => Ym g.v (eh d7) (Ya e1.v e0 (Ya g.v e0 (wN (c6 _ _ _ ?_))))))))
   cases c
   exact c0 _ _ _ rfl ⟨_, _, _, _, _, rfl, rfl, d5, rfl, rfl, (b.k1o)⟩
  refine cIf e0 d (fun e2 d => ?_) fun e2 d => ?_
  ·cases d
  ·exact wp_skip (d4 _ _ E G rfl rfl (b.facts (allC F0 (allT (allT allI)))) d)
 ·refine wp_exit (c3 _ _ _ rfl ?_)
  cases d
  exact c1 _ _ _ _ rfl rfl (W _ _ _ _ E G (b.facts (allT allI)) (b9 _ rfl))
theorem sparselaw07_awake_ok {out : Bool} (d : sparselaw07_awake = some out) (a : St w0 ros rs w) :
  Calls Tryz.prog 11 #[] w (fun e w => e = .returned (.bool out) ∧ St w0 ros rs w) := by
 refine enterQ Tryz.func11 rfl Tryz.ntmps11 rfl fun Q a7 => sR fun _ a8 => Ya (.bool false) rfl (wK a8 (sR fun _ a9 => bE d fun c b0 d => yC (yCall FN_28 (a2 rfl rfl)) (modular_Inverse_ok b0 a) ?_))
 rintro _ w ⟨rfl, a⟩
 refine ⟨_, rfl, ?_⟩
 refine Ym (.tuple #[iV c.1, iV c.2]) e0 (yY (x_ (iV c.1) e0) (yY (x_ (iV c.2) e0) (Ya (iV c.1) e0 (Ya (iV c.2) e0 (wK a9 (sR fun _ b1 => yH (rLt (n := 2) (l := [1, 2]) a SL_22 [iV 1, iV 2] (bp2 rfl rfl) rfl rfl (mks1 (cs := [iV 1]) rfl mkI (mks1 (cs := [iV 2]) rfl mkI mks0))) fun E w a => yH (rLt (n := 1) (l := [[1, 2]]) a.fz SL_52 [E.v] (bp1 e0) rfl rfl (mks1 (cs := [E.v]) rfl (mkS F0) mks0)) fun d9 w a => bE d fun i b2 d => ?_))))))
 replace a := a.fz
 refine yC (yCall FN_44 (a2 e0 rfl)) (modular_Kernel_ok b2 F0 a) ?_
 rintro _ w ⟨s, rfl, a⟩
 refine ⟨_, rfl, ?_⟩
 refine Ym (.tuple #[s.v, iV i.2]) e0 (yY (x_ s.v e0) (yY (x_ (iV i.2) e0) (Ya s.v e0 (Ya (iV i.2) e0 (wK b1 (sR fun _ b3 => yH (rLt (n := 2) (l := [1, 2]) a SL_22 [iV 1, iV 2] (bp2 rfl rfl) rfl rfl (mks1 (cs := [iV 1]) rfl mkI (mks1 (cs := [iV 2]) rfl mkI mks0))) fun e1 w a => yH (rLt (n := 2) (l := [2, 3]) a SL_22 [iV 2, iV 3] (bp2 rfl rfl) rfl rfl (mks1 (cs := [iV 2]) rfl mkI (mks1 (cs := [iV 3]) rfl mkI mks0))) fun e2 w a => bE d fun b b4 d => ?_))))))
 replace a := ((a.k11).fz).fz
 refine yC (yCall FN_13 (a2 e0 e0)) (modular_Combine_ok b4 F1 F0 a) ?_
 rintro _ w ⟨h, g, rfl, a⟩
 refine ⟨_, rfl, ?_⟩
 refine Ym (.tuple #[.agg #[.bool b.1, h.v], .agg #[.bool b.2.2.1, g.v], iV b.2.2.2.2]) e0 (yY (x_ (.agg #[.bool b.1, h.v]) e0) (yY (x_ (.agg #[.bool b.2.2.1, g.v]) e0) (yY (x_ (iV b.2.2.2.2) e0) (yBb (rAl a ZT_27) fun t w a => yBb (rAl a ZT_27) fun j w a => yT (r_stbn (vals' := [.bool b.1, h.v]) (us := [.bool b.1, h.v]) (a.k11) ST_27 e0 e0 rfl rfl (one_of rfl) rfl) fun w a => yT (r_stbn (vals' := [.bool b.2.2.1, g.v]) (us := [.bool b.2.2.1, g.v]) (a.k11) ST_27 e0 e0 rfl rfl (one_of rfl) rfl) fun w a => Ya (iV b.2.2.2.2) e0 (wN ?_)))))
 refine b3 _ _ (sR fun _ b5 => Ym (iV c.2) e0 (yY (yeql e0 rfl) (Ym (.bool (decide (c.2 = 0))) e0 ?_)))
 refine joinW 3 (fun f w => f 3 = s.v ∧ f 4 = iV i.2 ∧ f 5 = (pB t) ∧ f 6 = (pB j) ∧ f 7 = iV b.2.2.2.2 ∧ f 30 = .bool ((decide (c.2 = 0)) && (decide (c.1 = 5))) ∧ St w0 (imm (rI .u32) h.v b.2.1 :: imm (rI .u32) g.v b.2.2.2.1 :: ros) (row 3 I1 s.v i.1 :: box t 27 [.bool b.1, h.v] :: box j 27 [.bool b.2.2.1, g.v] :: rs) w) (fun F => ?_) ?_
 ·rcases Bool.eq_false_or_eq_true (decide (c.2 = 0)) with k | k
  ·exact yG k (m_ (iV c.1) e0) (yG k (yeql e0 rfl) (yY (pt_ (.bool (decide (c.1 = 5))) e0 k e0) (F _ _ ⟨rfl, rfl, rfl, rfl, rfl, (congrArg Value.bool (andT k)), ((a.k1p).facts (allC F0 (allC F1 (allT (allT (allT (allT (allT (allT allI)))))))))⟩)))
  ·exact gN k (gN k (yY (pf_ (.bool false) e0 k rfl) (F _ _ ⟨rfl, rfl, rfl, rfl, rfl, (congrArg Value.bool (andF k)), ((a.k1p).facts (allC F0 (allC F1 (allT (allT (allT (allT (allT (allT allI)))))))))⟩)))
 rintro f w ⟨G, b6, H, I, J, b7, a⟩
 refine Ym (.bool ((decide (c.2 = 0)) && (decide (c.1 = 5)))) (eh b7) ?_
 refine joinW 3 (fun f w => f 3 = s.v ∧ f 5 = (pB t) ∧ f 6 = (pB j) ∧ f 7 = iV b.2.2.2.2 ∧ f 34 = .bool (((decide (c.2 = 0)) && (decide (c.1 = 5))) && (decide (i.2 = 0))) ∧ St w0 (imm (rI .u32) h.v b.2.1 :: imm (rI .u32) g.v b.2.2.2.1 :: ros) (row 3 I1 s.v i.1 :: box t 27 [.bool b.1, h.v] :: box j 27 [.bool b.2.2.1, g.v] :: rs) w) (fun K => ?_) ?_
 ·rcases Bool.eq_false_or_eq_true ((decide (c.2 = 0)) && (decide (c.1 = 5))) with m | m
  ·exact yG m (m_ (iV i.2) (eh b6)) (yG m (yeql e0 rfl) (yY (pt_ (.bool (decide (i.2 = 0))) e0 m e0) (K _ _ ⟨G, H, I, J, (congrArg Value.bool (andT m)), a⟩)))
  ·exact gN m (gN m (yY (pf_ (.bool false) e0 m rfl) (K _ _ ⟨G, H, I, J, (congrArg Value.bool (andF m)), a⟩)))
 rintro f w ⟨b8, L, N, O, b9, a⟩
 refine Ym (.bool (((decide (c.2 = 0)) && (decide (c.1 = 5))) && (decide (i.2 = 0)))) (eh b9) (bE d fun C u d => ?_)
 refine joinW 4 (fun f w => f 5 = (pB t) ∧ f 6 = (pB j) ∧ f 7 = iV b.2.2.2.2 ∧ f 39 = .bool C ∧ St w0 (imm (rI .u32) h.v b.2.1 :: imm (rI .u32) g.v b.2.2.2.1 :: ros) (box t 27 [.bool b.1, h.v] :: box j 27 [.bool b.2.2.1, g.v] :: rs) w) (fun R => ?_) ?_
 ·rcases iteS u with ⟨o, u⟩ | ⟨o, u⟩
  ·refine yG o (m_ s.v (eh b8)) (YH (wG o) rfl (rLt (n := 2) (l := [5, 1]) a SL_22 [iV 5, iV 1] (bp2 rfl rfl) rfl rfl (mks1 (cs := [iV 5]) rfl mkI (mks1 (cs := [iV 1]) rfl mkI mks0))) fun e3 w a => bE u fun c0 c1 u => ?_)
   replace a := ((a.k11).fz).fz
   refine Yc (wG o) rfl (yCall FN_25 (a2 e0 e0)) (sparsekit_Ints_ok c1 F1 F0 a) ?_
   rintro _ w ⟨rfl, a⟩
   refine ⟨_, rfl, ?_⟩
   refine yY (pt_ (.bool c0) e0 o e0) ?_
   cases u
   exact R _ _ ⟨L, N, O, rfl, (a.facts (allC F2 (allC F3 (allT (allT (allT (allT allI)))))))⟩
  ·refine gN (bfalse o) (gN (bfalse o) (gN (bfalse o) (yY (pf_ (.bool false) e0 (bfalse o) rfl) ?_)))
   cases u
   exact R _ _ ⟨L, N, O, rfl, (a.k1q)⟩
 rintro f w ⟨S, T, c2, c3, a⟩
 refine Ym (.bool C) (eh c3) ?_
 refine joinW 3 (fun f w => f 5 = (pB t) ∧ f 6 = (pB j) ∧ f 43 = .bool (C && (decide (b.2.2.2.2 = 0))) ∧ St w0 (imm (rI .u32) h.v b.2.1 :: imm (rI .u32) g.v b.2.2.2.1 :: ros) (box t 27 [.bool b.1, h.v] :: box j 27 [.bool b.2.2.1, g.v] :: rs) w) (fun U => ?_) ?_
 ·rcases Bool.eq_false_or_eq_true C with p | p
  ·exact yG p (m_ (iV b.2.2.2.2) (eh c2)) (yG p (yeql e0 rfl) (yY (pt_ (.bool (decide (b.2.2.2.2 = 0))) e0 p e0) (U _ _ ⟨S, T, (congrArg Value.bool (andT p)), a⟩)))
  ·exact gN p (gN p (yY (pf_ (.bool false) e0 p rfl) (U _ _ ⟨S, T, (congrArg Value.bool (andF p)), a⟩)))
 rintro f w ⟨c4, V, c5, a⟩
 refine Ym (.bool (C && (decide (b.2.2.2.2 = 0)))) (eh c5) (bE d fun W x d => ?_)
 refine joinW 4 (fun f w => f 6 = (pB j) ∧ f 48 = .bool W ∧ St w0 (imm (rI .u32) g.v b.2.2.2.1 :: ros) (box j 27 [.bool b.2.2.1, g.v] :: rs) w) (fun X => ?_) ?_
 ·rcases iteS x with ⟨q, x⟩ | ⟨q, x⟩
  ·refine yG q (lbs_ [.bool b.1, h.v] ST_27 (eh c4) a R0) (bE x fun c6 c7 x => Yc (wG q) rfl (yCall FN_56 (a1 e0)) (integer_Format_ok c7 F0 a) ?_)
   rintro _ w ⟨rfl, a⟩
   refine ⟨_, rfl, ?_⟩
   refine yG q (yegs e0 rfl) (yY (pt_ (.bool (decide (c6 = (⟨#[45, 49]⟩ : ByteArray)))) e0 q e0) ?_)
   cases x
   exact X _ _ ⟨V, rfl, ((a.k1n).facts (allC F1 (allT (allT allI))))⟩
  ·refine gN (bfalse q) (gN (bfalse q) (gN (bfalse q) (yY (pf_ (.bool false) e0 (bfalse q) rfl) ?_)))
   cases x
   exact X _ _ ⟨V, rfl, ((a.k1n).facts (allC F1 (allT (allT allI))))⟩
 rintro f w ⟨c8, c9, a⟩
 refine Ym (.bool W) (eh c9) (bE d fun Z y d => ?_)
 refine joinW 4 (fun f w => f 53 = .bool Z ∧ St w0 ros rs w) (fun a0 => ?_) ?_
 ·rcases iteS y with ⟨r, y⟩ | ⟨r, y⟩
  ·refine yG r (lbs_ [.bool b.2.2.1, g.v] ST_27 (eh c8) a R0) (bE y fun d0 d1 y => Yc (wG r) rfl (yCall FN_56 (a1 e0)) (integer_Format_ok d1 F0 a) ?_)
   rintro _ w ⟨rfl, a⟩
   refine ⟨_, rfl, ?_⟩
   refine yG r (yegs e0 rfl) (yY (pt_ (.bool (decide (d0 = (⟨#[54]⟩ : ByteArray)))) e0 r e0) ?_)
   cases y
   exact a0 _ _ ⟨rfl, ((a.k10).facts (allT allI))⟩
  ·refine gN (bfalse r) (gN (bfalse r) (gN (bfalse r) (yY (pf_ (.bool false) e0 (bfalse r) rfl) ?_)))
   cases y
   exact a0 _ _ ⟨rfl, ((a.k10).facts (allT allI))⟩
 rintro f w ⟨d2, a⟩
 refine Ym (.bool Z) (eh d2) (bE d fun a3 z d => ?_)
 refine joinW 2 (fun f w => f 56 = .bool a3 ∧ St w0 ros rs w) (fun a4 => ?_) ?_
 ·rcases iteS z with ⟨D, z⟩ | ⟨D, z⟩
  ·refine bE z fun d3 d4 z => Yc (wG D) rfl (yCall FN_24 (a1 rfl)) (modular_IsPrime_ok d4 a) ?_
   rintro _ w ⟨rfl, a⟩
   refine ⟨_, rfl, ?_⟩
   refine yY (pt_ (.bool d3) e0 D e0) ?_
   cases z
   exact a4 _ _ ⟨rfl, a⟩
  ·refine gN (bfalse D) (yY (pf_ (.bool false) e0 (bfalse D) rfl) ?_)
   cases z
   exact a4 _ _ ⟨rfl, a⟩
 rintro f w ⟨d5, a⟩
 refine Ym (.bool a3) (eh d5) (bE d fun a5 A d => ?_)
 refine joinW 3 (fun f w => f 60 = .bool a5 ∧ St w0 ros rs w) (fun a6 => ?_) ?_
 ·rcases iteS A with ⟨B, A⟩ | ⟨B, A⟩
  ·refine bE A fun d6 d7 A => Yc (wG B) rfl (yCall FN_24 (a1 rfl)) (modular_IsPrime_ok d7 a) ?_
   rintro _ w ⟨rfl, a⟩
   refine ⟨_, rfl, ?_⟩
   refine yG B (ynot e0) (yY (pt_ (.bool (!d6)) e0 B e0) ?_)
   cases A
   exact a6 _ _ ⟨rfl, a⟩
  ·refine gN (bfalse B) (gN (bfalse B) (yY (pf_ (.bool false) e0 (bfalse B) rfl) ?_))
   cases A
   exact a6 _ _ ⟨rfl, a⟩
 rintro f w ⟨d8, a⟩
 refine Ya (.bool a5) (eh d8) (wK b5 (wp_ret ?_))
 cases d
 exact a7 _ _ _ (fin1r Tryz.results11 ⟨rfl, rfl⟩ ⟨rfl, a⟩)
theorem integer_Norm_ok {b : Bool} {f : LI} {d : Hdr} {out : Bool × LI} (c : integer_Norm b f = some out) (j : imm (rI .u32) d.v f ∈ ros) (a : St w0 ros rs w) :
  Calls Tryz.prog 21 #[.agg #[.bool b, d.v]] w (fun e w => ∃ (g : Hdr), e = .returned (.agg #[.bool out.1, g.v]) ∧ St w0 (imm (rI .u32) g.v out.2 :: ros) rs w) := by
 refine enterQ Tryz.func21 rfl Tryz.ntmps21 rfl fun Q k => sR fun _ l => yBb (r_box (vals := [.bool b, d.v]) a e0 rfl) fun p w a => yBb (rAl a ZT_27) fun q w a => wK l (sQ fun _ m => bE c fun r n c => bE c fun h o c => dR [0, 1, 0, 4, 12, 31, 63] [4, 5, 6] 3 folM ?_)
 replace a := a.drew
 refine Dn [0, 1, 2, 3] [] [4] (yR rfl (yFb FL_27_0 e0) (yR rfl (lb_ (.bool b) O_4 e0 a R1) (yR rfl (yFb FL_27_1 e0) (yR rfl (lb_ d.v O_25 e0 a R1) (Rn QSn ?_)))))
 refine Lc1 rfl ?_
 refine Lk wn (yCall FN_75 (a1 e0)) (slices_Clone_uint32_ok n j a) ?_
 rintro _ w ⟨s, rfl, a⟩
 refine ⟨_, rfl, ?_⟩
 refine Dn [] [0, 1] [5] (Rn (yS rfl (yFb FL_27_0 e0) (yS rfl (lb_ (.bool b) O_4 e0 a R2) QSn)) ?_)
 refine Lc1 rfl ?_
 replace a := a.fz
 refine Lk wn (yCall FN_74 (a2 e0 e0)) (integer_big_ok o F0 a) ?_
 rintro _ w ⟨i, rfl, a⟩
 refine ⟨_, rfl, ?_⟩
 refine Dn [] [] [6] (Rn QSn ?_)
 refine Lc1 rfl ?_
 refine LT wn (r_stbn (vals' := [.bool h.1, i.v]) (us := [.bool h.1, i.v]) a ST_27 e0 e0 rfl rfl (one_of rfl) rfl) fun w a => Dz [] [] (Rn QSn (m _ _ (wp_ret ?_)))
 cases c
 exact k _ _ _ (fin1r Tryz.results21 (rcs2 rfl rfl a R0 ST_27 rfl) ⟨_, rfl, ((a.k1l).facts (allC F0 (allT (allT allI))))⟩)
theorem modular_within_ok {c : Bool} {j : LI} {d : Bool} {k : LI} {f g : Hdr} {out : Bool} (b : modular_within c j d k = some out) (l : imm (rI .u32) f.v j ∈ ros) (m : imm (rI .u32) g.v k ∈ ros) (a : St w0 ros rs w) :
  Calls Tryz.prog 86 #[.agg #[.bool c, f.v], .agg #[.bool d, g.v]] w (fun e w => e = .returned (.bool out) ∧ St w0 ros rs w) := by
 refine enterQ Tryz.func86 rfl Tryz.ntmps86 rfl fun Q n => sR fun _ o => yBb (r_box (vals := [.bool c, f.v]) a e0 rfl) fun x w a => yBb (r_box (vals := [.bool d, g.v]) a e0 rfl) fun y w a => Ya (.bool false) rfl (wK o (sR fun _ p => yY (lbs_ [.bool c, f.v] ST_27 e0 a R1) (yY (lbs_ [.bool c, f.v] ST_27 e0 a R1) ?_)))
 refine bE b fun h q b => yC (yCall FN_22 (a2 e0 e0)) (integer_Mul_ok q l l a) ?_
 rintro _ w ⟨i, rfl, a⟩
 refine ⟨_, rfl, ?_⟩
 refine yBb (rAl a ZT_27) fun z w a => yT (r_stbn (vals' := [.bool h.1, i.v]) (us := [.bool h.1, i.v]) a ST_27 e0 e0 rfl rfl (one_of rfl) rfl) fun w a => wK p (sQ fun _ r => bE b fun A s b => bE b fun t u b => dR [0, 0, 3, 0, 15, 31, 63] [2, 4, 6] 3 folM ?_)
 replace a := a.drew
 refine Dn [0, 1, 3] [] [2] (yR rfl (lbs_ [.bool h.1, i.v] ST_27 e0 a R0) (yR rfl (lbs_ [.bool h.1, i.v] ST_27 e0 a R0) (yR rfl (lbs_ [.bool d, g.v] ST_27 e0 a R1) (Rn QSn ?_))))
 refine Lc1 rfl ?_
 refine Lk wn (yCall FN_65 (a2 e0 e0)) (integer_Add_ok s F0 F0 a) ?_
 rintro _ w ⟨B, rfl, a⟩
 refine ⟨_, rfl, ?_⟩
 refine Dn [] [3] [4] (Rn (yS rfl (lbs_ [.bool d, g.v] ST_27 e0 a R1) QSn) ?_)
 refine Lc1 rfl ?_
 refine Lk wn (yCall FN_66 (a2 e0 e0)) (integer_Cmp_ok u F0 (F_2 m) a) ?_
 rintro _ w ⟨rfl, a⟩
 refine ⟨_, rfl, ?_⟩
 refine Dn [5] [] [6] (yR rfl (yleq e0 rfl) (Rn QSn ?_))
 refine Lc1 rfl ?_
 refine Ly wn (a_ (.bool (decide (t ≤ 0))) e0) (Dz [] [] (Rn QSn (r _ _ (wp_ret ?_))))
 cases b
 exact n _ _ _ (fin1r Tryz.results86 ⟨rfl, rfl⟩ ⟨rfl, ((a.k1k).facts (allT (allT allI)))⟩)
theorem integer_Neg_ok {b : Bool} {f : LI} {d : Hdr} {out : Bool × LI} (c : integer_Neg b f = some out) (j : imm (rI .u32) d.v f ∈ ros) (a : St w0 ros rs w) :
  Calls Tryz.prog 87 #[.agg #[.bool b, d.v]] w (fun e w => ∃ (g : Hdr), e = .returned (.agg #[.bool out.1, g.v]) ∧ St w0 (imm (rI .u32) g.v out.2 :: ros) rs w) := by
 refine enterQ Tryz.func87 rfl Tryz.ntmps87 rfl fun Q k => sR fun _ l => yBb (r_box (vals := [.bool b, d.v]) a e0 rfl) fun p w a => yBb (rAl a ZT_27) fun q w a => wK l (sQ fun _ m => bE c fun r n c => bE c fun h o c => dR [0, 1, 3, 0, 8, 24, 63, 127] [5, 6, 7] 3 folM ?_)
 replace a := a.drew
 refine Dn [0, 1, 2, 3, 4] [] [5] (yR rfl (yFb FL_27_0 e0) (yR rfl (lb_ (.bool b) O_4 e0 a R1) (yR rfl (ynot e0) (yR rfl (yFb FL_27_1 e0) (yR rfl (lb_ d.v O_25 e0 a R1) (Rn QSn ?_))))))
 refine Lc1 rfl ?_
 refine Lk wn (yCall FN_75 (a1 e0)) (slices_Clone_uint32_ok n j a) ?_
 rintro _ w ⟨s, rfl, a⟩
 refine ⟨_, rfl, ?_⟩
 refine Dn [] [0, 1, 2] [6] (Rn (yS rfl (yFb FL_27_0 e0) (yS rfl (lb_ (.bool b) O_4 e0 a R2) (yS rfl (ynot e0) QSn))) ?_)
 refine Lc1 rfl ?_
 replace a := a.fz
 refine Lk wn (yCall FN_74 (a2 e0 e0)) (integer_big_ok o F0 a) ?_
 rintro _ w ⟨i, rfl, a⟩
 refine ⟨_, rfl, ?_⟩
 refine Dn [] [] [7] (Rn QSn ?_)
 refine Lc1 rfl ?_
 refine LT wn (r_stbn (vals' := [.bool h.1, i.v]) (us := [.bool h.1, i.v]) a ST_27 e0 e0 rfl rfl (one_of rfl) rfl) fun w a => Dz [] [] (Rn QSn (m _ _ (wp_ret ?_)))
 cases c
 exact k _ _ _ (fin1r Tryz.results87 (rcs2 rfl rfl a R0 ST_27 rfl) ⟨_, rfl, ((a.k1l).facts (allC F0 (allT (allT allI))))⟩)
theorem integer_GCD_ok {n : Bool} {x : LI} {o : Bool} {y : LI} {j h : Hdr} {out : Bool × LI} (c : integer_GCD n x o y = some out) (F : imm (rI .u32) j.v x ∈ ros) (G : imm (rI .u32) h.v y ∈ ros) (b : St w0 ros rs w) :
  Calls Tryz.prog 88 #[.agg #[.bool n, j.v], .agg #[.bool o, h.v]] w (fun e w => ∃ (z : Hdr), e = .returned (.agg #[.bool out.1, z.v]) ∧ St w0 (imm (rI .u32) z.v out.2 :: ros) rs w) := by
 refine enterQ Tryz.func88 rfl Tryz.ntmps88 rfl fun Q H => sR fun _ I => yBb (r_box (vals := [.bool n, j.v]) b e0 rfl) fun b5 w b => yBb (r_box (vals := [.bool o, h.v]) b e0 rfl) fun b6 w b => yBb (rAl b ZT_27) fun k w b => wK I (sQ fun _ J => bE c fun c0 K c => bE c fun c1 L c => ?_)
 refine bE c fun c2 N c => bE c fun c3 O c => dR [0, 1, 3, 7, 0, 16, 63, 127, 255, 511] [2, 3, 6, 7, 8, 9] 6 folM ?_
 replace b := b.drew
 refine Dn [0, 1, 4, 5] [] [2] (yR rfl (yFb FL_27_1 e0) (yR rfl (lb_ j.v O_25 e0 b R2) (yR rfl (yFb FL_27_1 e0) (yR rfl (lb_ h.v O_25 e0 b R1) (Rn QSn ?_)))))
 refine Lc1 rfl ?_
 refine Lk wn (yCall FN_77 (a1 e0)) (integer_trim_ok K F b) ?_
 rintro _ w ⟨c4, rfl, b⟩
 refine ⟨_, rfl, ?_⟩
 refine Dn [] [4, 5] [3] (Rn (yS rfl (yFb FL_27_1 e0) (yS rfl (lb_ h.v O_25 e0 b R1) QSn)) ?_)
 refine Lc1 rfl ?_
 refine Lk wn (yCall FN_75 (a1 e0)) (slices_Clone_uint32_ok L F0 b) ?_
 rintro _ w ⟨R, rfl, b⟩
 refine ⟨_, rfl, ?_⟩
 refine Dn [] [4, 5] [6] (Rn (yS rfl (yFb FL_27_1 e0) (yS rfl (lb_ h.v O_25 e0 b R2) QSn)) ?_)
 refine Lc1 rfl ?_
 refine Lk wn (yCall FN_77 (a1 e0)) (integer_trim_ok N (mtF G) b) ?_
 rintro _ w ⟨c5, rfl, b⟩
 refine ⟨_, rfl, ?_⟩
 refine Dn [] [] [7] (Rn QSn ?_)
 refine Lc1 rfl ?_
 refine Lk wn (yCall FN_75 (a1 e0)) (slices_Clone_uint32_ok O F0 b) ?_
 rintro _ w ⟨S, rfl, b⟩
 refine ⟨_, rfl, ?_⟩
 refine Dn [] [] [8] (Rn QSn ?_)
 refine Lc1 rfl ?_
 refine Ly wn (a_ R.v e0) (Dn [] [] [9] (Rn QSn ?_))
 refine Lc1 rfl ?_
 refine Ly wn (a_ S.v e0) (Dz [] [] (Rn QSn (J _ _ (sQ fun _ T => blockQ fun U V => bE c fun W X c => ?_))))
 have Z : ∀ (p : LI) (l : Hdr) (f : FV) w, f 4 = (pB k) → f 5 = l.v → St w0 (imm (rI .u32) l.v p :: ros) (box k 27 [.bool false, hnil.v] :: rs) w → p = W → U (.exit 0) (fr 30 f) w := by
  intro p l f w A a0 b ho
  subst ho
  refine V _ _ _ (T _ _ (sR fun _ a3 => Ym l.v (eh a0) (bE c fun B a4 c => yC (yCall FN_74 (a2 rfl e0)) (integer_big_ok a4 F0 b) ?_)))
  rintro _ w ⟨C, rfl, b⟩
  refine ⟨_, rfl, ?_⟩
  refine yT (r_stbn (vals' := [.bool B.1, C.v]) (us := [.bool B.1, C.v]) b ST_27 (eh A) e0 rfl rfl (one_of rfl) rfl) fun w b => wK a3 (wp_ret ?_)
  cases c
  exact H _ _ _ (fin1r Tryz.results88 (rcs2 rfl A b R0 ST_27 rfl) ⟨_, rfl, ((b.k10).facts (allC F0 (allT (allT allI))))⟩)
 replace b := ((b.k11).fz).fz
 refine loopQ (fun s a w => ∃ (q r : LI) (f : FV) (m d : Hdr), (q, r) = s ∧ a = fr 30 f ∧ f 4 = (pB k) ∧ f 5 = m.v ∧ f 6 = d.v ∧ St w0 (imm (rI .u32) m.v q :: imm (rI .u32) d.v r :: ros) (box k 27 [.bool false, hnil.v] :: rs) w) X ⟨_, _, _, _, _, rfl, rfl, rfl, rfl, rfl, ((b.k1j).facts (allC F1 (allC F0 (allT (allT (allT (allT allI)))))))⟩ ?_
 rintro _ _ w c6 ⟨q, r, f, m, d, rfl, rfl, D, E, t, b⟩ g a5 c7 a6 a7
 refine seqQ fun c8 a8 a9 => sR fun _ b0 => Ym d.v (eh t) (yY (yLen SL_25 e0 b (rdI F1)) (yY (ygtr e0 rfl) (wK b0 ?_)))
 refine cIf e0 g (fun b1 g => ?_) fun b1 g => ?_
 ·refine wp_skip (a8 _ _ (blockQ fun _ b2 => sR fun _ b3 => Ym m.v (eh E) (Ym d.v (eh t) (bE g fun c9 b4 g => yC (yCall FN_124 (a2 e0 e0)) (integer_divide_ok b4 F0 F1 b) ?_))))
  rintro _ w ⟨u, i, rfl, b⟩
  refine ⟨_, rfl, ?_⟩
  refine Ym (.tuple #[u.v, i.v]) e0 (yY (x_ u.v e0) (yY (x_ i.v e0) (Ya u.v e0 (Ya i.v e0 (wK b3 (wR (Ym d.v (eh t) (Ym i.v e0 (Ya d.v e0 (Ya i.v e0 (wN (b2 _ _ _ ?_))))))))))))
  cases g
  exact a6 _ _ _ rfl ⟨_, _, _, _, _, rfl, rfl, D, rfl, rfl, (b.facts (allC F3 (allC F1 (allT (allT (allT (allT allI)))))))⟩
 ·refine wp_exit (a9 _ _ _ rfl ?_)
  cases g
  exact a7 _ _ _ _ rfl rfl (Z _ _ _ _ D E (b.facts (allC F0 (allT (allT allI)))) (a5 _ rfl))
theorem modular_Rational_ok {a6 : Bool} {d3 : LI} {h : Bool} {c0 : LI} {a7 i : Hdr} {out : Bool × LI × Bool × LI × Bool} (g : modular_Rational a6 d3 h c0 = some out) (g2 : imm (rI .u32) a7.v d3 ∈ ros) (B : imm (rI .u32) i.v c0 ∈ ros) (b : St w0 ros rs w) :
  Calls Tryz.prog 39 #[.agg #[.bool a6, a7.v], .agg #[.bool h, i.v]] w (fun e w => ∃ (d4 d5 : Hdr), e = .returned (.tuple #[.agg #[.bool out.1, d4.v], .agg #[.bool out.2.2.1, d5.v], .bool out.2.2.2.2]) ∧ St w0 (imm (rI .u32) d4.v out.2.1 :: imm (rI .u32) d5.v out.2.2.2.1 :: ros) rs w) := by
 refine enterQ Tryz.func39 rfl Tryz.ntmps39 rfl fun Q c1 => sR fun _ g3 => yBb (r_box (vals := [.bool a6, a7.v]) b e0 rfl) fun o0 w b => yBb (r_box (vals := [.bool h, i.v]) b e0 rfl) fun F w b => yBb (rAl b ZT_27) fun r w b => yBb (rAl b ZT_27) fun t w b => Ya (.bool false) rfl (wK g3 ?_)
 refine seqQ fun o1 g4 g5 => sR fun _ g6 => yY (lbs_ [.bool h, i.v] ST_27 e0 b R2) (bE g fun o3 g7 g => yC (yCall FN_84 (a1 e0)) (integer_Sign_ok g7 B b) ?_)
 rintro _ w ⟨rfl, b⟩
 refine ⟨_, rfl, ?_⟩
 refine yY (yleq e0 rfl) (wK g6 ?_)
 refine cIf e0 g (fun g8 g => ?_) fun g8 g => ?_
 ·refine sR fun _ g9 => yY (ybuild (us := [.bool false, hnil.v]) [] SO_27 bp0 rfl) (yY (ybuild (us := [.bool false, hnil.v]) [] SO_27 bp0 rfl) (yT (r_stbn (vals' := [.bool false, hnil.v]) (us := [.bool false, hnil.v]) (b.k11) ST_27 e0 e0 rfl rfl (one_of rfl) rfl) fun w b => yT (r_stbn (vals' := [.bool false, hnil.v]) (us := [.bool false, hnil.v]) (b.k11) ST_27 e0 e0 rfl rfl (one_of rfl) rfl) fun w b => Ya (.bool false) rfl (wK g9 (wp_ret (g5 _ _ _ rfl ?_)))))
  cases g
  replace b := b.immNh (rI .u32)
  exact c1 _ _ _ (fin3r Tryz.results39 (rcs2 rfl rfl b R1 ST_27 rfl) (rcs2 rfl rfl b R0 ST_27 rfl) ⟨rfl, rfl⟩ ⟨_, _, rfl, ((b.k1h).facts (allC F0 (allC F0 (allT allI))))⟩)
 ·refine wp_skip (g4 _ _ (sR fun _ h0 => yY (lbs_ [.bool a6, a7.v] ST_27 e0 b R3) (yY (lbs_ [.bool h, i.v] ST_27 e0 b R2) (bE g fun c h1 g => yC (yCall FN_85 (a2 e0 e0)) (integer_DivMod_ok h1 g2 B b) ?_))))
  rintro _ w ⟨d6, d, rfl, b⟩
  refine ⟨_, rfl, ?_⟩
  refine Ym (.tuple #[.agg #[.bool c.1, d6.v], .agg #[.bool c.2.2.1, d.v], iV c.2.2.2.2]) e0 (yY (x_ (.agg #[.bool c.1, d6.v]) e0) (yY (x_ (.agg #[.bool c.2.2.1, d.v]) e0) (yY (x_ (iV c.2.2.2.2) e0) (yT (r_stbn (vals' := [.bool c.2.2.1, d.v]) (us := [.bool c.2.2.1, d.v]) (b.k15) ST_27 e0 e0 rfl rfl (one_of rfl) rfl) fun w b => wK h0 (sQ fun _ h2 => bE g fun m S g => ?_)))))
  refine joinN (n := 78) (fun f w => ∃ (p : Nat) (c2 : Hdr) (T : Nat), f 3 = (pB F) ∧ f 4 = (pB r) ∧ f 5 = (pB t) ∧ f 7 = (pB p) ∧ f 8 = (pB T) ∧ St w0 (imm (rI .u32) c2.v m.2 :: imm (rI .u32) d.v c.2.2.2.1 :: ros) (box F 27 [.bool h, i.v] :: box r 27 [.bool false, hnil.v] :: box t 27 [.bool false, hnil.v] :: box p 27 [.bool m.1, c2.v] :: box T 27 [.bool c.2.2.1, d.v] :: rs) w) (fun K => ?_) ?_
  ·refine dR [0, 1, 0, 0, 0, 27, 63] [1, 3, 4, 5, 6] 5 folM ?_
   replace b := b.drew
   refine Dn [0, 2] [] [1, 3, 4] (yR rfl (lbs_ [.bool h, i.v] ST_27 e0 b R3) (yR rfl (lbs_ [.bool c.2.2.1, d.v] ST_27 e0 b R0) (Rn QSn ?_)))
   refine Lc rfl ?_ (Lc rfl ?_ (Lc1 rfl ?_))
   ·refine Lk wn (yCall FN_21 (a1 e0)) (integer_Norm_ok S (F_2 B) b) ?_
    rintro _ w ⟨j, rfl, b⟩
    refine ⟨_, rfl, ?_⟩
    refine Dn [] [2] [3, 4] (Rn (yS rfl (lbs_ [.bool c.2.2.1, d.v] ST_27 e0 b R0) QSn) ?_)
    refine Lc rfl ?_ (Lc1 rfl ?_)
    ·refine LB wn (rAl b ZT_27) fun a8 w b => Dn [] [2] [4] (Rn (yS rfl (lbs_ [.bool c.2.2.1, d.v] ST_27 e0 b R1) QSn) ?_)
     refine Lc1 rfl ?_
     refine LB wn (rAl b ZT_27) fun a9 w b => Dn [] [2] [5] (Rn (yS rfl (lbs_ [.bool c.2.2.1, d.v] ST_27 e0 b R2) QSn) ?_)
     refine Lc1 rfl ?_
     replace b := b.k11
     refine LT wn (r_stbn (vals' := [.bool m.1, j.v]) (us := [.bool m.1, j.v]) b ST_27 e0 e0 rfl rfl (one_of rfl) rfl) fun w b => Dn [] [2] [6] (Rn (yS rfl (lbs_ [.bool c.2.2.1, d.v] ST_27 e0 b R2) QSn) ?_)
     refine Lc1 rfl ?_
     replace b := b.k11
     exact LT wn (r_stbn (vals' := [.bool c.2.2.1, d.v]) (us := [.bool c.2.2.1, d.v]) b ST_27 e0 e0 rfl rfl (one_of rfl) rfl) fun w b => Dz [] [] (Rn QSn (K _ _ ⟨_, _, _, rfl, rfl, rfl, rfl, rfl, ((b.k1r).facts (allC F0 (allC F2 (allT (allT (allT allI))))))⟩))
    ·refine LB wn (rAl b ZT_27) fun a9 w b => Dn [] [2] [3] (Rn (yS rfl (lbs_ [.bool c.2.2.1, d.v] ST_27 e0 b R1) QSn) ?_)
     refine Lc1 rfl ?_
     refine LB wn (rAl b ZT_27) fun a8 w b => Dn [] [2] [5] (Rn (yS rfl (lbs_ [.bool c.2.2.1, d.v] ST_27 e0 b R2) QSn) ?_)
     refine Lc1 rfl ?_
     refine LT wn (r_stbn (vals' := [.bool m.1, j.v]) (us := [.bool m.1, j.v]) b ST_27 e0 e0 rfl rfl (one_of rfl) rfl) fun w b => Dn [] [2] [6] (Rn (yS rfl (lbs_ [.bool c.2.2.1, d.v] ST_27 e0 b R2) QSn) ?_)
     refine Lc1 rfl ?_
     replace b := b.k11
     exact LT wn (r_stbn (vals' := [.bool c.2.2.1, d.v]) (us := [.bool c.2.2.1, d.v]) b ST_27 e0 e0 rfl rfl (one_of rfl) rfl) fun w b => Dz [] [] (Rn QSn (K _ _ ⟨_, _, _, rfl, rfl, rfl, rfl, rfl, ((b.k1r).facts (allC F0 (allC F2 (allT (allT (allT allI))))))⟩))
   ·refine LB wn (rAl b ZT_27) fun a8 w b => Dn [] [0, 2] [1, 4] (Rn (yS rfl (lbs_ [.bool h, i.v] ST_27 e0 b R4) (yS rfl (lbs_ [.bool c.2.2.1, d.v] ST_27 e0 b R1) QSn)) ?_)
    refine Lc rfl ?_ (Lc1 rfl ?_)
    ·refine Lk wn (yCall FN_21 (a1 e0)) (integer_Norm_ok S (F_2 B) b) ?_
     rintro _ w ⟨j, rfl, b⟩
     refine ⟨_, rfl, ?_⟩
     refine Dn [] [2] [4] (Rn (yS rfl (lbs_ [.bool c.2.2.1, d.v] ST_27 e0 b R1) QSn) ?_)
     refine Lc1 rfl ?_
     refine LB wn (rAl b ZT_27) fun a9 w b => Dn [] [2] [5] (Rn (yS rfl (lbs_ [.bool c.2.2.1, d.v] ST_27 e0 b R2) QSn) ?_)
     refine Lc1 rfl ?_
     replace b := b.k11
     refine LT wn (r_stbn (vals' := [.bool m.1, j.v]) (us := [.bool m.1, j.v]) b ST_27 e0 e0 rfl rfl (one_of rfl) rfl) fun w b => Dn [] [2] [6] (Rn (yS rfl (lbs_ [.bool c.2.2.1, d.v] ST_27 e0 b R2) QSn) ?_)
     refine Lc1 rfl ?_
     replace b := b.k11
     exact LT wn (r_stbn (vals' := [.bool c.2.2.1, d.v]) (us := [.bool c.2.2.1, d.v]) b ST_27 e0 e0 rfl rfl (one_of rfl) rfl) fun w b => Dz [] [] (Rn QSn (K _ _ ⟨_, _, _, rfl, rfl, rfl, rfl, rfl, ((b.k1r).facts (allC F0 (allC F2 (allT (allT (allT allI))))))⟩))
    ·refine LB wn (rAl b ZT_27) fun a9 w b => Dn [] [0, 2] [1] (Rn (yS rfl (lbs_ [.bool h, i.v] ST_27 e0 b R5) (yS rfl (lbs_ [.bool c.2.2.1, d.v] ST_27 e0 b R2) QSn)) ?_)
     refine Lc1 rfl ?_
     refine Lk wn (yCall FN_21 (a1 e0)) (integer_Norm_ok S (F_2 B) b) ?_
     rintro _ w ⟨j, rfl, b⟩
     refine ⟨_, rfl, ?_⟩
     refine Dn [] [2] [5] (Rn (yS rfl (lbs_ [.bool c.2.2.1, d.v] ST_27 e0 b R2) QSn) ?_)
     refine Lc1 rfl ?_
     replace b := b.k11
     refine LT wn (r_stbn (vals' := [.bool m.1, j.v]) (us := [.bool m.1, j.v]) b ST_27 e0 e0 rfl rfl (one_of rfl) rfl) fun w b => Dn [] [2] [6] (Rn (yS rfl (lbs_ [.bool c.2.2.1, d.v] ST_27 e0 b R2) QSn) ?_)
     refine Lc1 rfl ?_
     replace b := b.k11
     exact LT wn (r_stbn (vals' := [.bool c.2.2.1, d.v]) (us := [.bool c.2.2.1, d.v]) b ST_27 e0 e0 rfl rfl (one_of rfl) rfl) fun w b => Dz [] [] (Rn QSn (K _ _ ⟨_, _, _, rfl, rfl, rfl, rfl, rfl, ((b.k1r).facts (allC F0 (allC F2 (allT (allT (allT allI))))))⟩))
   ·refine LB wn (rAl b ZT_27) fun a9 w b => Dn [] [0, 2] [1, 3] (Rn (yS rfl (lbs_ [.bool h, i.v] ST_27 e0 b R4) (yS rfl (lbs_ [.bool c.2.2.1, d.v] ST_27 e0 b R1) QSn)) ?_)
    refine Lc rfl ?_ (Lc1 rfl ?_)
    ·refine Lk wn (yCall FN_21 (a1 e0)) (integer_Norm_ok S (F_2 B) b) ?_
     rintro _ w ⟨j, rfl, b⟩
     refine ⟨_, rfl, ?_⟩
     refine Dn [] [2] [3] (Rn (yS rfl (lbs_ [.bool c.2.2.1, d.v] ST_27 e0 b R1) QSn) ?_)
     refine Lc1 rfl ?_
     refine LB wn (rAl b ZT_27) fun a8 w b => Dn [] [2] [5] (Rn (yS rfl (lbs_ [.bool c.2.2.1, d.v] ST_27 e0 b R2) QSn) ?_)
     refine Lc1 rfl ?_
     refine LT wn (r_stbn (vals' := [.bool m.1, j.v]) (us := [.bool m.1, j.v]) b ST_27 e0 e0 rfl rfl (one_of rfl) rfl) fun w b => Dn [] [2] [6] (Rn (yS rfl (lbs_ [.bool c.2.2.1, d.v] ST_27 e0 b R2) QSn) ?_)
     refine Lc1 rfl ?_
     replace b := b.k11
     exact LT wn (r_stbn (vals' := [.bool c.2.2.1, d.v]) (us := [.bool c.2.2.1, d.v]) b ST_27 e0 e0 rfl rfl (one_of rfl) rfl) fun w b => Dz [] [] (Rn QSn (K _ _ ⟨_, _, _, rfl, rfl, rfl, rfl, rfl, ((b.k1r).facts (allC F0 (allC F2 (allT (allT (allT allI))))))⟩))
    ·refine LB wn (rAl b ZT_27) fun a8 w b => Dn [] [0, 2] [1] (Rn (yS rfl (lbs_ [.bool h, i.v] ST_27 e0 b R5) (yS rfl (lbs_ [.bool c.2.2.1, d.v] ST_27 e0 b R2) QSn)) ?_)
     refine Lc1 rfl ?_
     refine Lk wn (yCall FN_21 (a1 e0)) (integer_Norm_ok S (F_2 B) b) ?_
     rintro _ w ⟨j, rfl, b⟩
     refine ⟨_, rfl, ?_⟩
     refine Dn [] [2] [5] (Rn (yS rfl (lbs_ [.bool c.2.2.1, d.v] ST_27 e0 b R2) QSn) ?_)
     refine Lc1 rfl ?_
     refine LT wn (r_stbn (vals' := [.bool m.1, j.v]) (us := [.bool m.1, j.v]) b ST_27 e0 e0 rfl rfl (one_of rfl) rfl) fun w b => Dn [] [2] [6] (Rn (yS rfl (lbs_ [.bool c.2.2.1, d.v] ST_27 e0 b R2) QSn) ?_)
     refine Lc1 rfl ?_
     replace b := b.k11
     exact LT wn (r_stbn (vals' := [.bool c.2.2.1, d.v]) (us := [.bool c.2.2.1, d.v]) b ST_27 e0 e0 rfl rfl (one_of rfl) rfl) fun w b => Dz [] [] (Rn QSn (K _ _ ⟨_, _, _, rfl, rfl, rfl, rfl, rfl, ((b.k1r).facts (allC F0 (allC F2 (allT (allT (allT allI))))))⟩))
  rintro f w ⟨p, c2, T, h4, h5, h7, h8, h9, b⟩
  refine h2 _ _ (sR fun _ i0 => yY (ybuild (us := [.bool false, hnil.v]) [] SO_27 bp0 rfl) (bE g fun d7 i1 g => yC (yCall FN_23 (a1 rfl)) (integer_FromInt_ok i1 b) ?_))
  rintro _ w ⟨d8, rfl, b⟩
  refine ⟨_, rfl, ?_⟩
  refine yBb (rAl b ZT_27) fun A w b => yBb (rAl b ZT_27) fun d9 w b => yT (r_stbn (vals' := [.bool false, hnil.v]) (us := [.bool false, hnil.v]) (b.k11) ST_27 e0 e0 rfl rfl (one_of rfl) rfl) fun w b => yT (r_stbn (vals' := [.bool d7.1, d8.v]) (us := [.bool d7.1, d8.v]) (b.k11) ST_27 e0 e0 rfl rfl (one_of rfl) rfl) fun w b => wK i0 (sQ fun _ i2 => blockQ fun i3 i4 => bE g fun i5 i6 g => ?_)
  have i7 : ∀ (b0 : Bool) (c3 : LI) (L : Bool) (c4 : LI) (b1 N : Hdr) (f : FV) w, f 3 = (pB F) → f 4 = (pB r) → f 5 = (pB t) → f 7 = (pB p) → f 9 = (pB A) → St w0 (imm (rI .u32) b1.v c3 :: imm (rI .u32) N.v c4 :: ros) (box F 27 [.bool h, i.v] :: box r 27 [.bool false, hnil.v] :: box t 27 [.bool false, hnil.v] :: box p 27 [.bool b0, b1.v] :: box A 27 [.bool L, N.v] :: rs) w → (b0, c3, L, c4) = i5 → i3 (.exit 0) (fr 78 f) w := by
   intro b0 c3 L c4 b1 N f w e1 e2 e3 b2 O b ho
   subst ho
   refine i4 _ _ _ (i2 _ _ (sQ fun i8 i9 => sR fun _ j0 => yY (lbs_ [.bool L, N.v] ST_27 (eh O) b R4) (bE g fun o4 j2 g => yC (yCall FN_84 (a1 e0)) (integer_Sign_ok j2 F1 b) ?_)))
   rintro _ w ⟨rfl, b⟩
   refine ⟨_, rfl, ?_⟩
   refine yY (ylss e0 rfl) (wK j0 ?_)
   have e4 : ∀ (C : Bool) (U : LI) (u : Bool) (V : LI) (x o : Hdr) (f : FV) w, f 3 = (pB F) → f 4 = (pB r) → f 5 = (pB t) → f 7 = (pB p) → f 9 = (pB A) → St w0 (imm (rI .u32) x.v U :: imm (rI .u32) o.v V :: ros) (box F 27 [.bool h, i.v] :: box r 27 [.bool false, hnil.v] :: box t 27 [.bool false, hnil.v] :: box p 27 [.bool C, x.v] :: box A 27 [.bool u, o.v] :: rs) w → modular_Rational_j3 h c0 C U u V = some out → i8 .normal (fr 78 f) w := by
    intro C U u V x o f w j6 e5 e6 e7 b3 b g
    refine i9 _ _ (seqQ fun o5 j7 j8 => sR fun _ j9 => yY (lbs_ [.bool u, o.v] ST_27 (eh b3) b R4) (bE g fun k0 k9 g => yC (yCall FN_84 (a1 e0)) (integer_Sign_ok k9 F1 b) ?_))
    rintro _ w ⟨rfl, b⟩
    refine ⟨_, rfl, ?_⟩
    refine yY (yeql e0 rfl) (Ym (.bool (decide (k0 = 0))) e0 (bE g fun e8 H g => ?_))
    refine joinW 5 (fun f w => f 4 = (pB r) ∧ f 5 = (pB t) ∧ f 7 = (pB p) ∧ f 9 = (pB A) ∧ f 65 = .bool e8 ∧ St w0 (imm (rI .u32) x.v U :: imm (rI .u32) o.v V :: ros) (box r 27 [.bool false, hnil.v] :: box t 27 [.bool false, hnil.v] :: box p 27 [.bool C, x.v] :: box A 27 [.bool u, o.v] :: rs) w) (fun e9 => ?_) ?_
    ·rcases iteS H with ⟨y, H⟩ | ⟨y, H⟩
     ·refine gN (dT y) (gN (dT y) (gN (dT y) (gN (dT y) (yY (pt_ (.bool true) e0 (dT y) rfl) ?_))))
      cases H
      exact e9 _ _ ⟨e5, e6, e7, b3, rfl, (b.k1s)⟩
     ·refine yG (dF y) (lbs_ [.bool u, o.v] ST_27 (eh b3) b R4) (yG (dF y) (lbs_ [.bool h, i.v] ST_27 (eh j6) b R0) (bE H fun l0 l1 H => Yc (wG (dF y)) rfl (yCall FN_86 (a2 e0 e0)) (modular_within_ok l1 F1 (F_2 B) b) ?_))
      rintro _ w ⟨rfl, b⟩
      refine ⟨_, rfl, ?_⟩
      refine yG (dF y) (ynot e0) (yY (pf_ (.bool (!l0)) e0 (dF y) e0) ?_)
      cases H
      exact e9 _ _ ⟨e5, e6, e7, b3, rfl, (b.k1s)⟩
    rintro f w ⟨f0, f1, c5, c6, l2, b⟩
    refine Ym (.bool e8) (eh l2) (bE g fun l3 z g => ?_)
    refine joinW 7 (fun f w => f 4 = (pB r) ∧ f 5 = (pB t) ∧ f 7 = (pB p) ∧ f 9 = (pB A) ∧ f 73 = .bool l3 ∧ St w0 (imm (rI .u32) x.v U :: imm (rI .u32) o.v V :: ros) (box r 27 [.bool false, hnil.v] :: box t 27 [.bool false, hnil.v] :: box p 27 [.bool C, x.v] :: box A 27 [.bool u, o.v] :: rs) w) (fun f2 => ?_) ?_
    ·rcases iteS z with ⟨l, z⟩ | ⟨l, z⟩
     ·refine gN l (gN l (gN l (gN l (gN l (gN l (yY (pt_ (.bool true) e0 l rfl) ?_))))))
      cases z
      exact f2 _ _ ⟨f0, f1, c5, c6, rfl, b⟩
     ·refine yG (bfalse l) (lbs_ [.bool C, x.v] ST_27 (eh c5) b R2) (yG (bfalse l) (lbs_ [.bool u, o.v] ST_27 (eh c6) b R3) (bE z fun o6 l4 z => Yc (wG (bfalse l)) rfl (yCall FN_88 (a2 e0 e0)) (integer_GCD_ok l4 F0 F1 b) ?_))
      rintro _ w ⟨o7, rfl, b⟩
      refine ⟨_, rfl, ?_⟩
      refine bE z fun o8 l5 z => Yc (wG (bfalse l)) rfl (yCall FN_23 (a1 rfl)) (integer_FromInt_ok l5 b) ?_
      rintro _ w ⟨o9, rfl, b⟩
      refine ⟨_, rfl, ?_⟩
      refine bE z fun l6 l7 z => Yc (wG (bfalse l)) rfl (yCall FN_66 (a2 e0 e0)) (integer_Cmp_ok l7 F1 F0 b) ?_
      rintro _ w ⟨rfl, b⟩
      refine ⟨_, rfl, ?_⟩
      refine yG (bfalse l) (yneq e0 rfl) (yY (pf_ (.bool (!(decide (l6 = 0)))) e0 (bfalse l) e0) ?_)
      cases z
      exact f2 _ _ ⟨f0, f1, c5, c6, rfl, (b.facts (allC F2 (allC F3 (allT (allT (allT (allT allI)))))))⟩
    rintro f w ⟨b4, b5, l8, f3, l9, b⟩
    refine wK j9 (cB (eh l9) g (fun m0 g => ?_) fun m0 g => ?_)
    ·refine sR fun _ m1 => yY (ybuild (us := [.bool false, hnil.v]) [] SO_27 bp0 rfl) (yY (ybuild (us := [.bool false, hnil.v]) [] SO_27 bp0 rfl) (yT (r_stbn (vals' := [.bool false, hnil.v]) (us := [.bool false, hnil.v]) b ST_27 (eh b4) e0 rfl rfl (one_of rfl) rfl) fun w b => yT (r_stbn (vals' := [.bool false, hnil.v]) (us := [.bool false, hnil.v]) (b.k11) ST_27 (eh b5) e0 rfl rfl (one_of rfl) rfl) fun w b => Ya (.bool false) rfl (wK m1 (wp_ret (j8 _ _ _ rfl ?_)))))
     cases g
     replace b := b.immNh (rI .u32)
     exact c1 _ _ _ (fin3r Tryz.results39 (rcs2 rfl b4 b R1 ST_27 rfl) (rcs2 rfl b5 b R0 ST_27 rfl) ⟨rfl, rfl⟩ ⟨_, _, rfl, ((b.k1h).facts (allC F0 (allC F0 (allT (allT (allT allI))))))⟩)
    ·refine wp_skip (j7 _ _ (sQ fun _ m2 => dR [0, 0, 1, 7, 15] [2, 3, 4] 3 folM ?_))
     replace b := b.drew
     refine Dn [0, 1] [] [2] (yR rfl (lbs_ [.bool C, x.v] ST_27 (eh l8) b R2) (yR rfl (lbs_ [.bool u, o.v] ST_27 (eh f3) b R3) (Rn QSn ?_)))
     refine Lc1 rfl ?_
     refine LT wn (r_stbn (vals' := [.bool C, x.v]) (us := [.bool C, x.v]) b ST_27 (eh b4) e0 rfl rfl (one_of rfl) rfl) fun w b => Dn [] [1] [3] (Rn (yS rfl (lbs_ [.bool u, o.v] ST_27 (eh f3) b R3) QSn) ?_)
     refine Lc1 rfl ?_
     replace b := b.k11
     refine LT wn (r_stbn (vals' := [.bool u, o.v]) (us := [.bool u, o.v]) b ST_27 (eh b5) e0 rfl rfl (one_of rfl) rfl) fun w b => Dn [] [] [4] (Rn QSn ?_)
     refine Lc1 rfl ?_
     refine Ly wn (a_ (.bool true) rfl) (Dz [] [] (Rn QSn (m2 _ _ (wp_ret ?_))))
     cases g
     exact c1 _ _ _ (fin3r Tryz.results39 (rcs2 rfl b4 b R1 ST_27 rfl) (rcs2 rfl b5 b R0 ST_27 rfl) ⟨rfl, rfl⟩ ⟨_, _, rfl, (b.k1h)⟩)
   refine cIf e0 g (fun m3 g => ?_) fun m3 g => ?_
   ·refine bE g fun f4 m4 g => bE g fun f5 m5 g => dR [0, 1, 0, 7, 15, 31] [1, 3, 4, 5] 4 folM ?_
    replace b := b.drew
    refine Dn [0, 2] [] [1] (yR rfl (lbs_ [.bool b0, b1.v] ST_27 (eh b2) b R3) (yR rfl (lbs_ [.bool L, N.v] ST_27 (eh O) b R4) (Rn QSn ?_)))
    refine Lc1 rfl ?_
    refine Lk wn (yCall FN_87 (a1 e0)) (integer_Neg_ok m4 F0 b) ?_
    rintro _ w ⟨f6, rfl, b⟩
    refine ⟨_, rfl, ?_⟩
    refine Dn [] [2] [3] (Rn (yS rfl (lbs_ [.bool L, N.v] ST_27 (eh O) b R4) QSn) ?_)
    refine Lc1 rfl ?_
    refine Lk wn (yCall FN_87 (a1 e0)) (integer_Neg_ok m5 F2 b) ?_
    rintro _ w ⟨f7, rfl, b⟩
    refine ⟨_, rfl, ?_⟩
    refine Dn [] [] [4] (Rn QSn ?_)
    refine Lc1 rfl ?_
    replace b := b.k15
    refine LT wn (r_stbn (vals' := [.bool f4.1, f6.v]) (us := [.bool f4.1, f6.v]) b ST_27 (eh b2) e0 rfl rfl (one_of rfl) rfl) fun w b => Dn [] [] [5] (Rn QSn ?_)
    refine Lc1 rfl ?_
    replace b := b.k1t
    exact LT wn (r_stbn (vals' := [.bool f5.1, f7.v]) (us := [.bool f5.1, f7.v]) b ST_27 (eh O) e0 rfl rfl (one_of rfl) rfl) fun w b => Dz [] [] (Rn QSn (e4 _ _ _ _ _ _ _ _ e1 e2 e3 b2 O ((b.k1u).facts (allC F1 (allC F0 (allT (allT (allT (allT allI))))))) g))
   ·exact wp_skip (e4 _ _ _ _ _ _ _ _ e1 e2 e3 b2 O b g)
  replace b := b.immNh (rI .u32)
  refine loopQ (fun s a w => ∃ (W : Bool) (c7 : LI) (I : Bool) (c8 : LI) (X : Bool) (c9 : LI) (D : Bool) (d0 : LI) (f : FV) (Z J a0 E : Hdr), (W, c7, I, c8, X, c9, D, d0) = s ∧ a = fr 78 f ∧ f 3 = (pB F) ∧ f 4 = (pB r) ∧ f 5 = (pB t) ∧ f 7 = (pB p) ∧ f 8 = (pB T) ∧ f 9 = (pB A) ∧ f 10 = (pB d9) ∧ St w0 (imm (rI .u32) Z.v c7 :: imm (rI .u32) J.v c8 :: imm (rI .u32) a0.v c9 :: imm (rI .u32) E.v d0 :: ros) (box F 27 [.bool h, i.v] :: box r 27 [.bool false, hnil.v] :: box t 27 [.bool false, hnil.v] :: box p 27 [.bool W, Z.v] :: box T 27 [.bool I, J.v] :: box A 27 [.bool X, a0.v] :: box d9 27 [.bool D, E.v] :: rs) w) i6 ⟨_, _, _, _, _, _, _, _, _, _, _, _, _, rfl, rfl, h4, h5, h7, h8, h9, rfl, rfl, ((b.k1v).facts (allC F2 (allC F3 (allC F0 (allC F1 (allT (allT (allT (allT allI)))))))))⟩ ?_
  rintro _ _ w p0 ⟨W, c7, I, c8, X, c9, D, d0, f, Z, J, a0, E, rfl, rfl, d1, f8, f9, a3, b6, a4, R, b⟩ q m6 p1 m7 m8
  refine seqQ fun p2 m9 n0 => sR fun _ n1 => yY (lbs_ [.bool W, Z.v] ST_27 (eh a3) b R3) (yY (lbs_ [.bool h, i.v] ST_27 (eh d1) b R0) (bE q fun p3 n3 q => yC (yCall FN_86 (a2 e0 e0)) (modular_within_ok n3 F0 (F_4 B) b) ?_))
  rintro _ w ⟨rfl, b⟩
  refine ⟨_, rfl, ?_⟩
  refine yY (ynot e0) (wK n1 ?_)
  rcases iteS q with ⟨d2, q⟩ | ⟨d2, q⟩
  ·refine condF e0 (nF d2) (wp_exit (n0 _ _ _ rfl ?_))
   cases q
   exact m8 _ _ _ _ rfl rfl (i7 _ _ _ _ _ _ _ _ d1 f8 f9 a3 a4 ((b.k1w).facts (allC F0 (allC F2 (allT (allT (allT (allT allI))))))) (m6 _ rfl))
  ·refine condT e0 (nT (bfalse d2)) (wp_skip (m9 _ _ (blockQ fun _ n4 => sR fun _ n5 => yY (lbs_ [.bool W, Z.v] ST_27 (eh a3) b R3) (yY (lbs_ [.bool I, J.v] ST_27 (eh b6) b R4) (bE q fun k n6 q => yC (yCall FN_85 (a2 e0 e0)) (integer_DivMod_ok n6 F0 F1 b) ?_)))))
   rintro _ w ⟨a5, G, rfl, b⟩
   refine ⟨_, rfl, ?_⟩
   refine Ym (.tuple #[.agg #[.bool k.1, a5.v], .agg #[.bool k.2.2.1, G.v], iV k.2.2.2.2]) e0 (yY (x_ (.agg #[.bool k.1, a5.v]) e0) (yY (x_ (.agg #[.bool k.2.2.1, G.v]) e0) (yY (x_ (iV k.2.2.2.2) e0) (yBb (rAl b ZT_27) fun p4 w b => yBb (rAl b ZT_27) fun p5 w b => yT (r_stbn (vals' := [.bool k.1, a5.v]) (us := [.bool k.1, a5.v]) (b.k11) ST_27 e0 e0 rfl rfl (one_of rfl) rfl) fun w b => yT (r_stbn (vals' := [.bool k.2.2.1, G.v]) (us := [.bool k.2.2.1, G.v]) (b.k11) ST_27 e0 e0 rfl rfl (one_of rfl) rfl) fun w b => Ya (iV k.2.2.2.2) e0 (wN ?_)))))
   refine n5 _ _ (sQ fun _ n7 => dR [0, 0, 1, 7] [2, 3] 2 folM ?_)
   replace b := b.drew
   refine Dn [0, 1] [] [2] (yR rfl (lbs_ [.bool I, J.v] ST_27 (eh b6) b R6) (yR rfl (lbs_ [.bool k.2.2.1, G.v] ST_27 e0 b R0) (Rn QSn ?_)))
   refine Lc1 rfl ?_
   replace b := b.k1x
   refine LT wn (r_stbn (vals' := [.bool I, J.v]) (us := [.bool I, J.v]) b ST_27 (eh a3) e0 rfl rfl (one_of rfl) rfl) fun w b => Dn [] [1] [3] (Rn (yS rfl (lbs_ [.bool k.2.2.1, G.v] ST_27 e0 b R1) QSn) ?_)
   refine Lc1 rfl ?_
   replace b := b.k1y
   refine LT wn (r_stbn (vals' := [.bool k.2.2.1, G.v]) (us := [.bool k.2.2.1, G.v]) b ST_27 (eh b6) e0 rfl rfl (one_of rfl) rfl) fun w b => Dz [] [] (Rn QSn (n7 _ _ (bE q fun p6 n8 q => bE q fun g0 n9 q => dR [0, 0, 0, 0, 12, 30, 63, 127] [4, 5, 6, 7] 4 folM ?_)))
   replace b := b.drew
   refine Dn [0, 1, 2, 3] [] [4] (yR rfl (lbs_ [.bool D, E.v] ST_27 (eh R) b R8) (yR rfl (lbs_ [.bool X, a0.v] ST_27 (eh a4) b R7) (yR rfl (lbs_ [.bool k.1, a5.v] ST_27 e0 b R3) (yR rfl (lbs_ [.bool D, E.v] ST_27 (eh R) b R8) (Rn QSn ?_)))))
   refine Lc1 rfl ?_
   refine Lk wn (yCall FN_22 (a2 e0 e0)) (integer_Mul_ok n8 F0 F5 b) ?_
   rintro _ w ⟨p7, rfl, b⟩
   refine ⟨_, rfl, ?_⟩
   refine Dn [] [0, 1] [5] (Rn (yS rfl (lbs_ [.bool D, E.v] ST_27 (eh R) b R8) (yS rfl (lbs_ [.bool X, a0.v] ST_27 (eh a4) b R7) QSn)) ?_)
   refine Lc1 rfl ?_
   refine Lk wn (yCall FN_67 (a2 e0 e0)) (integer_Sub_ok n9 F5 F0 b) ?_
   rintro _ w ⟨g1, rfl, b⟩
   refine ⟨_, rfl, ?_⟩
   refine Dn [] [0] [6] (Rn (yS rfl (lbs_ [.bool D, E.v] ST_27 (eh R) b R8) QSn) ?_)
   refine Lc1 rfl ?_
   replace b := b.k1z
   refine LT wn (r_stbn (vals' := [.bool D, E.v]) (us := [.bool D, E.v]) b ST_27 (eh a4) e0 rfl rfl (one_of rfl) rfl) fun w b => Dn [] [] [7] (Rn QSn ?_)
   refine Lc1 rfl ?_
   replace b := b.k20
   refine LT wn (r_stbn (vals' := [.bool g0.1, g1.v]) (us := [.bool g0.1, g1.v]) b ST_27 (eh R) e0 rfl rfl (one_of rfl) rfl) fun w b => Dz [] [] (Rn QSn (n4 _ _ _ ?_))
   cases q
   exact m7 _ _ _ rfl ⟨_, _, _, _, _, _, _, _, _, _, _, _, _, rfl, rfl, d1, f8, f9, a3, b6, a4, R, ((b.k21).facts (allC F5 (allC F3 (allC F7 (allC F0 (allT (allT (allT (allT (allT (allT (allT (allT allI)))))))))))))⟩
theorem sparseref01_trim_ok {u : LI} {d : Hdr} {out : LI} (m : sparseref01_trim u = some out) (o : imm (rI .u32) d.v u ∈ ros) (b : St w0 ros rs w) :
  Calls Tryz.prog 111 #[d.v] w (fun e w => ∃ (C : Hdr), e = .returned (C.v) ∧ St w0 ros (row 88 (rI .u32) C.v out :: rs) w) := by
 refine enterQ Tryz.func111 rfl Tryz.ntmps111 rfl fun Q L => sR fun _ N => Ya hnil.v rfl (wK N (sR fun _ O => Ym d.v e0 (yY (yLen SL_25 e0 b (rdI o)) (Ya (iV (u.length : Int)) e0 (wK O (sQ fun _ R => ?_))))))
 refine blockQ fun S T => bE m fun U V m => ?_
 have W : ∀ (p : Int) (f : FV) w, f 0 = d.v → f 3 = iV p → St w0 ros rs w → p = U → S (.exit 0) (fr 33 f) w := by
  intro p f w X Z b ho
  subst ho
  refine T _ _ _ (R _ _ (sR fun _ a0 => Ya hnil.v rfl (wK a0 (sQ fun _ a1 => sR fun _ a2 => Ya (iV 0) rfl (wK a2 (blockQ fun a3 a4 => ?_))))))
  refine bE m fun a5 a6 m => ?_
  have a7 : ∀ (x : LI) (q : Hdr) (f : FV) w, f 4 = q.v → St w0 ros (row 88 (rI .u32) q.v x :: rs) w → x = a5 → a3 (.exit 2) (fr 33 f) w := by
   intro x q f w a8 b ho
   subst ho
   refine a4 _ _ _ (a1 _ _ (sR fun _ a9 => Ym q.v (eh a8) (Ya q.v e0 (wK a9 (wp_ret ?_)))))
   cases m
   exact L _ _ _ (fin1r Tryz.results111 ⟨rfl, rfl⟩ ⟨_, rfl, b⟩)
  replace b := b.rowNh 88 (rI .u32)
  refine loopQ (fun s a w => ∃ (y : LI) (i : Int) (f : FV) (r : Hdr), (y, i) = s ∧ a = fr 33 f ∧ f 0 = d.v ∧ f 3 = iV p ∧ f 4 = r.v ∧ f 5 = iV i ∧ St w0 ros (row 88 (rI .u32) r.v y :: rs) w) a6 ⟨_, _, _, _, rfl, rfl, X, Z, rfl, rfl, b⟩ ?_
  rintro _ _ w d2 ⟨y, i, f, r, rfl, rfl, D, E, F, z, b⟩ g b0 d3 b1 b2
  refine seqQ fun d4 b3 b4 => sR fun _ b5 => Ym (iV i) (eh z) (Ym (iV p) (eh E) (yY (ylss e0 e0) (wK b5 ?_)))
  refine cIf e0 g (fun b6 g => ?_) fun b6 g => ?_
  ·refine wp_skip (b3 _ _ (sQ fun _ b7 => blockQ fun _ b8 => wR (Ym r.v (eh F) (Ym d.v (eh D) (Ym (iV i) (eh z) (bE g fun A G g => yY (yIa SL_25 e0 e0 b (rdI o) G) (yY (yI O_88 e0 b (rdI o) G) (yH (rLt (n := 1) (l := [A]) b SL_25 [.int .u32 A] (bp1 e0) rfl rfl (mks1 (cs := [.int .u32 A]) rfl mkI mks0)) fun d5 w b => bE g fun d6 b9 g => ?_))))))))
   refine yH (rAp (b.k11) SL_25 e0 e0 rO1 b9) fun c0 w b => Ya c0.v e0 (wN (b8 _ _ _ (b7 _ _ (wR (Ym (iV i) (eh z) (yY (yadd e0 rfl) (Ya (iV (wa .i64 i 1)) e0 (wN ?_))))))))
   cases g
   exact b1 _ _ _ rfl ⟨_, _, _, _, rfl, rfl, D, E, rfl, rfl, (b.k1g)⟩
  ·refine wp_exit (b4 _ _ _ rfl ?_)
   cases g
   exact b2 _ _ _ _ rfl rfl (a7 _ _ _ _ F b (b0 _ rfl))
 refine loopQ (fun s a w => ∃ (h : Int) (f : FV), h = s ∧ a = fr 33 f ∧ f 0 = d.v ∧ f 3 = iV h ∧ St w0 ros rs w) V ⟨_, _, rfl, rfl, rfl, rfl, b⟩ ?_
 rintro _ _ w d7 ⟨h, f, rfl, rfl, B, t, b⟩ j c1 d8 c2 c3
 refine seqQ fun d9 c4 c5 => sR fun _ c6 => Ym (iV h) (eh t) (yY (ygtr e0 rfl) (Ym (.bool (decide ((0 : Int) < h))) e0 (bE j fun c7 k j => ?_)))
 refine joinW 7 (fun f w => f 0 = d.v ∧ f 3 = iV h ∧ f 17 = .bool c7 ∧ St w0 ros rs w) (fun H => ?_) ?_
 ·rcases iteS k with ⟨c, k⟩ | ⟨c, k⟩
  ·refine yG (dT c) (m_ d.v (eh B)) (yG (dT c) (m_ (iV h) (eh t)) (yG (dT c) (ysub e0 rfl) (bE k fun c8 I k => yG (dT c) (yIa SL_25 e0 e0 b (rdI o) I) (yG (dT c) (yI O_88 e0 b (rdI o) I) (yG (dT c) (yeql e0 rfl) (yY (pt_ (.bool (decide (c8 = 0))) e0 (dT c) e0) ?_))))))
   cases k
   exact H _ _ ⟨B, t, rfl, b⟩
  ·refine gN (dF c) (gN (dF c) (gN (dF c) (gN (dF c) (gN (dF c) (gN (dF c) (yY (pf_ (.bool false) e0 (dF c) rfl) ?_))))))
   cases k
   exact H _ _ ⟨B, t, rfl, b⟩
 rintro f w ⟨J, K, c9, b⟩
 refine wK c6 (cB (eh c9) j (fun d0 j => ?_) fun d0 j => ?_)
 ·refine wp_skip (c4 _ _ (blockQ fun _ d1 => wR (Ym (iV h) (eh K) (yY (ysub e0 rfl) (Ya (iV (ws .i64 h 1)) e0 (wN (d1 _ _ _ ?_)))))))
  cases j
  exact c2 _ _ _ rfl ⟨_, _, rfl, rfl, J, rfl, b⟩
 ·refine wp_exit (c5 _ _ _ rfl ?_)
  cases j
  exact c3 _ _ _ _ rfl rfl (W _ _ _ J K b (c1 _ rfl))
theorem sparseref01_make1_ok {c : Bool} {j : LI} {h : Hdr} {out : Bool × LI} (i : sparseref01_make1 c j = some out) (o : imm (rI .u32) h.v j ∈ ros) (a : St w0 ros rs w) :
  Calls Tryz.prog 93 #[.bool c, h.v] w (fun e w => ∃ (k : Hdr), e = .returned (.agg #[.bool out.1, k.v]) ∧ St w0 ros (row 88 (rI .u32) k.v out.2 :: rs) w) := by
 refine enterQ Tryz.func93 rfl Tryz.ntmps93 rfl fun Q p => sR fun _ q => yBb (rAl a ZT_27) fun l w a => wK q (sR fun _ r => Ym h.v e0 (bE i fun g s i => yC (yCall FN_111 (a1 e0)) (sparseref01_trim_ok s o a) ?_))
 rintro _ w ⟨d, rfl, a⟩
 refine ⟨_, rfl, ?_⟩
 refine Ya d.v e0 (wK r (sR fun _ t => Ym (.bool c) e0 (Ym (.bool c) e0 ?_)))
 refine joinW 4 (fun f w => f 1 = d.v ∧ f 4 = (pB l) ∧ f 12 = .bool (c && (decide ((0 : Int) < (g.length : Int)))) ∧ St w0 ros (row 88 (rI .u32) d.v g :: box l 27 [.bool false, hnil.v] :: rs) w) (fun m => ?_) ?_
 ·rcases Bool.eq_false_or_eq_true c with b | b
  ·exact yG b (m_ d.v e0) (yG b (yLen SL_25 e0 a rO0) (yG b (ygtr e0 rfl) (yY (pt_ (.bool (decide ((0 : Int) < (g.length : Int)))) e0 b e0) (m _ _ ⟨rfl, rfl, (congrArg Value.bool (andT b)), a⟩))))
  ·exact gN b (gN b (gN b (yY (pf_ (.bool false) e0 b rfl) (m _ _ ⟨rfl, rfl, (congrArg Value.bool (andF b)), a⟩))))
 rintro f w ⟨u, n, x, a⟩
 refine Ym d.v (eh u) (yY (ybuild (us := [.bool (c && (decide ((0 : Int) < (g.length : Int)))), d.v]) [(0, .bool (c && (decide ((0 : Int) < (g.length : Int))))), (1, d.v)] SO_27 (bp2 (eh x) e0) rfl) (yT (r_stbn (vals' := [.bool (c && (decide ((0 : Int) < (g.length : Int)))), d.v]) (us := [.bool (c && (decide ((0 : Int) < (g.length : Int)))), d.v]) (a.k11) ST_27 (eh n) e0 rfl rfl (one_of rfl) rfl) fun w a => wK t (wp_ret ?_)))
 cases i
 exact p _ _ _ (fin1r Tryz.results93 (rcs2 rfl n a R0 ST_27 rfl) ⟨_, rfl, (a.k1n)⟩)
theorem sparseref01_Norm_ok {b : Bool} {f : LI} {c : Hdr} {out : Bool × LI} (d : sparseref01_Norm b f = some out) (j : imm (rI .u32) c.v f ∈ ros) (a : St w0 ros rs w) :
  Calls Tryz.prog 91 #[.agg #[.bool b, c.v]] w (fun e w => ∃ (g : Hdr), e = .returned (.agg #[.bool out.1, g.v]) ∧ St w0 ros (row 88 (rI .u32) g.v out.2 :: rs) w) := by
 refine enterQ Tryz.func91 rfl Tryz.ntmps91 rfl fun Q k => sR fun _ l => yBb (r_box (vals := [.bool b, c.v]) a e0 rfl) fun o w a => yBb (rAl a ZT_27) fun p w a => wK l (sR fun _ m => yY (yFb FL_27_0 e0) (yY (lb_ (.bool b) O_4 e0 a R1) (yY (yFb FL_27_1 e0) ?_)))
 refine yY (lb_ c.v O_25 e0 a R1) (bE d fun h n d => yC (yCall FN_93 (a2 e0 e0)) (sparseref01_make1_ok n j a) ?_)
 rintro _ w ⟨i, rfl, a⟩
 refine ⟨_, rfl, ?_⟩
 refine yT (r_stbn (vals' := [.bool h.1, i.v]) (us := [.bool h.1, i.v]) (a.k11) ST_27 e0 e0 rfl rfl (one_of rfl) rfl) fun w a => wK m (wp_ret ?_)
 cases d
 exact k _ _ _ (fin1r Tryz.results91 (rcs2 rfl rfl a R0 ST_27 rfl) ⟨_, rfl, (a.k22)⟩)
theorem sparseref01_Sign_ok {d : Bool} {j : LI} {f : Hdr} {out : Int} (b : sparseref01_Sign d j = some out) (l : imm (rI .u32) f.v j ∈ ros) (a : St w0 ros rs w) :
  Calls Tryz.prog 89 #[.agg #[.bool d, f.v]] w (fun e w => e = .returned (iV out) ∧ St w0 ros rs w) := by
 refine enterQ Tryz.func89 rfl Tryz.ntmps89 rfl fun Q g => sR fun _ m => yBb (r_box (vals := [.bool d, f.v]) a e0 rfl) fun z w a => Ya (iV 0) rfl (wK m (sR fun _ n => yY (lbs_ [.bool d, f.v] ST_27 e0 a R0) (bE b fun c o b => yC (yCall FN_91 (a1 e0)) (sparseref01_Norm_ok o l a) ?_)))
 rintro _ w ⟨h, rfl, a⟩
 refine ⟨_, rfl, ?_⟩
 refine yT (r_stbn (vals' := [.bool c.1, h.v]) (us := [.bool c.1, h.v]) (a.k11) ST_27 e0 e0 rfl rfl (one_of rfl) rfl) fun w a => wK n (seqQ fun A p k => blockQ fun _ i => sR fun _ q => yY (yFb FL_27_1 e0) (yY (lb_ h.v O_25 e0 a R0) (yY (yLen SL_25 e0 a rO1) (yY (yeql e0 rfl) (Ya (.bool (decide ((c.2.length : Int) = 0))) e0 (wN ?_))))))
 refine q _ _ ?_
 refine cIf e0 b (fun r b => ?_) fun r b => ?_
 ·refine sR fun _ s => Ya (iV 0) rfl (wK s (wp_ret (i _ _ _ (k _ _ _ rfl ?_))))
  cases b
  exact g _ _ _ (fin1r Tryz.results89 ⟨rfl, rfl⟩ ⟨rfl, (a.k1l)⟩)
 ·refine sR fun _ t => yY (yFb FL_27_0 e0) (yY (lb_ (.bool c.1) O_4 e0 a R0) (Ya (.bool c.1) e0 (wK t (cB e0 b (fun u b => ?_) fun u b => ?_))))
  ·refine sR fun _ x => Ya (iV (-1)) rfl (wK x (wp_ret (i _ _ _ (k _ _ _ rfl ?_))))
   cases b
   exact g _ _ _ (fin1r Tryz.results89 ⟨rfl, rfl⟩ ⟨rfl, (a.k1l)⟩)
  ·refine wp_skip (i _ _ _ (p _ _ (sR fun _ y => Ya (iV 1) rfl (wK y (wp_ret ?_)))))
   cases b
   exact g _ _ _ (fin1r Tryz.results89 ⟨rfl, rfl⟩ ⟨rfl, (a.k1l)⟩)
theorem sparseref01_cmpMag_ok {n z : LI} {h i : Hdr} {out : Int} (d : sparseref01_cmpMag n z = some out) (j : imm (rI .u32) h.v n ∈ ros) (k : imm (rI .u32) i.v z ∈ ros) (b : St w0 ros rs w) :
  Calls Tryz.prog 113 #[h.v, i.v] w (fun e w => e = .returned (iV out) ∧ St w0 ros rs w) := by
 refine enterQ Tryz.func113 rfl Tryz.ntmps113 rfl fun Q m => sR fun _ K => Ya (iV 0) rfl (wK K (seqQ fun b7 L A => sR fun _ N => Ym h.v e0 (yY (yLen SL_25 e0 b (rdI j)) (Ym i.v e0 (yY (yLen SL_25 e0 b (rdI k)) (yY (yneq e0 e0) ?_))))))
 refine wK N ?_
 rcases iteS d with ⟨o, d⟩ | ⟨o, d⟩
 ·refine condF e0 (nF (dT o)) (wp_skip (L _ _ (seqQ fun b8 O R => sR fun _ S => Ym h.v e0 (yY (yLen SL_25 e0 b (rdI j)) (yY (ysub e0 rfl) (Ya (iV (ws .i64 (n.length : Int) 1)) e0 (wK S (blockQ fun B C => bE d fun D T d => ?_))))))))
  have U : ∀ (f : FV) w, St w0 ros rs w → .inl () = D → B (.exit 0) (fr 41 f) w := by
   intro f w b ho
   subst ho
   refine C _ _ _ (O _ _ (sR fun _ V => Ya (iV 0) rfl (wK V (wp_ret ?_))))
   cases d
   exact m _ _ _ (fin1r Tryz.results113 ⟨rfl, rfl⟩ ⟨rfl, b⟩)
  have E : ∀ (p : Int) (f : FV) w, f 4 = iV p → St w0 ros rs w → .inr p = D → B .ret (fr 41 f) w := by
   intro p f w W b ho
   subst ho
   refine C _ _ _ (R _ _ _ rfl ?_)
   cases d
   exact m _ _ _ (fin1r Tryz.results113 ⟨rfl, W⟩ ⟨rfl, b⟩)
  refine loopQ (fun s a w => ∃ (g : Int) (f : FV), g = s ∧ a = fr 41 f ∧ f 0 = h.v ∧ f 1 = i.v ∧ f 5 = iV g ∧ St w0 ros rs w) T ⟨_, _, rfl, rfl, rfl, rfl, rfl, b⟩ ?_
  rintro _ _ w b9 ⟨g, f, rfl, rfl, q, r, l, b⟩ c t c0 X u
  refine seqQ fun c1 Z a0 => sR fun _ a1 => Ym (iV g) (eh l) (yY (ygeq e0 rfl) (wK a1 ?_))
  refine cIf e0 c (fun a2 c => ?_) fun a2 c => ?_
  ·refine wp_skip (Z _ _ (seqQ fun c2 a3 F => blockQ fun _ x => sQ fun _ a4 => bE c fun c3 G c => bE c fun c4 H c => dR [0, 0, 3, 7, 0, 0, 48, 112, 255] [] 0 folM ?_))
   replace b := b.drew
   refine Dz [0, 1, 2, 3, 4, 5, 6, 7, 8] [] (yR rfl (m_ h.v (eh q)) (yR rfl (m_ (iV g) (eh l)) (yR rfl (yIa SL_25 e0 e0 b (rdI j) G) (yR rfl (yI O_88 e0 b (rdI j) G) (yR rfl (m_ i.v (eh r)) (yR rfl (m_ (iV g) (eh l)) (yR rfl (yIa SL_25 e0 e0 b (rdI k) H) (yR rfl (yI O_88 e0 b (rdI k) H) (yR rfl (yneq e0 e0) (Rn QSn (a4 _ _ ?_)))))))))))
   rcases iteS c with ⟨y, c⟩ | ⟨y, c⟩
   ·refine condF e0 (nF (dT y)) (wp_skip (x _ _ _ (a3 _ _ (wR (Ym (iV g) (eh l) (yY (ysub e0 rfl) (Ya (iV (ws .i64 g 1)) e0 (wN ?_))))))))
    cases c
    exact X _ _ _ rfl ⟨_, _, rfl, rfl, q, r, rfl, b⟩
   ·refine condT e0 (nT (dF y)) (seqQ fun c6 a5 a6 => sQ fun _ a7 => bE c fun c7 I c => bE c fun c8 J c => dR [0, 0, 3, 7, 0, 0, 48, 112, 255] [] 0 folM ?_)
    replace b := b.drew
    refine Dz [0, 1, 2, 3, 4, 5, 6, 7, 8] [] (yR rfl (m_ h.v (eh q)) (yR rfl (m_ (iV g) (eh l)) (yR rfl (yIa SL_25 e0 e0 b (rdI j) I) (yR rfl (yI O_88 e0 b (rdI j) I) (yR rfl (m_ i.v (eh r)) (yR rfl (m_ (iV g) (eh l)) (yR rfl (yIa SL_25 e0 e0 b (rdI k) J) (yR rfl (yI O_88 e0 b (rdI k) J) (yR rfl (ylss e0 e0) (Rn QSn (a7 _ _ ?_)))))))))))
    refine cIf e0 c (fun a8 c => ?_) fun a8 c => ?_
    ·refine sR fun _ a9 => Ya (iV (-1)) rfl (wK a9 (wp_ret (a6 _ _ _ rfl (x _ _ _ (F _ _ _ rfl ?_)))))
     cases c
     exact u _ _ _ _ rfl rfl (E _ _ _ rfl b (t _ rfl))
    ·refine wp_skip (a5 _ _ (sR fun _ b0 => Ya (iV 1) rfl (wK b0 (wp_ret (x _ _ _ (F _ _ _ rfl ?_))))))
     cases c
     exact u _ _ _ _ rfl rfl (E _ _ _ rfl b (t _ rfl))
  ·refine wp_exit (a0 _ _ _ rfl ?_)
   cases c
   exact u _ _ _ _ rfl rfl (U _ _ b (t _ rfl))
 ·refine condT e0 (nT (dF o)) (seqQ fun c9 b1 b2 => sR fun _ b3 => Ym h.v e0 (yY (yLen SL_25 e0 b (rdI j)) (Ym i.v e0 (yY (yLen SL_25 e0 b (rdI k)) (yY (ylss e0 e0) (wK b3 ?_))))))
  refine cIf e0 d (fun b4 d => ?_) fun b4 d => ?_
  ·refine sR fun _ b5 => Ya (iV (-1)) rfl (wK b5 (wp_ret (b2 _ _ _ rfl (A _ _ _ rfl ?_))))
   cases d
   exact m _ _ _ (fin1r Tryz.results113 ⟨rfl, rfl⟩ ⟨rfl, b⟩)
  ·refine wp_skip (b1 _ _ (sR fun _ b6 => Ya (iV 1) rfl (wK b6 (wp_ret (A _ _ _ rfl ?_)))))
   cases d
   exact m _ _ _ (fin1r Tryz.results113 ⟨rfl, rfl⟩ ⟨rfl, b⟩)
theorem sparseref01_shl_ok {y : LI} {k : Int} {m : Hdr} {out : LI} (g : sparseref01_shl y k = some out) (q : imm (rI .u32) m.v y ∈ ros) (b : St w0 ros rs w) :
  Calls Tryz.prog 116 #[m.v, iV k] w (fun e w => ∃ (z : Hdr), e = .returned (z.v) ∧ St w0 ros (row 88 (rI .u32) z.v out :: rs) w) := by
 refine enterQ Tryz.func116 rfl Tryz.ntmps116 rfl fun Q E => sR fun _ F => Ya hnil.v rfl (wK F (sR fun _ G => Ym (iV k) e0 (yY (yquoc e0 rfl (by decide)) (bE g fun b4 H g => yH (rMk b SL_25 e0 H) fun I w b => Ya I.v e0 ?_))))
 refine wK G (sR fun _ J => Ya (.int .u64 0) rfl (wK J (sQ fun _ K => sR fun _ L => Ya (iV 0) rfl (wK L (blockQ fun N O => ?_)))))
 refine bE g fun R S g => ?_
 have T : ∀ (r : LI) (h : Int) (o : Hdr) (f : FV) w, f 5 = o.v → f 6 = .int .u64 h → St w0 ros (row 88 (rI .u32) o.v r :: rs) w → (r, h) = R → N (.exit 0) (fr 39 f) w := by
  intro r h o f w U V b ho
  subst ho
  refine O _ _ _ (K _ _ (sR fun _ W => Ym o.v (eh U) (Ym (.int .u64 h) (eh V) (yY (ycv (k' := .u32) (by kernel_rfl) (by kernel_rfl) e0) (yH (rLt (n := 1) (l := [wc .u32 h]) b SL_25 [.int .u32 (wc .u32 h)] (bp1 e0) rfl rfl (mks1 (cs := [.int .u32 (wc .u32 h)]) rfl mkI mks0)) fun b5 w b => bE g fun b6 X g => yH (rAp (b.k11) SL_25 e0 e0 rO1 X) fun Z w b => Ya Z.v e0 (wN ?_))))))
  refine W _ _ (wp_ret ?_)
  cases g
  exact E _ _ _ (fin1r Tryz.results116 ⟨rfl, rfl⟩ ⟨_, rfl, (b.k1g)⟩)
 refine loopQ (fun s a w => ∃ (t : LI) (c i : Int) (f : FV) (p : Hdr), (t, c, i) = s ∧ a = fr 39 f ∧ f 0 = m.v ∧ f 1 = iV k ∧ f 5 = p.v ∧ f 6 = .int .u64 c ∧ f 7 = iV i ∧ St w0 ros (row 88 (rI .u32) p.v t :: rs) w) S ⟨_, _, _, _, _, rfl, rfl, rfl, rfl, rfl, rfl, rfl, b⟩ ?_
 rintro _ _ w b7 ⟨t, c, i, f, p, rfl, rfl, u, A, B, C, x, b⟩ d a0 b8 a1 a2
 refine seqQ fun b9 a3 a4 => sR fun _ a5 => Ym (iV i) (eh x) (Ym m.v (eh u) (yY (yLen SL_25 e0 b (rdI q)) (yY (ylss e0 e0) (wK a5 ?_))))
 refine cIf e0 d (fun a6 d => ?_) fun a6 d => ?_
 ·refine wp_skip (a3 _ _ (sQ fun _ a7 => blockQ fun _ a8 => sR fun _ a9 => Ym (.int .u64 c) (eh C) (Ym m.v (eh u) (Ym (iV i) (eh x) (bE d fun c0 D d => yY (yIa SL_25 e0 e0 b (rdI q) D) (yY (yI O_88 e0 b (rdI q) D) (yY (ycv (k' := .u64) (by kernel_rfl) (by kernel_rfl) e0) (Ym (iV k) (eh A) ?_))))))))
  refine yY (yremc e0 rfl (by decide)) (bE d fun j b0 d => yY (yshl e0 e0 b0) (yY (yor e0 e0) (Ya (.int .u64 (wor .u64 c j)) e0 (wK a9 (sR fun _ b1 => Ym p.v (eh B) (Ym (.int .u64 (wor .u64 c j)) e0 (yY (ycv (k' := .u32) (by kernel_rfl) (by kernel_rfl) e0) (yH (rLt (n := 1) (l := [wc .u32 (wor .u64 c j)]) b SL_25 [.int .u32 (wc .u32 (wor .u64 c j))] (bp1 e0) rfl rfl (mks1 (cs := [.int .u32 (wc .u32 (wor .u64 c j))]) rfl mkI mks0)) fun c1 w b => ?_))))))))
  refine bE d fun c2 b2 d => yH (rAp (b.k11) SL_25 e0 e0 rO1 b2) fun b3 w b => Ya b3.v e0 (wK b1 (wR (Ym (.int .u64 (wor .u64 c j)) e0 (yY (yshrc e0 rfl) (Ya (.int .u64 (wsrc .u64 (wor .u64 c j) 32)) e0 (wN (a8 _ _ _ (a7 _ _ (wR ?_)))))))))
  refine Ym (iV i) (eh x) (yY (yadd e0 rfl) (Ya (iV (wa .i64 i 1)) e0 (wN ?_)))
  cases d
  exact a1 _ _ _ rfl ⟨_, _, _, _, _, rfl, rfl, u, A, rfl, rfl, rfl, (b.k1g)⟩
 ·refine wp_exit (a4 _ _ _ rfl ?_)
  cases d
  exact a2 _ _ _ _ rfl rfl (T _ _ _ _ _ B C b (a0 _ rfl))
theorem sparseref01_take_ok {p h : LI} {m q : Int} {d r : Hdr} {out : LI × Bool} (c : sparseref01_take p h m q = some out) (D : imm (rI .u32) r.v h ∈ ros) (b : St w0 ros (row 88 (rI .u32) d.v p :: rs) w) :
  Calls Tryz.prog 138 #[d.v, r.v, iV m, .int .u64 q] w (fun e w => e = .returned (.bool out.2) ∧ St w0 ros (row 88 (rI .u32) d.v out.1 :: rs) w) := by
 refine enterQ Tryz.func138 rfl Tryz.ntmps138 rfl fun Q R => sR fun _ a8 => Ya (.bool false) rfl (wK a8 (sR fun _ a9 => Ym r.v e0 (yY (yLen SL_25 e0 b (rdI D)) (Ya (iV (h.length : Int)) e0 (wK a9 (sQ fun _ b0 => ?_))))))
 refine wR (Ym (iV (h.length : Int)) e0 (yY (yadd e0 rfl) (bE c fun h0 b1 c => yH (rMk b SL_25 e0 b1) fun i w b => Ya i.v e0 (wK b0 (sR fun _ b2 => Ya (.int .u64 0) rfl (Ya (.int .u64 0) rfl (wN ?_)))))))
 refine b2 _ _ (sQ fun _ b3 => sR fun _ b4 => Ya (iV 0) rfl (wK b4 (blockQ fun b5 b6 => bE c fun b7 b8 c => ?_)))
 have b9 : ∀ (A : LI) (B : Int) (f : FV) w, f 0 = d.v → f 2 = iV m → f 9 = iV (h.length : Int) → f 10 = i.v → f 11 = .int .u64 B → St w0 ros (row 88 (rI .u32) d.v p :: row 88 (rI .u32) i.v A :: rs) w → (A, B) = b7 → b5 (.exit 0) (fr 75 f) w := by
  intro A B f w c0 c1 c2 c3 c4 b ho
  subst ho
  refine b6 _ _ _ (b3 _ _ (seqQ fun h1 c5 c6 => sR fun _ c7 => Ym (.int .u64 B) (eh c4) (yY (yneq e0 rfl) (wK c7 ?_))))
  rcases iteS c with ⟨E, c⟩ | ⟨E, c⟩
  ·refine condF e0 (nF (dT E)) (wp_skip (c5 _ _ (sQ fun _ c8 => sR fun _ c9 => Ya (iV 0) rfl (wK c9 (blockQ fun d0 d1 => bE c fun d2 d3 c => ?_)))))
   have d4 : ∀ (F : LI) (f : FV) w, St w0 ros (row 88 (rI .u32) d.v F :: rs) w → F = d2 → d0 (.exit 2) (fr 75 f) w := by
    intro F f w b ho
    subst ho
    refine d1 _ _ _ (c8 _ _ (sR fun _ d5 => Ya (.bool true) rfl (wK d5 (wp_ret ?_))))
    cases c
    exact R _ _ _ (fin1r Tryz.results138 ⟨rfl, rfl⟩ ⟨rfl, b⟩)
   refine loopQ (fun s a w => ∃ (G : LI) (o : Int) (f : FV), (G, o) = s ∧ a = fr 75 f ∧ f 0 = d.v ∧ f 2 = iV m ∧ f 9 = iV (h.length : Int) ∧ f 10 = i.v ∧ f 15 = iV o ∧ St w0 ros (row 88 (rI .u32) d.v G :: row 88 (rI .u32) i.v A :: rs) w) d3 ⟨_, _, _, rfl, rfl, c0, c1, c2, c3, rfl, b⟩ ?_
   rintro _ _ w h3 ⟨G, o, f, rfl, rfl, S, T, U, V, C, b⟩ n d6 h5 d7 d8
   refine seqQ fun h6 d9 e1 => sR fun _ e2 => Ym (iV o) (eh C) (Ym (iV (h.length : Int)) (eh U) (yY (yleq e0 e0) (wK e2 ?_)))
   refine cIf e0 n (fun e3 n => ?_) fun e3 n => ?_
   ·refine wp_skip (d9 _ _ (sQ fun _ e4 => blockQ fun _ e5 => wR (Ym d.v (eh S) (Ym (iV o) (eh C) (Ym (iV m) (eh T) (yY (yadd e0 e0) (Ym i.v (eh V) (Ym (iV o) (eh C) (bE n fun e6 W n => yY (yIa SL_25 e0 e0 b rO1 W) (yY (yI O_88 e0 b rO1 W) ?_))))))))))
    refine bE n fun h8 X n => yY (yIs SL_25 e0 e0 b rO0 X) (yT (r_sti (cs := [.int .u32 e6]) b O_88 rfl e0 e0 rfl mkI X) fun w b => wN (e5 _ _ _ (e4 _ _ (wR (Ym (iV o) (eh C) (yY (yadd e0 rfl) (Ya (iV (wa .i64 o 1)) e0 (wN ?_))))))))
    cases n
    exact d7 _ _ _ rfl ⟨_, _, _, rfl, rfl, S, T, U, V, rfl, b⟩
   ·refine wp_exit (e1 _ _ _ rfl ?_)
    cases n
    exact d8 _ _ _ _ rfl rfl (d4 _ _ _ (b.k1g) (d6 _ rfl))
  ·refine condT e0 (nT (dF E)) (sR fun _ e7 => Ya (.bool false) rfl (wK e7 (wp_ret (c6 _ _ _ rfl ?_))))
   cases c
   exact R _ _ _ (fin1r Tryz.results138 ⟨rfl, rfl⟩ ⟨rfl, (b.k1g)⟩)
 refine loopQ (fun s a w => ∃ (t : LI) (j u g : Int) (f : FV), (t, j, u, g) = s ∧ a = fr 75 f ∧ f 0 = d.v ∧ f 1 = r.v ∧ f 2 = iV m ∧ f 3 = .int .u64 q ∧ f 9 = iV (h.length : Int) ∧ f 10 = i.v ∧ f 11 = .int .u64 j ∧ f 12 = .int .u64 u ∧ f 13 = iV g ∧ St w0 ros (row 88 (rI .u32) d.v p :: row 88 (rI .u32) i.v t :: rs) w) b8 ⟨_, _, _, _, _, rfl, rfl, rfl, rfl, rfl, rfl, rfl, rfl, rfl, rfl, rfl, (b.k11)⟩ ?_
 rintro _ _ w e8 ⟨t, j, u, g, f, rfl, rfl, H, I, J, K, x, L, N, Z, y, b⟩ k e9 h9 f0 f1
 refine seqQ fun i0 f2 f3 => sR fun _ f4 => Ym (iV g) (eh y) (Ym (iV (h.length : Int)) (eh x) (yY (yleq e0 e0) (wK f4 ?_)))
 refine cIf e0 k (fun f5 k => ?_) fun f5 k => ?_
 ·refine wp_skip (f2 _ _ (sQ fun _ f6 => blockQ fun _ f7 => sQ fun f8 f9 => sR fun _ g0 => Ym (iV g) (eh y) (Ym (iV (h.length : Int)) (eh x) (yY (ylss e0 e0) (wK g0 ?_)))))
  have a0 : ∀ (l : Int) (f : FV) w, f 0 = d.v → f 1 = r.v → f 2 = iV m → f 3 = .int .u64 q → f 9 = iV (h.length : Int) → f 10 = i.v → f 11 = .int .u64 j → f 12 = .int .u64 l → f 13 = iV g → St w0 ros (row 88 (rI .u32) d.v p :: row 88 (rI .u32) i.v t :: rs) w → sparseref01_take_j5 p g m t j l = some e8 → f8 .normal (fr 75 f) w := by
   intro l f w a1 g1 a2 g2 g3 a3 g4 a4 O b c
   refine f9 _ _ (sR fun _ g5 => Ym d.v (eh a1) (Ym (iV g) (eh O) (Ym (iV m) (eh a2) (yY (yadd e0 e0) (bE c fun z a5 c => yY (yIa SL_25 e0 e0 b rO0 a5) (yY (yI O_88 e0 b rO0 a5) (yY (ycv (k' := .u64) (by kernel_rfl) (by kernel_rfl) e0) (Ym (.int .u64 j) (eh g4) (yY (ysub e0 e0) (Ym (.int .u64 l) (eh a4) ?_))))))))))
   refine yY (yand e0 rfl) (yY (ysub e0 e0) (Ya (.int .u64 (ws .u64 (ws .u64 (wc .u64 z) j) (wand .u64 l 4294967295))) e0 (wK g5 (sR fun _ g6 => Ym (.int .u64 l) (eh a4) (yY (yshrc e0 rfl) (Ya (.int .u64 (wsrc .u64 l 32)) e0 (wK g6 (sR fun _ g7 => ?_))))))))
   refine Ym i.v (eh a3) (Ym (iV g) (eh O) (Ym (.int .u64 (ws .u64 (ws .u64 (wc .u64 z) j) (wand .u64 l 4294967295))) e0 (yY (ycv (k' := .u32) (by kernel_rfl) (by kernel_rfl) e0) (bE c fun i1 a6 c => yY (yIs SL_25 e0 e0 b rO1 a6) (yT (r_sti (cs := [.int .u32 (wc .u32 (ws .u64 (ws .u64 (wc .u64 z) j) (wand .u64 l 4294967295)))]) (b.k11) O_88 rfl e0 e0 rfl mkI a6) fun w b => wK g7 (wR (Ym (.int .u64 (ws .u64 (ws .u64 (wc .u64 z) j) (wand .u64 l 4294967295))) e0 (yY (yshrc e0 rfl) (Ya (.int .u64 (wsrc .u64 (ws .u64 (ws .u64 (wc .u64 z) j) (wand .u64 l 4294967295)) 63)) e0 ?_)))))))))
   refine wN (f7 _ _ _ (f6 _ _ (wR (Ym (iV g) (eh O) (yY (yadd e0 rfl) (Ya (iV (wa .i64 g 1)) e0 (wN ?_)))))))
   cases c
   exact f0 _ _ _ rfl ⟨_, _, _, _, _, rfl, rfl, a1, g1, a2, g2, g3, a3, rfl, rfl, rfl, (b.k11)⟩
  refine cIf e0 k (fun g8 k => ?_) fun g8 k => ?_
  ·exact wR (Ym (.int .u64 u) (eh Z) (Ym (.int .u64 q) (eh K) (Ym r.v (eh I) (Ym (iV g) (eh y) (bE k fun g9 a7 k => yY (yIa SL_25 e0 e0 b (rdI D) a7) (yY (yI O_88 e0 b (rdI D) a7) (yY (ycv (k' := .u64) (by kernel_rfl) (by kernel_rfl) e0) (yY (ymul e0 e0) (yY (yadd e0 e0) (Ya (.int .u64 (wa .u64 u (wm .u64 q (wc .u64 g9)))) e0 (wN (a0 _ _ _ H I J K x L N rfl y b k))))))))))))
  ·exact wp_skip (a0 _ _ _ H I J K x L N Z y b k)
 ·refine wp_exit (f3 _ _ _ rfl ?_)
  cases k
  exact f1 _ _ _ _ rfl rfl (b9 _ _ _ _ H J x L N b (e9 _ rfl))
end Go.Proofs.YtnfamnfdndaekaaGreatDoor
