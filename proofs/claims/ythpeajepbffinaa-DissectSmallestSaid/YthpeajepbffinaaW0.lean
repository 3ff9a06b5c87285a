/- Walks: each function computes its model, printed. -/
import Derived.Test.YthpeajepbffinaaSxP
import Derived.Test.YthpeajepbffinaaTy
import Derived.Test.YthpeajepbffinaaM4
import Derived.Test.YthpeajepbffinaaSxS
namespace Go.Proofs.Ythpeajepbffinaa
open Go Sx M
set_option maxRecDepth 100000
set_option maxHeartbeats 40000000
set_option linter.unusedVariables false
attribute [local irreducible] wpList Code.wp Calls DR QR QS LA LS St
variable {w0 : World} {ros : List Fact} {rs : List Res} {w : World}
theorem graph_ascending_ok {l : LI} {h : Int} {j : Hdr} {out : Bool} (m : graph_ascending l h = some out) (o : imm I1 j.v l ∈ ros) (b : St w0 ros rs w) :
  Calls Try.prog 47 #[j.v, iV h] w (fun e w => e = .returned (.bool out) ∧ St w0 ros rs w) := by
 refine enterQ Try.func47 rfl Try.ntmps47 rfl fun Q x => sR fun _ H => Ya (.bool false) rfl (wK H (sR fun _ I => Ya (iV (-1)) rfl (wK I (seqQ fun b2 J K => sR fun _ L => ?_))))
 refine Ym j.v e0 (yY (yLen SL_22 e0 b (rdI o)) (Ym (iV 0) rfl (wK L (blockQ fun y z => ?_))))
 obtain ⟨A, N, m⟩ := bs m
 have O : ∀ (f : FV) (w : World), St w0 ros rs w → .inl () = A → y (.exit 0) (fr 24 f) w := by
  intro f w b ho
  subst ho
  refine z _ _ _ (J _ _ (sR fun _ R => Ya (.bool true) rfl (wK R (wp_ret ?_))))
  obtain rfl := someI m
  exact x _ _ _ (fin1r Try.results47 ⟨rfl, rfl⟩ ⟨rfl, b⟩)
 have S : ∀ (f : FV) (w : World), f 4 = .bool false → St w0 ros rs w → .inr () = A → y .ret (fr 24 f) w := by
  intro f w T b ho
  subst ho
  refine z _ _ _ (K _ _ _ rfl ?_)
  obtain rfl := someI m
  exact x _ _ _ (fin1r Try.results47 ⟨rfl, T⟩ ⟨rfl, b⟩)
 refine loopQ (fun s a w => ∃ (i k : Int) (f : FV), (i, k) = s ∧ a = fr 24 f ∧ f 1 = iV h ∧ f 5 = iV i ∧ f 8 = j.v ∧ f 9 = iV (l.length : Int) ∧ f 10 = iV k ∧ St w0 ros rs w) N ⟨_, _, _, rfl, rfl, rfl, rfl, rfl, rfl, rfl, b⟩ ?_
 rintro _ _ w b3 ⟨i, k, f, rfl, rfl, p, U, q, r, n, b⟩ c B b4 V C
 refine sR fun _ W => yY (ylss (eh n) (eh r)) (wK W (seqQ fun b5 X Z => ?_))
 rcases iteS c with ⟨t, c⟩ | ⟨t, c⟩
 ·refine cT e0 t (wp_skip (X _ _ (seqQ fun b6 a0 a1 => blockQ fun _ D => sR fun _ a2 => ?_)))
  obtain ⟨d, E, c⟩ := bs c
  refine yY (yIa SL_22 (eh q) (eh n) b (rdI o) E) (yY (yI O_3 e0 b (rdI o) E) (Ya (iV d) e0 (wK a2 (seqQ fun b7 a3 a4 => sR fun _ a5 => Ym (iV d) e0 (Ym (iV i) (eh U) (yY (yleq e0 e0) (Ym (.bool (decide (d ≤ i))) e0 ?_)))))))
  refine joinW 4 (fun f w => f 1 = iV h ∧ f 7 = iV d ∧ f 8 = j.v ∧ f 9 = iV (l.length : Int) ∧ f 10 = iV k ∧ f 21 = .bool ((decide (d ≤ i)) || (decide (h ≤ d))) ∧ St w0 ros rs w) (fun F => ?_) ?_
  ·rcases Bool.eq_false_or_eq_true (decide (d ≤ i)) with g | g
   ·exact gN g (gN g (gN g (yY (pt_ (.bool true) e0 g rfl) (F _ _ ⟨p, rfl, q, r, n, (congrArg Value.bool (orT g)), b⟩))))
   ·exact yG g (m_ (iV d) e0) (yG g (m_ (iV h) (eh p)) (yG g (ygeq e0 e0) (yY (pf_ (.bool (decide (h ≤ d))) e0 g e0) (F _ _ ⟨p, rfl, q, r, n, (congrArg Value.bool (orF g)), b⟩))))
  rintro f w ⟨a6, a7, a8, a9, b0, G, b⟩
  refine wK a5 ?_
  rcases iteS c with ⟨u, c⟩ | ⟨u, c⟩
  ·refine condT (eh G) u (sR fun _ b1 => Ya (.bool false) rfl (wK b1 (wp_ret (a4 _ _ _ rfl (D _ _ _ (a1 _ _ _ rfl ?_))))))
   obtain rfl := someI c
   exact C _ _ _ _ rfl rfl (S _ _ rfl b (B _ rfl))
  ·refine condF (eh G) (bfalse u) (wp_skip (a3 _ _ (wR (Ym (iV d) (eh a7) (Ya (iV d) e0 (wN (D _ _ _ (a0 _ _ (wR (yY (yadd (eh b0) rfl) (Ym (iV (wa .i64 k 1)) e0 (wN ?_))))))))))))
   obtain rfl := someI c
   exact V _ _ _ rfl ⟨_, _, _, rfl, rfl, a6, rfl, a8, a9, rfl, b⟩
 ·refine cF e0 t (wp_exit (Z _ _ _ rfl ?_))
  obtain rfl := someI c
  exact C _ _ _ _ rfl rfl (O _ _ b (B _ rfl))
theorem cmp_isNaN_int_ok {a : Int} {out : Bool} (b : cmp_isNaN_int a = some out) (c : St w0 ros rs w) :
  Calls Try.prog 88 #[iV a] w (fun e w => e = .returned (.bool out) ∧ St w0 ros rs w) := by
 refine enterQ Try.func88 rfl Try.ntmps88 rfl fun Q d => sR fun _ f => Ya (.bool false) rfl (wK f (sR fun _ g => Ym (iV a) e0 (Ym (iV a) e0 (yY (yneq e0 e0) (Ya (.bool (!(decide (a = a)))) e0 (wK g ?_))))))
 refine wp_ret ?_
 obtain rfl := someI b
 exact d _ _ _ (fin1r Try.results88 ⟨rfl, rfl⟩ ⟨rfl, c⟩)
theorem cmp_Less_int_ok {d g : Int} {out : Bool} (i : cmp_Less_int d g = some out) (a : St w0 ros rs w) :
  Calls Try.prog 77 #[iV d, iV g] w (fun e w => e = .returned (.bool out) ∧ St w0 ros rs w) := by
 refine enterQ Try.func77 rfl Try.ntmps77 rfl fun Q m => sR fun _ n => Ya (.bool false) rfl (wK n (sR fun _ o => Ym (iV d) e0 ?_))
 obtain ⟨p, q, i⟩ := bs i
 refine Yc wn rfl (yCall FN_88 (a1 e0)) (cmp_isNaN_int_ok q a) ?_
 rintro _ w ⟨rfl, a⟩
 refine ⟨_, rfl, ?_⟩
 refine Ym (.bool p) e0 ?_
 obtain ⟨j, h, i⟩ := bs i
 refine joinW 4 (fun f w => f 0 = iV d ∧ f 1 = iV g ∧ f 11 = .bool j ∧ St w0 ros rs w) (fun k => ?_) ?_
 ·rcases iteS h with ⟨c, h⟩ | ⟨c, h⟩
  ·refine yG c (m_ (iV g) e0) ?_
   obtain ⟨r, s, h⟩ := bs h
   refine Yc (wG c) rfl (yCall FN_88 (a1 e0)) (cmp_isNaN_int_ok s a) ?_
   rintro _ w ⟨rfl, a⟩
   refine ⟨_, rfl, ?_⟩
   refine yG c (ynot e0) (yY (pt_ (.bool (!r)) e0 c e0) ?_)
   obtain rfl := someI h
   exact k _ _ ⟨rfl, rfl, rfl, a⟩
  ·refine gN (bfalse c) (gN (bfalse c) (gN (bfalse c) (yY (pf_ (.bool false) e0 (bfalse c) rfl) ?_)))
   obtain rfl := someI h
   exact k _ _ ⟨rfl, rfl, rfl, a⟩
 rintro f w ⟨t, u, v, a⟩
 refine Ym (.bool j) (eh v) ?_
 refine joinW 4 (fun f w => f 16 = .bool (j || (decide (d < g))) ∧ St w0 ros rs w) (fun l => ?_) ?_
 ·rcases Bool.eq_false_or_eq_true j with b | b
  ·exact gN b (gN b (gN b (yY (pt_ (.bool true) e0 b rfl) (l _ _ ⟨(congrArg Value.bool (orT b)), a⟩))))
  ·exact yG b (m_ (iV d) (eh t)) (yG b (m_ (iV g) (eh u)) (yG b (ylss e0 e0) (yY (pf_ (.bool (decide (d < g))) e0 b e0) (l _ _ ⟨(congrArg Value.bool (orF b)), a⟩))))
 rintro f w ⟨x, a⟩
 refine Ya (.bool (j || (decide (d < g)))) (eh x) (wK o (wp_ret ?_))
 obtain rfl := someI i
 exact m _ _ _ (fin1r Try.results77 ⟨rfl, rfl⟩ ⟨rfl, a⟩)
theorem slices_isNaN_int_ok {a : Int} {out : Bool} (b : slices_isNaN_int a = some out) (c : St w0 ros rs w) :
  Calls Try.prog 78 #[iV a] w (fun e w => e = .returned (.bool out) ∧ St w0 ros rs w) := by
 refine enterQ Try.func78 rfl Try.ntmps78 rfl fun Q d => sR fun _ f => Ya (.bool false) rfl (wK f (sR fun _ g => Ym (iV a) e0 (Ym (iV a) e0 (yY (yneq e0 e0) (Ya (.bool (!(decide (a = a)))) e0 (wK g ?_))))))
 refine wp_ret ?_
 obtain rfl := someI b
 exact d _ _ _ (fin1r Try.results78 ⟨rfl, rfl⟩ ⟨rfl, c⟩)
theorem slices_BinarySearch_int_ok {i : LI} {m : Int} {n : Hdr} {out : Int × Bool} (p : slices_BinarySearch_int i m = some out) (q : imm I1 n.v i ∈ ros) (b : St w0 ros rs w) :
  Calls Try.prog 64 #[n.v, iV m] w (fun e w => e = .returned (.tuple #[iV out.1, .bool out.2]) ∧ St w0 ros rs w) := by
 refine enterQ Try.func64 rfl Try.ntmps64 rfl fun Q X => sR fun _ Z => Ya (iV 0) rfl (Ya (.bool false) rfl (wK Z (sR fun _ a0 => Ym n.v e0 (yY (yLen SL_22 e0 b (rdI q)) (Ya (iV (i.length : Int)) e0 (wK a0 ?_))))))
 refine sR fun _ a3 => Ym (iV (i.length : Int)) e0 (Ya (iV 0) rfl (Ya (iV (i.length : Int)) e0 (wK a3 (sQ fun _ a4 => blockQ fun a5 a6 => ?_))))
 obtain ⟨a7, a8, p⟩ := bs p
 have a9 : ∀ (g : Int) (f : FV) (w : World), f 0 = n.v → f 1 = iV m → f 6 = iV (i.length : Int) → f 7 = iV g → St w0 ros rs w → g = a7 → a5 (.exit 0) (fr 54 f) w := by
  intro g f w G H b0 u b ho
  subst ho
  refine a6 _ _ _ (a4 _ _ (sR fun _ b1 => Ym (iV g) (eh u) (Ym (iV g) (eh u) (Ym (iV (i.length : Int)) (eh b0) (yY (ylss e0 e0) (Ym (.bool (decide (g < (i.length : Int)))) e0 ?_))))))
  obtain ⟨I, o, p⟩ := bs p
  refine joinW 18 (fun f w => f 31 = iV g ∧ f 53 = .bool I ∧ St w0 ros rs w) (fun J => ?_) ?_
  ·rcases iteS o with ⟨c, o⟩ | ⟨c, o⟩
   ·refine yG (dT c) (m_ n.v (eh G)) (yG (dT c) (m_ (iV g) (eh u)) ?_)
    obtain ⟨K, L, o⟩ := bs o
    refine yG (dT c) (yIa SL_22 e0 e0 b (rdI q) L) (yG (dT c) (yI O_3 e0 b (rdI q) L) (yG (dT c) (m_ (iV m) (eh H)) (yG (dT c) (yeql e0 e0) (yG (dT c) (m_ (.bool (decide (K = m))) e0) ?_))))
    obtain ⟨N, j, o⟩ := bs o
    refine joinW 10 (fun f w => f 31 = iV g ∧ f 35 = .bool (decide (g < (i.length : Int))) ∧ f 52 = .bool N ∧ St w0 ros rs w) (fun O => ?_) ?_
    ·rcases iteS j with ⟨d, j⟩ | ⟨d, j⟩
     ·refine gN (dT d) (gN (dT d) (gN (dT d) (gN (dT d) (gN (dT d) (gN (dT d) (Gn (wxu rfl rfl rfl) rfl (Gn (wxu rfl rfl rfl) rfl (gN (dT d) (yG (dT c) (pt_ (.bool true) e0 (dT d) rfl) ?_)))))))))
      obtain rfl := someI j
      exact O _ _ ⟨rfl, rfl, rfl, b⟩
     ·refine yG (dF d) (m_ n.v (eh G)) (yG (dF d) (m_ (iV g) (eh u)) ?_)
      obtain ⟨e2, R, j⟩ := bs j
      refine yG (dF d) (yIa SL_22 e0 e0 b (rdI q) R) (yG (dF d) (yI O_3 e0 b (rdI q) R) ?_)
      obtain ⟨b2, b3, j⟩ := bs j
      refine Yc (wG (dF d)) rfl (yCall FN_78 (a1 e0)) (slices_isNaN_int_ok b3 b) ?_
      rintro _ w ⟨rfl, b⟩
      refine ⟨_, rfl, ?_⟩
      refine yG (dF d) (m_ (.bool b2) e0) ?_
      obtain ⟨S, r, j⟩ := bs j
      refine joinW 3 (fun f w => f 31 = iV g ∧ f 35 = .bool (decide (g < (i.length : Int))) ∧ f 42 = .bool (decide (K = m)) ∧ f 51 = .bool S ∧ St w0 ros rs w) (fun T => ?_) ?_
      ·rcases iteS r with ⟨t, r⟩ | ⟨t, r⟩
       ·refine yG t (m_ (iV m) (eh H)) ?_
        obtain ⟨b4, b5, r⟩ := bs r
        refine Yc (wG t) rfl (yCall FN_78 (a1 e0)) (slices_isNaN_int_ok b5 b) ?_
        rintro _ w ⟨rfl, b⟩
        refine ⟨_, rfl, ?_⟩
        refine yG (dF d) (pt_ (.bool b4) e0 t e0) ?_
        obtain rfl := someI r
        exact T _ _ ⟨rfl, rfl, rfl, rfl, b⟩
       ·refine gN (bfalse t) (gN (bfalse t) (yG (dF d) (pf_ (.bool false) e0 (bfalse t) rfl) ?_))
        obtain rfl := someI r
        exact T _ _ ⟨rfl, rfl, rfl, rfl, b⟩
      rintro f w ⟨b6, U, b7, b8, b⟩
      refine Y (wg rfl rfl U (dT c)) rfl (pf_ (.bool S) (eh b7) (dF d) (eh b8)) ?_
      obtain rfl := someI j
      exact O _ _ ⟨b6, U, rfl, b⟩
    rintro f w ⟨b9, c0, c1, b⟩
    refine yY (pt_ (.bool N) (eh c0) (dT c) (eh c1)) ?_
    obtain rfl := someI o
    exact J _ _ ⟨b9, rfl, b⟩
   ·refine gN (dF c) (gN (dF c) (gN (dF c) (gN (dF c) (gN (dF c) (gN (dF c) (gN (dF c) (Gn (wxu rfl rfl rfl) rfl (Gn (wxu rfl rfl rfl) rfl (Gn (wxu rfl rfl rfl) rfl (Gn (wxu rfl rfl rfl) rfl (Gn (wxu rfl rfl rfl) rfl (Gn (wxu rfl rfl rfl) rfl (Gn (wxu rfl rfl rfl) rfl ?_)))))))))))))
    refine Gn (wxu rfl rfl rfl) rfl (Gn (wxu rfl rfl rfl) rfl (gN (dF c) (yY (pf_ (.bool false) e0 (dF c) rfl) ?_)))
    obtain rfl := someI o
    exact J _ _ ⟨rfl, rfl, b⟩
  rintro f w ⟨c2, c3, b⟩
  refine Ya (iV g) (eh c2) (Ya (.bool I) (eh c3) (wK b1 (wp_ret ?_)))
  obtain rfl := someI p
  exact X _ _ _ (fin2r Try.results64 ⟨rfl, rfl⟩ ⟨rfl, rfl⟩ ⟨rfl, b⟩)
 refine loopQ (fun s a w => ∃ (k l : Int) (f : FV), (k, l) = s ∧ a = fr 54 f ∧ f 0 = n.v ∧ f 1 = iV m ∧ f 6 = iV (i.length : Int) ∧ f 7 = iV k ∧ f 8 = iV l ∧ St w0 ros rs w) a8 ⟨_, _, _, rfl, rfl, rfl, rfl, rfl, rfl, rfl, b⟩ ?_
 rintro _ _ w c4 ⟨k, l, f, rfl, rfl, x, y, A, z, B, b⟩ h c5 e3 c6 c7
 refine seqQ fun e4 c8 c9 => sR fun _ d0 => Ym (iV k) (eh z) (Ym (iV l) (eh B) (yY (ylss e0 e0) (wK d0 ?_)))
 rcases iteS h with ⟨C, h⟩ | ⟨C, h⟩
 ·refine cT e0 C (wp_skip (c8 _ _ (blockQ fun d1 d2 => sR fun _ d3 => Ym (iV k) (eh z) (Ym (iV l) (eh B) (yY (yadd e0 e0) (yY (ycv (k' := .u64) (by kernel_rfl) (by kernel_rfl) e0) (yY (yshrc e0 rfl) (yY (ycv (k' := .i64) (by kernel_rfl) (by kernel_rfl) e0) (Ya (iV (wc .i64 (wsrc .u64 (wc .u64 (wa .i64 k l)) 1))) e0 (wN ?_))))))))))
  refine d3 _ _ (sR fun _ d4 => Ym n.v (eh x) (Ym (iV (wc .i64 (wsrc .u64 (wc .u64 (wa .i64 k l)) 1))) e0 ?_))
  obtain ⟨e5, V, h⟩ := bs h
  refine yY (yIa SL_22 e0 e0 b (rdI q) V) (yY (yI O_3 e0 b (rdI q) V) (Ym (iV m) (eh y) ?_))
  obtain ⟨e6, d5, h⟩ := bs h
  refine Yc wn rfl (yCall FN_77 (a2 e0 e0)) (cmp_Less_int_ok d5 b) ?_
  rintro _ w ⟨rfl, b⟩
  refine ⟨_, rfl, ?_⟩
  refine wK d4 ?_
  have W : ∀ (D E : Int) (f : FV) (w : World), f 0 = n.v → f 1 = iV m → f 6 = iV (i.length : Int) → f 7 = iV D → f 8 = iV E → St w0 ros rs w → slices_BinarySearch_int_j11 D E = some c4 → d1 .normal (fr 54 f) w := by
   intro D E f w d6 d7 d8 d9 e1 b p
   refine d2 _ _ _ ?_
   obtain rfl := someI p
   exact c6 _ _ _ rfl ⟨_, _, _, rfl, rfl, d6, d7, d8, d9, e1, b⟩
  rcases iteS h with ⟨F, h⟩ | ⟨F, h⟩
  ·exact condT e0 F (wR (Ym (iV (wc .i64 (wsrc .u64 (wc .u64 (wa .i64 k l)) 1))) e0 (yY (yadd e0 rfl) (Ya (iV (wa .i64 (wc .i64 (wsrc .u64 (wc .u64 (wa .i64 k l)) 1)) 1)) e0 (wN (W _ _ _ _ x y A rfl B b h))))))
  ·exact condF e0 (bfalse F) (wR (Ym (iV (wc .i64 (wsrc .u64 (wc .u64 (wa .i64 k l)) 1))) e0 (Ya (iV (wc .i64 (wsrc .u64 (wc .u64 (wa .i64 k l)) 1))) e0 (wN (W _ _ _ _ x y A z rfl b h)))))
 ·refine cF e0 C (wp_exit (c9 _ _ _ rfl ?_))
  obtain rfl := someI h
  exact c7 _ _ _ _ rfl rfl (a9 _ _ _ x y A z b (c5 _ rfl))
theorem graph_joined_ok {h : L2} {f g : Int} {d : Hdr} {out : Bool} (c : graph_joined h f g = some out) (i : imm S1 d.v h ∈ ros) (a : St w0 ros rs w) :
  Calls Try.prog 48 #[.agg #[d.v], iV f, iV g] w (fun e w => e = .returned (.bool out) ∧ St w0 ros rs w) := by
 refine enterQ Try.func48 rfl Try.ntmps48 rfl fun Q k => sR fun _ l => YB wn rfl (r_box (vals := [d.v]) a e0 rfl) ?_
 intro p w a
 refine Ya (.bool false) rfl (wK l (sR fun _ m => yY (yFb FL_27_0 e0) (yY (lb_ d.v O_25 e0 a R0) (Ym (iV f) e0 ?_))))
 obtain ⟨q, j, c⟩ := bs c
 refine yY (yIa SL_25 e0 e0 a (rdI i) j) ?_
 obtain ⟨r, a⟩ := iLs a i j
 refine yY (yCt O_22 e0 a F1 rfl) (Ym (iV g) e0 ?_)
 obtain ⟨b, n, c⟩ := bs c
 refine Yc wn rfl (yCall FN_64 (a2 e0 e0)) (slices_BinarySearch_int_ok n F0 a) ?_
 rintro _ w ⟨rfl, a⟩
 refine ⟨_, rfl, ?_⟩
 refine Ym (.tuple #[iV b.1, .bool b.2]) e0 (yY (x_ (iV b.1) e0) (yY (x_ (.bool b.2) e0) (Ya (iV b.1) e0 (Ya (.bool b.2) e0 (wK m (sR fun _ o => Ym (.bool b.2) e0 (Ya (.bool b.2) e0 (wK o (wp_ret ?_)))))))))
 obtain rfl := someI c
 exact k _ _ _ (fin1r Try.results48 ⟨rfl, rfl⟩ ⟨rfl, ((a.pk 1 [] rfl).facts (allT (allT allI)))⟩)
theorem graph_Check_ok {h : L2} {c : Hdr} {out : Int} (j : graph_Check h = some out) (n : imm S1 c.v h ∈ ros) (b : St w0 ros rs w) :
  Calls Try.prog 30 #[.agg #[c.v]] w (fun e w => e = .returned (iV out) ∧ St w0 ros rs w) := by
 refine enterQ Try.func30 rfl Try.ntmps30 rfl fun Q r => sR fun _ c7 => YB wn rfl (r_box (vals := [c.v]) b e0 rfl) ?_
 intro i w b
 refine Ya (iV 0) rfl (wK c7 (sR fun _ c8 => yY (yFb FL_27_0 e0) (yY (lb_ c.v O_25 e0 b R0) (yY (yLen SL_25 e0 b (rdI n)) (Ya (iV (h.length : Int)) e0 (wK c8 (seqQ fun j6 c9 d0 => sR fun _ d1 => ?_)))))))
 refine Ym (iV (h.length : Int)) e0 (yY (ygtr e0 rfl) (wK d1 ?_))
 rcases iteS j with ⟨z, j⟩ | ⟨z, j⟩
 ·refine cT e0 z (sR fun _ d2 => Ya (iV 6) rfl (wK d2 (wp_ret (d0 _ _ _ rfl ?_))))
  obtain rfl := someI j
  exact r _ _ _ (fin1r Try.results30 ⟨rfl, rfl⟩ ⟨rfl, (b.pk 1 [] rfl)⟩)
 ·refine cF e0 z (wp_skip (c9 _ _ (seqQ fun j7 d3 d4 => sR fun _ d5 => yY (yFb FL_27_0 e0) (yY (lb_ c.v O_25 e0 b R0) (yY (yLen SL_25 e0 b (rdI n)) (Ym (iV 0) rfl (wK d5 (blockQ fun K L => ?_))))))))
  obtain ⟨N, d6, j⟩ := bs j
  have d7 : ∀ (f : FV) (w : World), f 1 = (pB i) → St w0 ros (box i 27 [c.v] :: rs) w → .inl () = N → K (.exit 0) (fr 55 f) w := by
   intro f w O b ho
   subst ho
   refine L _ _ _ (d3 _ _ (seqQ fun j9 d8 d9 => sR fun _ e1 => yY (yFb FL_27_0 (eh O)) (yY (lb_ c.v O_25 e0 b R0) (yY (yLen SL_25 e0 b (rdI n)) (Ym (iV 0) rfl (wK e1 (blockQ fun R S => ?_)))))))
   obtain ⟨T, e2, j⟩ := bs j
   have e3 : ∀ (f : FV) (w : World), St w0 ros rs w → .inl () = T → R (.exit 2) (fr 55 f) w := by
    intro f w b ho
    subst ho
    refine S _ _ _ (d8 _ _ (sR fun _ e4 => Ya (iV 0) rfl (wK e4 (wp_ret ?_))))
    obtain rfl := someI j
    exact r _ _ _ (fin1r Try.results30 ⟨rfl, rfl⟩ ⟨rfl, b⟩)
   have e5 : ∀ (f : FV) (w : World), f 2 = iV 1 → St w0 ros rs w → .inr () = T → R .ret (fr 55 f) w := by
    intro f w e6 b ho
    subst ho
    refine S _ _ _ (d9 _ _ _ rfl ?_)
    obtain rfl := someI j
    exact r _ _ _ (fin1r Try.results30 ⟨rfl, e6⟩ ⟨rfl, b⟩)
   refine loopQ (fun s a w => ∃ (l : Int) (f : FV), l = s ∧ a = fr 55 f ∧ f 1 = (pB i) ∧ f 35 = c.v ∧ f 36 = iV (h.length : Int) ∧ f 37 = iV l ∧ St w0 ros (box i 27 [c.v] :: rs) w) e2 ⟨_, _, rfl, rfl, O, rfl, rfl, rfl, b⟩ ?_
   rintro _ _ w k0 ⟨l, f, rfl, rfl, e7, U, V, t, b⟩ m W k8 e8 X
   refine sR fun _ e9 => yY (ylss (eh t) (eh V)) (wK e9 (seqQ fun k9 f0 f1 => ?_))
   rcases iteS m with ⟨A, m⟩ | ⟨A, m⟩
   ·refine cT e0 A (wp_skip (f0 _ _ (seqQ fun l0 f2 f3 => blockQ fun _ Z => sR fun _ f4 => Ym (iV l) (eh t) ?_)))
    obtain ⟨a0, a1, m⟩ := bs m
    refine yY (yIa SL_25 (eh U) (eh t) b (rdI n) a1) ?_
    obtain ⟨u, b⟩ := iLs b n a1
    refine yY (yCt O_22 e0 b F1 rfl) (Ya (iV l) e0 (Ya u.v e0 (wK f4 (sR fun _ f5 => Ym u.v e0 (yY (yLen SL_22 e0 b (rdI F0)) (Ym (iV 0) rfl (wK f5 (blockQ fun a4 a5 => ?_))))))))
    obtain ⟨a6, f6, m⟩ := bs m
    have f7 : ∀ (f : FV) (w : World), f 1 = (pB i) → f 35 = c.v → f 36 = iV (h.length : Int) → f 37 = iV l → St w0 ros (box i 27 [c.v] :: rs) w → .inl () = a6 → a4 (.exit 4) (fr 55 f) w := by
     intro f w f8 f9 g0 g1 b ho
     subst ho
     refine a5 _ _ _ (Z _ _ _ (f2 _ _ (wR (yY (yadd (eh g1) rfl) (Ym (iV (wa .i64 l 1)) e0 (wN ?_))))))
     obtain rfl := someI m
     exact e8 _ _ _ rfl ⟨_, _, rfl, rfl, f8, f9, g0, rfl, b⟩
    have g2 : ∀ (f : FV) (w : World), f 2 = iV 1 → St w0 ros rs w → .inr () = a6 → a4 .ret (fr 55 f) w := by
     intro f w g3 b ho
     subst ho
     refine a5 _ _ _ (Z _ _ _ (f3 _ _ _ rfl ?_))
     obtain rfl := someI m
     exact X _ _ _ _ rfl rfl (e5 _ _ g3 b (W _ rfl))
    refine loopQ (fun s a w => ∃ (x : Int) (f : FV), x = s ∧ a = fr 55 f ∧ f 1 = (pB i) ∧ f 6 = iV l ∧ f 35 = c.v ∧ f 36 = iV (h.length : Int) ∧ f 37 = iV l ∧ f 42 = u.v ∧ f 43 = iV (a0.length : Int) ∧ f 44 = iV x ∧ St w0 (imm I1 u.v a0 :: ros) (box i 27 [c.v] :: rs) w) f6 ⟨_, _, rfl, rfl, e7, rfl, U, V, t, rfl, rfl, rfl, (b.facts (allC F0 (allT (allT allI))))⟩ ?_
    rintro _ _ w l1 ⟨x, f, rfl, rfl, B, a7, a8, a9, b0, b1, b2, C, b⟩ g b4 l2 g4 b5
    refine sR fun _ g5 => yY (ylss (eh C) (eh b2)) (wK g5 (seqQ fun l3 g6 g7 => ?_))
    rcases iteS g with ⟨D, g⟩ | ⟨D, g⟩
    ·refine cT e0 D (wp_skip (g6 _ _ (seqQ fun l4 g8 g9 => blockQ fun _ b6 => sR fun _ h0 => ?_)))
     obtain ⟨b7, b8, g⟩ := bs g
     refine yY (yIa SL_22 (eh b1) (eh C) b (rdI F0) b8) (yY (yI O_3 e0 b (rdI F0) b8) (Ya (iV b7) e0 (wK h0 (sR fun _ h1 => yY (lbs_ [c.v] ST_27 (eh B) b R0) (Ym (iV b7) e0 (Ym (iV l) (eh a7) ?_))))))
     obtain ⟨l5, h3, g⟩ := bs g
     refine Yc wn rfl (yCall FN_48 (a3 e0 e0 e0)) (graph_joined_ok h3 (mtF n) b) ?_
     rintro _ w ⟨rfl, b⟩
     refine ⟨_, rfl, ?_⟩
     refine yY (ynot e0) (wK h1 ?_)
     rcases iteS g with ⟨E, g⟩ | ⟨E, g⟩
     ·refine condF e0 (nF E) (wp_skip (b6 _ _ _ (g8 _ _ (wR (yY (yadd (eh C) rfl) (Ym (iV (wa .i64 x 1)) e0 (wN ?_)))))))
      obtain rfl := someI g
      exact g4 _ _ _ rfl ⟨_, _, rfl, rfl, B, a7, a8, a9, b0, b1, b2, rfl, b⟩
     ·refine condT e0 (nT (bfalse E)) (sR fun _ h4 => Ya (iV 1) rfl (wK h4 (wp_ret (b6 _ _ _ (g9 _ _ _ rfl ?_)))))
      obtain rfl := someI g
      exact b5 _ _ _ _ rfl rfl (g2 _ _ rfl ((b.pk 1 [] rfl).facts (allT allI)) (b4 _ rfl))
    ·refine cF e0 D (wp_exit (g7 _ _ _ rfl ?_))
     obtain rfl := someI g
     exact b5 _ _ _ _ rfl rfl (f7 _ _ B a8 a9 b0 (b.facts (allT allI)) (b4 _ rfl))
   ·refine cF e0 A (wp_exit (f1 _ _ _ rfl ?_))
    obtain rfl := someI m
    exact X _ _ _ _ rfl rfl (e3 _ _ (b.pk 1 [] rfl) (W _ rfl))
  have h5 : ∀ (f : FV) (w : World), f 2 = iV 1 → St w0 ros rs w → .inr () = N → K .ret (fr 55 f) w := by
   intro f w h6 b ho
   subst ho
   refine L _ _ _ (d4 _ _ _ rfl ?_)
   obtain rfl := someI j
   exact r _ _ _ (fin1r Try.results30 ⟨rfl, h6⟩ ⟨rfl, b⟩)
  refine loopQ (fun s a w => ∃ (o : Int) (f : FV), o = s ∧ a = fr 55 f ∧ f 1 = (pB i) ∧ f 3 = iV (h.length : Int) ∧ f 16 = c.v ∧ f 17 = iV (h.length : Int) ∧ f 18 = iV o ∧ St w0 ros (box i 27 [c.v] :: rs) w) d6 ⟨_, _, rfl, rfl, rfl, rfl, rfl, rfl, rfl, b⟩ ?_
  rintro _ _ w l6 ⟨o, f, rfl, rfl, y, F, G, H, q, b⟩ d b9 l7 h7 c0
  refine sR fun _ h8 => yY (ylss (eh q) (eh H)) (wK h8 (seqQ fun l8 h9 i0 => ?_))
  rcases iteS d with ⟨I, d⟩ | ⟨I, d⟩
  ·refine cT e0 I (wp_skip (h9 _ _ (seqQ fun l9 i1 i2 => blockQ fun _ c1 => sR fun _ i3 => Ym (iV o) (eh q) ?_)))
   obtain ⟨m0, c2, d⟩ := bs d
   refine yY (yIa SL_25 (eh G) (eh q) b (rdI n) c2) ?_
   obtain ⟨c3, b⟩ := iLs b n c2
   refine yY (yCt O_22 e0 b F1 rfl) (Ya (iV o) e0 (Ya c3.v e0 (wK i3 (sR fun _ i4 => Ym c3.v e0 (Ym (iV (h.length : Int)) (eh F) ?_)))))
   obtain ⟨i5, i6, d⟩ := bs d
   refine Yc wn rfl (yCall FN_47 (a2 e0 e0)) (graph_ascending_ok i6 F0 b) ?_
   rintro _ w ⟨rfl, b⟩
   refine ⟨_, rfl, ?_⟩
   refine yY (ynot e0) (Ym (.bool (!i5)) e0 ?_)
   obtain ⟨i7, p, d⟩ := bs d
   refine joinW 5 (fun f w => f 1 = (pB i) ∧ f 3 = iV (h.length : Int) ∧ f 16 = c.v ∧ f 17 = iV (h.length : Int) ∧ f 18 = iV o ∧ f 32 = .bool i7 ∧ St w0 ros (box i 27 [c.v] :: rs) w) (fun c5 => ?_) ?_
   ·rcases iteS p with ⟨k, p⟩ | ⟨k, p⟩
    ·refine yG (nF k) (lbs_ [c.v] ST_27 (eh y) b R0) (yG (nF k) (m_ (iV o) e0) (yG (nF k) (m_ (iV o) e0) ?_))
     obtain ⟨i8, i9, p⟩ := bs p
     refine Yc (wG (nF k)) rfl (yCall FN_48 (a3 e0 e0 e0)) (graph_joined_ok i9 (F_2 n) b) ?_
     rintro _ w ⟨rfl, b⟩
     refine ⟨_, rfl, ?_⟩
     refine yY (pf_ (.bool i8) e0 (nF k) e0) ?_
     obtain rfl := someI p
     exact c5 _ _ ⟨y, F, G, H, q, rfl, (b.facts (allT (allT allI)))⟩
    ·refine gN (nT (bfalse k)) (gN (nT (bfalse k)) (gN (nT (bfalse k)) (gN (nT (bfalse k)) (yY (pt_ (.bool true) e0 (nT (bfalse k)) rfl) ?_))))
     obtain rfl := someI p
     exact c5 _ _ ⟨y, F, G, H, q, rfl, (b.facts (allT (allT allI)))⟩
   rintro f w ⟨j0, j1, j2, j3, j4, c6, b⟩
   refine wK i4 ?_
   rcases iteS d with ⟨J, d⟩ | ⟨J, d⟩
   ·refine condT (eh c6) J (sR fun _ j5 => Ya (iV 1) rfl (wK j5 (wp_ret (c1 _ _ _ (i2 _ _ _ rfl ?_)))))
    obtain rfl := someI d
    exact c0 _ _ _ _ rfl rfl (h5 _ _ rfl (b.pk 1 [] rfl) (b9 _ rfl))
   ·refine condF (eh c6) (bfalse J) (wp_skip (c1 _ _ _ (i1 _ _ (wR (yY (yadd (eh j4) rfl) (Ym (iV (wa .i64 o 1)) e0 (wN ?_)))))))
    obtain rfl := someI d
    exact h7 _ _ _ rfl ⟨_, _, rfl, rfl, j0, j1, j2, j3, rfl, b⟩
  ·refine cF e0 I (wp_exit (i0 _ _ _ rfl ?_))
   obtain rfl := someI d
   exact c0 _ _ _ _ rfl rfl (d7 _ _ y b (b9 _ rfl))
theorem math_bits_Mul64_ok {a b : Int} {out : Int × Int} (c : math_bits_Mul64 a b = some out) (d : St w0 ros rs w) :
  Calls Try.prog 80 #[.int .u64 a, .int .u64 b] w (fun e w => e = .returned (.tuple #[.int .u64 out.1, .int .u64 out.2]) ∧ St w0 ros rs w) := by
 refine enterQ Try.func80 rfl Try.ntmps80 rfl fun Q f => sR fun _ g => Ya (.int .u64 0) rfl (Ya (.int .u64 0) rfl (wK g (sR fun _ h => Ym (.int .u64 a) e0 (yY (yand e0 rfl) (Ya (.int .u64 (wand .u64 a 4294967295)) e0 (wK h ?_))))))
 refine sR fun _ i => Ym (.int .u64 a) e0 (yY (yshrc e0 rfl) (Ya (.int .u64 (wsrc .u64 a 32)) e0 (wK i (sR fun _ j => Ym (.int .u64 b) e0 (yY (yand e0 rfl) (Ya (.int .u64 (wand .u64 b 4294967295)) e0 (wK j ?_)))))))
 refine sR fun _ k => Ym (.int .u64 b) e0 (yY (yshrc e0 rfl) (Ya (.int .u64 (wsrc .u64 b 32)) e0 (wK k (sR fun _ l => Ym (.int .u64 (wand .u64 a 4294967295)) e0 (Ym (.int .u64 (wand .u64 b 4294967295)) e0 (yY (ymul e0 e0) (Ya (.int .u64 (wm .u64 (wand .u64 a 4294967295) (wand .u64 b 4294967295))) e0 (wN ?_))))))))
 refine l _ _ (sR fun _ m => Ym (.int .u64 (wsrc .u64 a 32)) e0 (Ym (.int .u64 (wand .u64 b 4294967295)) e0 (yY (ymul e0 e0) (Ym (.int .u64 (wm .u64 (wand .u64 a 4294967295) (wand .u64 b 4294967295))) e0 (yY (yshrc e0 rfl) (yY (yadd e0 e0) (Ya (.int .u64 (wa .u64 (wm .u64 (wsrc .u64 a 32) (wand .u64 b 4294967295)) (wsrc .u64 (wm .u64 (wand .u64 a 4294967295) (wand .u64 b 4294967295)) 32))) e0 (wK m (sR fun _ n => ?_)))))))))
 refine Ym (.int .u64 (wa .u64 (wm .u64 (wsrc .u64 a 32) (wand .u64 b 4294967295)) (wsrc .u64 (wm .u64 (wand .u64 a 4294967295) (wand .u64 b 4294967295)) 32))) e0 (yY (yand e0 rfl) (Ya (.int .u64 (wand .u64 (wa .u64 (wm .u64 (wsrc .u64 a 32) (wand .u64 b 4294967295)) (wsrc .u64 (wm .u64 (wand .u64 a 4294967295) (wand .u64 b 4294967295)) 32)) 4294967295)) e0 (wK n (sR fun _ o => Ym (.int .u64 (wa .u64 (wm .u64 (wsrc .u64 a 32) (wand .u64 b 4294967295)) (wsrc .u64 (wm .u64 (wand .u64 a 4294967295) (wand .u64 b 4294967295)) 32))) e0 (yY (yshrc e0 rfl) (Ya (.int .u64 (wsrc .u64 (wa .u64 (wm .u64 (wsrc .u64 a 32) (wand .u64 b 4294967295)) (wsrc .u64 (wm .u64 (wand .u64 a 4294967295) (wand .u64 b 4294967295)) 32)) 32)) e0 (wK o (sR fun _ p => ?_))))))))
 refine Ym (.int .u64 (wand .u64 (wa .u64 (wm .u64 (wsrc .u64 a 32) (wand .u64 b 4294967295)) (wsrc .u64 (wm .u64 (wand .u64 a 4294967295) (wand .u64 b 4294967295)) 32)) 4294967295)) e0 (Ym (.int .u64 (wand .u64 a 4294967295)) e0 (Ym (.int .u64 (wsrc .u64 b 32)) e0 (yY (ymul e0 e0) (yY (yadd e0 e0) (Ya (.int .u64 (wa .u64 (wand .u64 (wa .u64 (wm .u64 (wsrc .u64 a 32) (wand .u64 b 4294967295)) (wsrc .u64 (wm .u64 (wand .u64 a 4294967295) (wand .u64 b 4294967295)) 32)) 4294967295) (wm .u64 (wand .u64 a 4294967295) (wsrc .u64 b 32)))) e0 (wK p (sR fun _ q => Ym (.int .u64 (wsrc .u64 a 32)) e0 (Ym (.int .u64 (wsrc .u64 b 32)) e0 (yY (ymul e0 e0) (Ym (.int .u64 (wsrc .u64 (wa .u64 (wm .u64 (wsrc .u64 a 32) (wand .u64 b 4294967295)) (wsrc .u64 (wm .u64 (wand .u64 a 4294967295) (wand .u64 b 4294967295)) 32)) 32)) e0 ?_))))))))))
 refine yY (yadd e0 e0) (Ym (.int .u64 (wa .u64 (wand .u64 (wa .u64 (wm .u64 (wsrc .u64 a 32) (wand .u64 b 4294967295)) (wsrc .u64 (wm .u64 (wand .u64 a 4294967295) (wand .u64 b 4294967295)) 32)) 4294967295) (wm .u64 (wand .u64 a 4294967295) (wsrc .u64 b 32)))) e0 (yY (yshrc e0 rfl) (yY (yadd e0 e0) (Ya (.int .u64 (wa .u64 (wa .u64 (wm .u64 (wsrc .u64 a 32) (wsrc .u64 b 32)) (wsrc .u64 (wa .u64 (wm .u64 (wsrc .u64 a 32) (wand .u64 b 4294967295)) (wsrc .u64 (wm .u64 (wand .u64 a 4294967295) (wand .u64 b 4294967295)) 32)) 32)) (wsrc .u64 (wa .u64 (wand .u64 (wa .u64 (wm .u64 (wsrc .u64 a 32) (wand .u64 b 4294967295)) (wsrc .u64 (wm .u64 (wand .u64 a 4294967295) (wand .u64 b 4294967295)) 32)) 4294967295) (wm .u64 (wand .u64 a 4294967295) (wsrc .u64 b 32))) 32))) e0 (wK q (sR fun _ r => Ym (.int .u64 a) e0 (Ym (.int .u64 b) e0 (yY (ymul e0 e0) (Ya (.int .u64 (wm .u64 a b)) e0 (wN ?_))))))))))
 refine r _ _ (wp_ret ?_)
 obtain rfl := someI c
 exact f _ _ _ (fin2r Try.results80 ⟨rfl, rfl⟩ ⟨rfl, rfl⟩ ⟨rfl, d⟩)
theorem math_bits_Mul_ok {b c : Int} {out : Int × Int} (d : math_bits_Mul b c = some out) (f : St w0 ros rs w) :
  Calls Try.prog 65 #[.int .u64 b, .int .u64 c] w (fun e w => e = .returned (.tuple #[.int .u64 out.1, .int .u64 out.2]) ∧ St w0 ros rs w) := by
 refine enterQ Try.func65 rfl Try.ntmps65 rfl fun Q g => sR fun _ h => Ya (.int .u64 0) rfl (Ya (.int .u64 0) rfl (wK h (sQ fun _ i => condF rfl rfl (wp_skip (i _ _ (sR fun _ j => Ym (.int .u64 b) e0 ?_))))))
 refine Ym (.int .u64 c) e0 ?_
 obtain ⟨a, k, d⟩ := bs d
 refine Yc wn rfl (yCall FN_80 (a2 e0 e0)) (math_bits_Mul64_ok k f) ?_
 rintro _ w ⟨rfl, f⟩
 refine ⟨_, rfl, ?_⟩
 refine Ym (.tuple #[.int .u64 a.1, .int .u64 a.2]) e0 (yY (x_ (.int .u64 a.1) e0) (yY (x_ (.int .u64 a.2) e0) (Ya (.int .u64 a.1) e0 (Ya (.int .u64 a.2) e0 (wK j (sR fun _ l => Ym (.int .u64 a.1) e0 (Ym (.int .u64 a.2) e0 (Ya (.int .u64 a.1) e0 (Ya (.int .u64 a.2) e0 (wN ?_))))))))))
 refine l _ _ (wp_ret ?_)
 obtain rfl := someI d
 exact g _ _ _ (fin2r Try.results65 ⟨rfl, rfl⟩ ⟨rfl, rfl⟩ ⟨rfl, f⟩)
theorem slices_Repeat_int_ok {o : LI} {l : Int} {k : Hdr} {out : LI} (c : slices_Repeat_int o l = some out) (y : imm I1 k.v o ∈ ros) (b : St w0 ros rs w) :
  Calls Try.prog 46 #[k.v, iV l] w (fun e w => ∃ (z : Hdr), e = .returned (z.v) ∧ St w0 ros (row 3 I1 z.v out :: rs) w) := by
 refine enterQ Try.func46 rfl Try.ntmps46 rfl fun Q D => sR fun _ k1 => Ya hnil.v rfl (wK k1 (sQ fun E k2 => sR fun _ F => Ym (iV l) e0 (yY (ylss e0 rfl) (wK F ?_))))
 have G : ∀ (f : FV) (w : World), f 0 = k.v → f 1 = iV l → St w0 ros rs w → slices_Repeat_int_j1 o l = some out → E .normal (fr 48 f) w := by
  intro f w p H b c
  refine k2 _ _ (sR fun _ I => Ym k.v (eh p) (yY (yLen SL_22 e0 b (rdI y)) (yY (ycv (k' := .u64) (by kernel_rfl) (by kernel_rfl) e0) (Ym (iV l) (eh H) (yY (ycv (k' := .u64) (by kernel_rfl) (by kernel_rfl) e0) ?_)))))
  obtain ⟨d, J, c⟩ := bs c
  refine Yc wn rfl (yCall FN_65 (a2 e0 e0)) (math_bits_Mul_ok J b) ?_
  rintro _ w ⟨rfl, b⟩
  refine ⟨_, rfl, ?_⟩
  refine Ym (.tuple #[.int .u64 d.1, .int .u64 d.2]) e0 (yY (x_ (.int .u64 d.1) e0) (yY (x_ (.int .u64 d.2) e0) (Ya (.int .u64 d.1) e0 (Ya (.int .u64 d.2) e0 (wK I (sQ fun K L => sR fun _ N => Ym (.int .u64 d.1) e0 (yY (ygtr e0 rfl) (Ym (.bool (decide ((0 : Int) < d.1))) e0 ?_))))))))
  refine joinW 3 (fun f w => f 0 = k.v ∧ f 6 = .int .u64 d.2 ∧ f 26 = .bool ((decide ((0 : Int) < d.1)) || (decide ((9223372036854775807 : Int) < d.2))) ∧ St w0 ros rs w) (fun A => ?_) ?_
  ·rcases Bool.eq_false_or_eq_true (decide ((0 : Int) < d.1)) with i | i
   ·exact gN i (gN i (yY (pt_ (.bool true) e0 i rfl) (A _ _ ⟨p, rfl, (congrArg Value.bool (orT i)), b⟩)))
   ·exact yG i (m_ (.int .u64 d.2) e0) (yG i (ygtr e0 rfl) (yY (pf_ (.bool (decide ((9223372036854775807 : Int) < d.2))) e0 i e0) (A _ _ ⟨p, rfl, (congrArg Value.bool (orF i)), b⟩)))
  rintro f w ⟨O, R, B, b⟩
  refine wK N ?_
  have S : ∀ (f : FV) (w : World), f 0 = k.v → f 6 = .int .u64 d.2 → St w0 ros rs w → slices_Repeat_int_j3 d o = some out → K .normal (fr 48 f) w := by
   intro f w T U b c
   refine L _ _ (sR fun _ V => Ym (.int .u64 d.2) (eh U) (yY (ycv (k' := .i64) (by kernel_rfl) (by kernel_rfl) e0) ?_))
   obtain ⟨c0, W, c⟩ := bs c
   refine YH wn rfl (rMk b SL_22 e0 W) ?_
   intro g w b
   refine Ya g.v e0 (wK V (sR fun _ X => Ym g.v e0 (Ym k.v (eh T) ?_)))
   obtain ⟨Z, a0, c⟩ := bs c
   refine YV wn rfl (rCp b SL_22 rfl e0 (.inr ⟨rfl, rfl, rfl⟩) e0 (rdI y) a0) ?_
   intro w b
   refine Ya (iV Z.2) e0 (wK X (sQ fun _ a1 => blockQ fun a3 a4 => ?_))
   obtain ⟨a5, a6, c⟩ := bs c
   have a7 : ∀ (q : LI) (f : FV) (w : World), f 7 = g.v → St w0 ros (row 3 I1 g.v q :: rs) w → q = a5 → a3 (.exit 0) (fr 48 f) w := by
    intro q f w a8 b ho
    subst ho
    refine a4 _ _ _ (a1 _ _ (sR fun _ a9 => Ym g.v (eh a8) (Ya g.v e0 (wK a9 (wp_ret ?_)))))
    obtain rfl := someI c
    exact D _ _ _ (fin1r Try.results46 ⟨rfl, rfl⟩ ⟨_, rfl, b⟩)
   refine loopQ (fun s a w => ∃ (r : LI) (j : Int) (f : FV), (r, j) = s ∧ a = fr 48 f ∧ f 7 = g.v ∧ f 8 = iV j ∧ St w0 ros (row 3 I1 g.v r :: rs) w) a6 ⟨_, _, _, rfl, rfl, rfl, rfl, b⟩ ?_
   rintro _ _ w c1 ⟨r, j, f, rfl, rfl, m, n, b⟩ h b0 c2 b1 b2
   refine seqQ fun c3 b3 b4 => sR fun _ b5 => Ym (iV j) (eh n) (Ym g.v (eh m) (yY (yLen SL_22 e0 b rO0) (yY (ylss e0 e0) (wK b5 ?_))))
   rcases iteS h with ⟨t, h⟩ | ⟨t, h⟩
   ·refine cT e0 t (wp_skip (b3 _ _ (blockQ fun _ b6 => ?_)))
    obtain ⟨c4, b7, h⟩ := bs h
    obtain ⟨c5, C, h⟩ := bs h
    obtain ⟨b8, b9, h⟩ := bs h
    refine dR [0, 0, 0, 6, 0, 0, 48, 126, 255, 511] [7, 9] 2 folM ?_
    replace b := b.drew
    refine Dn [0, 1, 2, 3, 4, 5, 6] [] [7] (yR rfl (m_ (iV j) (eh n)) (yR rfl (m_ g.v (eh m)) (yR rfl (m_ (iV j) (eh n)) (yR rfl (ySl (k2 := .i64) SL_22 e0 b rO0 (.inl (congrArg some e0)) (.inr ⟨rfl, rfl⟩) b7) (yR rfl (m_ g.v (eh m)) (yR rfl (m_ (iV j) (eh n)) (yR rfl (ySl (k1 := .i64) SL_22 e0 b rO0 (.inr ⟨rfl, rfl⟩) (.inl (congrArg some e0)) C) (Rn QSn ?_))))))))
    refine Lc1 rfl ?_
    refine LV wn (rCp b SL_22 rfl e0 (.inl rfl) e0 (rdSub rO0 C) b9) ?_
    intro w b
    refine Dn [8] [0] [9] (yR rfl (yadd e0 e0) (Rn (yS rfl (m_ (iV j) (eh n)) QSn) ?_))
    refine Lc1 rfl ?_
    refine Ly wn (a_ (iV (wa .i64 j b8.2)) e0) (Dz [] [] (Rn QSn (b6 _ _ _ ?_)))
    obtain rfl := someI h
    exact b1 _ _ _ rfl ⟨_, _, _, rfl, rfl, m, rfl, b⟩
   ·refine cF e0 t (wp_exit (b4 _ _ _ rfl ?_))
    obtain rfl := someI h
    exact b2 _ _ _ _ rfl rfl (a7 _ _ _ m b (b0 _ rfl))
  rcases iteS c with ⟨u, c⟩ | ⟨u, c⟩
  ·refine condT (eh B) u ?_
   cases c
  ·exact condF (eh B) (bfalse u) (wp_skip (S _ _ O R b c))
 rcases iteS c with ⟨x, c⟩ | ⟨x, c⟩
 ·refine cT e0 x ?_
  cases c
 ·exact cF e0 x (wp_skip (G _ _ rfl rfl b c))
theorem dissect_units_ok {t : L2} {c : Hdr} {out : L2 × LI × L2} (q : dissect_units t = some out) (i : imm S1 c.v t ∈ ros) (b : St w0 ros rs w) :
  Calls Try.prog 49 #[.agg #[c.v]] w (fun e w => ∃ (E F G : Hdr), e = .returned (.agg #[E.v, F.v, G.v]) ∧ St w0 (imm S1 E.v out.1 :: ros) (row 3 I1 F.v out.2.1 :: row 22 S1 G.v out.2.2 :: rs) w) := by
 refine enterQ Try.func49 rfl Try.ntmps49 rfl fun Q S => sR fun _ T => YB wn rfl (r_box (vals := [c.v]) b e0 rfl) ?_
 intro H w b
 refine YB wn rfl (rAl b ZT_29) ?_
 intro o w b
 refine wK T (sQ fun _ U => ?_)
 obtain ⟨u, x, q⟩ := bs q
 refine joinN (n := 31) (fun f w => ∃ (j : Nat) (g : Hdr), f 1 = (pB H) ∧ f 2 = (pB o) ∧ f 3 = (pB j) ∧ St w0 ros (box H 27 [c.v] :: box o 29 [hnil.v, hnil.v, hnil.v] :: row 3 I1 g.v u :: box j 29 [c.v, g.v, hnil.v] :: rs) w) (fun y => ?_) ?_
 ·refine dR [0, 0, 0, 4, 12, 30, 63, 0, 255] [1, 5, 7, 8] 4 folM ?_
  replace b := b.drew
  refine Dn [0, 2, 3, 4] [] [1, 7] (yR rfl (lbs_ [c.v] ST_27 e0 b R1) (yR rfl (yFb FL_27_0 e0) (yR rfl (lb_ c.v O_25 e0 b R1) (yR rfl (yLen SL_25 e0 b (rdI i)) (Rn QSn ?_)))))
  refine Lc rfl ?_ (Lc1 rfl ?_)
  ·refine LH wn (rLt (n := 1) (l := [1]) b SL_22 [iV 1] (bp1 rfl) rfl rfl (mks1 (cs := [iV 1]) rfl mkI mks0)) ?_
   intro V w b
   refine Dn [] [0, 2, 3, 4] [5, 7] (Rn (yS rfl (lbs_ [c.v] ST_27 e0 b R2) (yS rfl (yFb FL_27_0 e0) (yS rfl (lb_ c.v O_25 e0 b R2) (yS rfl (yLen SL_25 e0 b (rdI i)) QSn)))) ?_)
   refine Lc rfl ?_ (Lc1 rfl ?_)
   ·replace b := b.fz
    refine Lk wn (yCall FN_46 (a2 e0 e0)) (slices_Repeat_int_ok x F0 b) ?_
    rintro _ w ⟨d, rfl, b⟩
    refine ⟨_, rfl, ?_⟩
    refine Dn [6] [0] [7] (yR rfl (ybuild (us := [c.v, d.v, hnil.v]) [(0, .agg #[c.v]), (1, d.v)] SO_29 (bp2 e0 e0) rfl) (Rn (yS rfl (lbs_ [c.v] ST_27 e0 b R2) QSn) ?_))
    refine Lc1 rfl ?_
    refine LB wn (rAl b ZT_29) ?_
    intro I w b
    refine Dn [] [0, 6] [8] (Rn (yS rfl (lbs_ [c.v] ST_27 e0 b R3) (yS rfl (ybuild (us := [c.v, d.v, hnil.v]) [(0, .agg #[c.v]), (1, d.v)] SO_29 (bp2 e0 e0) rfl) QSn)) ?_)
    refine Lc1 rfl ?_
    refine LT wn (r_stbn (vals' := [c.v, d.v, hnil.v]) (us := [c.v, d.v, hnil.v]) b ST_29 e0 e0 rfl rfl (one_of rfl) rfl) ?_
    intro w b
    exact Dz [] [] (Rn QSn (y _ _ ⟨_, _, rfl, rfl, rfl, ((b.pk 4 [3, 2, 1, 0] rfl).facts (allT allI))⟩))
   ·refine LB wn (rAl b ZT_29) ?_
    intro I w b
    refine Dn [] [0, 2, 3, 4] [5] (Rn (yS rfl (lbs_ [c.v] ST_27 e0 b R3) (yS rfl (yFb FL_27_0 e0) (yS rfl (lb_ c.v O_25 e0 b R3) (yS rfl (yLen SL_25 e0 b (rdI i)) QSn)))) ?_)
    refine Lc1 rfl ?_
    replace b := b.pk 2 [1, 0] rfl
    replace b := b.fz
    refine Lk wn (yCall FN_46 (a2 e0 e0)) (slices_Repeat_int_ok x F0 b) ?_
    rintro _ w ⟨d, rfl, b⟩
    refine ⟨_, rfl, ?_⟩
    refine Dn [6] [0] [8] (yR rfl (ybuild (us := [c.v, d.v, hnil.v]) [(0, .agg #[c.v]), (1, d.v)] SO_29 (bp2 e0 e0) rfl) (Rn (yS rfl (lbs_ [c.v] ST_27 e0 b R3) QSn) ?_))
    refine Lc1 rfl ?_
    replace b := b.pk 2 [1, 0] rfl
    refine LT wn (r_stbn (vals' := [c.v, d.v, hnil.v]) (us := [c.v, d.v, hnil.v]) b ST_29 e0 e0 rfl rfl (one_of rfl) rfl) ?_
    intro w b
    exact Dz [] [] (Rn QSn (y _ _ ⟨_, _, rfl, rfl, rfl, ((b.pk 4 [3, 2, 1, 0] rfl).facts (allT allI))⟩))
  ·refine LB wn (rAl b ZT_29) ?_
   intro I w b
   refine Dn [] [0, 2, 3, 4] [1] (Rn (yS rfl (lbs_ [c.v] ST_27 e0 b R2) (yS rfl (yFb FL_27_0 e0) (yS rfl (lb_ c.v O_25 e0 b R2) (yS rfl (yLen SL_25 e0 b (rdI i)) QSn)))) ?_)
   refine Lc1 rfl ?_
   refine LH wn (rLt (n := 1) (l := [1]) b SL_22 [iV 1] (bp1 rfl) rfl rfl (mks1 (cs := [iV 1]) rfl mkI mks0)) ?_
   intro V w b
   refine Dn [] [0, 2, 3, 4] [5] (Rn (yS rfl (lbs_ [c.v] ST_27 e0 b R3) (yS rfl (yFb FL_27_0 e0) (yS rfl (lb_ c.v O_25 e0 b R3) (yS rfl (yLen SL_25 e0 b (rdI i)) QSn)))) ?_)
   refine Lc1 rfl ?_
   replace b := b.fz
   refine Lk wn (yCall FN_46 (a2 e0 e0)) (slices_Repeat_int_ok x F0 b) ?_
   rintro _ w ⟨d, rfl, b⟩
   refine ⟨_, rfl, ?_⟩
   refine Dn [6] [0] [8] (yR rfl (ybuild (us := [c.v, d.v, hnil.v]) [(0, .agg #[c.v]), (1, d.v)] SO_29 (bp2 e0 e0) rfl) (Rn (yS rfl (lbs_ [c.v] ST_27 e0 b R3) QSn) ?_))
   refine Lc1 rfl ?_
   replace b := b.pk 2 [1, 0] rfl
   refine LT wn (r_stbn (vals' := [c.v, d.v, hnil.v]) (us := [c.v, d.v, hnil.v]) b ST_29 e0 e0 rfl rfl (one_of rfl) rfl) ?_
   intro w b
   exact Dz [] [] (Rn QSn (y _ _ ⟨_, _, rfl, rfl, rfl, ((b.pk 4 [3, 2, 1, 0] rfl).facts (allT allI))⟩))
 rintro f w ⟨j, g, W, X, Z, b⟩
 refine U _ _ (sQ fun _ a0 => sR fun _ a1 => yY (yFb FL_27_0 (eh W)) (yY (lb_ c.v O_25 e0 b R0) (yY (yLen SL_25 e0 b (rdI i)) (Ym (iV 0) rfl (wK a1 (blockQ fun a3 a4 => ?_))))))
 obtain ⟨a5, a6, q⟩ := bs q
 have a7 : ∀ (z : L2) (p : Hdr) (f : FV) (w : World), f 2 = (pB o) → f 3 = (pB j) → St w0 ros (box o 29 [hnil.v, hnil.v, hnil.v] :: row 3 I1 g.v u :: row 22 S1 p.v z :: box j 29 [c.v, g.v, p.v] :: rs) w → z = a5 → a3 (.exit 0) (fr 31 f) w := by
  intro z p f w J a8 b ho
  subst ho
  refine a4 _ _ _ (a0 _ _ (sR fun _ a9 => yY (lbs_ [c.v, g.v, p.v] ST_29 (eh a8) b R3) (YT wn rfl (r_stbn (vals' := [c.v, g.v, p.v]) (us := [c.v, g.v, p.v]) b ST_29 (eh J) e0 rfl rfl (one_of rfl) rfl) ?_)))
  intro w b
  refine wK a9 (wp_ret ?_)
  obtain rfl := someI q
  exact S _ _ _ (fin1r Try.results49 (rcs2 rfl J b R0 ST_29 rfl) ⟨_, _, _, rfl, ((b.pk 4 [1, 1] rfl).facts (allC i allI))⟩)
 replace b := b.rowNh 22 S1
 refine loopQ (fun s a w => ∃ (A : L2) (r : Int) (f : FV) (k : Hdr), (A, r) = s ∧ a = fr 31 f ∧ f 2 = (pB o) ∧ f 3 = (pB j) ∧ f 14 = c.v ∧ f 15 = iV (t.length : Int) ∧ f 16 = iV r ∧ St w0 ros (box o 29 [hnil.v, hnil.v, hnil.v] :: row 3 I1 g.v u :: row 22 S1 k.v A :: box j 29 [c.v, g.v, k.v] :: rs) w) a6 ⟨_, _, _, _, rfl, rfl, X, Z, rfl, rfl, rfl, (b.pk 5 [2, 2, 0, 1] rfl)⟩ ?_
 rintro _ _ w c7 ⟨A, r, f, k, rfl, rfl, K, m, L, N, B, b⟩ h b0 c8 b1 b2
 refine sR fun _ b5 => yY (ylss (eh B) (eh N)) (wK b5 (seqQ fun c9 b6 b7 => ?_))
 rcases iteS h with ⟨C, h⟩ | ⟨C, h⟩
 ·refine cT e0 C (wp_skip (b6 _ _ (sQ fun _ c0 => blockQ fun _ c1 => sR fun _ c2 => ?_)))
  obtain ⟨d0, O, h⟩ := bs h
  refine yY (yIa SL_25 (eh L) (eh B) b (rdI i) O) ?_
  obtain ⟨D, b⟩ := iLs b i O
  refine yY (yCt O_22 e0 b F1 rfl) (Ya D.v e0 (wK c2 ?_))
  obtain ⟨c3, c4, h⟩ := bs h
  obtain ⟨d1, c5, h⟩ := bs h
  refine dR [0, 1, 0, 0, 8, 28, 60, 127, 255, 511] [2, 5, 6, 7, 9] 5 folM ?_
  replace b := b.drew
  refine Dn [0, 1, 3, 4] [] [2] (yR rfl (yFb FL_29_2 (eh m)) (yR rfl (lb_ k.v O_25 e0 b R3) (yR rfl (m_ D.v e0) (yR rfl (yLen SL_22 e0 b (rdI F0)) (Rn QSn ?_)))))
  refine Lc1 rfl ?_
  refine LH wn (rLt (n := 1) (l := [1]) b SL_22 [iV 1] (bp1 rfl) rfl rfl (mks1 (cs := [iV 1]) rfl mkI mks0)) ?_
  intro d2 w b
  refine Dn [] [0, 1, 3, 4] [5] (Rn (yS rfl (yFb FL_29_2 (eh m)) (yS rfl (lb_ k.v O_25 e0 b R4) (yS rfl (m_ D.v e0) (yS rfl (yLen SL_22 e0 b (rdI F0)) QSn)))) ?_)
  refine Lc1 rfl ?_
  replace b := b.fz
  refine Lk wn (yCall FN_46 (a2 e0 e0)) (slices_Repeat_int_ok c4 F0 b) ?_
  rintro _ w ⟨R, rfl, b⟩
  refine ⟨_, rfl, ?_⟩
  refine Dn [] [0, 1] [6] (Rn (yS rfl (yFb FL_29_2 (eh m)) (yS rfl (lb_ k.v O_25 e0 b R4) QSn)) ?_)
  refine Lc1 rfl ?_
  replace b := b.fz
  refine LH wn (rLt (n := 1) (l := [c3]) b SL_25 [R.v] (bp1 e0) rfl rfl (mks1 (cs := [R.v]) rfl (mkS F0) mks0)) ?_
  intro d3 w b
  refine Dn [] [0, 1] [7] (Rn (yS rfl (yFb FL_29_2 (eh m)) (yS rfl (lb_ k.v O_25 e0 b R4) QSn)) ?_)
  refine Lc1 rfl ?_
  replace b := b.pk 4 [3, 0, 0, 0] rfl
  refine LH wn (rAp b SL_25 e0 e0 rO1 c5) ?_
  intro c6 w b
  refine Dn [8] [] [9] (yR rfl (yFb FL_29_2 (eh m)) (Rn QSn ?_))
  refine Lc1 rfl ?_
  replace b := b.pk 5 [4, 0, 0, 0, 0] rfl
  refine LT wn (r_stb1 (vals' := [c.v, g.v, c6.v]) b O_25 e0 e0 rfl rfl rfl rfl) ?_
  intro w b
  refine Dz [] [] (Rn QSn (c1 _ _ _ (c0 _ _ (wR (yY (yadd (eh B) rfl) (Ym (iV (wa .i64 r 1)) e0 (wN ?_)))))))
  obtain rfl := someI h
  exact b1 _ _ _ rfl ⟨_, _, _, _, rfl, rfl, K, m, L, N, rfl, ((b.pk 5 [3, 3, 1, 0] rfl).facts (allT (allT (allT (allT allI)))))⟩
 ·refine cF e0 C (wp_exit (b7 _ _ _ rfl ?_))
  obtain rfl := someI h
  exact b2 _ _ _ _ rfl rfl (a7 _ _ _ _ K m b (b0 _ rfl))
theorem dissect_total_ok {j : LI} {h : Hdr} {out : Int} (k : dissect_total j = some out) (l : imm I1 h.v j ∈ ros) (b : St w0 ros rs w) :
  Calls Try.prog 68 #[h.v] w (fun e w => e = .returned (iV out) ∧ St w0 ros rs w) := by
 refine enterQ Try.func68 rfl Try.ntmps68 rfl fun Q u => sR fun _ x => Ya (iV 0) rfl (wK x (sR fun _ y => Ya (iV 0) rfl (wK y (sQ fun _ z => sR fun _ A => ?_))))
 refine Ym h.v e0 (yY (yLen SL_22 e0 b (rdI l)) (Ym (iV 0) rfl (wK A (blockQ fun B C => ?_))))
 obtain ⟨D, E, k⟩ := bs k
 have F : ∀ (d : Int) (f : FV) (w : World), f 3 = iV d → St w0 ros rs w → d = D → B (.exit 0) (fr 17 f) w := by
  intro d f w G b ho
  subst ho
  refine C _ _ _ (z _ _ (sR fun _ H => Ym (iV d) (eh G) (Ya (iV d) e0 (wK H (wp_ret ?_)))))
  obtain rfl := someI k
  exact u _ _ _ (fin1r Try.results68 ⟨rfl, rfl⟩ ⟨rfl, b⟩)
 refine loopQ (fun s a w => ∃ (g i : Int) (f : FV), (g, i) = s ∧ a = fr 17 f ∧ f 3 = iV g ∧ f 6 = h.v ∧ f 7 = iV (j.length : Int) ∧ f 8 = iV i ∧ St w0 ros rs w) E ⟨_, _, _, rfl, rfl, rfl, rfl, rfl, rfl, b⟩ ?_
 rintro _ _ w U ⟨g, i, f, rfl, rfl, p, q, r, m, b⟩ c I V J K
 refine sR fun _ L => yY (ylss (eh m) (eh r)) (wK L (seqQ fun W N O => ?_))
 rcases iteS c with ⟨n, c⟩ | ⟨n, c⟩
 ·refine cT e0 n (wp_skip (N _ _ (sQ fun _ R => blockQ fun _ S => sR fun _ T => ?_)))
  obtain ⟨o, t, c⟩ := bs c
  refine yY (yIa SL_22 (eh q) (eh m) b (rdI l) t) (yY (yI O_3 e0 b (rdI l) t) (Ya (iV o) e0 (wK T (wR (Ym (iV g) (eh p) (Ym (iV o) e0 (yY (yadd e0 e0) (Ya (iV (wa .i64 g o)) e0 (wN (S _ _ _ (R _ _ (wR ?_))))))))))))
  refine yY (yadd (eh m) rfl) (Ym (iV (wa .i64 i 1)) e0 (wN ?_))
  obtain rfl := someI c
  exact J _ _ _ rfl ⟨_, _, _, rfl, rfl, rfl, q, r, rfl, b⟩
 ·refine cF e0 n (wp_exit (O _ _ _ rfl ?_))
  obtain rfl := someI c
  exact K _ _ _ _ rfl rfl (F _ _ _ p b (I _ rfl))
theorem graph_levels_ok {b8 : L2} {q : Int} {j : Hdr} {out : L2} (p : graph_levels b8 q = some out) (G : imm S1 j.v b8 ∈ ros) (b : St w0 ros rs w) :
  Calls Try.prog 84 #[.agg #[j.v], iV q] w (fun e w => ∃ (b9 : Hdr), e = .returned (b9.v) ∧ St w0 ros (row 22 S1 b9.v out :: rs) w) := by
 refine enterQ Try.func84 rfl Try.ntmps84 rfl fun Q d5 => sR fun _ d6 => YB wn rfl (r_box (vals := [j.v]) b e0 rfl) ?_
 intro h w b
 refine Ya hnil.v rfl (wK d6 (sR fun _ d7 => yY (yFb FL_27_0 e0) (yY (lb_ j.v O_25 e0 b R0) (yY (yLen SL_25 e0 b (rdI G)) ?_))))
 obtain ⟨n2, d8, p⟩ := bs p
 refine YH wn rfl (rMk b SL_67 e0 d8) ?_
 intro d w b
 refine Ya d.v e0 (wK d7 (sR fun _ d9 => Ym d.v e0 (Ym (iV q) e0 ?_)))
 obtain ⟨n3, c0, p⟩ := bs p
 refine yY (yIs SL_67 e0 e0 b rO0 c0) (YT wn rfl (r_sti (cs := [.bool true]) b O_4 rfl e0 rfl rfl mkB c0) ?_)
 intro w b
 refine wK d9 (sR fun _ e1 => Ya hnil.v rfl (wK e1 (sQ fun _ e2 => sR fun _ e3 => Ym (iV q) e0 (YH wn rfl (rLt (n := 1) (l := [q]) b SL_22 [iV q] (bp1 e0) rfl rfl (mks1 (cs := [iV q]) rfl mkI mks0)) ?_))))
 intro e4 w b
 refine Ya e4.v e0 (wK e3 (blockQ fun e5 e6 => ?_))
 obtain ⟨e7, e8, p⟩ := bs p
 have e9 : ∀ (H : L2) (y : Hdr) (f : FV) (w : World), f 6 = y.v → St w0 ros (row 22 S1 y.v H :: rs) w → H = e7 → e5 (.exit 0) (fr 63 f) w := by
  intro H y f w f0 b ho
  subst ho
  refine e6 _ _ _ (e2 _ _ (sR fun _ f1 => Ym y.v (eh f0) (Ya y.v e0 (wK f1 (wp_ret ?_)))))
  obtain rfl := someI p
  exact d5 _ _ _ (fin1r Try.results84 ⟨rfl, rfl⟩ ⟨_, rfl, b⟩)
 replace b := b.rowNh 22 S1
 refine loopQ (fun s a w => ∃ (I : List Bool) (J : L2) (i : LI) (f : FV) (B g : Hdr), (I, J, i) = s ∧ a = fr 63 f ∧ f 2 = (pB h) ∧ f 5 = d.v ∧ f 6 = B.v ∧ f 7 = g.v ∧ St w0 ros (box h 27 [j.v] :: row 4 rB d.v I :: row 22 S1 B.v J :: row 3 I1 g.v i :: rs) w) e8 ⟨_, _, _, _, _, _, rfl, rfl, rfl, rfl, rfl, rfl, (b.pk 4 [3, 2, 0, 0] rfl)⟩ ?_
 rintro _ _ w n4 ⟨I, J, i, f, B, g, rfl, rfl, f2, f3, c1, K, b⟩ k f4 n5 f5 f6
 refine seqQ fun n6 f7 f8 => sR fun _ f9 => Ym g.v (eh K) (yY (yLen SL_22 e0 b rO3) (yY (ygtr e0 rfl) (wK f9 ?_)))
 rcases iteS k with ⟨L, k⟩ | ⟨L, k⟩
 ·refine cT e0 L (wp_skip (f7 _ _ (blockQ fun _ g0 => sR fun _ g1 => Ym B.v (eh c1) (Ym g.v (eh K) ?_))))
  replace b := b.pk 4 [3, 0, 0, 0] rfl
  replace b := b.fz
  refine YH wn rfl (rLt (n := 1) (l := [i]) b SL_25 [g.v] (bp1 e0) rfl rfl (mks1 (cs := [g.v]) rfl (mkS F0) mks0)) ?_
  intro n7 w b
  obtain ⟨z, g2, k⟩ := bs k
  replace b := b.pk 4 [3, 0, 0, 0] rfl
  refine YH wn rfl (rAp b SL_25 e0 e0 rO1 g2) ?_
  intro m w b
  refine Ya m.v e0 (wK g1 (sR fun _ g3 => Ya hnil.v rfl (wK g3 (sQ fun _ g4 => sR fun _ g5 => Ym g.v (eh K) (yY (yLen SL_22 e0 b (rdI F0)) (Ym (iV 0) rfl ?_))))))
  refine wK g5 (blockQ fun g6 g7 => ?_)
  obtain ⟨g8, g9, k⟩ := bs k
  have h0 : ∀ (N : List Bool) (O : LI) (u : Hdr) (f : FV) (w : World), f 2 = (pB h) → f 5 = d.v → f 6 = m.v → f 8 = u.v → St w0 ros (box h 27 [j.v] :: row 4 rB d.v N :: row 22 S1 m.v z :: row 3 I1 u.v O :: rs) w → (N, O) = g8 → g6 (.exit 2) (fr 63 f) w := by
   intro N O u f w h1 h3 h4 c2 b ho
   subst ho
   refine g7 _ _ _ (g4 _ _ (sR fun _ h6 => Ym u.v (eh c2) ?_))
   obtain ⟨n8, h7, k⟩ := bs k
   replace b := b.pk 4 [3, 0, 0, 0] rfl
   refine Yc wn rfl (yCall FN_85 (a1 e0)) (sortI_ok h7 b) ?_
   rintro _ w ⟨rfl, b⟩
   refine ⟨_, rfl, ?_⟩
   refine wK h6 (wR (Ym u.v (eh c2) (Ya u.v e0 (wN (g0 _ _ _ ?_)))))
   obtain rfl := someI k
   exact f5 _ _ _ rfl ⟨_, _, _, _, _, _, rfl, rfl, h1, h3, h4, rfl, (b.pk 4 [1, 1, 1, 0] rfl)⟩
  replace b := b.rowNh 3 I1
  refine loopQ (fun s a w => ∃ (R : List Bool) (S : LI) (r : Int) (f : FV) (T : Hdr), (R, S, r) = s ∧ a = fr 63 f ∧ f 2 = (pB h) ∧ f 5 = d.v ∧ f 6 = m.v ∧ f 8 = T.v ∧ f 29 = g.v ∧ f 30 = iV (i.length : Int) ∧ f 31 = iV r ∧ St w0 (imm I1 g.v i :: ros) (box h 27 [j.v] :: row 4 rB d.v R :: row 22 S1 m.v z :: row 3 I1 T.v S :: rs) w) g9 ⟨_, _, _, _, _, rfl, rfl, f2, f3, rfl, rfl, rfl, rfl, rfl, (b.pk 5 [3, 3, 1, 0] rfl)⟩ ?_
  rintro _ _ w n9 ⟨R, S, r, f, T, rfl, rfl, U, c3, c4, c5, c6, c7, V, b⟩ o h8 o0 i0 i1
  refine sR fun _ i2 => yY (ylss (eh V) (eh c7)) (wK i2 (seqQ fun o1 i3 i4 => ?_))
  rcases iteS o with ⟨W, o⟩ | ⟨W, o⟩
  ·refine cT e0 W (wp_skip (i3 _ _ (sQ fun _ i5 => blockQ fun _ i6 => sR fun _ i7 => ?_)))
   obtain ⟨c8, c9, o⟩ := bs o
   refine yY (yIa SL_22 (eh c6) (eh V) b (rdI F0) c9) (yY (yI O_3 e0 b (rdI F0) c9) (Ya (iV c8) e0 (wK i7 (sR fun _ i8 => yY (yFb FL_27_0 (eh U)) (yY (lb_ j.v O_25 e0 b R0) (Ym (iV c8) e0 ?_))))))
   obtain ⟨C, d0, o⟩ := bs o
   refine yY (yIa SL_25 e0 e0 b (rdI (mtF G)) d0) ?_
   obtain ⟨D, b⟩ := iLs b (mtF G) d0
   refine yY (yCt O_22 e0 b F1 rfl) (yY (yLen SL_22 e0 b (rdI F0)) (Ym (iV 0) rfl (wK i8 (blockQ fun i9 j0 => ?_))))
   obtain ⟨j1, j2, o⟩ := bs o
   have j3 : ∀ (X : List Bool) (Z : LI) (a0 : Hdr) (f : FV) (w : World), f 2 = (pB h) → f 5 = d.v → f 6 = m.v → f 8 = a0.v → f 29 = g.v → f 30 = iV (i.length : Int) → f 31 = iV r → St w0 (imm I1 g.v i :: ros) (box h 27 [j.v] :: row 4 rB d.v X :: row 22 S1 m.v z :: row 3 I1 a0.v Z :: rs) w → (X, Z) = j1 → i9 (.exit 4) (fr 63 f) w := by
    intro X Z a0 f w j4 j5 j6 j7 j8 j9 k0 b ho
    subst ho
    refine j0 _ _ _ (i6 _ _ _ (i5 _ _ (wR (yY (yadd (eh k0) rfl) (Ym (iV (wa .i64 r 1)) e0 (wN ?_))))))
    obtain rfl := someI o
    exact i0 _ _ _ rfl ⟨_, _, _, _, _, rfl, rfl, j4, j5, j6, j7, j8, j9, rfl, b⟩
   refine loopQ (fun s a w => ∃ (a2 : List Bool) (a3 : LI) (x : Int) (f : FV) (E : Hdr), (a2, a3, x) = s ∧ a = fr 63 f ∧ f 2 = (pB h) ∧ f 5 = d.v ∧ f 6 = m.v ∧ f 8 = E.v ∧ f 29 = g.v ∧ f 30 = iV (i.length : Int) ∧ f 31 = iV r ∧ f 39 = D.v ∧ f 40 = iV (C.length : Int) ∧ f 41 = iV x ∧ St w0 (imm I1 g.v i :: imm I1 D.v C :: ros) (box h 27 [j.v] :: row 4 rB d.v a2 :: row 22 S1 m.v z :: row 3 I1 E.v a3 :: rs) w) j2 ⟨_, _, _, _, _, rfl, rfl, U, c3, c4, c5, c6, c7, V, rfl, rfl, rfl, (b.facts (allC F2 (allC F0 (allT (allT (allT allI))))))⟩ ?_
   rintro _ _ w k7 ⟨a2, a3, x, f, E, rfl, rfl, a4, A, a5, a6, a7, a8, a9, b0, b1, F, b⟩ c k8 o2 k9 l0
   refine sR fun _ l1 => yY (ylss (eh F) (eh b1)) (wK l1 (seqQ fun o3 l2 l3 => ?_))
   rcases iteS c with ⟨b2, c⟩ | ⟨b2, c⟩
   ·refine cT e0 b2 (wp_skip (l2 _ _ (sQ fun _ l4 => blockQ fun l5 l6 => sR fun _ l7 => ?_)))
    obtain ⟨t, d1, c⟩ := bs c
    refine yY (yIa SL_22 (eh b0) (eh F) b (rdI F1) d1) (yY (yI O_3 e0 b (rdI F1) d1) (Ya (iV t) e0 (wK l7 (sR fun _ l8 => Ym d.v (eh A) (Ym (iV t) e0 ?_)))))
    obtain ⟨o4, d2, c⟩ := bs c
    refine yY (yIa SL_67 e0 e0 b rO1 d2) (yY (yB O_4 e0 b rO1 d2) (yY (ynot e0) (wK l8 ?_)))
    have d3 : ∀ (b3 : List Bool) (b5 : LI) (b6 : Hdr) (f : FV) (w : World), f 2 = (pB h) → f 5 = d.v → f 6 = m.v → f 8 = b6.v → f 29 = g.v → f 30 = iV (i.length : Int) → f 31 = iV r → f 39 = D.v → f 40 = iV (C.length : Int) → f 41 = iV x → St w0 (imm I1 g.v i :: imm I1 D.v C :: ros) (box h 27 [j.v] :: row 4 rB d.v b3 :: row 22 S1 m.v z :: row 3 I1 b6.v b5 :: rs) w → graph_levels_j40 x b3 b5 = some k7 → l5 .normal (fr 63 f) w := by
     intro b3 b5 b6 f w l9 m0 m1 m2 m3 m4 m5 m6 m7 m8 b p
     refine l6 _ _ _ (l4 _ _ (wR (yY (yadd (eh m8) rfl) (Ym (iV (wa .i64 x 1)) e0 (wN ?_)))))
     obtain rfl := someI p
     exact k9 _ _ _ rfl ⟨_, _, _, _, _, rfl, rfl, l9, m0, m1, m2, m3, m4, m5, m6, m7, rfl, b⟩
    rcases iteS c with ⟨b7, c⟩ | ⟨b7, c⟩
    ·exact condF e0 (nF b7) (wp_skip (d3 _ _ _ _ _ a4 A a5 a6 a7 a8 a9 b0 b1 F b c))
    ·refine condT e0 (nT (bfalse b7)) (sR fun _ m9 => Ym d.v (eh A) (Ym (iV t) e0 ?_))
     obtain ⟨o5, d4, c⟩ := bs c
     refine yY (yIs SL_67 e0 e0 b rO1 d4) ?_
     replace b := b.pk 2 [1, 0] rfl
     refine YT wn rfl (r_sti (cs := [.bool true]) b O_4 rfl e0 rfl rfl mkB d4) ?_
     intro w b
     refine wK m9 (wR (Ym E.v (eh a6) (Ym (iV t) e0 (YH wn rfl (rLt (n := 1) (l := [t]) b SL_22 [iV t] (bp1 e0) rfl rfl (mks1 (cs := [iV t]) rfl mkI mks0)) ?_))))
     intro o6 w b
     obtain ⟨o7, n0, c⟩ := bs c
     replace b := b.pk 5 [4, 0, 0, 0, 0] rfl
     refine YH wn rfl (rAp b SL_22 e0 e0 rO1 n0) ?_
     intro n1 w b
     exact Ya n1.v e0 (wN (d3 _ _ _ _ _ a4 A a5 rfl a7 a8 a9 b0 b1 F (b.pk 5 [3, 2, 2, 0] rfl) c))
   ·refine cF e0 b2 (wp_exit (l3 _ _ _ rfl ?_))
    obtain rfl := someI c
    exact l0 _ _ _ _ rfl rfl (j3 _ _ _ _ _ a4 A a5 a6 a7 a8 a9 (b.facts (allC F0 (allT (allT allI)))) (k8 _ rfl))
  ·refine cF e0 W (wp_exit (i4 _ _ _ rfl ?_))
   obtain rfl := someI o
   exact i1 _ _ _ _ rfl rfl (h0 _ _ _ _ _ U c3 c4 c5 (b.facts (allT allI)) (h8 _ rfl))
 ·refine cF e0 L (wp_exit (f8 _ _ _ rfl ?_))
  obtain rfl := someI k
  exact f6 _ _ _ _ rfl rfl (e9 _ _ _ _ c1 (b.pk 4 [2] rfl) (f4 _ rfl))
theorem slices_Grow_int_ok {c : Int} {out : LI} (a : slices_Grow_int c = some out) (b : St w0 ros rs w) :
  Calls Try.prog 86 #[hnil.v, iV c] w (fun e w => ∃ (k : Hdr), e = .returned (k.v) ∧ St w0 ros (row 3 I1 k.v out :: rs) w) := by
 refine enterQ Try.func86 rfl Try.ntmps86 rfl fun Q n => sR fun _ k1 => Ya hnil.v rfl (wK k1 (sQ fun o p => sR fun _ q => Ym (iV c) e0 (yY (ylss e0 rfl) (wK q ?_))))
 have r : ∀ (f : FV) (w : World), f 0 = hnil.v → f 1 = iV c → St w0 ros rs w → slices_Grow_int_j1 c = some out → o .normal (fr 27 f) w := by
  intro f w d s b a
  refine p _ _ (sQ fun t u => sR fun _ x => Ym (iV c) (eh s) (Ym hnil.v (eh d) (yY (yCapN (by kernel_rfl : Try.prog.underlying 22 = some (.slice 3)) e0) (Ym hnil.v (eh d) (yY (yLen SL_22 e0 b rdN) (yY (ysub e0 e0) (yY (ysub e0 e0) (Ya (iV (ws .i64 c (ws .i64 0 0))) e0 (wK x ?_)))))))))
  refine sR fun _ y => Ym (iV (ws .i64 c (ws .i64 0 0))) e0 (yY (ygtr e0 rfl) (wK y ?_))
  have l : ∀ (h : LI) (g : Hdr) (f : FV) (w : World), f 0 = g.v → St w0 ros (row 3 I1 g.v h :: rs) w → slices_Grow_int_j2 h = some out → t .normal (fr 27 f) w := by
   intro h g f w z b a
   refine u _ _ (sR fun _ A => Ym g.v (eh z) (Ya g.v e0 (wK A (wp_ret ?_))))
   obtain rfl := someI a
   exact n _ _ _ (fin1r Try.results86 ⟨rfl, rfl⟩ ⟨_, rfl, b⟩)
  rcases iteS a with ⟨i, a⟩ | ⟨i, a⟩
  ·refine cT e0 i (wR (Ym hnil.v (eh d) (Ym hnil.v (eh d) (yY (yCapN (by kernel_rfl : Try.prog.underlying 22 = some (.slice 3)) e0) (yY (ySlN SL_22 e0 e0) (Ym (iV (ws .i64 c (ws .i64 0 0))) e0 ?_))))))
   obtain ⟨D, B, a⟩ := bs a
   refine YH wn rfl (rZn b SL_22 (by kernel_rfl : Try.prog.underlying 3 = some (.int .i64)) e0 e0 B) ?_
   intro E w b
   refine Ym hnil.v (eh d) (yY (yLen SL_22 e0 b rdN) ?_)
   obtain ⟨F, m, a⟩ := bs a
   refine yY (ySl (k1 := .i64) (hi := (0 : Int)) SL_22 e0 b rO0 (.inr ⟨rfl, rfl⟩) (.inl (congrArg some e0)) m) ?_
   obtain ⟨C, eh12, b⟩ := b.resl m
   rw [← eh12]
   exact Ya C.v e0 (wN (l _ _ _ _ rfl b a))
  ·refine cF e0 i (wp_skip ?_)
   replace b := b.rowNh 3 I1
   exact l _ _ _ _ d b a
 rcases iteS a with ⟨j, a⟩ | ⟨j, a⟩
 ·refine cT e0 j ?_
  cases a
 ·exact cF e0 j (wp_skip (r _ _ rfl rfl b a))
end Go.Proofs.Ythpeajepbffinaa
