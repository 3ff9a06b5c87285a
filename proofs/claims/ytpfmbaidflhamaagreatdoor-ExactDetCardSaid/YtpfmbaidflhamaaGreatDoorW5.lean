/- Walks: each function computes its model, printed. -/
import Derived.Test.YtpfmbaidflhamaaGreatDoorW4
namespace Go.Proofs.YtpfmbaidflhamaaGreatDoor
open Go Sx M
set_option maxRecDepth 100000
set_option maxHeartbeats 40000000
set_option linter.unusedVariables false
attribute [local irreducible] wpList Code.wp Calls DR QR QS LA LS St
variable {w0 : World} {ros : List Fact} {rs : List Res} {w : World}
theorem exact_Bound_ok {p : List (List (Bool × LI))} {k : Hdr} {out : Bool × LI × Int} (c : exact_Bound p = some out) (z : imm (rS (rP rB (rS (rI .u32)))) k.v p ∈ ros) (b : St w0 ros rs w) :
  Calls Tryz.prog 37 #[k.v] w (fun e w => ∃ (O : Hdr), e = .returned (.tuple #[.agg #[.bool out.1, O.v], iV out.2.2]) ∧ St w0 (imm (rI .u32) O.v out.2.1 :: ros) rs w) := by
 refine enterQ Tryz.func37 rfl Tryz.ntmps37 rfl fun Q R => sR fun _ b7 => yBb (rAl b ZT_31) fun h w b => Ya (iV 0) rfl (wK b7 (sR fun _ b9 => Ym k.v e0 (bE c fun A c0 c => yC (yCall FN_64 (a1 e0)) (exact_check_ok c0 z b) ?_)))
 rintro _ w ⟨rfl, b⟩
 refine ⟨_, rfl, ?_⟩
 refine Ya (iV A) e0 (wK b9 (seqQ fun h5 c1 c2 => sR fun _ c3 => Ym (iV A) e0 (yY (yneq e0 rfl) (wK c3 ?_))))
 rcases iteS c with ⟨G, c⟩ | ⟨G, c⟩
 ·refine condF e0 (nF (dT G)) (wp_skip (c1 _ _ (sR fun _ c4 => bE c fun S c6 c => yC (yCall FN_82 (a1 rfl)) (integer_FromInt_ok c6 b) ?_)))
  rintro _ w ⟨T, rfl, b⟩
  refine ⟨_, rfl, ?_⟩
  refine yBb (rAl b ZT_31) fun i w b => yT (r_stbn (vals' := [.bool S.1, T.v]) (us := [.bool S.1, T.v]) b ST_31 e0 e0 rfl rfl (one_of rfl) rfl) fun w b => wK c4 (sQ fun _ c7 => sR fun _ c8 => Ym k.v e0 (yY (yLen SL_22 e0 b (rdI (mtF z))) (Ym (iV 0) rfl (wK c8 ?_))))
  refine blockQ fun c9 d0 => bE c fun d1 d2 c => ?_
  have d3 : ∀ (l : Bool) (H : LI) (m : Hdr) (f : FV) w, f 2 = (pB h) → f 5 = (pB i) → St w0 (imm (rI .u32) m.v H :: ros) (box h 31 [.bool false, hnil.v] :: box i 31 [.bool l, m.v] :: rs) w → (l, H) = d1 → c9 (.exit 0) (fr 41 f) w := by
   intro l H m f w U d4 b ho
   subst ho
   refine d0 _ _ _ (c7 _ _ (sR fun _ d5 => yY (lbs_ [.bool l, m.v] ST_31 (eh d4) b R1) (yT (r_stbn (vals' := [.bool l, m.v]) (us := [.bool l, m.v]) b ST_31 (eh U) e0 rfl rfl (one_of rfl) rfl) fun w b => Ya (iV 0) rfl (wK d5 (wp_ret ?_)))))
   cases c
   exact R _ _ _ (fin2r Tryz.results37 (rcs2 rfl U b R0 ST_31 rfl) ⟨rfl, rfl⟩ ⟨_, rfl, (b.k14)⟩)
  refine loopQ (fun s a w => ∃ (n : Bool) (q : LI) (o : Int) (f : FV) (j : Hdr), (n, q, o) = s ∧ a = fr 41 f ∧ f 2 = (pB h) ∧ f 5 = (pB i) ∧ f 18 = k.v ∧ f 19 = iV (p.length : Int) ∧ f 20 = iV o ∧ St w0 (imm (rI .u32) j.v q :: ros) (box h 31 [.bool false, hnil.v] :: box i 31 [.bool n, j.v] :: rs) w) d2 ⟨_, _, _, _, _, rfl, rfl, rfl, rfl, rfl, rfl, rfl, (b.k10)⟩ ?_
  rintro _ _ w h6 ⟨n, q, o, f, j, rfl, rfl, V, W, X, Z, I, b⟩ d d6 h8 d7 d8
  refine sR fun _ d9 => yY (ylss (eh I) (eh Z)) (wK d9 (seqQ fun h9 e1 e2 => ?_))
  refine cIf e0 d (fun e3 d => ?_) fun e3 d => ?_
  ·refine wp_skip (e1 _ _ (sQ fun _ e4 => blockQ fun _ e5 => sR fun _ e6 => bE d fun a0 a3 d => yY (yIa SL_22 (eh X) (eh I) b (rdI (mtF z)) a3) ?_))
   obtain ⟨B, b⟩ := iLs b (mtF z) a3
   refine yY (yCt O_32 e0 b F1 rfl) (Ya B.v e0 (wK e6 (sR fun _ e7 => yBb (rAl b ZT_31) fun C w b => wK e7 (sQ fun _ e8 => sR fun _ e9 => Ym B.v e0 ?_))))
   refine yY (yLen SL_32 e0 b (rdI F0)) (Ym (iV 0) rfl (wK e9 (blockQ fun f0 f1 => bE d fun f2 f3 d => ?_)))
   have f4 : ∀ (D : Bool) (J : LI) (E : Hdr) (f : FV) w, f 2 = (pB h) → f 5 = (pB i) → f 8 = (pB C) → f 18 = k.v → f 19 = iV (p.length : Int) → f 20 = iV o → St w0 (imm (rI .u32) j.v q :: imm (rI .u32) E.v J :: ros) (box h 31 [.bool false, hnil.v] :: box i 31 [.bool n, j.v] :: box C 31 [.bool D, E.v] :: rs) w → (D, J) = f2 → f0 (.exit 2) (fr 41 f) w := by
    intro D J E f w f5 K f6 f7 f8 f9 b ho
    subst ho
    refine f1 _ _ _ (e8 _ _ (wR (yY (lbs_ [.bool n, j.v] ST_31 (eh K) b R1) (yY (lbs_ [.bool D, E.v] ST_31 (eh f6) b R2) (bE d fun a4 g0 d => yC (yCall FN_32 (a2 e0 e0)) (integer_Mul_ok g0 F0 F1 b) ?_)))))
    rintro _ w ⟨a5, rfl, b⟩
    refine ⟨_, rfl, ?_⟩
    refine yT (r_stbn (vals' := [.bool a4.1, a5.v]) (us := [.bool a4.1, a5.v]) (b.k10) ST_31 (eh K) e0 rfl rfl (one_of rfl) rfl) fun w b => wN (e5 _ _ _ (e4 _ _ (wR (yY (yadd (eh f9) rfl) (Ym (iV (wa .i64 o 1)) e0 (wN ?_))))))
    cases d
    exact d7 _ _ _ rfl ⟨_, _, _, _, _, rfl, rfl, f5, K, f7, f8, rfl, ((b.k16).facts (allC F0 (allT (allT (allT allI)))))⟩
   replace b := b.immNh (rI .u32)
   refine loopQ (fun s a w => ∃ (r : Bool) (L : LI) (F : Int) (f : FV) (t : Hdr), (r, L, F) = s ∧ a = fr 41 f ∧ f 2 = (pB h) ∧ f 5 = (pB i) ∧ f 8 = (pB C) ∧ f 18 = k.v ∧ f 19 = iV (p.length : Int) ∧ f 20 = iV o ∧ f 24 = B.v ∧ f 25 = iV (a0.length : Int) ∧ f 26 = iV F ∧ St w0 (imm (rI .u32) j.v q :: imm (rI .u32) t.v L :: imm (rP rB (rS (rI .u32))) B.v a0 :: ros) (box h 31 [.bool false, hnil.v] :: box i 31 [.bool n, j.v] :: box C 31 [.bool r, t.v] :: rs) w) f3 ⟨_, _, _, _, _, rfl, rfl, V, W, rfl, X, Z, I, rfl, rfl, rfl, ((b.k19).facts (allC F3 (allC F0 (allC F1 (allT (allT (allT (allT allI))))))))⟩ ?_
   rintro _ _ w i0 ⟨r, L, F, f, t, rfl, rfl, a6, a7, u, a8, a9, b0, b1, b2, N, b⟩ g g1 i1 g2 g3
   refine sR fun _ g4 => yY (ylss (eh N) (eh b2)) (wK g4 (seqQ fun i2 g5 g6 => ?_))
   refine cIf e0 g (fun g7 g => ?_) fun g7 g => ?_
   ·refine wp_skip (g5 _ _ (sQ fun _ g8 => blockQ fun _ g9 => sR fun _ h0 => bE g fun x b4 g => yY (yIa SL_32 (eh b1) (eh N) b (rdI F2) b4) ?_))
    obtain ⟨i3, i4, b⟩ := iLd b F2 b4
    obtain ⟨i5, i6, rfl, b⟩ := b.eltP
    obtain ⟨rfl, b⟩ := b.eltB
    obtain ⟨y, rfl, b⟩ := b.eltS
    refine yY (yCtn (cs := [.bool x.1, y.v]) ST_31 rfl e0 b F1) (yBb (rAl b ZT_31) fun i7 w b => yT (r_stbn (vals' := [.bool x.1, y.v]) (us := [.bool x.1, y.v]) b ST_31 e0 e0 rfl rfl (one_of rfl) rfl) fun w b => wK h0 (bE g fun i8 h1 g => bE g fun b5 h3 g => dR [0, 0, 0, 6, 15, 31] [3, 4, 5] 3 folM ?_))
    replace b := b.drew
    refine Dn [0, 1, 2] [] [3] (yR rfl (lbs_ [.bool r, t.v] ST_31 (eh u) b R3) (yR rfl (lbs_ [.bool x.1, y.v] ST_31 e0 b R0) (yR rfl (lbs_ [.bool x.1, y.v] ST_31 e0 b R0) (Rn QSn ?_))))
    refine Lc1 rfl ?_
    refine Lk wn (yCall FN_32 (a2 e0 e0)) (integer_Mul_ok h1 F0 F0 b) ?_
    rintro _ w ⟨i9, rfl, b⟩
    refine ⟨_, rfl, ?_⟩
    refine Dn [] [0] [4] (Rn (yS rfl (lbs_ [.bool r, t.v] ST_31 (eh u) b R3) QSn) ?_)
    refine Lc1 rfl ?_
    refine Lk wn (yCall FN_75 (a2 e0 e0)) (integer_Add_ok h3 F4 F0 b) ?_
    rintro _ w ⟨b6, rfl, b⟩
    refine ⟨_, rfl, ?_⟩
    refine Dn [] [] [5] (Rn QSn ?_)
    refine Lc1 rfl ?_
    replace b := b.k17
    refine LT wn (r_stbn (vals' := [.bool b5.1, b6.v]) (us := [.bool b5.1, b6.v]) b ST_31 (eh u) e0 rfl rfl (one_of rfl) rfl) fun w b => Dz [] [] (Rn QSn (g9 _ _ _ (g8 _ _ (wR (yY (yadd (eh N) rfl) (Ym (iV (wa .i64 F 1)) e0 (wN ?_)))))))
    cases g
    exact g2 _ _ _ rfl ⟨_, _, _, _, _, rfl, rfl, a6, a7, u, a8, a9, b0, b1, b2, rfl, ((b.k18).facts (allC F4 (allC F0 (allC F6 (allT (allT (allT (allT (allT (allT (allT allI)))))))))))⟩
   ·refine wp_exit (g6 _ _ _ rfl ?_)
    cases g
    exact g3 _ _ _ _ rfl rfl (f4 _ _ _ _ _ a6 a7 u a8 a9 b0 (b.facts (allC F0 (allC F1 (allT (allT (allT allI)))))) (g1 _ rfl))
  ·refine wp_exit (e2 _ _ _ rfl ?_)
   cases d
   exact d8 _ _ _ _ rfl rfl (d3 _ _ _ _ _ V W b (d6 _ rfl))
 ·refine condT e0 (nT (dF G)) (sR fun _ h4 => yY (ybuild (us := [.bool false, hnil.v]) [] SO_31 bp0 rfl) (Ym (iV A) e0 (yT (r_stbn (vals' := [.bool false, hnil.v]) (us := [.bool false, hnil.v]) b ST_31 e0 e0 rfl rfl (one_of rfl) rfl) fun w b => Ya (iV A) e0 (wK h4 (wp_ret (c2 _ _ _ rfl ?_))))))
  cases c
  replace b := b.immNh (rI .u32)
  exact R _ _ _ (fin2r Tryz.results37 (rcs2 rfl rfl b R0 ST_31 rfl) ⟨rfl, rfl⟩ ⟨_, rfl, (b.k13)⟩)
theorem sparsekit_Limbs_ok {q r : LI} {h i : Hdr} {out : Bool} (d : sparsekit_Limbs q r = some out) (j : imm (rI .u32) h.v q ∈ ros) (l : imm (rI .u32) i.v r ∈ ros) (b : St w0 ros rs w) :
  Calls Tryz.prog 69 #[h.v, i.v] w (fun e w => e = .returned (.bool out) ∧ St w0 ros rs w) := by
 refine enterQ Tryz.func69 rfl Tryz.ntmps69 rfl fun Q m => sR fun _ E => Ya (.bool false) rfl (wK E (seqQ fun a4 F G => sR fun _ H => Ym h.v e0 (yY (yLen SL_29 e0 b (rdI j)) (Ym i.v e0 (yY (yLen SL_29 e0 b (rdI l)) (yY (yneq e0 e0) ?_))))))
 refine wK H ?_
 rcases iteS d with ⟨n, d⟩ | ⟨n, d⟩
 ·refine condF e0 (nF (dT n)) (wp_skip (F _ _ (seqQ fun a5 I J => sR fun _ K => Ya (iV 0) rfl (wK K (blockQ fun t u => bE d fun x L d => ?_)))))
  have N : ∀ (f : FV) w, St w0 ros rs w → .inl () = x → t (.exit 0) (fr 26 f) w := by
   intro f w b ho
   subst ho
   refine u _ _ _ (I _ _ (sR fun _ O => Ya (.bool true) rfl (wK O (wp_ret ?_))))
   cases d
   exact m _ _ _ (fin1r Tryz.results69 ⟨rfl, rfl⟩ ⟨rfl, b⟩)
  have R : ∀ (f : FV) w, f 4 = .bool false → St w0 ros rs w → .inr () = x → t .ret (fr 26 f) w := by
   intro f w S b ho
   subst ho
   refine u _ _ _ (J _ _ _ rfl ?_)
   cases d
   exact m _ _ _ (fin1r Tryz.results69 ⟨rfl, S⟩ ⟨rfl, b⟩)
  refine loopQ (fun s a w => ∃ (g : Int) (f : FV), g = s ∧ a = fr 26 f ∧ f 0 = h.v ∧ f 1 = i.v ∧ f 5 = iV g ∧ St w0 ros rs w) L ⟨_, _, rfl, rfl, rfl, rfl, rfl, b⟩ ?_
  rintro _ _ w a6 ⟨g, f, rfl, rfl, o, y, k, b⟩ c z a7 T A
  refine seqQ fun a8 U V => sR fun _ W => Ym (iV g) (eh k) (Ym h.v (eh o) (yY (yLen SL_29 e0 b (rdI j)) (yY (ylss e0 e0) (wK W ?_))))
  refine cIf e0 c (fun X c => ?_) fun X c => ?_
  ·refine wp_skip (U _ _ (seqQ fun a9 Z a0 => blockQ fun _ B => sQ fun _ a1 => bE c fun b0 C c => bE c fun b1 D c => dR [0, 0, 3, 7, 0, 0, 48, 112, 255] [] 0 folM ?_))
   replace b := b.drew
   refine Dz [0, 1, 2, 3, 4, 5, 6, 7, 8] [] (yR rfl (m_ h.v (eh o)) (yR rfl (m_ (iV g) (eh k)) (yR rfl (yIa SL_29 e0 e0 b (rdI j) C) (yR rfl (yI O_103 e0 b (rdI j) C) (yR rfl (m_ i.v (eh y)) (yR rfl (m_ (iV g) (eh k)) (yR rfl (yIa SL_29 e0 e0 b (rdI l) D) (yR rfl (yI O_103 e0 b (rdI l) D) (yR rfl (yneq e0 e0) (Rn QSn (a1 _ _ ?_)))))))))))
   rcases iteS c with ⟨p, c⟩ | ⟨p, c⟩
   ·refine condF e0 (nF (dT p)) (wp_skip (B _ _ _ (Z _ _ (wR (Ym (iV g) (eh k) (yY (yadd e0 rfl) (Ya (iV (wa .i64 g 1)) e0 (wN ?_))))))))
    cases c
    exact T _ _ _ rfl ⟨_, _, rfl, rfl, o, y, rfl, b⟩
   ·refine condT e0 (nT (dF p)) (sR fun _ a2 => Ya (.bool false) rfl (wK a2 (wp_ret (B _ _ _ (a0 _ _ _ rfl ?_)))))
    cases c
    exact A _ _ _ _ rfl rfl (R _ _ rfl b (z _ rfl))
  ·refine wp_exit (V _ _ _ rfl ?_)
   cases c
   exact A _ _ _ _ rfl rfl (N _ _ b (z _ rfl))
 ·refine condT e0 (nT (dF n)) (sR fun _ a3 => Ya (.bool false) rfl (wK a3 (wp_ret (G _ _ _ rfl ?_))))
  cases d
  exact m _ _ _ (fin1r Tryz.results69 ⟨rfl, rfl⟩ ⟨rfl, b⟩)
theorem sparsekit_Big_ok {d : Bool} {k : LI} {g : Bool} {l : LI} {h i : Hdr} {out : Bool} (j : sparsekit_Big d k g l = some out) (o : imm (rI .u32) h.v k ∈ ros) (p : imm (rI .u32) i.v l ∈ ros) (a : St w0 ros rs w) :
  Calls Tryz.prog 23 #[.agg #[.bool d, h.v], .agg #[.bool g, i.v]] w (fun e w => e = .returned (.bool out) ∧ St w0 ros rs w) := by
 refine enterQ Tryz.func23 rfl Tryz.ntmps23 rfl fun Q q => sR fun _ r => yBb (r_box (vals := [.bool d, h.v]) a e0 rfl) fun y w a => yBb (r_box (vals := [.bool g, i.v]) a e0 rfl) fun z w a => Ya (.bool false) rfl (wK r (sR fun _ s => yY (yFb FL_31_0 e0) (yY (lb_ (.bool d) O_4 e0 a R1) ?_)))
 refine yY (yFb FL_31_0 e0) (yY (lb_ (.bool g) O_4 e0 a R0) (yY (yeqb (by kernel_rfl) e0 e0) (Ym (.bool (d == g)) e0 (bE j fun m c j => ?_))))
 refine joinW 6 (fun f w => f 16 = .bool m ∧ St w0 ros rs w) (fun n => ?_) ?_
 ·rcases iteS c with ⟨b, c⟩ | ⟨b, c⟩
  ·refine yG b (yFb FL_31_1 e0) (yG b (lb_ h.v O_29 e0 a R1) (yG b (yFb FL_31_1 e0) (yG b (lb_ i.v O_29 e0 a R0) (bE c fun t u c => Yc (wG b) rfl (yCall FN_69 (a2 e0 e0)) (sparsekit_Limbs_ok u o p a) ?_))))
   rintro _ w ⟨rfl, a⟩
   refine ⟨_, rfl, ?_⟩
   refine yY (pt_ (.bool t) e0 b e0) ?_
   cases c
   exact n _ _ ⟨rfl, (a.k14)⟩
  ·refine gN (bfalse b) (gN (bfalse b) (gN (bfalse b) (gN (bfalse b) (gN (bfalse b) (yY (pf_ (.bool false) e0 (bfalse b) rfl) ?_)))))
   cases c
   exact n _ _ ⟨rfl, (a.k14)⟩
 rintro f w ⟨x, a⟩
 refine Ya (.bool m) (eh x) (wK s (wp_ret ?_))
 cases j
 exact q _ _ _ (fin1r Tryz.results23 ⟨rfl, rfl⟩ ⟨rfl, a⟩)
theorem sparseref01_Norm_ok {b : Bool} {f : LI} {c : Hdr} {out : Bool × LI} (d : sparseref01_Norm b f = some out) (j : imm (rI .u32) c.v f ∈ ros) (a : St w0 ros rs w) :
  Calls Tryz.prog 78 #[.agg #[.bool b, c.v]] w (fun e w => ∃ (g : Hdr), e = .returned (.agg #[.bool out.1, g.v]) ∧ St w0 ros (row 103 (rI .u32) g.v out.2 :: rs) w) := by
 refine enterQ Tryz.func78 rfl Tryz.ntmps78 rfl fun Q k => sR fun _ l => yBb (r_box (vals := [.bool b, c.v]) a e0 rfl) fun o w a => yBb (rAl a ZT_31) fun p w a => wK l (sR fun _ m => yY (yFb FL_31_0 e0) (yY (lb_ (.bool b) O_4 e0 a R1) (yY (yFb FL_31_1 e0) ?_)))
 refine yY (lb_ c.v O_29 e0 a R1) (bE d fun h n d => yC (yCall FN_110 (a2 e0 e0)) (sparseref01_make1_ok n j a) ?_)
 rintro _ w ⟨i, rfl, a⟩
 refine ⟨_, rfl, ?_⟩
 refine yT (r_stbn (vals' := [.bool h.1, i.v]) (us := [.bool h.1, i.v]) (a.k10) ST_31 e0 e0 rfl rfl (one_of rfl) rfl) fun w a => wK m (wp_ret ?_)
 cases d
 exact k _ _ _ (fin1r Tryz.results78 (rcs2 rfl rfl a R0 ST_31 rfl) ⟨_, rfl, (a.k1u)⟩)
theorem sparseref01_Int_ok {m : Bool} {t : LI} {n : Hdr} {out : Int × Bool} (c : sparseref01_Int m t = some out) (z : imm (rI .u32) n.v t ∈ ros) (b : St w0 ros rs w) :
  Calls Tryz.prog 42 #[.agg #[.bool m, n.v]] w (fun e w => e = .returned (.tuple #[iV out.1, .bool out.2]) ∧ St w0 ros rs w) := by
 refine enterQ Tryz.func42 rfl Tryz.ntmps42 rfl fun Q k => sR fun _ A => yBb (r_box (vals := [.bool m, n.v]) b e0 rfl) fun o w b => Ya (iV 0) rfl (Ya (.bool false) rfl (wK A (sR fun _ B => yY (lbs_ [.bool m, n.v] ST_31 e0 b R0) (bE c fun j C c => yC (yCall FN_78 (a1 e0)) (sparseref01_Norm_ok C z b) ?_))))
 rintro _ w ⟨d, rfl, b⟩
 refine ⟨_, rfl, ?_⟩
 refine yT (r_stbn (vals' := [.bool j.1, d.v]) (us := [.bool j.1, d.v]) (b.k10) ST_31 e0 e0 rfl rfl (one_of rfl) rfl) fun w b => wK B (seqQ fun c3 D E => sR fun _ F => yY (yFb FL_31_1 e0) (yY (lb_ d.v O_29 e0 b R0) (yY (yLen SL_29 e0 b rO1) (yY (ygtr e0 rfl) (wK F ?_)))))
 refine cIf e0 c (fun G c => ?_) fun G c => ?_
 ·refine sR fun _ H => Ya (iV 0) rfl (Ya (.bool false) rfl (wK H (wp_ret (E _ _ _ rfl ?_))))
  cases c
  exact k _ _ _ (fin2r Tryz.results42 ⟨rfl, rfl⟩ ⟨rfl, rfl⟩ ⟨rfl, (b.k14)⟩)
 ·refine wp_skip (D _ _ (sR fun _ I => Ya (.int .u64 0) rfl (wK I (sQ fun _ J => sR fun _ K => Ya (iV 0) rfl (wK K (blockQ fun L N => ?_))))))
  refine bE c fun O R c => ?_
  have S : ∀ (g : Int) (f : FV) w, f 1 = (pB o) → f 4 = .int .u64 g → St w0 ros (row 103 (rI .u32) d.v j.2 :: box o 31 [.bool j.1, d.v] :: rs) w → g = O → L (.exit 0) (fr 43 f) w := by
   intro g f w T p b ho
   subst ho
   refine N _ _ _ (J _ _ (seqQ fun c4 U u => sR fun _ V => yY (yFb FL_31_0 (eh T)) (yY (lb_ (.bool j.1) O_4 e0 b R1) (wK V (cB e0 c (fun W c => ?_) fun W c => ?_)))))
   ·refine seqQ fun c5 X Z => sR fun _ a0 => Ym (.int .u64 g) (eh p) (yY (ygtr e0 rfl) (wK a0 ?_))
    refine cIf e0 c (fun a2 c => ?_) fun a2 c => ?_
    ·refine sR fun _ a3 => Ya (iV 0) rfl (Ya (.bool false) rfl (wK a3 (wp_ret (Z _ _ _ rfl (u _ _ _ rfl ?_)))))
     cases c
     exact k _ _ _ (fin2r Tryz.results42 ⟨rfl, rfl⟩ ⟨rfl, rfl⟩ ⟨rfl, (b.k14)⟩)
    ·refine wp_skip (X _ _ (sR fun _ a4 => Ym (.int .u64 g) (eh p) (yY (ysub e0 rfl) (yY (ycv (k' := .i64) (by kernel_rfl) (by kernel_rfl) e0) (yY (yneg e0) (yY (ysub e0 rfl) (Ya (iV (ws .i64 (wneg .i64 (wc .i64 (ws .u64 g 1))) 1)) e0 (Ya (.bool true) rfl (wK a4 (wp_ret ?_))))))))))
     refine u _ _ _ rfl ?_
     cases c
     exact k _ _ _ (fin2r Tryz.results42 ⟨rfl, rfl⟩ ⟨rfl, rfl⟩ ⟨rfl, (b.k14)⟩)
   ·refine wp_skip (U _ _ (seqQ fun c6 a5 a6 => sR fun _ a7 => Ym (.int .u64 g) (eh p) (yY (ygtr e0 rfl) (wK a7 ?_))))
    refine cIf e0 c (fun a8 c => ?_) fun a8 c => ?_
    ·refine sR fun _ a9 => Ya (iV 0) rfl (Ya (.bool false) rfl (wK a9 (wp_ret (a6 _ _ _ rfl ?_))))
     cases c
     exact k _ _ _ (fin2r Tryz.results42 ⟨rfl, rfl⟩ ⟨rfl, rfl⟩ ⟨rfl, (b.k14)⟩)
    ·refine wp_skip (a5 _ _ (sR fun _ b0 => Ym (.int .u64 g) (eh p) (yY (ycv (k' := .i64) (by kernel_rfl) (by kernel_rfl) e0) (Ya (iV (wc .i64 g)) e0 (Ya (.bool true) rfl (wK b0 (wp_ret ?_)))))))
     cases c
     exact k _ _ _ (fin2r Tryz.results42 ⟨rfl, rfl⟩ ⟨rfl, rfl⟩ ⟨rfl, (b.k14)⟩)
  refine loopQ (fun s a w => ∃ (l i : Int) (f : FV), (l, i) = s ∧ a = fr 43 f ∧ f 1 = (pB o) ∧ f 4 = .int .u64 l ∧ f 5 = iV i ∧ St w0 ros (row 103 (rI .u32) d.v j.2 :: box o 31 [.bool j.1, d.v] :: rs) w) R ⟨_, _, _, rfl, rfl, rfl, rfl, rfl, (b.k10)⟩ ?_
  rintro _ _ w c8 ⟨l, i, f, rfl, rfl, q, x, r, b⟩ h b1 c9 b2 b3
  refine seqQ fun d0 b5 b6 => sR fun _ b7 => Ym (iV i) (eh r) (yY (yFb FL_31_1 (eh q)) (yY (lb_ d.v O_29 e0 b R1) (yY (yLen SL_29 e0 b rO0) (yY (ylss e0 e0) (wK b7 ?_)))))
  refine cIf e0 h (fun b8 h => ?_) fun b8 h => ?_
  ·refine wp_skip (b5 _ _ (sQ fun _ b9 => blockQ fun _ c0 => wR (Ym (.int .u64 l) (eh x) (yY (yFb FL_31_1 (eh q)) (yY (lb_ d.v O_29 e0 b R1) (Ym (iV i) (eh r) (bE h fun d1 y h => yY (yIa SL_29 e0 e0 b rO0 y) (yY (yI O_103 e0 b rO0 y) (yY (ycv (k' := .u64) (by kernel_rfl) (by kernel_rfl) e0) (Ym (iV i) (eh r) ?_))))))))))
   refine yY (ymul rfl e0) (bE h fun c1 c2 h => yY (yshl e0 e0 c2) (yY (yor e0 e0) (Ya (.int .u64 (wor .u64 l c1)) e0 (wN (c0 _ _ _ (b9 _ _ (wR (Ym (iV i) (eh r) (yY (yadd e0 rfl) (Ya (iV (wa .i64 i 1)) e0 (wN ?_)))))))))))
   cases h
   exact b2 _ _ _ rfl ⟨_, _, _, rfl, rfl, q, rfl, rfl, b⟩
  ·refine wp_exit (b6 _ _ _ rfl ?_)
   cases h
   exact b3 _ _ _ _ rfl rfl (S _ _ _ q x b (b1 _ rfl))
theorem modular_columns_ok {f : L2} {c : Hdr} {out : Int} (b : modular_columns f = some out) (d : imm S1 c.v f ∈ ros) (a : St w0 ros rs w) :
  Calls Tryz.prog 118 #[c.v] w (fun e w => e = .returned (iV out) ∧ St w0 ros rs w) := by
 refine enterQ Tryz.func118 rfl Tryz.ntmps118 rfl fun Q g => sR fun _ i => Ya (iV 0) rfl (wK i (seqQ fun q j k => sR fun _ l => Ym c.v e0 (yY (yLen SL_63 e0 a (rdI d)) (yY (yeql e0 rfl) (wK l ?_)))))
 refine cIf e0 b (fun m b => ?_) fun m b => ?_
 ·refine sR fun _ n => Ya (iV 0) rfl (wK n (wp_ret (k _ _ _ rfl ?_)))
  cases b
  exact g _ _ _ (fin1r Tryz.results118 ⟨rfl, rfl⟩ ⟨rfl, a⟩)
 ·refine wp_skip (j _ _ (sR fun _ o => Ym c.v e0 (bE b fun p h b => yY (yIa SL_63 e0 rfl a (rdI d) h) ?_)))
  obtain ⟨r, a⟩ := iLs a d h
  refine yY (yCt O_48 e0 a F1 rfl) (yY (yLen SL_48 e0 a (rdI F0)) (Ya (iV (p.length : Int)) e0 (wK o (wp_ret ?_))))
  cases b
  exact g _ _ _ (fin1r Tryz.results118 ⟨rfl, rfl⟩ ⟨rfl, (a.facts (allT (allT allI)))⟩)
theorem modular_IsPrime_ok {b : Int} {out : Bool} (h : modular_IsPrime b = some out) (c : St w0 ros rs w) :
  Calls Tryz.prog 101 #[iV b] w (fun e w => e = .returned (.bool out) ∧ St w0 ros rs w) := by
 refine enterQ Tryz.func101 rfl Tryz.ntmps101 rfl fun Q l => sR fun _ u => Ya (.bool false) rfl (wK u (seqQ fun Z v x => sR fun _ y => Ym (iV b) e0 (yY (ylss e0 rfl) (Ym (.bool (decide (b < 2))) e0 ?_))))
 refine joinW 3 (fun f w => f 0 = iV b ∧ f 9 = .bool ((decide (b < 2)) || (decide ((2147483647 : Int) < b))) ∧ St w0 ros rs w) (fun m => ?_) ?_
 ·rcases Bool.eq_false_or_eq_true (decide (b < 2)) with g | g
  ·exact gN g (gN g (yY (pt_ (.bool true) e0 g rfl) (m _ _ ⟨rfl, (congrArg Value.bool (orT g)), c⟩)))
  ·exact yG g (m_ (iV b) e0) (yG g (ygtr e0 rfl) (yY (pf_ (.bool (decide ((2147483647 : Int) < b))) e0 g e0) (m _ _ ⟨rfl, (congrArg Value.bool (orF g)), c⟩)))
 rintro f w ⟨j, z, c⟩
 refine wK y (cB (eh z) h (fun A h => ?_) fun A h => ?_)
 ·refine sR fun _ B => Ya (.bool false) rfl (wK B (wp_ret (x _ _ _ rfl ?_)))
  cases h
  exact l _ _ _ (fin1r Tryz.results101 ⟨rfl, rfl⟩ ⟨rfl, c⟩)
 ·refine wp_skip (v _ _ (seqQ fun a0 C D => sR fun _ E => Ya (iV 2) rfl (wK E (blockQ fun n o => bE h fun p F h => ?_))))
  have G : ∀ (f : FV) w, St w0 ros rs w → .inl () = p → n (.exit 0) (fr 21 f) w := by
   intro f w c ho
   subst ho
   refine o _ _ _ (C _ _ (sR fun _ H => Ya (.bool true) rfl (wK H (wp_ret ?_))))
   cases h
   exact l _ _ _ (fin1r Tryz.results101 ⟨rfl, rfl⟩ ⟨rfl, c⟩)
  have I : ∀ (f : FV) w, f 2 = .bool false → St w0 ros rs w → .inr () = p → n .ret (fr 21 f) w := by
   intro f w J c ho
   subst ho
   refine o _ _ _ (D _ _ _ rfl ?_)
   cases h
   exact l _ _ _ (fin1r Tryz.results101 ⟨rfl, J⟩ ⟨rfl, c⟩)
  refine loopQ (fun s a w => ∃ (i : Int) (f : FV), i = s ∧ a = fr 21 f ∧ f 0 = iV b ∧ f 3 = iV i ∧ St w0 ros rs w) F ⟨_, _, rfl, rfl, j, rfl, c⟩ ?_
  rintro _ _ w a1 ⟨i, f, rfl, rfl, j, k, c⟩ d q a2 K r
  refine seqQ fun a3 L N => sR fun _ O => Ym (iV i) (eh k) (Ym (iV i) (eh k) (yY (ymul e0 e0) (Ym (iV b) (eh j) (yY (yleq e0 e0) (wK O ?_)))))
  refine cIf e0 d (fun R d => ?_) fun R d => ?_
  ·refine wp_skip (L _ _ (seqQ fun a4 S T => blockQ fun _ t => sR fun _ U => Ym (iV b) (eh j) (Ym (iV i) (eh k) (bE d fun a5 V d => yY (yrem e0 e0 V) (yY (yeql e0 rfl) (wK U ?_))))))
   refine cIf e0 d (fun W d => ?_) fun W d => ?_
   ·refine sR fun _ X => Ya (.bool false) rfl (wK X (wp_ret (t _ _ _ (T _ _ _ rfl ?_))))
    cases d
    exact r _ _ _ _ rfl rfl (I _ _ rfl c (q _ rfl))
   ·refine wp_skip (t _ _ _ (S _ _ (wR (Ym (iV i) (eh k) (yY (yadd e0 rfl) (Ya (iV (wa .i64 i 1)) e0 (wN ?_)))))))
    cases d
    exact K _ _ _ rfl ⟨_, _, rfl, rfl, j, rfl, c⟩
  ·refine wp_exit (N _ _ _ rfl ?_)
   cases d
   exact r _ _ _ _ rfl rfl (G _ _ c (q _ rfl))
theorem modular_check_1_ok {b : LI} {a : Int} {c : Hdr} {d : Nat} {out : Bool} (g : modular_check_1 b a = some out) (h : imm I1 c.v b ∈ ros) (f : St w0 ros (box d 3 [iV a] :: rs) w) :
  Calls Tryz.prog 120 #[c.v, (pB d)] w (fun e w => e = .returned (.bool out) ∧ St w0 ros (box d 3 [iV a] :: rs) w) := by
 refine enterQ Tryz.func120 rfl Tryz.ntmps120 rfl fun Q i => sR fun _ j => Ya (.bool false) rfl (wK j (sR fun _ k => Ym c.v e0 (yY (yLen SL_48 e0 f (rdI h)) (yY (lb_ (iV a) O_3 e0 f R0) (yY (yneq e0 e0) (Ya (.bool (!(decide ((b.length : Int) = a)))) e0 (wN ?_)))))))
 refine k _ _ (wp_ret ?_)
 cases g
 exact i _ _ _ (fin1r Tryz.results120 ⟨rfl, rfl⟩ ⟨rfl, f⟩)
theorem slices_IndexFunc_int_ok {k : L2} {h : Int} {i : Hdr} {g : Nat} {out : Int} (j : slices_IndexFunc_int k h = some out) (l : imm S1 i.v k ∈ ros) (b : St w0 ros (box g 3 [iV h] :: rs) w) :
  Calls Tryz.prog 121 #[i.v, .func (.func 120) #[] #[(pB g)]] w (fun e w => e = .returned (iV out) ∧ St w0 ros (box g 3 [iV h] :: rs) w) := by
 refine enterQ Tryz.func121 rfl Tryz.ntmps121 rfl fun Q o => sR fun _ C => Ya (iV 0) rfl (wK C (seqQ fun a2 D E => sR fun _ F => Ym i.v e0 (yY (yLen SL_63 e0 b (rdI l)) (Ym (iV 0) rfl (wK F ?_)))))
 refine blockQ fun p q => bE j fun r G j => ?_
 have H : ∀ (f : FV) w, St w0 ros (box g 3 [iV h] :: rs) w → .inl () = r → p (.exit 0) (fr 19 f) w := by
  intro f w b ho
  subst ho
  refine q _ _ _ (D _ _ (sR fun _ I => Ya (iV (-1)) rfl (wK I (wp_ret ?_))))
  cases j
  exact o _ _ _ (fin1r Tryz.results121 ⟨rfl, rfl⟩ ⟨rfl, b⟩)
 have J : ∀ (m : Int) (f : FV) w, f 4 = iV m → St w0 ros (box g 3 [iV h] :: rs) w → .inr m = r → p .ret (fr 19 f) w := by
  intro m f w K b ho
  subst ho
  refine q _ _ _ (E _ _ _ rfl ?_)
  cases j
  exact o _ _ _ (fin1r Tryz.results121 ⟨rfl, K⟩ ⟨rfl, b⟩)
 refine loopQ (fun s a w => ∃ (d : Int) (f : FV), d = s ∧ a = fr 19 f ∧ f 0 = i.v ∧ f 1 = .func (.func 120) #[] #[(pB g)] ∧ f 7 = iV (k.length : Int) ∧ f 8 = iV d ∧ St w0 ros (box g 3 [iV h] :: rs) w) G ⟨_, _, rfl, rfl, rfl, rfl, rfl, rfl, b⟩ ?_
 rintro _ _ w a3 ⟨d, f, rfl, rfl, t, u, x, n, b⟩ c y a4 L z
 refine sR fun _ N => yY (ylss (eh n) (eh x)) (wK N (seqQ fun a5 O R => ?_))
 refine cIf e0 c (fun S c => ?_) fun S c => ?_
 ·refine wp_skip (O _ _ (seqQ fun a6 T U => blockQ fun _ A => sR fun _ V => Ym (iV d) (eh n) (Ya (iV d) e0 (wK V (sR fun _ W => Ym (.func (.func 120) #[] #[(pB g)]) (eh u) (Ym i.v (eh t) ?_))))))
  refine Ym (iV d) e0 (bE c fun a7 B c => yY (yIa SL_63 e0 e0 b (rdI l) B) ?_)
  obtain ⟨a8, b⟩ := iLs b l B
  refine yY (yCt O_48 e0 b F1 rfl) (bE c fun a9 X c => yC (yCallw FN_120 e0 (a1 e0)) (modular_check_1_ok X F0 b) ?_)
  rintro _ w ⟨rfl, b⟩
  refine ⟨_, rfl, ?_⟩
  refine wK W (cB e0 c (fun Z c => ?_) fun Z c => ?_)
  ·refine sR fun _ a0 => Ym (iV d) e0 (Ya (iV d) e0 (wK a0 (wp_ret (A _ _ _ (U _ _ _ rfl ?_)))))
   cases c
   exact z _ _ _ _ rfl rfl (J _ _ _ rfl (b.facts (allT (allT allI))) (y _ rfl))
  ·refine wp_skip (A _ _ _ (T _ _ (wR (yY (yadd (eh n) rfl) (Ym (iV (wa .i64 d 1)) e0 (wN ?_))))))
   cases c
   exact L _ _ _ rfl ⟨_, _, rfl, rfl, t, u, x, rfl, (b.facts (allT (allT allI)))⟩
 ·refine wp_exit (R _ _ _ rfl ?_)
  cases c
  exact z _ _ _ _ rfl rfl (H _ _ b (y _ rfl))
theorem slices_ContainsFunc_int_ok {g : L2} {b : Int} {c : Hdr} {a : Nat} {out : Bool} (d : slices_ContainsFunc_int g b = some out) (h : imm S1 c.v g ∈ ros) (f : St w0 ros (box a 3 [iV b] :: rs) w) :
  Calls Tryz.prog 119 #[c.v, .func (.func 120) #[] #[(pB a)]] w (fun e w => e = .returned (.bool out) ∧ St w0 ros (box a 3 [iV b] :: rs) w) := by
 refine enterQ Tryz.func119 rfl Tryz.ntmps119 rfl fun Q i => sR fun _ j => Ya (.bool false) rfl (wK j (sR fun _ k => Ym c.v e0 (Ym (.func (.func 120) #[] #[(pB a)]) e0 (bE d fun l m d => yC (yCall FN_121 (a2 e0 e0)) (slices_IndexFunc_int_ok m h f) ?_))))
 rintro _ w ⟨rfl, f⟩
 refine ⟨_, rfl, ?_⟩
 refine yY (ygeq e0 rfl) (Ya (.bool (decide ((0 : Int) ≤ l))) e0 (wK k (wp_ret ?_)))
 cases d
 exact i _ _ _ (fin1r Tryz.results119 ⟨rfl, rfl⟩ ⟨rfl, f⟩)
theorem modular_check_ok {d : L2} {k : Int} {g : Hdr} {out : Int} (a : modular_check d k = some out) (l : imm S1 g.v d ∈ ros) (b : St w0 ros rs w) :
  Calls Tryz.prog 89 #[g.v, iV k] w (fun e w => e = .returned (iV out) ∧ St w0 ros rs w) := by
 refine enterQ Tryz.func89 rfl Tryz.ntmps89 rfl fun Q i => sR fun _ p => Ya (iV 0) rfl (wK p (sR fun _ q => Ym g.v e0 (bE a fun h r a => yC (yCall FN_118 (a1 e0)) (modular_columns_ok r l b) ?_)))
 rintro _ w ⟨rfl, b⟩
 refine ⟨_, rfl, ?_⟩
 refine yBb (rAl b ZT_3) fun s w b => yT (r_stb1 (vals' := [iV h]) b O_3 e0 e0 rfl rfl rfl rfl) fun w b => wK q (seqQ fun K t m => blockQ fun _ j => sR fun _ u => Ym (iV k) e0 (bE a fun x y a => yC (yCall FN_101 (a1 e0)) (modular_IsPrime_ok y b) ?_))
 rintro _ w ⟨rfl, b⟩
 refine ⟨_, rfl, ?_⟩
 refine yY (ynot e0) (Ya (.bool (!x)) e0 (wK u ?_))
 rcases iteS a with ⟨n, a⟩ | ⟨n, a⟩
 ·refine condF e0 (nF n) (sR fun _ z => Ym g.v e0 (yY (ymf (vf := #[]) (vc := #[(pB s)]) a0 (a1 e0)) (bE a fun A B a => yC (yCall FN_119 (a2 e0 e0)) (slices_ContainsFunc_int_ok B l b) ?_)))
  rintro _ w ⟨rfl, b⟩
  refine ⟨_, rfl, ?_⟩
  refine Ya (.bool A) e0 (wK z (cB e0 a (fun C a => ?_) fun C a => ?_))
  ·refine sR fun _ D => Ya (iV 5) rfl (wK D (wp_ret (j _ _ _ (m _ _ _ rfl ?_))))
   cases a
   exact i _ _ _ (fin1r Tryz.results89 ⟨rfl, rfl⟩ ⟨rfl, (b.k13)⟩)
  ·refine sR fun _ E => Ym g.v e0 (yY (yLen SL_63 e0 b (rdI l)) (yY (ygtr e0 rfl) (Ym (.bool (decide ((200 : Int) < (d.length : Int)))) e0 ?_)))
   refine joinW 3 (fun f w => f 23 = .bool ((decide ((200 : Int) < (d.length : Int))) || (decide ((200 : Int) < h))) ∧ St w0 ros rs w) (fun o => ?_) ?_
   ·rcases Bool.eq_false_or_eq_true (decide ((200 : Int) < (d.length : Int))) with c | c
    ·exact gN c (gN c (yY (pt_ (.bool true) e0 c rfl) (o _ _ ⟨(congrArg Value.bool (orT c)), (b.k13)⟩)))
    ·exact yG c (lb_ (iV h) O_3 e0 b R0) (yG c (ygtr e0 rfl) (yY (pf_ (.bool (decide ((200 : Int) < h))) e0 c e0) (o _ _ ⟨(congrArg Value.bool (orF c)), (b.k13)⟩)))
   rintro f w ⟨F, b⟩
   refine Ya (.bool ((decide ((200 : Int) < (d.length : Int))) || (decide ((200 : Int) < h)))) (eh F) (wK E (cB e0 a (fun G a => ?_) fun G a => ?_))
   ·refine sR fun _ H => Ya (iV 6) rfl (wK H (wp_ret (j _ _ _ (m _ _ _ rfl ?_))))
    cases a
    exact i _ _ _ (fin1r Tryz.results89 ⟨rfl, rfl⟩ ⟨rfl, b⟩)
   ·refine wp_skip (j _ _ _ (t _ _ (sR fun _ I => Ya (iV 0) rfl (wK I (wp_ret ?_)))))
    cases a
    exact i _ _ _ (fin1r Tryz.results89 ⟨rfl, rfl⟩ ⟨rfl, b⟩)
 ·refine condT e0 (nT (bfalse n)) (sR fun _ J => Ya (iV 70) rfl (wK J (wp_ret (j _ _ _ (m _ _ _ rfl ?_)))))
  cases a
  exact i _ _ _ (fin1r Tryz.results89 ⟨rfl, rfl⟩ ⟨rfl, (b.k13)⟩)
theorem modular_square_ok {i : L2} {j : Int} {h : Hdr} {out : Int} (c : modular_square i j = some out) (k : imm S1 h.v i ∈ ros) (b : St w0 ros rs w) :
  Calls Tryz.prog 100 #[h.v, iV j] w (fun e w => e = .returned (iV out) ∧ St w0 ros rs w) := by
 refine enterQ Tryz.func100 rfl Tryz.ntmps100 rfl fun Q l => sR fun _ n => Ya (iV 0) rfl (wK n (sR fun _ o => Ym h.v e0 (Ym (iV j) e0 (bE c fun g p c => yC (yCall FN_89 (a2 e0 e0)) (modular_check_ok p k b) ?_))))
 rintro _ w ⟨rfl, b⟩
 refine ⟨_, rfl, ?_⟩
 refine Ya (iV g) e0 (wK o (seqQ fun D q r => sR fun _ s => Ym (iV g) e0 (yY (yeql e0 rfl) (Ym (.bool (decide (g = 0))) e0 (bE c fun t d c => ?_)))))
 refine joinW 6 (fun f w => f 5 = iV g ∧ f 17 = .bool t ∧ St w0 ros rs w) (fun m => ?_) ?_
 ·rcases iteS d with ⟨a, d⟩ | ⟨a, d⟩
  ·refine yG (dT a) (m_ h.v e0) (yG (dT a) (yLen SL_63 e0 b (rdI k)) (yG (dT a) (m_ h.v e0) (bE d fun u x d => Yc (wG (dT a)) rfl (yCall FN_118 (a1 e0)) (modular_columns_ok x k b) ?_)))
   rintro _ w ⟨rfl, b⟩
   refine ⟨_, rfl, ?_⟩
   refine yG (dT a) (yneq e0 e0) (yY (pt_ (.bool (!(decide ((i.length : Int) = u)))) e0 (dT a) e0) ?_)
   cases d
   exact m _ _ ⟨rfl, rfl, b⟩
  ·refine gN (dF a) (gN (dF a) (gN (dF a) (gN (dF a) (gN (dF a) (yY (pf_ (.bool false) e0 (dF a) rfl) ?_)))))
   cases d
   exact m _ _ ⟨rfl, rfl, b⟩
 rintro f w ⟨y, z, b⟩
 refine wK s (cB (eh z) c (fun A c => ?_) fun A c => ?_)
 ·refine sR fun _ B => Ya (iV 5) rfl (wK B (wp_ret (r _ _ _ rfl ?_)))
  cases c
  exact l _ _ _ (fin1r Tryz.results100 ⟨rfl, rfl⟩ ⟨rfl, b⟩)
 ·refine wp_skip (q _ _ (sR fun _ C => Ym (iV g) (eh y) (Ya (iV g) e0 (wK C (wp_ret ?_)))))
  cases c
  exact l _ _ _ (fin1r Tryz.results100 ⟨rfl, rfl⟩ ⟨rfl, b⟩)
theorem modular_mod_ok {h b out : Int} (a : modular_mod h b = some out) (d : St w0 ros rs w) :
  Calls Tryz.prog 123 #[iV h, iV b] w (fun e w => e = .returned (iV out) ∧ St w0 ros rs w) := by
 refine enterQ Tryz.func123 rfl Tryz.ntmps123 rfl fun Q j => sR fun _ k => Ya (iV 0) rfl (wK k (sR fun _ l => Ym (iV h) e0 (Ym (iV b) e0 (bE a fun g m a => yY (yrem e0 e0 m) (Ya (iV g) e0 (wN ?_))))))
 refine l _ _ (sQ fun n o => sR fun _ p => Ym (iV g) e0 (yY (ylss e0 rfl) (wK p ?_)))
 have i : ∀ (c : Int) (f : FV) w, f 5 = iV c → St w0 ros rs w → modular_mod_j1 c = some out → n .normal (fr 15 f) w := by
  intro c f w q d a
  refine o _ _ (sR fun _ r => Ym (iV c) (eh q) (Ya (iV c) e0 (wK r (wp_ret ?_))))
  cases a
  exact j _ _ _ (fin1r Tryz.results123 ⟨rfl, rfl⟩ ⟨rfl, d⟩)
 refine cIf e0 a (fun s a => ?_) fun s a => ?_
 ·exact wR (Ym (iV g) e0 (Ym (iV b) e0 (yY (yadd e0 e0) (Ya (iV (wa .i64 g b)) e0 (wN (i _ _ _ rfl d a))))))
 ·exact wp_skip (i _ _ _ rfl d a)
theorem modular_reduced_ok {o : L2} {j : Int} {k : Hdr} {out : L2} (y : modular_reduced o j = some out) (z : imm S1 k.v o ∈ ros) (b : St w0 ros rs w) :
  Calls Tryz.prog 91 #[k.v, iV j] w (fun e w => ∃ (H : Hdr) (I : List Hdr), e = .returned (H.v) ∧ St w0 ros (row 48 rH H.v I :: fam 3 I1 I out :: rs) w) := by
 refine enterQ Tryz.func91 rfl Tryz.ntmps91 rfl fun Q a3 => sR fun _ a4 => Ya hnil.v rfl (wK a4 (sR fun _ a5 => Ya hnil.v rfl (wK a5 (sQ fun _ a6 => sR fun _ a7 => ?_))))
 refine Ym k.v e0 (yY (yLen SL_63 e0 b (rdI z)) (Ym (iV 0) rfl (wK a7 (blockQ fun a8 a9 => bE y fun b0 b1 y => ?_))))
 have b2 : ∀ (A : L2) (p : Hdr) (B : List Hdr) (f : FV) w, f 5 = p.v → St w0 ros (row 48 rH p.v B :: fam 3 I1 B A :: rs) w → A = b0 → a8 (.exit 0) (fr 36 f) w := by
  intro A p B f w b3 b ho
  subst ho
  refine a9 _ _ _ (a6 _ _ (sR fun _ b4 => Ym p.v (eh b3) (Ya p.v e0 (wK b4 (wp_ret ?_)))))
  cases y
  exact a3 _ _ _ (fin1r Tryz.results91 ⟨rfl, rfl⟩ ⟨_, _, rfl, b⟩)
 replace b := ((b.rowNh 48 rH).fNew 3 I1).k10
 refine loopQ (fun s a w => ∃ (q : L2) (m : Int) (f : FV) (g : Hdr) (h : List Hdr), (q, m) = s ∧ a = fr 36 f ∧ f 1 = iV j ∧ f 5 = g.v ∧ f 11 = k.v ∧ f 12 = iV (o.length : Int) ∧ f 13 = iV m ∧ St w0 ros (row 48 rH g.v h :: fam 3 I1 h q :: rs) w) b1 ⟨_, _, _, _, _, rfl, rfl, rfl, rfl, rfl, rfl, rfl, b⟩ ?_
 rintro _ _ w f6 ⟨q, m, f, g, h, rfl, rfl, b5, J, K, L, C, b⟩ c b6 f7 b7 b8
 refine sR fun _ b9 => yY (ylss (eh C) (eh L)) (wK b9 (seqQ fun f8 c0 c1 => ?_))
 refine cIf e0 c (fun c2 c => ?_) fun c2 c => ?_
 ·refine wp_skip (c0 _ _ (sQ fun _ c3 => blockQ fun _ c4 => sR fun _ c5 => bE c fun N O c => yY (yIa SL_63 (eh K) (eh C) b (rdI z) O) ?_))
  obtain ⟨r, b⟩ := iLs b z O
  refine yY (yCt O_48 e0 b F1 rfl) (Ya r.v e0 (wK c5 (sR fun _ c6 => Ya hnil.v rfl (wK c6 (sQ fun _ c7 => sR fun _ c8 => Ym r.v e0 (yY (yLen SL_48 e0 b (rdI F0)) ?_))))))
  refine Ym (iV 0) rfl (wK c8 (blockQ fun c9 d0 => bE c fun d1 d2 c => ?_))
  have d3 : ∀ (t : LI) (i : Hdr) (f : FV) w, f 1 = iV j → f 5 = g.v → f 8 = i.v → f 11 = k.v → f 12 = iV (o.length : Int) → f 13 = iV m → St w0 ros (row 48 rH g.v h :: fam 3 I1 h q :: row 3 I1 i.v t :: rs) w → t = d1 → c9 (.exit 2) (fr 36 f) w := by
   intro t i f w d4 d5 d6 d7 d8 d9 b ho
   subst ho
   refine d0 _ _ _ (c7 _ _ (wR (Ym g.v (eh d5) (Ym i.v (eh d6) (yH (rLt (n := 1) (l := [i]) b SLH_63 [i.v] (bp1 e0) rfl rfl (mks1 rfl (mkF rfl) mks0)) fun f9 w b => bE c fun g0 R c => ?_)))))
   replace b := b.k10
   obtain ⟨g1, ey110, e1⟩ := app_rep R (b.famL R2) (show [i].length = [t].length from rfl)
   refine yH (rAp b SLH_63 e0 e0 rO1 e1) fun e2 w b => ?_
   replace b := (b.k15).fPush
   rw [← ey110, ← (app_some R).1] at b
   refine Ya e2.v e0 (wN (c4 _ _ _ (c3 _ _ (wR (yY (yadd (eh d9) rfl) (Ym (iV (wa .i64 m 1)) e0 (wN ?_)))))))
   cases c
   exact b7 _ _ _ rfl ⟨_, _, _, _, _, rfl, rfl, d4, rfl, d7, d8, rfl, (b.k16)⟩
  replace b := b.rowNh 3 I1
  refine loopQ (fun s a w => ∃ (D : LI) (u : Int) (f : FV) (x : Hdr), (D, u) = s ∧ a = fr 36 f ∧ f 1 = iV j ∧ f 5 = g.v ∧ f 8 = x.v ∧ f 11 = k.v ∧ f 12 = iV (o.length : Int) ∧ f 13 = iV m ∧ f 17 = r.v ∧ f 18 = iV (N.length : Int) ∧ f 19 = iV u ∧ St w0 (imm I1 r.v N :: ros) (row 48 rH g.v h :: fam 3 I1 h q :: row 3 I1 x.v D :: rs) w) d2 ⟨_, _, _, _, rfl, rfl, b5, J, rfl, K, L, C, rfl, rfl, rfl, ((b.k19).facts (allC F0 (allT (allT allI))))⟩ ?_
  rintro _ _ w g2 ⟨D, u, f, x, rfl, rfl, E, S, T, U, V, W, X, Z, F, b⟩ d e3 g3 e4 e5
  refine sR fun _ e6 => yY (ylss (eh F) (eh Z)) (wK e6 (seqQ fun g4 e7 e8 => ?_))
  refine cIf e0 d (fun e9 d => ?_) fun e9 d => ?_
  ·refine wp_skip (e7 _ _ (sQ fun _ f0 => blockQ fun _ f1 => sR fun _ f2 => bE d fun a0 a1 d => yY (yIa SL_48 (eh X) (eh F) b (rdI F0) a1) (yY (yI O_3 e0 b (rdI F0) a1) (Ya (iV a0) e0 (wK f2 (wR (Ym x.v (eh T) ?_)))))))
   refine Ym (iV a0) e0 (Ym (iV j) (eh E) (bE d fun G f3 d => yC (yCall FN_123 (a2 e0 e0)) (modular_mod_ok f3 b) ?_))
   rintro _ w ⟨rfl, b⟩
   refine ⟨_, rfl, ?_⟩
   refine yH (rLt (n := 1) (l := [G]) b SL_48 [iV G] (bp1 e0) rfl rfl (mks1 (cs := [iV G]) rfl mkI mks0)) fun g5 w b => bE d fun g6 f4 d => yH (rAp (b.k17) SL_48 e0 e0 rO1 f4) fun f5 w b => Ya f5.v e0 (wN (f1 _ _ _ (f0 _ _ (wR (yY (yadd (eh F) rfl) (Ym (iV (wa .i64 u 1)) e0 (wN ?_)))))))
   cases d
   exact e4 _ _ _ rfl ⟨_, _, _, _, rfl, rfl, E, S, rfl, U, V, W, X, Z, rfl, (b.k18)⟩
  ·refine wp_exit (e8 _ _ _ rfl ?_)
   cases d
   exact e5 _ _ _ _ rfl rfl (d3 _ _ _ _ E S T U V W (b.facts (allT allI)) (e3 _ rfl))
 ·refine wp_exit (c1 _ _ _ rfl ?_)
  cases c
  exact b8 _ _ _ _ rfl rfl (b2 _ _ _ _ _ J b (b6 _ rfl))
end Go.Proofs.YtpfmbaidflhamaaGreatDoor
