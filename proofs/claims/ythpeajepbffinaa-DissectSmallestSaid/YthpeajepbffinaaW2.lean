/- Walks: each function computes its model, printed. -/
import Derived.Test.YthpeajepbffinaaW1
namespace Go.Proofs.Ythpeajepbffinaa
open Go Sx M
set_option maxRecDepth 100000
set_option maxHeartbeats 40000000
set_option linter.unusedVariables false
attribute [local irreducible] wpList Code.wp Calls DR QR QS LA LS St
variable {w0 : World} {ros : List Fact} {rs : List Res} {w : World}
theorem dissect_border_1_ok {d : Int} {i : LI} {b : Int} {f : Nat} {c : Hdr} {g : Nat} {out : Bool} (h : dissect_border_1 d i b = some out) (j : imm I1 c.v i ∈ ros) (a : St w0 ros (box f 22 [c.v] :: box g 3 [iV b] :: rs) w) :
  Calls Try.prog 81 #[iV d, (pB f), (pB g)] w (fun e w => e = .returned (.bool out) ∧ St w0 ros (box f 22 [c.v] :: box g 3 [iV b] :: rs) w) := by
 refine enterQ Try.func81 rfl Try.ntmps81 rfl fun Q l => sR fun _ m => Ya (.bool false) rfl (wK m (sQ fun _ n => ?_))
 obtain ⟨o, k, h⟩ := bs h
 refine dR [0, 0, 3, 7, 0, 31, 63] [6] 1 folM ?_
 replace a := a.drew
 refine Dn [0, 1, 2, 3, 4, 5] [] [6] (yR rfl (lb_ c.v O_22 e0 a R0) (yR rfl (m_ (iV d) e0) (yR rfl (yIa SL_22 e0 e0 a (rdI j) k) (yR rfl (yI O_3 e0 a (rdI j) k) (yR rfl (lb_ (iV b) O_3 e0 a R1) (yR rfl (yneq e0 e0) (Rn QSn ?_)))))))
 refine Lc1 rfl ?_
 refine Ly wn (a_ (.bool (!(decide (o = b)))) e0) (Dz [] [] (Rn QSn (n _ _ (wp_ret ?_))))
 obtain rfl := someI h
 exact l _ _ _ (fin1r Try.results81 ⟨rfl, rfl⟩ ⟨rfl, a⟩)
theorem slices_IndexFunc_int_v2_ok {m t : LI} {i : Int} {k : Hdr} {g : Nat} {j : Hdr} {h : Nat} {out : Int} (l : slices_IndexFunc_int_v2 m t i = some out) (n : imm I1 k.v m ∈ ros) (H : imm I1 j.v t ∈ ros) (b : St w0 ros (box g 22 [j.v] :: box h 3 [iV i] :: rs) w) :
  Calls Try.prog 61 #[k.v, .func (.func 81) #[] #[(pB g), (pB h)]] w (fun e w => e = .returned (iV out) ∧ St w0 ros (box g 22 [j.v] :: box h 3 [iV i] :: rs) w) := by
 refine enterQ Try.func61 rfl Try.ntmps61 rfl fun Q u => sR fun _ I => Ya (iV 0) rfl (wK I (seqQ fun a6 J K => sR fun _ L => Ym k.v e0 (yY (yLen SL_22 e0 b (rdI n)) (Ym (iV 0) rfl (wK L ?_)))))
 refine blockQ fun x y => ?_
 obtain ⟨z, N, l⟩ := bs l
 have O : ∀ (f : FV) (w : World), St w0 ros (box g 22 [j.v] :: box h 3 [iV i] :: rs) w → .inl () = z → x (.exit 0) (fr 19 f) w := by
  intro f w b ho
  subst ho
  refine y _ _ _ (J _ _ (sR fun _ R => Ya (iV (-1)) rfl (wK R (wp_ret ?_))))
  obtain rfl := someI l
  exact u _ _ _ (fin1r Try.results61 ⟨rfl, rfl⟩ ⟨rfl, b⟩)
 have S : ∀ (o : Int) (f : FV) (w : World), f 4 = iV o → St w0 ros (box g 22 [j.v] :: box h 3 [iV i] :: rs) w → .inr o = z → x .ret (fr 19 f) w := by
  intro o f w T b ho
  subst ho
  refine y _ _ _ (K _ _ _ rfl ?_)
  obtain rfl := someI l
  exact u _ _ _ (fin1r Try.results61 ⟨rfl, T⟩ ⟨rfl, b⟩)
 refine loopQ (fun s a w => ∃ (d : Int) (f : FV), d = s ∧ a = fr 19 f ∧ f 0 = k.v ∧ f 1 = .func (.func 81) #[] #[(pB g), (pB h)] ∧ f 7 = iV (m.length : Int) ∧ f 8 = iV d ∧ St w0 ros (box g 22 [j.v] :: box h 3 [iV i] :: rs) w) N ⟨_, _, rfl, rfl, rfl, rfl, rfl, rfl, b⟩ ?_
 rintro _ _ w a7 ⟨d, f, rfl, rfl, A, B, C, p, b⟩ c D a8 U E
 refine sR fun _ V => yY (ylss (eh p) (eh C)) (wK V (seqQ fun a9 W X => ?_))
 rcases iteS c with ⟨q, c⟩ | ⟨q, c⟩
 ·refine cT e0 q (wp_skip (W _ _ (seqQ fun b0 Z a0 => blockQ fun _ F => sR fun _ a2 => Ym (iV d) (eh p) (Ya (iV d) e0 (wK a2 (sR fun _ a3 => Ym (.func (.func 81) #[] #[(pB g), (pB h)]) (eh B) ?_))))))
  refine Ym k.v (eh A) (Ym (iV d) e0 ?_)
  obtain ⟨b1, G, c⟩ := bs c
  refine yY (yIa SL_22 e0 e0 b (rdI n) G) (yY (yI O_3 e0 b (rdI n) G) ?_)
  obtain ⟨b2, a4, c⟩ := bs c
  refine Yc wn rfl (yCallw FN_81 e0 (a1 e0)) (dissect_border_1_ok a4 H b) ?_
  rintro _ w ⟨rfl, b⟩
  refine ⟨_, rfl, ?_⟩
  refine wK a3 ?_
  rcases iteS c with ⟨r, c⟩ | ⟨r, c⟩
  ·refine condT e0 r (sR fun _ a5 => Ym (iV d) e0 (Ya (iV d) e0 (wK a5 (wp_ret (F _ _ _ (a0 _ _ _ rfl ?_))))))
   obtain rfl := someI c
   exact E _ _ _ _ rfl rfl (S _ _ _ rfl b (D _ rfl))
  ·refine condF e0 (bfalse r) (wp_skip (F _ _ _ (Z _ _ (wR (yY (yadd (eh p) rfl) (Ym (iV (wa .i64 d 1)) e0 (wN ?_)))))))
   obtain rfl := someI c
   exact U _ _ _ rfl ⟨_, _, rfl, rfl, A, B, C, rfl, b⟩
 ·refine cF e0 q (wp_exit (X _ _ _ rfl ?_))
  obtain rfl := someI c
  exact E _ _ _ _ rfl rfl (O _ _ b (D _ rfl))
theorem slices_ContainsFunc_int_v2_ok {i j : LI} {c : Int} {d : Hdr} {a : Nat} {f : Hdr} {b : Nat} {out : Bool} (g : slices_ContainsFunc_int_v2 i j c = some out) (k : imm I1 d.v i ∈ ros) (l : imm I1 f.v j ∈ ros) (h : St w0 ros (box a 22 [f.v] :: box b 3 [iV c] :: rs) w) :
  Calls Try.prog 35 #[d.v, .func (.func 81) #[] #[(pB a), (pB b)]] w (fun e w => e = .returned (.bool out) ∧ St w0 ros (box a 22 [f.v] :: box b 3 [iV c] :: rs) w) := by
 refine enterQ Try.func35 rfl Try.ntmps35 rfl fun Q m => sR fun _ n => Ya (.bool false) rfl (wK n (sR fun _ o => Ym d.v e0 (Ym (.func (.func 81) #[] #[(pB a), (pB b)]) e0 ?_)))
 obtain ⟨p, q, g⟩ := bs g
 refine Yc wn rfl (yCall FN_61 (a2 e0 e0)) (slices_IndexFunc_int_v2_ok q k l h) ?_
 rintro _ w ⟨rfl, h⟩
 refine ⟨_, rfl, ?_⟩
 refine yY (ygeq e0 rfl) (Ya (.bool (decide ((0 : Int) ≤ p))) e0 (wK o (wp_ret ?_)))
 obtain rfl := someI g
 exact m _ _ _ (fin1r Try.results35 ⟨rfl, rfl⟩ ⟨rfl, h⟩)
theorem dissect_border_ok {q : L2} {N : LI} {g : Int} {j i : Hdr} {out : LI} (r : dissect_border q N g = some out) (C : imm S1 j.v q ∈ ros) (t : imm I1 i.v N ∈ ros) (b : St w0 ros rs w) :
  Calls Try.prog 66 #[.agg #[j.v], i.v, iV g] w (fun e w => ∃ (O : Hdr), e = .returned (O.v) ∧ St w0 ros (row 3 I1 O.v out :: rs) w) := by
 refine enterQ Try.func66 rfl Try.ntmps66 rfl fun Q a6 => sR fun _ a7 => YB wn rfl (r_box (vals := [j.v]) b e0 rfl) ?_
 intro e6 w b
 refine YB wn rfl (r_box (vals := [i.v]) b e0 rfl) ?_
 intro k w b
 refine YB wn rfl (r_box (vals := [iV g]) b e0 rfl) ?_
 intro m w b
 refine Ya hnil.v rfl (wK a7 (sR fun _ a8 => Ya hnil.v rfl (wK a8 (sQ fun _ a9 => sR fun _ b0 => yY (yFb FL_27_0 e0) (yY (lb_ j.v O_25 e0 b R2) (yY (yLen SL_25 e0 b (rdI C)) ?_))))))
 refine Ym (iV 0) rfl (wK b0 (blockQ fun b1 b2 => ?_))
 obtain ⟨b3, b4, r⟩ := bs r
 have b5 : ∀ (D : LI) (u : Hdr) (f : FV) (w : World), f 7 = u.v → St w0 ros (row 3 I1 u.v D :: rs) w → D = b3 → b1 (.exit 0) (fr 35 f) w := by
  intro D u f w b9 b ho
  subst ho
  refine b2 _ _ _ (a9 _ _ (sR fun _ c0 => Ym u.v (eh b9) (Ya u.v e0 (wK c0 (wp_ret ?_)))))
  obtain rfl := someI r
  exact a6 _ _ _ (fin1r Try.results66 ⟨rfl, rfl⟩ ⟨_, rfl, b⟩)
 replace b := b.rowNh 3 I1
 refine loopQ (fun s a w => ∃ (A : LI) (d : Int) (f : FV) (p : Hdr), (A, d) = s ∧ a = fr 35 f ∧ f 4 = (pB k) ∧ f 5 = (pB m) ∧ f 7 = p.v ∧ f 11 = j.v ∧ f 12 = iV (q.length : Int) ∧ f 13 = iV d ∧ St w0 ros (box k 22 [i.v] :: box m 3 [iV g] :: row 3 I1 p.v A :: rs) w) b4 ⟨_, _, _, _, rfl, rfl, rfl, rfl, rfl, rfl, rfl, rfl, (b.pk 4 [2, 1, 0] rfl)⟩ ?_
 rintro _ _ w c1 ⟨A, d, f, p, rfl, rfl, x, y, E, F, G, z, b⟩ c c2 e7 c3 c4
 refine sR fun _ c5 => yY (ylss (eh z) (eh G)) (wK c5 (seqQ fun e8 c6 c7 => ?_))
 rcases iteS c with ⟨H, c⟩ | ⟨H, c⟩
 ·refine cT e0 H (wp_skip (c6 _ _ (sQ fun _ c8 => blockQ fun c9 d0 => sR fun _ d1 => Ym (iV d) (eh z) ?_)))
  obtain ⟨e9, R, c⟩ := bs c
  refine yY (yIa SL_25 (eh F) (eh z) b (rdI C) R) ?_
  obtain ⟨S, b⟩ := iLs b C R
  refine yY (yCt O_22 e0 b F1 rfl) (Ya (iV d) e0 (Ya S.v e0 (wK d1 (sQ fun _ d2 => ?_))))
  obtain ⟨T, B, c⟩ := bs c
  obtain ⟨I, o, c⟩ := bs c
  refine joinN (n := 35) (fun f w => f 4 = (pB k) ∧ f 5 = (pB m) ∧ f 7 = p.v ∧ f 8 = iV d ∧ f 11 = j.v ∧ f 12 = iV (q.length : Int) ∧ f 13 = iV d ∧ f 28 = .bool I ∧ St w0 ros (box k 22 [i.v] :: box m 3 [iV g] :: row 3 I1 p.v A :: rs) w) (fun U => ?_) ?_
  ·rcases iteS o with ⟨h, o⟩ | ⟨h, o⟩
   ·obtain ⟨f0, d3, o⟩ := bs o
    have d4 := someI o
    refine dR [0, 0, 3, 7, 0, 31, 63, 127, 127, 511, 1023] [9] 1 folM ?_
    replace b := b.drew
    refine Dn [0, 1, 2, 3, 4, 5, 6, 7, 8] [] [9] (yR rfl (lb_ i.v O_22 (eh x) b R0) (yR rfl (m_ (iV d) e0) (yR rfl (yIa SL_22 e0 e0 b (rdI (F_2 t)) B) (yR rfl (yI O_3 e0 b (rdI (F_2 t)) B) (yR rfl (lb_ (iV g) O_3 (eh y) b R1) (yR rfl (yeql e0 e0) (yR rfl (m_ (.bool (decide (T = g))) e0) (Ry rfl rfl (wG (dT h)) (m_ S.v e0) (Ry rfl rfl (wG (dT h)) (ymf (vf := #[]) (vc := #[(pB k), (pB m)]) a0 (a2 (eh x) (eh y))) (Rn QSn ?_))))))))))
    refine Lc1 rfl ?_
    refine Lk (wG (dT h)) (yCall FN_35 (a2 e0 e0)) (slices_ContainsFunc_int_v2_ok d3 F0 (F_2 t) b) ?_
    rintro _ w ⟨rfl, b⟩
    refine ⟨_, rfl, ?_⟩
    exact Dz [10] [] (yR rfl (pt_ (.bool I) e0 (dT h) (eqv d4 e0)) (Rn QSn (U _ _ ⟨x, y, E, rfl, F, G, z, rfl, (b.facts (allT (allT allI)))⟩)))
   ·have d5 := someI o
    refine dR [0, 0, 3, 7, 0, 31, 63, 127, 127, 511, 1023] [9] 1 folM ?_
    replace b := b.drew
    refine Dn [0, 1, 2, 3, 4, 5, 6, 7, 8] [] [9] (yR rfl (lb_ i.v O_22 (eh x) b R0) (yR rfl (m_ (iV d) e0) (yR rfl (yIa SL_22 e0 e0 b (rdI (F_2 t)) B) (yR rfl (yI O_3 e0 b (rdI (F_2 t)) B) (yR rfl (lb_ (iV g) O_3 (eh y) b R1) (yR rfl (yeql e0 e0) (yR rfl (m_ (.bool (decide (T = g))) e0) (Rx rfl rfl (wX (dF h)) (Rx rfl rfl (wX (dF h)) (Rn QSn ?_))))))))))
    refine Lc1 rfl ?_
    exact Lx (wX (dF h)) (Dz [10] [] (yR rfl (pf_ (.bool I) e0 (dF h) (eqv d5 rfl)) (Rn QSn (U _ _ ⟨x, y, E, rfl, F, G, z, rfl, (b.facts (allT (allT allI)))⟩))))
  rintro f w ⟨V, W, X, d6, Z, a1, a3, a4, b⟩
  refine d2 _ _ ?_
  have a5 : ∀ (J : LI) (K : Hdr) (f : FV) (w : World), f 4 = (pB k) → f 5 = (pB m) → f 7 = K.v → f 11 = j.v → f 12 = iV (q.length : Int) → f 13 = iV d → St w0 ros (box k 22 [i.v] :: box m 3 [iV g] :: row 3 I1 K.v J :: rs) w → dissect_border_j13 d J = some c1 → c9 .normal (fr 35 f) w := by
   intro J K f w d7 d8 d9 e1 e2 e3 b r
   refine d0 _ _ _ (c8 _ _ (wR (yY (yadd (eh e3) rfl) (Ym (iV (wa .i64 d 1)) e0 (wN ?_)))))
   obtain rfl := someI r
   exact c3 _ _ _ rfl ⟨_, _, _, _, rfl, rfl, d7, d8, d9, e1, e2, rfl, b⟩
  rcases iteS c with ⟨L, c⟩ | ⟨L, c⟩
  ·refine condT (eh a4) L (wR (Ym p.v (eh X) (Ym (iV d) (eh d6) (YH wn rfl (rLt (n := 1) (l := [d]) b SL_22 [iV d] (bp1 e0) rfl rfl (mks1 (cs := [iV d]) rfl mkI mks0)) ?_))))
   intro f1 w b
   obtain ⟨f2, e4, c⟩ := bs c
   replace b := b.pk 4 [3, 0, 0, 0] rfl
   refine YH wn rfl (rAp b SL_22 e0 e0 rO1 e4) ?_
   intro e5 w b
   exact Ya e5.v e0 (wN (a5 _ _ _ _ V W rfl Z a1 a3 (b.pk 4 [2, 2, 0] rfl) c))
  ·exact condF (eh a4) (bfalse L) (wp_skip (a5 _ _ _ _ V W X Z a1 a3 b c))
 ·refine cF e0 H (wp_exit (c7 _ _ _ rfl ?_))
  obtain rfl := someI c
  exact c4 _ _ _ _ rfl rfl (b5 _ _ _ _ E (b.pk 3 [2] rfl) (c2 _ rfl))
theorem matrix_within_ok {a c d : Int} {out : Bool} (i : matrix_within a c d = some out) (g : St w0 ros rs w) :
  Calls Try.prog 53 #[iV a, iV c, iV d] w (fun e w => e = .returned (.bool out) ∧ St w0 ros rs w) := by
 refine enterQ Try.func53 rfl Try.ntmps53 rfl fun Q j => sR fun _ k => Ya (.bool false) rfl (wK k (sR fun _ l => Ym (iV a) e0 (Ym (iV c) e0 (yY (ygeq e0 e0) (Ym (.bool (decide (c ≤ a))) e0 ?_)))))
 refine joinW 4 (fun f w => f 14 = .bool ((decide (c ≤ a)) && (decide (a ≤ d))) ∧ St w0 ros rs w) (fun h => ?_) ?_
 ·rcases Bool.eq_false_or_eq_true (decide (c ≤ a)) with b | b
  ·exact yG b (m_ (iV a) e0) (yG b (m_ (iV d) e0) (yG b (yleq e0 e0) (yY (pt_ (.bool (decide (a ≤ d))) e0 b e0) (h _ _ ⟨(congrArg Value.bool (andT b)), g⟩))))
  ·exact gN b (gN b (gN b (yY (pf_ (.bool false) e0 b rfl) (h _ _ ⟨(congrArg Value.bool (andF b)), g⟩))))
 rintro f w ⟨m, g⟩
 refine Ya (.bool ((decide (c ≤ a)) && (decide (a ≤ d)))) (eh m) (wK l (wp_ret ?_))
 obtain rfl := someI i
 exact j _ _ _ (fin1r Try.results53 ⟨rfl, rfl⟩ ⟨rfl, g⟩)
theorem slices_IsSorted_int_ok {k : LI} {g : Hdr} {out : Bool} (i : slices_IsSorted_int k = some out) (h : imm I1 g.v k ∈ ros) (b : St w0 ros rs w) :
  Calls Try.prog 73 #[g.v] w (fun e w => e = .returned (.bool out) ∧ St w0 ros rs w) := by
 refine enterQ Try.func73 rfl Try.ntmps73 rfl fun Q o => sR fun _ A => Ya (.bool false) rfl (wK A (seqQ fun V B C => sR fun _ D => Ym g.v e0 (yY (yLen SL_22 e0 b (rdI h)) (yY (ysub e0 rfl) (Ya (iV (ws .i64 (k.length : Int) 1)) e0 (wN ?_))))))
 refine D _ _ (blockQ fun p q => ?_)
 obtain ⟨r, E, i⟩ := bs i
 have F : ∀ (f : FV) (w : World), St w0 ros rs w → .inl () = r → p (.exit 0) (fr 21 f) w := by
  intro f w b ho
  subst ho
  refine q _ _ _ (B _ _ (sR fun _ G => Ya (.bool true) rfl (wK G (wp_ret ?_))))
  obtain rfl := someI i
  exact o _ _ _ (fin1r Try.results73 ⟨rfl, rfl⟩ ⟨rfl, b⟩)
 have H : ∀ (f : FV) (w : World), f 2 = .bool false → St w0 ros rs w → .inr () = r → p .ret (fr 21 f) w := by
  intro f w I b ho
  subst ho
  refine q _ _ _ (C _ _ _ rfl ?_)
  obtain rfl := someI i
  exact o _ _ _ (fin1r Try.results73 ⟨rfl, I⟩ ⟨rfl, b⟩)
 refine loopQ (fun s a w => ∃ (d : Int) (f : FV), d = s ∧ a = fr 21 f ∧ f 0 = g.v ∧ f 3 = iV d ∧ St w0 ros rs w) E ⟨_, _, rfl, rfl, rfl, rfl, b⟩ ?_
 rintro _ _ w W ⟨d, f, rfl, rfl, l, j, b⟩ c t X J u
 refine seqQ fun Z K L => sR fun _ N => Ym (iV d) (eh j) (yY (ygtr e0 rfl) (wK N ?_))
 rcases iteS c with ⟨m, c⟩ | ⟨m, c⟩
 ·refine cT e0 m (wp_skip (K _ _ (seqQ fun a0 O R => blockQ fun _ x => sQ fun _ S => ?_)))
  obtain ⟨a1, y, c⟩ := bs c
  obtain ⟨a3, z, c⟩ := bs c
  obtain ⟨a4, T, c⟩ := bs c
  refine dR [0, 0, 3, 7, 0, 0, 32, 112, 240, 511] [9] 1 folM ?_
  replace b := b.drew
  refine Dn [0, 1, 2, 3, 4, 5, 6, 7, 8] [] [9] (yR rfl (m_ g.v (eh l)) (yR rfl (m_ (iV d) (eh j)) (yR rfl (yIa SL_22 e0 e0 b (rdI h) y) (yR rfl (yI O_3 e0 b (rdI h) y) (yR rfl (m_ g.v (eh l)) (yR rfl (m_ (iV d) (eh j)) (yR rfl (ysub e0 rfl) (yR rfl (yIa SL_22 e0 e0 b (rdI h) z) (yR rfl (yI O_3 e0 b (rdI h) z) (Rn QSn ?_))))))))))
  refine Lc1 rfl ?_
  refine Lk wn (yCall FN_77 (a2 e0 e0)) (cmp_Less_int_ok T b) ?_
  rintro _ w ⟨rfl, b⟩
  refine ⟨_, rfl, ?_⟩
  refine Dz [] [] (Rn QSn (S _ _ ?_))
  rcases iteS c with ⟨n, c⟩ | ⟨n, c⟩
  ·refine condT e0 n (sR fun _ U => Ya (.bool false) rfl (wK U (wp_ret (x _ _ _ (R _ _ _ rfl ?_)))))
   obtain rfl := someI c
   exact u _ _ _ _ rfl rfl (H _ _ rfl b (t _ rfl))
  ·refine condF e0 (bfalse n) (wp_skip (x _ _ _ (O _ _ (wR (Ym (iV d) (eh j) (yY (ysub e0 rfl) (Ya (iV (ws .i64 d 1)) e0 (wN ?_))))))))
   obtain rfl := someI c
   exact J _ _ _ rfl ⟨_, _, rfl, rfl, l, rfl, b⟩
 ·refine cF e0 m (wp_exit (L _ _ _ rfl ?_))
  obtain rfl := someI c
  exact u _ _ _ _ rfl rfl (F _ _ b (t _ rfl))
theorem matrix_columns_ok {x g : Int} {L b8 c0 : LI} {h l F : Hdr} {out : Bool} (m : matrix_columns x g L b8 c0 = some out) (i : imm I1 h.v L ∈ ros) (T : imm I1 l.v b8 ∈ ros) (f0 : imm (rI .u64) F.v c0 ∈ ros) (b : St w0 ros rs w) :
  Calls Try.prog 54 #[.agg #[iV x, iV g, h.v, l.v, F.v]] w (fun e w => e = .returned (.bool out) ∧ St w0 ros rs w) := by
 refine enterQ Try.func54 rfl Try.ntmps54 rfl fun Q a6 => sR fun _ f1 => YB wn rfl (r_box (vals := [iV x, iV g, h.v, l.v, F.v]) b e0 rfl) ?_
 intro E w b
 refine Ya (.bool false) rfl (wK f1 (seqQ fun l4 f2 f3 => sQ fun _ f4 => ?_))
 obtain ⟨y, N, m⟩ := bs m
 obtain ⟨r, G, m⟩ := bs m
 obtain ⟨p, z, m⟩ := bs m
 obtain ⟨R, A, m⟩ := bs m
 refine joinN (n := 84) (fun f w => f 1 = (pB E) ∧ f 47 = .bool R ∧ St w0 ros (box E 51 [iV x, iV g, h.v, l.v, F.v] :: rs) w) (fun U => ?_) ?_
 ·rcases iteS N with ⟨d, N⟩ | ⟨d, N⟩
  ·obtain ⟨l5, K, N⟩ := bs N
   have W := someI N
   rcases iteS G with ⟨j, G⟩ | ⟨j, G⟩
   ·have c1 := someI G
    have t : r = true := c1.symm
    rw [if_pos t] at z
    have c2 := someI z
    have H : p = true := c2.symm
    rw [if_pos H] at A
    have f5 := someI A
    refine dR [0, 1, 3, 0, 8, 24, 63, 127, 255, 511, 1023, 2047, 4095, 8191, 16383, 32767, 65535, 131071, 262143, 524287, 1048575, 2097151, 4194303, 2097151, 10485759, 33554431, 67108863, 2097151, 136314879, 404750335, 1073741823, 2147483647, 4294967295, 8589934591, 17179869183, 34359738367, 8589934591, 77309411327, 214748364799, 549755813887, 1099511627775] [17] 1 folM ?_
    replace b := b.drew
    refine Dn [0, 1, 2, 3, 4, 5, 6, 7, 8, 9, 10, 11, 12, 13, 14, 15, 16] [] [17] (yR rfl (yFb FL_51_2 e0) (yR rfl (lb_ h.v O_22 e0 b R0) (yR rfl (yLen SL_22 e0 b (rdI i)) (yR rfl (yFb FL_51_1 e0) (yR rfl (lb_ (iV g) O_3 e0 b R0) (yR rfl (yadd e0 rfl) (yR rfl (yneq e0 e0) (yR rfl (m_ (.bool (!(decide ((L.length : Int) = (wa .i64 g 1))))) e0) (Ry rfl rfl (wG (nF (dT d))) (yFb FL_51_2 e0) (Ry rfl rfl (wG (nF (dT d))) (lb_ h.v O_22 e0 b R0) (Ry rfl rfl (wG (nF (dT d))) (yIa SL_22 e0 rfl b (rdI i) K) (Ry rfl rfl (wG (nF (dT d))) (yI O_3 e0 b (rdI i) K) (Ry rfl rfl (wG (nF (dT d))) (yneq e0 rfl) ?_)))))))))))))
    refine yR rfl (pf_ (.bool y) e0 (nF (dT d)) (eqv W e0)) (yR rfl (m_ (.bool y) e0) (Rx rfl rfl (wX j) (Rx rfl rfl (wX j) (Rn QSn ?_))))
    refine Lc1 rfl ?_
    refine Lx (wX j) (Dz [18, 19, 20, 21, 22, 23, 24, 25, 26, 27, 28, 29, 30, 31, 32, 33, 34, 35, 36, 37, 38, 39, 40] [] (Rx rfl rfl (wX j) (yR rfl (pt_ (.bool r) e0 j (eqv c1 rfl)) (yR rfl (m_ (.bool r) e0) (Rx rfl rfl (wX t) (Rx rfl rfl (wX t) (Rx rfl rfl (wX t) (Rx rfl rfl (wX t) (Rx rfl rfl (wX t) (Rx rfl rfl (wX t) (Rx rfl rfl (wX t) (Rx rfl rfl (wX t) (Rx rfl rfl (wX t) ?_)))))))))))))
    exact Rx rfl rfl (wX t) (yR rfl (pt_ (.bool p) e0 t (eqv c2 rfl)) (yR rfl (m_ (.bool p) e0) (Rx rfl rfl (wX H) (Rx rfl rfl (wX H) (Rx rfl rfl (wX H) (Rx rfl rfl (wX H) (Rx rfl rfl (wX H) (Rx rfl rfl (wX H) (Rx rfl rfl (wX H) (yR rfl (pt_ (.bool R) e0 H (eqv f5 rfl)) (Rn QSn (U _ _ ⟨rfl, rfl, b⟩))))))))))))
   ·obtain ⟨l6, a7, G⟩ := bs G
    have a8 := someI G
    rcases iteS z with ⟨c, z⟩ | ⟨c, z⟩
    ·have c3 := someI z
     have I : p = true := c3.symm
     rw [if_pos I] at A
     have f6 := someI A
     refine dR [0, 1, 3, 0, 8, 24, 63, 127, 255, 511, 1023, 2047, 4095, 8191, 16383, 32767, 65535, 131071, 262143, 524287, 1048575, 2097151, 4194303, 2097151, 10485759, 33554431, 67108863, 2097151, 136314879, 404750335, 1073741823, 2147483647, 4294967295, 8589934591, 17179869183, 34359738367, 8589934591, 77309411327, 214748364799, 549755813887, 1099511627775] [17] 1 folM ?_
     replace b := b.drew
     refine Dn [0, 1, 2, 3, 4, 5, 6, 7, 8, 9, 10, 11, 12, 13, 14, 15, 16] [] [17] (yR rfl (yFb FL_51_2 e0) (yR rfl (lb_ h.v O_22 e0 b R0) (yR rfl (yLen SL_22 e0 b (rdI i)) (yR rfl (yFb FL_51_1 e0) (yR rfl (lb_ (iV g) O_3 e0 b R0) (yR rfl (yadd e0 rfl) (yR rfl (yneq e0 e0) (yR rfl (m_ (.bool (!(decide ((L.length : Int) = (wa .i64 g 1))))) e0) (Ry rfl rfl (wG (nF (dT d))) (yFb FL_51_2 e0) (Ry rfl rfl (wG (nF (dT d))) (lb_ h.v O_22 e0 b R0) (Ry rfl rfl (wG (nF (dT d))) (yIa SL_22 e0 rfl b (rdI i) K) (Ry rfl rfl (wG (nF (dT d))) (yI O_3 e0 b (rdI i) K) (Ry rfl rfl (wG (nF (dT d))) (yneq e0 rfl) ?_)))))))))))))
     refine yR rfl (pf_ (.bool y) e0 (nF (dT d)) (eqv W e0)) (yR rfl (m_ (.bool y) e0) (Ry rfl rfl (wG (bfalse j)) (yFb FL_51_2 e0) (Ry rfl rfl (wG (bfalse j)) (lb_ h.v O_22 e0 b R0) (Rn QSn ?_))))
     refine Lc1 rfl ?_
     refine Lk (wG (bfalse j)) (yCall FN_73 (a1 e0)) (slices_IsSorted_int_ok a7 i b) ?_
     rintro _ w ⟨rfl, b⟩
     refine ⟨_, rfl, ?_⟩
     refine Dz [18, 19, 20, 21, 22, 23, 24, 25, 26, 27, 28, 29, 30, 31, 32, 33, 34, 35, 36, 37, 38, 39, 40] [] (Ry rfl rfl (wG (bfalse j)) (ynot e0) (yR rfl (pf_ (.bool r) e0 (bfalse j) (eqv a8 e0)) (yR rfl (m_ (.bool r) e0) (Rx rfl rfl (wX c) (Rx rfl rfl (wX c) (Rx rfl rfl (wX c) (Rx rfl rfl (wX c) (Rx rfl rfl (wX c) (Rx rfl rfl (wX c) (Rx rfl rfl (wX c) (Rx rfl rfl (wX c) (Rx rfl rfl (wX c) (Rx rfl rfl (wX c) ?_)))))))))))))
     exact yR rfl (pt_ (.bool p) e0 c (eqv c3 rfl)) (yR rfl (m_ (.bool p) e0) (Rx rfl rfl (wX I) (Rx rfl rfl (wX I) (Rx rfl rfl (wX I) (Rx rfl rfl (wX I) (Rx rfl rfl (wX I) (Rx rfl rfl (wX I) (Rx rfl rfl (wX I) (yR rfl (pt_ (.bool R) e0 I (eqv f6 rfl)) (Rn QSn (U _ _ ⟨rfl, rfl, b⟩)))))))))))
    ·obtain ⟨l7, X, z⟩ := bs z
     have c4 := someI z
     rcases iteS A with ⟨k, A⟩ | ⟨k, A⟩
     ·have f7 := someI A
      refine dR [0, 1, 3, 0, 8, 24, 63, 127, 255, 511, 1023, 2047, 4095, 8191, 16383, 32767, 65535, 131071, 262143, 524287, 1048575, 2097151, 4194303, 2097151, 10485759, 33554431, 67108863, 2097151, 136314879, 404750335, 1073741823, 2147483647, 4294967295, 8589934591, 17179869183, 34359738367, 8589934591, 77309411327, 214748364799, 549755813887, 1099511627775] [17] 1 folM ?_
      replace b := b.drew
      refine Dn [0, 1, 2, 3, 4, 5, 6, 7, 8, 9, 10, 11, 12, 13, 14, 15, 16] [] [17] (yR rfl (yFb FL_51_2 e0) (yR rfl (lb_ h.v O_22 e0 b R0) (yR rfl (yLen SL_22 e0 b (rdI i)) (yR rfl (yFb FL_51_1 e0) (yR rfl (lb_ (iV g) O_3 e0 b R0) (yR rfl (yadd e0 rfl) (yR rfl (yneq e0 e0) (yR rfl (m_ (.bool (!(decide ((L.length : Int) = (wa .i64 g 1))))) e0) (Ry rfl rfl (wG (nF (dT d))) (yFb FL_51_2 e0) (Ry rfl rfl (wG (nF (dT d))) (lb_ h.v O_22 e0 b R0) (Ry rfl rfl (wG (nF (dT d))) (yIa SL_22 e0 rfl b (rdI i) K) (Ry rfl rfl (wG (nF (dT d))) (yI O_3 e0 b (rdI i) K) (Ry rfl rfl (wG (nF (dT d))) (yneq e0 rfl) ?_)))))))))))))
      refine yR rfl (pf_ (.bool y) e0 (nF (dT d)) (eqv W e0)) (yR rfl (m_ (.bool y) e0) (Ry rfl rfl (wG (bfalse j)) (yFb FL_51_2 e0) (Ry rfl rfl (wG (bfalse j)) (lb_ h.v O_22 e0 b R0) (Rn QSn ?_))))
      refine Lc1 rfl ?_
      refine Lk (wG (bfalse j)) (yCall FN_73 (a1 e0)) (slices_IsSorted_int_ok a7 i b) ?_
      rintro _ w ⟨rfl, b⟩
      refine ⟨_, rfl, ?_⟩
      refine Dz [18, 19, 20, 21, 22, 23, 24, 25, 26, 27, 28, 29, 30, 31, 32, 33, 34, 35, 36, 37, 38, 39, 40] [] (Ry rfl rfl (wG (bfalse j)) (ynot e0) (yR rfl (pf_ (.bool r) e0 (bfalse j) (eqv a8 e0)) (yR rfl (m_ (.bool r) e0) (Ry rfl rfl (wG (bfalse c)) (yFb FL_51_2 e0) (Ry rfl rfl (wG (bfalse c)) (lb_ h.v O_22 e0 b R0) (Ry rfl rfl (wG (bfalse c)) (yFb FL_51_1 e0) (Ry rfl rfl (wG (bfalse c)) (lb_ (iV g) O_3 e0 b R0) (Ry rfl rfl (wG (bfalse c)) (yIa SL_22 e0 e0 b (rdI i) X) (Ry rfl rfl (wG (bfalse c)) (yI O_3 e0 b (rdI i) X) (Ry rfl rfl (wG (bfalse c)) (yFb FL_51_3 e0) (Ry rfl rfl (wG (bfalse c)) (lb_ l.v O_22 e0 b R0) (Ry rfl rfl (wG (bfalse c)) (yLen SL_22 e0 b (rdI T)) (Ry rfl rfl (wG (bfalse c)) (yneq e0 e0) ?_)))))))))))))
      exact yR rfl (pf_ (.bool p) e0 (bfalse c) (eqv c4 e0)) (yR rfl (m_ (.bool p) e0) (Rx rfl rfl (wX k) (Rx rfl rfl (wX k) (Rx rfl rfl (wX k) (Rx rfl rfl (wX k) (Rx rfl rfl (wX k) (Rx rfl rfl (wX k) (Rx rfl rfl (wX k) (yR rfl (pt_ (.bool R) e0 k (eqv f7 rfl)) (Rn QSn (U _ _ ⟨rfl, rfl, b⟩)))))))))))
     ·have f8 := someI A
      refine dR [0, 1, 3, 0, 8, 24, 63, 127, 255, 511, 1023, 2047, 4095, 8191, 16383, 32767, 65535, 131071, 262143, 524287, 1048575, 2097151, 4194303, 2097151, 10485759, 33554431, 67108863, 2097151, 136314879, 404750335, 1073741823, 2147483647, 4294967295, 8589934591, 17179869183, 34359738367, 8589934591, 77309411327, 214748364799, 549755813887, 1099511627775] [17] 1 folM ?_
      replace b := b.drew
      refine Dn [0, 1, 2, 3, 4, 5, 6, 7, 8, 9, 10, 11, 12, 13, 14, 15, 16] [] [17] (yR rfl (yFb FL_51_2 e0) (yR rfl (lb_ h.v O_22 e0 b R0) (yR rfl (yLen SL_22 e0 b (rdI i)) (yR rfl (yFb FL_51_1 e0) (yR rfl (lb_ (iV g) O_3 e0 b R0) (yR rfl (yadd e0 rfl) (yR rfl (yneq e0 e0) (yR rfl (m_ (.bool (!(decide ((L.length : Int) = (wa .i64 g 1))))) e0) (Ry rfl rfl (wG (nF (dT d))) (yFb FL_51_2 e0) (Ry rfl rfl (wG (nF (dT d))) (lb_ h.v O_22 e0 b R0) (Ry rfl rfl (wG (nF (dT d))) (yIa SL_22 e0 rfl b (rdI i) K) (Ry rfl rfl (wG (nF (dT d))) (yI O_3 e0 b (rdI i) K) (Ry rfl rfl (wG (nF (dT d))) (yneq e0 rfl) ?_)))))))))))))
      refine yR rfl (pf_ (.bool y) e0 (nF (dT d)) (eqv W e0)) (yR rfl (m_ (.bool y) e0) (Ry rfl rfl (wG (bfalse j)) (yFb FL_51_2 e0) (Ry rfl rfl (wG (bfalse j)) (lb_ h.v O_22 e0 b R0) (Rn QSn ?_))))
      refine Lc1 rfl ?_
      refine Lk (wG (bfalse j)) (yCall FN_73 (a1 e0)) (slices_IsSorted_int_ok a7 i b) ?_
      rintro _ w ⟨rfl, b⟩
      refine ⟨_, rfl, ?_⟩
      refine Dz [18, 19, 20, 21, 22, 23, 24, 25, 26, 27, 28, 29, 30, 31, 32, 33, 34, 35, 36, 37, 38, 39, 40] [] (Ry rfl rfl (wG (bfalse j)) (ynot e0) (yR rfl (pf_ (.bool r) e0 (bfalse j) (eqv a8 e0)) (yR rfl (m_ (.bool r) e0) (Ry rfl rfl (wG (bfalse c)) (yFb FL_51_2 e0) (Ry rfl rfl (wG (bfalse c)) (lb_ h.v O_22 e0 b R0) (Ry rfl rfl (wG (bfalse c)) (yFb FL_51_1 e0) (Ry rfl rfl (wG (bfalse c)) (lb_ (iV g) O_3 e0 b R0) (Ry rfl rfl (wG (bfalse c)) (yIa SL_22 e0 e0 b (rdI i) X) (Ry rfl rfl (wG (bfalse c)) (yI O_3 e0 b (rdI i) X) (Ry rfl rfl (wG (bfalse c)) (yFb FL_51_3 e0) (Ry rfl rfl (wG (bfalse c)) (lb_ l.v O_22 e0 b R0) (Ry rfl rfl (wG (bfalse c)) (yLen SL_22 e0 b (rdI T)) (Ry rfl rfl (wG (bfalse c)) (yneq e0 e0) ?_)))))))))))))
      exact yR rfl (pf_ (.bool p) e0 (bfalse c) (eqv c4 e0)) (yR rfl (m_ (.bool p) e0) (Ry rfl rfl (wG (bfalse k)) (yFb FL_51_3 e0) (Ry rfl rfl (wG (bfalse k)) (lb_ l.v O_22 e0 b R0) (Ry rfl rfl (wG (bfalse k)) (yLen SL_22 e0 b (rdI T)) (Ry rfl rfl (wG (bfalse k)) (yFb FL_51_4 e0) (Ry rfl rfl (wG (bfalse k)) (lb_ F.v O_49 e0 b R0) (Ry rfl rfl (wG (bfalse k)) (yLen SL_49 e0 b (rdI f0)) (Ry rfl rfl (wG (bfalse k)) (yneq e0 e0) (yR rfl (pf_ (.bool R) e0 (bfalse k) (eqv f8 e0)) (Rn QSn (U _ _ ⟨rfl, rfl, b⟩)))))))))))
  ·have c5 := someI N
   have S : y = true := c5.symm
   rw [if_pos S] at G
   have c6 := someI G
   have u : r = true := c6.symm
   rw [if_pos u] at z
   have c7 := someI z
   have J : p = true := c7.symm
   rw [if_pos J] at A
   have f9 := someI A
   refine dR [0, 1, 3, 0, 8, 24, 63, 127, 255, 511, 1023, 2047, 4095, 8191, 16383, 32767, 65535, 131071, 262143, 524287, 1048575, 2097151, 4194303, 2097151, 10485759, 33554431, 67108863, 2097151, 136314879, 404750335, 1073741823, 2147483647, 4294967295, 8589934591, 17179869183, 34359738367, 8589934591, 77309411327, 214748364799, 549755813887, 1099511627775] [17] 1 folM ?_
   replace b := b.drew
   refine Dn [0, 1, 2, 3, 4, 5, 6, 7, 8, 9, 10, 11, 12, 13, 14, 15, 16] [] [17] (yR rfl (yFb FL_51_2 e0) (yR rfl (lb_ h.v O_22 e0 b R0) (yR rfl (yLen SL_22 e0 b (rdI i)) (yR rfl (yFb FL_51_1 e0) (yR rfl (lb_ (iV g) O_3 e0 b R0) (yR rfl (yadd e0 rfl) (yR rfl (yneq e0 e0) (yR rfl (m_ (.bool (!(decide ((L.length : Int) = (wa .i64 g 1))))) e0) (Rx rfl rfl (wX (nT (dF d))) (Rx rfl rfl (wX (nT (dF d))) (Rx rfl rfl (wX (nT (dF d))) (Rx rfl rfl (wX (nT (dF d))) (Rx rfl rfl (wX (nT (dF d))) ?_)))))))))))))
   refine yR rfl (pt_ (.bool y) e0 (nT (dF d)) (eqv c5 rfl)) (yR rfl (m_ (.bool y) e0) (Rx rfl rfl (wX S) (Rx rfl rfl (wX S) (Rn QSn ?_))))
   refine Lc1 rfl ?_
   refine Lx (wX S) (Dz [18, 19, 20, 21, 22, 23, 24, 25, 26, 27, 28, 29, 30, 31, 32, 33, 34, 35, 36, 37, 38, 39, 40] [] (Rx rfl rfl (wX S) (yR rfl (pt_ (.bool r) e0 S (eqv c6 rfl)) (yR rfl (m_ (.bool r) e0) (Rx rfl rfl (wX u) (Rx rfl rfl (wX u) (Rx rfl rfl (wX u) (Rx rfl rfl (wX u) (Rx rfl rfl (wX u) (Rx rfl rfl (wX u) (Rx rfl rfl (wX u) (Rx rfl rfl (wX u) (Rx rfl rfl (wX u) ?_)))))))))))))
   exact Rx rfl rfl (wX u) (yR rfl (pt_ (.bool p) e0 u (eqv c7 rfl)) (yR rfl (m_ (.bool p) e0) (Rx rfl rfl (wX J) (Rx rfl rfl (wX J) (Rx rfl rfl (wX J) (Rx rfl rfl (wX J) (Rx rfl rfl (wX J) (Rx rfl rfl (wX J) (Rx rfl rfl (wX J) (yR rfl (pt_ (.bool R) e0 J (eqv f9 rfl)) (Rn QSn (U _ _ ⟨rfl, rfl, b⟩))))))))))))
 rintro f w ⟨c8, c9, b⟩
 refine f4 _ _ ?_
 rcases iteS m with ⟨a9, m⟩ | ⟨a9, m⟩
 ·refine condT (eh c9) a9 (sR fun _ g0 => Ya (.bool false) rfl (wK g0 (wp_ret (f3 _ _ _ rfl ?_))))
  obtain rfl := someI m
  exact a6 _ _ _ (fin1r Try.results54 ⟨rfl, rfl⟩ ⟨rfl, (b.pk 1 [] rfl)⟩)
 ·refine condF (eh c9) (bfalse a9) (wp_skip (f2 _ _ (seqQ fun l8 g1 g2 => sR fun _ g3 => yY (yFb FL_51_1 (eh c8)) (yY (lb_ (iV g) O_3 e0 b R0) (Ym (iV 0) rfl (wK g3 (blockQ fun d0 d1 => ?_)))))))
  obtain ⟨d2, g4, m⟩ := bs m
  have g5 : ∀ (f : FV) (w : World), St w0 ros rs w → .inl () = d2 → d0 (.exit 0) (fr 84 f) w := by
   intro f w b ho
   subst ho
   refine d1 _ _ _ (g1 _ _ (sR fun _ g6 => Ya (.bool true) rfl (wK g6 (wp_ret ?_))))
   obtain rfl := someI m
   exact a6 _ _ _ (fin1r Try.results54 ⟨rfl, rfl⟩ ⟨rfl, b⟩)
  have g7 : ∀ (f : FV) (w : World), f 2 = .bool false → St w0 ros rs w → .inr () = d2 → d0 .ret (fr 84 f) w := by
   intro f w g8 b ho
   subst ho
   refine d1 _ _ _ (g2 _ _ _ rfl ?_)
   obtain rfl := someI m
   exact a6 _ _ _ (fin1r Try.results54 ⟨rfl, g8⟩ ⟨rfl, b⟩)
  refine loopQ (fun s a w => ∃ (B : Int) (f : FV), B = s ∧ a = fr 84 f ∧ f 1 = (pB E) ∧ f 49 = iV g ∧ f 50 = iV B ∧ St w0 ros (box E 51 [iV x, iV g, h.v, l.v, F.v] :: rs) w) g4 ⟨_, _, rfl, rfl, c8, rfl, rfl, b⟩ ?_
  rintro _ _ w l9 ⟨B, f, rfl, rfl, Z, d3, b0, b⟩ o d4 m0 g9 d5
  refine sR fun _ h0 => yY (ylss (eh b0) (eh d3)) (wK h0 (seqQ fun m1 h1 h2 => ?_))
  rcases iteS o with ⟨b1, o⟩ | ⟨b1, o⟩
  ·refine cT e0 b1 (wp_skip (h1 _ _ (seqQ fun m2 h3 h5 => blockQ fun _ d6 => sR fun _ h7 => Ym (iV B) (eh b0) (Ya (iV B) e0 (wK h7 (sR fun _ h9 => Ya (iV (-1)) rfl ?_))))))
   refine wK h9 (sQ fun _ i0 => ?_)
   obtain ⟨a0, d7, o⟩ := bs o
   obtain ⟨a2, d8, o⟩ := bs o
   obtain ⟨a3, d9, o⟩ := bs o
   refine dR [0, 1, 0, 4, 0, 28, 60, 0, 128, 0, 512, 1920, 3968, 8191, 16383, 0] [] 0 folM ?_
   replace b := b.drew
   refine Dz [0, 1, 2, 3, 4, 5, 6, 7, 8, 9, 10, 11, 12, 13, 14, 15] [] (yR rfl (yFb FL_51_3 (eh Z)) (yR rfl (lb_ l.v O_22 e0 b R0) (yR rfl (yFb FL_51_2 (eh Z)) (yR rfl (lb_ h.v O_22 e0 b R0) (yR rfl (m_ (iV B) e0) (yR rfl (yIa SL_22 e0 e0 b (rdI i) d7) (yR rfl (yI O_3 e0 b (rdI i) d7) (yR rfl (yFb FL_51_2 (eh Z)) (yR rfl (lb_ h.v O_22 e0 b R0) (yR rfl (m_ (iV B) e0) (yR rfl (yadd e0 rfl) (yR rfl (yIa SL_22 e0 e0 b (rdI i) d8) (yR rfl (yI O_3 e0 b (rdI i) d8) ?_)))))))))))))
   refine yR rfl (ySl SL_22 e0 b (rdI T) (.inl (congrArg some e0)) (.inl (congrArg some e0)) d9) ?_
   replace b := b.sub T d9
   refine yR rfl (yLen SL_22 e0 b (rdI F0)) (yR rfl (m_ (iV 0) rfl) (Rn QSn (i0 _ _ (blockQ fun e1 e2 => ?_))))
   obtain ⟨e3, i1, o⟩ := bs o
   have i2 : ∀ (f : FV) (w : World), f 1 = (pB E) → f 49 = iV g → f 50 = iV B → St w0 ros (box E 51 [iV x, iV g, h.v, l.v, F.v] :: rs) w → .inl () = e3 → e1 (.exit 2) (fr 84 f) w := by
    intro f w i3 i4 i5 b ho
    subst ho
    refine e2 _ _ _ (d6 _ _ _ (h3 _ _ (wR (yY (yadd (eh i5) rfl) (Ym (iV (wa .i64 B 1)) e0 (wN ?_))))))
    obtain rfl := someI o
    exact g9 _ _ _ rfl ⟨_, _, rfl, rfl, i3, i4, rfl, b⟩
   have i6 : ∀ (f : FV) (w : World), f 2 = .bool false → St w0 ros rs w → .inr () = e3 → e1 .ret (fr 84 f) w := by
    intro f w i7 b ho
    subst ho
    refine e2 _ _ _ (d6 _ _ _ (h5 _ _ _ rfl ?_))
    obtain rfl := someI o
    exact d5 _ _ _ _ rfl rfl (g7 _ _ i7 b (d4 _ rfl))
   refine loopQ (fun s a w => ∃ (O V : Int) (f : FV), (O, V) = s ∧ a = fr 84 f ∧ f 1 = (pB E) ∧ f 4 = iV O ∧ f 49 = iV g ∧ f 50 = iV B ∧ f 66 = (subH l 1 a0 a2).v ∧ f 67 = iV (a3.length : Int) ∧ f 68 = iV V ∧ St w0 (imm I1 (subH l 1 a0 a2).v a3 :: ros) (box E 51 [iV x, iV g, h.v, l.v, F.v] :: rs) w) i1 ⟨_, _, _, rfl, rfl, Z, rfl, d3, b0, rfl, rfl, rfl, b⟩ ?_
   rintro _ _ w m3 ⟨O, V, f, rfl, rfl, a4, i8, b2, b3, b4, b5, a5, b⟩ C e4 m4 i9 e5
   refine sR fun _ j0 => yY (ylss (eh a5) (eh b5)) (wK j0 (seqQ fun m5 j2 j3 => ?_))
   rcases iteS C with ⟨b6, C⟩ | ⟨b6, C⟩
   ·refine cT e0 b6 (wp_skip (j2 _ _ (seqQ fun m6 j4 j5 => blockQ fun _ e6 => sR fun _ j6 => ?_)))
    obtain ⟨D, e7, C⟩ := bs C
    refine yY (yIa SL_22 (eh b4) (eh a5) b (rdI F0) e7) (yY (yI O_3 e0 b (rdI F0) e7) (Ya (iV D) e0 (wK j6 (seqQ fun m7 j7 j8 => sR fun _ j9 => Ym (iV D) e0 (Ym (iV O) (eh i8) (yY (yleq e0 e0) (Ym (.bool (decide (D ≤ O))) e0 ?_)))))))
    refine joinW 5 (fun f w => f 1 = (pB E) ∧ f 6 = iV D ∧ f 49 = iV g ∧ f 50 = iV B ∧ f 66 = (subH l 1 a0 a2).v ∧ f 67 = iV (a3.length : Int) ∧ f 68 = iV V ∧ f 80 = .bool ((decide (D ≤ O)) || (decide (x ≤ D))) ∧ St w0 (imm I1 (subH l 1 a0 a2).v a3 :: ros) (box E 51 [iV x, iV g, h.v, l.v, F.v] :: rs) w) (fun e8 => ?_) ?_
    ·rcases Bool.eq_false_or_eq_true (decide (D ≤ O)) with q | q
     ·exact gN q (gN q (gN q (gN q (yY (pt_ (.bool true) e0 q rfl) (e8 _ _ ⟨a4, rfl, b2, b3, b4, b5, a5, (congrArg Value.bool (orT q)), b⟩)))))
     ·exact yG q (m_ (iV D) e0) (yG q (yFb FL_51_0 (eh a4)) (yG q (lb_ (iV x) O_3 e0 b R0) (yG q (ygeq e0 e0) (yY (pf_ (.bool (decide (x ≤ D))) e0 q e0) (e8 _ _ ⟨a4, rfl, b2, b3, b4, b5, a5, (congrArg Value.bool (orF q)), b⟩)))))
    rintro f w ⟨k0, k7, k8, k9, l0, l1, l2, e9, b⟩
    refine wK j9 ?_
    rcases iteS C with ⟨b7, C⟩ | ⟨b7, C⟩
    ·refine condT (eh e9) b7 (sR fun _ l3 => Ya (.bool false) rfl (wK l3 (wp_ret (j8 _ _ _ rfl (e6 _ _ _ (j5 _ _ _ rfl ?_))))))
     obtain rfl := someI C
     exact e5 _ _ _ _ rfl rfl (i6 _ _ rfl ((b.pk 1 [] rfl).facts (allT allI)) (e4 _ rfl))
    ·refine condF (eh e9) (bfalse b7) (wp_skip (j7 _ _ (wR (Ym (iV D) (eh k7) (Ya (iV D) e0 (wN (e6 _ _ _ (j4 _ _ (wR (yY (yadd (eh l2) rfl) (Ym (iV (wa .i64 V 1)) e0 (wN ?_))))))))))))
     obtain rfl := someI C
     exact i9 _ _ _ rfl ⟨_, _, _, rfl, rfl, k0, rfl, k8, k9, l0, l1, rfl, b⟩
   ·refine cF e0 b6 (wp_exit (j3 _ _ _ rfl ?_))
    obtain rfl := someI C
    exact e5 _ _ _ _ rfl rfl (i2 _ _ a4 b2 b3 (b.facts (allT allI)) (e4 _ rfl))
  ·refine cF e0 b1 (wp_exit (h2 _ _ _ rfl ?_))
   obtain rfl := someI o
   exact d5 _ _ _ _ rfl rfl (g5 _ _ (b.pk 1 [] rfl) (d4 _ rfl))
theorem float_parts_ok {a : Int} {out : Int × Int} (b : float_parts a = some out) (c : St w0 ros rs w) :
  Calls Try.prog 75 #[.int .u64 a] w (fun e w => e = .returned (.tuple #[iV out.1, .int .u64 out.2]) ∧ St w0 ros rs w) := by
 refine enterQ Try.func75 rfl Try.ntmps75 rfl fun Q d => sR fun _ f => Ya (iV 0) rfl (Ya (.int .u64 0) rfl (wK f (sR fun _ g => Ym (.int .u64 a) e0 (yY (yshrc e0 rfl) (yY (yand e0 rfl) (yY (ycv (k' := .i64) (by kernel_rfl) (by kernel_rfl) e0) (Ym (.int .u64 a) e0 ?_)))))))
 refine yY (yand e0 rfl) (Ya (iV (wc .i64 (wand .u64 (wsrc .u64 a 52) 2047))) e0 (Ya (.int .u64 (wand .u64 a 4503599627370495)) e0 (wK g (wp_ret ?_))))
 obtain rfl := someI b
 exact d _ _ _ (fin2r Try.results75 ⟨rfl, rfl⟩ ⟨rfl, rfl⟩ ⟨rfl, c⟩)
theorem float_IsFinite_ok {b : Int} {out : Bool} (c : float_IsFinite b = some out) (d : St w0 ros rs w) :
  Calls Try.prog 57 #[.int .u64 b] w (fun e w => e = .returned (.bool out) ∧ St w0 ros rs w) := by
 refine enterQ Try.func57 rfl Try.ntmps57 rfl fun Q f => sR fun _ g => Ya (.bool false) rfl (wK g (sR fun _ h => Ym (.int .u64 b) e0 ?_))
 obtain ⟨a, i, c⟩ := bs c
 refine Yc wn rfl (yCall FN_75 (a1 e0)) (float_parts_ok i d) ?_
 rintro _ w ⟨rfl, d⟩
 refine ⟨_, rfl, ?_⟩
 refine Ym (.tuple #[iV a.1, .int .u64 a.2]) e0 (yY (x_ (iV a.1) e0) (yY (x_ (.int .u64 a.2) e0) (Ya (iV a.1) e0 (Ya (.int .u64 a.2) e0 (wK h (sR fun _ j => Ym (iV a.1) e0 (yY (yneq e0 rfl) (Ya (.bool (!(decide (a.1 = 2047)))) e0 (wK j ?_)))))))))
 refine wp_ret ?_
 obtain rfl := someI c
 exact f _ _ _ (fin1r Try.results57 ⟨rfl, rfl⟩ ⟨rfl, d⟩)
theorem matrix_Check_1_ok {a : Int} {out : Bool} (b : matrix_Check_1 a = some out) (c : St w0 ros rs w) :
  Calls Try.prog 56 #[.int .u64 a] w (fun e w => e = .returned (.bool out) ∧ St w0 ros rs w) := by
 refine enterQ Try.func56 rfl Try.ntmps56 rfl fun Q d => sR fun _ f => Ya (.bool false) rfl (wK f (sR fun _ g => Ym (.int .u64 a) e0 ?_))
 obtain ⟨h, i, b⟩ := bs b
 refine Yc wn rfl (yCall FN_57 (a1 e0)) (float_IsFinite_ok i c) ?_
 rintro _ w ⟨rfl, c⟩
 refine ⟨_, rfl, ?_⟩
 refine yY (ynot e0) (Ya (.bool (!h)) e0 (wK g (wp_ret ?_)))
 obtain rfl := someI b
 exact d _ _ _ (fin1r Try.results56 ⟨rfl, rfl⟩ ⟨rfl, c⟩)
theorem slices_IndexFunc_apiFloat_ok {i : LI} {g : Hdr} {out : Int} (h : slices_IndexFunc_apiFloat i = some out) (j : imm (rI .u64) g.v i ∈ ros) (b : St w0 ros rs w) :
  Calls Try.prog 74 #[g.v, .func (.func 56) #[] #[]] w (fun e w => e = .returned (iV out) ∧ St w0 ros rs w) := by
 refine enterQ Try.func74 rfl Try.ntmps74 rfl fun Q o => sR fun _ C => Ya (iV 0) rfl (wK C (seqQ fun Z D E => sR fun _ F => Ym g.v e0 (yY (yLen SL_49 e0 b (rdI j)) (Ym (iV 0) rfl (wK F ?_)))))
 refine blockQ fun p q => ?_
 obtain ⟨r, G, h⟩ := bs h
 have H : ∀ (f : FV) (w : World), St w0 ros rs w → .inl () = r → p (.exit 0) (fr 19 f) w := by
  intro f w b ho
  subst ho
  refine q _ _ _ (D _ _ (sR fun _ I => Ya (iV (-1)) rfl (wK I (wp_ret ?_))))
  obtain rfl := someI h
  exact o _ _ _ (fin1r Try.results74 ⟨rfl, rfl⟩ ⟨rfl, b⟩)
 have J : ∀ (k : Int) (f : FV) (w : World), f 4 = iV k → St w0 ros rs w → .inr k = r → p .ret (fr 19 f) w := by
  intro k f w K b ho
  subst ho
  refine q _ _ _ (E _ _ _ rfl ?_)
  obtain rfl := someI h
  exact o _ _ _ (fin1r Try.results74 ⟨rfl, K⟩ ⟨rfl, b⟩)
 refine loopQ (fun s a w => ∃ (d : Int) (f : FV), d = s ∧ a = fr 19 f ∧ f 0 = g.v ∧ f 1 = .func (.func 56) #[] #[] ∧ f 7 = iV (i.length : Int) ∧ f 8 = iV d ∧ St w0 ros rs w) G ⟨_, _, rfl, rfl, rfl, rfl, rfl, rfl, b⟩ ?_
 rintro _ _ w a0 ⟨d, f, rfl, rfl, t, u, x, l, b⟩ c y a2 L z
 refine sR fun _ N => yY (ylss (eh l) (eh x)) (wK N (seqQ fun a3 O R => ?_))
 rcases iteS c with ⟨m, c⟩ | ⟨m, c⟩
 ·refine cT e0 m (wp_skip (O _ _ (seqQ fun a4 S T => blockQ fun _ A => sR fun _ U => Ym (iV d) (eh l) (Ya (iV d) e0 (wK U (sR fun _ V => Ym (.func (.func 56) #[] #[]) (eh u) ?_))))))
  refine Ym g.v (eh t) (Ym (iV d) e0 ?_)
  obtain ⟨a5, B, c⟩ := bs c
  refine yY (yIa SL_49 e0 e0 b (rdI j) B) (yY (yI O_45 e0 b (rdI j) B) ?_)
  obtain ⟨a6, W, c⟩ := bs c
  refine Yc wn rfl (yCallw FN_56 e0 (a1 e0)) (matrix_Check_1_ok W b) ?_
  rintro _ w ⟨rfl, b⟩
  refine ⟨_, rfl, ?_⟩
  refine wK V ?_
  rcases iteS c with ⟨n, c⟩ | ⟨n, c⟩
  ·refine condT e0 n (sR fun _ X => Ym (iV d) e0 (Ya (iV d) e0 (wK X (wp_ret (A _ _ _ (T _ _ _ rfl ?_))))))
   obtain rfl := someI c
   exact z _ _ _ _ rfl rfl (J _ _ _ rfl b (y _ rfl))
  ·refine condF e0 (bfalse n) (wp_skip (A _ _ _ (S _ _ (wR (yY (yadd (eh l) rfl) (Ym (iV (wa .i64 d 1)) e0 (wN ?_)))))))
   obtain rfl := someI c
   exact L _ _ _ rfl ⟨_, _, rfl, rfl, t, u, x, rfl, b⟩
 ·refine cF e0 m (wp_exit (R _ _ _ rfl ?_))
  obtain rfl := someI c
  exact z _ _ _ _ rfl rfl (H _ _ b (y _ rfl))
theorem slices_ContainsFunc_apiFloat_ok {d : LI} {a : Hdr} {out : Bool} (b : slices_ContainsFunc_apiFloat d = some out) (f : imm (rI .u64) a.v d ∈ ros) (c : St w0 ros rs w) :
  Calls Try.prog 55 #[a.v, .func (.func 56) #[] #[]] w (fun e w => e = .returned (.bool out) ∧ St w0 ros rs w) := by
 refine enterQ Try.func55 rfl Try.ntmps55 rfl fun Q g => sR fun _ h => Ya (.bool false) rfl (wK h (sR fun _ i => Ym a.v e0 (Ym (.func (.func 56) #[] #[]) e0 ?_)))
 obtain ⟨j, k, b⟩ := bs b
 refine Yc wn rfl (yCall FN_74 (a2 e0 e0)) (slices_IndexFunc_apiFloat_ok k f c) ?_
 rintro _ w ⟨rfl, c⟩
 refine ⟨_, rfl, ?_⟩
 refine yY (ygeq e0 rfl) (Ya (.bool (decide ((0 : Int) ≤ j))) e0 (wK i (wp_ret ?_)))
 obtain rfl := someI b
 exact g _ _ _ (fin1r Try.results55 ⟨rfl, rfl⟩ ⟨rfl, c⟩)
theorem matrix_Check_ok {g h : Int} {y m z : LI} {l i j : Hdr} {out : Int} (b : matrix_Check g h y m z = some out) (F : imm I1 l.v y ∈ ros) (A : imm I1 i.v m ∈ ros) (B : imm (rI .u64) j.v z ∈ ros) (a : St w0 ros rs w) :
  Calls Try.prog 33 #[.agg #[iV g, iV h, l.v, i.v, j.v]] w (fun e w => e = .returned (iV out) ∧ St w0 ros rs w) := by
 refine enterQ Try.func33 rfl Try.ntmps33 rfl fun Q o => sR fun _ G => YB wn rfl (r_box (vals := [iV g, iV h, l.v, i.v, j.v]) a e0 rfl) ?_
 intro p w a
 refine Ya (iV 0) rfl (wK G (seqQ fun a6 H r => blockQ fun _ q => sR fun _ I => yY (yFb FL_51_0 e0) (yY (lb_ (iV g) O_3 e0 a R0) ?_)))
 obtain ⟨J, K, b⟩ := bs b
 refine Yc wn rfl (yCall FN_53 (a3 e0 rfl rfl)) (matrix_within_ok K a) ?_
 rintro _ w ⟨rfl, a⟩
 refine ⟨_, rfl, ?_⟩
 refine yY (ynot e0) (Ym (.bool (!J)) e0 ?_)
 obtain ⟨n, k, b⟩ := bs b
 refine joinW 5 (fun f w => f 1 = (pB p) ∧ f 13 = .bool n ∧ St w0 ros (box p 51 [iV g, iV h, l.v, i.v, j.v] :: rs) w) (fun C => ?_) ?_
 ·rcases iteS k with ⟨d, k⟩ | ⟨d, k⟩
  ·refine yG (nF d) (yFb FL_51_1 e0) (yG (nF d) (lb_ (iV h) O_3 e0 a R0) ?_)
   obtain ⟨L, N, k⟩ := bs k
   refine Yc (wG (nF d)) rfl (yCall FN_53 (a3 e0 rfl rfl)) (matrix_within_ok N a) ?_
   rintro _ w ⟨rfl, a⟩
   refine ⟨_, rfl, ?_⟩
   refine yG (nF d) (ynot e0) (yY (pf_ (.bool (!L)) e0 (nF d) e0) ?_)
   obtain rfl := someI k
   exact C _ _ ⟨rfl, rfl, a⟩
  ·refine gN (nT (bfalse d)) (gN (nT (bfalse d)) (gN (nT (bfalse d)) (gN (nT (bfalse d)) (yY (pt_ (.bool true) e0 (nT (bfalse d)) rfl) ?_))))
   obtain rfl := someI k
   exact C _ _ ⟨rfl, rfl, a⟩
 rintro f w ⟨s, O, a⟩
 refine Ym (.bool n) (eh O) ?_
 refine joinW 5 (fun f w => f 1 = (pB p) ∧ f 19 = .bool (n || (decide ((10000 : Int) < (m.length : Int)))) ∧ St w0 ros (box p 51 [iV g, iV h, l.v, i.v, j.v] :: rs) w) (fun D => ?_) ?_
 ·rcases Bool.eq_false_or_eq_true n with c | c
  ·exact gN c (gN c (gN c (gN c (yY (pt_ (.bool true) e0 c rfl) (D _ _ ⟨s, (congrArg Value.bool (orT c)), a⟩)))))
  ·exact yG c (yFb FL_51_3 (eh s)) (yG c (lb_ i.v O_22 e0 a R0) (yG c (yLen SL_22 e0 a (rdI A)) (yG c (ygtr e0 rfl) (yY (pf_ (.bool (decide ((10000 : Int) < (m.length : Int)))) e0 c e0) (D _ _ ⟨s, (congrArg Value.bool (orF c)), a⟩)))))
 rintro f w ⟨E, R, a⟩
 refine Ya (.bool (n || (decide ((10000 : Int) < (m.length : Int))))) (eh R) (wK I ?_)
 rcases iteS b with ⟨t, b⟩ | ⟨t, b⟩
 ·refine condT e0 t (sR fun _ S => Ya (iV 6) rfl (wK S (wp_ret (q _ _ _ (r _ _ _ rfl ?_)))))
  obtain rfl := someI b
  exact o _ _ _ (fin1r Try.results33 ⟨rfl, rfl⟩ ⟨rfl, (a.pk 1 [] rfl)⟩)
 ·refine condF e0 (bfalse t) (sR fun _ T => yY (lbs_ [iV g, iV h, l.v, i.v, j.v] ST_51 (eh E) a R0) ?_)
  obtain ⟨U, V, b⟩ := bs b
  refine Yc wn rfl (yCall FN_54 (a1 e0)) (matrix_columns_ok V F A B a) ?_
  rintro _ w ⟨rfl, a⟩
  refine ⟨_, rfl, ?_⟩
  refine yY (ynot e0) (Ya (.bool (!U)) e0 (wK T ?_))
  rcases iteS b with ⟨u, b⟩ | ⟨u, b⟩
  ·refine condF e0 (nF u) (sR fun _ W => yY (yFb FL_51_4 (eh E)) (yY (lb_ j.v O_49 e0 a R0) ?_))
   obtain ⟨X, Z, b⟩ := bs b
   refine Yc wn rfl (yCall FN_55 (a2 e0 rfl)) (slices_ContainsFunc_apiFloat_ok Z B a) ?_
   rintro _ w ⟨rfl, a⟩
   refine ⟨_, rfl, ?_⟩
   refine Ya (.bool X) e0 (wK W ?_)
   rcases iteS b with ⟨x, b⟩ | ⟨x, b⟩
   ·refine condT e0 x (sR fun _ a0 => Ya (iV 4) rfl (wK a0 (wp_ret (q _ _ _ (r _ _ _ rfl ?_)))))
    obtain rfl := someI b
    exact o _ _ _ (fin1r Try.results33 ⟨rfl, rfl⟩ ⟨rfl, (a.pk 1 [] rfl)⟩)
   ·refine condF e0 (bfalse x) (wp_skip (q _ _ _ (H _ _ (sR fun _ a4 => Ya (iV 0) rfl (wK a4 (wp_ret ?_))))))
    obtain rfl := someI b
    exact o _ _ _ (fin1r Try.results33 ⟨rfl, rfl⟩ ⟨rfl, (a.pk 1 [] rfl)⟩)
  ·refine condT e0 (nT (bfalse u)) (sR fun _ a5 => Ya (iV 1) rfl (wK a5 (wp_ret (q _ _ _ (r _ _ _ rfl ?_)))))
   obtain rfl := someI b
   exact o _ _ _ (fin1r Try.results33 ⟨rfl, rfl⟩ ⟨rfl, (a.pk 1 [] rfl)⟩)
theorem matching_Edges_ok {l j : Int} {x y z : LI} {h i m : Hdr} {out : L2} (k : matching_Edges l j x y z = some out) (n : imm I1 h.v x ∈ ros) (A : imm I1 i.v y ∈ ros) (b1 : imm (rI .u64) m.v z ∈ ros) (b : St w0 ros rs w) :
  Calls Try.prog 58 #[.agg #[iV l, iV j, h.v, i.v, m.v]] w (fun e w => ∃ (B : Hdr), e = .returned (B.v) ∧ St w0 ros (row 22 S1 B.v out :: rs) w) := by
 refine enterQ Try.func58 rfl Try.ntmps58 rfl fun Q I => sR fun _ J => YB wn rfl (r_box (vals := [iV l, iV j, h.v, i.v, m.v]) b e0 rfl) ?_
 intro C w b
 refine Ya hnil.v rfl (wK J (sR fun _ K => yY (yFb FL_51_1 e0) (yY (lb_ (iV j) O_3 e0 b R0) ?_)))
 obtain ⟨L, N, k⟩ := bs k
 refine YH wn rfl (rMk b SL_25 e0 N) ?_
 intro d w b
 refine Ya d.v e0 (wK K (sQ fun _ O => sR fun _ R => Ym d.v e0 (yY (yLen SL_25 e0 b rO0) (Ym (iV 0) rfl (wK R (blockQ fun S T => ?_))))))
 obtain ⟨U, V, k⟩ := bs k
 have W : ∀ (p : L2) (f : FV) (w : World), f 3 = d.v → St w0 ros (row 22 S1 d.v p :: rs) w → p = U → S (.exit 0) (fr 32 f) w := by
  intro p f w X b ho
  subst ho
  refine T _ _ _ (O _ _ (sR fun _ Z => Ym d.v (eh X) (Ya d.v e0 (wK Z (wp_ret ?_)))))
  obtain rfl := someI k
  exact I _ _ _ (fin1r Try.results58 ⟨rfl, rfl⟩ ⟨_, rfl, b⟩)
 refine loopQ (fun s a w => ∃ (q : L2) (g : Int) (f : FV), (q, g) = s ∧ a = fr 32 f ∧ f 1 = (pB C) ∧ f 3 = d.v ∧ f 9 = iV (L.length : Int) ∧ f 10 = iV g ∧ St w0 ros (box C 51 [iV l, iV j, h.v, i.v, m.v] :: row 22 S1 d.v q :: rs) w) V ⟨_, _, _, rfl, rfl, rfl, rfl, rfl, rfl, (b.pk 2 [1, 0] rfl)⟩ ?_
 rintro _ _ w b2 ⟨q, g, f, rfl, rfl, o, r, D, t, b⟩ c a0 b3 a1 a2
 refine sR fun _ a3 => yY (ylss (eh t) (eh D)) (wK a3 (seqQ fun b4 a4 a5 => ?_))
 rcases iteS c with ⟨u, c⟩ | ⟨u, c⟩
 ·refine cT e0 u (wp_skip (a4 _ _ (sQ fun _ a6 => blockQ fun _ a7 => sR fun _ a8 => Ym (iV g) (eh t) (Ya (iV g) e0 (wK a8 ?_)))))
  obtain ⟨a9, E, c⟩ := bs c
  obtain ⟨b0, F, c⟩ := bs c
  obtain ⟨b5, G, c⟩ := bs c
  obtain ⟨b6, H, c⟩ := bs c
  refine dR [0, 0, 0, 4, 0, 16, 0, 112, 240, 0, 512, 0, 2048, 7680, 15872, 32764, 65535, 131071] [17] 1 folM ?_
  replace b := b.drew
  refine Dn [0, 1, 2, 3, 4, 5, 6, 7, 8, 9, 10, 11, 12, 13, 14, 15, 16] [] [17] (yR rfl (m_ d.v (eh r)) (yR rfl (m_ (iV g) e0) (yR rfl (yFb FL_51_3 (eh o)) (yR rfl (lb_ i.v O_22 e0 b R0) (yR rfl (yFb FL_51_2 (eh o)) (yR rfl (lb_ h.v O_22 e0 b R0) (yR rfl (m_ (iV g) e0) (yR rfl (yIa SL_22 e0 e0 b (rdI n) E) (yR rfl (yI O_3 e0 b (rdI n) E) (yR rfl (yFb FL_51_2 (eh o)) (yR rfl (lb_ h.v O_22 e0 b R0) (yR rfl (m_ (iV g) e0) (yR rfl (yadd e0 rfl) ?_)))))))))))))
  refine yR rfl (yIa SL_22 e0 e0 b (rdI n) F) (yR rfl (yI O_3 e0 b (rdI n) F) (yR rfl (ySl SL_22 e0 b (rdI A) (.inl (congrArg some e0)) (.inl (congrArg some e0)) G) ?_))
  replace b := b.sub A G
  refine yR rfl (yIs SL_25 e0 e0 b rO1 H) (Rn QSn ?_)
  refine Lc1 rfl ?_
  replace b := b.pk 2 [1, 0] rfl
  refine LT wn (r_sti (cs := [(subH i 1 a9 b0).v]) b O_22 rfl e0 e0 rfl (mkS F0) H) ?_
  intro w b
  refine Dz [] [] (Rn QSn (a7 _ _ _ (a6 _ _ (wR (yY (yadd (eh t) rfl) (Ym (iV (wa .i64 g 1)) e0 (wN ?_)))))))
  obtain rfl := someI c
  exact a1 _ _ _ rfl ⟨_, _, _, rfl, rfl, o, r, D, rfl, ((b.pk 2 [1, 0] rfl).facts (allT allI))⟩
 ·refine cF e0 u (wp_exit (a5 _ _ _ rfl ?_))
  obtain rfl := someI c
  exact a2 _ _ _ _ rfl rfl (W _ _ _ r (b.pk 2 [1] rfl) (a0 _ rfl))
end Go.Proofs.Ythpeajepbffinaa
