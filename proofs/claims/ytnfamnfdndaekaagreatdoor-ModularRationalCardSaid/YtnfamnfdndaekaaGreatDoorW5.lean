/- Walks: each function computes its model, printed. -/
import Derived.Test.YtnfamnfdndaekaaGreatDoorW4
namespace Go.Proofs.YtnfamnfdndaekaaGreatDoor
open Go Sx M
set_option maxRecDepth 100000
set_option maxHeartbeats 40000000
set_option linter.unusedVariables false
attribute [local irreducible] wpList Code.wp Calls DR QR QS LA LS St
variable {w0 : World} {ros : List Fact} {rs : List Res} {w : World}
theorem sparseref01_shr_ok {D : LI} {c : Int} {i : Hdr} {out : LI × Bool} (g : sparseref01_shr D c = some out) (p : imm (rI .u32) i.v D ∈ ros) (b : St w0 ros rs w) :
  Calls Tryz.prog 117 #[i.v, iV c] w (fun e w => ∃ (a3 : Hdr), e = .returned (.tuple #[a3.v, .bool out.2]) ∧ St w0 ros (row 88 (rI .u32) a3.v out.1 :: rs) w) := by
 refine enterQ Tryz.func117 rfl Tryz.ntmps117 rfl fun Q c9 => sR fun _ d0 => Ya hnil.v rfl (Ya (.bool false) rfl (wK d0 (sR fun _ d1 => Ya (.bool false) rfl (wK d1 (sQ fun _ d2 => sQ fun _ d3 => ?_)))))
 refine wR (Ya (iV 0) rfl (wK d3 (blockQ fun d4 d5 => bE g fun d6 d7 g => ?_)))
 have d8 : ∀ (K : Bool) (f : FV) w, f 0 = i.v → f 1 = iV c → f 6 = .bool K → St w0 ros rs w → K = d6 → d4 (.exit 0) (fr 85 f) w := by
  intro K f w d9 L e1 b ho
  subst ho
  refine d5 _ _ _ (d2 _ _ (sR fun _ e2 => Ya hnil.v rfl (wK e2 (sR fun _ e3 => Ym (iV c) (eh L) (yY (yremc e0 rfl (by decide)) (Ya (iV (wrc c 32)) e0 (wK e3 ?_)))))))
  refine sQ fun _ e4 => sR fun _ e5 => Ym (iV c) (eh L) (yY (yquoc e0 rfl (by decide)) (Ya (iV (wqc .i64 c 32)) e0 (wK e5 (blockQ fun e6 e7 => bE g fun e8 e9 g => ?_))))
  have f0 : ∀ (E : Bool) (N : LI) (F : Hdr) (f : FV) w, f 6 = .bool E → f 8 = F.v → St w0 ros (row 88 (rI .u32) F.v N :: rs) w → (E, N) = e8 → e6 (.exit 2) (fr 85 f) w := by
   intro E N F f w f1 f2 b ho
   subst ho
   refine e7 _ _ _ (e4 _ _ (sR fun _ f3 => Ym F.v (eh f2) (Ym (.bool E) (eh f1) (Ya F.v e0 (Ya (.bool E) e0 (wK f3 (wp_ret ?_)))))))
   cases g
   exact c9 _ _ _ (fin2r Tryz.results117 ⟨rfl, rfl⟩ ⟨rfl, rfl⟩ ⟨_, rfl, b⟩)
  replace b := b.rowNh 88 (rI .u32)
  refine loopQ (fun s a w => ∃ (z : Bool) (t : LI) (h : Int) (f : FV) (q : Hdr), (z, t, h) = s ∧ a = fr 85 f ∧ f 0 = i.v ∧ f 1 = iV c ∧ f 6 = .bool z ∧ f 8 = q.v ∧ f 9 = iV (wrc c 32) ∧ f 10 = iV h ∧ St w0 ros (row 88 (rI .u32) q.v t :: rs) w) e9 ⟨_, _, _, _, _, rfl, rfl, d9, L, e1, rfl, rfl, rfl, b⟩ ?_
  rintro _ _ w a4 ⟨z, t, h, f, q, rfl, rfl, A, a5, O, R, a6, B, b⟩ k f4 k7 f5 f6
  refine seqQ fun k8 f7 f8 => sR fun _ f9 => Ym (iV h) (eh B) (Ym i.v (eh A) (yY (yLen SL_25 e0 b (rdI p)) (yY (ylss e0 e0) (wK f9 ?_))))
  refine cIf e0 k (fun g0 k => ?_) fun g0 k => ?_
  ·refine wp_skip (f7 _ _ (sQ fun _ g1 => blockQ fun _ g2 => sR fun _ g3 => Ym i.v (eh A) (Ym (iV h) (eh B) (bE k fun S a7 k => yY (yIa SL_25 e0 e0 b (rdI p) a7) (yY (yI O_88 e0 b (rdI p) a7) (yY (ycv (k' := .u64) (by kernel_rfl) (by kernel_rfl) e0) (Ya (.int .u64 (wc .u64 S)) e0 (wN ?_))))))))
   refine g3 _ _ (sQ fun g4 g5 => sR fun _ g6 => Ym (iV h) (eh B) (yY (yadd e0 rfl) (Ym i.v (eh A) (yY (yLen SL_25 e0 b (rdI p)) (yY (ylss e0 e0) (wK g6 ?_))))))
   have a8 : ∀ (u : Int) (f : FV) w, f 0 = i.v → f 1 = iV c → f 6 = .bool z → f 8 = q.v → f 9 = iV (wrc c 32) → f 10 = iV h → f 11 = .int .u64 u → St w0 ros (row 88 (rI .u32) q.v t :: rs) w → sparseref01_shr_j16 h c D t z u = some a4 → g4 .normal (fr 85 f) w := by
    intro u f w T H a9 b0 U G b1 b g
    refine g5 _ _ (sQ fun g7 g8 => sQ fun _ g9 => bE g fun V r g => ?_)
    refine joinN (n := 85) (fun f w => f 0 = i.v ∧ f 1 = iV c ∧ f 6 = .bool z ∧ f 8 = q.v ∧ f 9 = iV (wrc c 32) ∧ f 10 = iV h ∧ f 11 = .int .u64 u ∧ f 75 = .bool V ∧ St w0 ros (row 88 (rI .u32) q.v t :: rs) w) (fun b2 => ?_) ?_
    ·rcases iteS r with ⟨d, r⟩ | ⟨d, r⟩
     ·refine bE r fun k9 b3 r => bE r fun l0 h0 r => ?_
      have h1 := someI r
      refine dR [0, 0, 2, 7, 15, 31, 31, 127, 255, 31, 543, 1567, 4095, 8191, 16383] [] 0 folM ?_
      replace b := b.drew
      refine Dz [0, 1, 2, 3, 4, 5, 6, 7, 8, 9, 10, 11, 12, 13, 14] [] (yR rfl (m_ (iV h) (eh G)) (yR rfl (m_ (iV c) (eh H)) (yR rfl (yquoc e0 rfl (by decide)) (yR rfl (yeql e0 e0) (yR rfl (m_ (.bool (decide (h = (wqc .i64 c 32)))) e0) (Ry rfl rfl (wG (dT d)) (m_ i.v (eh T)) (Ry rfl rfl (wG (dT d)) (m_ (iV h) (eh G)) (Ry rfl rfl (wG (dT d)) (yIa SL_25 e0 e0 b (rdI p) b3) (Ry rfl rfl (wG (dT d)) (yI O_88 e0 b (rdI p) b3) (Ry rfl rfl (wG (dT d)) (m_ (iV (wrc c 32)) (eh U)) (Ry rfl rfl (wG (dT d)) (yshl rfl e0 h0) (Ry rfl rfl (wG (dT d)) (ysub e0 rfl) (Ry rfl rfl (wG (dT d)) (yand e0 e0) ?_)))))))))))))
      exact Ry rfl rfl (wG (dT d)) (yneq e0 rfl) (yR rfl (pt_ (.bool V) e0 (dT d) (eqv h1 e0)) (Rn QSn (b2 _ _ ⟨T, H, a9, b0, U, G, b1, rfl, b⟩)))
     ·have h3 := someI r
      refine dR [0, 0, 2, 7, 15, 31, 31, 127, 255, 31, 543, 1567, 4095, 8191, 16383] [] 0 folM ?_
      replace b := b.drew
      refine Dz [0, 1, 2, 3, 4, 5, 6, 7, 8, 9, 10, 11, 12, 13, 14] [] (yR rfl (m_ (iV h) (eh G)) (yR rfl (m_ (iV c) (eh H)) (yR rfl (yquoc e0 rfl (by decide)) (yR rfl (yeql e0 e0) (yR rfl (m_ (.bool (decide (h = (wqc .i64 c 32)))) e0) (Rx rfl rfl (wX (dF d)) (Rx rfl rfl (wX (dF d)) (Rx rfl rfl (wX (dF d)) (Rx rfl rfl (wX (dF d)) (Rx rfl rfl (wX (dF d)) (Rx rfl rfl (wX (dF d)) (Rx rfl rfl (wX (dF d)) (Rx rfl rfl (wX (dF d)) ?_)))))))))))))
      exact Rx rfl rfl (wX (dF d)) (yR rfl (pf_ (.bool V) e0 (dF d) (eqv h3 rfl)) (Rn QSn (b2 _ _ ⟨T, H, a9, b0, U, G, b1, rfl, b⟩)))
    rintro f w ⟨b4, b5, h4, b6, b7, b8, b9, h5, b⟩
    refine g9 _ _ ?_
    have c0 : ∀ (W : Bool) (f : FV) w, f 0 = i.v → f 1 = iV c → f 6 = .bool W → f 8 = q.v → f 9 = iV (wrc c 32) → f 10 = iV h → f 11 = .int .u64 u → St w0 ros (row 88 (rI .u32) q.v t :: rs) w → sparseref01_shr_j20 u c t h W = some a4 → g7 .normal (fr 85 f) w := by
     intro W f w h6 h7 h8 h9 c1 i0 i1 b g
     refine g8 _ _ (wR (Ym q.v (eh h9) (Ym (.int .u64 u) (eh i1) (Ym (iV (wrc c 32)) (eh c1) (bE g fun X i2 g => yY (yshr e0 e0 i2) (yY (ycv (k' := .u32) (by kernel_rfl) (by kernel_rfl) e0) (yH (rLt (n := 1) (l := [wc .u32 X]) b SL_25 [.int .u32 (wc .u32 X)] (bp1 e0) rfl rfl (mks1 (cs := [.int .u32 (wc .u32 X)]) rfl mkI mks0)) fun l1 w b => bE g fun l2 i3 g => yH (rAp (b.k11) SL_25 e0 e0 rO1 i3) fun i4 w b => Ya i4.v e0 ?_)))))))
     refine wN (g2 _ _ _ (g1 _ _ (wR (Ym (iV h) (eh i0) (yY (yadd e0 rfl) (Ya (iV (wa .i64 h 1)) e0 (wN ?_)))))))
     cases g
     exact f5 _ _ _ rfl ⟨_, _, _, _, _, rfl, rfl, h6, h7, h8, rfl, c1, rfl, (b.k1g)⟩
    refine cB (eh h5) g (fun i5 g => ?_) fun i5 g => ?_
    ·exact wR (Ya (.bool true) rfl (wN (c0 _ _ _ b4 b5 rfl b6 b7 b8 b9 b g)))
    ·exact wp_skip (c0 _ _ _ b4 b5 h4 b6 b7 b8 b9 b g)
   refine cIf e0 k (fun i6 k => ?_) fun i6 k => ?_
   ·exact wR (Ym (.int .u64 (wc .u64 S)) e0 (Ym i.v (eh A) (Ym (iV h) (eh B) (yY (yadd e0 rfl) (bE k fun i7 c2 k => yY (yIa SL_25 e0 e0 b (rdI p) c2) (yY (yI O_88 e0 b (rdI p) c2) (yY (ycv (k' := .u64) (by kernel_rfl) (by kernel_rfl) e0) (yY (yshlc e0 rfl) (yY (yor e0 e0) (Ya (.int .u64 (wor .u64 (wc .u64 S) (wslc .u64 (wc .u64 i7) 32))) e0 (wN (a8 _ _ _ A a5 O R a6 B rfl b k))))))))))))
   ·exact wp_skip (a8 _ _ _ A a5 O R a6 B rfl b k)
  ·refine wp_exit (f8 _ _ _ rfl ?_)
   cases k
   exact f6 _ _ _ _ rfl rfl (f0 _ _ _ _ _ O R b (f4 _ rfl))
 refine loopQ (fun s a w => ∃ (C : Bool) (j : Int) (f : FV), (C, j) = s ∧ a = fr 85 f ∧ f 0 = i.v ∧ f 1 = iV c ∧ f 6 = .bool C ∧ f 7 = iV j ∧ St w0 ros rs w) d7 ⟨_, _, _, rfl, rfl, rfl, rfl, rfl, rfl, b⟩ ?_
 rintro _ _ w l3 ⟨C, j, f, rfl, rfl, Z, a0, c3, I, b⟩ x i8 l4 i9 j0
 refine seqQ fun l5 j1 j2 => sR fun _ j3 => Ym (iV j) (eh I) (Ym (iV c) (eh a0) (yY (yquoc e0 rfl (by decide)) (yY (ylss e0 e0) (Ym (.bool (decide (j < (wqc .i64 c 32)))) e0 ?_))))
 refine joinW 5 (fun f w => f 0 = i.v ∧ f 1 = iV c ∧ f 6 = .bool C ∧ f 7 = iV j ∧ f 21 = .bool ((decide (j < (wqc .i64 c 32))) && (decide (j < (D.length : Int)))) ∧ St w0 ros rs w) (fun c4 => ?_) ?_
 ·rcases Bool.eq_false_or_eq_true (decide (j < (wqc .i64 c 32))) with m | m
  ·exact yG m (m_ (iV j) (eh I)) (yG m (m_ i.v (eh Z)) (yG m (yLen SL_25 e0 b (rdI p)) (yG m (ylss e0 e0) (yY (pt_ (.bool (decide (j < (D.length : Int)))) e0 m e0) (c4 _ _ ⟨Z, a0, c3, I, (congrArg Value.bool (andT m)), b⟩)))))
  ·exact gN m (gN m (gN m (gN m (yY (pf_ (.bool false) e0 m rfl) (c4 _ _ ⟨Z, a0, c3, I, (congrArg Value.bool (andF m)), b⟩)))))
 rintro f w ⟨J, a1, c5, a2, j4, b⟩
 refine wK j3 (cB (eh j4) x (fun j5 x => ?_) fun j5 x => ?_)
 ·refine wp_skip (j1 _ _ (sQ fun _ j6 => blockQ fun _ j7 => wR (Ym (.bool C) (eh c5) (Ym (.bool C) e0 (bE x fun c6 y x => ?_)))))
  refine joinW 6 (fun f w => f 0 = i.v ∧ f 1 = iV c ∧ f 7 = iV j ∧ f 31 = .bool c6 ∧ St w0 ros rs w) (fun c7 => ?_) ?_
  ·rcases iteS y with ⟨o, y⟩ | ⟨o, y⟩
   ·refine gN o (gN o (gN o (gN o (gN o (yY (pt_ (.bool true) e0 o rfl) ?_)))))
    cases y
    exact c7 _ _ ⟨J, a1, a2, rfl, b⟩
   ·refine yG (bfalse o) (m_ i.v (eh J)) (yG (bfalse o) (m_ (iV j) (eh a2)) (bE y fun j8 c8 y => yG (bfalse o) (yIa SL_25 e0 e0 b (rdI p) c8) (yG (bfalse o) (yI O_88 e0 b (rdI p) c8) (yG (bfalse o) (yneq e0 rfl) (yY (pf_ (.bool (!(decide (j8 = 0)))) e0 (bfalse o) e0) ?_)))))
    cases y
    exact c7 _ _ ⟨J, a1, a2, rfl, b⟩
  rintro f w ⟨j9, k0, k5, k6, b⟩
  refine Ya (.bool c6) (eh k6) (wN (j7 _ _ _ (j6 _ _ (wR (Ym (iV j) (eh k5) (yY (yadd e0 rfl) (Ya (iV (wa .i64 j 1)) e0 (wN ?_))))))))
  cases x
  exact i9 _ _ _ rfl ⟨_, _, _, rfl, rfl, j9, k0, rfl, rfl, b⟩
 ·refine wp_exit (j2 _ _ _ rfl ?_)
  cases x
  exact j0 _ _ _ _ rfl rfl (d8 _ _ _ J a1 c5 b (i8 _ rfl))
theorem sparseref01_divMag_ok {A d : LI} {o p : Hdr} {out : LI × LI} (c : sparseref01_divMag A d = some out) (r : imm (rI .u32) o.v A ∈ ros) (u : imm (rI .u32) p.v d ∈ ros) (b : St w0 ros rs w) :
  Calls Tryz.prog 118 #[o.v, p.v] w (fun e w => ∃ (X Z : Hdr), e = .returned (.tuple #[X.v, Z.v]) ∧ St w0 (imm (rI .u32) Z.v out.2 :: ros) (row 88 (rI .u32) X.v out.1 :: rs) w) := by
 refine enterQ Tryz.func118 rfl Tryz.ntmps118 rfl fun Q a0 => sR fun _ k1 => Ya hnil.v rfl (Ya hnil.v rfl (wK k1 (seqQ fun j9 c1 c2 => sR fun _ c3 => Ym o.v e0 (Ym p.v e0 (bE c fun k0 c4 c => yC (yCall FN_113 (a2 e0 e0)) (sparseref01_cmpMag_ok c4 r u b) ?_)))))
 rintro _ w ⟨rfl, b⟩
 refine ⟨_, rfl, ?_⟩
 refine yY (ylss e0 rfl) (wK c3 ?_)
 refine cIf e0 c (fun c5 c => ?_) fun c5 c => ?_
 ·refine sR fun _ c7 => Ym o.v e0 (Ya hnil.v rfl (Ya o.v e0 (wK c7 (wp_ret (c2 _ _ _ rfl ?_)))))
  cases c
  replace b := b.rowNh 88 (rI .u32)
  exact a0 _ _ _ (fin2r Tryz.results118 ⟨rfl, rfl⟩ ⟨rfl, rfl⟩ ⟨_, _, rfl, (b.facts (allC r allI))⟩)
 ·refine wp_skip (c1 _ _ (sR fun _ c8 => Ym p.v e0 (yY (yLen SL_25 e0 b (rdI u)) (Ya (iV (d.length : Int)) e0 (wK c8 (sR fun _ c9 => Ym p.v e0 (Ym (iV (d.length : Int)) e0 (yY (ysub e0 rfl) ?_))))))))
  refine bE c fun l0 a3 c => yY (yIa SL_25 e0 e0 b (rdI u) a3) (yY (yI O_88 e0 b (rdI u) a3) (bE c fun j d0 c => yC (yCall FN_137 (a1 e0)) (math_bits_LeadingZeros32_ok d0 b) ?_))
  rintro _ w ⟨rfl, b⟩
  refine ⟨_, rfl, ?_⟩
  refine Ya (iV j) e0 (wK c9 (sQ fun _ d1 => bE c fun l1 d2 c => bE c fun l2 d3 c => bE c fun x F c => dR [0, 0, 3, 0, 0, 31, 0, 127, 63, 511] [2, 5, 8, 9] 4 folM ?_))
  replace b := b.drew
  refine Dn [0, 1, 3, 4, 6] [] [2] (yR rfl (m_ o.v e0) (yR rfl (m_ (iV j) e0) (yR rfl (m_ p.v e0) (yR rfl (m_ (iV j) e0) (yR rfl (m_ (iV (d.length : Int)) e0) (Rn QSn ?_))))))
  refine Lc1 rfl ?_
  refine Lk wn (yCall FN_116 (a2 e0 e0)) (sparseref01_shl_ok d2 r b) ?_
  rintro _ w ⟨G, rfl, b⟩
  refine ⟨_, rfl, ?_⟩
  refine Dn [] [3, 4, 6] [5] (Rn (yS rfl (m_ p.v e0) (yS rfl (m_ (iV j) e0) (yS rfl (m_ (iV (d.length : Int)) e0) QSn))) ?_)
  refine Lc1 rfl ?_
  refine Lk wn (yCall FN_116 (a2 e0 e0)) (sparseref01_shl_ok d3 u b) ?_
  rintro _ w ⟨k, rfl, b⟩
  refine ⟨_, rfl, ?_⟩
  refine Dn [7] [6] [8] ?_
  replace b := b.fz
  refine yR rfl (ySl (k1 := .i64) SL_25 e0 b (rdI F0) (.inr ⟨rfl, rfl⟩) (.inl (congrArg some e0)) F) ?_
  replace b := b.sub F0 F
  refine Rn (yS rfl (m_ (iV (d.length : Int)) e0) QSn) ?_
  refine Lc1 rfl ?_
  refine Ly wn (a_ G.v e0) (Dn [] [6, 7] [9] (Rn (yS rfl (m_ (iV (d.length : Int)) e0) (yS rfl (ySl (k1 := .i64) SL_25 e0 b (rdI F1) (.inr ⟨rfl, rfl⟩) (.inl (congrArg some e0)) F) QSn)) ?_))
  refine Lc1 rfl ?_
  refine Ly wn (a_ ((subH k 1 0 (d.length : Int)).v) e0) (Dz [] [] (Rn QSn (d1 _ _ (sQ fun d4 d5 => sR fun _ d6 => Ym G.v e0 (yY (yLen SL_25 e0 b rO0) (Ym o.v e0 (yY (yLen SL_25 e0 b (rdI (F_2 r))) (yY (yeql e0 e0) (wK d6 ?_)))))))))
  have a5 : ∀ (H : LI) (h : Hdr) (f : FV) w, f 0 = o.v → f 6 = iV (d.length : Int) → f 7 = iV j → f 8 = h.v → f 9 = (subH k 1 0 (d.length : Int)).v → St w0 (imm (rI .u32) (subH k 1 0 (d.length : Int)).v x :: ros) (row 88 (rI .u32) h.v H :: rs) w → sparseref01_divMag_j1 A d x j H = some out → d4 .normal (fr 109 f) w := by
   intro H h f w a6 I d7 d8 d9 b c
   refine d5 _ _ (sR fun _ e1 => Ym o.v (eh a6) (yY (yLen SL_25 e0 b (rdI (mtF r))) (Ym (iV (d.length : Int)) (eh I) (yY (ysub e0 e0) (yY (yadd e0 rfl) (bE c fun l3 e2 c => yH (rMk b SL_25 e0 e2) fun m w b => Ya m.v e0 (wK e1 ?_)))))))
   refine sQ fun _ e3 => sR fun _ e4 => Ym o.v (eh a6) (yY (yLen SL_25 e0 b (rdI (mtF r))) (Ym (iV (d.length : Int)) (eh I) (yY (ysub e0 e0) (Ya (iV (ws .i64 (A.length : Int) (d.length : Int))) e0 (wK e4 (blockQ fun e5 e6 => bE c fun e7 e8 c => ?_))))))
   have e9 : ∀ (J K : LI) (f : FV) w, f 7 = iV j → f 8 = h.v → f 10 = m.v → St w0 ros (row 88 (rI .u32) h.v J :: row 88 (rI .u32) m.v K :: rs) w → (J, K) = e7 → e5 (.exit 0) (fr 109 f) w := by
    intro J K f w f0 f1 f2 b ho
    subst ho
    refine e6 _ _ _ (e3 _ _ (sR fun _ f3 => Ym h.v (eh f1) (bE c fun l4 f4 c => ?_)))
    replace b := b.fz
    refine yC (yCall FN_111 (a1 e0)) (sparseref01_trim_ok f4 F0 b) ?_
    rintro _ w ⟨l5, rfl, b⟩
    refine ⟨_, rfl, ?_⟩
    refine Ym (iV j) (eh f0) (bE c fun L f5 c => ?_)
    replace b := b.fz
    refine yC (yCall FN_117 (a2 e0 e0)) (sparseref01_shr_ok f5 F0 b) ?_
    rintro _ w ⟨B, rfl, b⟩
    refine ⟨_, rfl, ?_⟩
    refine Ym (.tuple #[B.v, .bool L.2]) e0 (yY (x_ B.v e0) (yY (x_ (.bool L.2) e0) (Ya B.v e0 (Ya (.bool L.2) e0 (wK f3 (sR fun _ f6 => Ym m.v (eh f2) (bE c fun l6 f7 c => ?_)))))))
    replace b := (b.k11).fz
    refine yC (yCall FN_111 (a1 e0)) (sparseref01_trim_ok f7 F0 b) ?_
    rintro _ w ⟨f8, rfl, b⟩
    refine ⟨_, rfl, ?_⟩
    refine Ym B.v e0 (bE c fun l7 f9 c => ?_)
    replace b := (b.k11).fz
    refine yC (yCall FN_111 (a1 e0)) (sparseref01_trim_ok f9 F0 b) ?_
    rintro _ w ⟨g0, rfl, b⟩
    refine ⟨_, rfl, ?_⟩
    refine Ya f8.v e0 (Ya g0.v e0 (wK f6 (wp_ret ?_)))
    cases c
    replace b := b.fz
    exact a0 _ _ _ (fin2r Tryz.results118 ⟨rfl, rfl⟩ ⟨rfl, rfl⟩ ⟨_, _, rfl, (b.facts (allC F0 (allT (allT (allT (allT (allT allI)))))))⟩)
   refine loopQ (fun s a w => ∃ (N y : LI) (i : Int) (f : FV), (N, y, i) = s ∧ a = fr 109 f ∧ f 6 = iV (d.length : Int) ∧ f 7 = iV j ∧ f 8 = h.v ∧ f 9 = (subH k 1 0 (d.length : Int)).v ∧ f 10 = m.v ∧ f 11 = iV i ∧ St w0 (imm (rI .u32) (subH k 1 0 (d.length : Int)).v x :: ros) (row 88 (rI .u32) h.v N :: row 88 (rI .u32) m.v y :: rs) w) e8 ⟨_, _, _, _, rfl, rfl, I, d7, d8, d9, rfl, rfl, (b.k11)⟩ ?_
   rintro _ _ w l8 ⟨N, y, i, f, rfl, rfl, C, a7, D, a8, a9, E, b⟩ g g1 l9 g2 g3
   refine seqQ fun m0 g4 g5 => sR fun _ g6 => Ym (iV i) (eh E) (yY (ygeq e0 rfl) (wK g6 ?_))
   refine cIf e0 g (fun g7 g => ?_) fun g7 g => ?_
   ·refine wp_skip (g4 _ _ (sQ fun _ g8 => blockQ fun _ g9 => sQ fun _ h0 => bE g fun b0 b1 g => bE g fun b2 b3 g => dR [0, 0, 0, 6, 15, 31, 63, 127, 0, 0, 0, 1536, 3584, 7936, 16128, 32512, 65535, 131071] [17] 1 folM ?_))
    replace b := b.drew
    refine Dn [0, 1, 2, 3, 4, 5, 6, 7, 8, 9, 10, 11, 12, 13, 14, 15, 16] [] [17] (yR rfl (m_ h.v (eh D)) (yR rfl (m_ (iV i) (eh E)) (yR rfl (m_ (iV (d.length : Int)) (eh C)) (yR rfl (yadd e0 e0) (yR rfl (yIa SL_25 e0 e0 b rO0 b1) (yR rfl (yI O_88 e0 b rO0 b1) (yR rfl (ycv (k' := .u64) (by kernel_rfl) (by kernel_rfl) e0) (yR rfl (yshlc e0 rfl) (yR rfl (m_ h.v (eh D)) (yR rfl (m_ (iV i) (eh E)) (yR rfl (m_ (iV (d.length : Int)) (eh C)) (yR rfl (yadd e0 e0) (yR rfl (ysub e0 rfl) ?_)))))))))))))
    refine yR rfl (yIa SL_25 e0 e0 b rO0 b3) (yR rfl (yI O_88 e0 b rO0 b3) (yR rfl (ycv (k' := .u64) (by kernel_rfl) (by kernel_rfl) e0) (yR rfl (yor e0 e0) (Rn QSn ?_))))
    refine Lc1 rfl ?_
    refine Ly wn (a_ (.int .u64 (wor .u64 (wslc .u64 (wc .u64 b0) 32) (wc .u64 b2))) e0) (Dz [] [] (Rn QSn (h0 _ _ (sR fun _ h1 => Ym (.int .u64 (wor .u64 (wslc .u64 (wc .u64 b0) 32) (wc .u64 b2))) e0 (Ym ((subH k 1 0 (d.length : Int)).v) (eh a8) (Ym (iV (d.length : Int)) (eh C) (yY (ysub e0 rfl) (bE g fun m1 b4 g => yY (yIa SL_25 e0 e0 b (rdI F0) b4) (yY (yI O_88 e0 b (rdI F0) b4) (yY (ycv (k' := .u64) (by kernel_rfl) (by kernel_rfl) e0) ?_))))))))))
    refine bE g fun h3 h5 g => yY (yquo e0 e0 h5) (yY (ymin e0 rfl) (Ya (.int .u64 (imin h3 4294967295)) e0 (wK h1 (sQ fun _ h6 => blockQ fun h7 h8 => bE g fun h9 i0 g => ?_))))
    have i1 : ∀ (O : LI) (z : Int) (f : FV) w, f 6 = iV (d.length : Int) → f 7 = iV j → f 8 = h.v → f 9 = (subH k 1 0 (d.length : Int)).v → f 10 = m.v → f 11 = iV i → f 13 = .int .u64 z → St w0 (imm (rI .u32) (subH k 1 0 (d.length : Int)).v x :: ros) (row 88 (rI .u32) h.v O :: row 88 (rI .u32) m.v y :: rs) w → (O, z) = h9 → h7 (.exit 2) (fr 109 f) w := by
     intro O z f w i2 i3 i4 i5 b5 b6 i6 b ho
     subst ho
     refine h8 _ _ _ (h6 _ _ (wR (Ym m.v (eh b5) (Ym (iV i) (eh b6) (Ym (.int .u64 z) (eh i6) (yY (ycv (k' := .u32) (by kernel_rfl) (by kernel_rfl) e0) (bE g fun m2 b7 g => yY (yIs SL_25 e0 e0 b rO1 b7) (yT (r_sti (cs := [.int .u32 (wc .u32 z)]) (b.k11) O_88 rfl e0 e0 rfl mkI b7) fun w b => wN (g9 _ _ _ (g8 _ _ ?_))))))))))
     refine wR (Ym (iV i) (eh b6) (yY (ysub e0 rfl) (Ya (iV (ws .i64 i 1)) e0 (wN ?_))))
     cases g
     exact g2 _ _ _ rfl ⟨_, _, _, _, rfl, rfl, i2, i3, i4, i5, b5, rfl, (b.k11)⟩
    refine loopQ (fun s a w => ∃ (R : LI) (t : Int) (f : FV), (R, t) = s ∧ a = fr 109 f ∧ f 6 = iV (d.length : Int) ∧ f 7 = iV j ∧ f 8 = h.v ∧ f 9 = (subH k 1 0 (d.length : Int)).v ∧ f 10 = m.v ∧ f 11 = iV i ∧ f 13 = .int .u64 t ∧ St w0 (imm (rI .u32) (subH k 1 0 (d.length : Int)).v x :: ros) (row 88 (rI .u32) h.v R :: row 88 (rI .u32) m.v y :: rs) w) i0 ⟨_, _, _, rfl, rfl, C, a7, D, a8, a9, E, rfl, b⟩ ?_
    rintro _ _ w m3 ⟨R, t, f, rfl, rfl, b8, b9, S, T, c0, U, V, b⟩ q i7 m4 i8 i9
    refine seqQ fun m5 j0 j2 => sR fun _ j3 => Ym h.v (eh S) (Ym ((subH k 1 0 (d.length : Int)).v) (eh T) (Ym (iV i) (eh U) (Ym (.int .u64 t) (eh V) (bE q fun m6 j4 q => yC (yCall FN_138 (a4 e0 e0 e0 e0)) (sparseref01_take_ok j4 F0 b) ?_))))
    rintro _ w ⟨rfl, b⟩
    refine ⟨_, rfl, ?_⟩
    refine yY (ynot e0) (wK j3 ?_)
    rcases iteS q with ⟨W, q⟩ | ⟨W, q⟩
    ·refine condF e0 (nF W) (wp_exit (j2 _ _ _ rfl ?_))
     cases q
     exact i9 _ _ _ _ rfl rfl (i1 _ _ _ _ b8 b9 S T c0 U V b (i7 _ rfl))
    ·refine condT e0 (nT (bfalse W)) (wp_skip (j0 _ _ (blockQ fun _ j5 => wR (Ym (.int .u64 t) (eh V) (yY (ysub e0 rfl) (Ya (.int .u64 (ws .u64 t 1)) e0 (wN (j5 _ _ _ ?_))))))))
     cases q
     exact i8 _ _ _ rfl ⟨_, _, _, rfl, rfl, b8, b9, S, T, c0, U, rfl, b⟩
   ·refine wp_exit (g5 _ _ _ rfl ?_)
    cases g
    exact g3 _ _ _ _ rfl rfl (e9 _ _ _ _ a7 D a9 (b.facts (allT allI)) (g1 _ rfl))
  refine cIf e0 c (fun j6 c => ?_) fun j6 c => ?_
  ·exact wR (Ym G.v e0 (yH (rLt (n := 1) (l := [0]) b SL_25 [.int .u32 0] (bp1 rfl) rfl rfl (mks1 (cs := [.int .u32 0]) rfl mkI mks0)) fun m7 w b => bE c fun m8 j7 c => yH (rAp (b.k11) SL_25 e0 e0 rO1 j7) fun j8 w b => Ya j8.v e0 (wN (a5 _ _ _ _ rfl rfl rfl rfl rfl ((b.k1g).facts (allC F0 (allT (allT allI)))) c))))
  ·exact wp_skip (a5 _ _ _ _ rfl rfl rfl rfl rfl (b.facts (allC F0 (allT (allT allI)))) c)
theorem sparseref01_Abs_ok {c : Bool} {f : LI} {b : Hdr} {out : Bool × LI} (d : sparseref01_Abs c f = some out) (j : imm (rI .u32) b.v f ∈ ros) (a : St w0 ros rs w) :
  Calls Tryz.prog 92 #[.agg #[.bool c, b.v]] w (fun e w => ∃ (g : Hdr), e = .returned (.agg #[.bool out.1, g.v]) ∧ St w0 ros (row 88 (rI .u32) g.v out.2 :: rs) w) := by
 refine enterQ Tryz.func92 rfl Tryz.ntmps92 rfl fun Q k => sR fun _ l => yBb (r_box (vals := [.bool c, b.v]) a e0 rfl) fun o w a => yBb (rAl a ZT_27) fun p w a => wK l (sR fun _ m => yY (yFb FL_27_1 e0) (yY (lb_ b.v O_25 e0 a R1) (bE d fun h n d => ?_)))
 refine yC (yCall FN_93 (a2 rfl e0)) (sparseref01_make1_ok n j a) ?_
 rintro _ w ⟨i, rfl, a⟩
 refine ⟨_, rfl, ?_⟩
 refine yT (r_stbn (vals' := [.bool h.1, i.v]) (us := [.bool h.1, i.v]) (a.k11) ST_27 e0 e0 rfl rfl (one_of rfl) rfl) fun w a => wK m (wp_ret ?_)
 cases d
 exact k _ _ _ (fin1r Tryz.results92 (rcs2 rfl rfl a R0 ST_27 rfl) ⟨_, rfl, (a.k22)⟩)
theorem sparseref01_addMag_ok {G B : LI} {i j : Hdr} {out : LI} (c : sparseref01_addMag G B = some out) (u : imm (rI .u32) i.v G ∈ ros) (x : imm (rI .u32) j.v B ∈ ros) (b : St w0 ros rs w) :
  Calls Tryz.prog 112 #[i.v, j.v] w (fun e w => ∃ (H : Hdr), e = .returned (H.v) ∧ St w0 ros (row 88 (rI .u32) H.v out :: rs) w) := by
 refine enterQ Tryz.func112 rfl Tryz.ntmps112 rfl fun Q U => sR fun _ V => Ya hnil.v rfl (wK V (sR fun _ W => Ya hnil.v rfl (wK W (sR fun _ X => Ya (.int .u64 0) rfl ?_))))
 refine wK X (sQ fun _ Z => sR fun _ a0 => Ya (iV 0) rfl (wK a0 (blockQ fun a1 a2 => bE c fun a3 a4 c => ?_)))
 have a5 : ∀ (C : LI) (m : Int) (y : Hdr) (f : FV) w, f 5 = y.v → f 6 = .int .u64 m → St w0 ros (row 88 (rI .u32) y.v C :: rs) w → (C, m) = a3 → a1 (.exit 0) (fr 51 f) w := by
  intro C m y f w a6 a7 b ho
  subst ho
  refine a2 _ _ _ (Z _ _ (sR fun _ a8 => Ym y.v (eh a6) (Ym (.int .u64 m) (eh a7) (yY (ycv (k' := .u32) (by kernel_rfl) (by kernel_rfl) e0) (yH (rLt (n := 1) (l := [wc .u32 m]) b SL_25 [.int .u32 (wc .u32 m)] (bp1 e0) rfl rfl (mks1 (cs := [.int .u32 (wc .u32 m)]) rfl mkI mks0)) fun d7 w b => bE c fun d8 a9 c => yH (rAp (b.k11) SL_25 e0 e0 rO1 a9) fun b0 w b => Ya b0.v e0 (wN ?_))))))
  refine a8 _ _ (wp_ret ?_)
  cases c
  exact U _ _ _ (fin1r Tryz.results112 ⟨rfl, rfl⟩ ⟨_, rfl, (b.k1g)⟩)
 replace b := b.rowNh 88 (rI .u32)
 refine loopQ (fun s a w => ∃ (o : LI) (p d : Int) (f : FV) (k : Hdr), (o, p, d) = s ∧ a = fr 51 f ∧ f 0 = i.v ∧ f 1 = j.v ∧ f 5 = k.v ∧ f 6 = .int .u64 p ∧ f 7 = iV d ∧ St w0 ros (row 88 (rI .u32) k.v o :: rs) w) a4 ⟨_, _, _, _, _, rfl, rfl, rfl, rfl, rfl, rfl, rfl, b⟩ ?_
 rintro _ _ w I ⟨o, p, d, f, k, rfl, rfl, q, D, E, F, r, b⟩ g b1 d9 b2 b3
 refine seqQ fun e1 b4 b5 => sR fun _ b6 => Ym (iV d) (eh r) (Ym i.v (eh q) (yY (yLen SL_25 e0 b (rdI u)) (Ym j.v (eh D) (yY (yLen SL_25 e0 b (rdI x)) (yY (ymax e0 e0) (yY (ylss e0 e0) (wK b6 ?_)))))))
 refine cIf e0 g (fun b7 g => ?_) fun b7 g => ?_
 ·refine wp_skip (b4 _ _ (sQ fun _ b8 => blockQ fun _ b9 => sQ fun c0 c1 => sR fun _ c2 => Ym (iV d) (eh r) (Ym i.v (eh q) (yY (yLen SL_25 e0 b (rdI u)) (yY (ylss e0 e0) (wK c2 ?_))))))
  have J : ∀ (t : Int) (f : FV) w, f 0 = i.v → f 1 = j.v → f 5 = k.v → f 6 = .int .u64 t → f 7 = iV d → St w0 ros (row 88 (rI .u32) k.v o :: rs) w → sparseref01_addMag_j6 d B o t = some I → c0 .normal (fr 51 f) w := by
   intro t f w K z L N A b c
   refine c1 _ _ (sQ fun c3 c4 => sR fun _ c5 => Ym (iV d) (eh A) (Ym j.v (eh z) (yY (yLen SL_25 e0 b (rdI x)) (yY (ylss e0 e0) (wK c5 ?_)))))
   have O : ∀ (h : Int) (f : FV) w, f 0 = i.v → f 1 = j.v → f 5 = k.v → f 6 = .int .u64 h → f 7 = iV d → St w0 ros (row 88 (rI .u32) k.v o :: rs) w → sparseref01_addMag_j7 o d h = some I → c3 .normal (fr 51 f) w := by
    intro h f w c6 c7 c8 R c9 b c
    refine c4 _ _ (sR fun _ d0 => Ym k.v (eh c8) (Ym (.int .u64 h) (eh R) (yY (ycv (k' := .u32) (by kernel_rfl) (by kernel_rfl) e0) (yH (rLt (n := 1) (l := [wc .u32 h]) b SL_25 [.int .u32 (wc .u32 h)] (bp1 e0) rfl rfl (mks1 (cs := [.int .u32 (wc .u32 h)]) rfl mkI mks0)) fun e2 w b => bE c fun e3 d1 c => yH (rAp (b.k11) SL_25 e0 e0 rO1 d1) fun d2 w b => Ya d2.v e0 (wK d0 ?_)))))
    refine wR (Ym (.int .u64 h) (eh R) (yY (yshrc e0 rfl) (Ya (.int .u64 (wsrc .u64 h 32)) e0 (wN (b9 _ _ _ (b8 _ _ (wR (Ym (iV d) (eh c9) (yY (yadd e0 rfl) (Ya (iV (wa .i64 d 1)) e0 (wN ?_)))))))))))
    cases c
    exact b2 _ _ _ rfl ⟨_, _, _, _, _, rfl, rfl, c6, c7, rfl, rfl, rfl, (b.k1g)⟩
   refine cIf e0 c (fun d3 c => ?_) fun d3 c => ?_
   ·exact wR (Ym (.int .u64 t) (eh N) (Ym j.v (eh z) (Ym (iV d) (eh A) (bE c fun d4 S c => yY (yIa SL_25 e0 e0 b (rdI x) S) (yY (yI O_88 e0 b (rdI x) S) (yY (ycv (k' := .u64) (by kernel_rfl) (by kernel_rfl) e0) (yY (yadd e0 e0) (Ya (.int .u64 (wa .u64 t (wc .u64 d4))) e0 (wN (O _ _ _ K z L rfl A b c))))))))))
   ·exact wp_skip (O _ _ _ K z L N A b c)
  refine cIf e0 g (fun d5 g => ?_) fun d5 g => ?_
  ·exact wR (Ym (.int .u64 p) (eh F) (Ym i.v (eh q) (Ym (iV d) (eh r) (bE g fun d6 T g => yY (yIa SL_25 e0 e0 b (rdI u) T) (yY (yI O_88 e0 b (rdI u) T) (yY (ycv (k' := .u64) (by kernel_rfl) (by kernel_rfl) e0) (yY (yadd e0 e0) (Ya (.int .u64 (wa .u64 p (wc .u64 d6))) e0 (wN (J _ _ _ q D E rfl r b g))))))))))
  ·exact wp_skip (J _ _ _ q D E F r b g)
 ·refine wp_exit (b5 _ _ _ rfl ?_)
  cases g
  exact b3 _ _ _ _ rfl rfl (a5 _ _ _ _ _ E F b (b1 _ rfl))
theorem sparseref01_subMag_ok {B C : LI} {j k : Hdr} {out : LI} (h : sparseref01_subMag B C = some out) (u : imm (rI .u32) j.v B ∈ ros) (x : imm (rI .u32) k.v C ∈ ros) (b : St w0 ros rs w) :
  Calls Tryz.prog 114 #[j.v, k.v] w (fun e w => ∃ (D : Hdr), e = .returned (D.v) ∧ St w0 ros (row 88 (rI .u32) D.v out :: rs) w) := by
 refine enterQ Tryz.func114 rfl Tryz.ntmps114 rfl fun Q I => sR fun _ J => Ya hnil.v rfl (wK J (sR fun _ K => Ya hnil.v rfl (wK K (sR fun _ L => Ya (.int .u64 0) rfl ?_))))
 refine wK L (sQ fun _ N => sR fun _ O => Ya (iV 0) rfl (wK O (blockQ fun R S => bE h fun T U h => ?_)))
 have V : ∀ (y : LI) (p : Hdr) (f : FV) w, f 5 = p.v → St w0 ros (row 88 (rI .u32) p.v y :: rs) w → y = T → R (.exit 0) (fr 41 f) w := by
  intro y p f w W b ho
  subst ho
  refine S _ _ _ (N _ _ (sR fun _ X => Ym p.v (eh W) (Ya p.v e0 (wK X (wp_ret ?_)))))
  cases h
  exact I _ _ _ (fin1r Tryz.results114 ⟨rfl, rfl⟩ ⟨_, rfl, b⟩)
 replace b := b.rowNh 88 (rI .u32)
 refine loopQ (fun s a w => ∃ (q : LI) (i d : Int) (f : FV) (m : Hdr), (q, i, d) = s ∧ a = fr 41 f ∧ f 0 = j.v ∧ f 1 = k.v ∧ f 5 = m.v ∧ f 6 = .int .u64 i ∧ f 7 = iV d ∧ St w0 ros (row 88 (rI .u32) m.v q :: rs) w) U ⟨_, _, _, _, _, rfl, rfl, rfl, rfl, rfl, rfl, rfl, b⟩ ?_
 rintro _ _ w Z ⟨q, i, d, f, m, rfl, rfl, r, t, z, a0, o, b⟩ c a1 c3 a2 a3
 refine seqQ fun c4 a4 a5 => sR fun _ a6 => Ym (iV d) (eh o) (Ym j.v (eh r) (yY (yLen SL_25 e0 b (rdI u)) (yY (ylss e0 e0) (wK a6 ?_))))
 refine cIf e0 c (fun a7 c => ?_) fun a7 c => ?_
 ·refine wp_skip (a4 _ _ (sQ fun _ a8 => blockQ fun _ a9 => sR fun _ b0 => Ym j.v (eh r) (Ym (iV d) (eh o) (bE c fun A E c => yY (yIa SL_25 e0 e0 b (rdI u) E) (yY (yI O_88 e0 b (rdI u) E) (yY (ycv (k' := .u64) (by kernel_rfl) (by kernel_rfl) e0) (Ym (.int .u64 i) (eh a0) (yY (ysub e0 e0) ?_))))))))
  refine Ya (.int .u64 (ws .u64 (wc .u64 A) i)) e0 (wK b0 (sQ fun b1 b2 => sR fun _ b3 => Ym (iV d) (eh o) (Ym k.v (eh t) (yY (yLen SL_25 e0 b (rdI x)) (yY (ylss e0 e0) (wK b3 ?_))))))
  have F : ∀ (g : Int) (f : FV) w, f 0 = j.v → f 1 = k.v → f 5 = m.v → f 7 = iV d → f 8 = .int .u64 g → St w0 ros (row 88 (rI .u32) m.v q :: rs) w → sparseref01_subMag_j4 q d g = some Z → b1 .normal (fr 41 f) w := by
   intro g f w b4 b5 b6 b7 G b h
   refine b2 _ _ (sR fun _ b8 => Ym m.v (eh b6) (Ym (.int .u64 g) (eh G) (yY (ycv (k' := .u32) (by kernel_rfl) (by kernel_rfl) e0) (yH (rLt (n := 1) (l := [wc .u32 g]) b SL_25 [.int .u32 (wc .u32 g)] (bp1 e0) rfl rfl (mks1 (cs := [.int .u32 (wc .u32 g)]) rfl mkI mks0)) fun c5 w b => bE h fun c6 b9 h => yH (rAp (b.k11) SL_25 e0 e0 rO1 b9) fun c0 w b => Ya c0.v e0 (wK b8 ?_)))))
   refine wR (Ym (.int .u64 g) (eh G) (yY (yshrc e0 rfl) (Ya (.int .u64 (wsrc .u64 g 63)) e0 (wN (a9 _ _ _ (a8 _ _ (wR (Ym (iV d) (eh b7) (yY (yadd e0 rfl) (Ya (iV (wa .i64 d 1)) e0 (wN ?_)))))))))))
   cases h
   exact a2 _ _ _ rfl ⟨_, _, _, _, _, rfl, rfl, b4, b5, rfl, rfl, rfl, (b.k1g)⟩
  refine cIf e0 c (fun c1 c => ?_) fun c1 c => ?_
  ·exact wR (Ym (.int .u64 (ws .u64 (wc .u64 A) i)) e0 (Ym k.v (eh t) (Ym (iV d) (eh o) (bE c fun c2 H c => yY (yIa SL_25 e0 e0 b (rdI x) H) (yY (yI O_88 e0 b (rdI x) H) (yY (ycv (k' := .u64) (by kernel_rfl) (by kernel_rfl) e0) (yY (ysub e0 e0) (Ya (.int .u64 (ws .u64 (ws .u64 (wc .u64 A) i) (wc .u64 c2))) e0 (wN (F _ _ _ r t z o rfl b c))))))))))
  ·exact wp_skip (F _ _ _ r t z o rfl b c)
 ·refine wp_exit (a5 _ _ _ rfl ?_)
  cases c
  exact a3 _ _ _ _ rfl rfl (V _ _ _ _ z b (a1 _ rfl))
theorem sparseref01_Add_ok {c : Bool} {k : LI} {d : Bool} {l : LI} {i f : Hdr} {out : Bool × LI} (b : sparseref01_Add c k d l = some out) (t : imm (rI .u32) i.v k ∈ ros) (u : imm (rI .u32) f.v l ∈ ros) (a : St w0 ros rs w) :
  Calls Tryz.prog 69 #[.agg #[.bool c, i.v], .agg #[.bool d, f.v]] w (fun e w => ∃ (m : Hdr), e = .returned (.agg #[.bool out.1, m.v]) ∧ St w0 ros (row 88 (rI .u32) m.v out.2 :: rs) w) := by
 refine enterQ Tryz.func69 rfl Tryz.ntmps69 rfl fun Q j => sR fun _ x => yBb (r_box (vals := [.bool c, i.v]) a e0 rfl) fun W w a => yBb (r_box (vals := [.bool d, f.v]) a e0 rfl) fun X w a => yBb (rAl a ZT_27) fun Z w a => wK x (sQ fun _ y => bE b fun a0 z b => bE b fun a3 A b => ?_)
 refine dR [0, 1, 3, 0, 8, 31, 63, 127] [2, 5, 6, 7] 4 folM ?_
 replace a := a.drew
 refine Dn [0, 1, 3, 4] [] [2] (yR rfl (yFb FL_27_1 e0) (yR rfl (lb_ i.v O_25 e0 a R2) (yR rfl (yFb FL_27_1 e0) (yR rfl (lb_ f.v O_25 e0 a R1) (Rn QSn ?_)))))
 refine Lc1 rfl ?_
 refine Lk wn (yCall FN_111 (a1 e0)) (sparseref01_trim_ok z t a) ?_
 rintro _ w ⟨g, rfl, a⟩
 refine ⟨_, rfl, ?_⟩
 refine Dn [] [3, 4] [5] (Rn (yS rfl (yFb FL_27_1 e0) (yS rfl (lb_ f.v O_25 e0 a R2) QSn)) ?_)
 refine Lc1 rfl ?_
 refine Lk wn (yCall FN_111 (a1 e0)) (sparseref01_trim_ok A u a) ?_
 rintro _ w ⟨h, rfl, a⟩
 refine ⟨_, rfl, ?_⟩
 refine Dn [] [] [6] (Rn QSn ?_)
 refine Lc1 rfl ?_
 refine Ly wn (a_ g.v e0) (Dn [] [] [7] (Rn QSn ?_))
 refine Lc1 rfl ?_
 refine Ly wn (a_ h.v e0) (Dz [] [] (Rn QSn (y _ _ (seqQ fun a4 B C => sR fun _ D => yY (yFb FL_27_0 e0) (yY (lb_ (.bool c) O_4 e0 a R4) (yY (yFb FL_27_0 e0) (yY (lb_ (.bool d) O_4 e0 a R3) (yY (yeqb (by kernel_rfl) e0 e0) (wK D (cB e0 b (fun E b => ?_) fun E b => ?_))))))))))
 ·refine sQ fun _ F => bE b fun a5 G b => bE b fun n H b => dR [0, 1, 0, 0, 12, 31, 63] [4, 5, 6] 3 folM ?_
  replace a := a.drew
  refine Dn [0, 1, 2, 3] [] [4] (yR rfl (yFb FL_27_0 e0) (yR rfl (lb_ (.bool c) O_4 e0 a R4) (yR rfl (m_ g.v e0) (yR rfl (m_ h.v e0) (Rn QSn ?_)))))
  refine Lc1 rfl ?_
  replace a := ((a.k11).fz).fz
  refine Lk wn (yCall FN_112 (a2 e0 e0)) (sparseref01_addMag_ok G F1 F0 a) ?_
  rintro _ w ⟨a6, rfl, a⟩
  refine ⟨_, rfl, ?_⟩
  refine Dn [] [0, 1] [5] (Rn (yS rfl (yFb FL_27_0 e0) (yS rfl (lb_ (.bool c) O_4 e0 a R3) QSn)) ?_)
  refine Lc1 rfl ?_
  replace a := a.fz
  refine Lk wn (yCall FN_93 (a2 e0 e0)) (sparseref01_make1_ok H F0 a) ?_
  rintro _ w ⟨o, rfl, a⟩
  refine ⟨_, rfl, ?_⟩
  refine Dn [] [] [6] (Rn QSn ?_)
  refine Lc1 rfl ?_
  replace a := a.k11
  refine LT wn (r_stbn (vals' := [.bool n.1, o.v]) (us := [.bool n.1, o.v]) a ST_27 e0 e0 rfl rfl (one_of rfl) rfl) fun w a => Dz [] [] (Rn QSn (F _ _ (wp_ret (C _ _ _ rfl ?_))))
  cases b
  exact j _ _ _ (fin1r Tryz.results69 (rcs2 rfl rfl a R0 ST_27 rfl) ⟨_, rfl, ((a.k23).facts (allT (allT (allT allI))))⟩)
 ·refine wp_skip (B _ _ (seqQ fun a7 I J => sR fun _ K => Ym g.v e0 (Ym h.v e0 (bE b fun a8 L b => ?_))))
  replace a := ((a.k11).fz).fz
  refine yC (yCall FN_113 (a2 e0 e0)) (sparseref01_cmpMag_ok L F1 F0 a) ?_
  rintro _ w ⟨rfl, a⟩
  refine ⟨_, rfl, ?_⟩
  refine yY (ygeq e0 rfl) (wK K ?_)
  refine cIf e0 b (fun N b => ?_) fun N b => ?_
  ·refine sQ fun _ O => bE b fun a9 R b => bE b fun p S b => dR [0, 1, 0, 0, 12, 31, 63] [4, 5, 6] 3 folM ?_
   replace a := a.drew
   refine Dn [0, 1, 2, 3] [] [4] (yR rfl (yFb FL_27_0 e0) (yR rfl (lb_ (.bool c) O_4 e0 a R2) (yR rfl (m_ g.v e0) (yR rfl (m_ h.v e0) (Rn QSn ?_)))))
   refine Lc1 rfl ?_
   refine Lk wn (yCall FN_114 (a2 e0 e0)) (sparseref01_subMag_ok R F1 F0 a) ?_
   rintro _ w ⟨b0, rfl, a⟩
   refine ⟨_, rfl, ?_⟩
   refine Dn [] [0, 1] [5] (Rn (yS rfl (yFb FL_27_0 e0) (yS rfl (lb_ (.bool c) O_4 e0 a R3) QSn)) ?_)
   refine Lc1 rfl ?_
   replace a := a.fz
   refine Lk wn (yCall FN_93 (a2 e0 e0)) (sparseref01_make1_ok S F0 a) ?_
   rintro _ w ⟨q, rfl, a⟩
   refine ⟨_, rfl, ?_⟩
   refine Dn [] [] [6] (Rn QSn ?_)
   refine Lc1 rfl ?_
   replace a := a.k11
   refine LT wn (r_stbn (vals' := [.bool p.1, q.v]) (us := [.bool p.1, q.v]) a ST_27 e0 e0 rfl rfl (one_of rfl) rfl) fun w a => Dz [] [] (Rn QSn (O _ _ (wp_ret (J _ _ _ rfl ?_))))
   cases b
   exact j _ _ _ (fin1r Tryz.results69 (rcs2 rfl rfl a R0 ST_27 rfl) ⟨_, rfl, ((a.k23).facts (allT (allT (allT allI))))⟩)
  ·refine wp_skip (I _ _ (sQ fun _ T => bE b fun b1 U b => bE b fun r V b => dR [0, 1, 0, 0, 12, 31, 63] [4, 5, 6] 3 folM ?_))
   replace a := a.drew
   refine Dn [0, 1, 2, 3] [] [4] (yR rfl (yFb FL_27_0 e0) (yR rfl (lb_ (.bool d) O_4 e0 a R1) (yR rfl (m_ h.v e0) (yR rfl (m_ g.v e0) (Rn QSn ?_)))))
   refine Lc1 rfl ?_
   refine Lk wn (yCall FN_114 (a2 e0 e0)) (sparseref01_subMag_ok U F0 F1 a) ?_
   rintro _ w ⟨b2, rfl, a⟩
   refine ⟨_, rfl, ?_⟩
   refine Dn [] [0, 1] [5] (Rn (yS rfl (yFb FL_27_0 e0) (yS rfl (lb_ (.bool d) O_4 e0 a R2) QSn)) ?_)
   refine Lc1 rfl ?_
   replace a := a.fz
   refine Lk wn (yCall FN_93 (a2 e0 e0)) (sparseref01_make1_ok V F0 a) ?_
   rintro _ w ⟨s, rfl, a⟩
   refine ⟨_, rfl, ?_⟩
   refine Dn [] [] [6] (Rn QSn ?_)
   refine Lc1 rfl ?_
   replace a := a.k11
   refine LT wn (r_stbn (vals' := [.bool r.1, s.v]) (us := [.bool r.1, s.v]) a ST_27 e0 e0 rfl rfl (one_of rfl) rfl) fun w a => Dz [] [] (Rn QSn (T _ _ (wp_ret ?_)))
   cases b
   exact j _ _ _ (fin1r Tryz.results69 (rcs2 rfl rfl a R0 ST_27 rfl) ⟨_, rfl, ((a.k23).facts (allT (allT (allT allI))))⟩)
theorem sparseref01_FromInt_ok {c : Int} {out : Bool × LI} (d : sparseref01_FromInt c = some out) (a : St w0 ros rs w) :
  Calls Tryz.prog 43 #[iV c] w (fun e w => ∃ (g : Hdr), e = .returned (.agg #[.bool out.1, g.v]) ∧ St w0 ros (row 88 (rI .u32) g.v out.2 :: rs) w) := by
 refine enterQ Tryz.func43 rfl Tryz.ntmps43 rfl fun Q p => sR fun _ q => yBb (rAl a ZT_27) fun h w a => wK q (sR fun _ r => Ym (iV c) e0 (yY (ycv (k' := .u64) (by kernel_rfl) (by kernel_rfl) e0) (Ya (.int .u64 (wc .u64 c)) e0 (wK r ?_))))
 refine sQ fun s t => sR fun _ u => Ym (iV c) e0 (yY (ylss e0 rfl) (wK u ?_))
 have i : ∀ (b : Int) (f : FV) w, f 0 = iV c → f 2 = (pB h) → f 3 = .int .u64 b → St w0 ros (box h 27 [.bool false, hnil.v] :: rs) w → sparseref01_FromInt_j1 c b = some out → s .normal (fr 22 f) w := by
  intro b f w x j k a d
  refine t _ _ (sR fun _ y => Ym (iV c) (eh x) (yY (ylss e0 rfl) (Ym (.int .u64 b) (eh k) (yY (ycv (k' := .u32) (by kernel_rfl) (by kernel_rfl) e0) (Ym (.int .u64 b) (eh k) (yY (yshrc e0 rfl) (yY (ycv (k' := .u32) (by kernel_rfl) (by kernel_rfl) e0) (yH (rLt (n := 2) (l := [wc .u32 b, wc .u32 (wsrc .u64 b 32)]) a SL_25 [.int .u32 (wc .u32 b), .int .u32 (wc .u32 (wsrc .u64 b 32))] (bp2 e0 e0) rfl rfl (mks1 (cs := [.int .u32 (wc .u32 b)]) rfl mkI (mks1 (cs := [.int .u32 (wc .u32 (wsrc .u64 b 32))]) rfl mkI mks0))) fun B w a => bE d fun m z d => ?_))))))))
  replace a := a.fz
  refine yC (yCall FN_93 (a2 e0 e0)) (sparseref01_make1_ok z F0 a) ?_
  rintro _ w ⟨o, rfl, a⟩
  refine ⟨_, rfl, ?_⟩
  refine yT (r_stbn (vals' := [.bool m.1, o.v]) (us := [.bool m.1, o.v]) (a.k11) ST_27 (eh j) e0 rfl rfl (one_of rfl) rfl) fun w a => wK y (wp_ret ?_)
  cases d
  exact p _ _ _ (fin1r Tryz.results43 (rcs2 rfl j a R0 ST_27 rfl) ⟨_, rfl, ((a.k1n).facts (allT allI))⟩)
 refine cIf e0 d (fun A d => ?_) fun A d => ?_
 ·exact wR (Ym (iV c) e0 (yY (yadd e0 rfl) (yY (yneg e0) (yY (ycv (k' := .u64) (by kernel_rfl) (by kernel_rfl) e0) (yY (yadd e0 rfl) (Ya (.int .u64 (wa .u64 (wc .u64 (wneg .i64 (wa .i64 c 1))) 1)) e0 (wN (i _ _ _ rfl rfl rfl a d))))))))
 ·exact wp_skip (i _ _ _ rfl rfl rfl a d)
theorem sparseref01_Neg_ok {b : Bool} {f : LI} {c : Hdr} {out : Bool × LI} (d : sparseref01_Neg b f = some out) (j : imm (rI .u32) c.v f ∈ ros) (a : St w0 ros rs w) :
  Calls Tryz.prog 90 #[.agg #[.bool b, c.v]] w (fun e w => ∃ (g : Hdr), e = .returned (.agg #[.bool out.1, g.v]) ∧ St w0 ros (row 88 (rI .u32) g.v out.2 :: rs) w) := by
 refine enterQ Tryz.func90 rfl Tryz.ntmps90 rfl fun Q k => sR fun _ l => yBb (r_box (vals := [.bool b, c.v]) a e0 rfl) fun o w a => yBb (rAl a ZT_27) fun p w a => wK l (sR fun _ m => yY (yFb FL_27_0 e0) (yY (lb_ (.bool b) O_4 e0 a R1) (yY (ynot e0) ?_)))
 refine yY (yFb FL_27_1 e0) (yY (lb_ c.v O_25 e0 a R1) (bE d fun h n d => yC (yCall FN_93 (a2 e0 e0)) (sparseref01_make1_ok n j a) ?_))
 rintro _ w ⟨i, rfl, a⟩
 refine ⟨_, rfl, ?_⟩
 refine yT (r_stbn (vals' := [.bool h.1, i.v]) (us := [.bool h.1, i.v]) (a.k11) ST_27 e0 e0 rfl rfl (one_of rfl) rfl) fun w a => wK m (wp_ret ?_)
 cases d
 exact k _ _ _ (fin1r Tryz.results90 (rcs2 rfl rfl a R0 ST_27 rfl) ⟨_, rfl, (a.k22)⟩)
theorem sparseref01_Sub_ok {b : Bool} {h : LI} {f : Bool} {i : LI} {c g : Hdr} {out : Bool × LI} (d : sparseref01_Sub b h f i = some out) (m : imm (rI .u32) c.v h ∈ ros) (n : imm (rI .u32) g.v i ∈ ros) (a : St w0 ros rs w) :
  Calls Tryz.prog 73 #[.agg #[.bool b, c.v], .agg #[.bool f, g.v]] w (fun e w => ∃ (j : Hdr), e = .returned (.agg #[.bool out.1, j.v]) ∧ St w0 ros (row 88 (rI .u32) j.v out.2 :: rs) w) := by
 refine enterQ Tryz.func73 rfl Tryz.ntmps73 rfl fun Q o => sR fun _ p => yBb (r_box (vals := [.bool b, c.v]) a e0 rfl) fun t w a => yBb (r_box (vals := [.bool f, g.v]) a e0 rfl) fun u w a => yBb (rAl a ZT_27) fun x w a => wK p (sQ fun _ q => bE d fun y r d => bE d fun k s d => ?_)
 refine dR [0, 0, 2, 7, 15] [2, 3, 4] 3 folM ?_
 replace a := a.drew
 refine Dn [0, 1] [] [2] (yR rfl (lbs_ [.bool b, c.v] ST_27 e0 a R2) (yR rfl (lbs_ [.bool f, g.v] ST_27 e0 a R1) (Rn QSn ?_)))
 refine Lc1 rfl ?_
 refine Lk wn (yCall FN_90 (a1 e0)) (sparseref01_Neg_ok r n a) ?_
 rintro _ w ⟨z, rfl, a⟩
 refine ⟨_, rfl, ?_⟩
 refine Dn [] [0] [3] (Rn (yS rfl (lbs_ [.bool b, c.v] ST_27 e0 a R3) QSn) ?_)
 refine Lc1 rfl ?_
 replace a := a.fz
 refine Lk wn (yCall FN_69 (a2 e0 e0)) (sparseref01_Add_ok s (mtF m) F0 a) ?_
 rintro _ w ⟨l, rfl, a⟩
 refine ⟨_, rfl, ?_⟩
 refine Dn [] [] [4] (Rn QSn ?_)
 refine Lc1 rfl ?_
 replace a := a.k11
 refine LT wn (r_stbn (vals' := [.bool k.1, l.v]) (us := [.bool k.1, l.v]) a ST_27 e0 e0 rfl rfl (one_of rfl) rfl) fun w a => Dz [] [] (Rn QSn (q _ _ (wp_ret ?_)))
 cases d
 exact o _ _ _ (fin1r Tryz.results73 (rcs2 rfl rfl a R0 ST_27 rfl) ⟨_, rfl, ((a.k23).facts (allT allI))⟩)
theorem sparseref01_DivMod_ok {K : Bool} {Z : LI} {G : Bool} {a0 : LI} {L H : Hdr} {out : Bool × LI × Bool × LI} (b : sparseref01_DivMod K Z G a0 = some out) (c0 : imm (rI .u32) L.v Z ∈ ros) (c1 : imm (rI .u32) H.v a0 ∈ ros) (a : St w0 ros rs w) :
  Calls Tryz.prog 79 #[.agg #[.bool K, L.v], .agg #[.bool G, H.v]] w (fun e w => ∃ (a3 a4 : Hdr), e = .returned (.tuple #[.agg #[.bool out.1, a3.v], .agg #[.bool out.2.2.1, a4.v]]) ∧ St w0 (imm (rI .u32) a4.v out.2.2.2 :: ros) (row 88 (rI .u32) a3.v out.2.1 :: rs) w) := by
 refine enterQ Tryz.func79 rfl Tryz.ntmps79 rfl fun Q c2 => sR fun _ c3 => yBb (r_box (vals := [.bool K, L.v]) a e0 rfl) fun f0 w a => yBb (r_box (vals := [.bool G, H.v]) a e0 rfl) fun a5 w a => yBb (rAl a ZT_27) fun A w a => yBb (rAl a ZT_27) fun B w a => wK c3 (sQ fun _ c4 => ?_)
 refine bE b fun i c5 b => bE b fun l c6 b => dR [0, 1, 0, 7, 15, 31] [1, 3, 4, 5] 4 folM ?_
 replace a := a.drew
 refine Dn [0, 2] [] [1] (yR rfl (lbs_ [.bool K, L.v] ST_27 e0 a R3) (yR rfl (lbs_ [.bool G, H.v] ST_27 e0 a R2) (Rn QSn ?_)))
 refine Lc1 rfl ?_
 refine Lk wn (yCall FN_91 (a1 e0)) (sparseref01_Norm_ok c5 c0 a) ?_
 rintro _ w ⟨O, rfl, a⟩
 refine ⟨_, rfl, ?_⟩
 refine Dn [] [2] [3] (Rn (yS rfl (lbs_ [.bool G, H.v] ST_27 e0 a R3) QSn) ?_)
 refine Lc1 rfl ?_
 refine Lk wn (yCall FN_91 (a1 e0)) (sparseref01_Norm_ok c6 c1 a) ?_
 rintro _ w ⟨C, rfl, a⟩
 refine ⟨_, rfl, ?_⟩
 refine Dn [] [] [4] (Rn QSn ?_)
 refine Lc1 rfl ?_
 replace a := a.k1x
 refine LT wn (r_stbn (vals' := [.bool i.1, O.v]) (us := [.bool i.1, O.v]) a ST_27 e0 e0 rfl rfl (one_of rfl) rfl) fun w a => Dn [] [] [5] (Rn QSn ?_)
 refine Lc1 rfl ?_
 replace a := a.k1x
 refine LT wn (r_stbn (vals' := [.bool l.1, C.v]) (us := [.bool l.1, C.v]) a ST_27 e0 e0 rfl rfl (one_of rfl) rfl) fun w a => Dz [] [] (Rn QSn (c4 _ _ (sR fun _ c7 => yY (yFb FL_27_1 e0) (yY (lb_ O.v O_25 e0 a R1) (yY (yFb FL_27_1 e0) (yY (lb_ C.v O_25 e0 a R0) (bE b fun f1 c8 b => ?_)))))))
 replace a := (((a.k15).fz).k1a).fz
 refine yC (yCall FN_118 (a2 e0 e0)) (sparseref01_divMag_ok c8 F1 F0 a) ?_
 rintro _ w ⟨p, j, rfl, a⟩
 refine ⟨_, rfl, ?_⟩
 refine Ym (.tuple #[p.v, j.v]) e0 (yY (x_ p.v e0) (yY (x_ j.v e0) (Ya p.v e0 (Ya j.v e0 (wK c7 (sQ fun _ c9 => bE b fun d I b => bE b fun g m b => ?_))))))
 refine joinN (n := 50) (fun f w => ∃ (s : Nat) (t : Hdr) (u : Nat) (D : Hdr), f 3 = (pB a5) ∧ f 4 = (pB A) ∧ f 5 = (pB B) ∧ f 8 = (pB s) ∧ f 9 = (pB u) ∧ St w0 (imm (rI .u32) C.v l.2 :: ros) (box a5 27 [.bool l.1, C.v] :: box A 27 [.bool false, hnil.v] :: box B 27 [.bool false, hnil.v] :: row 88 (rI .u32) t.v d.2 :: box s 27 [.bool d.1, t.v] :: row 88 (rI .u32) D.v g.2 :: box u 27 [.bool g.1, D.v] :: rs) w) (fun k => ?_) ?_
 ·refine dR [0, 1, 0, 4, 15, 0, 63, 0, 128, 0, 1023, 0, 0, 8191, 16383] [6, 10, 11, 12, 13, 14] 6 folM ?_
  replace a := a.drew
  refine Dn [0, 1, 2, 3, 4, 5, 7, 8, 9] [] [6, 11, 12] (yR rfl (yFb FL_27_0 e0) (yR rfl (lb_ (.bool i.1) O_4 e0 a R2) (yR rfl (yFb FL_27_0 e0) (yR rfl (lb_ (.bool l.1) O_4 e0 a R1) (yR rfl (yneb (by kernel_rfl) e0 e0) (yR rfl (m_ p.v e0) (yR rfl (yFb FL_27_0 e0) (yR rfl (lb_ (.bool i.1) O_4 e0 a R2) (yR rfl (m_ j.v e0) (Rn QSn ?_))))))))))
  refine Lc rfl ?_ (Lc rfl ?_ (Lc1 rfl ?_))
  ·replace a := a.fz
   refine Lk wn (yCall FN_93 (a2 e0 e0)) (sparseref01_make1_ok I F0 a) ?_
   rintro _ w ⟨h, rfl, a⟩
   refine ⟨_, rfl, ?_⟩
   refine Dn [] [7, 8, 9] [10, 11, 12] (Rn (yS rfl (yFb FL_27_0 e0) (yS rfl (lb_ (.bool i.1) O_4 e0 a R2) (yS rfl (m_ j.v e0) QSn))) ?_)
   refine Lc rfl ?_ (Lc rfl ?_ (Lc1 rfl ?_))
   ·refine Lk wn (yCall FN_93 (a2 e0 e0)) (sparseref01_make1_ok m F1 a) ?_
    rintro _ w ⟨c, rfl, a⟩
    refine ⟨_, rfl, ?_⟩
    refine Dn [] [] [11, 12] (Rn QSn ?_)
    refine Lc rfl ?_ (Lc1 rfl ?_)
    ·refine LB wn (rAl a ZT_27) fun q w a => Dn [] [] [12] (Rn QSn ?_)
     refine Lc1 rfl ?_
     refine LB wn (rAl a ZT_27) fun r w a => Dn [] [] [13] (Rn QSn ?_)
     refine Lc1 rfl ?_
     replace a := a.k11
     refine LT wn (r_stbn (vals' := [.bool d.1, h.v]) (us := [.bool d.1, h.v]) a ST_27 e0 e0 rfl rfl (one_of rfl) rfl) fun w a => Dn [] [] [14] (Rn QSn ?_)
     refine Lc1 rfl ?_
     replace a := a.k11
     exact LT wn (r_stbn (vals' := [.bool g.1, c.v]) (us := [.bool g.1, c.v]) a ST_27 e0 e0 rfl rfl (one_of rfl) rfl) fun w a => Dz [] [] (Rn QSn (k _ _ ⟨_, _, _, _, rfl, rfl, rfl, rfl, rfl, ((a.k24).facts (allC F2 (allT (allT (allT (allT allI))))))⟩))
    ·refine LB wn (rAl a ZT_27) fun r w a => Dn [] [] [11] (Rn QSn ?_)
     refine Lc1 rfl ?_
     refine LB wn (rAl a ZT_27) fun q w a => Dn [] [] [13] (Rn QSn ?_)
     refine Lc1 rfl ?_
     refine LT wn (r_stbn (vals' := [.bool d.1, h.v]) (us := [.bool d.1, h.v]) a ST_27 e0 e0 rfl rfl (one_of rfl) rfl) fun w a => Dn [] [] [14] (Rn QSn ?_)
     refine Lc1 rfl ?_
     replace a := a.k11
     exact LT wn (r_stbn (vals' := [.bool g.1, c.v]) (us := [.bool g.1, c.v]) a ST_27 e0 e0 rfl rfl (one_of rfl) rfl) fun w a => Dz [] [] (Rn QSn (k _ _ ⟨_, _, _, _, rfl, rfl, rfl, rfl, rfl, ((a.k24).facts (allC F2 (allT (allT (allT (allT allI))))))⟩))
   ·refine LB wn (rAl a ZT_27) fun q w a => Dn [] [7, 8, 9] [10, 12] (Rn (yS rfl (yFb FL_27_0 e0) (yS rfl (lb_ (.bool i.1) O_4 e0 a R3) (yS rfl (m_ j.v e0) QSn))) ?_)
    refine Lc rfl ?_ (Lc1 rfl ?_)
    ·refine Lk wn (yCall FN_93 (a2 e0 e0)) (sparseref01_make1_ok m F1 a) ?_
     rintro _ w ⟨c, rfl, a⟩
     refine ⟨_, rfl, ?_⟩
     refine Dn [] [] [12] (Rn QSn ?_)
     refine Lc1 rfl ?_
     refine LB wn (rAl a ZT_27) fun r w a => Dn [] [] [13] (Rn QSn ?_)
     refine Lc1 rfl ?_
     replace a := a.k1a
     refine LT wn (r_stbn (vals' := [.bool d.1, h.v]) (us := [.bool d.1, h.v]) a ST_27 e0 e0 rfl rfl (one_of rfl) rfl) fun w a => Dn [] [] [14] (Rn QSn ?_)
     refine Lc1 rfl ?_
     replace a := a.k11
     exact LT wn (r_stbn (vals' := [.bool g.1, c.v]) (us := [.bool g.1, c.v]) a ST_27 e0 e0 rfl rfl (one_of rfl) rfl) fun w a => Dz [] [] (Rn QSn (k _ _ ⟨_, _, _, _, rfl, rfl, rfl, rfl, rfl, ((a.k24).facts (allC F2 (allT (allT (allT (allT allI))))))⟩))
    ·refine LB wn (rAl a ZT_27) fun r w a => Dn [] [7, 8, 9] [10] (Rn (yS rfl (yFb FL_27_0 e0) (yS rfl (lb_ (.bool i.1) O_4 e0 a R4) (yS rfl (m_ j.v e0) QSn))) ?_)
     refine Lc1 rfl ?_
     refine Lk wn (yCall FN_93 (a2 e0 e0)) (sparseref01_make1_ok m F1 a) ?_
     rintro _ w ⟨c, rfl, a⟩
     refine ⟨_, rfl, ?_⟩
     refine Dn [] [] [13] (Rn QSn ?_)
     refine Lc1 rfl ?_
     replace a := a.k1a
     refine LT wn (r_stbn (vals' := [.bool d.1, h.v]) (us := [.bool d.1, h.v]) a ST_27 e0 e0 rfl rfl (one_of rfl) rfl) fun w a => Dn [] [] [14] (Rn QSn ?_)
     refine Lc1 rfl ?_
     replace a := a.k1a
     exact LT wn (r_stbn (vals' := [.bool g.1, c.v]) (us := [.bool g.1, c.v]) a ST_27 e0 e0 rfl rfl (one_of rfl) rfl) fun w a => Dz [] [] (Rn QSn (k _ _ ⟨_, _, _, _, rfl, rfl, rfl, rfl, rfl, ((a.k24).facts (allC F2 (allT (allT (allT (allT allI))))))⟩))
   ·refine LB wn (rAl a ZT_27) fun r w a => Dn [] [7, 8, 9] [10, 11] (Rn (yS rfl (yFb FL_27_0 e0) (yS rfl (lb_ (.bool i.1) O_4 e0 a R3) (yS rfl (m_ j.v e0) QSn))) ?_)
    refine Lc rfl ?_ (Lc1 rfl ?_)
    ·refine Lk wn (yCall FN_93 (a2 e0 e0)) (sparseref01_make1_ok m F1 a) ?_
     rintro _ w ⟨c, rfl, a⟩
     refine ⟨_, rfl, ?_⟩
     refine Dn [] [] [11] (Rn QSn ?_)
     refine Lc1 rfl ?_
     refine LB wn (rAl a ZT_27) fun q w a => Dn [] [] [13] (Rn QSn ?_)
     refine Lc1 rfl ?_
     refine LT wn (r_stbn (vals' := [.bool d.1, h.v]) (us := [.bool d.1, h.v]) a ST_27 e0 e0 rfl rfl (one_of rfl) rfl) fun w a => Dn [] [] [14] (Rn QSn ?_)
     refine Lc1 rfl ?_
     replace a := a.k1a
     exact LT wn (r_stbn (vals' := [.bool g.1, c.v]) (us := [.bool g.1, c.v]) a ST_27 e0 e0 rfl rfl (one_of rfl) rfl) fun w a => Dz [] [] (Rn QSn (k _ _ ⟨_, _, _, _, rfl, rfl, rfl, rfl, rfl, ((a.k24).facts (allC F2 (allT (allT (allT (allT allI))))))⟩))
    ·refine LB wn (rAl a ZT_27) fun q w a => Dn [] [7, 8, 9] [10] (Rn (yS rfl (yFb FL_27_0 e0) (yS rfl (lb_ (.bool i.1) O_4 e0 a R4) (yS rfl (m_ j.v e0) QSn))) ?_)
     refine Lc1 rfl ?_
     refine Lk wn (yCall FN_93 (a2 e0 e0)) (sparseref01_make1_ok m F1 a) ?_
     rintro _ w ⟨c, rfl, a⟩
     refine ⟨_, rfl, ?_⟩
     refine Dn [] [] [13] (Rn QSn ?_)
     refine Lc1 rfl ?_
     replace a := a.k11
     refine LT wn (r_stbn (vals' := [.bool d.1, h.v]) (us := [.bool d.1, h.v]) a ST_27 e0 e0 rfl rfl (one_of rfl) rfl) fun w a => Dn [] [] [14] (Rn QSn ?_)
     refine Lc1 rfl ?_
     replace a := a.k1a
     exact LT wn (r_stbn (vals' := [.bool g.1, c.v]) (us := [.bool g.1, c.v]) a ST_27 e0 e0 rfl rfl (one_of rfl) rfl) fun w a => Dz [] [] (Rn QSn (k _ _ ⟨_, _, _, _, rfl, rfl, rfl, rfl, rfl, ((a.k24).facts (allC F2 (allT (allT (allT (allT allI))))))⟩))
  ·refine LB wn (rAl a ZT_27) fun q w a => Dn [] [0, 1, 2, 3, 4, 5, 7, 8, 9] [6, 12] (Rn (yS rfl (yFb FL_27_0 e0) (yS rfl (lb_ (.bool i.1) O_4 e0 a R3) (yS rfl (yFb FL_27_0 e0) (yS rfl (lb_ (.bool l.1) O_4 e0 a R2) (yS rfl (yneb (by kernel_rfl) e0 e0) (yS rfl (m_ p.v e0) (yS rfl (yFb FL_27_0 e0) (yS rfl (lb_ (.bool i.1) O_4 e0 a R3) (yS rfl (m_ j.v e0) QSn))))))))) ?_)
   refine Lc rfl ?_ (Lc1 rfl ?_)
   ·replace a := a.k11
    replace a := a.fz
    refine Lk wn (yCall FN_93 (a2 e0 e0)) (sparseref01_make1_ok I F0 a) ?_
    rintro _ w ⟨h, rfl, a⟩
    refine ⟨_, rfl, ?_⟩
    refine Dn [] [7, 8, 9] [10, 12] (Rn (yS rfl (yFb FL_27_0 e0) (yS rfl (lb_ (.bool i.1) O_4 e0 a R3) (yS rfl (m_ j.v e0) QSn))) ?_)
    refine Lc rfl ?_ (Lc1 rfl ?_)
    ·refine Lk wn (yCall FN_93 (a2 e0 e0)) (sparseref01_make1_ok m F1 a) ?_
     rintro _ w ⟨c, rfl, a⟩
     refine ⟨_, rfl, ?_⟩
     refine Dn [] [] [12] (Rn QSn ?_)
     refine Lc1 rfl ?_
     refine LB wn (rAl a ZT_27) fun r w a => Dn [] [] [13] (Rn QSn ?_)
     refine Lc1 rfl ?_
     replace a := a.k15
     refine LT wn (r_stbn (vals' := [.bool d.1, h.v]) (us := [.bool d.1, h.v]) a ST_27 e0 e0 rfl rfl (one_of rfl) rfl) fun w a => Dn [] [] [14] (Rn QSn ?_)
     refine Lc1 rfl ?_
     replace a := a.k11
     exact LT wn (r_stbn (vals' := [.bool g.1, c.v]) (us := [.bool g.1, c.v]) a ST_27 e0 e0 rfl rfl (one_of rfl) rfl) fun w a => Dz [] [] (Rn QSn (k _ _ ⟨_, _, _, _, rfl, rfl, rfl, rfl, rfl, ((a.k24).facts (allC F2 (allT (allT (allT (allT allI))))))⟩))
    ·refine LB wn (rAl a ZT_27) fun r w a => Dn [] [7, 8, 9] [10] (Rn (yS rfl (yFb FL_27_0 e0) (yS rfl (lb_ (.bool i.1) O_4 e0 a R4) (yS rfl (m_ j.v e0) QSn))) ?_)
     refine Lc1 rfl ?_
     refine Lk wn (yCall FN_93 (a2 e0 e0)) (sparseref01_make1_ok m F1 a) ?_
     rintro _ w ⟨c, rfl, a⟩
     refine ⟨_, rfl, ?_⟩
     refine Dn [] [] [13] (Rn QSn ?_)
     refine Lc1 rfl ?_
     replace a := a.k15
     refine LT wn (r_stbn (vals' := [.bool d.1, h.v]) (us := [.bool d.1, h.v]) a ST_27 e0 e0 rfl rfl (one_of rfl) rfl) fun w a => Dn [] [] [14] (Rn QSn ?_)
     refine Lc1 rfl ?_
     replace a := a.k1a
     exact LT wn (r_stbn (vals' := [.bool g.1, c.v]) (us := [.bool g.1, c.v]) a ST_27 e0 e0 rfl rfl (one_of rfl) rfl) fun w a => Dz [] [] (Rn QSn (k _ _ ⟨_, _, _, _, rfl, rfl, rfl, rfl, rfl, ((a.k24).facts (allC F2 (allT (allT (allT (allT allI))))))⟩))
   ·refine LB wn (rAl a ZT_27) fun r w a => Dn [] [0, 1, 2, 3, 4, 5, 7, 8, 9] [6] (Rn (yS rfl (yFb FL_27_0 e0) (yS rfl (lb_ (.bool i.1) O_4 e0 a R4) (yS rfl (yFb FL_27_0 e0) (yS rfl (lb_ (.bool l.1) O_4 e0 a R3) (yS rfl (yneb (by kernel_rfl) e0 e0) (yS rfl (m_ p.v e0) (yS rfl (yFb FL_27_0 e0) (yS rfl (lb_ (.bool i.1) O_4 e0 a R4) (yS rfl (m_ j.v e0) QSn))))))))) ?_)
    refine Lc1 rfl ?_
    replace a := (a.k1a).fz
    refine Lk wn (yCall FN_93 (a2 e0 e0)) (sparseref01_make1_ok I F0 a) ?_
    rintro _ w ⟨h, rfl, a⟩
    refine ⟨_, rfl, ?_⟩
    refine Dn [] [7, 8, 9] [10] (Rn (yS rfl (yFb FL_27_0 e0) (yS rfl (lb_ (.bool i.1) O_4 e0 a R4) (yS rfl (m_ j.v e0) QSn))) ?_)
    refine Lc1 rfl ?_
    refine Lk wn (yCall FN_93 (a2 e0 e0)) (sparseref01_make1_ok m F1 a) ?_
    rintro _ w ⟨c, rfl, a⟩
    refine ⟨_, rfl, ?_⟩
    refine Dn [] [] [13] (Rn QSn ?_)
    refine Lc1 rfl ?_
    replace a := a.k15
    refine LT wn (r_stbn (vals' := [.bool d.1, h.v]) (us := [.bool d.1, h.v]) a ST_27 e0 e0 rfl rfl (one_of rfl) rfl) fun w a => Dn [] [] [14] (Rn QSn ?_)
    refine Lc1 rfl ?_
    replace a := a.k15
    exact LT wn (r_stbn (vals' := [.bool g.1, c.v]) (us := [.bool g.1, c.v]) a ST_27 e0 e0 rfl rfl (one_of rfl) rfl) fun w a => Dz [] [] (Rn QSn (k _ _ ⟨_, _, _, _, rfl, rfl, rfl, rfl, rfl, ((a.k24).facts (allC F2 (allT (allT (allT (allT allI))))))⟩))
  ·refine LB wn (rAl a ZT_27) fun r w a => Dn [] [0, 1, 2, 3, 4, 5, 7, 8, 9] [6, 11] (Rn (yS rfl (yFb FL_27_0 e0) (yS rfl (lb_ (.bool i.1) O_4 e0 a R3) (yS rfl (yFb FL_27_0 e0) (yS rfl (lb_ (.bool l.1) O_4 e0 a R2) (yS rfl (yneb (by kernel_rfl) e0 e0) (yS rfl (m_ p.v e0) (yS rfl (yFb FL_27_0 e0) (yS rfl (lb_ (.bool i.1) O_4 e0 a R3) (yS rfl (m_ j.v e0) QSn))))))))) ?_)
   refine Lc rfl ?_ (Lc1 rfl ?_)
   ·replace a := a.k11
    replace a := a.fz
    refine Lk wn (yCall FN_93 (a2 e0 e0)) (sparseref01_make1_ok I F0 a) ?_
    rintro _ w ⟨h, rfl, a⟩
    refine ⟨_, rfl, ?_⟩
    refine Dn [] [7, 8, 9] [10, 11] (Rn (yS rfl (yFb FL_27_0 e0) (yS rfl (lb_ (.bool i.1) O_4 e0 a R3) (yS rfl (m_ j.v e0) QSn))) ?_)
    refine Lc rfl ?_ (Lc1 rfl ?_)
    ·refine Lk wn (yCall FN_93 (a2 e0 e0)) (sparseref01_make1_ok m F1 a) ?_
     rintro _ w ⟨c, rfl, a⟩
     refine ⟨_, rfl, ?_⟩
     refine Dn [] [] [11] (Rn QSn ?_)
     refine Lc1 rfl ?_
     refine LB wn (rAl a ZT_27) fun q w a => Dn [] [] [13] (Rn QSn ?_)
     refine Lc1 rfl ?_
     refine LT wn (r_stbn (vals' := [.bool d.1, h.v]) (us := [.bool d.1, h.v]) a ST_27 e0 e0 rfl rfl (one_of rfl) rfl) fun w a => Dn [] [] [14] (Rn QSn ?_)
     refine Lc1 rfl ?_
     replace a := a.k15
     exact LT wn (r_stbn (vals' := [.bool g.1, c.v]) (us := [.bool g.1, c.v]) a ST_27 e0 e0 rfl rfl (one_of rfl) rfl) fun w a => Dz [] [] (Rn QSn (k _ _ ⟨_, _, _, _, rfl, rfl, rfl, rfl, rfl, ((a.k24).facts (allC F2 (allT (allT (allT (allT allI))))))⟩))
    ·refine LB wn (rAl a ZT_27) fun q w a => Dn [] [7, 8, 9] [10] (Rn (yS rfl (yFb FL_27_0 e0) (yS rfl (lb_ (.bool i.1) O_4 e0 a R4) (yS rfl (m_ j.v e0) QSn))) ?_)
     refine Lc1 rfl ?_
     refine Lk wn (yCall FN_93 (a2 e0 e0)) (sparseref01_make1_ok m F1 a) ?_
     rintro _ w ⟨c, rfl, a⟩
     refine ⟨_, rfl, ?_⟩
     refine Dn [] [] [13] (Rn QSn ?_)
     refine Lc1 rfl ?_
     replace a := a.k11
     refine LT wn (r_stbn (vals' := [.bool d.1, h.v]) (us := [.bool d.1, h.v]) a ST_27 e0 e0 rfl rfl (one_of rfl) rfl) fun w a => Dn [] [] [14] (Rn QSn ?_)
     refine Lc1 rfl ?_
     replace a := a.k15
     exact LT wn (r_stbn (vals' := [.bool g.1, c.v]) (us := [.bool g.1, c.v]) a ST_27 e0 e0 rfl rfl (one_of rfl) rfl) fun w a => Dz [] [] (Rn QSn (k _ _ ⟨_, _, _, _, rfl, rfl, rfl, rfl, rfl, ((a.k24).facts (allC F2 (allT (allT (allT (allT allI))))))⟩))
   ·refine LB wn (rAl a ZT_27) fun q w a => Dn [] [0, 1, 2, 3, 4, 5, 7, 8, 9] [6] (Rn (yS rfl (yFb FL_27_0 e0) (yS rfl (lb_ (.bool i.1) O_4 e0 a R4) (yS rfl (yFb FL_27_0 e0) (yS rfl (lb_ (.bool l.1) O_4 e0 a R3) (yS rfl (yneb (by kernel_rfl) e0 e0) (yS rfl (m_ p.v e0) (yS rfl (yFb FL_27_0 e0) (yS rfl (lb_ (.bool i.1) O_4 e0 a R4) (yS rfl (m_ j.v e0) QSn))))))))) ?_)
    refine Lc1 rfl ?_
    replace a := (a.k1a).fz
    refine Lk wn (yCall FN_93 (a2 e0 e0)) (sparseref01_make1_ok I F0 a) ?_
    rintro _ w ⟨h, rfl, a⟩
    refine ⟨_, rfl, ?_⟩
    refine Dn [] [7, 8, 9] [10] (Rn (yS rfl (yFb FL_27_0 e0) (yS rfl (lb_ (.bool i.1) O_4 e0 a R4) (yS rfl (m_ j.v e0) QSn))) ?_)
    refine Lc1 rfl ?_
    refine Lk wn (yCall FN_93 (a2 e0 e0)) (sparseref01_make1_ok m F1 a) ?_
    rintro _ w ⟨c, rfl, a⟩
    refine ⟨_, rfl, ?_⟩
    refine Dn [] [] [13] (Rn QSn ?_)
    refine Lc1 rfl ?_
    replace a := a.k1a
    refine LT wn (r_stbn (vals' := [.bool d.1, h.v]) (us := [.bool d.1, h.v]) a ST_27 e0 e0 rfl rfl (one_of rfl) rfl) fun w a => Dn [] [] [14] (Rn QSn ?_)
    refine Lc1 rfl ?_
    replace a := a.k15
    exact LT wn (r_stbn (vals' := [.bool g.1, c.v]) (us := [.bool g.1, c.v]) a ST_27 e0 e0 rfl rfl (one_of rfl) rfl) fun w a => Dz [] [] (Rn QSn (k _ _ ⟨_, _, _, _, rfl, rfl, rfl, rfl, rfl, ((a.k24).facts (allC F2 (allT (allT (allT (allT allI))))))⟩))
 rintro f w ⟨s, t, u, D, a6, R, S, o, x, a⟩
 refine c9 _ _ (sQ fun a7 d0 => sR fun _ d1 => yY (lbs_ [.bool g.1, D.v] ST_27 (eh x) a R6) (bE b fun f2 d2 b => ?_))
 replace a := (a.k1x).fz
 refine yC (yCall FN_89 (a1 e0)) (sparseref01_Sign_ok d2 F0 a) ?_
 rintro _ w ⟨rfl, a⟩
 refine ⟨_, rfl, ?_⟩
 refine yY (ylss e0 rfl) (wK d1 ?_)
 have a8 : ∀ (E : Bool) (T : LI) (y : Bool) (U : LI) (F z : Hdr) (f : FV) w, f 4 = (pB A) → f 5 = (pB B) → f 8 = (pB s) → f 9 = (pB u) → St w0 (imm (rI .u32) z.v U :: ros) (box A 27 [.bool false, hnil.v] :: box B 27 [.bool false, hnil.v] :: row 88 (rI .u32) F.v T :: box s 27 [.bool E, F.v] :: box u 27 [.bool y, z.v] :: rs) w → sparseref01_DivMod_j3 E T y U = some out → a7 .normal (fr 50 f) w := by
  intro E T y U F z f w a9 b0 d3 b1 a b
  refine d0 _ _ (sQ fun _ d4 => dR [0, 0, 1, 7] [2, 3] 2 folM ?_)
  replace a := a.drew
  refine Dn [0, 1] [] [2] (yR rfl (lbs_ [.bool E, F.v] ST_27 (eh d3) a R3) (yR rfl (lbs_ [.bool y, z.v] ST_27 (eh b1) a R4) (Rn QSn ?_)))
  refine Lc1 rfl ?_
  refine LT wn (r_stbn (vals' := [.bool E, F.v]) (us := [.bool E, F.v]) a ST_27 (eh a9) e0 rfl rfl (one_of rfl) rfl) fun w a => Dn [] [1] [3] (Rn (yS rfl (lbs_ [.bool y, z.v] ST_27 (eh b1) a R4) QSn) ?_)
  refine Lc1 rfl ?_
  replace a := a.k11
  refine LT wn (r_stbn (vals' := [.bool y, z.v]) (us := [.bool y, z.v]) a ST_27 (eh b0) e0 rfl rfl (one_of rfl) rfl) fun w a => Dz [] [] (Rn QSn (d4 _ _ (wp_ret ?_)))
  cases b
  exact c2 _ _ _ (fin2r Tryz.results79 (rcs2 rfl a9 a R1 ST_27 rfl) (rcs2 rfl b0 a R0 ST_27 rfl) ⟨_, _, rfl, (a.k25)⟩)
 refine cIf e0 b (fun d5 b => ?_) fun d5 b => ?_
 ·refine sQ fun _ d6 => bE b fun f3 d7 b => bE b fun J d8 b => dR [0, 0, 2, 7, 15] [2, 3, 4] 3 folM ?_
  replace a := a.drew
  refine Dn [0, 1] [] [2] (yR rfl (lbs_ [.bool g.1, D.v] ST_27 (eh x) a R5) (yR rfl (lbs_ [.bool l.1, C.v] ST_27 (eh a6) a R0) (Rn QSn ?_)))
  refine Lc1 rfl ?_
  refine Lk wn (yCall FN_92 (a1 e0)) (sparseref01_Abs_ok d7 F1 a) ?_
  rintro _ w ⟨f4, rfl, a⟩
  refine ⟨_, rfl, ?_⟩
  refine Dn [] [0] [3] (Rn (yS rfl (lbs_ [.bool g.1, D.v] ST_27 (eh x) a R6) QSn) ?_)
  refine Lc1 rfl ?_
  replace a := a.fz
  refine Lk wn (yCall FN_69 (a2 e0 e0)) (sparseref01_Add_ok d8 F1 F0 a) ?_
  rintro _ w ⟨N, rfl, a⟩
  refine ⟨_, rfl, ?_⟩
  refine Dn [] [] [4] (Rn QSn ?_)
  refine Lc1 rfl ?_
  replace a := a.k1y
  refine LT wn (r_stbn (vals' := [.bool J.1, N.v]) (us := [.bool J.1, N.v]) a ST_27 (eh x) e0 rfl rfl (one_of rfl) rfl) fun w a => Dz [] [] (Rn QSn (d6 _ _ (sR fun _ d9 => yY (yFb FL_27_0 (eh a6)) (yY (lb_ (.bool l.1) O_4 e0 a R2) (wK d9 ?_)))))
  have b2 : ∀ (V : Bool) (W : LI) (X : Hdr) (f : FV) w, f 4 = (pB A) → f 5 = (pB B) → f 8 = (pB s) → f 9 = (pB u) → St w0 ros (box A 27 [.bool false, hnil.v] :: box B 27 [.bool false, hnil.v] :: row 88 (rI .u32) X.v W :: box s 27 [.bool V, X.v] :: row 88 (rI .u32) N.v J.2 :: box u 27 [.bool J.1, N.v] :: rs) w → sparseref01_DivMod_j4 J V W = some out → a7 .normal (fr 50 f) w := by
   intro V W X f w e1 e2 e3 e4 a b
   replace a := (a.k1t).fz
   exact a8 _ _ _ _ _ _ _ _ e1 e2 e3 e4 a b
  refine cB e0 b (fun e5 b => ?_) fun e5 b => ?_
  ·refine bE b fun f5 e6 b => bE b fun b3 e7 b => dR [0, 0, 3, 7] [1, 2, 3] 3 folM ?_
   replace a := a.drew
   refine Dn [0] [] [1] (yR rfl (lbs_ [.bool d.1, t.v] ST_27 (eh o) a R6) (Rn QSn ?_))
   refine Lc1 rfl ?_
   refine Lk wn (yCall FN_43 (a1 rfl)) (sparseref01_FromInt_ok e6 a) ?_
   rintro _ w ⟨f6, rfl, a⟩
   refine ⟨_, rfl, ?_⟩
   refine Dn [] [0] [2] (Rn (yS rfl (lbs_ [.bool d.1, t.v] ST_27 (eh o) a R7) QSn) ?_)
   refine Lc1 rfl ?_
   replace a := ((a.k1y).fz).fz
   refine Lk wn (yCall FN_69 (a2 e0 e0)) (sparseref01_Add_ok e7 F1 F0 a) ?_
   rintro _ w ⟨b4, rfl, a⟩
   refine ⟨_, rfl, ?_⟩
   refine Dn [] [] [3] (Rn QSn ?_)
   refine Lc1 rfl ?_
   replace a := a.k1y
   exact LT wn (r_stbn (vals' := [.bool b3.1, b4.v]) (us := [.bool b3.1, b4.v]) a ST_27 (eh o) e0 rfl rfl (one_of rfl) rfl) fun w a => Dz [] [] (Rn QSn (b2 _ _ _ _ _ R S o x ((a.k26).facts (allT (allT (allT (allT (allT allI)))))) b))
  ·refine bE b fun f7 e8 b => bE b fun b5 e9 b => dR [0, 0, 3, 7] [1, 2, 3] 3 folM ?_
   replace a := a.drew
   refine Dn [0] [] [1] (yR rfl (lbs_ [.bool d.1, t.v] ST_27 (eh o) a R6) (Rn QSn ?_))
   refine Lc1 rfl ?_
   refine Lk wn (yCall FN_43 (a1 rfl)) (sparseref01_FromInt_ok e8 a) ?_
   rintro _ w ⟨f8, rfl, a⟩
   refine ⟨_, rfl, ?_⟩
   refine Dn [] [0] [2] (Rn (yS rfl (lbs_ [.bool d.1, t.v] ST_27 (eh o) a R7) QSn) ?_)
   refine Lc1 rfl ?_
   replace a := ((a.k1y).fz).fz
   refine Lk wn (yCall FN_73 (a2 e0 e0)) (sparseref01_Sub_ok e9 F1 F0 a) ?_
   rintro _ w ⟨b6, rfl, a⟩
   refine ⟨_, rfl, ?_⟩
   refine Dn [] [] [3] (Rn QSn ?_)
   refine Lc1 rfl ?_
   replace a := a.k1y
   exact LT wn (r_stbn (vals' := [.bool b5.1, b6.v]) (us := [.bool b5.1, b6.v]) a ST_27 (eh o) e0 rfl rfl (one_of rfl) rfl) fun w a => Dz [] [] (Rn QSn (b2 _ _ _ _ _ R S o x ((a.k26).facts (allT (allT (allT (allT (allT allI)))))) b))
 ·exact wp_skip (a8 _ _ _ _ _ _ _ _ R S o x ((a.k27).facts (allC F0 (allT (allT allI)))) b)
theorem sparseref01_mulMag_ok {F G : LI} {l h : Hdr} {out : LI} (m : sparseref01_mulMag F G = some out) (x : imm (rI .u32) l.v F ∈ ros) (n : imm (rI .u32) h.v G ∈ ros) (b : St w0 ros rs w) :
  Calls Tryz.prog 115 #[l.v, h.v] w (fun e w => ∃ (H : Hdr), e = .returned (H.v) ∧ St w0 ros (row 88 (rI .u32) H.v out :: rs) w) := by
 refine enterQ Tryz.func115 rfl Tryz.ntmps115 rfl fun Q X => sR fun _ Z => Ya hnil.v rfl (wK Z (sR fun _ a0 => Ym l.v e0 (yY (yLen SL_25 e0 b (rdI x)) (Ym h.v e0 (yY (yLen SL_25 e0 b (rdI n)) (yY (yadd e0 e0) (bE m fun e3 a1 m => ?_)))))))
 refine yH (rMk b SL_25 e0 a1) fun c w b => Ya c.v e0 (wK a0 (sQ fun _ a2 => sR fun _ a3 => Ya (iV 0) rfl (wK a3 (blockQ fun a4 a5 => bE m fun a6 a7 m => ?_))))
 have a8 : ∀ (A : LI) (f : FV) w, f 5 = c.v → St w0 ros (row 88 (rI .u32) c.v A :: rs) w → A = a6 → a4 (.exit 0) (fr 66 f) w := by
  intro A f w a9 b ho
  subst ho
  refine a5 _ _ _ (a2 _ _ (sR fun _ b0 => Ym c.v (eh a9) (Ya c.v e0 (wK b0 (wp_ret ?_)))))
  cases m
  exact X _ _ _ (fin1r Tryz.results115 ⟨rfl, rfl⟩ ⟨_, rfl, b⟩)
 refine loopQ (fun s a w => ∃ (B : LI) (g : Int) (f : FV), (B, g) = s ∧ a = fr 66 f ∧ f 0 = l.v ∧ f 1 = h.v ∧ f 5 = c.v ∧ f 6 = iV g ∧ St w0 ros (row 88 (rI .u32) c.v B :: rs) w) a7 ⟨_, _, _, rfl, rfl, rfl, rfl, rfl, rfl, b⟩ ?_
 rintro _ _ w e4 ⟨B, g, f, rfl, rfl, I, b1, J, K, b⟩ i b2 e5 b3 b4
 refine seqQ fun e6 b5 b6 => sR fun _ b7 => Ym (iV g) (eh K) (Ym l.v (eh I) (yY (yLen SL_25 e0 b (rdI x)) (yY (ylss e0 e0) (wK b7 ?_))))
 refine cIf e0 i (fun b8 i => ?_) fun b8 i => ?_
 ·refine wp_skip (b5 _ _ (sQ fun _ b9 => blockQ fun _ c0 => sR fun _ c1 => Ya (.int .u64 0) rfl (wK c1 (sQ fun _ c2 => sR fun _ c3 => Ya (iV 0) rfl (wN ?_)))))
  refine c3 _ _ (blockQ fun c4 c5 => bE i fun c6 c7 i => ?_)
  have c8 : ∀ (C : LI) (o : Int) (f : FV) w, f 0 = l.v → f 1 = h.v → f 5 = c.v → f 6 = iV g → f 7 = .int .u64 o → St w0 ros (row 88 (rI .u32) c.v C :: rs) w → (C, o) = c6 → c4 (.exit 2) (fr 66 f) w := by
   intro C o f w c9 L N O d0 b ho
   subst ho
   refine c5 _ _ _ (c2 _ _ (wR (Ym c.v (eh N) (Ym (iV g) (eh O) (Ym h.v (eh L) (yY (yLen SL_25 e0 b (rdI n)) (yY (yadd e0 e0) (Ym (.int .u64 o) (eh d0) (yY (ycv (k' := .u32) (by kernel_rfl) (by kernel_rfl) e0) (bE i fun e7 R i => yY (yIs SL_25 e0 e0 b rO0 R) (yT (r_sti (cs := [.int .u32 (wc .u32 o)]) b O_88 rfl e0 e0 rfl mkI R) fun w b => ?_)))))))))))
   refine wN (c0 _ _ _ (b9 _ _ (wR (Ym (iV g) (eh O) (yY (yadd e0 rfl) (Ya (iV (wa .i64 g 1)) e0 (wN ?_)))))))
   cases i
   exact b3 _ _ _ rfl ⟨_, _, _, rfl, rfl, c9, L, N, rfl, b⟩
  refine loopQ (fun s a w => ∃ (D : LI) (j k : Int) (f : FV), (D, j, k) = s ∧ a = fr 66 f ∧ f 0 = l.v ∧ f 1 = h.v ∧ f 5 = c.v ∧ f 6 = iV g ∧ f 7 = .int .u64 j ∧ f 8 = iV k ∧ St w0 ros (row 88 (rI .u32) c.v D :: rs) w) c7 ⟨_, _, _, _, rfl, rfl, I, b1, J, K, rfl, rfl, b⟩ ?_
  rintro _ _ w e8 ⟨D, j, k, f, rfl, rfl, E, y, z, p, S, q, b⟩ d d1 e9 d2 d3
  refine seqQ fun f0 d4 d5 => sR fun _ d6 => Ym (iV k) (eh q) (Ym h.v (eh y) (yY (yLen SL_25 e0 b (rdI n)) (yY (ylss e0 e0) (wK d6 ?_))))
  refine cIf e0 d (fun d7 d => ?_) fun d7 d => ?_
  ·refine wp_skip (d4 _ _ (sQ fun _ d8 => blockQ fun _ d9 => sQ fun _ e1 => bE d fun r T d => bE d fun t U d => bE d fun u V d => dR [0, 0, 0, 6, 14, 30, 0, 0, 192, 448, 960, 2046, 4095, 0, 0, 0, 49152, 122880, 253952, 516096, 1048575, 2097151] [21] 1 folM ?_))
   replace b := b.drew
   refine Dn [0, 1, 2, 3, 4, 5, 6, 7, 8, 9, 10, 11, 12, 13, 14, 15, 16, 17, 18, 19, 20] [] [21] (yR rfl (m_ (.int .u64 j) (eh S)) (yR rfl (m_ l.v (eh E)) (yR rfl (m_ (iV g) (eh p)) (yR rfl (yIa SL_25 e0 e0 b (rdI x) T) (yR rfl (yI O_88 e0 b (rdI x) T) (yR rfl (ycv (k' := .u64) (by kernel_rfl) (by kernel_rfl) e0) (yR rfl (m_ h.v (eh y)) (yR rfl (m_ (iV k) (eh q)) (yR rfl (yIa SL_25 e0 e0 b (rdI n) U) (yR rfl (yI O_88 e0 b (rdI n) U) (yR rfl (ycv (k' := .u64) (by kernel_rfl) (by kernel_rfl) e0) (yR rfl (ymul e0 e0) (yR rfl (yadd e0 e0) ?_)))))))))))))
   refine yR rfl (m_ c.v (eh z)) (yR rfl (m_ (iV g) (eh p)) (yR rfl (m_ (iV k) (eh q)) (yR rfl (yadd e0 e0) (yR rfl (yIa SL_25 e0 e0 b rO0 V) (yR rfl (yI O_88 e0 b rO0 V) (yR rfl (ycv (k' := .u64) (by kernel_rfl) (by kernel_rfl) e0) (yR rfl (yadd e0 e0) (Rn QSn ?_))))))))
   refine Lc1 rfl ?_
   refine Ly wn (a_ (.int .u64 (wa .u64 (wa .u64 j (wm .u64 (wc .u64 r) (wc .u64 t))) (wc .u64 u))) e0) (Dz [] [] (Rn QSn (e1 _ _ (sR fun _ e2 => Ym c.v (eh z) (Ym (iV g) (eh p) (Ym (iV k) (eh q) (yY (yadd e0 e0) (Ym (.int .u64 (wa .u64 (wa .u64 j (wm .u64 (wc .u64 r) (wc .u64 t))) (wc .u64 u))) e0 (yY (ycv (k' := .u32) (by kernel_rfl) (by kernel_rfl) e0) (bE d fun f1 W d => yY (yIs SL_25 e0 e0 b rO0 W) ?_))))))))))
   refine yT (r_sti (cs := [.int .u32 (wc .u32 (wa .u64 (wa .u64 j (wm .u64 (wc .u64 r) (wc .u64 t))) (wc .u64 u)))]) b O_88 rfl e0 e0 rfl mkI W) fun w b => wK e2 (wR (Ym (.int .u64 (wa .u64 (wa .u64 j (wm .u64 (wc .u64 r) (wc .u64 t))) (wc .u64 u))) e0 (yY (yshrc e0 rfl) (Ya (.int .u64 (wsrc .u64 (wa .u64 (wa .u64 j (wm .u64 (wc .u64 r) (wc .u64 t))) (wc .u64 u)) 32)) e0 (wN (d9 _ _ _ (d8 _ _ (wR (Ym (iV k) (eh q) (yY (yadd e0 rfl) ?_))))))))))
   refine Ya (iV (wa .i64 k 1)) e0 (wN ?_)
   cases d
   exact d2 _ _ _ rfl ⟨_, _, _, _, rfl, rfl, E, y, z, p, rfl, rfl, b⟩
  ·refine wp_exit (d5 _ _ _ rfl ?_)
   cases d
   exact d3 _ _ _ _ rfl rfl (c8 _ _ _ _ E y z p S b (d1 _ rfl))
 ·refine wp_exit (b6 _ _ _ rfl ?_)
  cases i
  exact b4 _ _ _ _ rfl rfl (a8 _ _ _ J b (b2 _ rfl))
theorem sparseref01_Mul_ok {c : Bool} {h : LI} {d : Bool} {i : LI} {g f : Hdr} {out : Bool × LI} (b : sparseref01_Mul c h d i = some out) (m : imm (rI .u32) g.v h ∈ ros) (n : imm (rI .u32) f.v i ∈ ros) (a : St w0 ros rs w) :
  Calls Tryz.prog 70 #[.agg #[.bool c, g.v], .agg #[.bool d, f.v]] w (fun e w => ∃ (j : Hdr), e = .returned (.agg #[.bool out.1, j.v]) ∧ St w0 ros (row 88 (rI .u32) j.v out.2 :: rs) w) := by
 refine enterQ Tryz.func70 rfl Tryz.ntmps70 rfl fun Q o => sR fun _ p => yBb (r_box (vals := [.bool c, g.v]) a e0 rfl) fun x w a => yBb (r_box (vals := [.bool d, f.v]) a e0 rfl) fun y w a => yBb (rAl a ZT_27) fun z w a => wK p (sQ fun _ q => bE b fun A r b => bE b fun B s b => ?_)
 refine bE b fun C t b => bE b fun k u b => dR [0, 1, 0, 4, 15, 0, 32, 96, 0, 256, 992, 2016, 4095, 8191] [7, 10, 11, 12, 13] 5 folM ?_
 replace a := a.drew
 refine Dn [0, 1, 2, 3, 4, 5, 6, 8, 9] [] [7] (yR rfl (yFb FL_27_0 e0) (yR rfl (lb_ (.bool c) O_4 e0 a R2) (yR rfl (yFb FL_27_0 e0) (yR rfl (lb_ (.bool d) O_4 e0 a R1) (yR rfl (yneb (by kernel_rfl) e0 e0) (yR rfl (yFb FL_27_1 e0) (yR rfl (lb_ g.v O_25 e0 a R2) (yR rfl (yFb FL_27_1 e0) (yR rfl (lb_ f.v O_25 e0 a R1) (Rn QSn ?_))))))))))
 refine Lc1 rfl ?_
 refine Lk wn (yCall FN_111 (a1 e0)) (sparseref01_trim_ok r m a) ?_
 rintro _ w ⟨D, rfl, a⟩
 refine ⟨_, rfl, ?_⟩
 refine Dn [] [0, 1, 2, 3, 4, 8, 9] [10] (Rn (yS rfl (yFb FL_27_0 e0) (yS rfl (lb_ (.bool c) O_4 e0 a R3) (yS rfl (yFb FL_27_0 e0) (yS rfl (lb_ (.bool d) O_4 e0 a R2) (yS rfl (yneb (by kernel_rfl) e0 e0) (yS rfl (yFb FL_27_1 e0) (yS rfl (lb_ f.v O_25 e0 a R2) QSn))))))) ?_)
 refine Lc1 rfl ?_
 refine Lk wn (yCall FN_111 (a1 e0)) (sparseref01_trim_ok s n a) ?_
 rintro _ w ⟨E, rfl, a⟩
 refine ⟨_, rfl, ?_⟩
 refine Dn [] [0, 1, 2, 3, 4] [11] (Rn (yS rfl (yFb FL_27_0 e0) (yS rfl (lb_ (.bool c) O_4 e0 a R4) (yS rfl (yFb FL_27_0 e0) (yS rfl (lb_ (.bool d) O_4 e0 a R3) (yS rfl (yneb (by kernel_rfl) e0 e0) QSn))))) ?_)
 refine Lc1 rfl ?_
 replace a := ((a.k11).fz).fz
 refine Lk wn (yCall FN_115 (a2 e0 e0)) (sparseref01_mulMag_ok t F1 F0 a) ?_
 rintro _ w ⟨F, rfl, a⟩
 refine ⟨_, rfl, ?_⟩
 refine Dn [] [0, 1, 2, 3, 4] [12] (Rn (yS rfl (yFb FL_27_0 e0) (yS rfl (lb_ (.bool c) O_4 e0 a R3) (yS rfl (yFb FL_27_0 e0) (yS rfl (lb_ (.bool d) O_4 e0 a R2) (yS rfl (yneb (by kernel_rfl) e0 e0) QSn))))) ?_)
 refine Lc1 rfl ?_
 replace a := a.fz
 refine Lk wn (yCall FN_93 (a2 e0 e0)) (sparseref01_make1_ok u F0 a) ?_
 rintro _ w ⟨l, rfl, a⟩
 refine ⟨_, rfl, ?_⟩
 refine Dn [] [] [13] (Rn QSn ?_)
 refine Lc1 rfl ?_
 replace a := a.k11
 refine LT wn (r_stbn (vals' := [.bool k.1, l.v]) (us := [.bool k.1, l.v]) a ST_27 e0 e0 rfl rfl (one_of rfl) rfl) fun w a => Dz [] [] (Rn QSn (q _ _ (wp_ret ?_)))
 cases b
 exact o _ _ _ (fin1r Tryz.results70 (rcs2 rfl rfl a R0 ST_27 rfl) ⟨_, rfl, ((a.k23).facts (allT (allT (allT allI))))⟩)
theorem sparseref01_Shift_ok {n : Bool} {u : LI} {l : Int} {o : Hdr} {out : Bool × LI} (b : sparseref01_Shift n u l = some out) (H : imm (rI .u32) o.v u ∈ ros) (a : St w0 ros rs w) :
  Calls Tryz.prog 72 #[.agg #[.bool n, o.v], iV l] w (fun e w => ∃ (x : Hdr), e = .returned (.agg #[.bool out.1, x.v]) ∧ St w0 ros (row 88 (rI .u32) x.v out.2 :: rs) w) := by
 refine enterQ Tryz.func72 rfl Tryz.ntmps72 rfl fun Q y => sR fun _ I => yBb (r_box (vals := [.bool n, o.v]) a e0 rfl) fun b1 w a => yBb (rAl a ZT_27) fun p w a => wK I (sR fun _ J => yY (lbs_ [.bool n, o.v] ST_27 e0 a R1) (bE b fun c K b => yC (yCall FN_91 (a1 e0)) (sparseref01_Norm_ok K H a) ?_))
 rintro _ w ⟨q, rfl, a⟩
 refine ⟨_, rfl, ?_⟩
 refine yT (r_stbn (vals' := [.bool c.1, q.v]) (us := [.bool c.1, q.v]) (a.k1a) ST_27 e0 e0 rfl rfl (one_of rfl) rfl) fun w a => wK J (seqQ fun b2 L N => sR fun _ O => Ym (iV l) e0 (yY (ygeq e0 rfl) (wK O ?_)))
 refine cIf e0 b (fun R b => ?_) fun R b => ?_
 ·refine sQ fun _ S => bE b fun b3 T b => bE b fun z U b => dR [0, 1, 0, 4, 0, 28, 63, 127] [5, 6, 7] 3 folM ?_
  replace a := a.drew
  refine Dn [0, 1, 2, 3, 4] [] [5] (yR rfl (yFb FL_27_0 e0) (yR rfl (lb_ (.bool c.1) O_4 e0 a R0) (yR rfl (yFb FL_27_1 e0) (yR rfl (lb_ q.v O_25 e0 a R0) (yR rfl (m_ (iV l) e0) (Rn QSn ?_))))))
  refine Lc1 rfl ?_
  replace a := (a.k11).fz
  refine Lk wn (yCall FN_116 (a2 e0 e0)) (sparseref01_shl_ok T F0 a) ?_
  rintro _ w ⟨b4, rfl, a⟩
  refine ⟨_, rfl, ?_⟩
  refine Dn [] [0, 1] [6] (Rn (yS rfl (yFb FL_27_0 e0) (yS rfl (lb_ (.bool c.1) O_4 e0 a R1) QSn)) ?_)
  refine Lc1 rfl ?_
  replace a := a.fz
  refine Lk wn (yCall FN_93 (a2 e0 e0)) (sparseref01_make1_ok U F0 a) ?_
  rintro _ w ⟨A, rfl, a⟩
  refine ⟨_, rfl, ?_⟩
  refine Dn [] [] [7] (Rn QSn ?_)
  refine Lc1 rfl ?_
  replace a := a.k1a
  refine LT wn (r_stbn (vals' := [.bool z.1, A.v]) (us := [.bool z.1, A.v]) a ST_27 e0 e0 rfl rfl (one_of rfl) rfl) fun w a => Dz [] [] (Rn QSn (S _ _ (wp_ret (N _ _ _ rfl ?_))))
  cases b
  exact y _ _ _ (fin1r Tryz.results72 (rcs2 rfl rfl a R0 ST_27 rfl) ⟨_, rfl, ((a.k22).facts (allT (allT allI)))⟩)
 ·refine wp_skip (L _ _ (sR fun _ V => yY (yFb FL_27_1 e0) (yY (lb_ q.v O_25 e0 a R0) (Ym (iV l) e0 (yY (yneg e0) (bE b fun g W b => ?_))))))
  replace a := (a.k11).fz
  refine yC (yCall FN_117 (a2 e0 e0)) (sparseref01_shr_ok W F0 a) ?_
  rintro _ w ⟨r, rfl, a⟩
  refine ⟨_, rfl, ?_⟩
  refine Ym (.tuple #[r.v, .bool g.2]) e0 (yY (x_ r.v e0) (yY (x_ (.bool g.2) e0) (Ya r.v e0 (Ya (.bool g.2) e0 (wK V (sR fun _ X => yY (yFb FL_27_0 e0) (yY (lb_ (.bool c.1) O_4 e0 a R1) (Ym r.v e0 (bE b fun h Z b => ?_)))))))))
  replace a := a.fz
  refine yC (yCall FN_93 (a2 e0 e0)) (sparseref01_make1_ok Z F0 a) ?_
  rintro _ w ⟨i, rfl, a⟩
  refine ⟨_, rfl, ?_⟩
  refine yBb (rAl a ZT_27) fun s w a => yT (r_stbn (vals' := [.bool h.1, i.v]) (us := [.bool h.1, i.v]) a ST_27 e0 e0 rfl rfl (one_of rfl) rfl) fun w a => wK X (sQ fun a0 a3 => sR fun _ a4 => yY (yFb FL_27_0 e0) (yY (lb_ (.bool c.1) O_4 e0 a R2) (Ym (.bool c.1) e0 ?_)))
  refine joinW 2 (fun f w => f 4 = (pB p) ∧ f 7 = (pB s) ∧ f 35 = .bool (c.1 && g.2) ∧ St w0 ros (box p 27 [.bool false, hnil.v] :: row 88 (rI .u32) i.v h.2 :: box s 27 [.bool h.1, i.v] :: rs) w) (fun B => ?_) ?_
  ·rcases Bool.eq_false_or_eq_true c.1 with d | d
   ·exact yG d (m_ (.bool g.2) e0) (yY (pt_ (.bool g.2) e0 d e0) (B _ _ ⟨rfl, rfl, (congrArg Value.bool (andT d)), ((a.k28).facts (allT (allT allI)))⟩))
   ·exact gN d (yY (pf_ (.bool false) e0 d rfl) (B _ _ ⟨rfl, rfl, (congrArg Value.bool (andF d)), ((a.k28).facts (allT (allT allI)))⟩))
  rintro f w ⟨C, m, a5, a⟩
  refine wK a4 ?_
  have D : ∀ (j : Bool) (t : LI) (k : Hdr) (f : FV) w, f 4 = (pB p) → f 7 = (pB s) → St w0 ros (box p 27 [.bool false, hnil.v] :: row 88 (rI .u32) k.v t :: box s 27 [.bool j, k.v] :: rs) w → sparseref01_Shift_j2 j t = some out → a0 .normal (fr 40 f) w := by
   intro j t k f w E a6 a b
   refine a3 _ _ (sR fun _ a7 => yY (lbs_ [.bool j, k.v] ST_27 (eh a6) a R2) (yT (r_stbn (vals' := [.bool j, k.v]) (us := [.bool j, k.v]) a ST_27 (eh E) e0 rfl rfl (one_of rfl) rfl) fun w a => wK a7 (wp_ret ?_)))
   cases b
   exact y _ _ _ (fin1r Tryz.results72 (rcs2 rfl E a R0 ST_27 rfl) ⟨_, rfl, (a.k22)⟩)
  refine cB (eh a5) b (fun a8 b => ?_) fun a8 b => ?_
  ·refine bE b fun b7 a9 b => bE b fun F b0 b => dR [0, 0, 3, 7] [1, 2, 3] 3 folM ?_
   replace a := a.drew
   refine Dn [0] [] [1] (yR rfl (lbs_ [.bool h.1, i.v] ST_27 (eh m) a R2) (Rn QSn ?_))
   refine Lc1 rfl ?_
   refine Lk wn (yCall FN_43 (a1 rfl)) (sparseref01_FromInt_ok a9 a) ?_
   rintro _ w ⟨b8, rfl, a⟩
   refine ⟨_, rfl, ?_⟩
   refine Dn [] [0] [2] (Rn (yS rfl (lbs_ [.bool h.1, i.v] ST_27 (eh m) a R3) QSn) ?_)
   refine Lc1 rfl ?_
   replace a := ((a.k1a).fz).fz
   refine Lk wn (yCall FN_73 (a2 e0 e0)) (sparseref01_Sub_ok b0 F1 F0 a) ?_
   rintro _ w ⟨G, rfl, a⟩
   refine ⟨_, rfl, ?_⟩
   refine Dn [] [] [3] (Rn QSn ?_)
   refine Lc1 rfl ?_
   replace a := a.k1a
   exact LT wn (r_stbn (vals' := [.bool F.1, G.v]) (us := [.bool F.1, G.v]) a ST_27 (eh m) e0 rfl rfl (one_of rfl) rfl) fun w a => Dz [] [] (Rn QSn (D _ _ _ _ _ C m ((a.k1p).facts (allT (allT allI))) b))
  ·exact wp_skip (D _ _ _ _ _ C m a b)
theorem sparseref01_Cmp_ok {c : Bool} {h : LI} {d : Bool} {i : LI} {f g : Hdr} {out : Int} (b : sparseref01_Cmp c h d i = some out) (j : imm (rI .u32) f.v h ∈ ros) (k : imm (rI .u32) g.v i ∈ ros) (a : St w0 ros rs w) :
  Calls Tryz.prog 71 #[.agg #[.bool c, f.v], .agg #[.bool d, g.v]] w (fun e w => e = .returned (iV out) ∧ St w0 ros rs w) := by
 refine enterQ Tryz.func71 rfl Tryz.ntmps71 rfl fun Q l => sR fun _ m => yBb (r_box (vals := [.bool c, f.v]) a e0 rfl) fun r w a => yBb (r_box (vals := [.bool d, g.v]) a e0 rfl) fun s w a => Ya (iV 0) rfl (wK m (sR fun _ n => yY (lbs_ [.bool c, f.v] ST_27 e0 a R1) (yY (lbs_ [.bool d, g.v] ST_27 e0 a R0) ?_)))
 refine bE b fun t o b => yC (yCall FN_73 (a2 e0 e0)) (sparseref01_Sub_ok o j k a) ?_
 rintro _ w ⟨u, rfl, a⟩
 refine ⟨_, rfl, ?_⟩
 refine bE b fun p q b => ?_
 replace a := a.fz
 refine yC (yCall FN_89 (a1 e0)) (sparseref01_Sign_ok q F0 a) ?_
 rintro _ w ⟨rfl, a⟩
 refine ⟨_, rfl, ?_⟩
 refine Ya (iV p) e0 (wK n (wp_ret ?_))
 cases b
 exact l _ _ _ (fin1r Tryz.results71 ⟨rfl, rfl⟩ ⟨rfl, ((a.k1l).facts (allT allI))⟩)
end Go.Proofs.YtnfamnfdndaekaaGreatDoor
