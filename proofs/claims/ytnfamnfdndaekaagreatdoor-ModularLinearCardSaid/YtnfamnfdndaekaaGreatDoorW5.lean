/- Walks: each function computes its model, printed. -/
import Derived.Test.YtnfamnfdndaekaaGreatDoorW4
namespace Go.Proofs.YtnfamnfdndaekaaGreatDoor
open Go Sx M
set_option maxRecDepth 100000
set_option maxHeartbeats 40000000
set_option linter.unusedVariables false
attribute [local irreducible] wpList Code.wp Calls DR QR QS LA LS St
variable {w0 : World} {ros : List Fact} {rs : List Res} {w : World}
theorem sparseref07_Power_ok {m r h out : Int} (d : sparseref07_Power m r h = some out) (b : St w0 ros rs w) :
  Calls Tryz.prog 33 #[iV m, iV r, iV h] w (fun e w => e = .returned (iV out) ∧ St w0 ros rs w) := by
 refine enterQ Tryz.func33 rfl Tryz.ntmps33 rfl fun Q x => sR fun _ y => Ya (iV 0) rfl (wK y (sR fun _ z => Ym (iV m) e0 (Ym (iV h) e0 (bE d fun A B d => yC (yCall FN_31 (a2 e0 e0)) (sparseref07_Mod_ok B b) ?_))))
 rintro _ w ⟨rfl, b⟩
 refine ⟨_, rfl, ?_⟩
 refine Ya (iV A) e0 (wK z (sR fun _ C => Ya (iV 1) rfl (wK C (sQ fun _ D => blockQ fun E F => bE d fun G H d => ?_))))
 have I : ∀ (j : Int) (f : FV) w, f 7 = iV j → St w0 ros rs w → j = G → E (.exit 0) (fr 29 f) w := by
  intro j f w J b ho
  subst ho
  refine F _ _ _ (D _ _ (sR fun _ K => Ym (iV j) (eh J) (Ya (iV j) e0 (wK K (wp_ret ?_)))))
  cases d
  exact x _ _ _ (fin1r Tryz.results33 ⟨rfl, rfl⟩ ⟨rfl, b⟩)
 refine loopQ (fun s a w => ∃ (i g k : Int) (f : FV), (i, g, k) = s ∧ a = fr 29 f ∧ f 0 = iV i ∧ f 1 = iV g ∧ f 2 = iV h ∧ f 7 = iV k ∧ St w0 ros rs w) H ⟨_, _, _, _, rfl, rfl, rfl, rfl, rfl, rfl, b⟩ ?_
 rintro _ _ w L ⟨i, g, k, f, rfl, rfl, n, l, o, p, b⟩ c N b0 O R
 refine seqQ fun b1 S T => sR fun _ U => Ym (iV g) (eh l) (yY (ygtr e0 rfl) (wK U ?_))
 refine cIf e0 c (fun V c => ?_) fun V c => ?_
 ·refine wp_skip (S _ _ (blockQ fun _ W => sQ fun X Z => sR fun _ a0 => Ym (iV g) (eh l) (yY (yremc e0 rfl (by decide)) (yY (yeql e0 rfl) (wK a0 ?_)))))
  have t : ∀ (q : Int) (f : FV) w, f 0 = iV i → f 1 = iV g → f 2 = iV h → f 7 = iV q → St w0 ros rs w → sparseref07_Power_j4 i h g q = some L → X .normal (fr 29 f) w := by
   intro q f w u a1 v a3 b d
   refine Z _ _ (sR fun _ a4 => Ym (iV i) (eh u) (Ym (iV i) (eh u) (yY (ymul e0 e0) (Ym (iV h) (eh v) (bE d fun a5 a6 d => yY (yrem e0 e0 a6) (Ya (iV a5) e0 (wK a4 (wR (Ym (iV g) (eh a1) ?_)))))))))
   refine yY (yquoc e0 rfl (by decide)) (Ya (iV (wqc .i64 g 2)) e0 (wN (W _ _ _ ?_)))
   cases d
   exact O _ _ _ rfl ⟨_, _, _, _, rfl, rfl, rfl, rfl, v, a3, b⟩
  refine cIf e0 c (fun a7 c => ?_) fun a7 c => ?_
  ·exact wR (Ym (iV k) (eh p) (Ym (iV i) (eh n) (yY (ymul e0 e0) (Ym (iV h) (eh o) (bE c fun a8 a9 c => yY (yrem e0 e0 a9) (Ya (iV a8) e0 (wN (t _ _ _ n l o rfl b c))))))))
  ·exact wp_skip (t _ _ _ n l o p b c)
 ·refine wp_exit (T _ _ _ rfl ?_)
  cases c
  exact R _ _ _ _ rfl rfl (I _ _ _ p b (N _ rfl))
theorem sparseref07_Inverse_ok {b a out : Int} (c : sparseref07_Inverse b a = some out) (d : St w0 ros rs w) :
  Calls Tryz.prog 32 #[iV b, iV a] w (fun e w => e = .returned (iV out) ∧ St w0 ros rs w) := by
 refine enterQ Tryz.func32 rfl Tryz.ntmps32 rfl fun Q f => sR fun _ g => Ya (iV 0) rfl (wK g (sR fun _ h => Ym (iV b) e0 (Ym (iV a) e0 (yY (ysub e0 rfl) (Ym (iV a) e0 (bE c fun i j c => yC (yCall FN_33 (a3 e0 e0 e0)) (sparseref07_Power_ok j d) ?_))))))
 rintro _ w ⟨rfl, d⟩
 refine ⟨_, rfl, ?_⟩
 refine Ya (iV i) e0 (wK h (wp_ret ?_))
 cases c
 exact f _ _ _ (fin1r Tryz.results32 ⟨rfl, rfl⟩ ⟨rfl, d⟩)
theorem sparseref07_Echelon_ok {i9 : L2} {h : Int} {o : Hdr} {out : L2 × LI × Int} (g : sparseref07_Echelon i9 h = some out) (V : imm S1 o.v i9 ∈ ros) (b : St w0 ros rs w) :
  Calls Tryz.prog 96 #[o.v, iV h] w (fun e w => ∃ (j0 : Hdr) (j1 : List Hdr) (j2 : Hdr), e = .returned (.tuple #[j0.v, j2.v, iV out.2.2]) ∧ St w0 ros (row 22 rH j0.v j1 :: fam 3 I1 j1 out.1 :: row 3 I1 j2.v out.2.1 :: rs) w) := by
 refine enterQ Tryz.func96 rfl Tryz.ntmps96 rfl fun Q r1 => sR fun _ r2 => Ya hnil.v rfl (Ya hnil.v rfl (Ya (iV 0) rfl (wK r2 (sR fun _ r3 => Ya hnil.v rfl (wK r3 (sQ fun _ r4 => ?_))))))
 refine sR fun _ r5 => Ya (iV 0) rfl (wK r5 (blockQ fun r6 r7 => bE g fun r8 r9 g => ?_))
 have s0 : ∀ (d2 : L2) (c : Hdr) (d3 : List Hdr) (f : FV) w, f 0 = o.v → f 1 = iV h → f 7 = c.v → St w0 ros (row 22 rH c.v d3 :: fam 3 I1 d3 d2 :: rs) w → d2 = r8 → r6 (.exit 0) (fr 211 f) w := by
  intro d2 c d3 f w s1 j3 s2 b ho
  subst ho
  refine r7 _ _ _ (r4 _ _ (sR fun _ s3 => Ym (iV h) (eh j3) (bE g fun s4 s5 g => yY (yrem rfl e0 s5) (Ya (iV s4) e0 (wK s3 (sR fun _ s6 => Ya hnil.v rfl (wN ?_)))))))
  refine s6 _ _ (sQ fun _ s7 => sR fun _ s8 => Ya (iV 0) rfl (wK s8 (blockQ fun s9 t0 => bE g fun t1 t2 g => ?_)))
  have t3 : ∀ (d4 : L2) (Z : Int) (d5 : LI) (d6 : List Hdr) (a0 : Hdr) (f : FV) w, f 7 = c.v → f 11 = iV Z → f 12 = a0.v → St w0 ros (row 22 rH c.v d6 :: fam 3 I1 d6 d4 :: row 3 I1 a0.v d5 :: rs) w → (d4, Z, d5) = t1 → s9 (.exit 4) (fr 211 f) w := by
   intro d4 Z d5 d6 a0 f w t4 t5 t6 b ho
   subst ho
   refine t0 _ _ _ (s7 _ _ (sR fun _ t7 => Ym c.v (eh t4) (Ym a0.v (eh t6) (Ym (iV Z) (eh t5) (Ya c.v e0 (Ya a0.v e0 (Ya (iV Z) e0 (wK t7 (wp_ret ?_)))))))))
   cases g
   exact r1 _ _ _ (fin3r Tryz.results96 ⟨rfl, rfl⟩ ⟨rfl, rfl⟩ ⟨rfl, rfl⟩ ⟨_, _, _, rfl, b⟩)
  replace b := b.rowNh 3 I1
  refine loopQ (fun s a w => ∃ (K : L2) (L : Int) (d : LI) (i : Int) (f : FV) (C : List Hdr) (j : Hdr), (K, L, d, i) = s ∧ a = fr 211 f ∧ f 0 = o.v ∧ f 1 = iV h ∧ f 7 = c.v ∧ f 11 = iV L ∧ f 12 = j.v ∧ f 13 = iV i ∧ St w0 ros (row 22 rH c.v C :: fam 3 I1 C K :: row 3 I1 j.v d :: rs) w) t2 ⟨_, _, _, _, _, _, _, rfl, rfl, s1, j3, s2, rfl, rfl, rfl, (b.k14)⟩ ?_
  rintro _ _ w j4 ⟨K, L, d, i, f, C, j, rfl, rfl, j5, t8, j6, j7, d7, j8, b⟩ k t9 L4 u0 u1
  refine seqQ fun L5 u2 u3 => sR fun _ u4 => Ym (iV i) (eh j8) (Ym o.v (eh j5) (bE k fun L6 u5 k => yC (yCall FN_97 (a1 e0)) (sparseref07_cols_ok u5 V b) ?_))
  rintro _ w ⟨rfl, b⟩
  refine ⟨_, rfl, ?_⟩
  refine yY (ylss e0 e0) (wK u4 ?_)
  refine cIf e0 k (fun u6 k => ?_) fun u6 k => ?_
  ·refine wp_skip (u2 _ _ (sQ fun u7 u8 => ?_))
   have j9 : ∀ (d8 : L2) (d9 : Int) (e1 : LI) (e2 : List Hdr) (e3 : Hdr) (f : FV) w, f 0 = o.v → f 1 = iV h → f 7 = c.v → f 11 = iV d9 → f 12 = e3.v → f 13 = iV i → St w0 ros (row 22 rH c.v e2 :: fam 3 I1 e2 d8 :: row 3 I1 e3.v e1 :: rs) w → sparseref07_Echelon_j159 i d8 d9 e1 = some j4 → u7 .normal (fr 211 f) w := by
    intro d8 d9 e1 e2 e3 f w u9 v0 v1 v2 v3 v4 b g
    refine u8 _ _ (wR (Ym (iV i) (eh v4) (yY (yadd e0 rfl) (Ya (iV (wa .i64 i 1)) e0 (wN ?_)))))
    cases g
    exact u0 _ _ _ rfl ⟨_, _, _, _, _, _, _, rfl, rfl, u9, v0, v1, v2, v3, rfl, b⟩
   refine blockQ fun _ k0 => sR fun _ v5 => Ym j.v (eh d7) (yY (yLen SL_22 e0 b rO2) (Ya (iV (d.length : Int)) e0 (wK v5 (sR fun _ v6 => Ym (iV (d.length : Int)) e0 (Ya (iV (d.length : Int)) e0 (wK v6 ?_))))))
   refine sQ fun _ v7 => blockQ fun v8 v9 => bE k fun w1 w2 k => ?_
   have w3 : ∀ (N : Int) (f : FV) w, f 0 = o.v → f 1 = iV h → f 7 = c.v → f 11 = iV L → f 12 = j.v → f 13 = iV i → f 14 = iV (d.length : Int) → f 15 = iV N → St w0 ros (row 22 rH c.v C :: fam 3 I1 C K :: row 3 I1 j.v d :: rs) w → N = w1 → v8 (.exit 6) (fr 211 f) w := by
    intro N f w e4 a9 D k5 e5 e6 W b0 b ho
    subst ho
    refine v9 _ _ _ (v7 _ _ (seqQ fun L7 w4 w5 => sR fun _ w6 => Ym (iV N) (eh b0) (Ym c.v (eh D) (yY (yLenF SLH_52 e0 b rO0 R1) (yY (yeql e0 e0) (wK w6 ?_))))))
    refine cIf e0 k (fun w7 k => ?_) fun w7 k => ?_
    ·exact sR fun _ w8 => Ya (iV 0) rfl (wK w8 (wp_exit (w5 _ _ _ rfl (k0 _ _ _ (j9 _ _ _ _ _ _ _ e4 a9 D rfl e5 e6 b k)))))
    ·refine wp_skip (w4 _ _ (sQ fun w9 x0 => sR fun _ x2 => Ym (iV N) (eh b0) (Ym (iV (d.length : Int)) (eh W) (yY (yneq e0 e0) (wK x2 ?_)))))
     have k6 : ∀ (e7 : L2) (b1 : Int) (r : List Hdr) (f : FV) w, f 0 = o.v → f 1 = iV h → f 7 = c.v → f 11 = iV b1 → f 12 = j.v → f 13 = iV i → f 14 = iV (d.length : Int) → St w0 ros (row 22 rH c.v r :: fam 3 I1 r e7 :: row 3 I1 j.v d :: rs) w → sparseref07_Echelon_j163 d i h e7 b1 = some j4 → w9 .normal (fr 211 f) w := by
      intro e7 b1 r f w x4 e8 e9 x5 x6 f0 f1 b g
      refine x0 _ _ (sR fun _ x7 => Ym (iV b1) (eh x5) (Ym c.v (eh e9) (Ym (iV (d.length : Int)) (eh f1) (bE g fun L8 f2 g => ?_))))
      obtain ⟨L9, b2⟩ := b.famI R1 f2
      refine yY (yIa SLH_52 e0 e0 b rO0 b2) (yY (yF1 O_22 e0 b rO0 b2 rfl) (Ym (iV i) (eh f0) (bE g fun M0 k7 g => yY (yIa SL_22 e0 e0 b (rdF R1 b2 f2) k7) (yY (yI O_3 e0 b (rdF R1 b2 f2) k7) (yY (ymul e0 e0) (Ym (iV h) (eh e8) (bE g fun H x8 g => yY (yrem e0 e0 x8) (Ya (iV H) e0 (wK x7 (sQ fun _ x9 => ?_))))))))))
      refine wR (Ym c.v (eh e9) (Ym (iV (d.length : Int)) (eh f1) (bE g fun M1 f3 g => ?_)))
      obtain ⟨M2, b3⟩ := b.famI R1 f3
      refine yY (yIa SLH_52 e0 e0 b rO0 b3) (yY (yF1 O_22 e0 b rO0 b3 rfl) (Ym (iV i) (eh f0) (bE g fun M3 k8 g => yY (yIa SL_22 e0 e0 b (rdF R1 b3 f3) k8) (yY (yI O_3 e0 b (rdF R1 b3 f3) k8) (Ym (iV h) (eh e8) (bE g fun f4 y0 g => yC (yCall FN_32 (a2 e0 e0)) (sparseref07_Inverse_ok y0 b) ?_))))))
      rintro _ w ⟨rfl, b⟩
      refine ⟨_, rfl, ?_⟩
      refine Ya (iV f4) e0 (wK x9 (sQ fun _ y1 => sR fun _ y2 => Ya (iV 0) rfl (wK y2 (blockQ fun y3 y4 => bE g fun y5 y6 g => ?_))))
      have y7 : ∀ (f5 : L2) (f : FV) w, f 0 = o.v → f 1 = iV h → f 7 = c.v → f 11 = iV H → f 12 = j.v → f 13 = iV i → f 14 = iV (d.length : Int) → St w0 ros (row 22 rH c.v r :: fam 3 I1 r f5 :: row 3 I1 j.v d :: rs) w → f5 = y5 → y3 (.exit 8) (fr 211 f) w := by
       intro f5 f w y8 y9 z0 z1 z2 z3 z4 b ho
       subst ho
       refine y4 _ _ _ (y1 _ _ (sQ fun _ z5 => sR fun _ z6 => Ya (iV 0) rfl (wK z6 (blockQ fun z7 z8 => bE g fun z9 A0 g => ?_))))
       have A1 : ∀ (f6 : L2) (f : FV) w, f 0 = o.v → f 1 = iV h → f 7 = c.v → f 11 = iV H → f 12 = j.v → f 13 = iV i → St w0 ros (row 22 rH c.v r :: fam 3 I1 r f6 :: row 3 I1 j.v d :: rs) w → f6 = z9 → z7 (.exit 10) (fr 211 f) w := by
        intro f6 f w A2 A3 A4 A5 A6 k9 b ho
        subst ho
        exact z8 _ _ _ (z5 _ _ (wR (Ym j.v (eh A6) (Ym (iV i) (eh k9) (yH (rLt (n := 1) (l := [i]) b SL_22 [iV i] (bp1 e0) rfl rfl (mks1 (cs := [iV i]) rfl mkI mks0)) fun M4 w b => bE g fun M5 A7 g => yH (rAp (b.k15) SL_22 e0 e0 rO1 A7) fun A8 w b => Ya A8.v e0 (wN (k0 _ _ _ (j9 _ _ _ _ _ _ _ A2 A3 A4 A5 rfl k9 (b.k16) g))))))))
       refine loopQ (fun s a w => ∃ (f7 : L2) (t : Int) (f : FV), (f7, t) = s ∧ a = fr 211 f ∧ f 0 = o.v ∧ f 1 = iV h ∧ f 7 = c.v ∧ f 11 = iV H ∧ f 12 = j.v ∧ f 13 = iV i ∧ f 14 = iV (d.length : Int) ∧ f 18 = iV t ∧ St w0 ros (row 22 rH c.v r :: fam 3 I1 r f7 :: row 3 I1 j.v d :: rs) w) A0 ⟨_, _, _, rfl, rfl, y8, y9, z0, z1, z2, z3, z4, rfl, b⟩ ?_
       rintro _ _ w M6 ⟨f7, t, f, rfl, rfl, l0, l1, b4, l2, l3, f8, A9, f9, b⟩ z B0 M7 B1 B2
       refine seqQ fun M8 B3 B4 => sR fun _ B5 => Ym (iV t) (eh f9) (Ym c.v (eh b4) (yY (yLenF SLH_52 e0 b rO0 R1) (yY (ylss e0 e0) (wK B5 ?_))))
       refine cIf e0 z (fun B6 z => ?_) fun B6 z => ?_
       ·refine wp_skip (B3 _ _ (sQ fun _ B7 => blockQ fun _ B8 => sR fun _ B9 => Ym c.v (eh b4) (Ym (iV t) (eh f9) (bE z fun M9 g0 z => ?_))))
        obtain ⟨N0, b5⟩ := b.famI R1 g0
        refine yY (yIa SLH_52 e0 e0 b rO0 b5) (yY (yF1 O_22 e0 b rO0 b5 rfl) (Ym (iV i) (eh f8) (bE z fun b6 l4 z => yY (yIa SL_22 e0 e0 b (rdF R1 b5 g0) l4) (yY (yI O_3 e0 b (rdF R1 b5 g0) l4) (Ya (iV b6) e0 (wK B9 (sR fun _ C0 => Ya (iV 0) rfl (wK C0 ?_))))))))
        refine blockQ fun C1 C2 => bE z fun C3 C4 z => ?_
        have C5 : ∀ (g1 : L2) (f : FV) w, f 0 = o.v → f 1 = iV h → f 7 = c.v → f 11 = iV H → f 12 = j.v → f 13 = iV i → f 14 = iV (d.length : Int) → f 18 = iV t → St w0 ros (row 22 rH c.v r :: fam 3 I1 r g1 :: row 3 I1 j.v d :: rs) w → g1 = C3 → C1 (.exit 12) (fr 211 f) w := by
         intro g1 f w C6 C7 C8 C9 D0 D1 D2 D3 b ho
         subst ho
         refine C2 _ _ _ (B8 _ _ _ (B7 _ _ (wR (Ym (iV t) (eh D3) (yY (yadd e0 rfl) (Ya (iV (wa .i64 t 1)) e0 (wN ?_)))))))
         cases z
         exact B1 _ _ _ rfl ⟨_, _, _, rfl, rfl, C6, C7, C8, C9, D0, D1, D2, rfl, b⟩
        refine loopQ (fun s a w => ∃ (b7 : L2) (y : Int) (f : FV), (b7, y) = s ∧ a = fr 211 f ∧ f 0 = o.v ∧ f 1 = iV h ∧ f 7 = c.v ∧ f 11 = iV H ∧ f 12 = j.v ∧ f 13 = iV i ∧ f 14 = iV (d.length : Int) ∧ f 18 = iV t ∧ f 19 = iV b6 ∧ f 20 = iV y ∧ St w0 ros (row 22 rH c.v r :: fam 3 I1 r b7 :: row 3 I1 j.v d :: rs) w) C4 ⟨_, _, _, rfl, rfl, l0, l1, b4, l2, l3, f8, A9, f9, rfl, rfl, b⟩ ?_
        rintro _ _ w N1 ⟨b7, y, f, rfl, rfl, l5, l6, g2, l7, l8, l9, g3, b8, m0, g4, b⟩ m D4 N2 D5 D6
        refine seqQ fun N3 D7 D8 => sR fun _ D9 => Ym (iV y) (eh g4) (Ym c.v (eh g2) (Ym (iV t) (eh b8) (bE m fun g5 m1 m => ?_)))
        obtain ⟨N4, g6⟩ := b.famI R1 m1
        refine yY (yIa SLH_52 e0 e0 b rO0 g6) (yY (yF1 O_22 e0 b rO0 g6 rfl) (yY (yLen SL_22 e0 b (rdF R1 g6 m1)) (yY (ylss e0 e0) (Ym (.bool (decide (y < (g5.length : Int)))) e0 ?_))))
        refine joinW 4 (fun f w => f 0 = o.v ∧ f 1 = iV h ∧ f 7 = c.v ∧ f 11 = iV H ∧ f 12 = j.v ∧ f 13 = iV i ∧ f 14 = iV (d.length : Int) ∧ f 18 = iV t ∧ f 19 = iV b6 ∧ f 20 = iV y ∧ f 174 = .bool ((decide (y < (g5.length : Int))) && (!(decide (t = (d.length : Int))))) ∧ St w0 ros (row 22 rH c.v r :: fam 3 I1 r b7 :: row 3 I1 j.v d :: rs) w) (fun m2 => ?_) ?_
        ·rcases Bool.eq_false_or_eq_true (decide (y < (g5.length : Int))) with A | A
         ·exact yG A (m_ (iV t) (eh b8)) (yG A (m_ (iV (d.length : Int)) (eh g3)) (yG A (yneq e0 e0) (yY (pt_ (.bool (!(decide (t = (d.length : Int))))) e0 A e0) (m2 _ _ ⟨l5, l6, g2, l7, l8, l9, g3, b8, m0, g4, (congrArg Value.bool (andT A)), b⟩))))
         ·exact gN A (gN A (gN A (yY (pf_ (.bool false) e0 A rfl) (m2 _ _ ⟨l5, l6, g2, l7, l8, l9, g3, b8, m0, g4, (congrArg Value.bool (andF A)), b⟩))))
        rintro f w ⟨m3, b9, X, m4, m5, m6, g7, a3, m7, a4, E0, b⟩
        refine wK D9 (cB (eh E0) m (fun E1 m => ?_) fun E1 m => ?_)
        ·refine wp_skip (D7 _ _ (sQ fun _ E2 => blockQ fun _ E3 => bE m fun N5 g8 m => bE m fun N6 g9 m => bE m fun N7 m8 m => bE m fun N8 h0 m => bE m fun N9 m9 m => bE m fun O0 E4 m => bE m fun E5 E6 m => bE m fun O1 n0 m => bE m fun O2 E7 m => dR [0, 0, 3, 7, 0, 0, 0, 96, 224, 0, 992, 2016, 0, 0, 0, 24576, 57344, 0, 253952, 516096, 1044480, 0, 4190208, 8388576, 0, 33554400, 67108863, 134217727] [25, 27] 2 folM ?_))
         replace b := b.drew
         refine Dn [0, 1, 2, 3, 4, 5, 6, 7, 8, 9, 10, 11, 12, 13, 14, 15, 16, 17, 18, 19, 20, 21, 22, 23, 24] [] [25] (yR rfl (m_ c.v (eh X)) (yR rfl (m_ (iV t) (eh a3)) ?_))
         obtain ⟨O3, O⟩ := b.famI R1 g8
         refine yR rfl (yIa SLH_52 e0 e0 b rO0 O) (yR rfl (yF1 O_22 e0 b rO0 O rfl) (yR rfl (m_ (iV y) (eh a4)) (yR rfl (m_ c.v (eh X)) (yR rfl (m_ (iV t) (eh a3)) ?_))))
         obtain ⟨O4, c0⟩ := b.famI R1 g9
         refine yR rfl (yIa SLH_52 e0 e0 b rO0 c0) (yR rfl (yF1 O_22 e0 b rO0 c0 rfl) (yR rfl (m_ (iV y) (eh a4)) (yR rfl (yIa SL_22 e0 e0 b (rdF R1 c0 g9) m8) (yR rfl (yI O_3 e0 b (rdF R1 c0 g9) m8) (yR rfl (m_ (iV b6) (eh m7)) (yR rfl (m_ c.v (eh X)) (yR rfl (m_ (iV (d.length : Int)) (eh g7)) ?_)))))))
         obtain ⟨O5, c1⟩ := b.famI R1 h0
         refine yR rfl (yIa SLH_52 e0 e0 b rO0 c1) (yR rfl (yF1 O_22 e0 b rO0 c1 rfl) (yR rfl (m_ (iV y) (eh a4)) (yR rfl (yIa SL_22 e0 e0 b (rdF R1 c1 h0) m9) (yR rfl (yI O_3 e0 b (rdF R1 c1 h0) m9) (yR rfl (ymul e0 e0) (yR rfl (m_ (iV h) (eh b9)) (yR rfl (yrem e0 e0 E4) (yR rfl (ysub e0 e0) (yR rfl (m_ (iV h) (eh b9)) (Rn QSn ?_))))))))))
         refine Lc1 rfl ?_
         refine Lk wn (yCall FN_31 (a2 e0 e0)) (sparseref07_Mod_ok E6 b) ?_
         rintro _ w ⟨rfl, b⟩
         refine ⟨_, rfl, ?_⟩
         refine Dn [26] [0, 1, 2, 3, 4] [27] (yR rfl (yIs SL_22 e0 e0 b (rdF R1 O g8) n0) (Rn (yS rfl (m_ c.v (eh X)) (yS rfl (m_ (iV t) (eh a3)) (yS rfl (yIa SLH_52 e0 e0 b rO0 O) (yS rfl (yF1 O_22 e0 b rO0 O rfl) (yS rfl (m_ (iV y) (eh a4)) QSn))))) ?_))
         refine Lc1 rfl ?_
         replace b := b.k11
         refine LT wn (r_sti (cs := [iV E5]) (b.foc O g8) O_3 rfl e0 e0 rfl mkI n0) fun w b => ?_
         replace b := b.unfoc' O E7
         refine Dz [] [] (Rn QSn (E3 _ _ _ (E2 _ _ (wR (Ym (iV y) (eh a4) (yY (yadd e0 rfl) (Ya (iV (wa .i64 y 1)) e0 (wN ?_))))))))
         cases m
         exact D5 _ _ _ rfl ⟨_, _, _, rfl, rfl, m3, b9, X, m4, m5, m6, g7, a3, m7, rfl, (b.k1u)⟩
        ·refine wp_exit (D8 _ _ _ rfl ?_)
         cases m
         exact D6 _ _ _ _ rfl rfl (C5 _ _ _ m3 b9 X m4 m5 m6 g7 a3 b (D4 _ rfl))
       ·refine wp_exit (B4 _ _ _ rfl ?_)
        cases z
        exact B2 _ _ _ _ rfl rfl (A1 _ _ _ l0 l1 b4 l2 l3 f8 b (B0 _ rfl))
      refine loopQ (fun s a w => ∃ (h1 : L2) (I : Int) (f : FV), (h1, I) = s ∧ a = fr 211 f ∧ f 0 = o.v ∧ f 1 = iV h ∧ f 7 = c.v ∧ f 11 = iV H ∧ f 12 = j.v ∧ f 13 = iV i ∧ f 14 = iV (d.length : Int) ∧ f 16 = iV f4 ∧ f 17 = iV I ∧ St w0 ros (row 22 rH c.v r :: fam 3 I1 r h1 :: row 3 I1 j.v d :: rs) w) y6 ⟨_, _, _, rfl, rfl, x4, e8, e9, rfl, x6, f0, f1, rfl, rfl, b⟩ ?_
      rintro _ _ w O6 ⟨h1, I, f, rfl, rfl, n1, h3, a5, n2, n4, n5, a6, n6, c2, b⟩ p E8 O7 E9 F2
      refine seqQ fun O8 F3 F4 => sR fun _ F5 => Ym (iV I) (eh c2) (Ym c.v (eh a5) (Ym (iV (d.length : Int)) (eh a6) (bE p fun O9 n7 p => ?_)))
      obtain ⟨P0, h4⟩ := b.famI R1 n7
      refine yY (yIa SLH_52 e0 e0 b rO0 h4) (yY (yF1 O_22 e0 b rO0 h4 rfl) (yY (yLen SL_22 e0 b (rdF R1 h4 n7)) (yY (ylss e0 e0) (wK F5 ?_))))
      refine cIf e0 p (fun F6 p => ?_) fun F6 p => ?_
      ·refine wp_skip (F3 _ _ (sQ fun _ F7 => blockQ fun _ F8 => bE p fun P1 h5 p => bE p fun P2 h6 p => bE p fun P3 n8 p => bE p fun F9 G0 p => bE p fun P4 n9 p => bE p fun P5 G1 p => dR [0, 0, 3, 7, 0, 0, 0, 96, 224, 0, 992, 2016, 0, 8160, 0, 32736, 65535, 131071] [17] 1 folM ?_))
       replace b := b.drew
       refine Dn [0, 1, 2, 3, 4, 5, 6, 7, 8, 9, 10, 11, 12, 13, 14, 15, 16] [] [17] (yR rfl (m_ c.v (eh a5)) (yR rfl (m_ (iV (d.length : Int)) (eh a6)) ?_))
       obtain ⟨P6, a7⟩ := b.famI R1 h5
       refine yR rfl (yIa SLH_52 e0 e0 b rO0 a7) (yR rfl (yF1 O_22 e0 b rO0 a7 rfl) (yR rfl (m_ (iV I) (eh c2)) (yR rfl (m_ c.v (eh a5)) (yR rfl (m_ (iV (d.length : Int)) (eh a6)) ?_))))
       obtain ⟨P7, c3⟩ := b.famI R1 h6
       refine yR rfl (yIa SLH_52 e0 e0 b rO0 c3) (yR rfl (yF1 O_22 e0 b rO0 c3 rfl) (yR rfl (m_ (iV I) (eh c2)) (yR rfl (yIa SL_22 e0 e0 b (rdF R1 c3 h6) n8) (yR rfl (yI O_3 e0 b (rdF R1 c3 h6) n8) (yR rfl (m_ (iV f4) (eh n6)) (yR rfl (ymul e0 e0) (yR rfl (m_ (iV h) (eh h3)) (yR rfl (yrem e0 e0 G0) (yR rfl (yIs SL_22 e0 e0 b (rdF R1 a7 h5) n9) (Rn QSn ?_))))))))))
       refine Lc1 rfl ?_
       replace b := b.k11
       refine LT wn (r_sti (cs := [iV F9]) (b.foc a7 h5) O_3 rfl e0 e0 rfl mkI n9) fun w b => ?_
       replace b := b.unfoc' a7 G1
       refine Dz [] [] (Rn QSn (F8 _ _ _ (F7 _ _ (wR (Ym (iV I) (eh c2) (yY (yadd e0 rfl) (Ya (iV (wa .i64 I 1)) e0 (wN ?_))))))))
       cases p
       exact E9 _ _ _ rfl ⟨_, _, _, rfl, rfl, n1, h3, a5, n2, n4, n5, a6, n6, rfl, (b.k1u)⟩
      ·refine wp_exit (F4 _ _ _ rfl ?_)
       cases p
       exact F2 _ _ _ _ rfl rfl (y7 _ _ _ n1 h3 a5 n2 n4 n5 a6 b (E8 _ rfl))
     rcases iteS k with ⟨h7, k⟩ | ⟨h7, k⟩
     ·exact condF e0 (nF (dT h7)) (wp_skip (k6 _ _ _ _ _ e4 a9 D k5 e5 e6 W b k))
     ·refine condT e0 (nT (dF h7)) (sQ fun _ G2 => bE k fun P8 o0 k => bE k fun P9 o1 k => bE k fun Q0 h8 k => bE k fun Q1 o2 k => dR [0, 0, 0, 0, 0, 0, 48, 112, 0, 0, 768, 1792, 4083, 8179, 16383, 32767] [13, 15] 2 folM ?_)
      replace b := b.drew
      refine Dn [0, 1, 2, 3, 4, 5, 6, 7, 8, 9, 10, 11, 12] [] [13] (yR rfl (m_ c.v (eh D)) (yR rfl (m_ (iV N) (eh b0)) (yR rfl (m_ c.v (eh D)) (yR rfl (m_ (iV (d.length : Int)) (eh W)) (yR rfl (m_ c.v (eh D)) (yR rfl (m_ (iV (d.length : Int)) (eh W)) ?_))))))
      obtain ⟨o4, h9⟩ := b.famI R1 o0
      refine yR rfl (yIa SLH_52 e0 e0 b rO0 h9) (yR rfl (yF1 O_22 e0 b rO0 h9 rfl) (yR rfl (m_ c.v (eh D)) (yR rfl (m_ (iV N) (eh b0)) ?_)))
      obtain ⟨o5, i0⟩ := b.famI R1 o1
      refine yR rfl (yIa SLH_52 e0 e0 b rO0 i0) (yR rfl (yF1 O_22 e0 b rO0 i0 rfl) ?_)
      obtain ⟨Q2, c4⟩ := setI_len (u := o4) h8 (b.famL (mtR mhR))
      refine yR rfl (yIs SLH_52 e0 e0 b rO0 c4) (Rn QSn ?_)
      refine Lc1 rfl ?_
      refine LT wn (r_sti (cs := [o4.v]) b O_22 rfl e0 e0 rfl (mkF rfl) c4) fun w b => Dn [14] [2, 3] [15] ?_
      obtain ⟨Q3, i1⟩ := setI_len (u := o5) o2 (swap_len h8 c4 (b.famL (mtR mhR)))
      refine yR rfl (yIs SLH_52 e0 e0 b rO0 i1) (Rn (yS rfl (m_ c.v (eh D)) (yS rfl (m_ (iV (d.length : Int)) (eh W)) QSn)) ?_)
      refine Lc1 rfl ?_
      refine LT wn (r_sti (cs := [o5.v]) b O_22 rfl e0 e0 rfl (mkF rfl) i1) fun w b => ?_
      replace b := (b.k11).fswap h9 o0 i0 o1 c4 h8 i1 o2
      refine Dz [] [] (Rn QSn (G2 _ _ (wR (Ym (iV L) (eh k5) (yY (yneg e0) (Ym (iV h) (eh a9) (bE k fun G3 G4 k => yC (yCall FN_31 (a2 e0 e0)) (sparseref07_Mod_ok G4 b) ?_)))))))
      rintro _ w ⟨rfl, b⟩
      refine ⟨_, rfl, ?_⟩
      exact Ya (iV G3) e0 (wN (k6 _ _ _ _ _ e4 a9 D rfl e5 e6 W (b.k1u) k))
   refine loopQ (fun s a w => ∃ (E : Int) (f : FV), E = s ∧ a = fr 211 f ∧ f 0 = o.v ∧ f 1 = iV h ∧ f 7 = c.v ∧ f 11 = iV L ∧ f 12 = j.v ∧ f 13 = iV i ∧ f 14 = iV (d.length : Int) ∧ f 15 = iV E ∧ St w0 ros (row 22 rH c.v C :: fam 3 I1 C K :: row 3 I1 j.v d :: rs) w) w2 ⟨_, _, rfl, rfl, j5, t8, j6, j7, d7, j8, rfl, rfl, b⟩ ?_
   rintro _ _ w Q4 ⟨E, f, rfl, rfl, o6, o7, c5, o8, o9, i2, p0, c6, b⟩ R G5 Q6 G6 G7
   refine seqQ fun Q7 G8 G9 => sR fun _ H0 => Ym (iV E) (eh c6) (Ym c.v (eh c5) (yY (yLenF SLH_52 e0 b rO0 R1) (yY (ylss e0 e0) (Ym (.bool (decide (E < (K.length : Int)))) e0 (bE R fun H1 F R => ?_)))))
   refine joinW 9 (fun f w => f 0 = o.v ∧ f 1 = iV h ∧ f 7 = c.v ∧ f 11 = iV L ∧ f 12 = j.v ∧ f 13 = iV i ∧ f 14 = iV (d.length : Int) ∧ f 15 = iV E ∧ f 76 = .bool H1 ∧ St w0 ros (row 22 rH c.v C :: fam 3 I1 C K :: row 3 I1 j.v d :: rs) w) (fun p1 => ?_) ?_
   ·rcases iteS F with ⟨q, F⟩ | ⟨q, F⟩
    ·refine yG (dT q) (m_ c.v (eh c5)) (yG (dT q) (m_ (iV E) (eh c6)) (bE F fun Q8 i3 F => ?_))
     obtain ⟨Q9, c7⟩ := b.famI R1 i3
     refine yG (dT q) (yIa SLH_52 e0 e0 b rO0 c7) (yG (dT q) (yF1 O_22 e0 b rO0 c7 rfl) (yG (dT q) (m_ (iV i) (eh i2)) (bE F fun H2 p2 F => yG (dT q) (yIa SL_22 e0 e0 b (rdF R1 c7 i3) p2) (yG (dT q) (yI O_3 e0 b (rdF R1 c7 i3) p2) (yG (dT q) (yeql e0 rfl) (yY (pt_ (.bool (decide (H2 = 0))) e0 (dT q) e0) ?_))))))
     cases F
     exact p1 _ _ ⟨o6, o7, c5, o8, o9, i2, p0, c6, rfl, b⟩
    ·refine gN (dF q) (gN (dF q) (gN (dF q) (gN (dF q) (gN (dF q) (gN (dF q) (gN (dF q) (gN (dF q) (yY (pf_ (.bool false) e0 (dF q) rfl) ?_))))))))
     cases F
     exact p1 _ _ ⟨o6, o7, c5, o8, o9, i2, p0, c6, rfl, b⟩
   rintro f w ⟨p3, p4, p5, p6, p7, p8, p9, q0, H3, b⟩
   refine wK H0 (cB (eh H3) R (fun H4 R => ?_) fun H4 R => ?_)
   ·refine wp_skip (G8 _ _ (blockQ fun _ H5 => wR (Ym (iV E) (eh q0) (yY (yadd e0 rfl) (Ya (iV (wa .i64 E 1)) e0 (wN (H5 _ _ _ ?_)))))))
    cases R
    exact G6 _ _ _ rfl ⟨_, _, rfl, rfl, p3, p4, p5, p6, p7, p8, p9, rfl, b⟩
   ·refine wp_exit (G9 _ _ _ rfl ?_)
    cases R
    exact G7 _ _ _ _ rfl rfl (w3 _ _ _ p3 p4 p5 p6 p7 p8 p9 q0 b (G5 _ rfl))
  ·refine wp_exit (u3 _ _ _ rfl ?_)
   cases k
   exact u1 _ _ _ _ rfl rfl (t3 _ _ _ _ _ _ _ j6 j7 d7 b (t9 _ rfl))
 replace b := ((b.rowNh 22 rH).fNew 3 I1).k11
 refine loopQ (fun s a w => ∃ (a8 : L2) (B : Int) (f : FV) (J : Hdr) (S : List Hdr), (a8, B) = s ∧ a = fr 211 f ∧ f 0 = o.v ∧ f 1 = iV h ∧ f 7 = J.v ∧ f 8 = iV B ∧ St w0 ros (row 22 rH J.v S :: fam 3 I1 S a8 :: rs) w) r9 ⟨_, _, _, _, _, rfl, rfl, rfl, rfl, rfl, rfl, b⟩ ?_
 rintro _ _ w R0 ⟨a8, B, f, J, S, rfl, rfl, i4, q2, q3, q4, b⟩ G H6 R3 H7 H8
 refine seqQ fun R4 H9 I0 => sR fun _ I2 => Ym (iV B) (eh q4) (Ym o.v (eh i4) (yY (yLen SL_52 e0 b (rdI V)) (yY (ylss e0 e0) (wK I2 ?_))))
 refine cIf e0 G (fun I3 G => ?_) fun I3 G => ?_
 ·refine wp_skip (H9 _ _ (sQ fun _ I4 => blockQ fun _ I5 => sR fun _ I6 => Ya hnil.v rfl (wK I6 (sQ fun _ I7 => sR fun _ I8 => Ya (iV 0) rfl (wN ?_)))))
  refine I8 _ _ (blockQ fun I9 J0 => bE G fun J1 J2 G => ?_)
  have J3 : ∀ (c8 : LI) (T : Hdr) (f : FV) w, f 0 = o.v → f 1 = iV h → f 7 = J.v → f 8 = iV B → f 9 = T.v → St w0 ros (row 22 rH J.v S :: fam 3 I1 S a8 :: row 3 I1 T.v c8 :: rs) w → c8 = J1 → I9 (.exit 2) (fr 211 f) w := by
   intro c8 T f w J4 J5 J6 J7 J8 b ho
   subst ho
   refine J0 _ _ _ (I7 _ _ (wR (Ym J.v (eh J6) (Ym T.v (eh J8) (yH (rLt (n := 1) (l := [T]) b SLH_52 [T.v] (bp1 e0) rfl rfl (mks1 rfl (mkF rfl) mks0)) fun R5 w b => bE G fun R6 q5 G => ?_)))))
   replace b := b.k11
   obtain ⟨R7, ey2785, J9⟩ := app_rep q5 (b.famL R2) (show [T].length = [c8].length from rfl)
   refine yH (rAp b SLH_52 e0 e0 rO1 J9) fun K0 w b => ?_
   replace b := (b.k12).fPush
   rw [← ey2785, ← (app_some q5).1] at b
   refine Ya K0.v e0 (wN (I5 _ _ _ (I4 _ _ (wR (Ym (iV B) (eh J7) (yY (yadd e0 rfl) (Ya (iV (wa .i64 B 1)) e0 (wN ?_))))))))
   cases G
   exact H7 _ _ _ rfl ⟨_, _, _, _, _, rfl, rfl, J4, J5, rfl, rfl, (b.k13)⟩
  replace b := b.rowNh 3 I1
  refine loopQ (fun s a w => ∃ (i5 : LI) (U : Int) (f : FV) (c9 : Hdr), (i5, U) = s ∧ a = fr 211 f ∧ f 0 = o.v ∧ f 1 = iV h ∧ f 7 = J.v ∧ f 8 = iV B ∧ f 9 = c9.v ∧ f 10 = iV U ∧ St w0 ros (row 22 rH J.v S :: fam 3 I1 S a8 :: row 3 I1 c9.v i5 :: rs) w) J2 ⟨_, _, _, _, rfl, rfl, i4, q2, q3, q4, rfl, rfl, (b.k14)⟩ ?_
  rintro _ _ w R8 ⟨i5, U, f, c9, rfl, rfl, d0, i6, q6, d1, q7, i7, b⟩ x K1 R9 K2 K3
  refine seqQ fun S0 K4 K5 => sR fun _ K6 => Ym (iV U) (eh i7) (Ym o.v (eh d0) (Ym (iV B) (eh d1) (bE x fun S3 q8 x => yY (yIa SL_52 e0 e0 b (rdI V) q8) ?_)))
  obtain ⟨S4, b⟩ := iLs b V q8
  refine yY (yCt O_22 e0 b F1 rfl) (yY (yLen SL_22 e0 b (rdI F0)) (yY (ylss e0 e0) (wK K6 ?_)))
  refine cIf e0 x (fun K7 x => ?_) fun K7 x => ?_
  ·refine wp_skip (K4 _ _ (sQ fun _ K8 => blockQ fun _ K9 => wR (Ym c9.v (eh q7) (Ym o.v (eh d0) (Ym (iV B) (eh d1) (bE x fun S5 q9 x => yY (yIa SL_52 e0 e0 b (rdI (F_2 V)) q9) ?_))))))
   obtain ⟨S6, b⟩ := iLs b (F_2 V) q9
   refine yY (yCt O_22 e0 b F1 rfl) (Ym (iV U) (eh i7) (bE x fun S7 r0 x => yY (yIa SL_22 e0 e0 b (rdI F0) r0) (yY (yI O_3 e0 b (rdI F0) r0) (Ym (iV h) (eh i6) (bE x fun i8 L0 x => yC (yCall FN_31 (a2 e0 e0)) (sparseref07_Mod_ok L0 b) ?_)))))
   rintro _ w ⟨rfl, b⟩
   refine ⟨_, rfl, ?_⟩
   refine yH (rLt (n := 1) (l := [i8]) b SL_22 [iV i8] (bp1 e0) rfl rfl (mks1 (cs := [iV i8]) rfl mkI mks0)) fun S8 w b => bE x fun S9 L1 x => yH (rAp (b.k15) SL_22 e0 e0 rO1 L1) fun L3 w b => Ya L3.v e0 (wN (K9 _ _ _ (K8 _ _ (wR (Ym (iV U) (eh i7) (yY (yadd e0 rfl) (Ya (iV (wa .i64 U 1)) e0 (wN ?_))))))))
   cases x
   exact K2 _ _ _ rfl ⟨_, _, _, _, rfl, rfl, d0, i6, q6, d1, rfl, rfl, ((b.k16).facts (allT (allT (allT (allT allI)))))⟩
  ·refine wp_exit (K5 _ _ _ rfl ?_)
   cases x
   exact K3 _ _ _ _ rfl rfl (J3 _ _ _ _ d0 i6 q6 d1 q7 (b.facts (allT (allT allI))) (K1 _ rfl))
 ·refine wp_exit (I0 _ _ _ rfl ?_)
  cases G
  exact H8 _ _ _ _ rfl rfl (s0 _ _ _ _ _ i4 q2 q3 b (H6 _ rfl))
theorem sparseref07_Rank_ok {i : L2} {d : Int} {f : Hdr} {out : Int} (g : sparseref07_Rank i d = some out) (j : imm S1 f.v i ∈ ros) (a : St w0 ros rs w) :
  Calls Tryz.prog 52 #[f.v, iV d] w (fun e w => e = .returned (iV out) ∧ St w0 ros rs w) := by
 refine enterQ Tryz.func52 rfl Tryz.ntmps52 rfl fun Q k => sR fun _ l => Ya (iV 0) rfl (wK l (sR fun _ m => Ym f.v e0 (Ym (iV d) e0 (bE g fun b n g => yC (yCall FN_96 (a2 e0 e0)) (sparseref07_Echelon_ok n j a) ?_))))
 rintro _ w ⟨h, p, c, rfl, a⟩
 refine ⟨_, rfl, ?_⟩
 refine Ym (.tuple #[h.v, c.v, iV b.2.2]) e0 (yY (x_ h.v e0) (yY (x_ c.v e0) (yY (x_ (iV b.2.2) e0) (Ya h.v e0 (Ya c.v e0 (Ya (iV b.2.2) e0 (wK m (sR fun _ o => Ym c.v e0 (yY (yLen SL_22 e0 a rO2) (Ya (iV (b.2.1.length : Int)) e0 ?_))))))))))
 refine wK o (wp_ret ?_)
 cases g
 exact k _ _ _ (fin1r Tryz.results52 ⟨rfl, rfl⟩ ⟨rfl, (a.k1k)⟩)
theorem sparseref07_Kernel_ok {H : L2} {n : Int} {o : Hdr} {out : LI} (c : sparseref07_Kernel H n = some out) (D : imm S1 o.v H ∈ ros) (b : St w0 ros rs w) :
  Calls Tryz.prog 53 #[o.v, iV n] w (fun e w => ∃ (I : Hdr), e = .returned (I.v) ∧ St w0 ros (row 3 I1 I.v out :: rs) w) := by
 refine enterQ Tryz.func53 rfl Tryz.ntmps53 rfl fun Q J => sR fun _ a7 => Ya hnil.v rfl (wK a7 (sR fun _ a8 => Ym o.v e0 (Ym (iV n) e0 (bE c fun i a9 c => yC (yCall FN_96 (a2 e0 e0)) (sparseref07_Echelon_ok a9 D b) ?_))))
 rintro _ w ⟨j, p, d, rfl, b⟩
 refine ⟨_, rfl, ?_⟩
 refine Ym (.tuple #[j.v, d.v, iV i.2.2]) e0 (yY (x_ j.v e0) (yY (x_ d.v e0) (yY (x_ (iV i.2.2) e0) (Ya j.v e0 (Ya d.v e0 (Ya (iV i.2.2) e0 (wK a8 (seqQ fun g4 b0 b1 => sR fun _ b2 => Ym d.v e0 (yY (yLen SL_22 e0 b rO2) ?_)))))))))
 refine Ym o.v e0 (bE c fun g5 b3 c => yC (yCall FN_97 (a1 e0)) (sparseref07_cols_ok b3 D b) ?_)
 rintro _ w ⟨rfl, b⟩
 refine ⟨_, rfl, ?_⟩
 refine yY (yeql e0 e0) (wK b2 ?_)
 refine cIf e0 c (fun b4 c => ?_) fun b4 c => ?_
 ·refine sR fun _ b5 => Ya hnil.v rfl (wK b5 (wp_ret (b1 _ _ _ rfl ?_)))
  cases c
  replace b := b.rowNh 3 I1
  exact J _ _ _ (fin1r Tryz.results53 ⟨rfl, rfl⟩ ⟨_, rfl, (b.k1d)⟩)
 ·refine wp_skip (b0 _ _ (sR fun _ b6 => Ya (iV 0) rfl (wK b6 (sQ fun _ b7 => blockQ fun b8 b9 => bE c fun c0 c1 c => ?_))))
  have c2 : ∀ (t : Int) (f : FV) w, f 0 = o.v → f 1 = iV n → f 5 = j.v → f 6 = d.v → f 8 = iV t → St w0 ros (row 22 rH j.v p :: fam 3 I1 p i.1 :: row 3 I1 d.v i.2.1 :: rs) w → t = c0 → b8 (.exit 0) (fr 66 f) w := by
   intro t f w c3 c4 c5 c6 K b ho
   subst ho
   refine b9 _ _ _ (b7 _ _ (sR fun _ c7 => Ym o.v (eh c3) (bE c fun g6 c8 c => yC (yCall FN_97 (a1 e0)) (sparseref07_cols_ok c8 D b) ?_)))
   rintro _ w ⟨rfl, b⟩
   refine ⟨_, rfl, ?_⟩
   refine bE c fun g7 d0 c => yH (rMk b SL_22 e0 d0) fun l w b => Ya l.v e0 (wK c7 (sR fun _ d1 => Ym l.v e0 (Ym (iV t) (eh K) (bE c fun g8 L c => yY (yIs SL_22 e0 e0 b rO0 L) (yT (r_sti (cs := [iV 1]) b O_3 rfl e0 rfl rfl mkI L) fun w b => ?_)))))
   refine wK d1 (sQ fun _ d2 => sR fun _ d3 => Ya (iV 0) rfl (wK d3 (blockQ fun d4 d5 => bE c fun d6 d7 c => ?_)))
   have d8 : ∀ (E : LI) (f : FV) w, f 9 = l.v → St w0 ros (row 3 I1 l.v E :: rs) w → E = d6 → d4 (.exit 2) (fr 66 f) w := by
    intro E f w d9 b ho
    subst ho
    refine d5 _ _ _ (d2 _ _ (sR fun _ e1 => Ym l.v (eh d9) (Ya l.v e0 (wK e1 (wp_ret ?_)))))
    cases c
    exact J _ _ _ (fin1r Tryz.results53 ⟨rfl, rfl⟩ ⟨_, rfl, b⟩)
   refine loopQ (fun s a w => ∃ (F : LI) (m : Int) (f : FV), (F, m) = s ∧ a = fr 66 f ∧ f 1 = iV n ∧ f 5 = j.v ∧ f 6 = d.v ∧ f 8 = iV t ∧ f 9 = l.v ∧ f 10 = iV m ∧ St w0 ros (row 22 rH j.v p :: fam 3 I1 p i.1 :: row 3 I1 d.v i.2.1 :: row 3 I1 l.v F :: rs) w) d7 ⟨_, _, _, rfl, rfl, c4, c5, c6, K, rfl, rfl, (b.k1c)⟩ ?_
   rintro _ _ w g9 ⟨F, m, f, rfl, rfl, N, O, y, R, z, u, b⟩ g e2 h0 e3 e4
   refine seqQ fun h1 e5 e6 => sR fun _ e7 => Ym (iV m) (eh u) (Ym d.v (eh y) (yY (yLen SL_22 e0 b rO2) (yY (ylss e0 e0) (wK e7 ?_))))
   refine cIf e0 g (fun e8 g => ?_) fun e8 g => ?_
   ·refine wp_skip (e5 _ _ (sQ fun _ e9 => blockQ fun _ f0 => bE g fun h3 A g => bE g fun h4 G g => bE g fun h6 S g => bE g fun f1 f2 g => bE g fun h8 T g => dR [0, 0, 0, 6, 14, 0, 0, 96, 224, 0, 992, 2016, 4064, 0, 16352, 32767, 65535] [14, 16] 2 folM ?_))
    replace b := b.drew
    refine Dn [0, 1, 2, 3, 4, 5, 6, 7, 8, 9, 10, 11, 12, 13] [] [14] (yR rfl (m_ l.v (eh z)) (yR rfl (m_ d.v (eh y)) (yR rfl (m_ (iV m) (eh u)) (yR rfl (yIa SL_22 e0 e0 b rO2 A) (yR rfl (yI O_3 e0 b rO2 A) (yR rfl (m_ j.v (eh O)) (yR rfl (m_ (iV m) (eh u)) ?_)))))))
    obtain ⟨h9, B⟩ := b.famI R1 G
    refine yR rfl (yIa SLH_52 e0 e0 b rO0 B) (yR rfl (yF1 O_22 e0 b rO0 B rfl) (yR rfl (m_ (iV t) (eh R)) (yR rfl (yIa SL_22 e0 e0 b (rdF R1 B G) S) (yR rfl (yI O_3 e0 b (rdF R1 B G) S) (yR rfl (yneg e0) (yR rfl (m_ (iV n) (eh N)) (Rn QSn ?_)))))))
    refine Lc1 rfl ?_
    refine Lk wn (yCall FN_31 (a2 e0 e0)) (sparseref07_Mod_ok f2 b) ?_
    rintro _ w ⟨rfl, b⟩
    refine ⟨_, rfl, ?_⟩
    refine Dn [15] [0, 1, 2, 3, 4] [16] (yR rfl (yIs SL_22 e0 e0 b rO3 T) (Rn (yS rfl (m_ l.v (eh z)) (yS rfl (m_ d.v (eh y)) (yS rfl (m_ (iV m) (eh u)) (yS rfl (yIa SL_22 e0 e0 b rO2 A) (yS rfl (yI O_3 e0 b rO2 A) QSn))))) ?_))
    refine Lc1 rfl ?_
    replace b := b.k15
    refine LT wn (r_sti (cs := [iV f1]) b O_3 rfl e0 e0 rfl mkI T) fun w b => Dz [] [] (Rn QSn (f0 _ _ _ (e9 _ _ (wR (Ym (iV m) (eh u) (yY (yadd e0 rfl) (Ya (iV (wa .i64 m 1)) e0 (wN ?_))))))))
    cases g
    exact e3 _ _ _ rfl ⟨_, _, _, rfl, rfl, N, O, y, R, z, rfl, (b.k1c)⟩
   ·refine wp_exit (e6 _ _ _ rfl ?_)
    cases g
    exact e4 _ _ _ _ rfl rfl (d8 _ _ _ z (b.k1t) (e2 _ rfl))
  refine loopQ (fun s a w => ∃ (k : Int) (f : FV), k = s ∧ a = fr 66 f ∧ f 0 = o.v ∧ f 1 = iV n ∧ f 5 = j.v ∧ f 6 = d.v ∧ f 8 = iV k ∧ St w0 ros (row 22 rH j.v p :: fam 3 I1 p i.1 :: row 3 I1 d.v i.2.1 :: rs) w) c1 ⟨_, _, rfl, rfl, rfl, rfl, rfl, rfl, rfl, b⟩ ?_
  rintro _ _ w i0 ⟨k, f, rfl, rfl, U, V, W, C, x, b⟩ q f3 i1 f4 f5
  refine seqQ fun i2 f6 f7 => sR fun _ f8 => Ym (iV k) (eh x) (Ym d.v (eh C) (yY (yLen SL_22 e0 b rO2) (yY (ylss e0 e0) (Ym (.bool (decide (k < (i.2.1.length : Int)))) e0 (bE q fun f9 r q => ?_)))))
  refine joinW 7 (fun f w => f 0 = o.v ∧ f 1 = iV n ∧ f 5 = j.v ∧ f 6 = d.v ∧ f 8 = iV k ∧ f 34 = .bool f9 ∧ St w0 ros (row 22 rH j.v p :: fam 3 I1 p i.1 :: row 3 I1 d.v i.2.1 :: rs) w) (fun X => ?_) ?_
  ·rcases iteS r with ⟨h, r⟩ | ⟨h, r⟩
   ·refine yG (dT h) (m_ d.v (eh C)) (yG (dT h) (m_ (iV k) (eh x)) (bE r fun g0 Z r => yG (dT h) (yIa SL_22 e0 e0 b rO2 Z) (yG (dT h) (yI O_3 e0 b rO2 Z) (yG (dT h) (m_ (iV k) (eh x)) (yG (dT h) (yeql e0 e0) (yY (pt_ (.bool (decide (g0 = k))) e0 (dT h) e0) ?_))))))
    cases r
    exact X _ _ ⟨U, V, W, C, x, rfl, b⟩
   ·refine gN (dF h) (gN (dF h) (gN (dF h) (gN (dF h) (gN (dF h) (gN (dF h) (yY (pf_ (.bool false) e0 (dF h) rfl) ?_))))))
    cases r
    exact X _ _ ⟨U, V, W, C, x, rfl, b⟩
  rintro f w ⟨a0, a3, a4, a5, a6, g1, b⟩
  refine wK f8 (cB (eh g1) q (fun g2 q => ?_) fun g2 q => ?_)
  ·refine wp_skip (f6 _ _ (blockQ fun _ g3 => wR (Ym (iV k) (eh a6) (yY (yadd e0 rfl) (Ya (iV (wa .i64 k 1)) e0 (wN (g3 _ _ _ ?_)))))))
   cases q
   exact f4 _ _ _ rfl ⟨_, _, rfl, rfl, a0, a3, a4, a5, rfl, b⟩
  ·refine wp_exit (f7 _ _ _ rfl ?_)
   cases q
   exact f5 _ _ _ _ rfl rfl (c2 _ _ _ a0 a3 a4 a5 a6 b (f3 _ rfl))
theorem sparseref07_Det_ok {i : L2} {g : Int} {d : Hdr} {out : Int} (a : sparseref07_Det i g = some out) (j : imm S1 d.v i ∈ ros) (b : St w0 ros rs w) :
  Calls Tryz.prog 54 #[d.v, iV g] w (fun e w => e = .returned (iV out) ∧ St w0 ros rs w) := by
 refine enterQ Tryz.func54 rfl Tryz.ntmps54 rfl fun Q k => sR fun _ l => Ya (iV 0) rfl (wK l (sR fun _ m => Ym d.v e0 (Ym (iV g) e0 (bE a fun c n a => yC (yCall FN_96 (a2 e0 e0)) (sparseref07_Echelon_ok n j b) ?_))))
 rintro _ w ⟨h, u, f, rfl, b⟩
 refine ⟨_, rfl, ?_⟩
 refine Ym (.tuple #[h.v, f.v, iV c.2.2]) e0 (yY (x_ h.v e0) (yY (x_ f.v e0) (yY (x_ (iV c.2.2) e0) (Ya h.v e0 (Ya f.v e0 (Ya (iV c.2.2) e0 (wK m (seqQ fun x o p => sR fun _ q => Ym f.v e0 (yY (yLen SL_22 e0 b rO2) ?_)))))))))
 refine Ym d.v e0 (yY (yLen SL_52 e0 b (rdI j)) (yY (ylss e0 e0) (wK q ?_)))
 refine cIf e0 a (fun r a => ?_) fun r a => ?_
 ·refine sR fun _ s => Ya (iV 0) rfl (wK s (wp_ret (p _ _ _ rfl ?_)))
  cases a
  exact k _ _ _ (fin1r Tryz.results54 ⟨rfl, rfl⟩ ⟨rfl, (b.k1k)⟩)
 ·refine wp_skip (o _ _ (sR fun _ t => Ym (iV c.2.2) e0 (Ya (iV c.2.2) e0 (wK t (wp_ret ?_)))))
  cases a
  exact k _ _ _ (fin1r Tryz.results54 ⟨rfl, rfl⟩ ⟨rfl, (b.k1k)⟩)
theorem sparseref07_Solve_ok {L : L2} {N : LI} {m : Int} {h q : Hdr} {out : LI × Bool} (d : sparseref07_Solve L N m = some out) (o : imm S1 h.v L ∈ ros) (O : imm I1 q.v N ∈ ros) (b : St w0 ros rs w) :
  Calls Tryz.prog 55 #[h.v, q.v, iV m] w (fun e w => ∃ (R : Hdr), e = .returned (.tuple #[R.v, .bool out.2]) ∧ St w0 ros (row 3 I1 R.v out.1 :: rs) w) := by
 refine enterQ Tryz.func55 rfl Tryz.ntmps55 rfl fun Q S => sR fun _ a8 => Ya hnil.v rfl (Ya (.bool false) rfl (wK a8 (sR fun _ a9 => Ya hnil.v rfl (wK a9 (sQ fun _ b0 => sQ fun _ b1 => ?_)))))
 refine wR (Ya (iV 0) rfl (wK b1 (blockQ fun b2 b3 => bE d fun b4 b5 d => ?_)))
 have b6 : ∀ (B : L2) (r : Hdr) (f : FV) w, f 0 = h.v → f 2 = iV m → f 8 = r.v → St w0 ros (row 22 S1 r.v B :: rs) w → B = b4 → b2 (.exit 0) (fr 67 f) w := by
  intro B r f w T U b7 b ho
  subst ho
  refine b3 _ _ _ (b0 _ _ (seqQ fun g4 b8 b9 => sR fun _ c0 => Ym h.v (eh T) (Ym (iV m) (eh U) (bE d fun g5 c1 d => yC (yCall FN_54 (a2 e0 e0)) (sparseref07_Det_ok c1 o b) ?_))))
  rintro _ w ⟨rfl, b⟩
  refine ⟨_, rfl, ?_⟩
  refine yY (yeql e0 rfl) (wK c0 ?_)
  refine cIf e0 d (fun c2 d => ?_) fun c2 d => ?_
  ·refine sR fun _ c3 => Ya hnil.v rfl (Ya (.bool false) rfl (wK c3 (wp_ret (b9 _ _ _ rfl ?_))))
   cases d
   replace b := b.rowNh 3 I1
   exact S _ _ _ (fin2r Tryz.results55 ⟨rfl, rfl⟩ ⟨rfl, rfl⟩ ⟨_, rfl, (b.k1g)⟩)
  ·refine wp_skip (b8 _ _ (sR fun _ c4 => Ym r.v (eh b7) (Ym (iV m) (eh U) (bE d fun t c5 d => ?_))))
   replace b := b.fz
   refine yC (yCall FN_96 (a2 e0 e0)) (sparseref07_Echelon_ok c5 F0 b) ?_
   rintro _ w ⟨j, V, C, rfl, b⟩
   refine ⟨_, rfl, ?_⟩
   refine Ym (.tuple #[j.v, C.v, iV t.2.2]) e0 (yY (x_ j.v e0) (yY (x_ C.v e0) (yY (x_ (iV t.2.2) e0) (Ya j.v e0 (Ya C.v e0 (Ya (iV t.2.2) e0 (wK c4 (sR fun _ c6 => Ya hnil.v rfl (wK c6 ?_)))))))))
   refine sQ fun _ c7 => sR fun _ c8 => Ya (iV 0) rfl (wK c8 (blockQ fun c9 d0 => bE d fun d1 d2 d => ?_))
   have d3 : ∀ (D : LI) (p : Hdr) (f : FV) w, f 14 = p.v → St w0 ros (row 3 I1 p.v D :: rs) w → D = d1 → c9 (.exit 2) (fr 67 f) w := by
    intro D p f w d4 b ho
    subst ho
    refine d0 _ _ _ (c7 _ _ (sR fun _ d5 => Ym p.v (eh d4) (Ya p.v e0 (Ya (.bool true) rfl (wK d5 (wp_ret ?_))))))
    cases d
    exact S _ _ _ (fin2r Tryz.results55 ⟨rfl, rfl⟩ ⟨rfl, rfl⟩ ⟨_, rfl, b⟩)
   replace b := b.rowNh 3 I1
   refine loopQ (fun s a w => ∃ (E : LI) (k : Int) (f : FV) (u : Hdr), (E, k) = s ∧ a = fr 67 f ∧ f 0 = h.v ∧ f 11 = j.v ∧ f 14 = u.v ∧ f 15 = iV k ∧ St w0 ros (row 22 rH j.v V :: fam 3 I1 V t.1 :: row 3 I1 u.v E :: rs) w) d2 ⟨_, _, _, _, rfl, rfl, T, rfl, rfl, rfl, ((b.k1v).facts (allT allI))⟩ ?_
   rintro _ _ w g6 ⟨E, k, f, u, rfl, rfl, W, F, X, G, b⟩ g d6 g7 d7 d8
   refine seqQ fun g8 d9 e1 => sR fun _ e2 => Ym (iV k) (eh G) (Ym j.v (eh F) (yY (yLenF SLH_52 e0 b rO0 R1) (yY (ylss e0 e0) (wK e2 ?_))))
   refine cIf e0 g (fun e3 g => ?_) fun e3 g => ?_
   ·refine wp_skip (d9 _ _ (sQ fun _ e4 => blockQ fun _ e5 => wR (Ym u.v (eh X) (Ym j.v (eh F) (Ym (iV k) (eh G) (bE g fun g9 H g => ?_))))))
    obtain ⟨h0, x⟩ := b.famI R1 H
    refine yY (yIa SLH_52 e0 e0 b rO0 x) (yY (yF1 O_22 e0 b rO0 x rfl) (Ym h.v (eh W) (yY (yLen SL_52 e0 b (rdI o)) (bE g fun I Z g => yY (yIa SL_22 e0 e0 b (rdF R1 x H) Z) (yY (yI O_3 e0 b (rdF R1 x H) Z) (yH (rLt (n := 1) (l := [I]) b SL_22 [iV I] (bp1 e0) rfl rfl (mks1 (cs := [iV I]) rfl mkI mks0)) fun h1 w b => bE g fun h3 e6 g => yH (rAp (b.k15) SL_22 e0 e0 rO1 e6) fun e7 w b => Ya e7.v e0 (wN ?_)))))))
    refine e5 _ _ _ (e4 _ _ (wR (Ym (iV k) (eh G) (yY (yadd e0 rfl) (Ya (iV (wa .i64 k 1)) e0 (wN ?_))))))
    cases g
    exact d7 _ _ _ rfl ⟨_, _, _, _, rfl, rfl, W, F, rfl, rfl, (b.k16)⟩
   ·refine wp_exit (e1 _ _ _ rfl ?_)
    cases g
    exact d8 _ _ _ _ rfl rfl (d3 _ _ _ _ X (b.k1w) (d6 _ rfl))
 replace b := b.rowNh 22 S1
 refine loopQ (fun s a w => ∃ (J : L2) (i : Int) (f : FV) (y : Hdr), (J, i) = s ∧ a = fr 67 f ∧ f 0 = h.v ∧ f 1 = q.v ∧ f 2 = iV m ∧ f 8 = y.v ∧ f 9 = iV i ∧ St w0 ros (row 22 S1 y.v J :: rs) w) b5 ⟨_, _, _, _, rfl, rfl, rfl, rfl, rfl, rfl, rfl, b⟩ ?_
 rintro _ _ w h5 ⟨J, i, f, y, rfl, rfl, z, a0, a1, a3, A, b⟩ c e8 h6 e9 f0
 refine seqQ fun h7 f1 f2 => sR fun _ f3 => Ym (iV i) (eh A) (Ym h.v (eh z) (yY (yLen SL_52 e0 b (rdI o)) (yY (ylss e0 e0) (wK f3 ?_))))
 refine cIf e0 c (fun f4 c => ?_) fun f4 c => ?_
 ·refine wp_skip (f1 _ _ (sQ fun _ f5 => blockQ fun _ f6 => sR fun _ f7 => Ya hnil.v rfl (wK f7 (sR fun _ f8 => Ym hnil.v e0 (Ym h.v (eh z) (Ym (iV i) (eh A) ?_))))))
  refine bE c fun h8 a4 c => yY (yIa SL_52 e0 e0 b (rdI o) a4) ?_
  obtain ⟨h9, b⟩ := iLs b o a4
  refine yY (yCt O_22 e0 b F1 rfl) (bE c fun i0 f9 c => yH (rAp (b.rowNh 3 I1) SL_22 e0 e0 (rdI F0) f9) fun a5 w b => Ya a5.v e0 (wK f8 (wR (Ym y.v (eh a3) (Ym a5.v e0 (Ym q.v (eh a0) (Ym (iV i) (eh A) (bE c fun K a6 c => yY (yIa SL_22 e0 e0 b (rdI (F_2 O)) a6) ?_))))))))
  refine yY (yI O_3 e0 b (rdI (F_2 O)) a6) (yH (rLt (n := 1) (l := [K]) b SL_22 [iV K] (bp1 e0) rfl rfl (mks1 (cs := [iV K]) rfl mkI mks0)) fun i1 w b => bE c fun g0 g1 c => yH (rAp (b.k11) SL_22 e0 e0 rO1 g1) fun a7 w b => yH (rLt (n := 1) (l := [g0]) b.fz SL_52 [a7.v] (bp1 e0) rfl rfl (mks1 (cs := [a7.v]) rfl (mkS F0) mks0)) fun i2 w b => bE c fun i3 g2 c => yH (rAp (b.k1a) SL_52 e0 e0 rO1 g2) fun g3 w b => Ya g3.v e0 (wN (f6 _ _ _ ?_)))
  refine f5 _ _ (wR (Ym (iV i) (eh A) (yY (yadd e0 rfl) (Ya (iV (wa .i64 i 1)) e0 (wN ?_)))))
  cases c
  exact e9 _ _ _ rfl ⟨_, _, _, _, rfl, rfl, z, a0, a1, rfl, rfl, ((b.k1j).facts (allT (allT (allT allI))))⟩
 ·refine wp_exit (f2 _ _ _ rfl ?_)
  cases c
  exact f0 _ _ _ _ rfl rfl (b6 _ _ _ _ z a1 a3 b (e8 _ rfl))
theorem sparselaw07_ModularLinear_ok {b9 : L2} {b0 : LI} {m : Int} {k o : Hdr} {out : Bool} (c : sparselaw07_ModularLinear b9 b0 m = some out) (C2 : out = true) (q : imm S1 k.v b9 ∈ ros) (b1 : imm I1 o.v b0 ∈ ros) (a : St w0 ros rs w) :
  Calls Tryz.prog 10 #[k.v, o.v, iV m] w (fun e w => e = .returned (.bool out) ∧ St w0 ros rs w) := by
 refine enterQ Tryz.func10 rfl Tryz.ntmps10 rfl fun Q G => sR fun _ o8 => Ya (.bool false) rfl (wK o8 (seqQ fun C3 o9 p0 => sR fun _ p1 => Ym k.v e0 (bE c fun c0 p2 c => yC (yCall FN_47 (a1 e0)) (sparselaw07_small_ok p2 q a) ?_)))
 rintro _ w ⟨rfl, a⟩
 refine ⟨_, rfl, ?_⟩
 refine yY (ynot e0) (Ym (.bool (!c0)) e0 ?_)
 refine joinW 4 (fun f w => f 0 = k.v ∧ f 1 = o.v ∧ f 2 = iV m ∧ f 27 = .bool ((!c0) || (decide ((6 : Int) < (b0.length : Int)))) ∧ St w0 ros rs w) (fun f3 => ?_) ?_
 ·rcases Bool.eq_false_or_eq_true (!c0) with t | t
  ·exact gN t (gN t (gN t (yY (pt_ (.bool true) e0 t rfl) (f3 _ _ ⟨rfl, rfl, rfl, (congrArg Value.bool (orT t)), a⟩))))
  ·exact yG t (m_ o.v e0) (yG t (yLen SL_22 e0 a (rdI b1)) (yG t (ygtr e0 rfl) (yY (pf_ (.bool (decide ((6 : Int) < (b0.length : Int)))) e0 t e0) (f3 _ _ ⟨rfl, rfl, rfl, (congrArg Value.bool (orF t)), a⟩))))
 rintro f w ⟨f4, f5, d2, p3, a⟩
 refine Ym (.bool ((!c0) || (decide ((6 : Int) < (b0.length : Int))))) (eh p3) (bE c fun p4 S c => ?_)
 refine joinW 4 (fun f w => f 0 = k.v ∧ f 1 = o.v ∧ f 2 = iV m ∧ f 32 = .bool p4 ∧ St w0 ros rs w) (fun f6 => ?_) ?_
 ·rcases iteS S with ⟨H, S⟩ | ⟨H, S⟩
  ·refine gN H (gN H (gN H (yY (pt_ (.bool true) e0 H rfl) ?_)))
   cases S
   exact f6 _ _ ⟨f4, f5, d2, rfl, a⟩
  ·refine yG (bfalse H) (m_ (iV m) (eh d2)) (bE S fun p5 p6 S => Yc (wG (bfalse H)) rfl (yCall FN_12 (a1 e0)) (sparselaw07_modulus_ok p6 a) ?_)
   rintro _ w ⟨rfl, a⟩
   refine ⟨_, rfl, ?_⟩
   refine yG (bfalse H) (ynot e0) (yY (pf_ (.bool (!p5)) e0 (bfalse H) e0) ?_)
   cases S
   exact f6 _ _ ⟨f4, f5, d2, rfl, a⟩
 rintro f w ⟨c1, c2, a8, p7, a⟩
 refine wK p1 (cB (eh p7) c (fun p8 c => ?_) fun p8 c => ?_)
 ·refine sR fun _ p9 => bE c fun q0 q3 c => yC (yCall FN_11 a0) (sparselaw07_awake_ok q3 a) ?_
  rintro _ w ⟨rfl, a⟩
  refine ⟨_, rfl, ?_⟩
  refine Ya (.bool q0) e0 (wK p9 (wp_ret (p0 _ _ _ rfl ?_)))
  cases c
  exact G _ _ _ (fin1r Tryz.results10 ⟨rfl, rfl⟩ ⟨rfl, a⟩)
 ·refine wp_skip (o9 _ _ (sR fun _ q4 => Ym k.v (eh c1) (bE c fun C4 q5 c => yC (yCall FN_48 (a1 e0)) (sparsekit_TwinLists_ok q5 q a) ?_)))
  rintro _ w ⟨a9, rfl, a⟩
  refine ⟨_, rfl, ?_⟩
  refine Ym o.v (eh c2) (bE c fun C5 q6 c => yC (yCall FN_49 (a1 e0)) (sparsekit_TwinInts_ok q6 b1 a) ?_)
  rintro _ w ⟨d3, rfl, a⟩
  refine ⟨_, rfl, ?_⟩
  refine Ya a9.v e0 (Ya d3.v e0 (wK q4 (sR fun _ q7 => Ym a9.v e0 (Ym (iV m) (eh a8) (bE c fun h q8 c => ?_)))))
  have b2 := a
  replace a := (a.k11).fz
  have u := a.guest0
  replace a := b2
  clear b2
  refine yC (yCall FN_38 (a2 e0 e0)) (modular_Rank_ok q8 F0 u) ?_
  clear u
  rintro _ w ⟨rfl, u⟩
  replace a := a.back u
  clear u
  refine ⟨_, rfl, ?_⟩
  refine Ym (.tuple #[iV h.1, iV h.2]) e0 (yY (x_ (iV h.1) e0) (yY (x_ (iV h.2) e0) (Ya (iV h.1) e0 (Ya (iV h.2) e0 (wK q7 (sR fun _ q9 => Ym a9.v e0 (Ym (iV m) (eh a8) (bE c fun d r0 c => ?_))))))))
  have b2 := a
  replace a := (a.k11).fz
  have u := a.guest0
  replace a := b2
  clear b2
  refine yC (yCall FN_36 (a2 e0 e0)) (modular_Det_ok r0 F0 u) ?_
  clear u
  rintro _ w ⟨rfl, u⟩
  replace a := a.back u
  clear u
  refine ⟨_, rfl, ?_⟩
  refine Ym (.tuple #[iV d.1, iV d.2]) e0 (yY (x_ (iV d.1) e0) (yY (x_ (iV d.2) e0) (Ya (iV d.1) e0 (Ya (iV d.2) e0 (wK q9 (sR fun _ r1 => Ym a9.v e0 (Ym (iV m) (eh a8) (bE c fun i r2 c => ?_))))))))
  replace a := (a.k11).fz
  refine yC (yCall FN_44 (a2 e0 e0)) (modular_Kernel_ok r2 F0 a) ?_
  rintro _ w ⟨l, rfl, a⟩
  refine ⟨_, rfl, ?_⟩
  refine Ym (.tuple #[l.v, iV i.2]) e0 (yY (x_ l.v e0) (yY (x_ (iV i.2) e0) (Ya l.v e0 (Ya (iV i.2) e0 (wK r1 (sR fun _ r3 => Ym a9.v e0 (Ym d3.v e0 (Ym (iV m) (eh a8) (bE c fun g r4 c => ?_)))))))))
  replace a := (a.k11).fz
  refine yC (yCall FN_46 (a3 e0 e0 e0)) (modular_Solve_ok r4 F1 F0 a) ?_
  rintro _ w ⟨j, rfl, a⟩
  refine ⟨_, rfl, ?_⟩
  refine Ym (.tuple #[j.v, iV g.2]) e0 (yY (x_ j.v e0) (yY (x_ (iV g.2) e0) (Ya j.v e0 (Ya (iV g.2) e0 (wK r3 (seqQ fun C6 r5 r7 => sR fun _ r8 => Ym a9.v e0 (Ym k.v (eh c1) (bE c fun r9 s0 c => yC (yCall FN_50 (a2 e0 e0)) (sparsekit_Lists_ok s0 F1 (F_2 q) a) ?_))))))))
  rintro _ w ⟨rfl, a⟩
  refine ⟨_, rfl, ?_⟩
  refine yY (ynot e0) (Ym (.bool (!r9)) e0 (bE c fun s1 T c => ?_))
  refine joinW 5 (fun f w => f 0 = k.v ∧ f 1 = o.v ∧ f 2 = iV m ∧ f 9 = iV h.1 ∧ f 10 = iV h.2 ∧ f 11 = iV d.1 ∧ f 12 = iV d.2 ∧ f 13 = l.v ∧ f 14 = iV i.2 ∧ f 15 = j.v ∧ f 16 = iV g.2 ∧ f 72 = .bool s1 ∧ St w0 ros (row 3 I1 l.v i.1 :: row 3 I1 j.v g.1 :: rs) w) (fun f7 => ?_) ?_
  ·rcases iteS T with ⟨x, T⟩ | ⟨x, T⟩
   ·refine yG (nF x) (m_ d3.v e0) (yG (nF x) (m_ o.v (eh c2)) (bE T fun s2 s3 T => Yc (wG (nF x)) rfl (yCall FN_25 (a2 e0 e0)) (sparsekit_Ints_ok s3 F0 (F_2 b1) a) ?_))
    rintro _ w ⟨rfl, a⟩
    refine ⟨_, rfl, ?_⟩
    refine yG (nF x) (ynot e0) (yY (pf_ (.bool (!s2)) e0 (nF x) e0) ?_)
    cases T
    exact f7 _ _ ⟨c1, c2, a8, rfl, rfl, rfl, rfl, rfl, rfl, rfl, rfl, rfl, ((a.k11).facts (allT (allT allI)))⟩
   ·refine gN (nT (bfalse x)) (gN (nT (bfalse x)) (gN (nT (bfalse x)) (gN (nT (bfalse x)) (yY (pt_ (.bool true) e0 (nT (bfalse x)) rfl) ?_))))
    cases T
    exact f7 _ _ ⟨c1, c2, a8, rfl, rfl, rfl, rfl, rfl, rfl, rfl, rfl, rfl, ((a.k11).facts (allT (allT allI)))⟩
  rintro f w ⟨d4, f8, d5, c3, f9, c4, d6, c5, d7, c6, c7, s4, a⟩
  refine wK r8 (cB (eh s4) c (fun s5 c => ?_) fun s5 c => ?_)
  ·refine sR fun _ s6 => Ya (.bool false) rfl (wK s6 (wp_ret (r7 _ _ _ rfl ?_)))
   cases c
   exact G _ _ _ (fin1r Tryz.results10 ⟨rfl, rfl⟩ ⟨rfl, (a.k1l)⟩)
  ·refine wp_skip (r5 _ _ (seqQ fun C7 s7 s8 => sR fun _ s9 => Ym k.v (eh d4) (Ym (iV m) (eh d5) (bE c fun b t0 c => yC (yCall FN_51 (a2 e0 e0)) (sparseref07_Check_ok t0 q a) ?_))))
   rintro _ w ⟨rfl, a⟩
   refine ⟨_, rfl, ?_⟩
   refine Ya (iV b) e0 (wK s9 (sR fun _ t1 => Ym (iV b) e0 (yY (yneq e0 rfl) (wK t1 ?_))))
   rcases iteS c with ⟨d8, c⟩ | ⟨d8, c⟩
   ·refine condF e0 (nF (dT d8)) (wp_skip (s7 _ _ (seqQ fun C8 t2 t3 => sR fun _ t4 => Ym (iV h.2) (eh f9) (yY (yneq e0 rfl) (Ym (.bool (!(decide (h.2 = 0)))) e0 ?_)))))
    refine joinW 3 (fun f w => f 0 = k.v ∧ f 1 = o.v ∧ f 2 = iV m ∧ f 9 = iV h.1 ∧ f 11 = iV d.1 ∧ f 12 = iV d.2 ∧ f 13 = l.v ∧ f 15 = j.v ∧ f 16 = iV g.2 ∧ f 122 = .bool ((!(decide (h.2 = 0))) || (!(decide (i.2 = 0)))) ∧ St w0 ros (row 3 I1 l.v i.1 :: row 3 I1 j.v g.1 :: rs) w) (fun g0 => ?_) ?_
    ·rcases Bool.eq_false_or_eq_true (!(decide (h.2 = 0))) with I | I
     ·exact gN I (gN I (yY (pt_ (.bool true) e0 I rfl) (g0 _ _ ⟨d4, f8, d5, c3, c4, d6, c5, c6, c7, (congrArg Value.bool (orT I)), a⟩)))
     ·exact yG I (m_ (iV i.2) (eh d7)) (yG I (yneq e0 rfl) (yY (pf_ (.bool (!(decide (i.2 = 0)))) e0 I e0) (g0 _ _ ⟨d4, f8, d5, c3, c4, d6, c5, c6, c7, (congrArg Value.bool (orF I)), a⟩)))
    rintro f w ⟨d9, g1, e1, t5, g2, g3, g4, g5, g6, t6, a⟩
    refine Ym (.bool ((!(decide (h.2 = 0))) || (!(decide (i.2 = 0))))) (eh t6) (bE c fun g7 U c => ?_)
    refine joinW 6 (fun f w => f 0 = k.v ∧ f 1 = o.v ∧ f 2 = iV m ∧ f 11 = iV d.1 ∧ f 12 = iV d.2 ∧ f 13 = l.v ∧ f 15 = j.v ∧ f 16 = iV g.2 ∧ f 129 = .bool g7 ∧ St w0 ros (row 3 I1 l.v i.1 :: row 3 I1 j.v g.1 :: rs) w) (fun g8 => ?_) ?_
    ·rcases iteS U with ⟨r, U⟩ | ⟨r, U⟩
     ·refine gN r (gN r (gN r (gN r (gN r (yY (pt_ (.bool true) e0 r rfl) ?_)))))
      cases U
      exact g8 _ _ ⟨d9, g1, e1, g2, g3, g4, g5, g6, rfl, a⟩
     ·refine yG (bfalse r) (m_ (iV h.1) (eh t5)) (yG (bfalse r) (m_ k.v (eh d9)) (yG (bfalse r) (m_ (iV m) (eh e1)) (bE U fun t7 t8 U => Yc (wG (bfalse r)) rfl (yCall FN_52 (a2 e0 e0)) (sparseref07_Rank_ok t8 q a) ?_)))
      rintro _ w ⟨rfl, a⟩
      refine ⟨_, rfl, ?_⟩
      refine yG (bfalse r) (yneq e0 e0) (yY (pf_ (.bool (!(decide (h.1 = t7)))) e0 (bfalse r) e0) ?_)
      cases U
      exact g8 _ _ ⟨d9, g1, e1, g2, g3, g4, g5, g6, rfl, a⟩
    rintro f w ⟨e2, g9, e3, h0, h1, t9, h3, h5, u0, a⟩
    refine Ym (.bool g7) (eh u0) (bE c fun u1 J c => ?_)
    refine joinW 7 (fun f w => f 0 = k.v ∧ f 1 = o.v ∧ f 2 = iV m ∧ f 11 = iV d.1 ∧ f 12 = iV d.2 ∧ f 15 = j.v ∧ f 16 = iV g.2 ∧ f 137 = .bool u1 ∧ St w0 ros (row 3 I1 j.v g.1 :: rs) w) (fun h6 => ?_) ?_
    ·rcases iteS J with ⟨p, J⟩ | ⟨p, J⟩
     ·refine gN p (gN p (gN p (gN p (gN p (gN p (yY (pt_ (.bool true) e0 p rfl) ?_))))))
      cases J
      exact h6 _ _ ⟨e2, g9, e3, h0, h1, h3, h5, rfl, (a.k1n)⟩
     ·refine yG (bfalse p) (m_ l.v (eh t9)) (yG (bfalse p) (m_ k.v (eh e2)) (yG (bfalse p) (m_ (iV m) (eh e3)) (bE J fun C9 u2 J => Yc (wG (bfalse p)) rfl (yCall FN_53 (a2 e0 e0)) (sparseref07_Kernel_ok u2 q a) ?_)))
      rintro _ w ⟨D0, rfl, a⟩
      refine ⟨_, rfl, ?_⟩
      refine bE J fun u3 u4 J => ?_
      replace a := ((a.k11).fz).fz
      refine Yc (wG (bfalse p)) rfl (yCall FN_25 (a2 e0 e0)) (sparsekit_Ints_ok u4 F1 F0 a) ?_
      rintro _ w ⟨rfl, a⟩
      refine ⟨_, rfl, ?_⟩
      refine yG (bfalse p) (ynot e0) (yY (pf_ (.bool (!u3)) e0 (bfalse p) e0) ?_)
      cases J
      exact h6 _ _ ⟨e2, g9, e3, h0, h1, h3, h5, rfl, (a.facts (allT (allT allI)))⟩
    rintro f w ⟨b3, h7, h8, h9, i0, i1, i2, u5, a⟩
    refine wK t4 (cB (eh u5) c (fun u6 c => ?_) fun u6 c => ?_)
    ·refine sR fun _ u7 => Ya (.bool false) rfl (wK u7 (wp_ret (t3 _ _ _ rfl ?_)))
     cases c
     exact G _ _ _ (fin1r Tryz.results10 ⟨rfl, rfl⟩ ⟨rfl, (a.k10)⟩)
    ·refine wp_skip (t2 _ _ (seqQ fun D1 u8 u9 => sR fun _ v0 => Ym k.v (eh b3) (yY (yLen SL_52 e0 a (rdI q)) (yY (ygtr e0 rfl) (Ym (.bool (decide ((0 : Int) < (b9.length : Int)))) e0 (bE c fun v1 V c => ?_))))))
     refine joinW 8 (fun f w => f 0 = k.v ∧ f 1 = o.v ∧ f 2 = iV m ∧ f 11 = iV d.1 ∧ f 12 = iV d.2 ∧ f 15 = j.v ∧ f 16 = iV g.2 ∧ f 149 = .bool v1 ∧ St w0 ros (row 3 I1 j.v g.1 :: rs) w) (fun i3 => ?_) ?_
     ·rcases iteS V with ⟨n, V⟩ | ⟨n, V⟩
      ·refine yG (dT n) (m_ k.v (eh b3)) (bE V fun v2 i4 V => yG (dT n) (yIa SL_52 e0 rfl a (rdI q) i4) ?_)
       obtain ⟨D2, a⟩ := iLs a q i4
       refine yG (dT n) (yCt O_22 e0 a F1 rfl) (yG (dT n) (yLen SL_22 e0 a (rdI F0)) (yG (dT n) (m_ k.v (eh b3)) (yG (dT n) (yLen SL_52 e0 a (rdI (F_2 q))) (yG (dT n) (yneq e0 e0) (yY (pt_ (.bool (!(decide ((v2.length : Int) = (b9.length : Int))))) e0 (dT n) e0) ?_)))))
       cases V
       exact i3 _ _ ⟨b3, h7, h8, h9, i0, i1, i2, rfl, (a.facts (allT (allT allI)))⟩
      ·refine gN (dF n) (gN (dF n) (gN (dF n) (gN (dF n) (gN (dF n) (gN (dF n) (gN (dF n) (yY (pf_ (.bool false) e0 (dF n) rfl) ?_)))))))
       cases V
       exact i3 _ _ ⟨b3, h7, h8, h9, i0, i1, i2, rfl, a⟩
     rintro f w ⟨e4, i5, e5, e6, i6, c9, e7, v3, a⟩
     refine wK v0 (cB (eh v3) c (fun v4 c => ?_) fun v4 c => ?_)
     ·refine sR fun _ v5 => Ym (iV d.2) (eh i6) (yY (yeql e0 rfl) (Ym (.bool (decide (d.2 = 5))) e0 ?_))
      refine joinW 3 (fun f w => f 11 = iV d.1 ∧ f 15 = j.v ∧ f 155 = .bool ((decide (d.2 = 5)) && (decide (g.2 = 5))) ∧ St w0 ros (row 3 I1 j.v g.1 :: rs) w) (fun i7 => ?_) ?_
      ·rcases Bool.eq_false_or_eq_true (decide (d.2 = 5)) with K | K
       ·exact yG K (m_ (iV g.2) (eh e7)) (yG K (yeql e0 rfl) (yY (pt_ (.bool (decide (g.2 = 5))) e0 K e0) (i7 _ _ ⟨e6, c9, (congrArg Value.bool (andT K)), a⟩)))
       ·exact gN K (gN K (yY (pf_ (.bool false) e0 K rfl) (i7 _ _ ⟨e6, c9, (congrArg Value.bool (andF K)), a⟩)))
      rintro f w ⟨v6, i8, v7, a⟩
      refine Ym (.bool ((decide (d.2 = 5)) && (decide (g.2 = 5)))) (eh v7) ?_
      refine joinW 3 (fun f w => f 15 = j.v ∧ f 159 = .bool (((decide (d.2 = 5)) && (decide (g.2 = 5))) && (decide (d.1 = 0))) ∧ St w0 ros (row 3 I1 j.v g.1 :: rs) w) (fun i9 => ?_) ?_
      ·rcases Bool.eq_false_or_eq_true ((decide (d.2 = 5)) && (decide (g.2 = 5))) with L | L
       ·exact yG L (m_ (iV d.1) (eh v6)) (yG L (yeql e0 rfl) (yY (pt_ (.bool (decide (d.1 = 0))) e0 L e0) (i9 _ _ ⟨i8, (congrArg Value.bool (andT L)), a⟩)))
       ·exact gN L (gN L (yY (pf_ (.bool false) e0 L rfl) (i9 _ _ ⟨i8, (congrArg Value.bool (andF L)), a⟩)))
      rintro f w ⟨v8, v9, a⟩
      refine Ym (.bool (((decide (d.2 = 5)) && (decide (g.2 = 5))) && (decide (d.1 = 0)))) (eh v9) ?_
      refine joinW 4 (fun f w => f 164 = .bool ((((decide (d.2 = 5)) && (decide (g.2 = 5))) && (decide (d.1 = 0))) && (decide ((g.1.length : Int) = 0))) ∧ St w0 ros rs w) (fun j0 => ?_) ?_
      ·rcases Bool.eq_false_or_eq_true (((decide (d.2 = 5)) && (decide (g.2 = 5))) && (decide (d.1 = 0))) with y | y
       ·exact yG y (m_ j.v (eh v8)) (yG y (yLen SL_22 e0 a rO0) (yG y (yeql e0 rfl) (yY (pt_ (.bool (decide ((g.1.length : Int) = 0))) e0 y e0) (j0 _ _ ⟨(congrArg Value.bool (andT y)), (a.k10)⟩))))
       ·exact gN y (gN y (gN y (yY (pf_ (.bool false) e0 y rfl) (j0 _ _ ⟨(congrArg Value.bool (andF y)), (a.k10)⟩))))
      rintro f w ⟨w1, a⟩
      refine Ym (.bool ((((decide (d.2 = 5)) && (decide (g.2 = 5))) && (decide (d.1 = 0))) && (decide ((g.1.length : Int) = 0)))) (eh w1) (bE c fun k0 W c => ?_)
      refine joinW 2 (fun f w => f 167 = .bool k0 ∧ St w0 ros rs w) (fun l0 => ?_) ?_
      ·rcases iteS W with ⟨b4, W⟩ | ⟨b4, W⟩
       ·refine bE W fun w2 w3 W => Yc (wG b4) rfl (yCall FN_11 a0) (sparselaw07_awake_ok w3 a) ?_
        rintro _ w ⟨rfl, a⟩
        refine ⟨_, rfl, ?_⟩
        refine yY (pt_ (.bool w2) e0 b4 e0) ?_
        cases W
        exact l0 _ _ ⟨rfl, a⟩
       ·refine gN (bfalse b4) (yY (pf_ (.bool false) e0 (bfalse b4) rfl) ?_)
        cases W
        exact l0 _ _ ⟨rfl, a⟩
      rintro f w ⟨w4, a⟩
      refine Ya (.bool k0) (eh w4) (wK v5 (wp_ret (u9 _ _ _ rfl ?_)))
      cases c
      exact G _ _ _ (fin1r Tryz.results10 ⟨rfl, rfl⟩ ⟨rfl, a⟩)
     ·refine wp_skip (u8 _ _ (seqQ fun D3 w5 w6 => sR fun _ w7 => Ym (iV d.2) (eh i6) (yY (yneq e0 rfl) (Ym (.bool (!(decide (d.2 = 0)))) e0 (bE c fun w8 X c => ?_)))))
      refine joinW 6 (fun f w => f 0 = k.v ∧ f 1 = o.v ∧ f 2 = iV m ∧ f 15 = j.v ∧ f 16 = iV g.2 ∧ f 176 = .bool w8 ∧ St w0 ros (row 3 I1 j.v g.1 :: rs) w) (fun l1 => ?_) ?_
      ·rcases iteS X with ⟨s, X⟩ | ⟨s, X⟩
       ·refine yG (nF (dT s)) (m_ (iV d.1) (eh e6)) (yG (nF (dT s)) (m_ k.v (eh e4)) (yG (nF (dT s)) (m_ (iV m) (eh e5)) (bE X fun w9 x0 X => Yc (wG (nF (dT s))) rfl (yCall FN_54 (a2 e0 e0)) (sparseref07_Det_ok x0 q a) ?_)))
        rintro _ w ⟨rfl, a⟩
        refine ⟨_, rfl, ?_⟩
        refine yG (nF (dT s)) (yneq e0 e0) (yY (pf_ (.bool (!(decide (d.1 = w9)))) e0 (nF (dT s)) e0) ?_)
        cases X
        exact l1 _ _ ⟨e4, i5, e5, c9, e7, rfl, a⟩
       ·refine gN (nT (dF s)) (gN (nT (dF s)) (gN (nT (dF s)) (gN (nT (dF s)) (gN (nT (dF s)) (yY (pt_ (.bool true) e0 (nT (dF s)) rfl) ?_)))))
        cases X
        exact l1 _ _ ⟨e4, i5, e5, c9, e7, rfl, a⟩
      rintro f w ⟨l2, l3, x2, e8, e9, x4, a⟩
      refine wK w7 (cB (eh x4) c (fun x6 c => ?_) fun x6 c => ?_)
      ·refine sR fun _ x7 => Ya (.bool false) rfl (wK x7 (wp_ret (w6 _ _ _ rfl ?_)))
       cases c
       exact G _ _ _ (fin1r Tryz.results10 ⟨rfl, rfl⟩ ⟨rfl, (a.k10)⟩)
      ·refine wp_skip (w5 _ _ (seqQ fun D4 x8 x9 => sR fun _ y0 => Ym o.v (eh l3) (yY (yLen SL_22 e0 a (rdI b1)) (Ym k.v (eh l2) (yY (yLen SL_52 e0 a (rdI q)) (yY (yneq e0 e0) (wK y0 ?_)))))))
       rcases iteS c with ⟨f0, c⟩ | ⟨f0, c⟩
       ·refine condF e0 (nF (dT f0)) (wp_skip (x8 _ _ (sR fun _ y1 => Ym k.v (eh l2) (Ym o.v (eh l3) (Ym (iV m) (eh x2) (bE c fun d0 y2 c => yC (yCall FN_55 (a3 e0 e0 e0)) (sparseref07_Solve_ok y2 q b1 a) ?_))))))
        rintro _ w ⟨d1, rfl, a⟩
        refine ⟨_, rfl, ?_⟩
        refine Ym (.tuple #[d1.v, .bool d0.2]) e0 (yY (x_ d1.v e0) (yY (x_ (.bool d0.2) e0) (Ya d1.v e0 (Ya (.bool d0.2) e0 (wK y1 (seqQ fun D5 y3 y4 => sR fun _ y5 => Ym (.bool d0.2) e0 (yY (ynot e0) (wK y5 ?_))))))))
        rcases iteS c with ⟨f1, c⟩ | ⟨f1, c⟩
        ·refine condF e0 (nF f1) (wp_skip (y3 _ _ (sR fun _ y6 => Ym (iV g.2) (eh e9) (yY (yeql e0 rfl) (Ym (.bool (decide (g.2 = 0))) e0 (bE c fun l4 Z c => ?_))))))
         refine joinW 4 (fun f w => f 217 = .bool l4 ∧ St w0 ros rs w) (fun l5 => ?_) ?_
         ·rcases iteS Z with ⟨N, Z⟩ | ⟨N, Z⟩
          ·refine yG (dT N) (m_ j.v (eh e8)) (yG (dT N) (m_ d1.v e0) (bE Z fun y7 y8 Z => ?_))
           replace a := ((a.k11).fz).fz
           refine Yc (wG (dT N)) rfl (yCall FN_25 (a2 e0 e0)) (sparsekit_Ints_ok y8 F1 F0 a) ?_
           rintro _ w ⟨rfl, a⟩
           refine ⟨_, rfl, ?_⟩
           refine yY (pt_ (.bool y7) e0 (dT N) e0) ?_
           cases Z
           exact l5 _ _ ⟨rfl, (a.facts (allT (allT allI)))⟩
          ·refine gN (dF N) (gN (dF N) (gN (dF N) (yY (pf_ (.bool false) e0 (dF N) rfl) ?_)))
           cases Z
           exact l5 _ _ ⟨rfl, (a.k1l)⟩
         rintro f w ⟨y9, a⟩
         refine Ym (.bool l4) (eh y9) (bE c fun l6 a4 c => ?_)
         refine joinW 2 (fun f w => f 220 = .bool l6 ∧ St w0 ros rs w) (fun l7 => ?_) ?_
         ·rcases iteS a4 with ⟨b5, a4⟩ | ⟨b5, a4⟩
          ·refine bE a4 fun z0 z1 a4 => Yc (wG b5) rfl (yCall FN_11 a0) (sparselaw07_awake_ok z1 a) ?_
           rintro _ w ⟨rfl, a⟩
           refine ⟨_, rfl, ?_⟩
           refine yY (pt_ (.bool z0) e0 b5 e0) ?_
           cases a4
           exact l7 _ _ ⟨rfl, a⟩
          ·refine gN (bfalse b5) (yY (pf_ (.bool false) e0 (bfalse b5) rfl) ?_)
           cases a4
           exact l7 _ _ ⟨rfl, a⟩
         rintro f w ⟨z3, a⟩
         refine Ya (.bool l6) (eh z3) (wK y6 (wp_ret ?_))
         cases c
         exact G _ _ _ (fin1r Tryz.results10 ⟨rfl, rfl⟩ ⟨rfl, a⟩)
        ·refine condT e0 (nT (bfalse f1)) (sR fun _ z4 => Ym (iV g.2) (eh e9) (yY (yeql e0 rfl) (Ym (.bool (decide (g.2 = 9))) e0 ?_)))
         refine joinW 4 (fun f w => f 207 = .bool ((decide (g.2 = 9)) && (decide ((g.1.length : Int) = 0))) ∧ St w0 ros rs w) (fun l8 => ?_) ?_
         ·rcases Bool.eq_false_or_eq_true (decide (g.2 = 9)) with z | z
          ·exact yG z (m_ j.v (eh e8)) (yG z (yLen SL_22 e0 a rO1) (yG z (yeql e0 rfl) (yY (pt_ (.bool (decide ((g.1.length : Int) = 0))) e0 z e0) (l8 _ _ ⟨(congrArg Value.bool (andT z)), (a.k1l)⟩))))
          ·exact gN z (gN z (gN z (yY (pf_ (.bool false) e0 z rfl) (l8 _ _ ⟨(congrArg Value.bool (andF z)), (a.k1l)⟩))))
         rintro f w ⟨z5, a⟩
         refine Ym (.bool ((decide (g.2 = 9)) && (decide ((g.1.length : Int) = 0)))) (eh z5) (bE c fun l9 a5 c => ?_)
         refine joinW 2 (fun f w => f 210 = .bool l9 ∧ St w0 ros rs w) (fun m0 => ?_) ?_
         ·rcases iteS a5 with ⟨b6, a5⟩ | ⟨b6, a5⟩
          ·refine bE a5 fun z6 z7 a5 => Yc (wG b6) rfl (yCall FN_11 a0) (sparselaw07_awake_ok z7 a) ?_
           rintro _ w ⟨rfl, a⟩
           refine ⟨_, rfl, ?_⟩
           refine yY (pt_ (.bool z6) e0 b6 e0) ?_
           cases a5
           exact m0 _ _ ⟨rfl, a⟩
          ·refine gN (bfalse b6) (yY (pf_ (.bool false) e0 (bfalse b6) rfl) ?_)
           cases a5
           exact m0 _ _ ⟨rfl, a⟩
         rintro f w ⟨z8, a⟩
         refine Ya (.bool l9) (eh z8) (wK z4 (wp_ret (y4 _ _ _ rfl ?_)))
         cases c
         exact G _ _ _ (fin1r Tryz.results10 ⟨rfl, rfl⟩ ⟨rfl, a⟩)
       ·refine condT e0 (nT (dF f0)) (sR fun _ z9 => Ym (iV g.2) (eh e9) (yY (yeql e0 rfl) (Ym (.bool (decide (g.2 = 2))) e0 ?_)))
        refine joinW 4 (fun f w => f 188 = .bool ((decide (g.2 = 2)) && (decide ((g.1.length : Int) = 0))) ∧ St w0 ros rs w) (fun m1 => ?_) ?_
        ·rcases Bool.eq_false_or_eq_true (decide (g.2 = 2)) with A | A
         ·exact yG A (m_ j.v (eh e8)) (yG A (yLen SL_22 e0 a rO0) (yG A (yeql e0 rfl) (yY (pt_ (.bool (decide ((g.1.length : Int) = 0))) e0 A e0) (m1 _ _ ⟨(congrArg Value.bool (andT A)), (a.k10)⟩))))
         ·exact gN A (gN A (gN A (yY (pf_ (.bool false) e0 A rfl) (m1 _ _ ⟨(congrArg Value.bool (andF A)), (a.k10)⟩))))
        rintro f w ⟨A0, a⟩
        refine Ym (.bool ((decide (g.2 = 2)) && (decide ((g.1.length : Int) = 0)))) (eh A0) (bE c fun m2 a6 c => ?_)
        refine joinW 2 (fun f w => f 191 = .bool m2 ∧ St w0 ros rs w) (fun m3 => ?_) ?_
        ·rcases iteS a6 with ⟨b7, a6⟩ | ⟨b7, a6⟩
         ·refine bE a6 fun A1 A2 a6 => Yc (wG b7) rfl (yCall FN_11 a0) (sparselaw07_awake_ok A2 a) ?_
          rintro _ w ⟨rfl, a⟩
          refine ⟨_, rfl, ?_⟩
          refine yY (pt_ (.bool A1) e0 b7 e0) ?_
          cases a6
          exact m3 _ _ ⟨rfl, a⟩
         ·refine gN (bfalse b7) (yY (pf_ (.bool false) e0 (bfalse b7) rfl) ?_)
          cases a6
          exact m3 _ _ ⟨rfl, a⟩
        rintro f w ⟨A3, a⟩
        refine Ya (.bool m2) (eh A3) (wK z9 (wp_ret (x9 _ _ _ rfl ?_)))
        cases c
        exact G _ _ _ (fin1r Tryz.results10 ⟨rfl, rfl⟩ ⟨rfl, a⟩)
   ·refine condT e0 (nT (dF d8)) (sR fun _ A4 => Ym (iV h.2) (eh f9) (Ym (iV b) e0 (yY (yeql e0 e0) (Ym (.bool (decide (h.2 = b))) e0 ?_))))
    refine joinW 4 (fun f w => f 9 = iV h.1 ∧ f 11 = iV d.1 ∧ f 13 = l.v ∧ f 14 = iV i.2 ∧ f 15 = j.v ∧ f 16 = iV g.2 ∧ f 17 = iV b ∧ f 85 = .bool ((decide (h.2 = b)) && (decide (d.2 = b))) ∧ St w0 ros (row 3 I1 l.v i.1 :: row 3 I1 j.v g.1 :: rs) w) (fun m4 => ?_) ?_
    ·rcases Bool.eq_false_or_eq_true (decide (h.2 = b)) with B | B
     ·exact yG B (m_ (iV d.2) (eh d6)) (yG B (m_ (iV b) e0) (yG B (yeql e0 e0) (yY (pt_ (.bool (decide (d.2 = b))) e0 B e0) (m4 _ _ ⟨c3, c4, c5, d7, c6, c7, rfl, (congrArg Value.bool (andT B)), a⟩))))
     ·exact gN B (gN B (gN B (yY (pf_ (.bool false) e0 B rfl) (m4 _ _ ⟨c3, c4, c5, d7, c6, c7, rfl, (congrArg Value.bool (andF B)), a⟩))))
    rintro f w ⟨m5, m6, m7, A5, m8, m9, f2, A6, a⟩
    refine Ym (.bool ((decide (h.2 = b)) && (decide (d.2 = b)))) (eh A6) ?_
    refine joinW 4 (fun f w => f 9 = iV h.1 ∧ f 11 = iV d.1 ∧ f 13 = l.v ∧ f 15 = j.v ∧ f 16 = iV g.2 ∧ f 17 = iV b ∧ f 90 = .bool (((decide (h.2 = b)) && (decide (d.2 = b))) && (decide (i.2 = b))) ∧ St w0 ros (row 3 I1 l.v i.1 :: row 3 I1 j.v g.1 :: rs) w) (fun n0 => ?_) ?_
    ·rcases Bool.eq_false_or_eq_true ((decide (h.2 = b)) && (decide (d.2 = b))) with C | C
     ·exact yG C (m_ (iV i.2) (eh A5)) (yG C (m_ (iV b) (eh f2)) (yG C (yeql e0 e0) (yY (pt_ (.bool (decide (i.2 = b))) e0 C e0) (n0 _ _ ⟨m5, m6, m7, m8, m9, f2, (congrArg Value.bool (andT C)), a⟩))))
     ·exact gN C (gN C (gN C (yY (pf_ (.bool false) e0 C rfl) (n0 _ _ ⟨m5, m6, m7, m8, m9, f2, (congrArg Value.bool (andF C)), a⟩))))
    rintro f w ⟨n1, n2, n3, n4, A7, A8, A9, a⟩
    refine Ym (.bool (((decide (h.2 = b)) && (decide (d.2 = b))) && (decide (i.2 = b)))) (eh A9) ?_
    refine joinW 4 (fun f w => f 9 = iV h.1 ∧ f 11 = iV d.1 ∧ f 13 = l.v ∧ f 15 = j.v ∧ f 95 = .bool ((((decide (h.2 = b)) && (decide (d.2 = b))) && (decide (i.2 = b))) && (decide (g.2 = b))) ∧ St w0 ros (row 3 I1 l.v i.1 :: row 3 I1 j.v g.1 :: rs) w) (fun n5 => ?_) ?_
    ·rcases Bool.eq_false_or_eq_true (((decide (h.2 = b)) && (decide (d.2 = b))) && (decide (i.2 = b))) with D | D
     ·exact yG D (m_ (iV g.2) (eh A7)) (yG D (m_ (iV b) (eh A8)) (yG D (yeql e0 e0) (yY (pt_ (.bool (decide (g.2 = b))) e0 D e0) (n5 _ _ ⟨n1, n2, n3, n4, (congrArg Value.bool (andT D)), a⟩))))
     ·exact gN D (gN D (gN D (yY (pf_ (.bool false) e0 D rfl) (n5 _ _ ⟨n1, n2, n3, n4, (congrArg Value.bool (andF D)), a⟩))))
    rintro f w ⟨B0, n6, n7, n8, B1, a⟩
    refine Ym (.bool ((((decide (h.2 = b)) && (decide (d.2 = b))) && (decide (i.2 = b))) && (decide (g.2 = b)))) (eh B1) ?_
    refine joinW 3 (fun f w => f 11 = iV d.1 ∧ f 13 = l.v ∧ f 15 = j.v ∧ f 99 = .bool (((((decide (h.2 = b)) && (decide (d.2 = b))) && (decide (i.2 = b))) && (decide (g.2 = b))) && (decide (h.1 = 0))) ∧ St w0 ros (row 3 I1 l.v i.1 :: row 3 I1 j.v g.1 :: rs) w) (fun n9 => ?_) ?_
    ·rcases Bool.eq_false_or_eq_true ((((decide (h.2 = b)) && (decide (d.2 = b))) && (decide (i.2 = b))) && (decide (g.2 = b))) with O | O
     ·exact yG O (m_ (iV h.1) (eh B0)) (yG O (yeql e0 rfl) (yY (pt_ (.bool (decide (h.1 = 0))) e0 O e0) (n9 _ _ ⟨n6, n7, n8, (congrArg Value.bool (andT O)), a⟩)))
     ·exact gN O (gN O (yY (pf_ (.bool false) e0 O rfl) (n9 _ _ ⟨n6, n7, n8, (congrArg Value.bool (andF O)), a⟩)))
    rintro f w ⟨B2, o0, o1, B3, a⟩
    refine Ym (.bool (((((decide (h.2 = b)) && (decide (d.2 = b))) && (decide (i.2 = b))) && (decide (g.2 = b))) && (decide (h.1 = 0)))) (eh B3) ?_
    refine joinW 3 (fun f w => f 13 = l.v ∧ f 15 = j.v ∧ f 103 = .bool ((((((decide (h.2 = b)) && (decide (d.2 = b))) && (decide (i.2 = b))) && (decide (g.2 = b))) && (decide (h.1 = 0))) && (decide (d.1 = 0))) ∧ St w0 ros (row 3 I1 l.v i.1 :: row 3 I1 j.v g.1 :: rs) w) (fun o2 => ?_) ?_
    ·rcases Bool.eq_false_or_eq_true (((((decide (h.2 = b)) && (decide (d.2 = b))) && (decide (i.2 = b))) && (decide (g.2 = b))) && (decide (h.1 = 0))) with R | R
     ·exact yG R (m_ (iV d.1) (eh B2)) (yG R (yeql e0 rfl) (yY (pt_ (.bool (decide (d.1 = 0))) e0 R e0) (o2 _ _ ⟨o0, o1, (congrArg Value.bool (andT R)), a⟩)))
     ·exact gN R (gN R (yY (pf_ (.bool false) e0 R rfl) (o2 _ _ ⟨o0, o1, (congrArg Value.bool (andF R)), a⟩)))
    rintro f w ⟨B4, o3, B5, a⟩
    refine Ym (.bool ((((((decide (h.2 = b)) && (decide (d.2 = b))) && (decide (i.2 = b))) && (decide (g.2 = b))) && (decide (h.1 = 0))) && (decide (d.1 = 0)))) (eh B5) ?_
    refine joinW 4 (fun f w => f 15 = j.v ∧ f 108 = .bool (((((((decide (h.2 = b)) && (decide (d.2 = b))) && (decide (i.2 = b))) && (decide (g.2 = b))) && (decide (h.1 = 0))) && (decide (d.1 = 0))) && (decide ((i.1.length : Int) = 0))) ∧ St w0 ros (row 3 I1 j.v g.1 :: rs) w) (fun o4 => ?_) ?_
    ·rcases Bool.eq_false_or_eq_true ((((((decide (h.2 = b)) && (decide (d.2 = b))) && (decide (i.2 = b))) && (decide (g.2 = b))) && (decide (h.1 = 0))) && (decide (d.1 = 0))) with E | E
     ·exact yG E (m_ l.v (eh B4)) (yG E (yLen SL_22 e0 a rO0) (yG E (yeql e0 rfl) (yY (pt_ (.bool (decide ((i.1.length : Int) = 0))) e0 E e0) (o4 _ _ ⟨o3, (congrArg Value.bool (andT E)), (a.k1n)⟩))))
     ·exact gN E (gN E (gN E (yY (pf_ (.bool false) e0 E rfl) (o4 _ _ ⟨o3, (congrArg Value.bool (andF E)), (a.k1n)⟩))))
    rintro f w ⟨B6, B7, a⟩
    refine Ym (.bool (((((((decide (h.2 = b)) && (decide (d.2 = b))) && (decide (i.2 = b))) && (decide (g.2 = b))) && (decide (h.1 = 0))) && (decide (d.1 = 0))) && (decide ((i.1.length : Int) = 0)))) (eh B7) ?_
    refine joinW 4 (fun f w => f 113 = .bool ((((((((decide (h.2 = b)) && (decide (d.2 = b))) && (decide (i.2 = b))) && (decide (g.2 = b))) && (decide (h.1 = 0))) && (decide (d.1 = 0))) && (decide ((i.1.length : Int) = 0))) && (decide ((g.1.length : Int) = 0))) ∧ St w0 ros rs w) (fun o5 => ?_) ?_
    ·rcases Bool.eq_false_or_eq_true (((((((decide (h.2 = b)) && (decide (d.2 = b))) && (decide (i.2 = b))) && (decide (g.2 = b))) && (decide (h.1 = 0))) && (decide (d.1 = 0))) && (decide ((i.1.length : Int) = 0))) with F | F
     ·exact yG F (m_ j.v (eh B6)) (yG F (yLen SL_22 e0 a rO0) (yG F (yeql e0 rfl) (yY (pt_ (.bool (decide ((g.1.length : Int) = 0))) e0 F e0) (o5 _ _ ⟨(congrArg Value.bool (andT F)), (a.k10)⟩))))
     ·exact gN F (gN F (gN F (yY (pf_ (.bool false) e0 F rfl) (o5 _ _ ⟨(congrArg Value.bool (andF F)), (a.k10)⟩))))
    rintro f w ⟨B8, a⟩
    refine Ym (.bool ((((((((decide (h.2 = b)) && (decide (d.2 = b))) && (decide (i.2 = b))) && (decide (g.2 = b))) && (decide (h.1 = 0))) && (decide (d.1 = 0))) && (decide ((i.1.length : Int) = 0))) && (decide ((g.1.length : Int) = 0)))) (eh B8) (bE c fun o6 a7 c => ?_)
    refine joinW 2 (fun f w => f 116 = .bool o6 ∧ St w0 ros rs w) (fun o7 => ?_) ?_
    ·rcases iteS a7 with ⟨b8, a7⟩ | ⟨b8, a7⟩
     ·refine bE a7 fun B9 C0 a7 => Yc (wG b8) rfl (yCall FN_11 a0) (sparselaw07_awake_ok C0 a) ?_
      rintro _ w ⟨rfl, a⟩
      refine ⟨_, rfl, ?_⟩
      refine yY (pt_ (.bool B9) e0 b8 e0) ?_
      cases a7
      exact o7 _ _ ⟨rfl, a⟩
     ·refine gN (bfalse b8) (yY (pf_ (.bool false) e0 (bfalse b8) rfl) ?_)
      cases a7
      exact o7 _ _ ⟨rfl, a⟩
    rintro f w ⟨C1, a⟩
    refine Ya (.bool o6) (eh C1) (wK A4 (wp_ret (s8 _ _ _ rfl ?_)))
    cases c
    exact G _ _ _ (fin1r Tryz.results10 ⟨rfl, rfl⟩ ⟨rfl, a⟩)
end Go.Proofs.YtnfamnfdndaekaaGreatDoor
