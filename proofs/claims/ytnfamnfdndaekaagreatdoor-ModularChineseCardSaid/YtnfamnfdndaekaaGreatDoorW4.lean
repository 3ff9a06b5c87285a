/- Walks: each function computes its model, printed. -/
import Derived.Test.YtnfamnfdndaekaaGreatDoorW3
namespace Go.Proofs.YtnfamnfdndaekaaGreatDoor
open Go Sx M
set_option maxRecDepth 100000
set_option maxHeartbeats 40000000
set_option linter.unusedVariables false
attribute [local irreducible] wpList Code.wp Calls DR QR QS LA LS St
variable {w0 : World} {ros : List Fact} {rs : List Res} {w : World}
theorem modular_subtract_ok {t m : LI} {i h : Int} {d j : Hdr} {out : LI} (n : modular_subtract t m i h = some out) (o : imm I1 j.v m ∈ ros) (b : St w0 ros (row 3 I1 d.v t :: rs) w) :
  Calls Tryz.prog 121 #[d.v, j.v, iV i, iV h] w (fun e w => e = .returned (.tuple #[]) ∧ St w0 ros (row 3 I1 d.v out :: rs) w) := by
 refine enterQ Tryz.func121 rfl Tryz.ntmps121 rfl fun Q D => sR fun _ E => Ym j.v e0 (yY (yLen SL_22 e0 b (rdI o)) (Ym (iV 0) rfl (wK E (blockQ fun F G => bE n fun H I n => ?_))))
 have J : ∀ (p : LI) (f : FV) w, St w0 ros (row 3 I1 d.v p :: rs) w → p = H → F (.exit 0) (fr 33 f) w := by
  intro p f w b ho
  subst ho
  refine G _ _ _ ?_
  cases n
  exact D _ _ _ (fin0n Tryz.results121 ⟨rfl, b⟩)
 refine loopQ (fun s a w => ∃ (q : LI) (g : Int) (f : FV), (q, g) = s ∧ a = fr 33 f ∧ f 0 = d.v ∧ f 2 = iV i ∧ f 3 = iV h ∧ f 10 = j.v ∧ f 11 = iV (m.length : Int) ∧ f 12 = iV g ∧ St w0 ros (row 3 I1 d.v q :: rs) w) I ⟨_, _, _, rfl, rfl, rfl, rfl, rfl, rfl, rfl, rfl, b⟩ ?_
 rintro _ _ w a1 ⟨q, g, f, rfl, rfl, k, u, r, x, y, l, b⟩ c K a3 L N
 refine sR fun _ O => yY (ylss (eh l) (eh y)) (wK O (seqQ fun a4 R S => ?_))
 refine cIf e0 c (fun T c => ?_) fun T c => ?_
 ·refine wp_skip (R _ _ (sQ fun _ U => blockQ fun _ V => sR fun _ W => Ym (iV g) (eh l) (bE c fun z A c => yY (yIa SL_22 (eh x) (eh l) b (rdI o) A) (yY (yI O_3 e0 b (rdI o) A) (Ya (iV g) e0 (Ya (iV z) e0 (wK W ?_)))))))
  refine bE c fun a5 B c => bE c fun a6 X c => bE c fun Z a0 c => bE c fun a7 C c => dR [0, 0, 0, 0, 12, 28, 0, 0, 192, 0, 960, 2044, 0, 8188, 16383, 32767] [13, 15] 2 folM ?_
  replace b := b.drew
  refine Dn [0, 1, 2, 3, 4, 5, 6, 7, 8, 9, 10, 11, 12] [] [13] (yR rfl (m_ d.v (eh k)) (yR rfl (m_ (iV g) e0) (yR rfl (m_ d.v (eh k)) (yR rfl (m_ (iV g) e0) (yR rfl (yIa SL_22 e0 e0 b rO0 B) (yR rfl (yI O_3 e0 b rO0 B) (yR rfl (m_ (iV i) (eh u)) (yR rfl (m_ (iV z) e0) (yR rfl (ymul e0 e0) (yR rfl (m_ (iV h) (eh r)) (yR rfl (yrem e0 e0 X) (yR rfl (ysub e0 e0) (yR rfl (m_ (iV h) (eh r)) ?_)))))))))))))
  refine Rn QSn ?_
  refine Lc1 rfl ?_
  refine Lk wn (yCall FN_62 (a2 e0 e0)) (modular_mod_ok a0 b) ?_
  rintro _ w ⟨rfl, b⟩
  refine ⟨_, rfl, ?_⟩
  refine Dn [14] [0, 1] [15] (yR rfl (yIs SL_22 e0 e0 b rO0 C) (Rn (yS rfl (m_ d.v (eh k)) (yS rfl (m_ (iV g) e0) QSn)) ?_))
  refine Lc1 rfl ?_
  refine LT wn (r_sti (cs := [iV Z]) b O_3 rfl e0 e0 rfl mkI C) fun w b => Dz [] [] (Rn QSn (V _ _ _ (U _ _ (wR (yY (yadd (eh l) rfl) (Ym (iV (wa .i64 g 1)) e0 (wN ?_)))))))
  cases c
  exact L _ _ _ rfl ⟨_, _, _, rfl, rfl, k, u, r, x, y, rfl, b⟩
 ·refine wp_exit (S _ _ _ rfl ?_)
  cases c
  exact N _ _ _ _ rfl rfl (J _ _ _ b (K _ rfl))
theorem modular_echelon_ok {f6 : L2} {m : Int} {c : Hdr} {f7 : List Hdr} {out : L2 × LI × Int} (g : modular_echelon f6 m = some out) (b : St w0 ros (row 22 rH c.v f7 :: fam 3 I1 f7 f6 :: rs) w) :
  Calls Tryz.prog 81 #[c.v, iV m] w (fun e w => ∃ (f8 : List Hdr) (f9 : Hdr), e = .returned (.tuple #[f9.v, iV out.2.2]) ∧ St w0 ros (row 22 rH c.v f8 :: fam 3 I1 f8 out.1 :: row 3 I1 f9.v out.2.1 :: rs) w) := by
 refine enterQ Tryz.func81 rfl Tryz.ntmps81 rfl fun Q j9 => sR fun _ k0 => Ya hnil.v rfl (Ya (iV 0) rfl (wK k0 (sR fun _ k2 => Ya (iV 1) rfl (wK k2 (sQ fun _ k5 => sQ fun _ k6 => ?_)))))
 refine wR (Ym c.v e0 (bE g fun z k7 g => ?_))
 have I := b
 replace b := b.ffz
 have o := b.guest0
 replace b := I
 clear I
 refine yC (yCall FN_94 (a1 e0)) (modular_columns_ok k7 F0 o) ?_
 clear o
 rintro _ w ⟨rfl, o⟩
 replace b := b.back o
 clear o
 refine ⟨_, rfl, ?_⟩
 refine Ym (iV 0) rfl (wK k6 (blockQ fun k8 k9 => bE g fun l0 l1 g => ?_))
 have g0 : ∀ (b2 : L2) (b3 : LI) (J : Int) (b4 : List Hdr) (K : Hdr) (f : FV) w, f 4 = K.v → f 5 = iV J → St w0 ros (row 22 rH c.v b4 :: fam 3 I1 b4 b2 :: row 3 I1 K.v b3 :: rs) w → (b2, b3, J) = l0 → k8 (.exit 0) (fr 137 f) w := by
  intro b2 b3 J b4 K f w l2 l3 b ho
  subst ho
  refine k9 _ _ _ (k5 _ _ (sR fun _ l4 => Ym K.v (eh l2) (Ym (iV J) (eh l3) (Ya K.v e0 (Ya (iV J) e0 (wK l4 (wp_ret ?_)))))))
  cases g
  exact j9 _ _ _ (fin2r Tryz.results81 ⟨rfl, rfl⟩ ⟨rfl, rfl⟩ ⟨_, _, rfl, b⟩)
 replace b := b.rowNh 3 I1
 refine loopQ (fun s a w => ∃ (b5 : L2) (d : LI) (T h : Int) (f : FV) (b6 : List Hdr) (k : Hdr), (b5, d, T, h) = s ∧ a = fr 137 f ∧ f 0 = c.v ∧ f 1 = iV m ∧ f 4 = k.v ∧ f 5 = iV T ∧ f 14 = iV z ∧ f 15 = iV h ∧ St w0 ros (row 22 rH c.v b6 :: fam 3 I1 b6 b5 :: row 3 I1 k.v d :: rs) w) l1 ⟨_, _, _, _, _, _, _, rfl, rfl, rfl, rfl, rfl, rfl, rfl, rfl, (b.k1d)⟩ ?_
 rintro _ _ w g1 ⟨b5, d, T, h, f, b6, k, rfl, rfl, y, U, E, L, V, N, b⟩ i g2 x3 l5 g3
 refine sR fun _ l6 => yY (ylss (eh N) (eh V)) (wK l6 (seqQ fun x5 l7 l8 => ?_))
 refine cIf e0 i (fun l9 i => ?_) fun l9 i => ?_
 ·refine wp_skip (l7 _ _ (seqQ fun m0 m1 m2 => ?_))
  have g4 : ∀ (b7 : L2) (b8 : LI) (b9 : Int) (c0 : List Hdr) (c1 : Hdr) (f : FV) w, f 0 = c.v → f 1 = iV m → f 4 = c1.v → f 5 = iV b9 → f 14 = iV z → f 15 = iV h → St w0 ros (row 22 rH c.v c0 :: fam 3 I1 c0 b7 :: row 3 I1 c1.v b8 :: rs) w → modular_echelon_j161 h b7 b8 b9 = some g1 → m0 .normal (fr 137 f) w := by
   intro b7 b8 b9 c0 c1 f w m3 m4 m5 m6 m7 m8 b g
   refine m1 _ _ (wR (yY (yadd (eh m8) rfl) (Ym (iV (wa .i64 h 1)) e0 (wN ?_))))
   cases g
   exact l5 _ _ _ rfl ⟨_, _, _, _, _, _, _, rfl, rfl, m3, m4, m5, m6, m7, rfl, b⟩
  refine blockQ fun _ c2 => sR fun _ m9 => Ym (iV h) (eh N) (yBb (rAl b ZT_3) fun q w b => yT (r_stb1 (vals' := [iV h]) b O_3 e0 e0 rfl rfl rfl rfl) fun w b => wK m9 (sR fun _ n0 => Ym k.v (eh E) (yY (yLen SL_22 e0 b rO3) ?_)))
  refine Ya (iV (d.length : Int)) e0 (wK n0 (seqQ fun x6 n1 n2 => sR fun _ n3 => Ym (iV (d.length : Int)) e0 (Ym c.v (eh y) (yY (yLenF SLH_52 e0 b rO1 R2) (yY (yeql e0 e0) (wK n3 ?_))))))
  refine cIf e0 i (fun n4 i => ?_) fun n4 i => ?_
  ·refine wp_exit (n2 _ _ _ rfl (c2 _ _ _ (m2 _ _ _ rfl ?_)))
   cases i
   exact g3 _ _ _ _ rfl rfl (g0 _ _ _ _ _ _ _ E L (b.k1f) (g2 _ rfl))
  ·refine wp_skip (n1 _ _ (sR fun _ n5 => Ym (iV (d.length : Int)) e0 (Ym c.v (eh y) (Ym (iV (d.length : Int)) e0 (bE i fun x7 g5 i => yY (ySlF (k2 := .i64) SLH_52 e0 b rO1 R2 (.inl (congrArg some e0)) (.inr ⟨rfl, rfl⟩) g5) (yY (ymf (vf := #[]) (vc := #[(pB q)]) a0 (a1 e0)) (bE i fun F n6 i => ?_)))))))
   have I := b
   replace b := ((b.k1d).ffz).sub F0 g5
   have o := b.guestB
   replace b := I
   clear I
   refine yC (yCall FN_119 (a2 e0 e0)) (slices_IndexFunc_int_v3_ok n6 F1 o) ?_
   clear o
   rintro _ w ⟨rfl, o⟩
   replace b := b.backB o
   clear o
   refine ⟨_, rfl, ?_⟩
   refine yY (yadd e0 e0) (Ya (iV (wa .i64 (d.length : Int) F)) e0 (wK n5 (seqQ fun x8 n7 n8 => sR fun _ n9 => Ym (iV (wa .i64 (d.length : Int) F)) e0 (Ym (iV (d.length : Int)) e0 (yY (ylss e0 e0) (wK n9 ?_))))))
   refine cIf e0 i (fun o0 i => ?_) fun o0 i => ?_
   ·exact wp_exit (n8 _ _ _ rfl (c2 _ _ _ (g4 _ _ _ _ _ _ _ y U E L V N (b.k1f) i)))
   ·refine wp_skip (n7 _ _ (sQ fun o1 o2 => sR fun _ o3 => Ym (iV (wa .i64 (d.length : Int) F)) e0 (Ym (iV (d.length : Int)) e0 (yY (ygtr e0 e0) (wK o3 ?_)))))
    have g6 : ∀ (c3 : L2) (W : Int) (r : List Hdr) (f : FV) w, f 0 = c.v → f 1 = iV m → f 4 = k.v → f 5 = iV W → f 6 = (pB q) → f 7 = iV (d.length : Int) → f 14 = iV z → f 15 = iV h → St w0 ros (row 22 rH c.v r :: fam 3 I1 r c3 :: row 3 I1 k.v d :: box q 3 [iV h] :: rs) w → modular_echelon_j162 d h m c3 W = some g1 → o1 .normal (fr 137 f) w := by
     intro c3 W r f w X c4 o4 o5 c5 Z o6 o7 b g
     refine o2 _ _ (sQ fun _ o8 => bE g fun x9 c6 g => bE g fun y0 g7 g => bE g fun C o9 g => dR [0, 0, 0, 6, 14, 0, 62, 126, 255, 0, 1023, 2047] [11] 1 folM ?_)
     replace b := b.drew
     refine Dn [0, 1, 2, 3, 4, 5, 6, 7, 8, 9, 10] [] [11] (yR rfl (m_ (iV W) (eh o5)) (yR rfl (m_ c.v (eh X)) (yR rfl (m_ (iV (d.length : Int)) (eh Z)) ?_)))
     obtain ⟨y1, a3⟩ := b.famI R1 c6
     refine yR rfl (yIa SLH_52 e0 e0 b rO0 a3) (yR rfl (yF1 O_22 e0 b rO0 a3 rfl) (yR rfl (lb_ (iV h) O_3 (eh c5) b R3) (yR rfl (yIa SL_22 e0 e0 b (rdF R1 a3 c6) g7) (yR rfl (yI O_3 e0 b (rdF R1 a3 c6) g7) (yR rfl (ymul e0 e0) (yR rfl (m_ (iV m) (eh c4)) (yR rfl (yrem e0 e0 o9) (Rn QSn ?_))))))))
     refine Lc1 rfl ?_
     refine Ly wn (a_ (iV C) e0) (Dz [] [] (Rn QSn (o8 _ _ (sQ fun _ p0 => bE g fun y2 c7 g => bE g fun y4 g8 g => bE g fun c8 p1 g => dR [0, 0, 3, 7, 0, 31, 63, 0, 255, 511] [8, 9] 2 folM ?_))))
     replace b := b.drew
     refine Dn [0, 1, 2, 3, 4, 5, 6, 7] [] [8] (yR rfl (m_ c.v (eh X)) (yR rfl (m_ (iV (d.length : Int)) (eh Z)) ?_))
     obtain ⟨y5, a5⟩ := b.famI R1 c7
     refine yR rfl (yIa SLH_52 e0 e0 b rO0 a5) (yR rfl (yF1 O_22 e0 b rO0 a5 rfl) (yR rfl (lb_ (iV h) O_3 (eh c5) b R3) (yR rfl (yIa SL_22 e0 e0 b (rdF R1 a5 c7) g8) (yR rfl (yI O_3 e0 b (rdF R1 a5 c7) g8) (yR rfl (m_ (iV m) (eh c4)) (Rn QSn ?_))))))
     refine Lc1 rfl ?_
     refine Lk wn (yCall FN_64 (a2 e0 e0)) (modular_inverse_ok p1 b) ?_
     rintro _ w ⟨rfl, b⟩
     refine ⟨_, rfl, ?_⟩
     refine Dn [] [] [9] (Rn QSn ?_)
     refine Lc1 rfl ?_
     refine Ly wn (a_ (iV c8) e0) (Dz [] [] (Rn QSn (p0 _ _ (sQ fun _ p2 => sR fun _ p3 => Ym c.v (eh X) (Ym (iV (d.length : Int)) (eh Z) (bE g fun p4 g9 g => ?_))))))
     obtain ⟨y6, c9⟩ := b.famI R1 g9
     refine yY (yIa SLH_52 e0 e0 b rO0 c9) (yY (yF1 O_22 e0 b rO0 c9 rfl) (yY (yLen SL_22 e0 b (rdF R1 c9 g9)) (Ym (iV 0) rfl (wK p3 (blockQ fun p5 p6 => bE g fun p7 p8 g => ?_)))))
     have p9 : ∀ (G : L2) (f : FV) w, f 0 = c.v → f 1 = iV m → f 4 = k.v → f 5 = iV C → f 6 = (pB q) → f 7 = iV (d.length : Int) → f 14 = iV z → f 15 = iV h → St w0 ros (row 22 rH c.v r :: fam 3 I1 r G :: row 3 I1 k.v d :: box q 3 [iV h] :: rs) w → G = p7 → p5 (.exit 2) (fr 137 f) w := by
      intro G f w h0 q0 q1 q2 q3 q4 q5 q6 b ho
      subst ho
      refine p6 _ _ _ (p2 _ _ (sQ fun _ q7 => sR fun _ q8 => Ym c.v (eh h0) (yY (yLenF SLH_52 e0 b rO0 R1) (Ym (iV 0) rfl (wK q8 (blockQ fun q9 r0 => bE g fun r1 r2 g => ?_))))))
      have r3 : ∀ (d0 : L2) (f : FV) w, f 0 = c.v → f 1 = iV m → f 4 = k.v → f 5 = iV C → f 6 = (pB q) → f 14 = iV z → f 15 = iV h → St w0 ros (row 22 rH c.v r :: fam 3 I1 r d0 :: row 3 I1 k.v d :: box q 3 [iV h] :: rs) w → d0 = r1 → q9 (.exit 4) (fr 137 f) w := by
       intro d0 f w r4 r6 r7 r8 r9 s0 s1 b ho
       subst ho
       exact r0 _ _ _ (q7 _ _ (wR (Ym k.v (eh r7) (yY (lb_ (iV h) O_3 (eh r9) b R3) (yH (rLt (n := 1) (l := [h]) b SL_22 [iV h] (bp1 e0) rfl rfl (mks1 (cs := [iV h]) rfl mkI mks0)) fun y7 w b => bE g fun y8 s2 g => yH (rAp (b.k16) SL_22 e0 e0 rO1 s2) fun s3 w b => Ya s3.v e0 (wN (c2 _ _ _ (g4 _ _ _ _ _ _ _ r4 r6 rfl r8 s0 s1 (b.k1g) g))))))))
      refine loopQ (fun s a w => ∃ (a6 : L2) (x : Int) (f : FV), (a6, x) = s ∧ a = fr 137 f ∧ f 0 = c.v ∧ f 1 = iV m ∧ f 4 = k.v ∧ f 5 = iV C ∧ f 6 = (pB q) ∧ f 7 = iV (d.length : Int) ∧ f 14 = iV z ∧ f 15 = iV h ∧ f 101 = c.v ∧ f 102 = iV (G.length : Int) ∧ f 103 = iV x ∧ St w0 ros (row 22 rH c.v r :: fam 3 I1 r a6 :: row 3 I1 k.v d :: box q 3 [iV h] :: rs) w) r2 ⟨_, _, _, rfl, rfl, h0, q0, q1, q2, q3, q4, q5, q6, rfl, rfl, rfl, b⟩ ?_
      rintro _ _ w s4 ⟨a6, x, f, rfl, rfl, d1, d2, d3, d4, a7, d5, d6, d7, d8, d9, O, b⟩ j s5 y9 s6 s7
      refine sR fun _ s8 => yY (ylss (eh O) (eh d9)) (wK s8 (seqQ fun z0 s9 t0 => ?_))
      refine cIf e0 j (fun t1 j => ?_) fun t1 j => ?_
      ·refine wp_skip (s9 _ _ (sQ fun _ t2 => blockQ fun t3 t4 => sR fun _ t5 => Ym (iV x) (eh O) (bE j fun z1 H j => ?_)))
       obtain ⟨R, A⟩ := b.famI R1 H
       refine yY (yIa SLH_52 (eh d8) (eh O) b rO0 A) (yY (yF1 O_22 e0 b rO0 A rfl) (Ya (iV x) e0 (Ya R.v e0 (wK t5 (sR fun _ t6 => Ym (iV x) e0 (Ym (iV (d.length : Int)) (eh d5) (yY (yneq e0 e0) (Ym (.bool (!(decide (x = (d.length : Int))))) e0 (bE j fun t7 D j => ?_)))))))))
       refine joinW 6 (fun f w => f 0 = c.v ∧ f 1 = iV m ∧ f 4 = k.v ∧ f 5 = iV C ∧ f 6 = (pB q) ∧ f 7 = iV (d.length : Int) ∧ f 12 = R.v ∧ f 14 = iV z ∧ f 15 = iV h ∧ f 101 = c.v ∧ f 102 = iV (G.length : Int) ∧ f 103 = iV x ∧ f 117 = .bool t7 ∧ St w0 ros (row 22 rH c.v r :: fam 3 I1 r a6 :: row 3 I1 k.v d :: box q 3 [iV h] :: rs) w) (fun h1 => ?_) ?_
       ·rcases iteS D with ⟨t, D⟩ | ⟨t, D⟩
        ·refine gN (nF (dT t)) (gN (nF (dT t)) (gN (nF (dT t)) (gN (nF (dT t)) (gN (nF (dT t)) (yY (pf_ (.bool false) e0 (nF (dT t)) rfl) ?_)))))
         cases D
         exact h1 _ _ ⟨d1, d2, d3, d4, a7, d5, rfl, d6, d7, d8, d9, O, rfl, b⟩
        ·refine yG (nT (dF t)) (m_ R.v e0) (yG (nT (dF t)) (lb_ (iV h) O_3 (eh a7) b R3) (bE D fun t8 h3 D => yG (nT (dF t)) (yIa SL_22 e0 e0 b (rdF R1 A H) h3) (yG (nT (dF t)) (yI O_3 e0 b (rdF R1 A H) h3) (yG (nT (dF t)) (yneq e0 rfl) (yY (pt_ (.bool (!(decide (t8 = 0)))) e0 (nT (dF t)) e0) ?_)))))
         cases D
         exact h1 _ _ ⟨d1, d2, d3, d4, a7, d5, rfl, d6, d7, d8, d9, O, rfl, b⟩
       rintro f w ⟨e1, e2, h4, h5, e3, e4, h6, h7, h8, h9, i0, i1, t9, b⟩
       refine wK t6 ?_
       have i2 : ∀ (e5 : L2) (f : FV) w, f 0 = c.v → f 1 = iV m → f 4 = k.v → f 5 = iV C → f 6 = (pB q) → f 7 = iV (d.length : Int) → f 14 = iV z → f 15 = iV h → f 101 = c.v → f 102 = iV (G.length : Int) → f 103 = iV x → St w0 ros (row 22 rH c.v r :: fam 3 I1 r e5 :: row 3 I1 k.v d :: box q 3 [iV h] :: rs) w → modular_echelon_j170 x e5 = some s4 → t3 .normal (fr 137 f) w := by
        intro e5 f w u0 u1 u2 u3 u4 u5 u6 u7 u8 u9 v0 b g
        refine t4 _ _ _ (t2 _ _ (wR (yY (yadd (eh v0) rfl) (Ym (iV (wa .i64 x 1)) e0 (wN ?_)))))
        cases g
        exact s6 _ _ _ rfl ⟨_, _, _, rfl, rfl, u0, u1, u2, u3, u4, u5, u6, u7, u8, u9, rfl, b⟩
       refine cB (eh t9) j (fun v1 j => ?_) fun v1 j => ?_
       ·refine bE j fun z2 i3 j => bE j fun z3 i4 j => bE j fun u2628 gu2628 j => bE j fun z4 v2 j => bE j fun z5 v3 j => dR [0, 0, 0, 6, 14, 0, 0, 96, 224, 0, 1023] [10] 1 folM ?_
        replace b := b.drew
        refine Dn [0, 1, 2, 3, 4, 5, 6, 7, 8, 9] [] [10] (yR rfl (m_ R.v (eh h6)) (yR rfl (m_ c.v (eh e1)) (yR rfl (m_ (iV (d.length : Int)) (eh e4)) ?_)))
        obtain ⟨z6, e6⟩ := b.famI R1 i3
        refine yR rfl (yIa SLH_52 e0 e0 b rO0 e6) (yR rfl (yF1 O_22 e0 b rO0 e6 rfl) (yR rfl (m_ R.v (eh h6)) (yR rfl (lb_ (iV h) O_3 (eh e3) b R3) (yR rfl (yIa SL_22 e0 e0 b (rdF R1 A H) i4) (yR rfl (yI O_3 e0 b (rdF R1 A H) i4) (yR rfl (m_ (iV m) (eh e2)) (Rn QSn ?_)))))))
        refine Lc1 rfl ?_
        replace b := (b.k11).foc A H
        have o := b.guestX gu2628 A e6 i3
        refine Lk wn (yCall FN_121 (a4 e0 e0 e0 e0)) (modular_subtract_ok v2 F0 o) ?_
        clear o
        rintro _ w ⟨rfl, o⟩
        replace b := b.backR o
        clear o
        refine ⟨_, rfl, ?_⟩
        replace b := b.unfoc' A v3
        exact Dz [] [] (Rn QSn (i2 _ _ _ e1 e2 h4 h5 e3 e4 h7 h8 h9 i0 i1 (b.k1h) j))
       ·exact wp_skip (i2 _ _ _ e1 e2 h4 h5 e3 e4 h7 h8 h9 i0 i1 b j)
      ·refine wp_exit (t0 _ _ _ rfl ?_)
       cases j
       exact s7 _ _ _ _ rfl rfl (r3 _ _ _ d1 d2 d3 d4 a7 d6 d7 b (s5 _ rfl))
     refine loopQ (fun s a w => ∃ (e7 : L2) (B : Int) (f : FV), (e7, B) = s ∧ a = fr 137 f ∧ f 0 = c.v ∧ f 1 = iV m ∧ f 4 = k.v ∧ f 5 = iV C ∧ f 6 = (pB q) ∧ f 7 = iV (d.length : Int) ∧ f 9 = iV c8 ∧ f 14 = iV z ∧ f 15 = iV h ∧ f 79 = iV (p4.length : Int) ∧ f 80 = iV B ∧ St w0 ros (row 22 rH c.v r :: fam 3 I1 r e7 :: row 3 I1 k.v d :: box q 3 [iV h] :: rs) w) p8 ⟨_, _, _, rfl, rfl, X, c4, o4, rfl, c5, Z, rfl, o6, o7, rfl, rfl, b⟩ ?_
     rintro _ _ w z7 ⟨e7, B, f, rfl, rfl, a8, e8, i5, i6, i7, a9, i8, i9, j0, j1, e9, b⟩ p v4 z8 v5 v6
     refine sR fun _ v7 => yY (ylss (eh e9) (eh j1)) (wK v7 (seqQ fun z9 v8 v9 => ?_))
     refine cIf e0 p (fun w1 p => ?_) fun w1 p => ?_
     ·refine wp_skip (v8 _ _ (sQ fun _ w2 => blockQ fun _ w3 => sR fun _ w4 => Ym (iV B) (eh e9) (Ya (iV B) e0 (wK w4 (bE p fun A0 f0 p => bE p fun A1 f1 p => bE p fun A2 j2 p => bE p fun w5 w6 p => ?_)))))
      refine bE p fun A3 j3 p => bE p fun A4 w7 p => dR [0, 0, 3, 7, 0, 0, 0, 96, 224, 0, 992, 2016, 0, 8160, 0, 32736, 65535, 131071] [17] 1 folM ?_
      replace b := b.drew
      refine Dn [0, 1, 2, 3, 4, 5, 6, 7, 8, 9, 10, 11, 12, 13, 14, 15, 16] [] [17] (yR rfl (m_ c.v (eh a8)) (yR rfl (m_ (iV (d.length : Int)) (eh a9)) ?_))
      obtain ⟨A5, S⟩ := b.famI R1 f0
      refine yR rfl (yIa SLH_52 e0 e0 b rO0 S) (yR rfl (yF1 O_22 e0 b rO0 S rfl) (yR rfl (m_ (iV B) e0) (yR rfl (m_ c.v (eh a8)) (yR rfl (m_ (iV (d.length : Int)) (eh a9)) ?_))))
      obtain ⟨A6, b0⟩ := b.famI R1 f1
      refine yR rfl (yIa SLH_52 e0 e0 b rO0 b0) (yR rfl (yF1 O_22 e0 b rO0 b0 rfl) (yR rfl (m_ (iV B) e0) (yR rfl (yIa SL_22 e0 e0 b (rdF R1 b0 f1) j2) (yR rfl (yI O_3 e0 b (rdF R1 b0 f1) j2) (yR rfl (m_ (iV c8) (eh i8)) (yR rfl (ymul e0 e0) (yR rfl (m_ (iV m) (eh e8)) (yR rfl (yrem e0 e0 w6) (yR rfl (yIs SL_22 e0 e0 b (rdF R1 S f0) j3) (Rn QSn ?_))))))))))
      refine Lc1 rfl ?_
      replace b := b.k11
      refine LT wn (r_sti (cs := [iV w5]) (b.foc S f0) O_3 rfl e0 e0 rfl mkI j3) fun w b => ?_
      replace b := b.unfoc' S w7
      refine Dz [] [] (Rn QSn (w3 _ _ _ (w2 _ _ (wR (yY (yadd (eh e9) rfl) (Ym (iV (wa .i64 B 1)) e0 (wN ?_)))))))
      cases p
      exact v5 _ _ _ rfl ⟨_, _, _, rfl, rfl, a8, e8, i5, i6, i7, a9, i8, i9, j0, j1, rfl, (b.k1h)⟩
     ·refine wp_exit (v9 _ _ _ rfl ?_)
      cases p
      exact v6 _ _ _ _ rfl rfl (p9 _ _ _ a8 e8 i5 i6 i7 a9 i9 j0 b (v4 _ rfl))
    refine cIf e0 i (fun w8 i => ?_) fun w8 i => ?_
    ·refine sQ fun _ w9 => bE i fun A7 j4 i => bE i fun A8 j5 i => bE i fun A9 f2 i => bE i fun B0 j6 i => dR [0, 0, 0, 0, 0, 0, 48, 112, 0, 0, 768, 1792, 4083, 8179, 16383, 32767] [13, 15] 2 folM ?_
     replace b := b.drew
     refine Dn [0, 1, 2, 3, 4, 5, 6, 7, 8, 9, 10, 11, 12] [] [13] (yR rfl (m_ c.v (eh y)) (yR rfl (m_ (iV (d.length : Int)) e0) (yR rfl (m_ c.v (eh y)) (yR rfl (m_ (iV (wa .i64 (d.length : Int) F)) e0) (yR rfl (m_ c.v (eh y)) (yR rfl (m_ (iV (wa .i64 (d.length : Int) F)) e0) ?_))))))
     obtain ⟨j7, f3⟩ := b.famI R2 j4
     refine yR rfl (yIa SLH_52 e0 e0 b rO1 f3) (yR rfl (yF1 O_22 e0 b rO1 f3 rfl) (yR rfl (m_ c.v (eh y)) (yR rfl (m_ (iV (d.length : Int)) e0) ?_)))
     obtain ⟨j8, f4⟩ := b.famI R2 j5
     refine yR rfl (yIa SLH_52 e0 e0 b rO1 f4) (yR rfl (yF1 O_22 e0 b rO1 f4 rfl) ?_)
     obtain ⟨B1, b1⟩ := setI_len (u := j7) f2 (b.famL (mtR (mtR mhR)))
     refine yR rfl (yIs SLH_52 e0 e0 b rO1 b1) (Rn QSn ?_)
     refine Lc1 rfl ?_
     replace b := b.k11
     refine LT wn (r_sti (cs := [j7.v]) b O_22 rfl e0 e0 rfl (mkF rfl) b1) fun w b => Dn [14] [2, 3] [15] ?_
     obtain ⟨B2, f5⟩ := setI_len (u := j8) j6 (swap_len f2 b1 (b.famL (mtR (mtR mhR))))
     refine yR rfl (yIs SLH_52 e0 e0 b rO0 f5) (Rn (yS rfl (m_ c.v (eh y)) (yS rfl (m_ (iV (wa .i64 (d.length : Int) F)) e0) QSn)) ?_)
     refine Lc1 rfl ?_
     refine LT wn (r_sti (cs := [j8.v]) b O_22 rfl e0 e0 rfl (mkF rfl) f5) fun w b => ?_
     replace b := (b.k15).fswap f3 j4 f4 j5 b1 f2 f5 j6
     refine Dz [] [] (Rn QSn (w9 _ _ (wR (Ym (iV T) (eh L) (yY (yneg e0) (Ym (iV m) (eh U) (bE i fun x0 x2 i => yC (yCall FN_62 (a2 e0 e0)) (modular_mod_ok x2 b) ?_)))))))
     rintro _ w ⟨rfl, b⟩
     refine ⟨_, rfl, ?_⟩
     exact Ya (iV x0) e0 (wN (g6 _ _ _ _ _ y U E rfl rfl rfl V N (b.k1i) i))
    ·exact wp_skip (g6 _ _ _ _ _ y U E L rfl rfl V N (b.k1j) i)
 ·refine wp_exit (l8 _ _ _ rfl ?_)
  cases i
  exact g3 _ _ _ _ rfl rfl (g0 _ _ _ _ _ _ _ E L b (g2 _ rfl))
theorem modular_Kernel_ok {K : L2} {l : Int} {u : Hdr} {out : LI × Int} (c : modular_Kernel K l = some out) (C : imm S1 u.v K ∈ ros) (b : St w0 ros rs w) :
  Calls Tryz.prog 44 #[u.v, iV l] w (fun e w => ∃ (L : Hdr), e = .returned (.tuple #[L.v, iV out.2]) ∧ St w0 ros (row 3 I1 L.v out.1 :: rs) w) := by
 refine enterQ Tryz.func44 rfl Tryz.ntmps44 rfl fun Q D => sR fun _ b3 => Ya hnil.v rfl (Ya (iV 0) rfl (wK b3 (sR fun _ b4 => Ym u.v e0 (Ym (iV l) e0 (bE c fun y b5 c => yC (yCall FN_83 (a2 e0 e0)) (modular_check_ok b5 C b) ?_)))))
 rintro _ w ⟨rfl, b⟩
 refine ⟨_, rfl, ?_⟩
 refine Ya (iV y) e0 (wK b4 (seqQ fun i0 b6 b7 => sR fun _ b8 => Ym (iV y) e0 (yY (yneq e0 rfl) (wK b8 ?_))))
 rcases iteS c with ⟨E, c⟩ | ⟨E, c⟩
 ·refine condF e0 (nF (dT E)) (wp_skip (b6 _ _ (sR fun _ b9 => Ym u.v e0 (Ym (iV l) e0 (bE c fun i1 c0 c => yC (yCall FN_82 (a2 e0 e0)) (modular_reduced_ok c0 C b) ?_)))))
  rintro _ w ⟨j, i2, rfl, b⟩
  refine ⟨_, rfl, ?_⟩
  refine Ya j.v e0 (wK b9 (sR fun _ c1 => Ym j.v e0 (Ym (iV l) e0 (bE c fun i c2 c => yC (yCall FN_81 (a2 e0 e0)) (modular_echelon_ok c2 b) ?_))))
  rintro _ w ⟨n, h, rfl, b⟩
  refine ⟨_, rfl, ?_⟩
  refine Ym (.tuple #[h.v, iV i.2.2]) e0 (yY (x_ h.v e0) (yY (x_ (iV i.2.2) e0) (Ya h.v e0 (Ya (iV i.2.2) e0 (wK c1 (sR fun _ c3 => Ym u.v e0 (bE c fun t c4 c => yC (yCall FN_94 (a1 e0)) (modular_columns_ok c4 C b) ?_)))))))
  rintro _ w ⟨rfl, b⟩
  refine ⟨_, rfl, ?_⟩
  refine Ya (iV t) e0 (wK c3 (sR fun _ c6 => Ya (iV 0) rfl (wK c6 (sQ fun _ c7 => blockQ fun c8 c9 => bE c fun d0 d1 c => ?_))))
  have d2 : ∀ (o : Int) (f : FV) w, f 1 = iV l → f 7 = j.v → f 8 = h.v → f 10 = iV t → f 11 = iV o → St w0 ros (row 22 rH j.v n :: fam 3 I1 n i.1 :: row 3 I1 h.v i.2.1 :: rs) w → o = d0 → c8 (.exit 0) (fr 76 f) w := by
   intro o f w d3 d4 d5 N F b ho
   subst ho
   refine c9 _ _ _ (c7 _ _ (seqQ fun i3 d6 d7 => sR fun _ d8 => Ym (iV o) (eh F) (Ym (iV t) (eh N) (yY (yeql e0 e0) (wK d8 ?_)))))
   refine cIf e0 c (fun d9 c => ?_) fun d9 c => ?_
   ·refine sR fun _ e1 => Ya hnil.v rfl (Ya (iV 0) rfl (wK e1 (wp_ret (d7 _ _ _ rfl ?_))))
    cases c
    replace b := b.rowNh 3 I1
    exact D _ _ _ (fin2r Tryz.results44 ⟨rfl, rfl⟩ ⟨rfl, rfl⟩ ⟨_, rfl, (b.k1k)⟩)
   ·refine wp_skip (d6 _ _ (sR fun _ e2 => Ym (iV t) (eh N) (bE c fun i4 e3 c => yH (rMk b SL_22 e0 e3) fun m w b => Ya m.v e0 (wK e2 (sR fun _ e4 => Ym m.v e0 ?_)))))
    refine Ym (iV o) (eh F) (bE c fun i5 O c => yY (yIs SL_22 e0 e0 b rO0 O) (yT (r_sti (cs := [iV 1]) b O_3 rfl e0 rfl rfl mkI O) fun w b => wK e4 (sQ fun _ e5 => sR fun _ e6 => Ym h.v (eh d5) (yY (yLen SL_22 e0 b rO3) (Ym (iV 0) rfl (wN ?_))))))
    refine e6 _ _ (blockQ fun e7 e8 => bE c fun e9 f0 c => ?_)
    have f1 : ∀ (G : LI) (f : FV) w, f 12 = m.v → St w0 ros (row 3 I1 m.v G :: rs) w → G = e9 → e7 (.exit 2) (fr 76 f) w := by
     intro G f w f2 b ho
     subst ho
     refine e8 _ _ _ (e5 _ _ (sR fun _ f3 => Ym m.v (eh f2) (Ya m.v e0 (Ya (iV 0) rfl (wK f3 (wp_ret ?_))))))
     cases c
     exact D _ _ _ (fin2r Tryz.results44 ⟨rfl, rfl⟩ ⟨rfl, rfl⟩ ⟨_, rfl, b⟩)
    refine loopQ (fun s a w => ∃ (H : LI) (p : Int) (f : FV), (H, p) = s ∧ a = fr 76 f ∧ f 1 = iV l ∧ f 7 = j.v ∧ f 11 = iV o ∧ f 12 = m.v ∧ f 54 = h.v ∧ f 55 = iV (i.2.1.length : Int) ∧ f 56 = iV p ∧ St w0 ros (row 22 rH j.v n :: fam 3 I1 n i.1 :: row 3 I1 m.v H :: row 3 I1 h.v i.2.1 :: rs) w) f0 ⟨_, _, _, rfl, rfl, d3, d4, F, rfl, rfl, rfl, rfl, (b.k1l)⟩ ?_
    rintro _ _ w i6 ⟨H, p, f, rfl, rfl, R, S, T, I, U, V, z, b⟩ d f4 i7 f5 f6
    refine sR fun _ f7 => yY (ylss (eh z) (eh V)) (wK f7 (seqQ fun i8 f8 f9 => ?_))
    refine cIf e0 d (fun g0 d => ?_) fun g0 d => ?_
    ·refine wp_skip (f8 _ _ (sQ fun _ g1 => blockQ fun _ g2 => sR fun _ g3 => Ym (iV p) (eh z) (bE d fun W X d => yY (yIa SL_22 (eh U) (eh z) b rO3 X) (yY (yI O_3 e0 b rO3 X) (Ya (iV p) e0 (Ya (iV W) e0 (wK g3 ?_)))))))
     refine wR (Ym m.v (eh I) (Ym (iV W) e0 (Ym j.v (eh S) (Ym (iV p) e0 (bE d fun i9 J d => ?_)))))
     obtain ⟨j0, A⟩ := b.famI R1 J
     refine yY (yIa SLH_52 e0 e0 b rO0 A) (yY (yF1 O_22 e0 b rO0 A rfl) (Ym (iV o) (eh T) (bE d fun j1 Z d => yY (yIa SL_22 e0 e0 b (rdF R1 A J) Z) (yY (yI O_3 e0 b (rdF R1 A J) Z) (yY (yneg e0) (Ym (iV l) (eh R) (bE d fun g4 g5 d => yC (yCall FN_62 (a2 e0 e0)) (modular_mod_ok g5 b) ?_)))))))
     rintro _ w ⟨rfl, b⟩
     refine ⟨_, rfl, ?_⟩
     refine bE d fun j2 a0 d => yY (yIs SL_22 e0 e0 b rO2 a0) (yT (r_sti (cs := [iV g4]) (b.k15) O_3 rfl e0 e0 rfl mkI a0) fun w b => wN (g2 _ _ _ (g1 _ _ (wR (yY (yadd (eh z) rfl) (Ym (iV (wa .i64 p 1)) e0 (wN ?_)))))))
     cases d
     exact f5 _ _ _ rfl ⟨_, _, _, rfl, rfl, R, S, T, I, U, V, rfl, (b.k1l)⟩
    ·refine wp_exit (f9 _ _ _ rfl ?_)
     cases d
     exact f6 _ _ _ _ rfl rfl (f1 _ _ _ I (b.k1m) (f4 _ rfl))
  refine loopQ (fun s a w => ∃ (k : Int) (f : FV), k = s ∧ a = fr 76 f ∧ f 1 = iV l ∧ f 7 = j.v ∧ f 8 = h.v ∧ f 10 = iV t ∧ f 11 = iV k ∧ St w0 ros (row 22 rH j.v n :: fam 3 I1 n i.1 :: row 3 I1 h.v i.2.1 :: rs) w) d1 ⟨_, _, rfl, rfl, rfl, rfl, rfl, rfl, rfl, b⟩ ?_
  rintro _ _ w j3 ⟨k, f, rfl, rfl, a3, a4, B, a5, x, b⟩ q g6 j4 g7 g8
  refine seqQ fun j6 g9 h0 => sR fun _ h1 => Ym (iV k) (eh x) (Ym h.v (eh B) (yY (yLen SL_22 e0 b rO2) (yY (ylss e0 e0) (Ym (.bool (decide (k < (i.2.1.length : Int)))) e0 (bE q fun h3 r q => ?_)))))
  refine joinW 7 (fun f w => f 1 = iV l ∧ f 7 = j.v ∧ f 8 = h.v ∧ f 10 = iV t ∧ f 11 = iV k ∧ f 43 = .bool h3 ∧ St w0 ros (row 22 rH j.v n :: fam 3 I1 n i.1 :: row 3 I1 h.v i.2.1 :: rs) w) (fun a6 => ?_) ?_
  ·rcases iteS r with ⟨g, r⟩ | ⟨g, r⟩
   ·refine yG (dT g) (m_ h.v (eh B)) (yG (dT g) (m_ (iV k) (eh x)) (bE r fun h4 a7 r => yG (dT g) (yIa SL_22 e0 e0 b rO2 a7) (yG (dT g) (yI O_3 e0 b rO2 a7) (yG (dT g) (m_ (iV k) (eh x)) (yG (dT g) (yeql e0 e0) (yY (pt_ (.bool (decide (h4 = k))) e0 (dT g) e0) ?_))))))
    cases r
    exact a6 _ _ ⟨a3, a4, B, a5, x, rfl, b⟩
   ·refine gN (dF g) (gN (dF g) (gN (dF g) (gN (dF g) (gN (dF g) (gN (dF g) (yY (pf_ (.bool false) e0 (dF g) rfl) ?_))))))
    cases r
    exact a6 _ _ ⟨a3, a4, B, a5, x, rfl, b⟩
  rintro f w ⟨a8, a9, b0, b1, b2, h5, b⟩
  refine wK h1 (cB (eh h5) q (fun h6 q => ?_) fun h6 q => ?_)
  ·refine wp_skip (g9 _ _ (blockQ fun _ h8 => wR (Ym (iV k) (eh b2) (yY (yadd e0 rfl) (Ya (iV (wa .i64 k 1)) e0 (wN (h8 _ _ _ ?_)))))))
   cases q
   exact g7 _ _ _ rfl ⟨_, _, rfl, rfl, a8, a9, b0, b1, rfl, b⟩
  ·refine wp_exit (h0 _ _ _ rfl ?_)
   cases q
   exact g8 _ _ _ _ rfl rfl (d2 _ _ _ a8 a9 b0 b1 b2 b (g6 _ rfl))
 ·refine condT e0 (nT (dF E)) (sR fun _ h9 => Ym (iV y) e0 (Ya hnil.v rfl (Ya (iV y) e0 (wK h9 (wp_ret (b7 _ _ _ rfl ?_))))))
  cases c
  replace b := b.rowNh 3 I1
  exact D _ _ _ (fin2r Tryz.results44 ⟨rfl, rfl⟩ ⟨rfl, rfl⟩ ⟨_, rfl, b⟩)
theorem sparsekit_Ints_ok {q r : LI} {h i : Hdr} {out : Bool} (d : sparsekit_Ints q r = some out) (j : imm I1 h.v q ∈ ros) (l : imm I1 i.v r ∈ ros) (b : St w0 ros rs w) :
  Calls Tryz.prog 25 #[h.v, i.v] w (fun e w => e = .returned (.bool out) ∧ St w0 ros rs w) := by
 refine enterQ Tryz.func25 rfl Tryz.ntmps25 rfl fun Q m => sR fun _ E => Ya (.bool false) rfl (wK E (seqQ fun a4 F G => sR fun _ H => Ym h.v e0 (yY (yLen SL_22 e0 b (rdI j)) (Ym i.v e0 (yY (yLen SL_22 e0 b (rdI l)) (yY (yneq e0 e0) ?_))))))
 refine wK H ?_
 rcases iteS d with ⟨n, d⟩ | ⟨n, d⟩
 ·refine condF e0 (nF (dT n)) (wp_skip (F _ _ (seqQ fun a5 I J => sR fun _ K => Ya (iV 0) rfl (wK K (blockQ fun t u => bE d fun x L d => ?_)))))
  have N : ∀ (f : FV) w, St w0 ros rs w → .inl () = x → t (.exit 0) (fr 26 f) w := by
   intro f w b ho
   subst ho
   refine u _ _ _ (I _ _ (sR fun _ O => Ya (.bool true) rfl (wK O (wp_ret ?_))))
   cases d
   exact m _ _ _ (fin1r Tryz.results25 ⟨rfl, rfl⟩ ⟨rfl, b⟩)
  have R : ∀ (f : FV) w, f 4 = .bool false → St w0 ros rs w → .inr () = x → t .ret (fr 26 f) w := by
   intro f w S b ho
   subst ho
   refine u _ _ _ (J _ _ _ rfl ?_)
   cases d
   exact m _ _ _ (fin1r Tryz.results25 ⟨rfl, S⟩ ⟨rfl, b⟩)
  refine loopQ (fun s a w => ∃ (g : Int) (f : FV), g = s ∧ a = fr 26 f ∧ f 0 = h.v ∧ f 1 = i.v ∧ f 5 = iV g ∧ St w0 ros rs w) L ⟨_, _, rfl, rfl, rfl, rfl, rfl, b⟩ ?_
  rintro _ _ w a6 ⟨g, f, rfl, rfl, o, y, k, b⟩ c z a7 T A
  refine seqQ fun a8 U V => sR fun _ W => Ym (iV g) (eh k) (Ym h.v (eh o) (yY (yLen SL_22 e0 b (rdI j)) (yY (ylss e0 e0) (wK W ?_))))
  refine cIf e0 c (fun X c => ?_) fun X c => ?_
  ·refine wp_skip (U _ _ (seqQ fun a9 Z a0 => blockQ fun _ B => sQ fun _ a1 => bE c fun b0 C c => bE c fun b1 D c => dR [0, 0, 3, 7, 0, 0, 48, 112, 255] [] 0 folM ?_))
   replace b := b.drew
   refine Dz [0, 1, 2, 3, 4, 5, 6, 7, 8] [] (yR rfl (m_ h.v (eh o)) (yR rfl (m_ (iV g) (eh k)) (yR rfl (yIa SL_22 e0 e0 b (rdI j) C) (yR rfl (yI O_3 e0 b (rdI j) C) (yR rfl (m_ i.v (eh y)) (yR rfl (m_ (iV g) (eh k)) (yR rfl (yIa SL_22 e0 e0 b (rdI l) D) (yR rfl (yI O_3 e0 b (rdI l) D) (yR rfl (yneq e0 e0) (Rn QSn (a1 _ _ ?_)))))))))))
   rcases iteS c with ⟨p, c⟩ | ⟨p, c⟩
   ·refine condF e0 (nF (dT p)) (wp_skip (B _ _ _ (Z _ _ (wR (Ym (iV g) (eh k) (yY (yadd e0 rfl) (Ya (iV (wa .i64 g 1)) e0 (wN ?_))))))))
    cases c
    exact T _ _ _ rfl ⟨_, _, rfl, rfl, o, y, rfl, b⟩
   ·refine condT e0 (nT (dF p)) (sR fun _ a2 => Ya (.bool false) rfl (wK a2 (wp_ret (B _ _ _ (a0 _ _ _ rfl ?_)))))
    cases c
    exact A _ _ _ _ rfl rfl (R _ _ rfl b (z _ rfl))
  ·refine wp_exit (V _ _ _ rfl ?_)
   cases c
   exact A _ _ _ _ rfl rfl (N _ _ b (z _ rfl))
 ·refine condT e0 (nT (dF n)) (sR fun _ a3 => Ya (.bool false) rfl (wK a3 (wp_ret (G _ _ _ rfl ?_))))
  cases d
  exact m _ _ _ (fin1r Tryz.results25 ⟨rfl, rfl⟩ ⟨rfl, b⟩)
theorem slices_Reverse_string_ok {l : List ByteArray} {d : Hdr} {out : (List ByteArray)} (m : slices_Reverse_string l = some out) (b : St w0 ros (row 9 rG d.v l :: rs) w) :
  Calls Tryz.prog 101 #[d.v] w (fun e w => e = .returned (.tuple #[]) ∧ St w0 ros (row 9 rG d.v out :: rs) w) := by
 refine enterQ Tryz.func101 rfl Tryz.ntmps101 rfl fun Q u => sR fun _ x => Ym d.v e0 (yY (yLen SL_101 e0 b rO0) (yY (ysub e0 rfl) (Ya (iV 0) rfl (Ya (iV (ws .i64 (l.length : Int) 1)) e0 (wK x (blockQ fun y z => bE m fun A B m => ?_))))))
 have C : ∀ (n : List ByteArray) (f : FV) w, St w0 ros (row 9 rG d.v n :: rs) w → n = A → y (.exit 0) (fr 28 f) w := by
  intro n f w b ho
  subst ho
  refine z _ _ _ ?_
  cases m
  exact u _ _ _ (fin0n Tryz.results101 ⟨rfl, b⟩)
 refine loopQ (fun s a w => ∃ (o : List ByteArray) (h g : Int) (f : FV), (o, h, g) = s ∧ a = fr 28 f ∧ f 0 = d.v ∧ f 2 = iV h ∧ f 3 = iV g ∧ St w0 ros (row 9 rG d.v o :: rs) w) B ⟨_, _, _, _, rfl, rfl, rfl, rfl, rfl, b⟩ ?_
 rintro _ _ w R ⟨o, h, g, f, rfl, rfl, i, k, j, b⟩ c D S E F
 refine seqQ fun T G H => sR fun _ I => Ym (iV h) (eh k) (Ym (iV g) (eh j) (yY (ylss e0 e0) (wK I ?_)))
 refine cIf e0 c (fun J c => ?_) fun J c => ?_
 ·refine wp_skip (G _ _ (sQ fun _ K => blockQ fun _ L => bE c fun N p c => bE c fun O q c => bE c fun U r c => bE c fun V t c => dR [0, 0, 0, 0, 0, 0, 48, 112, 0, 0, 768, 1792, 4083, 8179, 16383, 32767] [13, 15] 2 folM ?_))
  replace b := b.drew
  refine Dn [0, 1, 2, 3, 4, 5, 6, 7, 8, 9, 10, 11, 12] [] [13] (yR rfl (m_ d.v (eh i)) (yR rfl (m_ (iV h) (eh k)) (yR rfl (m_ d.v (eh i)) (yR rfl (m_ (iV g) (eh j)) (yR rfl (m_ d.v (eh i)) (yR rfl (m_ (iV g) (eh j)) (yR rfl (yIa SL_101 e0 e0 b rO0 p) (yR rfl (ySt O_9 e0 b rO0 p) (yR rfl (m_ d.v (eh i)) (yR rfl (m_ (iV h) (eh k)) (yR rfl (yIa SL_101 e0 e0 b rO0 q) (yR rfl (ySt O_9 e0 b rO0 q) (yR rfl (yIs SL_101 e0 e0 b rO0 r) ?_)))))))))))))
  refine Rn QSn ?_
  refine Lc1 rfl ?_
  refine LT wn (r_sti (cs := [.string N]) b O_9 rfl e0 e0 rfl mkG r) fun w b => Dn [14] [2, 3] [15] (yR rfl (yIs SL_101 e0 e0 b rO0 t) (Rn (yS rfl (m_ d.v (eh i)) (yS rfl (m_ (iV g) (eh j)) QSn)) ?_))
  refine Lc1 rfl ?_
  refine LT wn (r_sti (cs := [.string O]) b O_9 rfl e0 e0 rfl mkG t) fun w b => Dz [] [] (Rn QSn (L _ _ _ (K _ _ (wR (Ym (iV h) (eh k) (yY (yadd e0 rfl) (Ym (iV g) (eh j) (yY (ysub e0 rfl) (Ya (iV (wa .i64 h 1)) e0 (Ya (iV (ws .i64 g 1)) e0 (wN ?_)))))))))))
  cases c
  exact E _ _ _ rfl ⟨_, _, _, _, rfl, rfl, i, rfl, rfl, b⟩
 ·refine wp_exit (H _ _ _ rfl ?_)
  cases c
  exact F _ _ _ _ rfl rfl (C _ _ _ b (D _ rfl))
theorem integer_Format_ok {h : Bool} {A : LI} {i : Hdr} {out : ByteArray} (c : integer_Format h A = some out) (H : imm (rI .u32) i.v A ∈ ros) (b : St w0 ros rs w) :
  Calls Tryz.prog 56 #[.agg #[.bool h, i.v]] w (fun e w => e = .returned (.string out) ∧ St w0 ros rs w) := by
 refine enterQ Tryz.func56 rfl Tryz.ntmps56 rfl fun Q B => sR fun _ I => yBb (r_box (vals := [.bool h, i.v]) b e0 rfl) fun k w b => Ya (.string (⟨#[]⟩ : ByteArray)) rfl (wK I (sR fun _ J => yY (yFb FL_27_1 e0) (yY (lb_ i.v O_25 e0 b R0) (bE c fun e3 K c => yC (yCall FN_77 (a1 e0)) (integer_trim_ok K H b) ?_))))
 rintro _ w ⟨e4, rfl, b⟩
 refine ⟨_, rfl, ?_⟩
 refine bE c fun e5 L c => yC (yCall FN_75 (a1 e0)) (slices_Clone_uint32_ok L F0 b) ?_
 rintro _ w ⟨N, rfl, b⟩
 refine ⟨_, rfl, ?_⟩
 refine Ya N.v e0 (wK J (sR fun _ O => Ya hnil.v rfl (wK O (sQ fun _ R => blockQ fun S T => bE c fun U V c => ?_))))
 have W : ∀ (u : List ByteArray) (p : Hdr) (f : FV) w, f 1 = (pB k) → f 4 = p.v → St w0 ros (box k 27 [.bool h, i.v] :: row 9 rG p.v u :: rs) w → u = U → S (.exit 0) (fr 49 f) w := by
  intro u p f w X x b ho
  subst ho
  refine T _ _ _ (R _ _ (seqQ fun e6 Z a0 => sR fun _ a3 => Ym p.v (eh x) (yY (yLen SL_101 e0 b rO1) (yY (yeql e0 rfl) (wK a3 ?_)))))
  refine cIf e0 c (fun a4 c => ?_) fun a4 c => ?_
  ·refine sR fun _ a5 => Ya (.string (⟨#[48]⟩ : ByteArray)) rfl (wK a5 (wp_ret (a0 _ _ _ rfl ?_)))
   cases c
   exact B _ _ _ (fin1r Tryz.results56 ⟨rfl, rfl⟩ ⟨rfl, (b.k19)⟩)
  ·refine wp_skip (Z _ _ (sQ fun a6 a7 => sR fun _ a8 => yY (yFb FL_27_0 (eh X)) (yY (lb_ (.bool h) O_4 e0 b R0) (wK a8 ?_))))
   have C : ∀ (y : List ByteArray) (q : Hdr) (f : FV) w, f 4 = q.v → St w0 ros (row 9 rG q.v y :: rs) w → integer_Format_j4 y = some out → a6 .normal (fr 49 f) w := by
    intro y q f w D b c
    refine a7 _ _ (sR fun _ a9 => Ym q.v (eh D) (bE c fun e7 b0 c => yC (yCall FN_101 (a1 e0)) (slices_Reverse_string_ok b0 b) ?_))
    rintro _ w ⟨rfl, b⟩
    refine ⟨_, rfl, ?_⟩
    refine wK a9 (sR fun _ b1 => Ym q.v (eh D) (bE c fun b2 b3 c => ?_))
    replace b := b.fz
    refine yC (yCall FN_102 (a2 e0 rfl)) (joinG_ok b3 F0 b) ?_
    rintro _ w ⟨rfl, b⟩
    refine ⟨_, rfl, ?_⟩
    refine Ya (.string b2) e0 (wK b1 (wp_ret ?_))
    cases c
    exact B _ _ _ (fin1r Tryz.results56 ⟨rfl, rfl⟩ ⟨rfl, (b.facts (allT allI))⟩)
   refine cB e0 c (fun b5 c => ?_) fun b5 c => ?_
   ·exact wR (Ym p.v (eh x) (yH (rLt (n := 1) (l := [(⟨#[45]⟩ : ByteArray)]) b SL_101 [.string (⟨#[45]⟩ : ByteArray)] (bp1 rfl) rfl rfl (mks1 (cs := [.string (⟨#[45]⟩ : ByteArray)]) rfl mkG mks0)) fun e8 w b => bE c fun e9 b6 c => yH (rAp (b.k15) SL_101 e0 e0 rO1 b6) fun b7 w b => Ya b7.v e0 (wN (C _ _ _ _ rfl (b.k17) c))))
   ·exact wp_skip (C _ _ _ _ x (b.k1n) c)
 replace b := b.fz.rowNh 9 rG
 refine loopQ (fun s a w => ∃ (z : LI) (r : List ByteArray) (f : FV) (t m : Hdr), (z, r) = s ∧ a = fr 49 f ∧ f 1 = (pB k) ∧ f 3 = t.v ∧ f 4 = m.v ∧ St w0 (imm (rI .u32) t.v z :: ros) (box k 27 [.bool h, i.v] :: row 9 rG m.v r :: rs) w) V ⟨_, _, _, _, _, rfl, rfl, rfl, rfl, rfl, ((b.k11).facts (allC F0 (allT (allT allI))))⟩ ?_
 rintro _ _ w b8 ⟨z, r, f, t, m, rfl, rfl, E, F, G, b⟩ d b9 f0 c0 c1
 refine seqQ fun f1 c2 c3 => sR fun _ c4 => Ym t.v (eh F) (yY (yLen SL_25 e0 b (rdI F0)) (yY (ygtr e0 rfl) (wK c4 ?_)))
 refine cIf e0 d (fun c5 d => ?_) fun c5 d => ?_
 ·refine wp_skip (c2 _ _ (blockQ fun _ c6 => sR fun _ c7 => Ym t.v (eh F) (bE d fun o c8 d => yC (yCall FN_98 (a2 e0 rfl)) (integer_short_ok c8 F0 b) ?_)))
  rintro _ w ⟨g, rfl, b⟩
  refine ⟨_, rfl, ?_⟩
  refine Ym (.tuple #[g.v, .int .u32 o.2]) e0 (yY (x_ g.v e0) (yY (x_ (.int .u32 o.2) e0) (Ya g.v e0 (Ya (.int .u32 o.2) e0 (wK c7 (sR fun _ c9 => Ym (.int .u32 o.2) e0 (yY (ycv (k' := .i64) (by kernel_rfl) (by kernel_rfl) e0) (bE d fun j d0 d => yC (yCall FN_99 (a1 e0)) (itoaG_ok d0 b) ?_))))))))
  rintro _ w ⟨rfl, b⟩
  refine ⟨_, rfl, ?_⟩
  refine Ya (.string j) e0 (wK c9 (sQ fun d1 d2 => sR fun _ d3 => Ym g.v e0 (yY (yLen SL_25 e0 b (rdI F0)) (yY (ygtr e0 rfl) (wK d3 ?_)))))
  have d4 : ∀ (f : FV) w, f 1 = (pB k) → f 4 = m.v → f 5 = g.v → f 7 = .string j → St w0 (imm (rI .u32) g.v o.1 :: ros) (box k 27 [.bool h, i.v] :: row 9 rG m.v r :: rs) w → integer_Format_j5 r j o = some b8 → d1 .normal (fr 49 f) w := by
   intro f w d5 d6 d7 d8 b c
   refine d2 _ _ (wR (Ym m.v (eh d6) (Ym (.string j) (eh d8) (yH (rLt (n := 1) (l := [j]) b SL_101 [.string j] (bp1 e0) rfl rfl (mks1 (cs := [.string j]) rfl mkG mks0)) fun f2 w b => bE c fun f3 d9 c => yH (rAp (b.k15) SL_101 e0 e0 rO1 d9) fun e1 w b => Ym g.v (eh d7) (Ya e1.v e0 (Ya g.v e0 (wN (c6 _ _ _ ?_))))))))
   cases c
   exact c0 _ _ _ rfl ⟨_, _, _, _, _, rfl, rfl, d5, rfl, rfl, (b.k1o)⟩
  refine cIf e0 d (fun e2 d => ?_) fun e2 d => ?_
  ·cases d
  ·exact wp_skip (d4 _ _ E G rfl rfl (b.facts (allC F0 (allT (allT allI)))) d)
 ·refine wp_exit (c3 _ _ _ rfl ?_)
  cases d
  exact c1 _ _ _ _ rfl rfl (W _ _ _ _ E G (b.facts (allT allI)) (b9 _ rfl))
theorem sparselaw07_awake_ok {out : Bool} (d : sparselaw07_awake = some out) (a : St w0 ros rs w) :
  Calls Tryz.prog 11 #[] w (fun e w => e = .returned (.bool out) ∧ St w0 ros rs w) := by
 refine enterQ Tryz.func11 rfl Tryz.ntmps11 rfl fun Q a7 => sR fun _ a8 => Ya (.bool false) rfl (wK a8 (sR fun _ a9 => bE d fun c b0 d => yC (yCall FN_28 (a2 rfl rfl)) (modular_Inverse_ok b0 a) ?_))
 rintro _ w ⟨rfl, a⟩
 refine ⟨_, rfl, ?_⟩
 refine Ym (.tuple #[iV c.1, iV c.2]) e0 (yY (x_ (iV c.1) e0) (yY (x_ (iV c.2) e0) (Ya (iV c.1) e0 (Ya (iV c.2) e0 (wK a9 (sR fun _ b1 => yH (rLt (n := 2) (l := [1, 2]) a SL_22 [iV 1, iV 2] (bp2 rfl rfl) rfl rfl (mks1 (cs := [iV 1]) rfl mkI (mks1 (cs := [iV 2]) rfl mkI mks0))) fun E w a => yH (rLt (n := 1) (l := [[1, 2]]) a.fz SL_52 [E.v] (bp1 e0) rfl rfl (mks1 (cs := [E.v]) rfl (mkS F0) mks0)) fun d9 w a => bE d fun i b2 d => ?_))))))
 replace a := a.fz
 refine yC (yCall FN_44 (a2 e0 rfl)) (modular_Kernel_ok b2 F0 a) ?_
 rintro _ w ⟨s, rfl, a⟩
 refine ⟨_, rfl, ?_⟩
 refine Ym (.tuple #[s.v, iV i.2]) e0 (yY (x_ s.v e0) (yY (x_ (iV i.2) e0) (Ya s.v e0 (Ya (iV i.2) e0 (wK b1 (sR fun _ b3 => yH (rLt (n := 2) (l := [1, 2]) a SL_22 [iV 1, iV 2] (bp2 rfl rfl) rfl rfl (mks1 (cs := [iV 1]) rfl mkI (mks1 (cs := [iV 2]) rfl mkI mks0))) fun e1 w a => yH (rLt (n := 2) (l := [2, 3]) a SL_22 [iV 2, iV 3] (bp2 rfl rfl) rfl rfl (mks1 (cs := [iV 2]) rfl mkI (mks1 (cs := [iV 3]) rfl mkI mks0))) fun e2 w a => bE d fun b b4 d => ?_))))))
 replace a := ((a.k11).fz).fz
 refine yC (yCall FN_13 (a2 e0 e0)) (modular_Combine_ok b4 F1 F0 a) ?_
 rintro _ w ⟨h, g, rfl, a⟩
 refine ⟨_, rfl, ?_⟩
 refine Ym (.tuple #[.agg #[.bool b.1, h.v], .agg #[.bool b.2.2.1, g.v], iV b.2.2.2.2]) e0 (yY (x_ (.agg #[.bool b.1, h.v]) e0) (yY (x_ (.agg #[.bool b.2.2.1, g.v]) e0) (yY (x_ (iV b.2.2.2.2) e0) (yBb (rAl a ZT_27) fun t w a => yBb (rAl a ZT_27) fun j w a => yT (r_stbn (vals' := [.bool b.1, h.v]) (us := [.bool b.1, h.v]) (a.k11) ST_27 e0 e0 rfl rfl (one_of rfl) rfl) fun w a => yT (r_stbn (vals' := [.bool b.2.2.1, g.v]) (us := [.bool b.2.2.1, g.v]) (a.k11) ST_27 e0 e0 rfl rfl (one_of rfl) rfl) fun w a => Ya (iV b.2.2.2.2) e0 (wN ?_)))))
 refine b3 _ _ (sR fun _ b5 => Ym (iV c.2) e0 (yY (yeql e0 rfl) (Ym (.bool (decide (c.2 = 0))) e0 ?_)))
 refine joinW 3 (fun f w => f 3 = s.v ∧ f 4 = iV i.2 ∧ f 5 = (pB t) ∧ f 6 = (pB j) ∧ f 7 = iV b.2.2.2.2 ∧ f 30 = .bool ((decide (c.2 = 0)) && (decide (c.1 = 5))) ∧ St w0 (imm (rI .u32) h.v b.2.1 :: imm (rI .u32) g.v b.2.2.2.1 :: ros) (row 3 I1 s.v i.1 :: box t 27 [.bool b.1, h.v] :: box j 27 [.bool b.2.2.1, g.v] :: rs) w) (fun F => ?_) ?_
 ·rcases Bool.eq_false_or_eq_true (decide (c.2 = 0)) with k | k
  ·exact yG k (m_ (iV c.1) e0) (yG k (yeql e0 rfl) (yY (pt_ (.bool (decide (c.1 = 5))) e0 k e0) (F _ _ ⟨rfl, rfl, rfl, rfl, rfl, (congrArg Value.bool (andT k)), ((a.k1p).facts (allC F0 (allC F1 (allT (allT (allT (allT (allT (allT allI)))))))))⟩)))
  ·exact gN k (gN k (yY (pf_ (.bool false) e0 k rfl) (F _ _ ⟨rfl, rfl, rfl, rfl, rfl, (congrArg Value.bool (andF k)), ((a.k1p).facts (allC F0 (allC F1 (allT (allT (allT (allT (allT (allT allI)))))))))⟩)))
 rintro f w ⟨G, b6, H, I, J, b7, a⟩
 refine Ym (.bool ((decide (c.2 = 0)) && (decide (c.1 = 5)))) (eh b7) ?_
 refine joinW 3 (fun f w => f 3 = s.v ∧ f 5 = (pB t) ∧ f 6 = (pB j) ∧ f 7 = iV b.2.2.2.2 ∧ f 34 = .bool (((decide (c.2 = 0)) && (decide (c.1 = 5))) && (decide (i.2 = 0))) ∧ St w0 (imm (rI .u32) h.v b.2.1 :: imm (rI .u32) g.v b.2.2.2.1 :: ros) (row 3 I1 s.v i.1 :: box t 27 [.bool b.1, h.v] :: box j 27 [.bool b.2.2.1, g.v] :: rs) w) (fun K => ?_) ?_
 ·rcases Bool.eq_false_or_eq_true ((decide (c.2 = 0)) && (decide (c.1 = 5))) with m | m
  ·exact yG m (m_ (iV i.2) (eh b6)) (yG m (yeql e0 rfl) (yY (pt_ (.bool (decide (i.2 = 0))) e0 m e0) (K _ _ ⟨G, H, I, J, (congrArg Value.bool (andT m)), a⟩)))
  ·exact gN m (gN m (yY (pf_ (.bool false) e0 m rfl) (K _ _ ⟨G, H, I, J, (congrArg Value.bool (andF m)), a⟩)))
 rintro f w ⟨b8, L, N, O, b9, a⟩
 refine Ym (.bool (((decide (c.2 = 0)) && (decide (c.1 = 5))) && (decide (i.2 = 0)))) (eh b9) (bE d fun C u d => ?_)
 refine joinW 4 (fun f w => f 5 = (pB t) ∧ f 6 = (pB j) ∧ f 7 = iV b.2.2.2.2 ∧ f 39 = .bool C ∧ St w0 (imm (rI .u32) h.v b.2.1 :: imm (rI .u32) g.v b.2.2.2.1 :: ros) (box t 27 [.bool b.1, h.v] :: box j 27 [.bool b.2.2.1, g.v] :: rs) w) (fun R => ?_) ?_
 ·rcases iteS u with ⟨o, u⟩ | ⟨o, u⟩
  ·refine yG o (m_ s.v (eh b8)) (YH (wG o) rfl (rLt (n := 2) (l := [5, 1]) a SL_22 [iV 5, iV 1] (bp2 rfl rfl) rfl rfl (mks1 (cs := [iV 5]) rfl mkI (mks1 (cs := [iV 1]) rfl mkI mks0))) fun e3 w a => bE u fun c0 c1 u => ?_)
   replace a := ((a.k11).fz).fz
   refine Yc (wG o) rfl (yCall FN_25 (a2 e0 e0)) (sparsekit_Ints_ok c1 F1 F0 a) ?_
   rintro _ w ⟨rfl, a⟩
   refine ⟨_, rfl, ?_⟩
   refine yY (pt_ (.bool c0) e0 o e0) ?_
   cases u
   exact R _ _ ⟨L, N, O, rfl, (a.facts (allC F2 (allC F3 (allT (allT (allT (allT allI)))))))⟩
  ·refine gN (bfalse o) (gN (bfalse o) (gN (bfalse o) (yY (pf_ (.bool false) e0 (bfalse o) rfl) ?_)))
   cases u
   exact R _ _ ⟨L, N, O, rfl, (a.k1q)⟩
 rintro f w ⟨S, T, c2, c3, a⟩
 refine Ym (.bool C) (eh c3) ?_
 refine joinW 3 (fun f w => f 5 = (pB t) ∧ f 6 = (pB j) ∧ f 43 = .bool (C && (decide (b.2.2.2.2 = 0))) ∧ St w0 (imm (rI .u32) h.v b.2.1 :: imm (rI .u32) g.v b.2.2.2.1 :: ros) (box t 27 [.bool b.1, h.v] :: box j 27 [.bool b.2.2.1, g.v] :: rs) w) (fun U => ?_) ?_
 ·rcases Bool.eq_false_or_eq_true C with p | p
  ·exact yG p (m_ (iV b.2.2.2.2) (eh c2)) (yG p (yeql e0 rfl) (yY (pt_ (.bool (decide (b.2.2.2.2 = 0))) e0 p e0) (U _ _ ⟨S, T, (congrArg Value.bool (andT p)), a⟩)))
  ·exact gN p (gN p (yY (pf_ (.bool false) e0 p rfl) (U _ _ ⟨S, T, (congrArg Value.bool (andF p)), a⟩)))
 rintro f w ⟨c4, V, c5, a⟩
 refine Ym (.bool (C && (decide (b.2.2.2.2 = 0)))) (eh c5) (bE d fun W x d => ?_)
 refine joinW 4 (fun f w => f 6 = (pB j) ∧ f 48 = .bool W ∧ St w0 (imm (rI .u32) g.v b.2.2.2.1 :: ros) (box j 27 [.bool b.2.2.1, g.v] :: rs) w) (fun X => ?_) ?_
 ·rcases iteS x with ⟨q, x⟩ | ⟨q, x⟩
  ·refine yG q (lbs_ [.bool b.1, h.v] ST_27 (eh c4) a R0) (bE x fun c6 c7 x => Yc (wG q) rfl (yCall FN_56 (a1 e0)) (integer_Format_ok c7 F0 a) ?_)
   rintro _ w ⟨rfl, a⟩
   refine ⟨_, rfl, ?_⟩
   refine yG q (yegs e0 rfl) (yY (pt_ (.bool (decide (c6 = (⟨#[45, 49]⟩ : ByteArray)))) e0 q e0) ?_)
   cases x
   exact X _ _ ⟨V, rfl, ((a.k1n).facts (allC F1 (allT (allT allI))))⟩
  ·refine gN (bfalse q) (gN (bfalse q) (gN (bfalse q) (yY (pf_ (.bool false) e0 (bfalse q) rfl) ?_)))
   cases x
   exact X _ _ ⟨V, rfl, ((a.k1n).facts (allC F1 (allT (allT allI))))⟩
 rintro f w ⟨c8, c9, a⟩
 refine Ym (.bool W) (eh c9) (bE d fun Z y d => ?_)
 refine joinW 4 (fun f w => f 53 = .bool Z ∧ St w0 ros rs w) (fun a0 => ?_) ?_
 ·rcases iteS y with ⟨r, y⟩ | ⟨r, y⟩
  ·refine yG r (lbs_ [.bool b.2.2.1, g.v] ST_27 (eh c8) a R0) (bE y fun d0 d1 y => Yc (wG r) rfl (yCall FN_56 (a1 e0)) (integer_Format_ok d1 F0 a) ?_)
   rintro _ w ⟨rfl, a⟩
   refine ⟨_, rfl, ?_⟩
   refine yG r (yegs e0 rfl) (yY (pt_ (.bool (decide (d0 = (⟨#[54]⟩ : ByteArray)))) e0 r e0) ?_)
   cases y
   exact a0 _ _ ⟨rfl, ((a.k10).facts (allT allI))⟩
  ·refine gN (bfalse r) (gN (bfalse r) (gN (bfalse r) (yY (pf_ (.bool false) e0 (bfalse r) rfl) ?_)))
   cases y
   exact a0 _ _ ⟨rfl, ((a.k10).facts (allT allI))⟩
 rintro f w ⟨d2, a⟩
 refine Ym (.bool Z) (eh d2) (bE d fun a3 z d => ?_)
 refine joinW 2 (fun f w => f 56 = .bool a3 ∧ St w0 ros rs w) (fun a4 => ?_) ?_
 ·rcases iteS z with ⟨D, z⟩ | ⟨D, z⟩
  ·refine bE z fun d3 d4 z => Yc (wG D) rfl (yCall FN_24 (a1 rfl)) (modular_IsPrime_ok d4 a) ?_
   rintro _ w ⟨rfl, a⟩
   refine ⟨_, rfl, ?_⟩
   refine yY (pt_ (.bool d3) e0 D e0) ?_
   cases z
   exact a4 _ _ ⟨rfl, a⟩
  ·refine gN (bfalse D) (yY (pf_ (.bool false) e0 (bfalse D) rfl) ?_)
   cases z
   exact a4 _ _ ⟨rfl, a⟩
 rintro f w ⟨d5, a⟩
 refine Ym (.bool a3) (eh d5) (bE d fun a5 A d => ?_)
 refine joinW 3 (fun f w => f 60 = .bool a5 ∧ St w0 ros rs w) (fun a6 => ?_) ?_
 ·rcases iteS A with ⟨B, A⟩ | ⟨B, A⟩
  ·refine bE A fun d6 d7 A => Yc (wG B) rfl (yCall FN_24 (a1 rfl)) (modular_IsPrime_ok d7 a) ?_
   rintro _ w ⟨rfl, a⟩
   refine ⟨_, rfl, ?_⟩
   refine yG B (ynot e0) (yY (pt_ (.bool (!d6)) e0 B e0) ?_)
   cases A
   exact a6 _ _ ⟨rfl, a⟩
  ·refine gN (bfalse B) (gN (bfalse B) (yY (pf_ (.bool false) e0 (bfalse B) rfl) ?_))
   cases A
   exact a6 _ _ ⟨rfl, a⟩
 rintro f w ⟨d8, a⟩
 refine Ya (.bool a5) (eh d8) (wK b5 (wp_ret ?_))
 cases d
 exact a7 _ _ _ (fin1r Tryz.results11 ⟨rfl, rfl⟩ ⟨rfl, a⟩)
theorem sparselaw07_ModularChinese_ok {m : Bool} {V W : LI} {o x : Hdr} {out : Bool} (c : sparselaw07_ModularChinese m V W = some out) (j5 : out = true) (J : imm (rI .u32) o.v V ∈ ros) (K : imm I1 x.v W ∈ ros) (b : St w0 ros rs w) :
  Calls Tryz.prog 4 #[.agg #[.bool m, o.v], x.v] w (fun e w => e = .returned (.bool out) ∧ St w0 ros rs w) := by
 refine enterQ Tryz.func4 rfl Tryz.ntmps4 rfl fun Q E => sR fun _ b4 => yBb (r_box (vals := [.bool m, o.v]) b e0 rfl) fun y w b => Ya (.bool false) rfl (wK b4 (sR fun _ b5 => yH (rLt (n := 5) (l := [3, 101, 65537, 1000003, 2147483647]) b SL_22 [iV 3, iV 101, iV 65537, iV 1000003, iV 2147483647] (bp5 rfl rfl rfl rfl rfl) rfl rfl (mks1 (cs := [iV 3]) rfl mkI (mks1 (cs := [iV 101]) rfl mkI (mks1 (cs := [iV 65537]) rfl mkI (mks1 (cs := [iV 1000003]) rfl mkI (mks1 (cs := [iV 2147483647]) rfl mkI mks0)))))) fun j w b => Ya j.v e0 (wN ?_)))
 refine b5 _ _ (seqQ fun j6 b7 b8 => sR fun _ b9 => yY (lbs_ [.bool m, o.v] ST_27 e0 b R1) (bE c fun j9 c0 c => yC (yCall FN_18 (a2 e0 rfl)) (sparsekit_Slim_ok c0 J b) ?_))
 rintro _ w ⟨rfl, b⟩
 refine ⟨_, rfl, ?_⟩
 refine yY (ynot e0) (wK b9 ?_)
 rcases iteS c with ⟨L, c⟩ | ⟨L, c⟩
 ·refine condF e0 (nF L) (wp_skip (b7 _ _ (sR fun _ c1 => Ya hnil.v rfl (wK c1 (seqQ fun k0 c2 c3 => sR fun _ c4 => Ya (iV 0) rfl (wK c4 ?_))))))
  refine blockQ fun X Z => bE c fun a3 c5 c => ?_
  have c6 : ∀ (N : LI) (F : Hdr) (f : FV) w, f 2 = (pB y) → f 5 = j.v → f 6 = F.v → St w0 ros (box y 27 [.bool m, o.v] :: row 3 I1 j.v [3, 101, 65537, 1000003, 2147483647] :: row 3 I1 F.v N :: rs) w → .inl N = a3 → X (.exit 0) (fr 81 f) w := by
   intro N F f w c7 c8 d0 b ho
   subst ho
   refine Z _ _ _ (c2 _ _ (sR fun _ d1 => Ym F.v (eh d0) (Ym j.v (eh c8) (bE c fun g d2 c => ?_))))
   replace b := (((b.k15).fz).k11).fz
   refine yC (yCall FN_13 (a2 e0 e0)) (modular_Combine_ok d2 F1 F0 b) ?_
   rintro _ w ⟨z, r, rfl, b⟩
   refine ⟨_, rfl, ?_⟩
   refine Ym (.tuple #[.agg #[.bool g.1, z.v], .agg #[.bool g.2.2.1, r.v], iV g.2.2.2.2]) e0 (yY (x_ (.agg #[.bool g.1, z.v]) e0) (yY (x_ (.agg #[.bool g.2.2.1, r.v]) e0) (yY (x_ (iV g.2.2.2.2) e0) (yBb (rAl b ZT_27) fun k8 w b => yBb (rAl b ZT_27) fun a4 w b => yT (r_stbn (vals' := [.bool g.1, z.v]) (us := [.bool g.1, z.v]) (b.k11) ST_27 e0 e0 rfl rfl (one_of rfl) rfl) fun w b => yT (r_stbn (vals' := [.bool g.2.2.1, r.v]) (us := [.bool g.2.2.1, r.v]) (b.k11) ST_27 e0 e0 rfl rfl (one_of rfl) rfl) fun w b => Ya (iV g.2.2.2.2) e0 (wN ?_)))))
   refine d1 _ _ (seqQ fun k9 d3 d4 => sQ fun _ d5 => bE c fun O p c => ?_)
   refine joinN (n := 81) (fun f w => f 11 = (pB a4) ∧ f 69 = .bool O ∧ St w0 (imm (rI .u32) r.v g.2.2.2.1 :: ros) (box a4 27 [.bool g.2.2.1, r.v] :: rs) w) (fun a5 => ?_) ?_
   ·rcases iteS p with ⟨h, p⟩ | ⟨h, p⟩
    ·refine bE p fun l0 d6 p => bE p fun l1 d7 p => ?_
     have d8 := someI p
     refine dR [0, 1, 3, 7, 7, 23, 63, 127, 255] [5, 6] 2 folM ?_
     replace b := b.drew
     refine Dn [0, 1, 2, 3, 4] [] [5] (yR rfl (m_ (iV g.2.2.2.2) e0) (yR rfl (yneq e0 rfl) (yR rfl (m_ (.bool (!(decide (g.2.2.2.2 = 0)))) e0) (Ry rfl rfl (wG (nF (dT h))) (lbs_ [.bool g.1, z.v] ST_27 e0 b R1) (Ry rfl rfl (wG (nF (dT h))) (lbs_ [.bool m, o.v] ST_27 (eh c7) b R2) (Rn QSn ?_))))))
     refine Lc1 rfl ?_
     refine Lk (wG (nF (dT h))) (yCall FN_21 (a1 e0)) (integer_Norm_ok d6 (F_4 J) b) ?_
     rintro _ w ⟨l2, rfl, b⟩
     refine ⟨_, rfl, ?_⟩
     refine Dn [] [3] [6] (Rn (Sy rfl rfl (wG (nF (dT h))) (lbs_ [.bool g.1, z.v] ST_27 e0 b R1) rfl QSn) ?_)
     refine Lc1 rfl ?_
     refine Lk (wG (nF (dT h))) (yCall FN_16 (a2 e0 e0)) (sparsekit_Big_ok d7 F1 F0 b) ?_
     rintro _ w ⟨rfl, b⟩
     refine ⟨_, rfl, ?_⟩
     exact Dz [7, 8] [] (Ry rfl rfl (wG (nF (dT h))) (ynot e0) (yR rfl (pf_ (.bool O) e0 (nF (dT h)) (eqv d8 e0)) (Rn QSn (a5 _ _ ⟨rfl, rfl, ((b.k17).facts (allC F2 (allT (allT (allT (allT (allT allI)))))))⟩))))
    ·have d9 := someI p
     refine dR [0, 1, 3, 7, 7, 23, 63, 127, 255] [5, 6] 2 folM ?_
     replace b := b.drew
     refine Dn [0, 1, 2, 3, 4] [] [5] (yR rfl (m_ (iV g.2.2.2.2) e0) (yR rfl (yneq e0 rfl) (yR rfl (m_ (.bool (!(decide (g.2.2.2.2 = 0)))) e0) (Rx rfl rfl (wX (nT (dF h))) (Rx rfl rfl (wX (nT (dF h))) (Rn QSn ?_))))))
     refine Lc1 rfl ?_
     refine Lx (wX (nT (dF h))) (Dn [] [3] [6] (Rn (Sx_ rfl rfl (wX (nT (dF h))) rfl QSn) ?_))
     refine Lc1 rfl ?_
     exact Lx (wX (nT (dF h))) (Dz [7, 8] [] (Rx rfl rfl (wX (nT (dF h))) (yR rfl (pt_ (.bool O) e0 (nT (dF h)) (eqv d9 rfl)) (Rn QSn (a5 _ _ ⟨rfl, rfl, ((b.k17).facts (allC F1 (allT (allT (allT (allT allI))))))⟩)))))
   rintro f w ⟨e1, e2, b⟩
   refine d5 _ _ (cB (eh e2) c (fun e3 c => ?_) fun e3 c => ?_)
   ·refine sR fun _ e4 => Ya (.bool false) rfl (wK e4 (wp_ret (d4 _ _ _ rfl ?_)))
    cases c
    exact E _ _ _ (fin1r Tryz.results4 ⟨rfl, rfl⟩ ⟨rfl, ((b.k10).facts (allT allI))⟩)
   ·refine wp_skip (d3 _ _ (sR fun _ e5 => bE c fun l3 e6 c => yC (yCall FN_23 (a1 rfl)) (integer_FromInt_ok e6 b) ?_))
    rintro _ w ⟨l4, rfl, b⟩
    refine ⟨_, rfl, ?_⟩
    refine bE c fun l5 e7 c => yC (yCall FN_23 (a1 rfl)) (integer_FromInt_ok e7 b) ?_
    rintro _ w ⟨l6, rfl, b⟩
    refine ⟨_, rfl, ?_⟩
    refine bE c fun l7 e8 c => yC (yCall FN_22 (a2 e0 e0)) (integer_Mul_ok e8 F1 F0 b) ?_
    rintro _ w ⟨l8, rfl, b⟩
    refine ⟨_, rfl, ?_⟩
    refine bE c fun l9 e9 c => yC (yCall FN_23 (a1 rfl)) (integer_FromInt_ok e9 b) ?_
    rintro _ w ⟨m0, rfl, b⟩
    refine ⟨_, rfl, ?_⟩
    refine bE c fun R f0 c => yC (yCall FN_22 (a2 e0 e0)) (integer_Mul_ok f0 F1 F0 b) ?_
    rintro _ w ⟨S, rfl, b⟩
    refine ⟨_, rfl, ?_⟩
    refine yBb (rAl b ZT_27) fun m1 w b => yT (r_stbn (vals' := [.bool R.1, S.v]) (us := [.bool R.1, S.v]) b ST_27 e0 e0 rfl rfl (one_of rfl) rfl) fun w b => wK e5 (sR fun _ f1 => yY (lbs_ [.bool g.2.2.1, r.v] ST_27 (eh e1) b R1) (yY (lbs_ [.bool R.1, S.v] ST_27 e0 b R0) (bE c fun f2 f3 c => yC (yCall FN_16 (a2 e0 e0)) (sparsekit_Big_ok f3 F5 F0 b) ?_)))
    rintro _ w ⟨rfl, b⟩
    refine ⟨_, rfl, ?_⟩
    refine Ym (.bool f2) e0 (bE c fun a6 t c => ?_)
    refine joinW 2 (fun f w => f 80 = .bool a6 ∧ St w0 ros rs w) (fun a7 => ?_) ?_
    ·rcases iteS t with ⟨C, t⟩ | ⟨C, t⟩
     ·refine bE t fun f4 f5 t => Yc (wG C) rfl (yCall FN_11 a0) (sparselaw07_awake_ok f5 b) ?_
      rintro _ w ⟨rfl, b⟩
      refine ⟨_, rfl, ?_⟩
      refine yY (pt_ (.bool f4) e0 C e0) ?_
      cases t
      exact a7 _ _ ⟨rfl, ((b.k19).facts (allT (allT (allT (allT (allT (allT allI)))))))⟩
     ·refine gN (bfalse C) (yY (pf_ (.bool false) e0 (bfalse C) rfl) ?_)
      cases t
      exact a7 _ _ ⟨rfl, ((b.k19).facts (allT (allT (allT (allT (allT (allT allI)))))))⟩
    rintro f w ⟨f6, b⟩
    refine Ya (.bool a6) (eh f6) (wK f1 (wp_ret ?_))
    cases c
    exact E _ _ _ (fin1r Tryz.results4 ⟨rfl, rfl⟩ ⟨rfl, b⟩)
  have f7 : ∀ (f : FV) w, f 4 = .bool false → St w0 ros rs w → .inr () = a3 → X .ret (fr 81 f) w := by
   intro f w f8 b ho
   subst ho
   refine Z _ _ _ (c3 _ _ _ rfl ?_)
   cases c
   exact E _ _ _ (fin1r Tryz.results4 ⟨rfl, f8⟩ ⟨rfl, b⟩)
  replace b := b.rowNh 3 I1
  refine loopQ (fun s a w => ∃ (D : LI) (i : Int) (f : FV) (A : Hdr), (D, i) = s ∧ a = fr 81 f ∧ f 1 = x.v ∧ f 2 = (pB y) ∧ f 5 = j.v ∧ f 6 = A.v ∧ f 7 = iV i ∧ St w0 ros (box y 27 [.bool m, o.v] :: row 3 I1 j.v [3, 101, 65537, 1000003, 2147483647] :: row 3 I1 A.v D :: rs) w) c5 ⟨_, _, _, _, rfl, rfl, rfl, rfl, rfl, rfl, rfl, (b.k1p)⟩ ?_
  rintro _ _ w f9 ⟨D, i, f, A, rfl, rfl, G, H, B, T, q, b⟩ d a8 m2 g0 a9
  refine seqQ fun m3 g1 g2 => sR fun _ g3 => Ym (iV i) (eh q) (yY (ylss e0 rfl) (wK g3 ?_))
  refine cIf e0 d (fun g4 d => ?_) fun g4 d => ?_
  ·refine wp_skip (g1 _ _ (seqQ fun m4 g5 g6 => blockQ fun _ b0 => sQ fun _ g7 => bE d fun m5 b1 d => bE d fun k g8 d => dR [0, 0, 0, 6, 14, 31, 63, 127, 127, 255, 1023] [5, 9, 10] 3 folM ?_))
   replace b := b.drew
   refine Dn [0, 1, 2, 3, 4] [] [5] (yR rfl (lbs_ [.bool m, o.v] ST_27 (eh H) b R0) (yR rfl (m_ j.v (eh B)) (yR rfl (m_ (iV i) (eh q)) (yR rfl (yIa SL_22 e0 e0 b rO1 b1) (yR rfl (yI O_3 e0 b rO1 b1) (Rn QSn ?_))))))
   refine Lc1 rfl ?_
   refine Lk wn (yCall FN_19 (a2 e0 e0)) (modular_Reduce_ok g8 J b) ?_
   rintro _ w ⟨rfl, b⟩
   refine ⟨_, rfl, ?_⟩
   refine Dn [6, 7, 8] [] [9] (yR rfl (m_ (.tuple #[iV k.1, iV k.2]) e0) (yR rfl (x_ (iV k.1) e0) (yR rfl (x_ (iV k.2) e0) (Rn QSn ?_))))
   refine Lc1 rfl ?_
   refine Ly wn (a_ (iV k.1) e0) (Dn [] [8] [10] (Rn (yS rfl (x_ (iV k.2) e0) QSn) ?_))
   refine Lc1 rfl ?_
   refine Ly wn (a_ (iV k.2) e0) (Dz [] [] (Rn QSn (g7 _ _ (seqQ fun m6 g9 h0 => sR fun _ h1 => Ym (iV k.2) e0 (yY (yneq e0 rfl) (wK h1 ?_))))))
   rcases iteS d with ⟨U, d⟩ | ⟨U, d⟩
   ·refine condF e0 (nF (dT U)) (wp_skip (g9 _ _ (sQ fun h2 h4 => sR fun _ h6 => Ym (iV i) (eh q) (Ym x.v (eh G) (yY (yLen SL_22 e0 b (rdI K)) (yY (ylss e0 e0) (wK h6 ?_)))))))
    have b2 : ∀ (u : Int) (f : FV) w, f 1 = x.v → f 2 = (pB y) → f 5 = j.v → f 6 = A.v → f 7 = iV i → f 8 = iV u → St w0 ros (box y 27 [.bool m, o.v] :: row 3 I1 j.v [3, 101, 65537, 1000003, 2147483647] :: row 3 I1 A.v D :: rs) w → sparselaw07_ModularChinese_j8 D i u = some f9 → h2 .normal (fr 81 f) w := by
     intro u f w h8 h9 i0 i1 i2 i3 b c
     refine h4 _ _ (wR (Ym A.v (eh i1) (Ym (iV u) (eh i3) (yH (rLt (n := 1) (l := [u]) b SL_22 [iV u] (bp1 e0) rfl rfl (mks1 (cs := [iV u]) rfl mkI mks0)) fun m7 w b => bE c fun m8 i4 c => yH (rAp (b.k16) SL_22 e0 e0 rO1 i4) fun i5 w b => Ya i5.v e0 (wN (b0 _ _ _ (g5 _ _ (wR ?_))))))))
     refine Ym (iV i) (eh i2) (yY (yadd e0 rfl) (Ya (iV (wa .i64 i 1)) e0 (wN ?_)))
     cases c
     exact g0 _ _ _ rfl ⟨_, _, _, _, rfl, rfl, h8, h9, i0, rfl, rfl, (b.k1e)⟩
    refine cIf e0 d (fun i6 d => ?_) fun i6 d => ?_
    ·refine bE d fun i7 I d => bE d fun m9 b3 d => bE d fun i8 i9 d => dR [0, 0, 0, 6, 14, 0, 0, 96, 224, 480, 1022, 2047, 4095] [9, 12] 2 folM ?_
     replace b := b.drew
     refine Dn [0, 1, 2, 3, 4, 5, 6, 7, 8] [] [9] (yR rfl (m_ (iV k.1) e0) (yR rfl (m_ j.v (eh B)) (yR rfl (m_ (iV i) (eh q)) (yR rfl (yIa SL_22 e0 e0 b rO1 I) (yR rfl (yI O_3 e0 b rO1 I) (yR rfl (m_ x.v (eh G)) (yR rfl (m_ (iV i) (eh q)) (yR rfl (yIa SL_22 e0 e0 b (rdI K) b3) (yR rfl (yI O_3 e0 b (rdI K) b3) (Rn QSn ?_))))))))))
     refine Lc1 rfl ?_
     refine Lk wn (yCall FN_20 (a2 e0 rfl)) (sparsekit_Place_ok i9 b) ?_
     rintro _ w ⟨rfl, b⟩
     refine ⟨_, rfl, ?_⟩
     refine Dn [10, 11] [0, 1, 2, 3, 4] [12] (yR rfl (ymul e0 e0) (yR rfl (ysub e0 e0) (Rn (yS rfl (m_ (iV k.1) e0) (yS rfl (m_ j.v (eh B)) (yS rfl (m_ (iV i) (eh q)) (yS rfl (yIa SL_22 e0 e0 b rO1 I) (yS rfl (yI O_3 e0 b rO1 I) QSn))))) ?_)))
     refine Lc1 rfl ?_
     exact Ly wn (a_ (iV (ws .i64 k.1 (wm .i64 i7 i8))) e0) (Dz [] [] (Rn QSn (b2 _ _ _ G H B T q rfl b d)))
    ·exact wp_skip (b2 _ _ _ G H B T q rfl b d)
   ·refine condT e0 (nT (dF U)) (sR fun _ j0 => Ya (.bool false) rfl (wK j0 (wp_ret (h0 _ _ _ rfl (b0 _ _ _ (g6 _ _ _ rfl ?_))))))
    cases d
    exact a9 _ _ _ _ rfl rfl (f7 _ _ rfl (b.k18) (a8 _ rfl))
  ·refine wp_exit (g2 _ _ _ rfl ?_)
   cases d
   exact a9 _ _ _ _ rfl rfl (c6 _ _ _ _ H B T b (a8 _ rfl))
 ·refine condT e0 (nT (bfalse L)) (sR fun _ j1 => bE c fun j2 j3 c => yC (yCall FN_11 a0) (sparselaw07_awake_ok j3 b) ?_)
  rintro _ w ⟨rfl, b⟩
  refine ⟨_, rfl, ?_⟩
  refine Ya (.bool j2) e0 (wK j1 (wp_ret (b8 _ _ _ rfl ?_)))
  cases c
  exact E _ _ _ (fin1r Tryz.results4 ⟨rfl, rfl⟩ ⟨rfl, (b.k19)⟩)
end Go.Proofs.YtnfamnfdndaekaaGreatDoor
