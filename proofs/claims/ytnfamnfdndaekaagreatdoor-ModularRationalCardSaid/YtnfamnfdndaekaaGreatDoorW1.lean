/- Walks: each function computes its model, printed. -/
import Derived.Test.YtnfamnfdndaekaaGreatDoorW0
namespace Go.Proofs.YtnfamnfdndaekaaGreatDoor
open Go Sx M
set_option maxRecDepth 100000
set_option maxHeartbeats 40000000
set_option linter.unusedVariables false
attribute [local irreducible] wpList Code.wp Calls DR QR QS LA LS St
variable {w0 : World} {ros : List Fact} {rs : List Res} {w : World}
theorem modular_subtract_ok {t m : LI} {i h : Int} {d j : Hdr} {out : LI} (n : modular_subtract t m i h = some out) (o : imm I1 j.v m ∈ ros) (b : St w0 ros (row 3 I1 d.v t :: rs) w) :
  Calls Tryz.prog 121 #[d.v, j.v, iV i, iV h] w (fun e w => e = .returned (.tuple #[]) ∧ St w0 ros (row 3 I1 d.v out :: rs) w) := by
 refine enterQ Tryz.func121 rfl Tryz.ntmps121 rfl fun Q D => sR fun _ E => Ym j.v e0 (yY (yLen SL_22 e0 b (rdI o)) (Ym (iV 0) rfl (wK E (blockQ fun F G => bE n fun H I n => ?_))))
 have J : ∀ (p : LI) (f : FV) w, St w0 ros (row 3 I1 d.v p :: rs) w → p = H → F (.exit 0) (fr 33 f) w := by
  intro p f w b ho
  subst ho
  refine G _ _ _ ?_
  cases n
  exact D _ _ _ (fin0n Tryz.results121 ⟨rfl, b⟩)
 refine loopQ (fun s a w => ∃ (q : LI) (g : Int) (f : FV), (q, g) = s ∧ a = fr 33 f ∧ f 0 = d.v ∧ f 2 = iV i ∧ f 3 = iV h ∧ f 10 = j.v ∧ f 11 = iV (m.length : Int) ∧ f 12 = iV g ∧ St w0 ros (row 3 I1 d.v q :: rs) w) I ⟨_, _, _, rfl, rfl, rfl, rfl, rfl, rfl, rfl, rfl, b⟩ ?_
 rintro _ _ w a1 ⟨q, g, f, rfl, rfl, k, u, r, x, y, l, b⟩ c K a3 L N
 refine sR fun _ O => yY (ylss (eh l) (eh y)) (wK O (seqQ fun a4 R S => ?_))
 refine cIf e0 c (fun T c => ?_) fun T c => ?_
 ·refine wp_skip (R _ _ (sQ fun _ U => blockQ fun _ V => sR fun _ W => Ym (iV g) (eh l) (bE c fun z A c => yY (yIa SL_22 (eh x) (eh l) b (rdI o) A) (yY (yI O_3 e0 b (rdI o) A) (Ya (iV g) e0 (Ya (iV z) e0 (wK W ?_)))))))
  refine bE c fun a5 B c => bE c fun a6 X c => bE c fun Z a0 c => bE c fun a7 C c => dR [0, 0, 0, 0, 12, 28, 0, 0, 192, 0, 960, 2044, 0, 8188, 16383, 32767] [13, 15] 2 folM ?_
  replace b := b.drew
  refine Dn [0, 1, 2, 3, 4, 5, 6, 7, 8, 9, 10, 11, 12] [] [13] (yR rfl (m_ d.v (eh k)) (yR rfl (m_ (iV g) e0) (yR rfl (m_ d.v (eh k)) (yR rfl (m_ (iV g) e0) (yR rfl (yIa SL_22 e0 e0 b rO0 B) (yR rfl (yI O_3 e0 b rO0 B) (yR rfl (m_ (iV i) (eh u)) (yR rfl (m_ (iV z) e0) (yR rfl (ymul e0 e0) (yR rfl (m_ (iV h) (eh r)) (yR rfl (yrem e0 e0 X) (yR rfl (ysub e0 e0) (yR rfl (m_ (iV h) (eh r)) ?_)))))))))))))
  refine Rn QSn ?_
  refine Lc1 rfl ?_
  refine Lk wn (yCall FN_62 (a2 e0 e0)) (modular_mod_ok a0 b) ?_
  rintro _ w ⟨rfl, b⟩
  refine ⟨_, rfl, ?_⟩
  refine Dn [14] [0, 1] [15] (yR rfl (yIs SL_22 e0 e0 b rO0 C) (Rn (yS rfl (m_ d.v (eh k)) (yS rfl (m_ (iV g) e0) QSn)) ?_))
  refine Lc1 rfl ?_
  refine LT wn (r_sti (cs := [iV Z]) b O_3 rfl e0 e0 rfl mkI C) fun w b => Dz [] [] (Rn QSn (V _ _ _ (U _ _ (wR (yY (yadd (eh l) rfl) (Ym (iV (wa .i64 g 1)) e0 (wN ?_)))))))
  cases c
  exact L _ _ _ rfl ⟨_, _, _, rfl, rfl, k, u, r, x, y, rfl, b⟩
 ·refine wp_exit (S _ _ _ rfl ?_)
  cases c
  exact N _ _ _ _ rfl rfl (J _ _ _ b (K _ rfl))
theorem modular_echelon_ok {f6 : L2} {m : Int} {c : Hdr} {f7 : List Hdr} {out : L2 × LI × Int} (g : modular_echelon f6 m = some out) (b : St w0 ros (row 22 rH c.v f7 :: fam 3 I1 f7 f6 :: rs) w) :
  Calls Tryz.prog 81 #[c.v, iV m] w (fun e w => ∃ (f8 : List Hdr) (f9 : Hdr), e = .returned (.tuple #[f9.v, iV out.2.2]) ∧ St w0 ros (row 22 rH c.v f8 :: fam 3 I1 f8 out.1 :: row 3 I1 f9.v out.2.1 :: rs) w) := by
 refine enterQ Tryz.func81 rfl Tryz.ntmps81 rfl fun Q j9 => sR fun _ k0 => Ya hnil.v rfl (Ya (iV 0) rfl (wK k0 (sR fun _ k2 => Ya (iV 1) rfl (wK k2 (sQ fun _ k5 => sQ fun _ k6 => ?_)))))
 refine wR (Ym c.v e0 (bE g fun z k7 g => ?_))
 have I := b
 replace b := b.ffz
 have o := b.guest0
 replace b := I
 clear I
 refine yC (yCall FN_94 (a1 e0)) (modular_columns_ok k7 F0 o) ?_
 clear o
 rintro _ w ⟨rfl, o⟩
 replace b := b.back o
 clear o
 refine ⟨_, rfl, ?_⟩
 refine Ym (iV 0) rfl (wK k6 (blockQ fun k8 k9 => bE g fun l0 l1 g => ?_))
 have g0 : ∀ (b2 : L2) (b3 : LI) (J : Int) (b4 : List Hdr) (K : Hdr) (f : FV) w, f 4 = K.v → f 5 = iV J → St w0 ros (row 22 rH c.v b4 :: fam 3 I1 b4 b2 :: row 3 I1 K.v b3 :: rs) w → (b2, b3, J) = l0 → k8 (.exit 0) (fr 137 f) w := by
  intro b2 b3 J b4 K f w l2 l3 b ho
  subst ho
  refine k9 _ _ _ (k5 _ _ (sR fun _ l4 => Ym K.v (eh l2) (Ym (iV J) (eh l3) (Ya K.v e0 (Ya (iV J) e0 (wK l4 (wp_ret ?_)))))))
  cases g
  exact j9 _ _ _ (fin2r Tryz.results81 ⟨rfl, rfl⟩ ⟨rfl, rfl⟩ ⟨_, _, rfl, b⟩)
 replace b := b.rowNh 3 I1
 refine loopQ (fun s a w => ∃ (b5 : L2) (d : LI) (T h : Int) (f : FV) (b6 : List Hdr) (k : Hdr), (b5, d, T, h) = s ∧ a = fr 137 f ∧ f 0 = c.v ∧ f 1 = iV m ∧ f 4 = k.v ∧ f 5 = iV T ∧ f 14 = iV z ∧ f 15 = iV h ∧ St w0 ros (row 22 rH c.v b6 :: fam 3 I1 b6 b5 :: row 3 I1 k.v d :: rs) w) l1 ⟨_, _, _, _, _, _, _, rfl, rfl, rfl, rfl, rfl, rfl, rfl, rfl, (b.k14)⟩ ?_
 rintro _ _ w g1 ⟨b5, d, T, h, f, b6, k, rfl, rfl, y, U, E, L, V, N, b⟩ i g2 x3 l5 g3
 refine sR fun _ l6 => yY (ylss (eh N) (eh V)) (wK l6 (seqQ fun x5 l7 l8 => ?_))
 refine cIf e0 i (fun l9 i => ?_) fun l9 i => ?_
 ·refine wp_skip (l7 _ _ (seqQ fun m0 m1 m2 => ?_))
  have g4 : ∀ (b7 : L2) (b8 : LI) (b9 : Int) (c0 : List Hdr) (c1 : Hdr) (f : FV) w, f 0 = c.v → f 1 = iV m → f 4 = c1.v → f 5 = iV b9 → f 14 = iV z → f 15 = iV h → St w0 ros (row 22 rH c.v c0 :: fam 3 I1 c0 b7 :: row 3 I1 c1.v b8 :: rs) w → modular_echelon_j161 h b7 b8 b9 = some g1 → m0 .normal (fr 137 f) w := by
   intro b7 b8 b9 c0 c1 f w m3 m4 m5 m6 m7 m8 b g
   refine m1 _ _ (wR (yY (yadd (eh m8) rfl) (Ym (iV (wa .i64 h 1)) e0 (wN ?_))))
   cases g
   exact l5 _ _ _ rfl ⟨_, _, _, _, _, _, _, rfl, rfl, m3, m4, m5, m6, m7, rfl, b⟩
  refine blockQ fun _ c2 => sR fun _ m9 => Ym (iV h) (eh N) (yBb (rAl b ZT_3) fun q w b => yT (r_stb1 (vals' := [iV h]) b O_3 e0 e0 rfl rfl rfl rfl) fun w b => wK m9 (sR fun _ n0 => Ym k.v (eh E) (yY (yLen SL_22 e0 b rO3) ?_)))
  refine Ya (iV (d.length : Int)) e0 (wK n0 (seqQ fun x6 n1 n2 => sR fun _ n3 => Ym (iV (d.length : Int)) e0 (Ym c.v (eh y) (yY (yLenF SLH_52 e0 b rO1 R2) (yY (yeql e0 e0) (wK n3 ?_))))))
  refine cIf e0 i (fun n4 i => ?_) fun n4 i => ?_
  ·refine wp_exit (n2 _ _ _ rfl (c2 _ _ _ (m2 _ _ _ rfl ?_)))
   cases i
   exact g3 _ _ _ _ rfl rfl (g0 _ _ _ _ _ _ _ E L (b.k17) (g2 _ rfl))
  ·refine wp_skip (n1 _ _ (sR fun _ n5 => Ym (iV (d.length : Int)) e0 (Ym c.v (eh y) (Ym (iV (d.length : Int)) e0 (bE i fun x7 g5 i => yY (ySlF (k2 := .i64) SLH_52 e0 b rO1 R2 (.inl (congrArg some e0)) (.inr ⟨rfl, rfl⟩) g5) (yY (ymf (vf := #[]) (vc := #[(pB q)]) a0 (a1 e0)) (bE i fun F n6 i => ?_)))))))
   have I := b
   replace b := ((b.k14).ffz).sub F0 g5
   have o := b.guestB
   replace b := I
   clear I
   refine yC (yCall FN_119 (a2 e0 e0)) (slices_IndexFunc_int_v2_ok n6 F1 o) ?_
   clear o
   rintro _ w ⟨rfl, o⟩
   replace b := b.backB o
   clear o
   refine ⟨_, rfl, ?_⟩
   refine yY (yadd e0 e0) (Ya (iV (wa .i64 (d.length : Int) F)) e0 (wK n5 (seqQ fun x8 n7 n8 => sR fun _ n9 => Ym (iV (wa .i64 (d.length : Int) F)) e0 (Ym (iV (d.length : Int)) e0 (yY (ylss e0 e0) (wK n9 ?_))))))
   refine cIf e0 i (fun o0 i => ?_) fun o0 i => ?_
   ·exact wp_exit (n8 _ _ _ rfl (c2 _ _ _ (g4 _ _ _ _ _ _ _ y U E L V N (b.k17) i)))
   ·refine wp_skip (n7 _ _ (sQ fun o1 o2 => sR fun _ o3 => Ym (iV (wa .i64 (d.length : Int) F)) e0 (Ym (iV (d.length : Int)) e0 (yY (ygtr e0 e0) (wK o3 ?_)))))
    have g6 : ∀ (c3 : L2) (W : Int) (r : List Hdr) (f : FV) w, f 0 = c.v → f 1 = iV m → f 4 = k.v → f 5 = iV W → f 6 = (pB q) → f 7 = iV (d.length : Int) → f 14 = iV z → f 15 = iV h → St w0 ros (row 22 rH c.v r :: fam 3 I1 r c3 :: row 3 I1 k.v d :: box q 3 [iV h] :: rs) w → modular_echelon_j162 d h m c3 W = some g1 → o1 .normal (fr 137 f) w := by
     intro c3 W r f w X c4 o4 o5 c5 Z o6 o7 b g
     refine o2 _ _ (sQ fun _ o8 => bE g fun x9 c6 g => bE g fun y0 g7 g => bE g fun C o9 g => dR [0, 0, 0, 6, 14, 0, 62, 126, 255, 0, 1023, 2047] [11] 1 folM ?_)
     replace b := b.drew
     refine Dn [0, 1, 2, 3, 4, 5, 6, 7, 8, 9, 10] [] [11] (yR rfl (m_ (iV W) (eh o5)) (yR rfl (m_ c.v (eh X)) (yR rfl (m_ (iV (d.length : Int)) (eh Z)) ?_)))
     obtain ⟨y1, a3⟩ := b.famI R1 c6
     refine yR rfl (yIa SLH_52 e0 e0 b rO0 a3) (yR rfl (yF1 O_22 e0 b rO0 a3 rfl) (yR rfl (lb_ (iV h) O_3 (eh c5) b R3) (yR rfl (yIa SL_22 e0 e0 b (rdF R1 a3 c6) g7) (yR rfl (yI O_3 e0 b (rdF R1 a3 c6) g7) (yR rfl (ymul e0 e0) (yR rfl (m_ (iV m) (eh c4)) (yR rfl (yrem e0 e0 o9) (Rn QSn ?_))))))))
     refine Lc1 rfl ?_
     refine Ly wn (a_ (iV C) e0) (Dz [] [] (Rn QSn (o8 _ _ (sQ fun _ p0 => bE g fun y2 c7 g => bE g fun y4 g8 g => bE g fun c8 p1 g => dR [0, 0, 3, 7, 0, 31, 63, 0, 255, 511] [8, 9] 2 folM ?_))))
     replace b := b.drew
     refine Dn [0, 1, 2, 3, 4, 5, 6, 7] [] [8] (yR rfl (m_ c.v (eh X)) (yR rfl (m_ (iV (d.length : Int)) (eh Z)) ?_))
     obtain ⟨y5, a5⟩ := b.famI R1 c7
     refine yR rfl (yIa SLH_52 e0 e0 b rO0 a5) (yR rfl (yF1 O_22 e0 b rO0 a5 rfl) (yR rfl (lb_ (iV h) O_3 (eh c5) b R3) (yR rfl (yIa SL_22 e0 e0 b (rdF R1 a5 c7) g8) (yR rfl (yI O_3 e0 b (rdF R1 a5 c7) g8) (yR rfl (m_ (iV m) (eh c4)) (Rn QSn ?_))))))
     refine Lc1 rfl ?_
     refine Lk wn (yCall FN_64 (a2 e0 e0)) (modular_inverse_ok p1 b) ?_
     rintro _ w ⟨rfl, b⟩
     refine ⟨_, rfl, ?_⟩
     refine Dn [] [] [9] (Rn QSn ?_)
     refine Lc1 rfl ?_
     refine Ly wn (a_ (iV c8) e0) (Dz [] [] (Rn QSn (p0 _ _ (sQ fun _ p2 => sR fun _ p3 => Ym c.v (eh X) (Ym (iV (d.length : Int)) (eh Z) (bE g fun p4 g9 g => ?_))))))
     obtain ⟨y6, c9⟩ := b.famI R1 g9
     refine yY (yIa SLH_52 e0 e0 b rO0 c9) (yY (yF1 O_22 e0 b rO0 c9 rfl) (yY (yLen SL_22 e0 b (rdF R1 c9 g9)) (Ym (iV 0) rfl (wK p3 (blockQ fun p5 p6 => bE g fun p7 p8 g => ?_)))))
     have p9 : ∀ (G : L2) (f : FV) w, f 0 = c.v → f 1 = iV m → f 4 = k.v → f 5 = iV C → f 6 = (pB q) → f 7 = iV (d.length : Int) → f 14 = iV z → f 15 = iV h → St w0 ros (row 22 rH c.v r :: fam 3 I1 r G :: row 3 I1 k.v d :: box q 3 [iV h] :: rs) w → G = p7 → p5 (.exit 2) (fr 137 f) w := by
      intro G f w h0 q0 q1 q2 q3 q4 q5 q6 b ho
      subst ho
      refine p6 _ _ _ (p2 _ _ (sQ fun _ q7 => sR fun _ q8 => Ym c.v (eh h0) (yY (yLenF SLH_52 e0 b rO0 R1) (Ym (iV 0) rfl (wK q8 (blockQ fun q9 r0 => bE g fun r1 r2 g => ?_))))))
      have r3 : ∀ (d0 : L2) (f : FV) w, f 0 = c.v → f 1 = iV m → f 4 = k.v → f 5 = iV C → f 6 = (pB q) → f 14 = iV z → f 15 = iV h → St w0 ros (row 22 rH c.v r :: fam 3 I1 r d0 :: row 3 I1 k.v d :: box q 3 [iV h] :: rs) w → d0 = r1 → q9 (.exit 4) (fr 137 f) w := by
       intro d0 f w r4 r6 r7 r8 r9 s0 s1 b ho
       subst ho
       exact r0 _ _ _ (q7 _ _ (wR (Ym k.v (eh r7) (yY (lb_ (iV h) O_3 (eh r9) b R3) (yH (rLt (n := 1) (l := [h]) b SL_22 [iV h] (bp1 e0) rfl rfl (mks1 (cs := [iV h]) rfl mkI mks0)) fun y7 w b => bE g fun y8 s2 g => yH (rAp (b.k15) SL_22 e0 e0 rO1 s2) fun s3 w b => Ya s3.v e0 (wN (c2 _ _ _ (g4 _ _ _ _ _ _ _ r4 r6 rfl r8 s0 s1 (b.k18) g))))))))
      refine loopQ (fun s a w => ∃ (a6 : L2) (x : Int) (f : FV), (a6, x) = s ∧ a = fr 137 f ∧ f 0 = c.v ∧ f 1 = iV m ∧ f 4 = k.v ∧ f 5 = iV C ∧ f 6 = (pB q) ∧ f 7 = iV (d.length : Int) ∧ f 14 = iV z ∧ f 15 = iV h ∧ f 101 = c.v ∧ f 102 = iV (G.length : Int) ∧ f 103 = iV x ∧ St w0 ros (row 22 rH c.v r :: fam 3 I1 r a6 :: row 3 I1 k.v d :: box q 3 [iV h] :: rs) w) r2 ⟨_, _, _, rfl, rfl, h0, q0, q1, q2, q3, q4, q5, q6, rfl, rfl, rfl, b⟩ ?_
      rintro _ _ w s4 ⟨a6, x, f, rfl, rfl, d1, d2, d3, d4, a7, d5, d6, d7, d8, d9, O, b⟩ j s5 y9 s6 s7
      refine sR fun _ s8 => yY (ylss (eh O) (eh d9)) (wK s8 (seqQ fun z0 s9 t0 => ?_))
      refine cIf e0 j (fun t1 j => ?_) fun t1 j => ?_
      ·refine wp_skip (s9 _ _ (sQ fun _ t2 => blockQ fun t3 t4 => sR fun _ t5 => Ym (iV x) (eh O) (bE j fun z1 H j => ?_)))
       obtain ⟨R, A⟩ := b.famI R1 H
       refine yY (yIa SLH_52 (eh d8) (eh O) b rO0 A) (yY (yF1 O_22 e0 b rO0 A rfl) (Ya (iV x) e0 (Ya R.v e0 (wK t5 (sR fun _ t6 => Ym (iV x) e0 (Ym (iV (d.length : Int)) (eh d5) (yY (yneq e0 e0) (Ym (.bool (!(decide (x = (d.length : Int))))) e0 (bE j fun t7 D j => ?_)))))))))
       refine joinW 6 (fun f w => f 0 = c.v ∧ f 1 = iV m ∧ f 4 = k.v ∧ f 5 = iV C ∧ f 6 = (pB q) ∧ f 7 = iV (d.length : Int) ∧ f 12 = R.v ∧ f 14 = iV z ∧ f 15 = iV h ∧ f 101 = c.v ∧ f 102 = iV (G.length : Int) ∧ f 103 = iV x ∧ f 117 = .bool t7 ∧ St w0 ros (row 22 rH c.v r :: fam 3 I1 r a6 :: row 3 I1 k.v d :: box q 3 [iV h] :: rs) w) (fun h1 => ?_) ?_
       ·rcases iteS D with ⟨t, D⟩ | ⟨t, D⟩
        ·refine gN (nF (dT t)) (gN (nF (dT t)) (gN (nF (dT t)) (gN (nF (dT t)) (gN (nF (dT t)) (yY (pf_ (.bool false) e0 (nF (dT t)) rfl) ?_)))))
         cases D
         exact h1 _ _ ⟨d1, d2, d3, d4, a7, d5, rfl, d6, d7, d8, d9, O, rfl, b⟩
        ·refine yG (nT (dF t)) (m_ R.v e0) (yG (nT (dF t)) (lb_ (iV h) O_3 (eh a7) b R3) (bE D fun t8 h3 D => yG (nT (dF t)) (yIa SL_22 e0 e0 b (rdF R1 A H) h3) (yG (nT (dF t)) (yI O_3 e0 b (rdF R1 A H) h3) (yG (nT (dF t)) (yneq e0 rfl) (yY (pt_ (.bool (!(decide (t8 = 0)))) e0 (nT (dF t)) e0) ?_)))))
         cases D
         exact h1 _ _ ⟨d1, d2, d3, d4, a7, d5, rfl, d6, d7, d8, d9, O, rfl, b⟩
       rintro f w ⟨e1, e2, h4, h5, e3, e4, h6, h7, h8, h9, i0, i1, t9, b⟩
       refine wK t6 ?_
       have i2 : ∀ (e5 : L2) (f : FV) w, f 0 = c.v → f 1 = iV m → f 4 = k.v → f 5 = iV C → f 6 = (pB q) → f 7 = iV (d.length : Int) → f 14 = iV z → f 15 = iV h → f 101 = c.v → f 102 = iV (G.length : Int) → f 103 = iV x → St w0 ros (row 22 rH c.v r :: fam 3 I1 r e5 :: row 3 I1 k.v d :: box q 3 [iV h] :: rs) w → modular_echelon_j170 x e5 = some s4 → t3 .normal (fr 137 f) w := by
        intro e5 f w u0 u1 u2 u3 u4 u5 u6 u7 u8 u9 v0 b g
        refine t4 _ _ _ (t2 _ _ (wR (yY (yadd (eh v0) rfl) (Ym (iV (wa .i64 x 1)) e0 (wN ?_)))))
        cases g
        exact s6 _ _ _ rfl ⟨_, _, _, rfl, rfl, u0, u1, u2, u3, u4, u5, u6, u7, u8, u9, rfl, b⟩
       refine cB (eh t9) j (fun v1 j => ?_) fun v1 j => ?_
       ·refine bE j fun z2 i3 j => bE j fun z3 i4 j => bE j fun u2628 gu2628 j => bE j fun z4 v2 j => bE j fun z5 v3 j => dR [0, 0, 0, 6, 14, 0, 0, 96, 224, 0, 1023] [10] 1 folM ?_
        replace b := b.drew
        refine Dn [0, 1, 2, 3, 4, 5, 6, 7, 8, 9] [] [10] (yR rfl (m_ R.v (eh h6)) (yR rfl (m_ c.v (eh e1)) (yR rfl (m_ (iV (d.length : Int)) (eh e4)) ?_)))
        obtain ⟨z6, e6⟩ := b.famI R1 i3
        refine yR rfl (yIa SLH_52 e0 e0 b rO0 e6) (yR rfl (yF1 O_22 e0 b rO0 e6 rfl) (yR rfl (m_ R.v (eh h6)) (yR rfl (lb_ (iV h) O_3 (eh e3) b R3) (yR rfl (yIa SL_22 e0 e0 b (rdF R1 A H) i4) (yR rfl (yI O_3 e0 b (rdF R1 A H) i4) (yR rfl (m_ (iV m) (eh e2)) (Rn QSn ?_)))))))
        refine Lc1 rfl ?_
        replace b := (b.k11).foc A H
        have o := b.guestX gu2628 A e6 i3
        refine Lk wn (yCall FN_121 (a4 e0 e0 e0 e0)) (modular_subtract_ok v2 F0 o) ?_
        clear o
        rintro _ w ⟨rfl, o⟩
        replace b := b.backR o
        clear o
        refine ⟨_, rfl, ?_⟩
        replace b := b.unfoc' A v3
        exact Dz [] [] (Rn QSn (i2 _ _ _ e1 e2 h4 h5 e3 e4 h7 h8 h9 i0 i1 (b.k19) j))
       ·exact wp_skip (i2 _ _ _ e1 e2 h4 h5 e3 e4 h7 h8 h9 i0 i1 b j)
      ·refine wp_exit (t0 _ _ _ rfl ?_)
       cases j
       exact s7 _ _ _ _ rfl rfl (r3 _ _ _ d1 d2 d3 d4 a7 d6 d7 b (s5 _ rfl))
     refine loopQ (fun s a w => ∃ (e7 : L2) (B : Int) (f : FV), (e7, B) = s ∧ a = fr 137 f ∧ f 0 = c.v ∧ f 1 = iV m ∧ f 4 = k.v ∧ f 5 = iV C ∧ f 6 = (pB q) ∧ f 7 = iV (d.length : Int) ∧ f 9 = iV c8 ∧ f 14 = iV z ∧ f 15 = iV h ∧ f 79 = iV (p4.length : Int) ∧ f 80 = iV B ∧ St w0 ros (row 22 rH c.v r :: fam 3 I1 r e7 :: row 3 I1 k.v d :: box q 3 [iV h] :: rs) w) p8 ⟨_, _, _, rfl, rfl, X, c4, o4, rfl, c5, Z, rfl, o6, o7, rfl, rfl, b⟩ ?_
     rintro _ _ w z7 ⟨e7, B, f, rfl, rfl, a8, e8, i5, i6, i7, a9, i8, i9, j0, j1, e9, b⟩ p v4 z8 v5 v6
     refine sR fun _ v7 => yY (ylss (eh e9) (eh j1)) (wK v7 (seqQ fun z9 v8 v9 => ?_))
     refine cIf e0 p (fun w1 p => ?_) fun w1 p => ?_
     ·refine wp_skip (v8 _ _ (sQ fun _ w2 => blockQ fun _ w3 => sR fun _ w4 => Ym (iV B) (eh e9) (Ya (iV B) e0 (wK w4 (bE p fun A0 f0 p => bE p fun A1 f1 p => bE p fun A2 j2 p => bE p fun w5 w6 p => ?_)))))
      refine bE p fun A3 j3 p => bE p fun A4 w7 p => dR [0, 0, 3, 7, 0, 0, 0, 96, 224, 0, 992, 2016, 0, 8160, 0, 32736, 65535, 131071] [17] 1 folM ?_
      replace b := b.drew
      refine Dn [0, 1, 2, 3, 4, 5, 6, 7, 8, 9, 10, 11, 12, 13, 14, 15, 16] [] [17] (yR rfl (m_ c.v (eh a8)) (yR rfl (m_ (iV (d.length : Int)) (eh a9)) ?_))
      obtain ⟨A5, S⟩ := b.famI R1 f0
      refine yR rfl (yIa SLH_52 e0 e0 b rO0 S) (yR rfl (yF1 O_22 e0 b rO0 S rfl) (yR rfl (m_ (iV B) e0) (yR rfl (m_ c.v (eh a8)) (yR rfl (m_ (iV (d.length : Int)) (eh a9)) ?_))))
      obtain ⟨A6, b0⟩ := b.famI R1 f1
      refine yR rfl (yIa SLH_52 e0 e0 b rO0 b0) (yR rfl (yF1 O_22 e0 b rO0 b0 rfl) (yR rfl (m_ (iV B) e0) (yR rfl (yIa SL_22 e0 e0 b (rdF R1 b0 f1) j2) (yR rfl (yI O_3 e0 b (rdF R1 b0 f1) j2) (yR rfl (m_ (iV c8) (eh i8)) (yR rfl (ymul e0 e0) (yR rfl (m_ (iV m) (eh e8)) (yR rfl (yrem e0 e0 w6) (yR rfl (yIs SL_22 e0 e0 b (rdF R1 S f0) j3) (Rn QSn ?_))))))))))
      refine Lc1 rfl ?_
      replace b := b.k11
      refine LT wn (r_sti (cs := [iV w5]) (b.foc S f0) O_3 rfl e0 e0 rfl mkI j3) fun w b => ?_
      replace b := b.unfoc' S w7
      refine Dz [] [] (Rn QSn (w3 _ _ _ (w2 _ _ (wR (yY (yadd (eh e9) rfl) (Ym (iV (wa .i64 B 1)) e0 (wN ?_)))))))
      cases p
      exact v5 _ _ _ rfl ⟨_, _, _, rfl, rfl, a8, e8, i5, i6, i7, a9, i8, i9, j0, j1, rfl, (b.k19)⟩
     ·refine wp_exit (v9 _ _ _ rfl ?_)
      cases p
      exact v6 _ _ _ _ rfl rfl (p9 _ _ _ a8 e8 i5 i6 i7 a9 i9 j0 b (v4 _ rfl))
    refine cIf e0 i (fun w8 i => ?_) fun w8 i => ?_
    ·refine sQ fun _ w9 => bE i fun A7 j4 i => bE i fun A8 j5 i => bE i fun A9 f2 i => bE i fun B0 j6 i => dR [0, 0, 0, 0, 0, 0, 48, 112, 0, 0, 768, 1792, 4083, 8179, 16383, 32767] [13, 15] 2 folM ?_
     replace b := b.drew
     refine Dn [0, 1, 2, 3, 4, 5, 6, 7, 8, 9, 10, 11, 12] [] [13] (yR rfl (m_ c.v (eh y)) (yR rfl (m_ (iV (d.length : Int)) e0) (yR rfl (m_ c.v (eh y)) (yR rfl (m_ (iV (wa .i64 (d.length : Int) F)) e0) (yR rfl (m_ c.v (eh y)) (yR rfl (m_ (iV (wa .i64 (d.length : Int) F)) e0) ?_))))))
     obtain ⟨j7, f3⟩ := b.famI R2 j4
     refine yR rfl (yIa SLH_52 e0 e0 b rO1 f3) (yR rfl (yF1 O_22 e0 b rO1 f3 rfl) (yR rfl (m_ c.v (eh y)) (yR rfl (m_ (iV (d.length : Int)) e0) ?_)))
     obtain ⟨j8, f4⟩ := b.famI R2 j5
     refine yR rfl (yIa SLH_52 e0 e0 b rO1 f4) (yR rfl (yF1 O_22 e0 b rO1 f4 rfl) ?_)
     obtain ⟨B1, b1⟩ := setI_len (u := j7) f2 (b.famL (mtR (mtR mhR)))
     refine yR rfl (yIs SLH_52 e0 e0 b rO1 b1) (Rn QSn ?_)
     refine Lc1 rfl ?_
     replace b := b.k11
     refine LT wn (r_sti (cs := [j7.v]) b O_22 rfl e0 e0 rfl (mkF rfl) b1) fun w b => Dn [14] [2, 3] [15] ?_
     obtain ⟨B2, f5⟩ := setI_len (u := j8) j6 (swap_len f2 b1 (b.famL (mtR (mtR mhR))))
     refine yR rfl (yIs SLH_52 e0 e0 b rO0 f5) (Rn (yS rfl (m_ c.v (eh y)) (yS rfl (m_ (iV (wa .i64 (d.length : Int) F)) e0) QSn)) ?_)
     refine Lc1 rfl ?_
     refine LT wn (r_sti (cs := [j8.v]) b O_22 rfl e0 e0 rfl (mkF rfl) f5) fun w b => ?_
     replace b := (b.k1a).fswap f3 j4 f4 j5 b1 f2 f5 j6
     refine Dz [] [] (Rn QSn (w9 _ _ (wR (Ym (iV T) (eh L) (yY (yneg e0) (Ym (iV m) (eh U) (bE i fun x0 x2 i => yC (yCall FN_62 (a2 e0 e0)) (modular_mod_ok x2 b) ?_)))))))
     rintro _ w ⟨rfl, b⟩
     refine ⟨_, rfl, ?_⟩
     exact Ya (iV x0) e0 (wN (g6 _ _ _ _ _ y U E rfl rfl rfl V N (b.k1b) i))
    ·exact wp_skip (g6 _ _ _ _ _ y U E L rfl rfl V N (b.k1c) i)
 ·refine wp_exit (l8 _ _ _ rfl ?_)
  cases i
  exact g3 _ _ _ _ rfl rfl (g0 _ _ _ _ _ _ _ E L b (g2 _ rfl))
theorem modular_Kernel_ok {K : L2} {l : Int} {u : Hdr} {out : LI × Int} (c : modular_Kernel K l = some out) (C : imm S1 u.v K ∈ ros) (b : St w0 ros rs w) :
  Calls Tryz.prog 44 #[u.v, iV l] w (fun e w => ∃ (L : Hdr), e = .returned (.tuple #[L.v, iV out.2]) ∧ St w0 ros (row 3 I1 L.v out.1 :: rs) w) := by
 refine enterQ Tryz.func44 rfl Tryz.ntmps44 rfl fun Q D => sR fun _ b3 => Ya hnil.v rfl (Ya (iV 0) rfl (wK b3 (sR fun _ b4 => Ym u.v e0 (Ym (iV l) e0 (bE c fun y b5 c => yC (yCall FN_83 (a2 e0 e0)) (modular_check_ok b5 C b) ?_)))))
 rintro _ w ⟨rfl, b⟩
 refine ⟨_, rfl, ?_⟩
 refine Ya (iV y) e0 (wK b4 (seqQ fun i0 b6 b7 => sR fun _ b8 => Ym (iV y) e0 (yY (yneq e0 rfl) (wK b8 ?_))))
 rcases iteS c with ⟨E, c⟩ | ⟨E, c⟩
 ·refine condF e0 (nF (dT E)) (wp_skip (b6 _ _ (sR fun _ b9 => Ym u.v e0 (Ym (iV l) e0 (bE c fun i1 c0 c => yC (yCall FN_82 (a2 e0 e0)) (modular_reduced_ok c0 C b) ?_)))))
  rintro _ w ⟨j, i2, rfl, b⟩
  refine ⟨_, rfl, ?_⟩
  refine Ya j.v e0 (wK b9 (sR fun _ c1 => Ym j.v e0 (Ym (iV l) e0 (bE c fun i c2 c => yC (yCall FN_81 (a2 e0 e0)) (modular_echelon_ok c2 b) ?_))))
  rintro _ w ⟨n, h, rfl, b⟩
  refine ⟨_, rfl, ?_⟩
  refine Ym (.tuple #[h.v, iV i.2.2]) e0 (yY (x_ h.v e0) (yY (x_ (iV i.2.2) e0) (Ya h.v e0 (Ya (iV i.2.2) e0 (wK c1 (sR fun _ c3 => Ym u.v e0 (bE c fun t c4 c => yC (yCall FN_94 (a1 e0)) (modular_columns_ok c4 C b) ?_)))))))
  rintro _ w ⟨rfl, b⟩
  refine ⟨_, rfl, ?_⟩
  refine Ya (iV t) e0 (wK c3 (sR fun _ c6 => Ya (iV 0) rfl (wK c6 (sQ fun _ c7 => blockQ fun c8 c9 => bE c fun d0 d1 c => ?_))))
  have d2 : ∀ (o : Int) (f : FV) w, f 1 = iV l → f 7 = j.v → f 8 = h.v → f 10 = iV t → f 11 = iV o → St w0 ros (row 22 rH j.v n :: fam 3 I1 n i.1 :: row 3 I1 h.v i.2.1 :: rs) w → o = d0 → c8 (.exit 0) (fr 76 f) w := by
   intro o f w d3 d4 d5 N F b ho
   subst ho
   refine c9 _ _ _ (c7 _ _ (seqQ fun i3 d6 d7 => sR fun _ d8 => Ym (iV o) (eh F) (Ym (iV t) (eh N) (yY (yeql e0 e0) (wK d8 ?_)))))
   refine cIf e0 c (fun d9 c => ?_) fun d9 c => ?_
   ·refine sR fun _ e1 => Ya hnil.v rfl (Ya (iV 0) rfl (wK e1 (wp_ret (d7 _ _ _ rfl ?_))))
    cases c
    replace b := b.rowNh 3 I1
    exact D _ _ _ (fin2r Tryz.results44 ⟨rfl, rfl⟩ ⟨rfl, rfl⟩ ⟨_, rfl, (b.k1d)⟩)
   ·refine wp_skip (d6 _ _ (sR fun _ e2 => Ym (iV t) (eh N) (bE c fun i4 e3 c => yH (rMk b SL_22 e0 e3) fun m w b => Ya m.v e0 (wK e2 (sR fun _ e4 => Ym m.v e0 ?_)))))
    refine Ym (iV o) (eh F) (bE c fun i5 O c => yY (yIs SL_22 e0 e0 b rO0 O) (yT (r_sti (cs := [iV 1]) b O_3 rfl e0 rfl rfl mkI O) fun w b => wK e4 (sQ fun _ e5 => sR fun _ e6 => Ym h.v (eh d5) (yY (yLen SL_22 e0 b rO3) (Ym (iV 0) rfl (wN ?_))))))
    refine e6 _ _ (blockQ fun e7 e8 => bE c fun e9 f0 c => ?_)
    have f1 : ∀ (G : LI) (f : FV) w, f 12 = m.v → St w0 ros (row 3 I1 m.v G :: rs) w → G = e9 → e7 (.exit 2) (fr 76 f) w := by
     intro G f w f2 b ho
     subst ho
     refine e8 _ _ _ (e5 _ _ (sR fun _ f3 => Ym m.v (eh f2) (Ya m.v e0 (Ya (iV 0) rfl (wK f3 (wp_ret ?_))))))
     cases c
     exact D _ _ _ (fin2r Tryz.results44 ⟨rfl, rfl⟩ ⟨rfl, rfl⟩ ⟨_, rfl, b⟩)
    refine loopQ (fun s a w => ∃ (H : LI) (p : Int) (f : FV), (H, p) = s ∧ a = fr 76 f ∧ f 1 = iV l ∧ f 7 = j.v ∧ f 11 = iV o ∧ f 12 = m.v ∧ f 54 = h.v ∧ f 55 = iV (i.2.1.length : Int) ∧ f 56 = iV p ∧ St w0 ros (row 22 rH j.v n :: fam 3 I1 n i.1 :: row 3 I1 m.v H :: row 3 I1 h.v i.2.1 :: rs) w) f0 ⟨_, _, _, rfl, rfl, d3, d4, F, rfl, rfl, rfl, rfl, (b.k1e)⟩ ?_
    rintro _ _ w i6 ⟨H, p, f, rfl, rfl, R, S, T, I, U, V, z, b⟩ d f4 i7 f5 f6
    refine sR fun _ f7 => yY (ylss (eh z) (eh V)) (wK f7 (seqQ fun i8 f8 f9 => ?_))
    refine cIf e0 d (fun g0 d => ?_) fun g0 d => ?_
    ·refine wp_skip (f8 _ _ (sQ fun _ g1 => blockQ fun _ g2 => sR fun _ g3 => Ym (iV p) (eh z) (bE d fun W X d => yY (yIa SL_22 (eh U) (eh z) b rO3 X) (yY (yI O_3 e0 b rO3 X) (Ya (iV p) e0 (Ya (iV W) e0 (wK g3 ?_)))))))
     refine wR (Ym m.v (eh I) (Ym (iV W) e0 (Ym j.v (eh S) (Ym (iV p) e0 (bE d fun i9 J d => ?_)))))
     obtain ⟨j0, A⟩ := b.famI R1 J
     refine yY (yIa SLH_52 e0 e0 b rO0 A) (yY (yF1 O_22 e0 b rO0 A rfl) (Ym (iV o) (eh T) (bE d fun j1 Z d => yY (yIa SL_22 e0 e0 b (rdF R1 A J) Z) (yY (yI O_3 e0 b (rdF R1 A J) Z) (yY (yneg e0) (Ym (iV l) (eh R) (bE d fun g4 g5 d => yC (yCall FN_62 (a2 e0 e0)) (modular_mod_ok g5 b) ?_)))))))
     rintro _ w ⟨rfl, b⟩
     refine ⟨_, rfl, ?_⟩
     refine bE d fun j2 a0 d => yY (yIs SL_22 e0 e0 b rO2 a0) (yT (r_sti (cs := [iV g4]) (b.k1a) O_3 rfl e0 e0 rfl mkI a0) fun w b => wN (g2 _ _ _ (g1 _ _ (wR (yY (yadd (eh z) rfl) (Ym (iV (wa .i64 p 1)) e0 (wN ?_)))))))
     cases d
     exact f5 _ _ _ rfl ⟨_, _, _, rfl, rfl, R, S, T, I, U, V, rfl, (b.k1e)⟩
    ·refine wp_exit (f9 _ _ _ rfl ?_)
     cases d
     exact f6 _ _ _ _ rfl rfl (f1 _ _ _ I (b.k1f) (f4 _ rfl))
  refine loopQ (fun s a w => ∃ (k : Int) (f : FV), k = s ∧ a = fr 76 f ∧ f 1 = iV l ∧ f 7 = j.v ∧ f 8 = h.v ∧ f 10 = iV t ∧ f 11 = iV k ∧ St w0 ros (row 22 rH j.v n :: fam 3 I1 n i.1 :: row 3 I1 h.v i.2.1 :: rs) w) d1 ⟨_, _, rfl, rfl, rfl, rfl, rfl, rfl, rfl, b⟩ ?_
  rintro _ _ w j3 ⟨k, f, rfl, rfl, a3, a4, B, a5, x, b⟩ q g6 j4 g7 g8
  refine seqQ fun j6 g9 h0 => sR fun _ h1 => Ym (iV k) (eh x) (Ym h.v (eh B) (yY (yLen SL_22 e0 b rO2) (yY (ylss e0 e0) (Ym (.bool (decide (k < (i.2.1.length : Int)))) e0 (bE q fun h3 r q => ?_)))))
  refine joinW 7 (fun f w => f 1 = iV l ∧ f 7 = j.v ∧ f 8 = h.v ∧ f 10 = iV t ∧ f 11 = iV k ∧ f 43 = .bool h3 ∧ St w0 ros (row 22 rH j.v n :: fam 3 I1 n i.1 :: row 3 I1 h.v i.2.1 :: rs) w) (fun a6 => ?_) ?_
  ·rcases iteS r with ⟨g, r⟩ | ⟨g, r⟩
   ·refine yG (dT g) (m_ h.v (eh B)) (yG (dT g) (m_ (iV k) (eh x)) (bE r fun h4 a7 r => yG (dT g) (yIa SL_22 e0 e0 b rO2 a7) (yG (dT g) (yI O_3 e0 b rO2 a7) (yG (dT g) (m_ (iV k) (eh x)) (yG (dT g) (yeql e0 e0) (yY (pt_ (.bool (decide (h4 = k))) e0 (dT g) e0) ?_))))))
    cases r
    exact a6 _ _ ⟨a3, a4, B, a5, x, rfl, b⟩
   ·refine gN (dF g) (gN (dF g) (gN (dF g) (gN (dF g) (gN (dF g) (gN (dF g) (yY (pf_ (.bool false) e0 (dF g) rfl) ?_))))))
    cases r
    exact a6 _ _ ⟨a3, a4, B, a5, x, rfl, b⟩
  rintro f w ⟨a8, a9, b0, b1, b2, h5, b⟩
  refine wK h1 (cB (eh h5) q (fun h6 q => ?_) fun h6 q => ?_)
  ·refine wp_skip (g9 _ _ (blockQ fun _ h8 => wR (Ym (iV k) (eh b2) (yY (yadd e0 rfl) (Ya (iV (wa .i64 k 1)) e0 (wN (h8 _ _ _ ?_)))))))
   cases q
   exact g7 _ _ _ rfl ⟨_, _, rfl, rfl, a8, a9, b0, b1, rfl, b⟩
  ·refine wp_exit (h0 _ _ _ rfl ?_)
   cases q
   exact g8 _ _ _ _ rfl rfl (d2 _ _ _ a8 a9 b0 b1 b2 b (g6 _ rfl))
 ·refine condT e0 (nT (dF E)) (sR fun _ h9 => Ym (iV y) e0 (Ya hnil.v rfl (Ya (iV y) e0 (wK h9 (wp_ret (b7 _ _ _ rfl ?_))))))
  cases c
  replace b := b.rowNh 3 I1
  exact D _ _ _ (fin2r Tryz.results44 ⟨rfl, rfl⟩ ⟨rfl, rfl⟩ ⟨_, rfl, b⟩)
theorem modular_Combine_1_ok {a : Int} {out : Bool} (b : modular_Combine_1 a = some out) (c : St w0 ros rs w) :
  Calls Tryz.prog 58 #[iV a] w (fun e w => e = .returned (.bool out) ∧ St w0 ros rs w) := by
 refine enterQ Tryz.func58 rfl Tryz.ntmps58 rfl fun Q d => sR fun _ f => Ya (.bool false) rfl (wK f (sR fun _ g => Ym (iV a) e0 (bE b fun h i b => yC (yCall FN_24 (a1 e0)) (modular_IsPrime_ok i c) ?_)))
 rintro _ w ⟨rfl, c⟩
 refine ⟨_, rfl, ?_⟩
 refine yY (ynot e0) (Ya (.bool (!h)) e0 (wK g (wp_ret ?_)))
 cases b
 exact d _ _ _ (fin1r Tryz.results58 ⟨rfl, rfl⟩ ⟨rfl, c⟩)
theorem slices_IndexFunc_int_v3_ok {i : LI} {g : Hdr} {out : Int} (h : slices_IndexFunc_int_v3 i = some out) (j : imm I1 g.v i ∈ ros) (b : St w0 ros rs w) :
  Calls Tryz.prog 103 #[g.v, .func (.func 58) #[] #[]] w (fun e w => e = .returned (iV out) ∧ St w0 ros rs w) := by
 refine enterQ Tryz.func103 rfl Tryz.ntmps103 rfl fun Q m => sR fun _ A => Ya (iV 0) rfl (wK A (seqQ fun Z B C => sR fun _ D => Ym g.v e0 (yY (yLen SL_22 e0 b (rdI j)) (Ym (iV 0) rfl (wK D ?_)))))
 refine blockQ fun n o => bE h fun p E h => ?_
 have F : ∀ (f : FV) w, St w0 ros rs w → .inl () = p → n (.exit 0) (fr 19 f) w := by
  intro f w b ho
  subst ho
  refine o _ _ _ (B _ _ (sR fun _ G => Ya (iV (-1)) rfl (wK G (wp_ret ?_))))
  cases h
  exact m _ _ _ (fin1r Tryz.results103 ⟨rfl, rfl⟩ ⟨rfl, b⟩)
 have H : ∀ (k : Int) (f : FV) w, f 4 = iV k → St w0 ros rs w → .inr k = p → n .ret (fr 19 f) w := by
  intro k f w I b ho
  subst ho
  refine o _ _ _ (C _ _ _ rfl ?_)
  cases h
  exact m _ _ _ (fin1r Tryz.results103 ⟨rfl, I⟩ ⟨rfl, b⟩)
 refine loopQ (fun s a w => ∃ (d : Int) (f : FV), d = s ∧ a = fr 19 f ∧ f 0 = g.v ∧ f 1 = .func (.func 58) #[] #[] ∧ f 7 = iV (i.length : Int) ∧ f 8 = iV d ∧ St w0 ros rs w) E ⟨_, _, rfl, rfl, rfl, rfl, rfl, rfl, b⟩ ?_
 rintro _ _ w a0 ⟨d, f, rfl, rfl, q, r, t, l, b⟩ c u a2 J x
 refine sR fun _ K => yY (ylss (eh l) (eh t)) (wK K (seqQ fun a3 L N => ?_))
 refine cIf e0 c (fun O c => ?_) fun O c => ?_
 ·refine wp_skip (L _ _ (seqQ fun a4 R S => blockQ fun _ y => sR fun _ T => Ym (iV d) (eh l) (Ya (iV d) e0 (wK T (sR fun _ U => Ym (.func (.func 58) #[] #[]) (eh r) (Ym g.v (eh q) ?_))))))
  refine Ym (iV d) e0 (bE c fun a5 z c => yY (yIa SL_22 e0 e0 b (rdI j) z) (yY (yI O_3 e0 b (rdI j) z) (bE c fun a6 V c => yC (yCallw FN_58 e0 (a1 e0)) (modular_Combine_1_ok V b) ?_)))
  rintro _ w ⟨rfl, b⟩
  refine ⟨_, rfl, ?_⟩
  refine wK U (cB e0 c (fun W c => ?_) fun W c => ?_)
  ·refine sR fun _ X => Ym (iV d) e0 (Ya (iV d) e0 (wK X (wp_ret (y _ _ _ (S _ _ _ rfl ?_)))))
   cases c
   exact x _ _ _ _ rfl rfl (H _ _ _ rfl b (u _ rfl))
  ·refine wp_skip (y _ _ _ (R _ _ (wR (yY (yadd (eh l) rfl) (Ym (iV (wa .i64 d 1)) e0 (wN ?_))))))
   cases c
   exact J _ _ _ rfl ⟨_, _, rfl, rfl, q, r, t, rfl, b⟩
 ·refine wp_exit (N _ _ _ rfl ?_)
  cases c
  exact x _ _ _ _ rfl rfl (F _ _ b (u _ rfl))
theorem slices_ContainsFunc_int_v2_ok {d : LI} {a : Hdr} {out : Bool} (b : slices_ContainsFunc_int_v2 d = some out) (f : imm I1 a.v d ∈ ros) (c : St w0 ros rs w) :
  Calls Tryz.prog 57 #[a.v, .func (.func 58) #[] #[]] w (fun e w => e = .returned (.bool out) ∧ St w0 ros rs w) := by
 refine enterQ Tryz.func57 rfl Tryz.ntmps57 rfl fun Q g => sR fun _ h => Ya (.bool false) rfl (wK h (sR fun _ i => Ym a.v e0 (Ym (.func (.func 58) #[] #[]) e0 (bE b fun j k b => yC (yCall FN_103 (a2 e0 e0)) (slices_IndexFunc_int_v3_ok k f c) ?_))))
 rintro _ w ⟨rfl, c⟩
 refine ⟨_, rfl, ?_⟩
 refine yY (ygeq e0 rfl) (Ya (.bool (decide ((0 : Int) ≤ j))) e0 (wK i (wp_ret ?_)))
 cases b
 exact g _ _ _ (fin1r Tryz.results57 ⟨rfl, rfl⟩ ⟨rfl, c⟩)
theorem slices_Values_int_ok {c : LI} {a : Hdr} {out : Unit} (g : slices_Values_int c = some out) (k : imm I1 a.v c ∈ ros) (b : St w0 ros rs w) :
  Calls Tryz.prog 60 #[a.v] w (fun e w => ∃ (d : Nat), e = .returned (.func (.func 106) #[] #[(pB d)]) ∧ St w0 ros (box d 22 [a.v] :: rs) w) := by
 refine enterQ Tryz.func60 rfl Tryz.ntmps60 rfl fun Q h => sR fun _ i => yBb (r_box (vals := [a.v]) b e0 rfl) fun f w b => Ya .nilFunc rfl (wK i (sR fun _ j => yY (ymf (vf := #[]) (vc := #[(pB f)]) a0 (a1 e0)) (Ya (.func (.func 106) #[] #[(pB f)]) e0 (wK j ?_))))
 refine wp_ret ?_
 cases g
 exact h _ _ _ (fin1r Tryz.results60 ⟨rfl, rfl⟩ ⟨_, rfl, b⟩)
theorem slices_Collect_int_ok {f : LI} {a : Nat} {b : Hdr} {out : LI} (c : slices_Collect_int f = some out) (h : imm I1 b.v f ∈ ros) (d : St w0 ros (box a 22 [b.v] :: rs) w) :
  Calls Tryz.prog 104 #[.func (.func 106) #[] #[(pB a)]] w (fun e w => ∃ (g : Hdr), e = .returned (g.v) ∧ St w0 ros (box a 22 [b.v] :: row 3 I1 g.v out :: rs) w) := by
 refine enterQ Tryz.func104 rfl Tryz.ntmps104 rfl fun Q i => sR fun _ j => Ya hnil.v rfl (wK j (sR fun _ k => Ym (.func (.func 106) #[] #[(pB a)]) e0 (bE c fun n l c => yC (yCall FN_132 (a2 rfl e0)) (colV_ok l h d) ?_)))
 rintro _ w ⟨m, rfl, d⟩
 refine ⟨_, rfl, ?_⟩
 refine Ya m.v e0 (wK k (wp_ret ?_))
 cases c
 exact i _ _ _ (fin1r Tryz.results104 ⟨rfl, rfl⟩ ⟨_, rfl, (d.k11)⟩)
theorem slices_Sorted_int_ok {g : LI} {c : Nat} {f : Hdr} {out : LI} (b : slices_Sorted_int g = some out) (i : imm I1 f.v g ∈ ros) (a : St w0 ros (box c 22 [f.v] :: rs) w) :
  Calls Tryz.prog 59 #[.func (.func 106) #[] #[(pB c)]] w (fun e w => ∃ (h : Hdr), e = .returned (h.v) ∧ St w0 ros (box c 22 [f.v] :: row 3 I1 h.v out :: rs) w) := by
 refine enterQ Tryz.func59 rfl Tryz.ntmps59 rfl fun Q j => sR fun _ k => Ya hnil.v rfl (wK k (sR fun _ l => Ym (.func (.func 106) #[] #[(pB c)]) e0 (bE b fun q m b => yC (yCall FN_104 (a1 e0)) (slices_Collect_int_ok m i a) ?_)))
 rintro _ w ⟨d, rfl, a⟩
 refine ⟨_, rfl, ?_⟩
 refine Ya d.v e0 (wK l (sR fun _ n => Ym d.v e0 (bE b fun r o b => ?_)))
 replace a := a.k11
 refine yC (yCall FN_105 (a1 e0)) (sortI_ok o a) ?_
 rintro _ w ⟨rfl, a⟩
 refine ⟨_, rfl, ?_⟩
 refine wK n (sR fun _ p => Ym d.v e0 (Ya d.v e0 (wK p (wp_ret ?_))))
 cases b
 exact j _ _ _ (fin1r Tryz.results59 ⟨rfl, rfl⟩ ⟨_, rfl, (a.k11)⟩)
theorem integer_trim_ok {n : LI} {d : Hdr} {out : LI} (j : integer_trim n = some out) (k : imm (rI .u32) d.v n ∈ ros) (b : St w0 ros rs w) :
  Calls Tryz.prog 77 #[d.v] w (fun e w => ∃ (p : Hdr), e = .returned (p.v) ∧ St w0 (imm (rI .u32) p.v out :: ros) rs w) := by
 refine enterQ Tryz.func77 rfl Tryz.ntmps77 rfl fun Q y => sR fun _ k1 => Ya hnil.v rfl (wK k1 (sR fun _ z => Ym d.v e0 (yY (yLen SL_25 e0 b (rdI k)) (Ya (iV (n.length : Int)) e0 (wK z (sQ fun _ A => ?_))))))
 refine blockQ fun B C => bE j fun D E j => ?_
 have F : ∀ (l : Int) (f : FV) w, f 0 = d.v → f 3 = iV l → St w0 ros rs w → l = D → B (.exit 0) (fr 21 f) w := by
  intro l f w G H b ho
  subst ho
  refine C _ _ _ (A _ _ (sR fun _ I => Ym d.v (eh G) (Ym (iV l) (eh H) (bE j fun X q j => yY (ySl (k1 := .i64) SL_25 e0 b (rdI k) (.inr ⟨rfl, rfl⟩) (.inl (congrArg some e0)) q) ?_))))
  replace b := b.sub k q
  refine Ya ((subH d 1 0 l).v) e0 (wK I (wp_ret ?_))
  cases j
  exact y _ _ _ (fin1r Tryz.results77 ⟨rfl, rfl⟩ ⟨_, rfl, b⟩)
 refine loopQ (fun s a w => ∃ (g : Int) (f : FV), g = s ∧ a = fr 21 f ∧ f 0 = d.v ∧ f 3 = iV g ∧ St w0 ros rs w) E ⟨_, _, rfl, rfl, rfl, rfl, b⟩ ?_
 rintro _ _ w Z ⟨g, f, rfl, rfl, o, m, b⟩ h J a0 K L
 refine seqQ fun a1 N O => sR fun _ R => Ym (iV g) (eh m) (yY (ygtr e0 rfl) (Ym (.bool (decide ((0 : Int) < g))) e0 (bE h fun S i h => ?_)))
 refine joinW 7 (fun f w => f 0 = d.v ∧ f 3 = iV g ∧ f 15 = .bool S ∧ St w0 ros rs w) (fun r => ?_) ?_
 ·rcases iteS i with ⟨c, i⟩ | ⟨c, i⟩
  ·refine yG (dT c) (m_ d.v (eh o)) (yG (dT c) (m_ (iV g) (eh m)) (yG (dT c) (ysub e0 rfl) (bE i fun T t i => yG (dT c) (yIa SL_25 e0 e0 b (rdI k) t) (yG (dT c) (yI O_88 e0 b (rdI k) t) (yG (dT c) (yeql e0 rfl) (yY (pt_ (.bool (decide (T = 0))) e0 (dT c) e0) ?_))))))
   cases i
   exact r _ _ ⟨o, m, rfl, b⟩
  ·refine gN (dF c) (gN (dF c) (gN (dF c) (gN (dF c) (gN (dF c) (gN (dF c) (yY (pf_ (.bool false) e0 (dF c) rfl) ?_))))))
   cases i
   exact r _ _ ⟨o, m, rfl, b⟩
 rintro f w ⟨u, x, U, b⟩
 refine wK R (cB (eh U) h (fun V h => ?_) fun V h => ?_)
 ·refine wp_skip (N _ _ (blockQ fun _ W => wR (Ym (iV g) (eh x) (yY (ysub e0 rfl) (Ya (iV (ws .i64 g 1)) e0 (wN (W _ _ _ ?_)))))))
  cases h
  exact K _ _ _ rfl ⟨_, _, rfl, rfl, u, rfl, b⟩
 ·refine wp_exit (O _ _ _ rfl ?_)
  cases h
  exact L _ _ _ _ rfl rfl (F _ _ _ u x b (J _ rfl))
theorem integer_big_ok {b : Bool} {g : LI} {f : Hdr} {out : Bool × LI} (c : integer_big b g = some out) (j : imm (rI .u32) f.v g ∈ ros) (a : St w0 ros rs w) :
  Calls Tryz.prog 74 #[.bool b, f.v] w (fun e w => ∃ (h : Hdr), e = .returned (.agg #[.bool out.1, h.v]) ∧ St w0 (imm (rI .u32) h.v out.2 :: ros) rs w) := by
 refine enterQ Tryz.func74 rfl Tryz.ntmps74 rfl fun Q i => sR fun _ k => yBb (rAl a ZT_27) fun t w a => wK k (sR fun _ l => Ym f.v e0 (bE c fun u m c => yC (yCall FN_77 (a1 e0)) (integer_trim_ok m j a) ?_))
 rintro _ w ⟨d, rfl, a⟩
 refine ⟨_, rfl, ?_⟩
 refine Ya d.v e0 (wK l (seqQ fun x n o => sR fun _ p => Ym d.v e0 (yY (yLen SL_25 e0 a (rdI F0)) (yY (yeql e0 rfl) (wK p ?_)))))
 refine cIf e0 c (fun q c => ?_) fun q c => ?_
 ·refine sR fun _ r => yY (ybuild (us := [.bool false, hnil.v]) [] SO_27 bp0 rfl) (yT (r_stbn (vals' := [.bool false, hnil.v]) (us := [.bool false, hnil.v]) a ST_27 e0 e0 rfl rfl (one_of rfl) rfl) fun w a => wK r (wp_ret (o _ _ _ rfl ?_)))
  cases c
  replace a := a.immNh (rI .u32)
  exact i _ _ _ (fin1r Tryz.results74 (rcs2 rfl rfl a R0 ST_27 rfl) ⟨_, rfl, ((a.k10).facts (allC F0 (allT (allT allI))))⟩)
 ·refine wp_skip (n _ _ (sR fun _ s => Ym (.bool b) e0 (Ym d.v e0 (yY (ybuild (us := [.bool b, d.v]) [(0, .bool b), (1, d.v)] SO_27 (bp2 e0 e0) rfl) (yT (r_stbn (vals' := [.bool b, d.v]) (us := [.bool b, d.v]) a ST_27 e0 e0 rfl rfl (one_of rfl) rfl) fun w a => wK s (wp_ret ?_))))))
  cases c
  exact i _ _ _ (fin1r Tryz.results74 (rcs2 rfl rfl a R0 ST_27 rfl) ⟨_, rfl, (a.k10)⟩)
theorem integer_FromInt_ok {c : Int} {out : Bool × LI} (d : integer_FromInt c = some out) (a : St w0 ros rs w) :
  Calls Tryz.prog 23 #[iV c] w (fun e w => ∃ (g : Hdr), e = .returned (.agg #[.bool out.1, g.v]) ∧ St w0 (imm (rI .u32) g.v out.2 :: ros) rs w) := by
 refine enterQ Tryz.func23 rfl Tryz.ntmps23 rfl fun Q p => sR fun _ q => yBb (rAl a ZT_27) fun h w a => wK q (sR fun _ r => Ym (iV c) e0 (yY (ycv (k' := .u64) (by kernel_rfl) (by kernel_rfl) e0) (Ya (.int .u64 (wc .u64 c)) e0 (wK r ?_))))
 refine sQ fun s t => sR fun _ u => Ym (iV c) e0 (yY (ylss e0 rfl) (wK u ?_))
 have i : ∀ (b : Int) (f : FV) w, f 0 = iV c → f 2 = (pB h) → f 3 = .int .u64 b → St w0 ros (box h 27 [.bool false, hnil.v] :: rs) w → integer_FromInt_j1 c b = some out → s .normal (fr 20 f) w := by
  intro b f w x j k a d
  refine t _ _ (sR fun _ y => Ym (iV c) (eh x) (yY (ylss e0 rfl) (Ym (.int .u64 b) (eh k) (yY (yand e0 rfl) (yY (ycv (k' := .u32) (by kernel_rfl) (by kernel_rfl) e0) (Ym (.int .u64 b) (eh k) (yY (yshrc e0 rfl) (yY (ycv (k' := .u32) (by kernel_rfl) (by kernel_rfl) e0) (yH (rLt (n := 2) (l := [wc .u32 (wand .u64 b 4294967295), wc .u32 (wsrc .u64 b 32)]) a SL_25 [.int .u32 (wc .u32 (wand .u64 b 4294967295)), .int .u32 (wc .u32 (wsrc .u64 b 32))] (bp2 e0 e0) rfl rfl (mks1 (cs := [.int .u32 (wc .u32 (wand .u64 b 4294967295))]) rfl mkI (mks1 (cs := [.int .u32 (wc .u32 (wsrc .u64 b 32))]) rfl mkI mks0))) fun B w a => bE d fun m z d => ?_)))))))))
  replace a := a.fz
  refine yC (yCall FN_74 (a2 e0 e0)) (integer_big_ok z F0 a) ?_
  rintro _ w ⟨o, rfl, a⟩
  refine ⟨_, rfl, ?_⟩
  refine yT (r_stbn (vals' := [.bool m.1, o.v]) (us := [.bool m.1, o.v]) a ST_27 (eh j) e0 rfl rfl (one_of rfl) rfl) fun w a => wK y (wp_ret ?_)
  cases d
  exact p _ _ _ (fin1r Tryz.results23 (rcs2 rfl j a R0 ST_27 rfl) ⟨_, rfl, ((a.k10).facts (allC F0 (allT (allT allI))))⟩)
 refine cIf e0 d (fun A d => ?_) fun A d => ?_
 ·exact wR (Ym (.int .u64 (wc .u64 c)) e0 (yY (yneg e0) (Ya (.int .u64 (wneg .u64 (wc .u64 c))) e0 (wN (i _ _ _ rfl rfl rfl a d)))))
 ·exact wp_skip (i _ _ _ rfl rfl rfl a d)
theorem cmp_isNaN_uint32_ok {a : Int} {out : Bool} (b : cmp_isNaN_uint32 a = some out) (c : St w0 ros rs w) :
  Calls Tryz.prog 160 #[.int .u32 a] w (fun e w => e = .returned (.bool out) ∧ St w0 ros rs w) := by
 refine enterQ Tryz.func160 rfl Tryz.ntmps160 rfl fun Q d => sR fun _ f => Ya (.bool false) rfl (wK f (sR fun _ g => Ym (.int .u32 a) e0 (Ym (.int .u32 a) e0 (yY (yneq e0 e0) (Ya (.bool (!(decide (a = a)))) e0 (wK g ?_))))))
 refine wp_ret ?_
 cases b
 exact d _ _ _ (fin1r Tryz.results160 ⟨rfl, rfl⟩ ⟨rfl, c⟩)
theorem cmp_Compare_uint32_ok {d f out : Int} (a : cmp_Compare_uint32 d f = some out) (b : St w0 ros rs w) :
  Calls Tryz.prog 136 #[.int .u32 d, .int .u32 f] w (fun e w => e = .returned (iV out) ∧ St w0 ros rs w) := by
 refine enterQ Tryz.func136 rfl Tryz.ntmps136 rfl fun Q c => sR fun _ j => Ya (iV 0) rfl (wK j (sR fun _ k => Ym (.int .u32 d) e0 (bE a fun h l a => yC (yCall FN_160 (a1 e0)) (cmp_isNaN_uint32_ok l b) ?_)))
 rintro _ w ⟨rfl, b⟩
 refine ⟨_, rfl, ?_⟩
 refine Ya (.bool h) e0 (wK k (sR fun _ m => Ym (.int .u32 f) e0 (bE a fun g n a => yC (yCall FN_160 (a1 e0)) (cmp_isNaN_uint32_ok n b) ?_)))
 rintro _ w ⟨rfl, b⟩
 refine ⟨_, rfl, ?_⟩
 refine Ya (.bool g) e0 (wK m (seqQ fun R o i => sR fun _ p => Ym (.bool h) e0 (wK p (cB e0 a (fun q a => ?_) fun q a => ?_))))
 ·refine seqQ fun S r s => sR fun _ t => Ym (.bool g) e0 (wK t (cB e0 a (fun u a => ?_) fun u a => ?_))
  ·refine sR fun _ v => Ya (iV 0) rfl (wK v (wp_ret (s _ _ _ rfl (i _ _ _ rfl ?_))))
   cases a
   exact c _ _ _ (fin1r Tryz.results136 ⟨rfl, rfl⟩ ⟨rfl, b⟩)
  ·refine wp_skip (r _ _ (sR fun _ x => Ya (iV (-1)) rfl (wK x (wp_ret (i _ _ _ rfl ?_)))))
   cases a
   exact c _ _ _ (fin1r Tryz.results136 ⟨rfl, rfl⟩ ⟨rfl, b⟩)
 ·refine wp_skip (o _ _ (seqQ fun T y z => sR fun _ A => Ym (.bool g) e0 (wK A (cB e0 a (fun B a => ?_) fun B a => ?_))))
  ·refine sR fun _ C => Ya (iV 1) rfl (wK C (wp_ret (z _ _ _ rfl ?_)))
   cases a
   exact c _ _ _ (fin1r Tryz.results136 ⟨rfl, rfl⟩ ⟨rfl, b⟩)
  ·refine wp_skip (y _ _ (seqQ fun U D E => sR fun _ F => Ym (.int .u32 d) e0 (Ym (.int .u32 f) e0 (yY (ylss e0 e0) (wK F ?_)))))
   refine cIf e0 a (fun G a => ?_) fun G a => ?_
   ·refine sR fun _ H => Ya (iV (-1)) rfl (wK H (wp_ret (E _ _ _ rfl ?_)))
    cases a
    exact c _ _ _ (fin1r Tryz.results136 ⟨rfl, rfl⟩ ⟨rfl, b⟩)
   ·refine wp_skip (D _ _ (seqQ fun V I J => sR fun _ K => Ym (.int .u32 d) e0 (Ym (.int .u32 f) e0 (yY (ygtr e0 e0) (wK K ?_)))))
    refine cIf e0 a (fun L a => ?_) fun L a => ?_
    ·refine sR fun _ N => Ya (iV 1) rfl (wK N (wp_ret (J _ _ _ rfl ?_)))
     cases a
     exact c _ _ _ (fin1r Tryz.results136 ⟨rfl, rfl⟩ ⟨rfl, b⟩)
    ·refine wp_skip (I _ _ (sR fun _ O => Ya (iV 0) rfl (wK O (wp_ret ?_))))
     cases a
     exact c _ _ _ (fin1r Tryz.results136 ⟨rfl, rfl⟩ ⟨rfl, b⟩)
end Go.Proofs.YtnfamnfdndaekaaGreatDoor
