/- Walks: each function computes its model, printed. -/
import Derived.Test.YtnfamnfdndaekaaGreatDoorW0
namespace Go.Proofs.YtnfamnfdndaekaaGreatDoor
open Go Sx M
set_option maxRecDepth 100000
set_option maxHeartbeats 40000000
set_option linter.unusedVariables false
attribute [local irreducible] wpList Code.wp Calls DR QR QS LA LS St
variable {w0 : World} {ros : List Fact} {rs : List Res} {w : World}
theorem modular_echelon_ok {d3 : L2} {o : Int} {c : Hdr} {i : List Hdr} {out : L2 × LI × Int} (g : modular_echelon d3 o = some out) (b : St w0 ros (row 22 rH c.v i :: fam 3 I1 i d3 :: rs) w) :
  Calls Tryz.prog 81 #[c.v, iV o] w (fun e w => ∃ (d4 : Hdr), e = .returned (.tuple #[d4.v, iV out.2.2]) ∧ St w0 ros (row 22 rH c.v i :: fam 3 I1 i out.1 :: row 3 I1 d4.v out.2.1 :: rs) w) := by
 refine enterQ Tryz.func81 rfl Tryz.ntmps81 rfl fun Q f9 => sR fun _ g0 => Ya hnil.v rfl (Ya (iV 0) rfl (wK g0 (sR fun _ k2 => Ya (iV 1) rfl (wK k2 (sQ fun _ g1 => sQ fun _ g2 => ?_)))))
 refine wR (Ym c.v e0 (bE g fun y g3 g => ?_))
 have D := b
 replace b := b.ffz
 have t := b.guest0
 replace b := D
 clear D
 refine yC (yCall FN_94 (a1 e0)) (modular_columns_ok g3 F0 t) ?_
 clear t
 rintro _ w ⟨rfl, t⟩
 replace b := b.back t
 clear t
 refine ⟨_, rfl, ?_⟩
 refine Ym (iV 0) rfl (wK g2 (blockQ fun g4 g5 => bE g fun g6 g7 g => ?_))
 have d5 : ∀ (a3 : L2) (a4 : LI) (E : Int) (F : Hdr) (f : FV) w, f 4 = F.v → f 5 = iV E → St w0 ros (row 22 rH c.v i :: fam 3 I1 i a3 :: row 3 I1 F.v a4 :: rs) w → (a3, a4, E) = g6 → g4 (.exit 0) (fr 137 f) w := by
  intro a3 a4 E F f w g8 g9 b ho
  subst ho
  refine g5 _ _ _ (g1 _ _ (sR fun _ h0 => Ym F.v (eh g8) (Ym (iV E) (eh g9) (Ya F.v e0 (Ya (iV E) e0 (wK h0 (wp_ret ?_)))))))
  cases g
  exact f9 _ _ _ (fin2r Tryz.results81 ⟨rfl, rfl⟩ ⟨rfl, rfl⟩ ⟨_, rfl, b⟩)
 replace b := b.rowNh 3 I1
 refine loopQ (fun s a w => ∃ (G : L2) (d : LI) (C h : Int) (f : FV) (k : Hdr), (G, d, C, h) = s ∧ a = fr 137 f ∧ f 0 = c.v ∧ f 1 = iV o ∧ f 4 = k.v ∧ f 5 = iV C ∧ f 14 = iV y ∧ f 15 = iV h ∧ St w0 ros (row 22 rH c.v i :: fam 3 I1 i G :: row 3 I1 k.v d :: rs) w) g7 ⟨_, _, _, _, _, _, rfl, rfl, rfl, rfl, rfl, rfl, rfl, rfl, (b.k14)⟩ ?_
 rintro _ _ w d6 ⟨G, d, C, h, f, k, rfl, rfl, K, d7, H, L, a5, N, b⟩ j d8 u0 h1 d9
 refine sR fun _ h3 => yY (ylss (eh N) (eh a5)) (wK h3 (seqQ fun u1 h4 h5 => ?_))
 refine cIf e0 j (fun h6 j => ?_) fun h6 j => ?_
 ·refine wp_skip (h4 _ _ (seqQ fun h7 h8 h9 => ?_))
  have e1 : ∀ (a6 : L2) (a7 : LI) (a8 : Int) (a9 : Hdr) (f : FV) w, f 0 = c.v → f 1 = iV o → f 4 = a9.v → f 5 = iV a8 → f 14 = iV y → f 15 = iV h → St w0 ros (row 22 rH c.v i :: fam 3 I1 i a6 :: row 3 I1 a9.v a7 :: rs) w → modular_echelon_j161 h a6 a7 a8 = some d6 → h7 .normal (fr 137 f) w := by
   intro a6 a7 a8 a9 f w i0 i1 i2 i3 i4 i5 b g
   refine h8 _ _ (wR (yY (yadd (eh i5) rfl) (Ym (iV (wa .i64 h 1)) e0 (wN ?_))))
   cases g
   exact h1 _ _ _ rfl ⟨_, _, _, _, _, _, rfl, rfl, i0, i1, i2, i3, i4, rfl, b⟩
  refine blockQ fun _ b0 => sR fun _ i6 => Ym (iV h) (eh N) (yBb (rAl b ZT_3) fun p w b => yT (r_stb1 (vals' := [iV h]) b O_3 e0 e0 rfl rfl rfl rfl) fun w b => wK i6 (sR fun _ i7 => Ym k.v (eh H) (yY (yLen SL_22 e0 b rO3) ?_)))
  refine Ya (iV (d.length : Int)) e0 (wK i7 (seqQ fun u2 i8 i9 => sR fun _ j0 => Ym (iV (d.length : Int)) e0 (Ym c.v (eh K) (yY (yLenF SLH_52 e0 b rO1 R2) (yY (yeql e0 e0) (wK j0 ?_))))))
  refine cIf e0 j (fun j1 j => ?_) fun j1 j => ?_
  ·refine wp_exit (i9 _ _ _ rfl (b0 _ _ _ (h9 _ _ _ rfl ?_)))
   cases j
   exact d9 _ _ _ _ rfl rfl (d5 _ _ _ _ _ _ H L (b.k17) (d8 _ rfl))
  ·refine wp_skip (i8 _ _ (sR fun _ j2 => Ym (iV (d.length : Int)) e0 (Ym c.v (eh K) (Ym (iV (d.length : Int)) e0 (bE j fun u3 e2 j => yY (ySlF (k2 := .i64) SLH_52 e0 b rO1 R2 (.inl (congrArg some e0)) (.inr ⟨rfl, rfl⟩) e2) (yY (ymf (vf := #[]) (vc := #[(pB p)]) a0 (a1 e0)) (bE j fun b1 j3 j => ?_)))))))
   have D := b
   replace b := ((b.k14).ffz).sub F0 e2
   have t := b.guestB
   replace b := D
   clear D
   refine yC (yCall FN_119 (a2 e0 e0)) (slices_IndexFunc_int_v2_ok j3 F1 t) ?_
   clear t
   rintro _ w ⟨rfl, t⟩
   replace b := b.backB t
   clear t
   refine ⟨_, rfl, ?_⟩
   refine yY (yadd e0 e0) (Ya (iV (wa .i64 (d.length : Int) b1)) e0 (wK j2 (seqQ fun u4 j4 j5 => sR fun _ j6 => Ym (iV (wa .i64 (d.length : Int) b1)) e0 (Ym (iV (d.length : Int)) e0 (yY (ylss e0 e0) (wK j6 ?_))))))
   refine cIf e0 j (fun j7 j => ?_) fun j7 j => ?_
   ·exact wp_exit (j5 _ _ _ rfl (b0 _ _ _ (e1 _ _ _ _ _ _ K d7 H L a5 N (b.k17) j)))
   ·refine wp_skip (j4 _ _ (sQ fun j8 j9 => sR fun _ k0 => Ym (iV (wa .i64 (d.length : Int) b1)) e0 (Ym (iV (d.length : Int)) e0 (yY (ygtr e0 e0) (wK k0 ?_)))))
    have k5 : ∀ (f : FV) w, f 0 = c.v → f 1 = iV o → f 4 = k.v → f 5 = iV C → f 6 = (pB p) → f 7 = iV (d.length : Int) → f 14 = iV y → f 15 = iV h → St w0 ros (row 22 rH c.v i :: fam 3 I1 i G :: row 3 I1 k.v d :: box p 3 [iV h] :: rs) w → modular_echelon_j162 G d h C o = some d6 → j8 .normal (fr 137 f) w := by
     intro f w O b2 k6 k7 b3 R k8 k9 b g
     refine j9 _ _ (sQ fun _ l0 => bE g fun u5 b4 g => bE g fun u6 e3 g => bE g fun A l1 g => dR [0, 0, 0, 6, 14, 0, 62, 126, 255, 0, 1023, 2047] [11] 1 folM ?_)
     replace b := b.drew
     refine Dn [0, 1, 2, 3, 4, 5, 6, 7, 8, 9, 10] [] [11] (yR rfl (m_ (iV C) (eh k7)) (yR rfl (m_ c.v (eh O)) (yR rfl (m_ (iV (d.length : Int)) (eh R)) ?_)))
     obtain ⟨u7, S⟩ := b.famI R1 b4
     refine yR rfl (yIa SLH_52 e0 e0 b rO0 S) (yR rfl (yF1 O_22 e0 b rO0 S rfl) (yR rfl (lb_ (iV h) O_3 (eh b3) b R3) (yR rfl (yIa SL_22 e0 e0 b (rdF R1 S b4) e3) (yR rfl (yI O_3 e0 b (rdF R1 S b4) e3) (yR rfl (ymul e0 e0) (yR rfl (m_ (iV o) (eh b2)) (yR rfl (yrem e0 e0 l1) (Rn QSn ?_))))))))
     refine Lc1 rfl ?_
     refine Ly wn (a_ (iV A) e0) (Dz [] [] (Rn QSn (l0 _ _ (sQ fun _ l2 => bE g fun u8 b5 g => bE g fun u9 e4 g => bE g fun b6 l3 g => dR [0, 0, 3, 7, 0, 31, 63, 0, 255, 511] [8, 9] 2 folM ?_))))
     replace b := b.drew
     refine Dn [0, 1, 2, 3, 4, 5, 6, 7] [] [8] (yR rfl (m_ c.v (eh O)) (yR rfl (m_ (iV (d.length : Int)) (eh R)) ?_))
     obtain ⟨v0, T⟩ := b.famI R1 b5
     refine yR rfl (yIa SLH_52 e0 e0 b rO0 T) (yR rfl (yF1 O_22 e0 b rO0 T rfl) (yR rfl (lb_ (iV h) O_3 (eh b3) b R3) (yR rfl (yIa SL_22 e0 e0 b (rdF R1 T b5) e4) (yR rfl (yI O_3 e0 b (rdF R1 T b5) e4) (yR rfl (m_ (iV o) (eh b2)) (Rn QSn ?_))))))
     refine Lc1 rfl ?_
     refine Lk wn (yCall FN_64 (a2 e0 e0)) (modular_inverse_ok l3 b) ?_
     rintro _ w ⟨rfl, b⟩
     refine ⟨_, rfl, ?_⟩
     refine Dn [] [] [9] (Rn QSn ?_)
     refine Lc1 rfl ?_
     refine Ly wn (a_ (iV b6) e0) (Dz [] [] (Rn QSn (l2 _ _ (sQ fun _ l4 => sR fun _ l5 => Ym c.v (eh O) (Ym (iV (d.length : Int)) (eh R) (bE g fun l6 e5 g => ?_))))))
     obtain ⟨v1, b7⟩ := b.famI R1 e5
     refine yY (yIa SLH_52 e0 e0 b rO0 b7) (yY (yF1 O_22 e0 b rO0 b7 rfl) (yY (yLen SL_22 e0 b (rdF R1 b7 e5)) (Ym (iV 0) rfl (wK l5 (blockQ fun l7 l8 => bE g fun l9 m0 g => ?_)))))
     have m1 : ∀ (x : L2) (f : FV) w, f 0 = c.v → f 1 = iV o → f 4 = k.v → f 5 = iV A → f 6 = (pB p) → f 7 = iV (d.length : Int) → f 14 = iV y → f 15 = iV h → St w0 ros (row 22 rH c.v i :: fam 3 I1 i x :: row 3 I1 k.v d :: box p 3 [iV h] :: rs) w → x = l9 → l7 (.exit 2) (fr 137 f) w := by
      intro x f w e6 m2 m3 m4 m5 m6 m7 m8 b ho
      subst ho
      refine l8 _ _ _ (l4 _ _ (sQ fun _ m9 => sR fun _ n0 => Ym c.v (eh e6) (yY (yLenF SLH_52 e0 b rO0 R1) (Ym (iV 0) rfl (wK n0 (blockQ fun n1 n2 => bE g fun n3 n4 g => ?_))))))
      have n5 : ∀ (f : FV) w, f 0 = c.v → f 1 = iV o → f 4 = k.v → f 5 = iV A → f 6 = (pB p) → f 14 = iV y → f 15 = iV h → St w0 ros (row 22 rH c.v i :: fam 3 I1 i x :: row 3 I1 k.v d :: box p 3 [iV h] :: rs) w → () = n3 → n1 (.exit 4) (fr 137 f) w := by
       intro f w n6 n7 n8 n9 o0 o1 o2 b ho
       subst ho
       exact n2 _ _ _ (m9 _ _ (wR (Ym k.v (eh n8) (yY (lb_ (iV h) O_3 (eh o0) b R3) (yH (rLt (n := 1) (l := [h]) b SL_22 [iV h] (bp1 e0) rfl rfl (mks1 (cs := [iV h]) rfl mkI mks0)) fun v2 w b => bE g fun v3 o3 g => yH (rAp (b.k15) SL_22 e0 e0 rO1 o3) fun o4 w b => Ya o4.v e0 (wN (b0 _ _ _ (e1 _ _ _ _ _ _ n6 n7 rfl n9 o1 o2 (b.k18) g))))))))
      refine loopQ (fun s a w => ∃ (u : Int) (f : FV), u = s ∧ a = fr 137 f ∧ f 0 = c.v ∧ f 1 = iV o ∧ f 4 = k.v ∧ f 5 = iV A ∧ f 6 = (pB p) ∧ f 7 = iV (d.length : Int) ∧ f 14 = iV y ∧ f 15 = iV h ∧ f 101 = c.v ∧ f 102 = iV (x.length : Int) ∧ f 103 = iV u ∧ St w0 ros (row 22 rH c.v i :: fam 3 I1 i x :: row 3 I1 k.v d :: box p 3 [iV h] :: rs) w) n4 ⟨_, _, rfl, rfl, e6, m2, m3, m4, m5, m6, m7, m8, rfl, rfl, rfl, b⟩ ?_
      rintro _ _ w o5 ⟨u, f, rfl, rfl, b8, b9, c0, c1, U, c2, c3, c4, c5, c6, I, b⟩ q o6 v4 o7 o8
      refine sR fun _ o9 => yY (ylss (eh I) (eh c6)) (wK o9 (seqQ fun v5 p0 p1 => ?_))
      refine cIf e0 q (fun p2 q => ?_) fun p2 q => ?_
      ·refine wp_skip (p0 _ _ (sQ fun _ p3 => blockQ fun p4 p5 => sR fun _ p6 => Ym (iV u) (eh I) (bE q fun v6 c7 q => ?_)))
       obtain ⟨e7, V⟩ := b.famI R1 c7
       refine yY (yIa SLH_52 (eh c5) (eh I) b rO0 V) (yY (yF1 O_22 e0 b rO0 V rfl) (Ya (iV u) e0 (Ya e7.v e0 (wK p6 (sR fun _ p7 => Ym (iV u) e0 (Ym (iV (d.length : Int)) (eh c2) (yY (yneq e0 e0) (Ym (.bool (!(decide (u = (d.length : Int))))) e0 (bE q fun p8 B q => ?_)))))))))
       refine joinW 6 (fun f w => f 0 = c.v ∧ f 1 = iV o ∧ f 4 = k.v ∧ f 5 = iV A ∧ f 6 = (pB p) ∧ f 7 = iV (d.length : Int) ∧ f 14 = iV y ∧ f 15 = iV h ∧ f 101 = c.v ∧ f 102 = iV (x.length : Int) ∧ f 103 = iV u ∧ f 117 = .bool p8 ∧ St w0 ros (row 22 rH c.v i :: fam 3 I1 i x :: row 3 I1 k.v d :: box p 3 [iV h] :: rs) w) (fun e8 => ?_) ?_
       ·rcases iteS B with ⟨r, B⟩ | ⟨r, B⟩
        ·refine gN (nF (dT r)) (gN (nF (dT r)) (gN (nF (dT r)) (gN (nF (dT r)) (gN (nF (dT r)) (yY (pf_ (.bool false) e0 (nF (dT r)) rfl) ?_)))))
         cases B
         exact e8 _ _ ⟨b8, b9, c0, c1, U, c2, c3, c4, c5, c6, I, rfl, b⟩
        ·refine yG (nT (dF r)) (m_ e7.v e0) (yG (nT (dF r)) (lb_ (iV h) O_3 (eh U) b R3) (bE B fun p9 e9 B => yG (nT (dF r)) (yIa SL_22 e0 e0 b (rdF R1 V c7) e9) (yG (nT (dF r)) (yI O_3 e0 b (rdF R1 V c7) e9) (yG (nT (dF r)) (yneq e0 rfl) (yY (pt_ (.bool (!(decide (p9 = 0)))) e0 (nT (dF r)) e0) ?_)))))
         cases B
         exact e8 _ _ ⟨b8, b9, c0, c1, U, c2, c3, c4, c5, c6, I, rfl, b⟩
       rintro f w ⟨q0, q1, q2, q3, q4, q5, q6, q7, q8, q9, r0, r1, b⟩
       refine wK p7 ?_
       have r2 : ∀ (f : FV) w, f 0 = c.v → f 1 = iV o → f 4 = k.v → f 5 = iV A → f 6 = (pB p) → f 7 = iV (d.length : Int) → f 14 = iV y → f 15 = iV h → f 101 = c.v → f 102 = iV (x.length : Int) → f 103 = iV u → St w0 ros (row 22 rH c.v i :: fam 3 I1 i x :: row 3 I1 k.v d :: box p 3 [iV h] :: rs) w → modular_echelon_j170 u = some o5 → p4 .normal (fr 137 f) w := by
        intro f w r3 r4 r6 r7 r8 r9 s0 s1 s2 s3 s4 b g
        refine p5 _ _ _ (p3 _ _ (wR (yY (yadd (eh s4) rfl) (Ym (iV (wa .i64 u 1)) e0 (wN ?_)))))
        cases g
        exact o7 _ _ _ rfl ⟨_, _, rfl, rfl, r3, r4, r6, r7, r8, r9, s0, s1, s2, s3, rfl, b⟩
       refine cB (eh r1) q (fun s5 q => ?_) fun s5 q => ?_
       ·cases q
       ·exact wp_skip (r2 _ _ q0 q1 q2 q3 q4 q5 q6 q7 q8 q9 r0 b q)
      ·refine wp_exit (p1 _ _ _ rfl ?_)
       cases q
       exact o8 _ _ _ _ rfl rfl (n5 _ _ b8 b9 c0 c1 U c3 c4 b (o6 _ rfl))
     refine loopQ (fun s a w => ∃ (c8 : L2) (z : Int) (f : FV), (c8, z) = s ∧ a = fr 137 f ∧ f 0 = c.v ∧ f 1 = iV o ∧ f 4 = k.v ∧ f 5 = iV A ∧ f 6 = (pB p) ∧ f 7 = iV (d.length : Int) ∧ f 9 = iV b6 ∧ f 14 = iV y ∧ f 15 = iV h ∧ f 79 = iV (l6.length : Int) ∧ f 80 = iV z ∧ St w0 ros (row 22 rH c.v i :: fam 3 I1 i c8 :: row 3 I1 k.v d :: box p 3 [iV h] :: rs) w) m0 ⟨_, _, _, rfl, rfl, O, b2, k6, rfl, b3, R, rfl, k8, k9, rfl, rfl, b⟩ ?_
     rintro _ _ w v7 ⟨c8, z, f, rfl, rfl, W, c9, f0, f1, f2, X, f3, f4, f5, f6, d0, b⟩ m s6 v8 s7 s8
     refine sR fun _ s9 => yY (ylss (eh d0) (eh f6)) (wK s9 (seqQ fun v9 t0 t1 => ?_))
     refine cIf e0 m (fun t2 m => ?_) fun t2 m => ?_
     ·refine wp_skip (t0 _ _ (sQ fun _ t3 => blockQ fun _ t4 => sR fun _ t5 => Ym (iV z) (eh d0) (Ya (iV z) e0 (wK t5 (bE m fun w1 d1 m => bE m fun w2 d2 m => bE m fun w3 f7 m => bE m fun t6 t7 m => ?_)))))
      refine bE m fun w4 f8 m => bE m fun w5 t8 m => dR [0, 0, 3, 7, 0, 0, 0, 96, 224, 0, 992, 2016, 0, 8160, 0, 32736, 65535, 131071] [17] 1 folM ?_
      replace b := b.drew
      refine Dn [0, 1, 2, 3, 4, 5, 6, 7, 8, 9, 10, 11, 12, 13, 14, 15, 16] [] [17] (yR rfl (m_ c.v (eh W)) (yR rfl (m_ (iV (d.length : Int)) (eh X)) ?_))
      obtain ⟨w6, J⟩ := b.famI R1 d1
      refine yR rfl (yIa SLH_52 e0 e0 b rO0 J) (yR rfl (yF1 O_22 e0 b rO0 J rfl) (yR rfl (m_ (iV z) e0) (yR rfl (m_ c.v (eh W)) (yR rfl (m_ (iV (d.length : Int)) (eh X)) ?_))))
      obtain ⟨w7, Z⟩ := b.famI R1 d2
      refine yR rfl (yIa SLH_52 e0 e0 b rO0 Z) (yR rfl (yF1 O_22 e0 b rO0 Z rfl) (yR rfl (m_ (iV z) e0) (yR rfl (yIa SL_22 e0 e0 b (rdF R1 Z d2) f7) (yR rfl (yI O_3 e0 b (rdF R1 Z d2) f7) (yR rfl (m_ (iV b6) (eh f3)) (yR rfl (ymul e0 e0) (yR rfl (m_ (iV o) (eh c9)) (yR rfl (yrem e0 e0 t7) (yR rfl (yIs SL_22 e0 e0 b (rdF R1 J d1) f8) (Rn QSn ?_))))))))))
      refine Lc1 rfl ?_
      replace b := b.k11
      refine LT wn (r_sti (cs := [iV t6]) (b.foc J d1) O_3 rfl e0 e0 rfl mkI f8) fun w b => ?_
      replace b := b.unfoc' J t8
      refine Dz [] [] (Rn QSn (t4 _ _ _ (t3 _ _ (wR (yY (yadd (eh d0) rfl) (Ym (iV (wa .i64 z 1)) e0 (wN ?_)))))))
      cases m
      exact s7 _ _ _ rfl ⟨_, _, _, rfl, rfl, W, c9, f0, f1, f2, X, f3, f4, f5, f6, rfl, (b.k19)⟩
     ·refine wp_exit (t1 _ _ _ rfl ?_)
      cases m
      exact s8 _ _ _ _ rfl rfl (m1 _ _ _ W c9 f0 f1 f2 X f4 f5 b (s6 _ rfl))
    refine cIf e0 j (fun t9 j => ?_) fun t9 j => ?_
    ·cases j
    ·exact wp_skip (k5 _ _ K d7 H L rfl rfl a5 N (b.k1a) j)
 ·refine wp_exit (h5 _ _ _ rfl ?_)
  cases j
  exact d9 _ _ _ _ rfl rfl (d5 _ _ _ _ _ _ H L b (d8 _ rfl))
theorem modular_Kernel_ok {K : L2} {l : Int} {u : Hdr} {out : LI × Int} (c : modular_Kernel K l = some out) (C : imm S1 u.v K ∈ ros) (b : St w0 ros rs w) :
  Calls Tryz.prog 44 #[u.v, iV l] w (fun e w => ∃ (L : Hdr), e = .returned (.tuple #[L.v, iV out.2]) ∧ St w0 ros (row 3 I1 L.v out.1 :: rs) w) := by
 refine enterQ Tryz.func44 rfl Tryz.ntmps44 rfl fun Q D => sR fun _ b3 => Ya hnil.v rfl (Ya (iV 0) rfl (wK b3 (sR fun _ b4 => Ym u.v e0 (Ym (iV l) e0 (bE c fun y b5 c => yC (yCall FN_83 (a2 e0 e0)) (modular_check_ok b5 C b) ?_)))))
 rintro _ w ⟨rfl, b⟩
 refine ⟨_, rfl, ?_⟩
 refine Ya (iV y) e0 (wK b4 (seqQ fun i0 b6 b7 => sR fun _ b8 => Ym (iV y) e0 (yY (yneq e0 rfl) (wK b8 ?_))))
 rcases iteS c with ⟨E, c⟩ | ⟨E, c⟩
 ·refine condF e0 (nF (dT E)) (wp_skip (b6 _ _ (sR fun _ b9 => Ym u.v e0 (Ym (iV l) e0 (bE c fun i1 c0 c => yC (yCall FN_82 (a2 e0 e0)) (modular_reduced_ok c0 C b) ?_)))))
  rintro _ w ⟨j, n, rfl, b⟩
  refine ⟨_, rfl, ?_⟩
  refine Ya j.v e0 (wK b9 (sR fun _ c1 => Ym j.v e0 (Ym (iV l) e0 (bE c fun i c2 c => yC (yCall FN_81 (a2 e0 e0)) (modular_echelon_ok c2 b) ?_))))
  rintro _ w ⟨h, rfl, b⟩
  refine ⟨_, rfl, ?_⟩
  refine Ym (.tuple #[h.v, iV i.2.2]) e0 (yY (x_ h.v e0) (yY (x_ (iV i.2.2) e0) (Ya h.v e0 (Ya (iV i.2.2) e0 (wK c1 (sR fun _ c3 => Ym u.v e0 (bE c fun t c4 c => yC (yCall FN_94 (a1 e0)) (modular_columns_ok c4 C b) ?_)))))))
  rintro _ w ⟨rfl, b⟩
  refine ⟨_, rfl, ?_⟩
  refine Ya (iV t) e0 (wK c3 (sR fun _ c6 => Ya (iV 0) rfl (wK c6 (sQ fun _ c7 => blockQ fun c8 c9 => bE c fun d0 d1 c => ?_))))
  have d2 : ∀ (o : Int) (f : FV) w, f 1 = iV l → f 7 = j.v → f 8 = h.v → f 10 = iV t → f 11 = iV o → St w0 ros (row 22 rH j.v n :: fam 3 I1 n i.1 :: row 3 I1 h.v i.2.1 :: rs) w → o = d0 → c8 (.exit 0) (fr 76 f) w := by
   intro o f w d3 d4 d5 N F b ho
   subst ho
   refine c9 _ _ _ (c7 _ _ (seqQ fun i2 d6 d7 => sR fun _ d8 => Ym (iV o) (eh F) (Ym (iV t) (eh N) (yY (yeql e0 e0) (wK d8 ?_)))))
   refine cIf e0 c (fun d9 c => ?_) fun d9 c => ?_
   ·refine sR fun _ e1 => Ya hnil.v rfl (Ya (iV 0) rfl (wK e1 (wp_ret (d7 _ _ _ rfl ?_))))
    cases c
    replace b := b.rowNh 3 I1
    exact D _ _ _ (fin2r Tryz.results44 ⟨rfl, rfl⟩ ⟨rfl, rfl⟩ ⟨_, rfl, (b.k1b)⟩)
   ·refine wp_skip (d6 _ _ (sR fun _ e2 => Ym (iV t) (eh N) (bE c fun i3 e3 c => yH (rMk b SL_22 e0 e3) fun m w b => Ya m.v e0 (wK e2 (sR fun _ e4 => Ym m.v e0 ?_)))))
    refine Ym (iV o) (eh F) (bE c fun i4 O c => yY (yIs SL_22 e0 e0 b rO0 O) (yT (r_sti (cs := [iV 1]) b O_3 rfl e0 rfl rfl mkI O) fun w b => wK e4 (sQ fun _ e5 => sR fun _ e6 => Ym h.v (eh d5) (yY (yLen SL_22 e0 b rO3) (Ym (iV 0) rfl (wN ?_))))))
    refine e6 _ _ (blockQ fun e7 e8 => bE c fun e9 f0 c => ?_)
    have f1 : ∀ (G : LI) (f : FV) w, f 12 = m.v → St w0 ros (row 3 I1 m.v G :: rs) w → G = e9 → e7 (.exit 2) (fr 76 f) w := by
     intro G f w f2 b ho
     subst ho
     refine e8 _ _ _ (e5 _ _ (sR fun _ f3 => Ym m.v (eh f2) (Ya m.v e0 (Ya (iV 0) rfl (wK f3 (wp_ret ?_))))))
     cases c
     exact D _ _ _ (fin2r Tryz.results44 ⟨rfl, rfl⟩ ⟨rfl, rfl⟩ ⟨_, rfl, b⟩)
    refine loopQ (fun s a w => ∃ (H : LI) (p : Int) (f : FV), (H, p) = s ∧ a = fr 76 f ∧ f 1 = iV l ∧ f 7 = j.v ∧ f 11 = iV o ∧ f 12 = m.v ∧ f 54 = h.v ∧ f 55 = iV (i.2.1.length : Int) ∧ f 56 = iV p ∧ St w0 ros (row 22 rH j.v n :: fam 3 I1 n i.1 :: row 3 I1 m.v H :: row 3 I1 h.v i.2.1 :: rs) w) f0 ⟨_, _, _, rfl, rfl, d3, d4, F, rfl, rfl, rfl, rfl, (b.k1c)⟩ ?_
    rintro _ _ w i5 ⟨H, p, f, rfl, rfl, R, S, T, I, U, V, z, b⟩ d f4 i6 f5 f6
    refine sR fun _ f7 => yY (ylss (eh z) (eh V)) (wK f7 (seqQ fun i7 f8 f9 => ?_))
    refine cIf e0 d (fun g0 d => ?_) fun g0 d => ?_
    ·refine wp_skip (f8 _ _ (sQ fun _ g1 => blockQ fun _ g2 => sR fun _ g3 => Ym (iV p) (eh z) (bE d fun W X d => yY (yIa SL_22 (eh U) (eh z) b rO3 X) (yY (yI O_3 e0 b rO3 X) (Ya (iV p) e0 (Ya (iV W) e0 (wK g3 ?_)))))))
     refine wR (Ym m.v (eh I) (Ym (iV W) e0 (Ym j.v (eh S) (Ym (iV p) e0 (bE d fun i8 J d => ?_)))))
     obtain ⟨i9, A⟩ := b.famI R1 J
     refine yY (yIa SLH_52 e0 e0 b rO0 A) (yY (yF1 O_22 e0 b rO0 A rfl) (Ym (iV o) (eh T) (bE d fun j0 Z d => yY (yIa SL_22 e0 e0 b (rdF R1 A J) Z) (yY (yI O_3 e0 b (rdF R1 A J) Z) (yY (yneg e0) (Ym (iV l) (eh R) (bE d fun g4 g5 d => yC (yCall FN_62 (a2 e0 e0)) (modular_mod_ok g5 b) ?_)))))))
     rintro _ w ⟨rfl, b⟩
     refine ⟨_, rfl, ?_⟩
     refine bE d fun j1 a0 d => yY (yIs SL_22 e0 e0 b rO2 a0) (yT (r_sti (cs := [iV g4]) (b.k1d) O_3 rfl e0 e0 rfl mkI a0) fun w b => wN (g2 _ _ _ (g1 _ _ (wR (yY (yadd (eh z) rfl) (Ym (iV (wa .i64 p 1)) e0 (wN ?_)))))))
     cases d
     exact f5 _ _ _ rfl ⟨_, _, _, rfl, rfl, R, S, T, I, U, V, rfl, (b.k1c)⟩
    ·refine wp_exit (f9 _ _ _ rfl ?_)
     cases d
     exact f6 _ _ _ _ rfl rfl (f1 _ _ _ I (b.k1e) (f4 _ rfl))
  refine loopQ (fun s a w => ∃ (k : Int) (f : FV), k = s ∧ a = fr 76 f ∧ f 1 = iV l ∧ f 7 = j.v ∧ f 8 = h.v ∧ f 10 = iV t ∧ f 11 = iV k ∧ St w0 ros (row 22 rH j.v n :: fam 3 I1 n i.1 :: row 3 I1 h.v i.2.1 :: rs) w) d1 ⟨_, _, rfl, rfl, rfl, rfl, rfl, rfl, rfl, b⟩ ?_
  rintro _ _ w j2 ⟨k, f, rfl, rfl, a3, a4, B, a5, x, b⟩ q g6 j3 g7 g8
  refine seqQ fun j4 g9 h0 => sR fun _ h1 => Ym (iV k) (eh x) (Ym h.v (eh B) (yY (yLen SL_22 e0 b rO2) (yY (ylss e0 e0) (Ym (.bool (decide (k < (i.2.1.length : Int)))) e0 (bE q fun h3 r q => ?_)))))
  refine joinW 7 (fun f w => f 1 = iV l ∧ f 7 = j.v ∧ f 8 = h.v ∧ f 10 = iV t ∧ f 11 = iV k ∧ f 43 = .bool h3 ∧ St w0 ros (row 22 rH j.v n :: fam 3 I1 n i.1 :: row 3 I1 h.v i.2.1 :: rs) w) (fun a6 => ?_) ?_
  ·rcases iteS r with ⟨g, r⟩ | ⟨g, r⟩
   ·refine yG (dT g) (m_ h.v (eh B)) (yG (dT g) (m_ (iV k) (eh x)) (bE r fun h4 a7 r => yG (dT g) (yIa SL_22 e0 e0 b rO2 a7) (yG (dT g) (yI O_3 e0 b rO2 a7) (yG (dT g) (m_ (iV k) (eh x)) (yG (dT g) (yeql e0 e0) (yY (pt_ (.bool (decide (h4 = k))) e0 (dT g) e0) ?_))))))
    cases r
    exact a6 _ _ ⟨a3, a4, B, a5, x, rfl, b⟩
   ·refine gN (dF g) (gN (dF g) (gN (dF g) (gN (dF g) (gN (dF g) (gN (dF g) (yY (pf_ (.bool false) e0 (dF g) rfl) ?_))))))
    cases r
    exact a6 _ _ ⟨a3, a4, B, a5, x, rfl, b⟩
  rintro f w ⟨a8, a9, b0, b1, b2, h5, b⟩
  refine wK h1 (cB (eh h5) q (fun h6 q => ?_) fun h6 q => ?_)
  ·refine wp_skip (g9 _ _ (blockQ fun _ h8 => wR (Ym (iV k) (eh b2) (yY (yadd e0 rfl) (Ya (iV (wa .i64 k 1)) e0 (wN (h8 _ _ _ ?_)))))))
   cases q
   exact g7 _ _ _ rfl ⟨_, _, rfl, rfl, a8, a9, b0, b1, rfl, b⟩
  ·refine wp_exit (h0 _ _ _ rfl ?_)
   cases q
   exact g8 _ _ _ _ rfl rfl (d2 _ _ _ a8 a9 b0 b1 b2 b (g6 _ rfl))
 ·refine condT e0 (nT (dF E)) (sR fun _ h9 => Ym (iV y) e0 (Ya hnil.v rfl (Ya (iV y) e0 (wK h9 (wp_ret (b7 _ _ _ rfl ?_))))))
  cases c
  replace b := b.rowNh 3 I1
  exact D _ _ _ (fin2r Tryz.results44 ⟨rfl, rfl⟩ ⟨rfl, rfl⟩ ⟨_, rfl, b⟩)
theorem modular_Combine_1_ok {a : Int} {out : Bool} (b : modular_Combine_1 a = some out) (c : St w0 ros rs w) :
  Calls Tryz.prog 58 #[iV a] w (fun e w => e = .returned (.bool out) ∧ St w0 ros rs w) := by
 refine enterQ Tryz.func58 rfl Tryz.ntmps58 rfl fun Q d => sR fun _ f => Ya (.bool false) rfl (wK f (sR fun _ g => Ym (iV a) e0 (bE b fun h i b => yC (yCall FN_24 (a1 e0)) (modular_IsPrime_ok i c) ?_)))
 rintro _ w ⟨rfl, c⟩
 refine ⟨_, rfl, ?_⟩
 refine yY (ynot e0) (Ya (.bool (!h)) e0 (wK g (wp_ret ?_)))
 cases b
 exact d _ _ _ (fin1r Tryz.results58 ⟨rfl, rfl⟩ ⟨rfl, c⟩)
theorem slices_IndexFunc_int_v3_ok {i : LI} {g : Hdr} {out : Int} (h : slices_IndexFunc_int_v3 i = some out) (j : imm I1 g.v i ∈ ros) (b : St w0 ros rs w) :
  Calls Tryz.prog 103 #[g.v, .func (.func 58) #[] #[]] w (fun e w => e = .returned (iV out) ∧ St w0 ros rs w) := by
 refine enterQ Tryz.func103 rfl Tryz.ntmps103 rfl fun Q m => sR fun _ A => Ya (iV 0) rfl (wK A (seqQ fun Z B C => sR fun _ D => Ym g.v e0 (yY (yLen SL_22 e0 b (rdI j)) (Ym (iV 0) rfl (wK D ?_)))))
 refine blockQ fun n o => bE h fun p E h => ?_
 have F : ∀ (f : FV) w, St w0 ros rs w → .inl () = p → n (.exit 0) (fr 19 f) w := by
  intro f w b ho
  subst ho
  refine o _ _ _ (B _ _ (sR fun _ G => Ya (iV (-1)) rfl (wK G (wp_ret ?_))))
  cases h
  exact m _ _ _ (fin1r Tryz.results103 ⟨rfl, rfl⟩ ⟨rfl, b⟩)
 have H : ∀ (k : Int) (f : FV) w, f 4 = iV k → St w0 ros rs w → .inr k = p → n .ret (fr 19 f) w := by
  intro k f w I b ho
  subst ho
  refine o _ _ _ (C _ _ _ rfl ?_)
  cases h
  exact m _ _ _ (fin1r Tryz.results103 ⟨rfl, I⟩ ⟨rfl, b⟩)
 refine loopQ (fun s a w => ∃ (d : Int) (f : FV), d = s ∧ a = fr 19 f ∧ f 0 = g.v ∧ f 1 = .func (.func 58) #[] #[] ∧ f 7 = iV (i.length : Int) ∧ f 8 = iV d ∧ St w0 ros rs w) E ⟨_, _, rfl, rfl, rfl, rfl, rfl, rfl, b⟩ ?_
 rintro _ _ w a0 ⟨d, f, rfl, rfl, q, r, t, l, b⟩ c u a2 J x
 refine sR fun _ K => yY (ylss (eh l) (eh t)) (wK K (seqQ fun a3 L N => ?_))
 refine cIf e0 c (fun O c => ?_) fun O c => ?_
 ·refine wp_skip (L _ _ (seqQ fun a4 R S => blockQ fun _ y => sR fun _ T => Ym (iV d) (eh l) (Ya (iV d) e0 (wK T (sR fun _ U => Ym (.func (.func 58) #[] #[]) (eh r) (Ym g.v (eh q) ?_))))))
  refine Ym (iV d) e0 (bE c fun a5 z c => yY (yIa SL_22 e0 e0 b (rdI j) z) (yY (yI O_3 e0 b (rdI j) z) (bE c fun a6 V c => yC (yCallw FN_58 e0 (a1 e0)) (modular_Combine_1_ok V b) ?_)))
  rintro _ w ⟨rfl, b⟩
  refine ⟨_, rfl, ?_⟩
  refine wK U (cB e0 c (fun W c => ?_) fun W c => ?_)
  ·refine sR fun _ X => Ym (iV d) e0 (Ya (iV d) e0 (wK X (wp_ret (y _ _ _ (S _ _ _ rfl ?_)))))
   cases c
   exact x _ _ _ _ rfl rfl (H _ _ _ rfl b (u _ rfl))
  ·refine wp_skip (y _ _ _ (R _ _ (wR (yY (yadd (eh l) rfl) (Ym (iV (wa .i64 d 1)) e0 (wN ?_))))))
   cases c
   exact J _ _ _ rfl ⟨_, _, rfl, rfl, q, r, t, rfl, b⟩
 ·refine wp_exit (N _ _ _ rfl ?_)
  cases c
  exact x _ _ _ _ rfl rfl (F _ _ b (u _ rfl))
theorem slices_ContainsFunc_int_v2_ok {d : LI} {a : Hdr} {out : Bool} (b : slices_ContainsFunc_int_v2 d = some out) (f : imm I1 a.v d ∈ ros) (c : St w0 ros rs w) :
  Calls Tryz.prog 57 #[a.v, .func (.func 58) #[] #[]] w (fun e w => e = .returned (.bool out) ∧ St w0 ros rs w) := by
 refine enterQ Tryz.func57 rfl Tryz.ntmps57 rfl fun Q g => sR fun _ h => Ya (.bool false) rfl (wK h (sR fun _ i => Ym a.v e0 (Ym (.func (.func 58) #[] #[]) e0 (bE b fun j k b => yC (yCall FN_103 (a2 e0 e0)) (slices_IndexFunc_int_v3_ok k f c) ?_))))
 rintro _ w ⟨rfl, c⟩
 refine ⟨_, rfl, ?_⟩
 refine yY (ygeq e0 rfl) (Ya (.bool (decide ((0 : Int) ≤ j))) e0 (wK i (wp_ret ?_)))
 cases b
 exact g _ _ _ (fin1r Tryz.results57 ⟨rfl, rfl⟩ ⟨rfl, c⟩)
theorem slices_Values_int_ok {c : LI} {a : Hdr} {out : Unit} (g : slices_Values_int c = some out) (k : imm I1 a.v c ∈ ros) (b : St w0 ros rs w) :
  Calls Tryz.prog 60 #[a.v] w (fun e w => ∃ (d : Nat), e = .returned (.func (.func 106) #[] #[(pB d)]) ∧ St w0 ros (box d 22 [a.v] :: rs) w) := by
 refine enterQ Tryz.func60 rfl Tryz.ntmps60 rfl fun Q h => sR fun _ i => yBb (r_box (vals := [a.v]) b e0 rfl) fun f w b => Ya .nilFunc rfl (wK i (sR fun _ j => yY (ymf (vf := #[]) (vc := #[(pB f)]) a0 (a1 e0)) (Ya (.func (.func 106) #[] #[(pB f)]) e0 (wK j ?_))))
 refine wp_ret ?_
 cases g
 exact h _ _ _ (fin1r Tryz.results60 ⟨rfl, rfl⟩ ⟨_, rfl, b⟩)
theorem slices_Collect_int_ok {f : LI} {a : Nat} {b : Hdr} {out : LI} (c : slices_Collect_int f = some out) (h : imm I1 b.v f ∈ ros) (d : St w0 ros (box a 22 [b.v] :: rs) w) :
  Calls Tryz.prog 104 #[.func (.func 106) #[] #[(pB a)]] w (fun e w => ∃ (g : Hdr), e = .returned (g.v) ∧ St w0 ros (box a 22 [b.v] :: row 3 I1 g.v out :: rs) w) := by
 refine enterQ Tryz.func104 rfl Tryz.ntmps104 rfl fun Q i => sR fun _ j => Ya hnil.v rfl (wK j (sR fun _ k => Ym (.func (.func 106) #[] #[(pB a)]) e0 (bE c fun n l c => yC (yCall FN_132 (a2 rfl e0)) (colV_ok l h d) ?_)))
 rintro _ w ⟨m, rfl, d⟩
 refine ⟨_, rfl, ?_⟩
 refine Ya m.v e0 (wK k (wp_ret ?_))
 cases c
 exact i _ _ _ (fin1r Tryz.results104 ⟨rfl, rfl⟩ ⟨_, rfl, (d.k11)⟩)
theorem slices_Sorted_int_ok {g : LI} {c : Nat} {f : Hdr} {out : LI} (b : slices_Sorted_int g = some out) (i : imm I1 f.v g ∈ ros) (a : St w0 ros (box c 22 [f.v] :: rs) w) :
  Calls Tryz.prog 59 #[.func (.func 106) #[] #[(pB c)]] w (fun e w => ∃ (h : Hdr), e = .returned (h.v) ∧ St w0 ros (box c 22 [f.v] :: row 3 I1 h.v out :: rs) w) := by
 refine enterQ Tryz.func59 rfl Tryz.ntmps59 rfl fun Q j => sR fun _ k => Ya hnil.v rfl (wK k (sR fun _ l => Ym (.func (.func 106) #[] #[(pB c)]) e0 (bE b fun q m b => yC (yCall FN_104 (a1 e0)) (slices_Collect_int_ok m i a) ?_)))
 rintro _ w ⟨d, rfl, a⟩
 refine ⟨_, rfl, ?_⟩
 refine Ya d.v e0 (wK l (sR fun _ n => Ym d.v e0 (bE b fun r o b => ?_)))
 replace a := a.k11
 refine yC (yCall FN_105 (a1 e0)) (sortI_ok o a) ?_
 rintro _ w ⟨rfl, a⟩
 refine ⟨_, rfl, ?_⟩
 refine wK n (sR fun _ p => Ym d.v e0 (Ya d.v e0 (wK p (wp_ret ?_))))
 cases b
 exact j _ _ _ (fin1r Tryz.results59 ⟨rfl, rfl⟩ ⟨_, rfl, (a.k11)⟩)
theorem integer_trim_ok {n : LI} {d : Hdr} {out : LI} (j : integer_trim n = some out) (k : imm (rI .u32) d.v n ∈ ros) (b : St w0 ros rs w) :
  Calls Tryz.prog 77 #[d.v] w (fun e w => ∃ (p : Hdr), e = .returned (p.v) ∧ St w0 (imm (rI .u32) p.v out :: ros) rs w) := by
 refine enterQ Tryz.func77 rfl Tryz.ntmps77 rfl fun Q y => sR fun _ k1 => Ya hnil.v rfl (wK k1 (sR fun _ z => Ym d.v e0 (yY (yLen SL_25 e0 b (rdI k)) (Ya (iV (n.length : Int)) e0 (wK z (sQ fun _ A => ?_))))))
 refine blockQ fun B C => bE j fun D E j => ?_
 have F : ∀ (l : Int) (f : FV) w, f 0 = d.v → f 3 = iV l → St w0 ros rs w → l = D → B (.exit 0) (fr 21 f) w := by
  intro l f w G H b ho
  subst ho
  refine C _ _ _ (A _ _ (sR fun _ I => Ym d.v (eh G) (Ym (iV l) (eh H) (bE j fun X q j => yY (ySl (k1 := .i64) SL_25 e0 b (rdI k) (.inr ⟨rfl, rfl⟩) (.inl (congrArg some e0)) q) ?_))))
  replace b := b.sub k q
  refine Ya ((subH d 1 0 l).v) e0 (wK I (wp_ret ?_))
  cases j
  exact y _ _ _ (fin1r Tryz.results77 ⟨rfl, rfl⟩ ⟨_, rfl, b⟩)
 refine loopQ (fun s a w => ∃ (g : Int) (f : FV), g = s ∧ a = fr 21 f ∧ f 0 = d.v ∧ f 3 = iV g ∧ St w0 ros rs w) E ⟨_, _, rfl, rfl, rfl, rfl, b⟩ ?_
 rintro _ _ w Z ⟨g, f, rfl, rfl, o, m, b⟩ h J a0 K L
 refine seqQ fun a1 N O => sR fun _ R => Ym (iV g) (eh m) (yY (ygtr e0 rfl) (Ym (.bool (decide ((0 : Int) < g))) e0 (bE h fun S i h => ?_)))
 refine joinW 7 (fun f w => f 0 = d.v ∧ f 3 = iV g ∧ f 15 = .bool S ∧ St w0 ros rs w) (fun r => ?_) ?_
 ·rcases iteS i with ⟨c, i⟩ | ⟨c, i⟩
  ·refine yG (dT c) (m_ d.v (eh o)) (yG (dT c) (m_ (iV g) (eh m)) (yG (dT c) (ysub e0 rfl) (bE i fun T t i => yG (dT c) (yIa SL_25 e0 e0 b (rdI k) t) (yG (dT c) (yI O_88 e0 b (rdI k) t) (yG (dT c) (yeql e0 rfl) (yY (pt_ (.bool (decide (T = 0))) e0 (dT c) e0) ?_))))))
   cases i
   exact r _ _ ⟨o, m, rfl, b⟩
  ·refine gN (dF c) (gN (dF c) (gN (dF c) (gN (dF c) (gN (dF c) (gN (dF c) (yY (pf_ (.bool false) e0 (dF c) rfl) ?_))))))
   cases i
   exact r _ _ ⟨o, m, rfl, b⟩
 rintro f w ⟨u, x, U, b⟩
 refine wK R (cB (eh U) h (fun V h => ?_) fun V h => ?_)
 ·refine wp_skip (N _ _ (blockQ fun _ W => wR (Ym (iV g) (eh x) (yY (ysub e0 rfl) (Ya (iV (ws .i64 g 1)) e0 (wN (W _ _ _ ?_)))))))
  cases h
  exact K _ _ _ rfl ⟨_, _, rfl, rfl, u, rfl, b⟩
 ·refine wp_exit (O _ _ _ rfl ?_)
  cases h
  exact L _ _ _ _ rfl rfl (F _ _ _ u x b (J _ rfl))
theorem integer_big_ok {b : Bool} {g : LI} {f : Hdr} {out : Bool × LI} (c : integer_big b g = some out) (j : imm (rI .u32) f.v g ∈ ros) (a : St w0 ros rs w) :
  Calls Tryz.prog 74 #[.bool b, f.v] w (fun e w => ∃ (h : Hdr), e = .returned (.agg #[.bool out.1, h.v]) ∧ St w0 (imm (rI .u32) h.v out.2 :: ros) rs w) := by
 refine enterQ Tryz.func74 rfl Tryz.ntmps74 rfl fun Q i => sR fun _ k => yBb (rAl a ZT_27) fun t w a => wK k (sR fun _ l => Ym f.v e0 (bE c fun u m c => yC (yCall FN_77 (a1 e0)) (integer_trim_ok m j a) ?_))
 rintro _ w ⟨d, rfl, a⟩
 refine ⟨_, rfl, ?_⟩
 refine Ya d.v e0 (wK l (seqQ fun x n o => sR fun _ p => Ym d.v e0 (yY (yLen SL_25 e0 a (rdI F0)) (yY (yeql e0 rfl) (wK p ?_)))))
 refine cIf e0 c (fun q c => ?_) fun q c => ?_
 ·refine sR fun _ r => yY (ybuild (us := [.bool false, hnil.v]) [] SO_27 bp0 rfl) (yT (r_stbn (vals' := [.bool false, hnil.v]) (us := [.bool false, hnil.v]) a ST_27 e0 e0 rfl rfl (one_of rfl) rfl) fun w a => wK r (wp_ret (o _ _ _ rfl ?_)))
  cases c
  replace a := a.immNh (rI .u32)
  exact i _ _ _ (fin1r Tryz.results74 (rcs2 rfl rfl a R0 ST_27 rfl) ⟨_, rfl, ((a.k10).facts (allC F0 (allT (allT allI))))⟩)
 ·refine wp_skip (n _ _ (sR fun _ s => Ym (.bool b) e0 (Ym d.v e0 (yY (ybuild (us := [.bool b, d.v]) [(0, .bool b), (1, d.v)] SO_27 (bp2 e0 e0) rfl) (yT (r_stbn (vals' := [.bool b, d.v]) (us := [.bool b, d.v]) a ST_27 e0 e0 rfl rfl (one_of rfl) rfl) fun w a => wK s (wp_ret ?_))))))
  cases c
  exact i _ _ _ (fin1r Tryz.results74 (rcs2 rfl rfl a R0 ST_27 rfl) ⟨_, rfl, (a.k10)⟩)
theorem integer_FromInt_ok {c : Int} {out : Bool × LI} (d : integer_FromInt c = some out) (a : St w0 ros rs w) :
  Calls Tryz.prog 23 #[iV c] w (fun e w => ∃ (g : Hdr), e = .returned (.agg #[.bool out.1, g.v]) ∧ St w0 (imm (rI .u32) g.v out.2 :: ros) rs w) := by
 refine enterQ Tryz.func23 rfl Tryz.ntmps23 rfl fun Q p => sR fun _ q => yBb (rAl a ZT_27) fun h w a => wK q (sR fun _ r => Ym (iV c) e0 (yY (ycv (k' := .u64) (by kernel_rfl) (by kernel_rfl) e0) (Ya (.int .u64 (wc .u64 c)) e0 (wK r ?_))))
 refine sQ fun s t => sR fun _ u => Ym (iV c) e0 (yY (ylss e0 rfl) (wK u ?_))
 have i : ∀ (b : Int) (f : FV) w, f 0 = iV c → f 2 = (pB h) → f 3 = .int .u64 b → St w0 ros (box h 27 [.bool false, hnil.v] :: rs) w → integer_FromInt_j1 c b = some out → s .normal (fr 20 f) w := by
  intro b f w x j k a d
  refine t _ _ (sR fun _ y => Ym (iV c) (eh x) (yY (ylss e0 rfl) (Ym (.int .u64 b) (eh k) (yY (yand e0 rfl) (yY (ycv (k' := .u32) (by kernel_rfl) (by kernel_rfl) e0) (Ym (.int .u64 b) (eh k) (yY (yshrc e0 rfl) (yY (ycv (k' := .u32) (by kernel_rfl) (by kernel_rfl) e0) (yH (rLt (n := 2) (l := [wc .u32 (wand .u64 b 4294967295), wc .u32 (wsrc .u64 b 32)]) a SL_25 [.int .u32 (wc .u32 (wand .u64 b 4294967295)), .int .u32 (wc .u32 (wsrc .u64 b 32))] (bp2 e0 e0) rfl rfl (mks1 (cs := [.int .u32 (wc .u32 (wand .u64 b 4294967295))]) rfl mkI (mks1 (cs := [.int .u32 (wc .u32 (wsrc .u64 b 32))]) rfl mkI mks0))) fun B w a => bE d fun m z d => ?_)))))))))
  replace a := a.fz
  refine yC (yCall FN_74 (a2 e0 e0)) (integer_big_ok z F0 a) ?_
  rintro _ w ⟨o, rfl, a⟩
  refine ⟨_, rfl, ?_⟩
  refine yT (r_stbn (vals' := [.bool m.1, o.v]) (us := [.bool m.1, o.v]) a ST_27 (eh j) e0 rfl rfl (one_of rfl) rfl) fun w a => wK y (wp_ret ?_)
  cases d
  exact p _ _ _ (fin1r Tryz.results23 (rcs2 rfl j a R0 ST_27 rfl) ⟨_, rfl, ((a.k10).facts (allC F0 (allT (allT allI))))⟩)
 refine cIf e0 d (fun A d => ?_) fun A d => ?_
 ·exact wR (Ym (.int .u64 (wc .u64 c)) e0 (yY (yneg e0) (Ya (.int .u64 (wneg .u64 (wc .u64 c))) e0 (wN (i _ _ _ rfl rfl rfl a d)))))
 ·exact wp_skip (i _ _ _ rfl rfl rfl a d)
theorem cmp_isNaN_uint32_ok {a : Int} {out : Bool} (b : cmp_isNaN_uint32 a = some out) (c : St w0 ros rs w) :
  Calls Tryz.prog 160 #[.int .u32 a] w (fun e w => e = .returned (.bool out) ∧ St w0 ros rs w) := by
 refine enterQ Tryz.func160 rfl Tryz.ntmps160 rfl fun Q d => sR fun _ f => Ya (.bool false) rfl (wK f (sR fun _ g => Ym (.int .u32 a) e0 (Ym (.int .u32 a) e0 (yY (yneq e0 e0) (Ya (.bool (!(decide (a = a)))) e0 (wK g ?_))))))
 refine wp_ret ?_
 cases b
 exact d _ _ _ (fin1r Tryz.results160 ⟨rfl, rfl⟩ ⟨rfl, c⟩)
theorem cmp_Compare_uint32_ok {d f out : Int} (a : cmp_Compare_uint32 d f = some out) (b : St w0 ros rs w) :
  Calls Tryz.prog 136 #[.int .u32 d, .int .u32 f] w (fun e w => e = .returned (iV out) ∧ St w0 ros rs w) := by
 refine enterQ Tryz.func136 rfl Tryz.ntmps136 rfl fun Q c => sR fun _ j => Ya (iV 0) rfl (wK j (sR fun _ k => Ym (.int .u32 d) e0 (bE a fun h l a => yC (yCall FN_160 (a1 e0)) (cmp_isNaN_uint32_ok l b) ?_)))
 rintro _ w ⟨rfl, b⟩
 refine ⟨_, rfl, ?_⟩
 refine Ya (.bool h) e0 (wK k (sR fun _ m => Ym (.int .u32 f) e0 (bE a fun g n a => yC (yCall FN_160 (a1 e0)) (cmp_isNaN_uint32_ok n b) ?_)))
 rintro _ w ⟨rfl, b⟩
 refine ⟨_, rfl, ?_⟩
 refine Ya (.bool g) e0 (wK m (seqQ fun R o i => sR fun _ p => Ym (.bool h) e0 (wK p (cB e0 a (fun q a => ?_) fun q a => ?_))))
 ·refine seqQ fun S r s => sR fun _ t => Ym (.bool g) e0 (wK t (cB e0 a (fun u a => ?_) fun u a => ?_))
  ·refine sR fun _ v => Ya (iV 0) rfl (wK v (wp_ret (s _ _ _ rfl (i _ _ _ rfl ?_))))
   cases a
   exact c _ _ _ (fin1r Tryz.results136 ⟨rfl, rfl⟩ ⟨rfl, b⟩)
  ·refine wp_skip (r _ _ (sR fun _ x => Ya (iV (-1)) rfl (wK x (wp_ret (i _ _ _ rfl ?_)))))
   cases a
   exact c _ _ _ (fin1r Tryz.results136 ⟨rfl, rfl⟩ ⟨rfl, b⟩)
 ·refine wp_skip (o _ _ (seqQ fun T y z => sR fun _ A => Ym (.bool g) e0 (wK A (cB e0 a (fun B a => ?_) fun B a => ?_))))
  ·refine sR fun _ C => Ya (iV 1) rfl (wK C (wp_ret (z _ _ _ rfl ?_)))
   cases a
   exact c _ _ _ (fin1r Tryz.results136 ⟨rfl, rfl⟩ ⟨rfl, b⟩)
  ·refine wp_skip (y _ _ (seqQ fun U D E => sR fun _ F => Ym (.int .u32 d) e0 (Ym (.int .u32 f) e0 (yY (ylss e0 e0) (wK F ?_)))))
   refine cIf e0 a (fun G a => ?_) fun G a => ?_
   ·refine sR fun _ H => Ya (iV (-1)) rfl (wK H (wp_ret (E _ _ _ rfl ?_)))
    cases a
    exact c _ _ _ (fin1r Tryz.results136 ⟨rfl, rfl⟩ ⟨rfl, b⟩)
   ·refine wp_skip (D _ _ (seqQ fun V I J => sR fun _ K => Ym (.int .u32 d) e0 (Ym (.int .u32 f) e0 (yY (ygtr e0 e0) (wK K ?_)))))
    refine cIf e0 a (fun L a => ?_) fun L a => ?_
    ·refine sR fun _ N => Ya (iV 1) rfl (wK N (wp_ret (J _ _ _ rfl ?_)))
     cases a
     exact c _ _ _ (fin1r Tryz.results136 ⟨rfl, rfl⟩ ⟨rfl, b⟩)
    ·refine wp_skip (I _ _ (sR fun _ O => Ya (iV 0) rfl (wK O (wp_ret ?_))))
     cases a
     exact c _ _ _ (fin1r Tryz.results136 ⟨rfl, rfl⟩ ⟨rfl, b⟩)
theorem cmp_isNaN_int_ok {a : Int} {out : Bool} (b : cmp_isNaN_int a = some out) (c : St w0 ros rs w) :
  Calls Tryz.prog 159 #[iV a] w (fun e w => e = .returned (.bool out) ∧ St w0 ros rs w) := by
 refine enterQ Tryz.func159 rfl Tryz.ntmps159 rfl fun Q d => sR fun _ f => Ya (.bool false) rfl (wK f (sR fun _ g => Ym (iV a) e0 (Ym (iV a) e0 (yY (yneq e0 e0) (Ya (.bool (!(decide (a = a)))) e0 (wK g ?_))))))
 refine wp_ret ?_
 cases b
 exact d _ _ _ (fin1r Tryz.results159 ⟨rfl, rfl⟩ ⟨rfl, c⟩)
end Go.Proofs.YtnfamnfdndaekaaGreatDoor
