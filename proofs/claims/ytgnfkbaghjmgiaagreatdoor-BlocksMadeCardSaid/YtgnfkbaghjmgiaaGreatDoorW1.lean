/- Walks: each function computes its model, printed. -/
import Derived.Test.YtgnfkbaghjmgiaaGreatDoorW0
namespace Go.Proofs.YtgnfkbaghjmgiaaGreatDoor
open Go Sx M
set_option maxRecDepth 100000
set_option maxHeartbeats 40000000
set_option linter.unusedVariables false
attribute [local irreducible] wpList Code.wp Calls DR QR QS LA LS St
variable {w0 : World} {ros : List Fact} {rs : List Res} {w : World}
theorem matching_kuhn_try_step {rec : L2 → LI → LI → (List Bool) → Int → Option (LI × LI × (List Bool) × Bool)} (b7 : ∀ {w0 : World} {ros : List Fact} {rs : List Res} {w : World} {m : L2} {x y : LI} {z : List Bool} {l : Int} {d : Nat} {j k g h : Hdr} {out : LI × LI × (List Bool) × Bool} (o : rec m x y z l = some out) (b : St w0 ros (box d 87 [j.v, k.v, g.v, h.v] :: row 22 S1 j.v m :: row 3 I1 k.v x :: row 3 I1 g.v y :: row 4 rB h.v z :: rs) w), Calls Tryz.prog 77 #[(pB d), iV l] w (fun e w => e = .returned (.bool out.2.2.2) ∧ St w0 ros (row 22 S1 j.v m :: row 3 I1 k.v out.1 :: row 3 I1 g.v out.2.1 :: row 4 rB h.v out.2.2.1 :: box d 87 [j.v, k.v, g.v, h.v] :: rs) w)) {w0 : World} {ros : List Fact} {rs : List Res} {w : World} {m : L2} {x y : LI} {z : List Bool} {l : Int} {d : Nat} {j k g h : Hdr} {out : LI × LI × (List Bool) × Bool} (o : matching_kuhn_try_body rec m x y z l = some out) (b : St w0 ros (box d 87 [j.v, k.v, g.v, h.v] :: row 22 S1 j.v m :: row 3 I1 k.v x :: row 3 I1 g.v y :: row 4 rB h.v z :: rs) w) :
  Calls Tryz.prog 77 #[(pB d), iV l] w (fun e w => e = .returned (.bool out.2.2.2) ∧ St w0 ros (row 22 S1 j.v m :: row 3 I1 k.v out.1 :: row 3 I1 g.v out.2.1 :: row 4 rB h.v out.2.2.1 :: box d 87 [j.v, k.v, g.v, h.v] :: rs) w) := by
 refine enterQ Tryz.func77 rfl Tryz.ntmps77 rfl fun Q Z => sR fun _ b8 => Ya (.bool false) rfl (wK b8 (seqQ fun g0 b9 c0 => sR fun _ c1 => Ym (pB d) e0 (yY (yn e0) (yY (yFb FL_87_0 e0) (yY (lb_ j.v O_78 e0 b R0) (Ym (iV l) e0 ?_))))))
 refine bE o fun t a0 o => yY (yIa SL_78 e0 e0 b rO1 a0) ?_
 obtain ⟨u, c2, b⟩ := rLs b rO1 a0
 refine yY (yCe O_22 e0 c2 rfl) (yY (yLen SL_22 e0 b (rdI F0)) (Ym (iV 0) rfl (wK c1 (blockQ fun a1 a3 => bE o fun a4 c3 o => ?_))))
 have c4 : ∀ (F G : LI) (H : List Bool) (f : FV) w, St w0 ros (row 22 S1 j.v m :: row 3 I1 k.v F :: row 3 I1 g.v G :: row 4 rB h.v H :: box d 87 [j.v, k.v, g.v, h.v] :: rs) w → .inl (F, G, H) = a4 → a1 (.exit 0) (fr 66 f) w := by
  intro F G H f w b ho
  subst ho
  refine a3 _ _ _ (b9 _ _ (sR fun _ c5 => Ya (.bool false) rfl (wK c5 (wp_ret ?_))))
  cases o
  exact Z _ _ _ (fin1r Tryz.results77 ⟨rfl, rfl⟩ ⟨rfl, b⟩)
 have c6 : ∀ (I J : LI) (K : List Bool) (f : FV) w, f 4 = .bool true → St w0 ros (row 22 S1 j.v m :: row 3 I1 k.v I :: row 3 I1 g.v J :: row 4 rB h.v K :: box d 87 [j.v, k.v, g.v, h.v] :: rs) w → .inr (I, J, K) = a4 → a1 .ret (fr 66 f) w := by
  intro I J K f w c7 b ho
  subst ho
  refine a3 _ _ _ (c0 _ _ _ rfl ?_)
  cases o
  exact Z _ _ _ (fin1r Tryz.results77 ⟨rfl, c7⟩ ⟨rfl, b⟩)
 refine loopQ (fun s a w => ∃ (L N : LI) (O : List Bool) (r : Int) (f : FV), (L, N, O, r) = s ∧ a = fr 66 f ∧ f 0 = (pB d) ∧ f 1 = iV l ∧ f 13 = u.v ∧ f 14 = iV (t.length : Int) ∧ f 15 = iV r ∧ St w0 (imm I1 u.v t :: ros) (row 22 S1 j.v m :: row 3 I1 k.v L :: row 3 I1 g.v N :: row 4 rB h.v O :: box d 87 [j.v, k.v, g.v, h.v] :: rs) w) c3 ⟨_, _, _, _, _, rfl, rfl, rfl, rfl, rfl, rfl, rfl, (b.k13)⟩ ?_
 rintro _ _ w c8 ⟨L, N, O, r, f, rfl, rfl, q, R, B, C, A, b⟩ c a5 g1 c9 a6
 refine sR fun _ d0 => yY (ylss (eh A) (eh C)) (wK d0 (seqQ fun g2 d1 d2 => ?_))
 refine cIf e0 c (fun d3 c => ?_) fun d3 c => ?_
 ·refine wp_skip (d1 _ _ (seqQ fun d4 d5 d6 => ?_))
  have a7 : ∀ (S T : LI) (U : List Bool) (f : FV) w, f 0 = (pB d) → f 1 = iV l → f 13 = u.v → f 14 = iV (t.length : Int) → f 15 = iV r → St w0 (imm I1 u.v t :: ros) (row 22 S1 j.v m :: row 3 I1 k.v S :: row 3 I1 g.v T :: row 4 rB h.v U :: box d 87 [j.v, k.v, g.v, h.v] :: rs) w → matching_kuhn_try_j12 r S T U = some c8 → d4 .normal (fr 66 f) w := by
   intro S T U f w d7 d8 d9 e1 e2 b o
   refine d5 _ _ (wR (yY (yadd (eh e2) rfl) (Ym (iV (wa .i64 r 1)) e0 (wN ?_))))
   cases o
   exact c9 _ _ _ rfl ⟨_, _, _, _, _, rfl, rfl, d7, d8, d9, e1, rfl, b⟩
  refine blockQ fun _ V => sR fun _ e3 => bE c fun n a8 c => yY (yIa SL_22 (eh B) (eh A) b (rdI F0) a8) (yY (yI O_3 e0 b (rdI F0) a8) (Ya (iV n) e0 (wK e3 (seqQ fun g3 e4 e5 => sR fun _ e6 => Ym (pB d) (eh q) (yY (yn e0) ?_)))))
  refine yY (yFb FL_87_3 e0) (yY (lb_ h.v O_56 e0 b R4) (Ym (iV n) e0 (bE c fun g4 a9 c => yY (yIa SL_56 e0 e0 b rO3 a9) (yY (yB O_4 e0 b rO3 a9) (wK e6 (cB e0 c (fun e7 c => ?_) fun e7 c => ?_))))))
  ·exact wp_exit (e5 _ _ _ rfl (V _ _ _ (a7 _ _ _ _ _ q R B C A b c)))
  ·refine wp_skip (e4 _ _ (sR fun _ e8 => Ym (pB d) (eh q) (yY (yn e0) (yY (yFb FL_87_3 e0) (yY (lb_ h.v O_56 e0 b R4) (Ym (iV n) e0 (bE c fun g5 b0 c => yY (yIs SL_56 e0 e0 b rO3 b0) (yT (r_sti (cs := [.bool true]) (b.k14) O_4 rfl e0 rfl rfl mkB b0) fun w b => wN ?_))))))))
   refine e8 _ _ (sR fun _ e9 => Ym (pB d) (eh q) (yY (yn e0) (yY (yFb FL_87_2 e0) (yY (lb_ g.v O_22 e0 b R4) (Ym (iV n) e0 (bE c fun f0 b2 c => yY (yIa SL_22 e0 e0 b rO3 b2) (yY (yI O_3 e0 b rO3 b2) (yY (yeql e0 rfl) (Ym (.bool (decide (f0 = (-1)))) e0 (bE c fun D p c => ?_))))))))))
   refine joinW 10 (fun f w => f 0 = (pB d) ∧ f 1 = iV l ∧ f 6 = iV n ∧ f 13 = u.v ∧ f 14 = iV (t.length : Int) ∧ f 15 = iV r ∧ f 50 = .bool D.1 ∧ St w0 (imm I1 u.v t :: ros) (row 22 S1 j.v m :: row 3 I1 k.v D.2.1 :: row 3 I1 g.v D.2.2.1 :: row 4 rB h.v D.2.2.2 :: box d 87 [j.v, k.v, g.v, h.v] :: rs) w) (fun b3 => ?_) ?_
   ·rcases iteS p with ⟨i, p⟩ | ⟨i, p⟩
    ·refine gN (dT i) (gN (dT i) (gN (dT i) (gN (dT i) (gN (dT i) (gN (dT i) (gN (dT i) (gN (dT i) (gN (dT i) (yY (pt_ (.bool true) e0 (dT i) rfl) ?_)))))))))
     cases p
     exact b3 _ _ ⟨q, R, rfl, B, C, A, rfl, (b.k15)⟩
    ·refine yG (dF i) (m_ (pB d) (eh q)) (yG (dF i) (m_ (pB d) (eh q)) (yG (dF i) (yn e0) (yG (dF i) (yFb FL_87_2 e0) (yG (dF i) (lb_ g.v O_22 e0 b R4) (yG (dF i) (m_ (iV n) e0) (bE p fun g6 b4 p => yG (dF i) (yIa SL_22 e0 e0 b rO3 b4) (yG (dF i) (yI O_3 e0 b rO3 b4) (bE p fun f1 f2 p => ?_))))))))
     replace b := b.k16
     refine Yc (wG (dF i)) rfl (yCall FN_77 (a2 e0 e0)) (b7 f2 b) ?_
     rintro _ w ⟨rfl, b⟩
     refine ⟨_, rfl, ?_⟩
     refine yY (pf_ (.bool f1.2.2.2) e0 (dF i) e0) ?_
     cases p
     exact b3 _ _ ⟨q, R, rfl, B, C, A, rfl, b⟩
   rintro f w ⟨W, E, X, f3, f4, f5, f6, b⟩
   refine wK e9 (cB (eh f6) c (fun f7 c => ?_) fun f7 c => ?_)
   ·refine sQ fun _ f8 => bE c fun g7 b5 c => bE c fun g8 b6 c => dR [0, 1, 3, 7, 0, 0, 32, 96, 224, 0, 0, 0, 1535, 5631, 16383, 32767] [13, 15] 2 folM ?_
    replace b := b.drew
    refine Dn [0, 1, 2, 3, 4, 5, 6, 7, 8, 9, 10, 11, 12] [] [13] (yR rfl (m_ (pB d) (eh W)) (yR rfl (yn e0) (yR rfl (yFb FL_87_1 e0) (yR rfl (lb_ k.v O_22 e0 b R4) (yR rfl (m_ (iV l) (eh E)) (yR rfl (m_ (pB d) (eh W)) (yR rfl (yn e0) (yR rfl (yFb FL_87_2 e0) (yR rfl (lb_ g.v O_22 e0 b R4) (yR rfl (m_ (iV n) (eh X)) (yR rfl (m_ (iV n) (eh X)) (yR rfl (m_ (iV l) (eh E)) (yR rfl (yIs SL_22 e0 e0 b rO1 b5) ?_)))))))))))))
    refine Rn QSn ?_
    refine Lc1 rfl ?_
    replace b := b.k11
    refine LT wn (r_sti (cs := [iV n]) b O_3 rfl e0 e0 rfl mkI b5) fun w b => Dn [14] [9, 11] [15] (yR rfl (yIs SL_22 e0 e0 b rO2 b6) (Rn (yS rfl (m_ (iV n) (eh X)) (yS rfl (m_ (iV l) (eh E)) QSn)) ?_))
    refine Lc1 rfl ?_
    replace b := b.k17
    refine LT wn (r_sti (cs := [iV l]) b O_3 rfl e0 e0 rfl mkI b6) fun w b => Dz [] [] (Rn QSn (f8 _ _ (sR fun _ f9 => Ya (.bool true) rfl (wK f9 (wp_ret (V _ _ _ (d6 _ _ _ rfl ?_)))))))
    cases c
    exact a6 _ _ _ _ rfl rfl (c6 _ _ _ _ _ rfl ((b.k18).facts (allT allI)) (a5 _ rfl))
   ·exact wp_skip (V _ _ _ (a7 _ _ _ _ _ W E f3 f4 f5 b c))
 ·refine wp_exit (d2 _ _ _ rfl ?_)
  cases c
  exact a6 _ _ _ _ rfl rfl (c4 _ _ _ _ _ (b.facts (allT allI)) (a5 _ rfl))
theorem matching_kuhn_try_ok_n (n : Nat) : ∀ {w0 : World} {ros : List Fact} {rs : List Res} {w : World} {g : L2} {i j : LI} {k : List Bool} {l : Int} {h : Nat} {a b c d : Hdr} {out : LI × LI × (List Bool) × Bool} (f : matching_kuhn_try n g i j k l = some out) (m : St w0 ros (box h 87 [a.v, b.v, c.v, d.v] :: row 22 S1 a.v g :: row 3 I1 b.v i :: row 3 I1 c.v j :: row 4 rB d.v k :: rs) w),
  Calls Tryz.prog 77 #[(pB h), iV l] w (fun e w => e = .returned (.bool out.2.2.2) ∧ St w0 ros (row 22 S1 a.v g :: row 3 I1 b.v out.1 :: row 3 I1 c.v out.2.1 :: row 4 rB d.v out.2.2.1 :: box h 87 [a.v, b.v, c.v, d.v] :: rs) w) := by
 induction n with
 | zero => intro _ _ _ _ _ _ _ _ _ _ _ _ _ _ out f; cases f
 | succ n ih => exact fun f m => matching_kuhn_try_step (rec := matching_kuhn_try n) ih f m
theorem matching_kuhn_try_ok {f : L2} {h i : LI} {j : List Bool} {k : Int} {g : Nat} {a b c d : Hdr} {out : LI × LI × (List Bool) × Bool} (l : matching_kuhn_try FUEL f h i j k = some out) (m : St w0 ros (box g 87 [a.v, b.v, c.v, d.v] :: row 22 S1 a.v f :: row 3 I1 b.v h :: row 3 I1 c.v i :: row 4 rB d.v j :: rs) w) :
  Calls Tryz.prog 77 #[(pB g), iV k] w (fun e w => e = .returned (.bool out.2.2.2) ∧ St w0 ros (row 22 S1 a.v f :: row 3 I1 b.v out.1 :: row 3 I1 c.v out.2.1 :: row 4 rB d.v out.2.2.1 :: box g 87 [a.v, b.v, c.v, d.v] :: rs) w) := matching_kuhn_try_ok_n FUEL l m
theorem matching_matched_ok {c d : Int} {D E F : LI} {n o p : Hdr} {out : L2 × LI × LI × (List Bool)} (g : matching_matched c d D E F = some out) (S : imm I1 n.v D ∈ ros) (T : imm I1 o.v E ∈ ros) (U : imm (rI .u64) p.v F ∈ ros) (b : St w0 ros rs w) :
  Calls Tryz.prog 52 #[.agg #[iV c, iV d, n.v, o.v, p.v]] w (fun e w => ∃ (G : Nat) (H I J K : Hdr), e = .returned (pB G) ∧ St w0 ros (row 22 S1 H.v out.1 :: row 3 I1 I.v out.2.1 :: row 3 I1 J.v out.2.2.1 :: row 4 rB K.v out.2.2.2 :: box G 87 [H.v, I.v, J.v, K.v] :: rs) w) := by
 refine enterQ Tryz.func52 rfl Tryz.ntmps52 rfl fun Q V => sR fun _ W => yBb (r_box (vals := [iV c, iV d, n.v, o.v, p.v]) b e0 rfl) fun L w b => Ya (.pointer none) rfl (wK W (sQ fun _ X => bE g fun N Z g => bE g fun c8 a0 g => bE g fun c9 a3 g => dR [0, 1, 0, 4, 15, 0, 32, 127, 255, 511, 1023] [1, 4, 7, 9, 10] 5 folM ?_))
 replace b := b.drew
 refine Dn [0, 2, 3, 5, 6] [] [1] (yR rfl (lbs_ [iV c, iV d, n.v, o.v, p.v] ST_27 e0 b R0) (yR rfl (yFb FL_27_1 e0) (yR rfl (lb_ (iV d) O_3 e0 b R0) (yR rfl (yFb FL_27_0 e0) (yR rfl (lb_ (iV c) O_3 e0 b R0) (Rn QSn ?_))))))
 refine Lc1 rfl ?_
 refine Lk wn (yCall FN_75 (a1 e0)) (matching_Edges_ok Z S T U b) ?_
 rintro _ w ⟨j, rfl, b⟩
 refine ⟨_, rfl, ?_⟩
 refine Dn [] [2, 3, 5, 6] [4] (Rn (yS rfl (yFb FL_27_1 e0) (yS rfl (lb_ (iV d) O_3 e0 b R1) (yS rfl (yFb FL_27_0 e0) (yS rfl (lb_ (iV c) O_3 e0 b R1) QSn)))) ?_)
 refine Lc1 rfl ?_
 refine Lk wn (yCall FN_76 (a2 e0 rfl)) (matching_full_ok a0 b) ?_
 rintro _ w ⟨k, rfl, b⟩
 refine ⟨_, rfl, ?_⟩
 refine Dn [] [5, 6] [7] (Rn (yS rfl (yFb FL_27_0 e0) (yS rfl (lb_ (iV c) O_3 e0 b R2) QSn)) ?_)
 refine Lc1 rfl ?_
 refine Lk wn (yCall FN_76 (a2 e0 rfl)) (matching_full_ok a3 b) ?_
 rintro _ w ⟨l, rfl, b⟩
 refine ⟨_, rfl, ?_⟩
 refine Dn [8] [] [9] (yR rfl (ybuild (us := [j.v, k.v, l.v, hnil.v]) [(0, j.v), (1, k.v), (2, l.v)] SO_87 (bp3 e0 e0 e0) rfl) (Rn QSn ?_))
 refine Lc1 rfl ?_
 refine LB wn (r_box (vals := [j.v, k.v, l.v, hnil.v]) b e0 rfl) fun h w b => Dn [] [] [10] (Rn QSn ?_)
 refine Lc1 rfl ?_
 refine Ly wn (a_ (pB h) e0) (Dz [] [] (Rn QSn (X _ _ (sQ fun _ a4 => sR fun _ a5 => yY (yFb FL_27_1 e0) (yY (lb_ (iV d) O_3 e0 b R4) (Ym (iV 0) rfl (wK a5 (blockQ fun a6 a7 => bE g fun a8 a9 g => ?_))))))))
 have b0 : ∀ (r t : LI) (u : List Bool) (x : Hdr) (f : FV) w, f 3 = (pB h) → St w0 ros (row 22 S1 j.v N :: row 3 I1 k.v r :: row 3 I1 l.v t :: row 4 rB x.v u :: box h 87 [j.v, k.v, l.v, x.v] :: rs) w → (r, t, u) = a8 → a6 (.exit 0) (fr 31 f) w := by
  intro r t u x f w b1 b ho
  subst ho
  refine a7 _ _ _ (a4 _ _ (sR fun _ b2 => Ym (pB h) (eh b1) (Ya (pB h) e0 (wK b2 (wp_ret ?_)))))
  cases g
  exact V _ _ _ (fin1r Tryz.results52 ⟨rfl, rfl⟩ ⟨_, _, _, _, _, rfl, b⟩)
 replace b := b.rowNh 4 rB
 refine loopQ (fun s a w => ∃ (y z : LI) (A : List Bool) (m : Int) (f : FV) (B : Hdr), (y, z, A, m) = s ∧ a = fr 31 f ∧ f 1 = (pB L) ∧ f 3 = (pB h) ∧ f 16 = iV d ∧ f 17 = iV m ∧ St w0 ros (box L 27 [iV c, iV d, n.v, o.v, p.v] :: row 22 S1 j.v N :: row 3 I1 k.v y :: row 3 I1 l.v z :: row 4 rB B.v A :: box h 87 [j.v, k.v, l.v, B.v] :: rs) w) a9 ⟨_, _, _, _, _, _, rfl, rfl, rfl, rfl, rfl, rfl, (b.k19)⟩ ?_
 rintro _ _ w d0 ⟨y, z, A, m, f, B, rfl, rfl, O, q, R, C, b⟩ i b3 d1 b4 b5
 refine sR fun _ b6 => yY (ylss (eh C) (eh R)) (wK b6 (seqQ fun d2 b7 b8 => ?_))
 refine cIf e0 i (fun c0 i => ?_) fun c0 i => ?_
 ·refine wp_skip (b7 _ _ (sQ fun _ c1 => blockQ fun _ c2 => sR fun _ c3 => Ym (iV m) (eh C) (Ya (iV m) e0 (wK c3 (sR fun _ c4 => Ym (pB h) (eh q) (yY (yFb FL_27_0 (eh O)) ?_))))))
  refine yY (lb_ (iV c) O_3 e0 b R0) (bE i fun d3 c5 i => yH (rMk b SL_56 e0 c5) fun c6 w b => yY (yn e0) (yY (yFb FL_87_3 e0) (yT (r_stb1 (vals' := [j.v, k.v, l.v, c6.v]) (b.k1a) O_56 e0 e0 rfl rfl rfl rfl) fun w b => wK c4 (wR (Ym (pB h) (eh q) (Ym (iV m) e0 (bE i fun d4 c7 i => ?_)))))))
  replace b := b.k1b
  refine yC (yCall FN_77 (a2 e0 e0)) (matching_kuhn_try_ok c7 b) ?_
  rintro _ w ⟨rfl, b⟩
  refine ⟨_, rfl, ?_⟩
  refine wN (c2 _ _ _ (c1 _ _ (wR (yY (yadd (eh C) rfl) (Ym (iV (wa .i64 m 1)) e0 (wN ?_))))))
  cases i
  exact b4 _ _ _ rfl ⟨_, _, _, _, _, _, rfl, rfl, O, q, R, rfl, (b.k1c)⟩
 ·refine wp_exit (b8 _ _ _ rfl ?_)
  cases i
  exact b5 _ _ _ _ rfl rfl (b0 _ _ _ _ _ _ q (b.k1d) (b3 _ rfl))
theorem matching_Maximum_ok {c d : Int} {k l m : LI} {f g h : Hdr} {out : LI × Int} (b : matching_Maximum c d k l m = some out) (n : imm I1 f.v k ∈ ros) (o : imm I1 g.v l ∈ ros) (p : imm (rI .u64) h.v m ∈ ros) (a : St w0 ros rs w) :
  Calls Tryz.prog 21 #[.agg #[iV c, iV d, f.v, g.v, h.v]] w (fun e w => ∃ (q : Hdr), e = .returned (.tuple #[q.v, iV out.2]) ∧ St w0 ros (row 3 I1 q.v out.1 :: rs) w) := by
 refine enterQ Tryz.func21 rfl Tryz.ntmps21 rfl fun Q r => sR fun _ t => yBb (r_box (vals := [iV c, iV d, f.v, g.v, h.v]) a e0 rfl) fun E w a => Ya hnil.v rfl (Ya (iV 0) rfl (wK t (sR fun _ u => yY (lbs_ [iV c, iV d, f.v, g.v, h.v] ST_27 e0 a R0) (bE b fun i x b => yC (yCall FN_51 (a1 e0)) (matrix_Check_ok x n o p a) ?_))))
 rintro _ w ⟨rfl, a⟩
 refine ⟨_, rfl, ?_⟩
 refine Ya (iV i) e0 (wK u (seqQ fun F y z => sR fun _ A => Ym (iV i) e0 (yY (yneq e0 rfl) (wK A ?_))))
 rcases iteS b with ⟨j, b⟩ | ⟨j, b⟩
 ·refine condF e0 (nF (dT j)) (wp_skip (y _ _ (sR fun _ B => yY (lbs_ [iV c, iV d, f.v, g.v, h.v] ST_27 e0 a R0) (bE b fun G C b => yC (yCall FN_52 (a1 e0)) (matching_matched_ok C n o p a) ?_))))
  rintro _ w ⟨H, I, s, J, K, rfl, a⟩
  refine ⟨_, rfl, ?_⟩
  refine yY (yn e0) (yY (yFb FL_87_1 e0) (yY (lb_ s.v O_22 e0 a R4) (Ya s.v e0 (Ya (iV 0) rfl (wK B (wp_ret ?_))))))
  cases b
  exact r _ _ _ (fin2r Tryz.results21 ⟨rfl, rfl⟩ ⟨rfl, rfl⟩ ⟨_, rfl, (a.k1e)⟩)
 ·refine condT e0 (nT (dF j)) (sR fun _ D => Ym (iV i) e0 (Ya hnil.v rfl (Ya (iV i) e0 (wK D (wp_ret (z _ _ _ rfl ?_))))))
  cases b
  replace a := a.rowNh 3 I1
  exact r _ _ _ (fin2r Tryz.results21 ⟨rfl, rfl⟩ ⟨rfl, rfl⟩ ⟨_, rfl, (a.k1f)⟩)
theorem slices_Index_int_ok {j : LI} {h : Int} {g : Hdr} {out : Int} (i : slices_Index_int j h = some out) (k : imm I1 g.v j ∈ ros) (b : St w0 ros rs w) :
  Calls Tryz.prog 66 #[g.v, iV h] w (fun e w => e = .returned (iV out) ∧ St w0 ros rs w) := by
 refine enterQ Tryz.func66 rfl Tryz.ntmps66 rfl fun Q n => sR fun _ B => Ya (iV 0) rfl (wK B (seqQ fun Z C D => sR fun _ E => Ym g.v e0 (yY (yLen SL_22 e0 b (rdI k)) (Ym (iV 0) rfl (wK E ?_)))))
 refine blockQ fun o p => bE i fun q F i => ?_
 have G : ∀ (f : FV) w, St w0 ros rs w → .inl () = q → o (.exit 0) (fr 19 f) w := by
  intro f w b ho
  subst ho
  refine p _ _ _ (C _ _ (sR fun _ H => Ya (iV (-1)) rfl (wK H (wp_ret ?_))))
  cases i
  exact n _ _ _ (fin1r Tryz.results66 ⟨rfl, rfl⟩ ⟨rfl, b⟩)
 have I : ∀ (l : Int) (f : FV) w, f 4 = iV l → St w0 ros rs w → .inr l = q → o .ret (fr 19 f) w := by
  intro l f w J b ho
  subst ho
  refine p _ _ _ (D _ _ _ rfl ?_)
  cases i
  exact n _ _ _ (fin1r Tryz.results66 ⟨rfl, J⟩ ⟨rfl, b⟩)
 refine loopQ (fun s a w => ∃ (d : Int) (f : FV), d = s ∧ a = fr 19 f ∧ f 0 = g.v ∧ f 1 = iV h ∧ f 7 = iV (j.length : Int) ∧ f 8 = iV d ∧ St w0 ros rs w) F ⟨_, _, rfl, rfl, rfl, rfl, rfl, rfl, b⟩ ?_
 rintro _ _ w a0 ⟨d, f, rfl, rfl, r, t, u, m, b⟩ c x a1 K y
 refine sR fun _ L => yY (ylss (eh m) (eh u)) (wK L (seqQ fun a2 N O => ?_))
 refine cIf e0 c (fun R c => ?_) fun R c => ?_
 ·refine wp_skip (N _ _ (seqQ fun a3 S T => blockQ fun _ z => sR fun _ U => Ym (iV d) (eh m) (Ya (iV d) e0 (wK U (sR fun _ V => Ym (iV h) (eh t) (Ym g.v (eh r) ?_))))))
  refine Ym (iV d) e0 (bE c fun a4 A c => yY (yIa SL_22 e0 e0 b (rdI k) A) (yY (yI O_3 e0 b (rdI k) A) (yY (yeql e0 e0) (wK V ?_))))
  refine cIf e0 c (fun W c => ?_) fun W c => ?_
  ·refine sR fun _ X => Ym (iV d) e0 (Ya (iV d) e0 (wK X (wp_ret (z _ _ _ (T _ _ _ rfl ?_)))))
   cases c
   exact y _ _ _ _ rfl rfl (I _ _ _ rfl b (x _ rfl))
  ·refine wp_skip (z _ _ _ (S _ _ (wR (yY (yadd (eh m) rfl) (Ym (iV (wa .i64 d 1)) e0 (wN ?_))))))
   cases c
   exact K _ _ _ rfl ⟨_, _, rfl, rfl, r, t, u, rfl, b⟩
 ·refine wp_exit (O _ _ _ rfl ?_)
  cases c
  exact y _ _ _ _ rfl rfl (G _ _ b (x _ rfl))
theorem slices_Contains_int_ok {f : LI} {a : Int} {b : Hdr} {out : Bool} (c : slices_Contains_int f a = some out) (g : imm I1 b.v f ∈ ros) (d : St w0 ros rs w) :
  Calls Tryz.prog 45 #[b.v, iV a] w (fun e w => e = .returned (.bool out) ∧ St w0 ros rs w) := by
 refine enterQ Tryz.func45 rfl Tryz.ntmps45 rfl fun Q h => sR fun _ i => Ya (.bool false) rfl (wK i (sR fun _ j => Ym b.v e0 (Ym (iV a) e0 (bE c fun k l c => yC (yCall FN_66 (a2 e0 e0)) (slices_Index_int_ok l g d) ?_))))
 rintro _ w ⟨rfl, d⟩
 refine ⟨_, rfl, ?_⟩
 refine yY (ygeq e0 rfl) (Ya (.bool (decide ((0 : Int) ≤ k))) e0 (wK j (wp_ret ?_)))
 cases c
 exact h _ _ _ (fin1r Tryz.results45 ⟨rfl, rfl⟩ ⟨rfl, d⟩)
theorem matrix_entries_ok {o g : Int} {K L N : LI} {i k m : Hdr} {out : (List (Int × Int × Int))} (A : matrix_entries o g K L N = some out) (y : imm I1 i.v K ∈ ros) (O : imm I1 k.v L ∈ ros) (R : imm (rI .u64) m.v N ∈ ros) (b : St w0 ros rs w) :
  Calls Tryz.prog 61 #[.agg #[iV o, iV g, i.v, k.v, m.v]] w (fun e w => ∃ (S : Hdr), e = .returned (S.v) ∧ St w0 ros (row 49 rTi64i64u64 S.v out :: rs) w) := by
 refine enterQ Tryz.func61 rfl Tryz.ntmps61 rfl fun Q a3 => sR fun _ a4 => yBb (r_box (vals := [iV o, iV g, i.v, k.v, m.v]) b e0 rfl) fun p w b => Ya hnil.v rfl (wK a4 (sR fun _ a5 => Ya hnil.v rfl (wK a5 (sQ fun _ a6 => ?_))))
 refine sR fun _ a7 => yY (yFb FL_27_1 e0) (yY (lb_ (iV g) O_3 e0 b R0) (Ym (iV 0) rfl (wK a7 (blockQ fun a8 a9 => bE A fun b0 b1 A => ?_))))
 have b2 : ∀ (B : List (Int × Int × Int)) (q : Hdr) (f : FV) w, f 3 = q.v → St w0 ros (row 49 rTi64i64u64 q.v B :: rs) w → B = b0 → a8 (.exit 0) (fr 43 f) w := by
  intro B q f w b3 b ho
  subst ho
  refine a9 _ _ _ (a6 _ _ (sR fun _ b4 => Ym q.v (eh b3) (Ya q.v e0 (wK b4 (wp_ret ?_)))))
  cases A
  exact a3 _ _ _ (fin1r Tryz.results61 ⟨rfl, rfl⟩ ⟨_, rfl, b⟩)
 replace b := b.rowNh 49 rTi64i64u64
 refine loopQ (fun s a w => ∃ (C : List (Int × Int × Int)) (c : Int) (f : FV) (D : Hdr), (C, c) = s ∧ a = fr 43 f ∧ f 1 = (pB p) ∧ f 3 = D.v ∧ f 7 = iV g ∧ f 8 = iV c ∧ St w0 ros (box p 27 [iV o, iV g, i.v, k.v, m.v] :: row 49 rTi64i64u64 D.v C :: rs) w) b1 ⟨_, _, _, _, rfl, rfl, rfl, rfl, rfl, rfl, (b.k11)⟩ ?_
 rintro _ _ w e9 ⟨C, c, f, D, rfl, rfl, T, U, V, E, b⟩ h b5 f0 b6 b7
 refine sR fun _ b8 => yY (ylss (eh E) (eh V)) (wK b8 (seqQ fun f1 c0 c1 => ?_))
 refine cIf e0 h (fun c2 h => ?_) fun c2 h => ?_
 ·refine wp_skip (c0 _ _ (sQ fun _ c3 => blockQ fun _ c4 => sR fun _ c5 => Ym (iV c) (eh E) (Ya (iV c) e0 (wK c5 (sR fun _ c6 => yY (yFb FL_27_2 (eh T)) (yY (lb_ i.v O_22 e0 b R0) ?_))))))
  refine Ym (iV c) e0 (bE h fun c7 W h => yY (yIa SL_22 e0 e0 b (rdI y) W) (yY (yI O_3 e0 b (rdI y) W) (Ya (iV c7) e0 (wK c6 (blockQ fun c8 c9 => bE h fun d0 d1 h => ?_)))))
  have d2 : ∀ (F : List (Int × Int × Int)) (G : Hdr) (f : FV) w, f 1 = (pB p) → f 3 = G.v → f 7 = iV g → f 8 = iV c → St w0 ros (box p 27 [iV o, iV g, i.v, k.v, m.v] :: row 49 rTi64i64u64 G.v F :: rs) w → F = d0 → c8 (.exit 2) (fr 43 f) w := by
   intro F G f w d3 d4 d5 d6 b ho
   subst ho
   refine c9 _ _ _ (c4 _ _ _ (c3 _ _ (wR (yY (yadd (eh d6) rfl) (Ym (iV (wa .i64 c 1)) e0 (wN ?_))))))
   cases h
   exact b6 _ _ _ rfl ⟨_, _, _, _, rfl, rfl, d3, d4, d5, rfl, b⟩
  refine loopQ (fun s a w => ∃ (H : List (Int × Int × Int)) (j : Int) (f : FV) (r : Hdr), (H, j) = s ∧ a = fr 43 f ∧ f 1 = (pB p) ∧ f 3 = r.v ∧ f 4 = iV c ∧ f 5 = iV j ∧ f 7 = iV g ∧ f 8 = iV c ∧ St w0 ros (box p 27 [iV o, iV g, i.v, k.v, m.v] :: row 49 rTi64i64u64 r.v H :: rs) w) d1 ⟨_, _, _, _, rfl, rfl, T, U, rfl, rfl, V, E, b⟩ ?_
  rintro _ _ w f2 ⟨H, j, f, r, rfl, rfl, t, I, J, z, X, Z, b⟩ d d7 f3 d8 d9
  refine seqQ fun f4 e1 e2 => sR fun _ e3 => Ym (iV j) (eh z) (yY (yFb FL_27_2 (eh t)) (yY (lb_ i.v O_22 e0 b R0) (Ym (iV c) (eh J) (yY (yadd e0 rfl) (bE d fun f5 a0 d => yY (yIa SL_22 e0 e0 b (rdI y) a0) (yY (yI O_3 e0 b (rdI y) a0) (yY (ylss e0 e0) (wK e3 ?_))))))))
  refine cIf e0 d (fun e4 d => ?_) fun e4 d => ?_
  ·refine wp_skip (e1 _ _ (sQ fun _ e5 => blockQ fun _ e6 => bE d fun u a1 d => bE d fun x a2 d => bE d fun f6 e7 d => dR [0, 0, 2, 0, 14, 30, 0, 0, 128, 0, 896, 1920, 4094, 8190, 16383, 32767] [13, 14, 15] 3 folM ?_))
   replace b := b.drew
   refine Dn [0, 1, 2, 3, 4, 5, 6, 7, 8, 9, 10, 11, 12] [] [13] (yR rfl (m_ r.v (eh I)) (yR rfl (yFb FL_27_3 (eh t)) (yR rfl (lb_ k.v O_22 e0 b R0) (yR rfl (m_ (iV j) (eh z)) (yR rfl (yIa SL_22 e0 e0 b (rdI O) a1) (yR rfl (yI O_3 e0 b (rdI O) a1) (yR rfl (m_ (iV c) (eh J)) (yR rfl (yFb FL_27_4 (eh t)) (yR rfl (lb_ m.v O_25 e0 b R0) (yR rfl (m_ (iV j) (eh z)) (yR rfl (yIa SL_25 e0 e0 b (rdI R) a2) (yR rfl (yI O_47 e0 b (rdI R) a2) (yR rfl (ybuild (us := [iV u, iV c, .int .u64 x]) [(0, iV u), (1, iV c), (2, .int .u64 x)] SO_49 (bp3 e0 e0 e0) rfl) ?_)))))))))))))
   refine Rn QSn ?_
   refine Lc1 rfl ?_
   refine LH wn (rLt (n := 1) (l := [(u, c, x)]) b SL_44 [.agg #[iV u, iV c, .int .u64 x]] (bp1 e0) rfl rfl (mks1 (cs := [iV u, iV c, .int .u64 x]) rfl (mkF rfl) mks0)) fun f7 w b => Dn [] [0] [14] (Rn (yS rfl (m_ r.v (eh I)) QSn) ?_)
   refine Lc1 rfl ?_
   replace b := b.k17
   refine LH wn (rAp b SL_44 e0 e0 rO1 e7) fun e8 w b => Dn [] [] [15] (Rn QSn ?_)
   refine Lc1 rfl ?_
   refine Ly wn (a_ e8.v e0) (Dz [] [] (Rn QSn (e6 _ _ _ (e5 _ _ (wR (Ym (iV j) (eh z) (yY (yadd e0 rfl) (Ya (iV (wa .i64 j 1)) e0 (wN ?_)))))))))
   cases d
   exact d8 _ _ _ rfl ⟨_, _, _, _, rfl, rfl, t, rfl, J, rfl, X, Z, (b.k1g)⟩
  ·refine wp_exit (e2 _ _ _ rfl ?_)
   cases d
   exact d9 _ _ _ _ rfl rfl (d2 _ _ _ _ t I X Z b (d7 _ rfl))
 ·refine wp_exit (c1 _ _ _ rfl ?_)
  cases h
  exact b7 _ _ _ _ rfl rfl (b2 _ _ _ _ U (b.k12) (b5 _ rfl))
theorem matrix_Entries_ok {c d : Int} {j k l : LI} {f g h : Hdr} {out : (List (Int × Int × Int))} (b : matrix_Entries c d j k l = some out) (m : imm I1 f.v j ∈ ros) (n : imm I1 g.v k ∈ ros) (o : imm (rI .u64) h.v l ∈ ros) (a : St w0 ros rs w) :
  Calls Tryz.prog 55 #[.agg #[iV c, iV d, f.v, g.v, h.v]] w (fun e w => ∃ (p : Hdr), e = .returned (p.v) ∧ St w0 ros (row 49 rTi64i64u64 p.v out :: rs) w) := by
 refine enterQ Tryz.func55 rfl Tryz.ntmps55 rfl fun Q q => sR fun _ r => yBb (r_box (vals := [iV c, iV d, f.v, g.v, h.v]) a e0 rfl) fun C w a => Ya hnil.v rfl (wK r (seqQ fun D s t => sR fun _ u => yY (lbs_ [iV c, iV d, f.v, g.v, h.v] ST_27 e0 a R0) (bE b fun E x b => yC (yCall FN_51 (a1 e0)) (matrix_Check_ok x m n o a) ?_)))
 rintro _ w ⟨rfl, a⟩
 refine ⟨_, rfl, ?_⟩
 refine yY (yneq e0 rfl) (wK u ?_)
 rcases iteS b with ⟨i, b⟩ | ⟨i, b⟩
 ·refine condF e0 (nF (dT i)) (wp_skip (s _ _ (sR fun _ y => yY (lbs_ [iV c, iV d, f.v, g.v, h.v] ST_27 e0 a R0) (bE b fun F z b => yC (yCall FN_61 (a1 e0)) (matrix_entries_ok z m n o a) ?_))))
  rintro _ w ⟨A, rfl, a⟩
  refine ⟨_, rfl, ?_⟩
  refine Ya A.v e0 (wK y (wp_ret ?_))
  cases b
  exact q _ _ _ (fin1r Tryz.results55 ⟨rfl, rfl⟩ ⟨_, rfl, (a.k1f)⟩)
 ·refine condT e0 (nT (dF i)) (sR fun _ B => Ya hnil.v rfl (wK B (wp_ret (t _ _ _ rfl ?_))))
  cases b
  replace a := a.rowNh 49 rTi64i64u64
  exact q _ _ _ (fin1r Tryz.results55 ⟨rfl, rfl⟩ ⟨_, rfl, (a.k1f)⟩)
theorem blocks_arcs_ok {k m : Int} {O R S D : LI} {q r t x : Hdr} {out : L2} (h : blocks_arcs k m O R S D = some out) (b3 : imm I1 q.v O ∈ ros) (b4 : imm I1 r.v R ∈ ros) (b5 : imm (rI .u64) t.v S ∈ ros) (E : imm I1 x.v D ∈ ros) (b : St w0 ros rs w) :
  Calls Tryz.prog 46 #[.agg #[iV k, iV m, q.v, r.v, t.v], x.v] w (fun e w => ∃ (T : Hdr), e = .returned (T.v) ∧ St w0 ros (row 22 S1 T.v out :: rs) w) := by
 refine enterQ Tryz.func46 rfl Tryz.ntmps46 rfl fun Q b6 => sR fun _ b7 => yBb (r_box (vals := [iV k, iV m, q.v, r.v, t.v]) b e0 rfl) fun z w b => Ya hnil.v rfl (wK b7 (sR fun _ b8 => yY (yFb FL_27_0 e0) (yY (lb_ (iV k) O_3 e0 b R0) (bE h fun g7 b9 h => ?_))))
 obtain ⟨c0, em13, c1⟩ := mkL_rep b9 hnil
 refine yH (rMk b SLH_78 e0 c1) fun d w b => ?_
 replace b := (b.fReps 3 I1 c0).k11
 rw [← em13] at b
 refine Ya d.v e0 (wK b8 (sQ fun _ c2 => sR fun _ c3 => yY (lbs_ [iV k, iV m, q.v, r.v, t.v] ST_27 e0 b R2) (bE h fun U c4 h => yC (yCall FN_55 (a1 e0)) (matrix_Entries_ok c4 b3 b4 b5 b) ?_)))
 rintro _ w ⟨V, rfl, b⟩
 refine ⟨_, rfl, ?_⟩
 refine yY (yLen SL_44 e0 b rO0) (Ym (iV 0) rfl (wK c3 (blockQ fun c5 c6 => bE h fun c7 c8 h => ?_)))
 have c9 : ∀ (A : L2) (F : List Hdr) (f : FV) w, f 1 = x.v → f 2 = (pB z) → f 5 = d.v → St w0 ros (box z 27 [iV k, iV m, q.v, r.v, t.v] :: row 22 rH d.v F :: fam 3 I1 F A :: rs) w → A = c7 → c5 (.exit 0) (fr 54 f) w := by
  intro A F f w d0 d1 d2 b ho
  subst ho
  refine c6 _ _ _ (c2 _ _ (sR fun _ d3 => yY (yFb FL_27_1 (eh d1)) (yY (lb_ (iV m) O_3 e0 b R0) (bE h fun g8 d4 h => yH (rMk b SL_78 e0 d4) fun j w b => Ya j.v e0 (wK d3 (sQ fun _ d5 => sQ fun _ d6 => ?_))))))
  refine wR (Ym x.v (eh d0) (yY (yLen SL_22 e0 b (rdI E)) (Ym (iV 0) rfl (wK d6 (blockQ fun d7 d8 => ?_)))))
  replace b := (b.k1h).ffz
  refine bE h fun d9 e1 h => ?_
  have e2 : ∀ (G : L2) (f : FV) w, f 8 = j.v → St w0 ros (row 22 S1 j.v G :: rs) w → G = d9 → d7 (.exit 2) (fr 54 f) w := by
   intro G f w e3 b ho
   subst ho
   refine d8 _ _ _ (d5 _ _ (sR fun _ e4 => Ym j.v (eh e3) (Ya j.v e0 (wK e4 (wp_ret ?_)))))
   cases h
   exact b6 _ _ _ (fin1r Tryz.results46 ⟨rfl, rfl⟩ ⟨_, rfl, b⟩)
  refine loopQ (fun s a w => ∃ (H : L2) (o : Int) (f : FV), (H, o) = s ∧ a = fr 54 f ∧ f 5 = d.v ∧ f 8 = j.v ∧ f 38 = x.v ∧ f 39 = iV (D.length : Int) ∧ f 40 = iV o ∧ St w0 (imm S1 d.v A :: ros) (row 22 S1 j.v H :: rs) w) e1 ⟨_, _, _, rfl, rfl, d2, rfl, rfl, rfl, rfl, (b.k1f)⟩ ?_
  rintro _ _ w g9 ⟨H, o, f, rfl, rfl, W, I, X, Z, B, b⟩ i e5 h0 e6 e7
  refine sR fun _ e8 => yY (ylss (eh B) (eh Z)) (wK e8 (seqQ fun h1 e9 f0 => ?_))
  refine cIf e0 i (fun f1 i => ?_) fun f1 i => ?_
  ·refine wp_skip (e9 _ _ (sQ fun _ f2 => blockQ fun _ f3 => sR fun _ f4 => Ym (iV o) (eh B) (bE i fun a0 a2 i => yY (yIa SL_22 (eh X) (eh B) b (rdI (mtF E)) a2) (yY (yI O_3 e0 b (rdI (mtF E)) a2) (Ya (iV o) e0 (Ya (iV a0) e0 (wK f4 ?_)))))))
   refine wR (Ym j.v (eh I) (Ym (iV o) e0 (Ym d.v (eh W) (Ym (iV a0) e0 (bE i fun h2 a3 i => yY (yIa SL_78 e0 e0 b (rdI F0) a3) ?_)))))
   obtain ⟨f5, b⟩ := iLs b F0 a3
   refine yY (yCt O_22 e0 b F1 rfl) (bE i fun h3 a4 i => yY (yIs SL_78 e0 e0 b rO0 a4) (yT (r_sti (cs := [f5.v]) b O_22 rfl e0 e0 rfl (mkS F0) a4) fun w b => wN (f3 _ _ _ (f2 _ _ (wR (yY (yadd (eh B) rfl) (Ym (iV (wa .i64 o 1)) e0 (wN ?_))))))))
   cases i
   exact e6 _ _ _ rfl ⟨_, _, _, rfl, rfl, W, I, X, Z, rfl, (b.facts (allC F2 (allT (allT (allT allI)))))⟩
  ·refine wp_exit (f0 _ _ _ rfl ?_)
   cases i
   exact e7 _ _ _ _ rfl rfl (e2 _ _ _ I (b.facts (allT allI)) (e5 _ rfl))
 refine loopQ (fun s a w => ∃ (J : L2) (C : Int) (f : FV) (K : List Hdr), (J, C) = s ∧ a = fr 54 f ∧ f 1 = x.v ∧ f 2 = (pB z) ∧ f 5 = d.v ∧ f 15 = V.v ∧ f 16 = iV (U.length : Int) ∧ f 17 = iV C ∧ St w0 ros (box z 27 [iV k, iV m, q.v, r.v, t.v] :: row 22 rH d.v K :: fam 3 I1 K J :: row 49 rTi64i64u64 V.v U :: rs) w) c8 ⟨_, _, _, _, rfl, rfl, rfl, rfl, rfl, rfl, rfl, rfl, (b.k1i)⟩ ?_
 rintro _ _ w h5 ⟨J, C, f, K, rfl, rfl, a5, a6, p, a7, a8, L, b⟩ g f6 h7 f7 f8
 refine sR fun _ f9 => yY (ylss (eh L) (eh a8)) (wK f9 (seqQ fun h9 g0 g1 => ?_))
 refine cIf e0 g (fun g2 g => ?_) fun g2 g => ?_
 ·refine wp_skip (g0 _ _ (sQ fun _ g3 => blockQ fun _ g4 => sR fun _ g5 => bE g fun c a9 g => yY (yIa SL_44 (eh a7) (eh L) b rO3 a9) (yY (yFn ST_49 e0 b rO3 a9 rfl) (yBb (rAl b ZT_49) fun i0 w b => yT (r_stbn (vals' := [iV c.1, iV c.2.1, .int .u64 c.2.2]) (us := [iV c.1, iV c.2.1, .int .u64 c.2.2]) b ST_49 e0 e0 rfl rfl (one_of rfl) rfl) fun w b => wN ?_))))
  refine g5 _ _ (bE g fun i1 b0 g => bE g fun i2 g6 g => bE g fun i3 b1 g => dR [0, 0, 2, 0, 0, 16, 56, 120, 0, 256, 768, 2040, 4095, 8191] [10, 11, 13] 3 folM ?_)
  replace b := b.drew
  refine Dn [0, 1, 2, 3, 4, 5, 6, 7, 8, 9] [] [10] (yR rfl (m_ d.v (eh p)) (yR rfl (yFb FL_49_0 e0) (yR rfl (lb_ (iV c.1) O_3 e0 b R0) (yR rfl (m_ d.v (eh p)) (yR rfl (yFb FL_49_0 e0) (yR rfl (lb_ (iV c.1) O_3 e0 b R0) ?_))))))
  obtain ⟨i4, y⟩ := b.famI R3 b0
  refine yR rfl (yIa SLH_78 e0 e0 b rO2 y) (yR rfl (yF1 O_22 e0 b rO2 y rfl) (yR rfl (yFb FL_49_1 e0) (yR rfl (lb_ (iV c.2.1) O_3 e0 b R0) (Rn QSn ?_))))
  refine Lc1 rfl ?_
  refine LH wn (rLt (n := 1) (l := [c.2.1]) b SL_22 [iV c.2.1] (bp1 e0) rfl rfl (mks1 (cs := [iV c.2.1]) rfl mkI mks0)) fun i5 w b => Dn [] [0, 1, 2, 3, 4, 5, 6, 7] [11] (Rn (yS rfl (m_ d.v (eh p)) (yS rfl (yFb FL_49_0 e0) (yS rfl (lb_ (iV c.1) O_3 e0 b R1) (yS rfl (m_ d.v (eh p)) (yS rfl (yFb FL_49_0 e0) (yS rfl (lb_ (iV c.1) O_3 e0 b R1) (yS rfl (yIa SLH_78 e0 e0 b rO3 y) (yS rfl (yF1 O_22 e0 b rO3 y rfl) QSn)))))))) ?_)
  refine Lc1 rfl ?_
  replace b := (b.k1j).foc y b0
  refine LH wn (rAp b SL_22 e0 e0 rO2 g6) fun b2 w b => Dn [12] [0, 1, 2] [13] ?_
  obtain ⟨i6, N⟩ := setI_len (u := b2) b1 (b.famLx (mtR mhR))
  refine yR rfl (yIs SLH_78 e0 e0 b rO5 N) (Rn (yS rfl (m_ d.v (eh p)) (yS rfl (yFb FL_49_0 e0) (yS rfl (lb_ (iV c.1) O_3 e0 b R3) QSn))) ?_)
  refine Lc1 rfl ?_
  replace b := b.k1k
  refine LT wn (r_sti (cs := [b2.v]) b O_22 rfl e0 e0 rfl (mkF rfl) N) fun w b => ?_
  replace b := (b.k1l).unfS y N b1
  refine Dz [] [] (Rn QSn (g4 _ _ _ (g3 _ _ (wR (yY (yadd (eh L) rfl) (Ym (iV (wa .i64 C 1)) e0 (wN ?_)))))))
  cases g
  exact f7 _ _ _ rfl ⟨_, _, _, _, rfl, rfl, a5, a6, p, a7, a8, rfl, (b.k1m)⟩
 ·refine wp_exit (g1 _ _ _ rfl ?_)
  cases g
  exact f8 _ _ _ _ rfl rfl (c9 _ _ _ _ a5 a6 p (b.k1n) (f6 _ rfl))
theorem blocks_reach_ok {S : L2} {j : Int} {i : Hdr} {out : (List Bool)} (h : blocks_reach S j = some out) (y : imm S1 i.v S ∈ ros) (b : St w0 ros rs w) :
  Calls Tryz.prog 67 #[i.v, iV j] w (fun e w => ∃ (T : Hdr), e = .returned (T.v) ∧ St w0 ros (row 4 rB T.v out :: rs) w) := by
 refine enterQ Tryz.func67 rfl Tryz.ntmps67 rfl fun Q a6 => sR fun _ a7 => Ya hnil.v rfl (wK a7 (sR fun _ k2 => Ym i.v e0 (yY (yLen SL_78 e0 b (rdI y)) (bE h fun g2 a8 h => yH (rMk b SL_56 e0 a8) fun d w b => Ya d.v e0 ?_))))
 refine wK k2 (sR fun _ a9 => Ym d.v e0 (Ym (iV j) e0 (bE h fun g3 U h => yY (yIs SL_56 e0 e0 b rO0 U) (yT (r_sti (cs := [.bool true]) b O_4 rfl e0 rfl rfl mkB U) fun w b => wK a9 (sQ fun _ b0 => sQ fun _ b1 => ?_)))))
 refine wR (Ym (iV j) e0 (yH (rLt (n := 1) (l := [j]) b SL_22 [iV j] (bp1 e0) rfl rfl (mks1 (cs := [iV j]) rfl mkI mks0)) fun b2 w b => Ya b2.v e0 (wK b1 (blockQ fun b3 b4 => bE h fun b5 b6 h => ?_))))
 have b7 : ∀ (z : List Bool) (f : FV) w, f 5 = d.v → St w0 ros (row 4 rB d.v z :: rs) w → z = b5 → b3 (.exit 0) (fr 49 f) w := by
  intro z f w b8 b ho
  subst ho
  refine b4 _ _ _ (b0 _ _ (sR fun _ b9 => Ym d.v (eh b8) (Ya d.v e0 (wK b9 (wp_ret ?_)))))
  cases h
  exact a6 _ _ _ (fin1r Tryz.results67 ⟨rfl, rfl⟩ ⟨_, rfl, b⟩)
 replace b := b.toQ
 refine loopQ (fun s a w => ∃ (A : List Bool) (q : LI) (f : FV) (k : Hdr), (A, q) = s ∧ a = fr 49 f ∧ f 0 = i.v ∧ f 5 = d.v ∧ f 6 = k.v ∧ St w0 ros (row 4 rB d.v A :: rowS 3 I1 k.v q :: rs) w) b6 ⟨_, _, _, _, rfl, rfl, rfl, rfl, rfl, (b.k11)⟩ ?_
 rintro _ _ w g4 ⟨A, q, f, k, rfl, rfl, V, W, B, b⟩ g c0 g5 c1 c2
 refine seqQ fun g6 c3 c4 => sR fun _ c5 => Ym k.v (eh B) (yY (yLen SL_22 e0 b (rdQ R1)) (yY (ygtr e0 rfl) (wK c5 ?_)))
 refine cIf e0 g (fun c6 g => ?_) fun c6 g => ?_
 ·refine wp_skip (c3 _ _ (blockQ fun _ c7 => sR fun _ c8 => Ym k.v (eh B) (bE g fun X Z g => yY (yIa SL_22 e0 rfl b (rdQ R1) Z) (yY (yI O_3 e0 b (rdQ R1) Z) (Ya (iV X) e0 (wK c8 (sR fun _ c9 => ?_)))))))
  refine Ym k.v (eh B) (bE g fun g7 a0 g => ?_)
  replace b := b.k11
  refine yY (ySl (k2 := .i64) SL_22 e0 b (rdQ R0) (.inl (congrArg some rfl)) (.inr ⟨rfl, rfl⟩) a0) ?_
  replace b := b.qcut a0 rfl
  refine Ya ((subH k 1 1 (q.length : Int)).v) e0 (wK c9 (sR fun _ d0 => Ym i.v (eh V) (Ym (iV X) e0 (bE g fun r a1 g => yY (yIa SL_78 e0 e0 b (rdI y) a1) ?_))))
  obtain ⟨t, b⟩ := iLs b y a1
  refine yY (yCt O_22 e0 b F1 rfl) (yY (yLen SL_22 e0 b (rdI F0)) (Ym (iV 0) rfl (wK d0 (blockQ fun d1 d2 => bE g fun d3 d4 g => ?_))))
  have d5 : ∀ (C : List Bool) (D : LI) (E : Hdr) (f : FV) w, f 0 = i.v → f 5 = d.v → f 6 = E.v → St w0 ros (row 4 rB d.v C :: rowS 3 I1 E.v D :: rs) w → (C, D) = d3 → d1 (.exit 2) (fr 49 f) w := by
   intro C D E f w d6 d7 d8 b ho
   subst ho
   refine d2 _ _ _ (c7 _ _ _ ?_)
   cases g
   exact c1 _ _ _ rfl ⟨_, _, _, _, rfl, rfl, d6, d7, d8, b⟩
  refine loopQ (fun s a w => ∃ (F : List Bool) (G : LI) (o : Int) (f : FV) (u : Hdr), (F, G, o) = s ∧ a = fr 49 f ∧ f 0 = i.v ∧ f 5 = d.v ∧ f 6 = u.v ∧ f 29 = t.v ∧ f 30 = iV (r.length : Int) ∧ f 31 = iV o ∧ St w0 (imm I1 t.v r :: ros) (row 4 rB d.v F :: rowS 3 I1 u.v G :: rs) w) d4 ⟨_, _, _, _, _, rfl, rfl, V, W, rfl, rfl, rfl, rfl, ((b.k11).facts (allC F0 (allT (allT allI))))⟩ ?_
  rintro _ _ w d9 ⟨F, G, o, f, u, rfl, rfl, H, p, I, J, K, x, b⟩ c e1 g8 e2 e3
  refine sR fun _ e4 => yY (ylss (eh x) (eh K)) (wK e4 (seqQ fun g9 e5 e6 => ?_))
  refine cIf e0 c (fun e7 c => ?_) fun e7 c => ?_
  ·refine wp_skip (e5 _ _ (sQ fun _ e8 => blockQ fun e9 f0 => sR fun _ f1 => bE c fun m a2 c => yY (yIa SL_22 (eh J) (eh x) b (rdI F0) a2) (yY (yI O_3 e0 b (rdI F0) a2) (Ya (iV m) e0 (wK f1 (sR fun _ f2 => ?_))))))
   refine Ym d.v (eh p) (Ym (iV m) e0 (bE c fun h0 a3 c => yY (yIa SL_56 e0 e0 b rO0 a3) (yY (yB O_4 e0 b rO0 a3) (yY (ynot e0) (wK f2 ?_)))))
   have a4 : ∀ (L : List Bool) (N : LI) (O : Hdr) (f : FV) w, f 0 = i.v → f 5 = d.v → f 6 = O.v → f 29 = t.v → f 30 = iV (r.length : Int) → f 31 = iV o → St w0 (imm I1 t.v r :: ros) (row 4 rB d.v L :: rowS 3 I1 O.v N :: rs) w → blocks_reach_j13 o L N = some d9 → e9 .normal (fr 49 f) w := by
    intro L N O f w f3 f4 f5 f6 f7 f8 b h
    refine f0 _ _ _ (e8 _ _ (wR (yY (yadd (eh f8) rfl) (Ym (iV (wa .i64 o 1)) e0 (wN ?_)))))
    cases h
    exact e2 _ _ _ rfl ⟨_, _, _, _, _, rfl, rfl, f3, f4, f5, f6, f7, rfl, b⟩
   rcases iteS c with ⟨R, c⟩ | ⟨R, c⟩
   ·exact condF e0 (nF R) (wp_skip (a4 _ _ _ _ _ H p I J K x b c))
   ·refine condT e0 (nT (bfalse R)) (sR fun _ f9 => Ym d.v (eh p) (Ym (iV m) e0 (bE c fun h1 a5 c => yY (yIs SL_56 e0 e0 b rO0 a5) (yT (r_sti (cs := [.bool true]) b O_4 rfl e0 rfl rfl mkB a5) fun w b => wK f9 (wR (Ym u.v (eh I) (Ym (iV m) e0 ?_)))))))
    exact yH (rLt (n := 1) (l := [m]) b SL_22 [iV m] (bp1 e0) rfl rfl (mks1 (cs := [iV m]) rfl mkI mks0)) fun h3 w b => bE c fun h5 g0 c => yH (rQAp (b.k17) SL_22 e0 e0 rO1 (List.cons_ne_nil _ _) g0) fun g1 w b => Ya g1.v e0 (wN (a4 _ _ _ _ _ H p rfl J K x (b.k1g) c))
  ·refine wp_exit (e6 _ _ _ rfl ?_)
   cases c
   exact e3 _ _ _ _ rfl rfl (d5 _ _ _ _ _ H p I (b.facts (allT allI)) (e1 _ rfl))
 ·refine wp_exit (c4 _ _ _ rfl ?_)
  cases g
  exact c2 _ _ _ _ rfl rfl (b7 _ _ _ W (b.k1f) (c0 _ rfl))
theorem blocks_strong_ok {A : L2} {t : Hdr} {out : LI × L2} (o : blocks_strong A = some out) (H : imm S1 t.v A ∈ ros) (b : St w0 ros rs w) :
  Calls Tryz.prog 47 #[t.v] w (fun e w => ∃ (b2 b3 : Hdr) (b4 : List Hdr), e = .returned (.tuple #[b2.v, b3.v]) ∧ St w0 ros (row 3 I1 b2.v out.1 :: row 22 rH b3.v b4 :: fam 3 I1 b4 out.2 :: rs) w) := by
 refine enterQ Tryz.func47 rfl Tryz.ntmps47 rfl fun Q f1 => sR fun _ f2 => Ya hnil.v rfl (Ya hnil.v rfl (wK f2 (sR fun _ f3 => Ym t.v e0 (yY (yLen SL_78 e0 b (rdI H)) (bE o fun p2 f4 o => yH (rMk b SL_84 e0 f4) fun h w b => ?_)))))
 refine Ya h.v e0 (wK f3 (sQ fun _ f5 => sR fun _ f6 => Ym t.v e0 (yY (yLen SL_78 e0 b (rdI H)) (Ym (iV 0) rfl (wK f6 (blockQ fun f7 f8 => ?_))))))
 replace b := ((b.rowNh 22 rH).fNew 3 I1).k11
 refine bE o fun f9 g0 o => ?_
 have g1 : ∀ (B : List (List Bool)) (f : FV) w, f 0 = t.v → f 3 = hnil.v → f 4 = h.v → St w0 ros (row 22 rH hnil.v ([] : List Hdr) :: fam 3 I1 ([] : List Hdr) ([] : L2) :: row 56 SB h.v B :: rs) w → B = f9 → f7 (.exit 0) (fr 94 f) w := by
  intro B f w b5 g2 g3 b ho
  subst ho
  refine f8 _ _ _ (f5 _ _ (sR fun _ g4 => Ym t.v (eh b5) (yY (yLen SL_78 e0 b (rdI H)) (bE o fun p3 g5 o => yH (rMk b SL_22 e0 g5) fun g w b => Ya g.v e0 (wK g4 (sQ fun _ g6 => sQ fun _ g7 => ?_))))))
  refine wR (Ym t.v (eh b5) (yY (yLen SL_78 e0 b (rdI H)) (Ym (iV 0) rfl (wK g7 (blockQ fun g8 g9 => bE o fun h0 h1 o => ?_)))))
  have h4 : ∀ (O : LI) (R : L2) (I : Hdr) (S : List Hdr) (f : FV) w, f 2 = g.v → f 3 = I.v → St w0 ros (row 3 I1 g.v O :: row 22 rH I.v S :: fam 3 I1 S R :: rs) w → (O, R) = h0 → g8 (.exit 2) (fr 94 f) w := by
   intro O R I S f w h5 h6 b ho
   subst ho
   refine g9 _ _ _ (g6 _ _ (sR fun _ h7 => Ym g.v (eh h5) (Ym I.v (eh h6) (Ya g.v e0 (Ya I.v e0 (wK h7 (wp_ret ?_)))))))
   cases o
   exact f1 _ _ _ (fin2r Tryz.results47 ⟨rfl, rfl⟩ ⟨rfl, rfl⟩ ⟨_, _, _, rfl, b⟩)
  refine loopQ (fun s a w => ∃ (F : LI) (E : L2) (c : Int) (f : FV) (j : Hdr) (x : List Hdr), (F, E, c) = s ∧ a = fr 94 f ∧ f 2 = g.v ∧ f 3 = j.v ∧ f 4 = h.v ∧ f 28 = iV (A.length : Int) ∧ f 29 = iV c ∧ St w0 ros (row 3 I1 g.v F :: row 22 rH j.v x :: fam 3 I1 x E :: row 56 SB h.v B :: rs) w) h1 ⟨_, _, _, _, _, _, rfl, rfl, rfl, g2, g3, rfl, rfl, b⟩ ?_
  rintro _ _ w h8 ⟨F, E, c, f, j, x, rfl, rfl, b6, b7, h9, b8, T, b⟩ d i0 p4 i1 i2
  refine sR fun _ i3 => yY (ylss (eh T) (eh b8)) (wK i3 (seqQ fun p5 i4 i5 => ?_))
  refine cIf e0 d (fun i6 d => ?_) fun i6 d => ?_
  ·refine wp_skip (i4 _ _ (sQ fun i7 i8 => ?_))
   have b9 : ∀ (U : LI) (V : L2) (W : Hdr) (X : List Hdr) (f : FV) w, f 2 = g.v → f 3 = W.v → f 4 = h.v → f 28 = iV (A.length : Int) → f 29 = iV c → St w0 ros (row 3 I1 g.v U :: row 22 rH W.v X :: fam 3 I1 X V :: row 56 SB h.v B :: rs) w → blocks_strong_j69 c U V = some h8 → i7 .normal (fr 94 f) w := by
    intro U V W X f w i9 j0 j1 j2 j3 b o
    refine i8 _ _ (wR (yY (yadd (eh j3) rfl) (Ym (iV (wa .i64 c 1)) e0 (wN ?_))))
    cases o
    exact i1 _ _ _ rfl ⟨_, _, _, _, _, _, rfl, rfl, i9, j0, j1, j2, rfl, b⟩
   refine blockQ fun _ c0 => sR fun _ j4 => Ym (iV c) (eh T) (Ya (iV c) e0 (wK j4 (sR fun _ j5 => Ym (iV c) e0 (Ya (iV c) e0 (wK j5 (sQ fun _ j6 => ?_))))))
   refine sR fun _ j7 => Ym (iV c) e0 (Ym (iV 0) rfl (wK j7 (blockQ fun j8 j9 => bE d fun k0 k5 d => ?_)))
   have c1 : ∀ (J : Int) (f : FV) w, f 2 = g.v → f 3 = j.v → f 4 = h.v → f 6 = iV c → f 7 = iV J → f 28 = iV (A.length : Int) → f 29 = iV c → St w0 ros (row 3 I1 g.v F :: row 22 rH j.v x :: fam 3 I1 x E :: row 56 SB h.v B :: rs) w → J = k0 → j8 (.exit 4) (fr 94 f) w := by
    intro J f w p C c2 q c3 c4 c5 b ho
    subst ho
    refine j9 _ _ _ (j6 _ _ (seqQ fun p6 k6 k7 => sR fun _ k8 => Ym (iV J) (eh c3) (Ym (iV c) (eh q) (yY (yeql e0 e0) (wK k8 ?_)))))
    refine cIf e0 d (fun k9 d => ?_) fun k9 d => ?_
    ·refine sR fun _ l0 => Ym g.v (eh p) (Ym (iV c) (eh q) (Ym j.v (eh C) (yY (yLenF SLH_78 e0 b rO1 R2) (bE d fun p7 c6 d => yY (yIs SL_22 e0 e0 b rO0 c6) (yT (r_sti (cs := [iV (E.length : Int)]) b O_3 rfl e0 e0 rfl mkI c6) fun w b => wK l0 (sR fun _ l1 => ?_))))))
     refine Ym j.v (eh C) (Ym (iV c) (eh q) (yH (rLt (n := 1) (l := [c]) b SL_22 [iV c] (bp1 e0) rfl rfl (mks1 (cs := [iV c]) rfl mkI mks0)) fun Z w b => yH (rLt (n := 1) (l := [Z]) b SLH_78 [Z.v] (bp1 e0) rfl rfl (mks1 rfl (mkF rfl) mks0)) fun p8 w b => bE d fun p9 c7 d => ?_))
     replace b := b.k14
     obtain ⟨q0, ey968, l2⟩ := app_rep c7 (b.famL R4) (show [Z].length = [[c]].length from rfl)
     refine yH (rAp b SLH_78 e0 e0 rO1 l2) fun l3 w b => ?_
     replace b := (b.k1o).fPush
     rw [← ey968, ← (app_some c7).1] at b
     exact Ya l3.v e0 (wK l1 (wp_exit (k7 _ _ _ rfl (c0 _ _ _ (b9 _ _ _ _ _ _ p rfl c2 c4 c5 (b.k1p) d)))))
    ·refine wp_skip (k6 _ _ (sR fun _ l4 => Ym g.v (eh p) (Ym (iV c) (eh q) (Ym g.v (eh p) (Ym (iV J) (eh c3) (bE d fun l5 c8 d => yY (yIa SL_22 e0 e0 b rO0 c8) (yY (yI O_3 e0 b rO0 c8) (bE d fun q2 c9 d => yY (yIs SL_22 e0 e0 b rO0 c9) (yT (r_sti (cs := [iV l5]) b O_3 rfl e0 e0 rfl mkI c9) ?_)))))))))
     refine fun w b => wK l4 (bE d fun q3 r d => bE d fun q4 d0 d => bE d fun q5 l6 d => bE d fun q6 d1 d => dR [0, 0, 0, 6, 14, 0, 0, 0, 192, 448, 992, 2016, 0, 4096, 16352, 32767, 65535] [13, 14, 16] 3 folM ?_)
     replace b := b.drew
     refine Dn [0, 1, 2, 3, 4, 5, 6, 7, 8, 9, 10, 11, 12] [] [13] (yR rfl (m_ j.v (eh C)) (yR rfl (m_ g.v (eh p)) (yR rfl (m_ (iV c) (eh q)) (yR rfl (yIa SL_22 e0 e0 b rO0 r) (yR rfl (yI O_3 e0 b rO0 r) (yR rfl (m_ j.v (eh C)) (yR rfl (m_ g.v (eh p)) (yR rfl (m_ (iV c) (eh q)) (yR rfl (yIa SL_22 e0 e0 b rO0 r) (yR rfl (yI O_3 e0 b rO0 r) ?_))))))))))
     obtain ⟨q7, G⟩ := b.famI R2 d0
     refine yR rfl (yIa SLH_78 e0 e0 b rO1 G) (yR rfl (yF1 O_22 e0 b rO1 G rfl) (yR rfl (m_ (iV c) (eh q)) (Rn QSn ?_)))
     refine Lc1 rfl ?_
     refine LH wn (rLt (n := 1) (l := [c]) b SL_22 [iV c] (bp1 e0) rfl rfl (mks1 (cs := [iV c]) rfl mkI mks0)) fun q8 w b => Dn [] [0, 1, 2, 3, 4, 5, 6, 7, 8, 9, 10, 11] [14] (Rn (yS rfl (m_ j.v (eh C)) (yS rfl (m_ g.v (eh p)) (yS rfl (m_ (iV c) (eh q)) (yS rfl (yIa SL_22 e0 e0 b rO1 r) (yS rfl (yI O_3 e0 b rO1 r) (yS rfl (m_ j.v (eh C)) (yS rfl (m_ g.v (eh p)) (yS rfl (m_ (iV c) (eh q)) (yS rfl (yIa SL_22 e0 e0 b rO1 r) (yS rfl (yI O_3 e0 b rO1 r) (yS rfl (yIa SLH_78 e0 e0 b rO2 G) (yS rfl (yF1 O_22 e0 b rO2 G rfl) QSn)))))))))))) ?_)
     refine Lc1 rfl ?_
     replace b := (b.k14).foc G d0
     refine LH wn (rAp b SL_22 e0 e0 rO2 l6) fun d2 w b => Dn [15] [0, 1, 2, 3, 4] [16] ?_
     obtain ⟨q9, a0⟩ := setI_len (u := d2) d1 (b.famLx (mtR mhR))
     refine yR rfl (yIs SLH_78 e0 e0 b rO4 a0) (Rn (yS rfl (m_ j.v (eh C)) (yS rfl (m_ g.v (eh p)) (yS rfl (m_ (iV c) (eh q)) (yS rfl (yIa SL_22 e0 e0 b rO3 r) (yS rfl (yI O_3 e0 b rO3 r) QSn))))) ?_)
     refine Lc1 rfl ?_
     replace b := b.k1j
     refine LT wn (r_sti (cs := [d2.v]) b O_22 rfl e0 e0 rfl (mkF rfl) a0) fun w b => ?_
     replace b := (b.k1l).unfS G a0 d1
     exact Dz [] [] (Rn QSn (c0 _ _ _ (b9 _ _ _ _ _ _ p C c2 c4 c5 (b.k1p) d)))
   refine loopQ (fun s a w => ∃ (m : Int) (f : FV), m = s ∧ a = fr 94 f ∧ f 2 = g.v ∧ f 3 = j.v ∧ f 4 = h.v ∧ f 6 = iV c ∧ f 7 = iV c ∧ f 28 = iV (A.length : Int) ∧ f 29 = iV c ∧ f 33 = iV c ∧ f 34 = iV m ∧ St w0 ros (row 3 I1 g.v F :: row 22 rH j.v x :: fam 3 I1 x E :: row 56 SB h.v B :: rs) w) k5 ⟨_, _, rfl, rfl, b6, b7, h9, rfl, rfl, b8, T, rfl, rfl, b⟩ ?_
   rintro _ _ w r0 ⟨m, f, rfl, rfl, a1, a3, K, L, a4, a5, a6, a7, N, b⟩ k d3 r1 l7 d4
   refine sR fun _ l8 => yY (ylss (eh N) (eh a7)) (wK l8 (seqQ fun r2 l9 m0 => ?_))
   refine cIf e0 k (fun m1 k => ?_) fun m1 k => ?_
   ·refine wp_skip (l9 _ _ (seqQ fun r3 m2 m3 => blockQ fun _ d5 => sR fun _ m4 => Ym (iV m) (eh N) (Ya (iV m) e0 (wK m4 (sR fun _ m5 => Ym h.v (eh K) (Ym (iV c) (eh L) ?_))))))
    refine bE k fun r4 d6 k => yY (yIa SL_84 e0 e0 b rO3 d6) ?_
    obtain ⟨r5, m6, b⟩ := rLs b rO3 d6
    refine yY (yCe O_56 e0 m6 rfl) (Ym (iV m) e0 (bE k fun m7 d7 k => yY (yIa SL_56 e0 e0 b (rdI F0) d7) (yY (yB O_4 e0 b (rdI F0) d7) (Ym (.bool m7) e0 (bE k fun m8 y k => ?_)))))
    refine joinW 8 (fun f w => f 2 = g.v ∧ f 3 = j.v ∧ f 4 = h.v ∧ f 6 = iV c ∧ f 7 = iV c ∧ f 8 = iV m ∧ f 28 = iV (A.length : Int) ∧ f 29 = iV c ∧ f 33 = iV c ∧ f 34 = iV m ∧ f 52 = .bool m8 ∧ St w0 ros (row 3 I1 g.v F :: row 22 rH j.v x :: fam 3 I1 x E :: row 56 SB h.v B :: rs) w) (fun d8 => ?_) ?_
    ·rcases iteS y with ⟨i, y⟩ | ⟨i, y⟩
     ·refine yG i (m_ h.v (eh K)) (yG i (m_ (iV m) e0) (bE y fun r6 d9 y => yG i (yIa SL_84 e0 e0 b rO3 d9) ?_))
      obtain ⟨r7, m9, b⟩ := rLs b rO3 d9
      refine yG i (yCe O_56 e0 m9 rfl) (yG i (m_ (iV c) (eh L)) (bE y fun n0 e1 y => yG i (yIa SL_56 e0 e0 b (rdI F0) e1) (yG i (yB O_4 e0 b (rdI F0) e1) (yY (pt_ (.bool n0) e0 i e0) ?_))))
      cases y
      exact d8 _ _ ⟨a1, a3, K, L, a4, rfl, a5, a6, a7, N, rfl, (b.facts (allT (allT allI)))⟩
     ·refine gN (bfalse i) (gN (bfalse i) (gN (bfalse i) (gN (bfalse i) (gN (bfalse i) (gN (bfalse i) (gN (bfalse i) (yY (pf_ (.bool false) e0 (bfalse i) rfl) ?_)))))))
      cases y
      exact d8 _ _ ⟨a1, a3, K, L, a4, rfl, a5, a6, a7, N, rfl, (b.facts (allT allI))⟩
    rintro f w ⟨e2, e3, e4, e5, n2, n3, e6, e7, n4, n5, n6, b⟩
    refine wK m5 (cB (eh n6) k (fun n7 k => ?_) fun n7 k => ?_)
    ·refine sR fun _ n8 => Ym (iV m) (eh n3) (Ya (iV m) e0 (wK n8 (wp_exit (d5 _ _ _ (m3 _ _ _ rfl ?_)))))
     cases k
     exact d4 _ _ _ _ rfl rfl (c1 _ _ _ e2 e3 e4 e5 rfl e6 e7 b (d3 _ rfl))
    ·refine wp_skip (d5 _ _ _ (m2 _ _ (wR (yY (yadd (eh n5) rfl) (Ym (iV (wa .i64 m 1)) e0 (wN ?_))))))
     cases k
     exact l7 _ _ _ rfl ⟨_, _, rfl, rfl, e2, e3, e4, e5, n2, e6, e7, n4, rfl, b⟩
   ·refine wp_exit (m0 _ _ _ rfl ?_)
    cases k
    exact d4 _ _ _ _ rfl rfl (c1 _ _ _ a1 a3 K L a4 a5 a6 b (d3 _ rfl))
  ·refine wp_exit (i5 _ _ _ rfl ?_)
   cases d
   exact i2 _ _ _ _ rfl rfl (h4 _ _ _ _ _ _ b6 b7 (b.k1n) (i0 _ rfl))
 refine loopQ (fun s a w => ∃ (a8 : List (List Bool)) (D : Int) (f : FV), (a8, D) = s ∧ a = fr 94 f ∧ f 0 = t.v ∧ f 3 = hnil.v ∧ f 4 = h.v ∧ f 13 = iV (A.length : Int) ∧ f 14 = iV D ∧ St w0 ros (row 22 rH hnil.v ([] : List Hdr) :: fam 3 I1 ([] : List Hdr) ([] : L2) :: row 56 SB h.v a8 :: rs) w) g0 ⟨_, _, _, rfl, rfl, rfl, rfl, rfl, rfl, rfl, b⟩ ?_
 rintro _ _ w r8 ⟨a8, D, f, rfl, rfl, a9, e8, b0, e9, b1, b⟩ z n9 r9 o0 o2
 refine sR fun _ o3 => yY (ylss (eh b1) (eh e9)) (wK o3 (seqQ fun s0 o4 o5 => ?_))
 refine cIf e0 z (fun o6 z => ?_) fun o6 z => ?_
 ·refine wp_skip (o4 _ _ (sQ fun _ o7 => blockQ fun _ o8 => sR fun _ o9 => Ym (iV D) (eh b1) (Ya (iV D) e0 (wK o9 (wR (Ym h.v (eh b0) (Ym (iV D) e0 (Ym t.v (eh a9) ?_))))))))
  refine Ym (iV D) e0 (bE z fun s1 p0 z => yC (yCall FN_67 (a2 e0 e0)) (blocks_reach_ok p0 H b) ?_)
  rintro _ w ⟨p1, rfl, b⟩
  refine ⟨_, rfl, ?_⟩
  refine bE z fun s2 f0 z => yY (yIs SL_84 e0 e0 b rO3 f0) (yT (r_sti (cs := [p1.v]) (b.fz.k17) O_56 rfl e0 e0 rfl (mkS F0) f0) fun w b => wN (o8 _ _ _ (o7 _ _ (wR (yY (yadd (eh b1) rfl) (Ym (iV (wa .i64 D 1)) e0 (wN ?_)))))))
  cases z
  exact o0 _ _ _ rfl ⟨_, _, _, rfl, rfl, a9, e8, b0, e9, rfl, ((b.k1l).facts (allT allI))⟩
 ·refine wp_exit (o5 _ _ _ rfl ?_)
  cases z
  exact o2 _ _ _ _ rfl rfl (g1 _ _ _ a9 e8 b0 b (n9 _ rfl))
theorem blocks_sequence_ok {D : L2} {c9 : LI} {N : L2} {j k o : Hdr} {out : LI} (E : blocks_sequence D c9 N = some out) (a0 : imm S1 j.v D ∈ ros) (t : imm I1 k.v c9 ∈ ros) (O : imm S1 o.v N ∈ ros) (b : St w0 ros rs w) :
  Calls Tryz.prog 48 #[j.v, k.v, o.v] w (fun e w => ∃ (d0 : Hdr), e = .returned (d0.v) ∧ St w0 ros (row 3 I1 d0.v out :: rs) w) := by
 refine enterQ Tryz.func48 rfl Tryz.ntmps48 rfl fun Q i0 => sR fun _ i1 => Ya hnil.v rfl (wK i1 (sR fun _ i2 => Ym o.v e0 (yY (yLen SL_78 e0 b (rdI O)) (bE E fun v1 i3 E => yH (rMk b SL_56 e0 i3) fun c w b => Ya c.v e0 ?_))))
 refine wK i2 (sR fun _ i4 => Ya hnil.v rfl (wK i4 (sQ fun _ i5 => blockQ fun i6 i7 => bE E fun i8 i9 E => ?_)))
 have j0 : ∀ (a1 : LI) (I : Hdr) (f : FV) w, f 8 = I.v → St w0 ros (row 3 I1 I.v a1 :: rs) w → a1 = i8 → i6 (.exit 0) (fr 92 f) w := by
  intro a1 I f w j1 b ho
  subst ho
  refine i7 _ _ _ (i5 _ _ (sR fun _ j2 => Ym I.v (eh j1) (Ya I.v e0 (wK j2 (wp_ret ?_)))))
  cases E
  exact i0 _ _ _ (fin1r Tryz.results48 ⟨rfl, rfl⟩ ⟨_, rfl, b⟩)
 replace b := b.rowNh 3 I1
 refine loopQ (fun s a w => ∃ (u : List Bool) (x : LI) (f : FV) (d : Hdr), (u, x) = s ∧ a = fr 92 f ∧ f 0 = j.v ∧ f 1 = k.v ∧ f 2 = o.v ∧ f 7 = c.v ∧ f 8 = d.v ∧ St w0 ros (row 4 rB c.v u :: row 3 I1 d.v x :: rs) w) i9 ⟨_, _, _, _, rfl, rfl, rfl, rfl, rfl, rfl, rfl, (b.k11)⟩ ?_
 rintro _ _ w v2 ⟨u, x, f, d, rfl, rfl, d1, j3, a2, j4, a3, b⟩ y j5 v3 j6 j7
 refine seqQ fun v4 j8 j9 => sR fun _ k0 => Ym d.v (eh a3) (yY (yLen SL_22 e0 b rO1) (Ym o.v (eh a2) (yY (yLen SL_78 e0 b (rdI O)) (yY (ylss e0 e0) (wK k0 ?_)))))
 refine cIf e0 y (fun k5 y => ?_) fun k5 y => ?_
 ·refine wp_skip (j8 _ _ (blockQ fun _ k6 => sR fun _ k7 => Ym o.v (eh a2) (yY (yLen SL_78 e0 b (rdI O)) (bE y fun v5 k8 y => yH (rMk b SL_56 e0 k8) fun h w b => Ya h.v e0 (wK k7 (sQ fun _ k9 => ?_))))))
  refine sR fun _ l0 => Ym j.v (eh d1) (yY (yLen SL_78 e0 b (rdI a0)) (Ym (iV 0) rfl (wK l0 (blockQ fun l1 l2 => bE y fun l3 l4 y => ?_))))
  have l5 : ∀ (J : List Bool) (f : FV) w, f 0 = j.v → f 1 = k.v → f 2 = o.v → f 7 = c.v → f 8 = d.v → f 9 = h.v → St w0 ros (row 4 rB c.v u :: row 3 I1 d.v x :: row 4 rB h.v J :: rs) w → J = l3 → l1 (.exit 2) (fr 92 f) w := by
   intro J f w l6 l7 d2 l8 l9 m0 b ho
   subst ho
   refine l2 _ _ _ (k9 _ _ (sR fun _ m1 => Ym o.v (eh d2) (yY (yLen SL_78 e0 b (rdI O)) (Ym (iV 0) rfl (wK m1 (blockQ fun m2 m3 => bE y fun m4 m5 y => ?_))))))
   have d3 : ∀ (a4 : List Bool) (a5 : LI) (a6 : Hdr) (f : FV) w, f 0 = j.v → f 1 = k.v → f 2 = o.v → f 7 = c.v → f 8 = a6.v → St w0 ros (row 4 rB c.v a4 :: row 3 I1 a6.v a5 :: rs) w → (a4, a5) = m4 → m2 (.exit 6) (fr 92 f) w := by
    intro a4 a5 a6 f w m6 m7 m8 m9 n0 b ho
    subst ho
    refine m3 _ _ _ (k6 _ _ _ ?_)
    cases y
    exact j6 _ _ _ rfl ⟨_, _, _, _, rfl, rfl, m6, m7, m8, m9, n0, b⟩
   refine loopQ (fun s a w => ∃ (q : Int) (f : FV), q = s ∧ a = fr 92 f ∧ f 0 = j.v ∧ f 1 = k.v ∧ f 2 = o.v ∧ f 7 = c.v ∧ f 8 = d.v ∧ f 9 = h.v ∧ f 67 = iV (N.length : Int) ∧ f 68 = iV q ∧ St w0 ros (row 4 rB c.v u :: row 3 I1 d.v x :: row 4 rB h.v J :: rs) w) m5 ⟨_, _, rfl, rfl, l6, l7, d2, l8, l9, m0, rfl, rfl, b⟩ ?_
   rintro _ _ w v6 ⟨q, f, rfl, rfl, a7, a8, a9, R, b0, b1, b2, S, b⟩ m d4 v7 n1 d5
   refine sR fun _ n2 => yY (ylss (eh S) (eh b2)) (wK n2 (seqQ fun v8 n3 n4 => ?_))
   refine cIf e0 m (fun n5 m => ?_) fun n5 m => ?_
   ·refine wp_skip (n3 _ _ (seqQ fun v9 n6 n7 => blockQ fun _ d6 => sR fun _ n8 => Ym (iV q) (eh S) (Ya (iV q) e0 (wK n8 (sR fun _ n9 => Ym c.v (eh R) (Ym (iV q) e0 ?_))))))
    refine bE m fun o0 d7 m => yY (yIa SL_56 e0 e0 b rO0 d7) (yY (yB O_4 e0 b rO0 d7) (yY (ynot e0) (Ym (.bool (!o0)) e0 (bE m fun o1 F m => ?_))))
    refine joinW 6 (fun f w => f 0 = j.v ∧ f 1 = k.v ∧ f 2 = o.v ∧ f 7 = c.v ∧ f 8 = d.v ∧ f 9 = h.v ∧ f 14 = iV q ∧ f 67 = iV (N.length : Int) ∧ f 68 = iV q ∧ f 82 = .bool o1 ∧ St w0 ros (row 4 rB c.v u :: row 3 I1 d.v x :: row 4 rB h.v J :: rs) w) (fun d8 => ?_) ?_
    ·rcases iteS F with ⟨r, F⟩ | ⟨r, F⟩
     ·refine gN (nF r) (gN (nF r) (gN (nF r) (gN (nF r) (gN (nF r) (yY (pf_ (.bool false) e0 (nF r) rfl) ?_)))))
      cases F
      exact d8 _ _ ⟨a7, a8, a9, R, b0, b1, rfl, b2, S, rfl, b⟩
     ·refine yG (nT (bfalse r)) (m_ h.v (eh b1)) (yG (nT (bfalse r)) (m_ (iV q) e0) (bE F fun o2 d9 F => yG (nT (bfalse r)) (yIa SL_56 e0 e0 b rO2 d9) (yG (nT (bfalse r)) (yB O_4 e0 b rO2 d9) (yG (nT (bfalse r)) (ynot e0) (yY (pt_ (.bool (!o2)) e0 (nT (bfalse r)) e0) ?_)))))
      cases F
      exact d8 _ _ ⟨a7, a8, a9, R, b0, b1, rfl, b2, S, rfl, b⟩
    rintro f w ⟨e1, e2, e3, b3, e4, o3, e5, o4, o5, o6, b⟩
    refine wK n9 (cB (eh o6) m (fun o7 m => ?_) fun o7 m => ?_)
    ·refine sR fun _ o8 => Ym c.v (eh b3) (Ym (iV q) (eh e5) (bE m fun w1 e6 m => yY (yIs SL_56 e0 e0 b rO0 e6) (yT (r_sti (cs := [.bool true]) b O_4 rfl e0 rfl rfl mkB e6) fun w b => wK o8 (sR fun _ o9 => Ym d.v (eh e4) (Ym (iV q) (eh e5) ?_)))))
     refine yH (rLt (n := 1) (l := [q]) b SL_22 [iV q] (bp1 e0) rfl rfl (mks1 (cs := [iV q]) rfl mkI mks0)) fun w2 w b => bE m fun w3 p0 m => yH (rAp (b.k17) SL_22 e0 e0 rO1 p0) fun p1 w b => Ya p1.v e0 (wK o9 (wp_exit (d6 _ _ _ (n7 _ _ _ rfl ?_))))
     cases m
     exact d5 _ _ _ _ rfl rfl (d3 _ _ _ _ _ e1 e2 e3 b3 rfl (b.k1q) (d4 _ rfl))
    ·refine wp_skip (d6 _ _ _ (n6 _ _ (wR (yY (yadd (eh o5) rfl) (Ym (iV (wa .i64 q 1)) e0 (wN ?_))))))
     cases m
     exact n1 _ _ _ rfl ⟨_, _, rfl, rfl, e1, e2, e3, b3, e4, o3, o4, rfl, b⟩
   ·refine wp_exit (n4 _ _ _ rfl ?_)
    cases m
    exact d5 _ _ _ _ rfl rfl (d3 _ _ _ _ _ a7 a8 a9 R b0 (b.k1r) (d4 _ rfl))
  refine loopQ (fun s a w => ∃ (b4 : List Bool) (p : Int) (f : FV), (b4, p) = s ∧ a = fr 92 f ∧ f 0 = j.v ∧ f 1 = k.v ∧ f 2 = o.v ∧ f 7 = c.v ∧ f 8 = d.v ∧ f 9 = h.v ∧ f 26 = j.v ∧ f 27 = iV (D.length : Int) ∧ f 28 = iV p ∧ St w0 ros (row 4 rB c.v u :: row 3 I1 d.v x :: row 4 rB h.v b4 :: rs) w) l4 ⟨_, _, _, rfl, rfl, d1, j3, a2, j4, a3, rfl, rfl, rfl, rfl, (b.k1l)⟩ ?_
  rintro _ _ w w4 ⟨b4, p, f, rfl, rfl, e7, e8, e9, f0, f1, f2, f3, f4, T, b⟩ z p2 w5 p3 p4
  refine sR fun _ p5 => yY (ylss (eh T) (eh f4)) (wK p5 (seqQ fun w6 p6 p7 => ?_))
  refine cIf e0 z (fun p8 z => ?_) fun p8 z => ?_
  ·refine wp_skip (p6 _ _ (sQ fun _ p9 => blockQ fun _ q0 => sR fun _ q4 => Ym (iV p) (eh T) (bE z fun H f5 z => yY (yIa SL_78 (eh f3) (eh T) b (rdI a0) f5) ?_)))
   obtain ⟨B, b⟩ := iLs b a0 f5
   refine yY (yCt O_22 e0 b F1 rfl) (Ya (iV p) e0 (Ya B.v e0 (wK q4 (sR fun _ q5 => Ym B.v e0 (yY (yLen SL_22 e0 b (rdI F0)) (Ym (iV 0) rfl (wK q5 (blockQ fun q6 q7 => bE z fun q8 q9 z => ?_))))))))
   have r0 : ∀ (b5 : List Bool) (f : FV) w, f 0 = j.v → f 1 = k.v → f 2 = o.v → f 7 = c.v → f 8 = d.v → f 9 = h.v → f 26 = j.v → f 27 = iV (D.length : Int) → f 28 = iV p → St w0 ros (row 4 rB c.v u :: row 3 I1 d.v x :: row 4 rB h.v b5 :: rs) w → b5 = q8 → q6 (.exit 4) (fr 92 f) w := by
    intro b5 f w r1 r2 r3 r4 r5 r6 r7 r8 r9 b ho
    subst ho
    refine q7 _ _ _ (q0 _ _ _ (p9 _ _ (wR (yY (yadd (eh r9) rfl) (Ym (iV (wa .i64 p 1)) e0 (wN ?_))))))
    cases z
    exact p3 _ _ _ rfl ⟨_, _, _, rfl, rfl, r1, r2, r3, r4, r5, r6, r7, r8, rfl, b⟩
   refine loopQ (fun s a w => ∃ (U : List Bool) (G : Int) (f : FV), (U, G) = s ∧ a = fr 92 f ∧ f 0 = j.v ∧ f 1 = k.v ∧ f 2 = o.v ∧ f 7 = c.v ∧ f 8 = d.v ∧ f 9 = h.v ∧ f 10 = iV p ∧ f 26 = j.v ∧ f 27 = iV (D.length : Int) ∧ f 28 = iV p ∧ f 33 = B.v ∧ f 34 = iV (H.length : Int) ∧ f 35 = iV G ∧ St w0 (imm I1 B.v H :: ros) (row 4 rB c.v u :: row 3 I1 d.v x :: row 4 rB h.v U :: rs) w) q9 ⟨_, _, _, rfl, rfl, e7, e8, e9, f0, f1, f2, rfl, f3, f4, T, rfl, rfl, rfl, (b.facts (allC F0 (allT (allT allI))))⟩ ?_
   rintro _ _ w s0 ⟨U, G, f, rfl, rfl, b6, C, b7, V, b8, b9, K, c0, c1, c2, c3, c4, W, b⟩ g s1 w7 s2 s3
   refine sR fun _ s4 => yY (ylss (eh W) (eh c4)) (wK s4 (seqQ fun w8 s5 s6 => ?_))
   refine cIf e0 g (fun s7 g => ?_) fun s7 g => ?_
   ·refine wp_skip (s5 _ _ (sQ fun _ s8 => blockQ fun s9 t0 => sR fun _ t1 => bE g fun L f6 g => yY (yIa SL_22 (eh c3) (eh W) b (rdI F0) f6) (yY (yI O_3 e0 b (rdI F0) f6) (Ya (iV L) e0 (wK t1 (sQ fun _ t2 => bE g fun f7 X g => ?_))))))
    refine bE g fun f8 Z g => bE g fun c5 A g => ?_
    refine joinN (n := 92) (fun f w => f 0 = j.v ∧ f 1 = k.v ∧ f 2 = o.v ∧ f 7 = c.v ∧ f 8 = d.v ∧ f 9 = h.v ∧ f 10 = iV p ∧ f 13 = iV L ∧ f 26 = j.v ∧ f 27 = iV (D.length : Int) ∧ f 28 = iV p ∧ f 33 = B.v ∧ f 34 = iV (H.length : Int) ∧ f 35 = iV G ∧ f 57 = .bool c5 ∧ St w0 (imm I1 B.v H :: ros) (row 4 rB c.v u :: row 3 I1 d.v x :: row 4 rB h.v U :: rs) w) (fun f9 => ?_) ?_
    ·rcases iteS A with ⟨i, A⟩ | ⟨i, A⟩
     ·have t3 := someI A
      refine dR [0, 0, 3, 7, 0, 0, 48, 112, 255, 511, 1023, 1023, 1023, 7167, 15359, 32767, 65535, 131071, 262143] [] 0 folM ?_
      replace b := b.drew
      refine Dz [0, 1, 2, 3, 4, 5, 6, 7, 8, 9, 10, 11, 12, 13, 14, 15, 16, 17, 18] [] (yR rfl (m_ k.v (eh C)) (yR rfl (m_ (iV p) (eh K)) (yR rfl (yIa SL_22 e0 e0 b (rdI (mtF t)) X) (yR rfl (yI O_3 e0 b (rdI (mtF t)) X) (yR rfl (m_ k.v (eh C)) (yR rfl (m_ (iV L) e0) (yR rfl (yIa SL_22 e0 e0 b (rdI (mtF t)) Z) (yR rfl (yI O_3 e0 b (rdI (mtF t)) Z) (yR rfl (yneq e0 e0) (yR rfl (m_ (.bool (!(decide (f7 = f8)))) e0) (Rx rfl rfl (wX (nF (dT i))) (Rx rfl rfl (wX (nF (dT i))) (Rx rfl rfl (wX (nF (dT i))) ?_)))))))))))))
      exact Rx rfl rfl (wX (nF (dT i))) (Rx rfl rfl (wX (nF (dT i))) (Rx rfl rfl (wX (nF (dT i))) (Rx rfl rfl (wX (nF (dT i))) (Rx rfl rfl (wX (nF (dT i))) (yR rfl (pf_ (.bool c5) e0 (nF (dT i)) (eqv t3 rfl)) (Rn QSn (f9 _ _ ⟨b6, C, b7, V, b8, b9, K, rfl, c0, c1, c2, c3, c4, W, rfl, b⟩)))))))
     ·refine bE A fun w9 g0 A => bE A fun x0 g1 A => ?_
      have t4 := someI A
      refine dR [0, 0, 3, 7, 0, 0, 48, 112, 255, 511, 1023, 1023, 1023, 7167, 15359, 32767, 65535, 131071, 262143] [] 0 folM ?_
      replace b := b.drew
      refine Dz [0, 1, 2, 3, 4, 5, 6, 7, 8, 9, 10, 11, 12, 13, 14, 15, 16, 17, 18] [] (yR rfl (m_ k.v (eh C)) (yR rfl (m_ (iV p) (eh K)) (yR rfl (yIa SL_22 e0 e0 b (rdI (mtF t)) X) (yR rfl (yI O_3 e0 b (rdI (mtF t)) X) (yR rfl (m_ k.v (eh C)) (yR rfl (m_ (iV L) e0) (yR rfl (yIa SL_22 e0 e0 b (rdI (mtF t)) Z) (yR rfl (yI O_3 e0 b (rdI (mtF t)) Z) (yR rfl (yneq e0 e0) (yR rfl (m_ (.bool (!(decide (f7 = f8)))) e0) (Ry rfl rfl (wG (nT (dF i))) (m_ c.v (eh V)) (Ry rfl rfl (wG (nT (dF i))) (m_ k.v (eh C)) (Ry rfl rfl (wG (nT (dF i))) (m_ (iV p) (eh K)) ?_)))))))))))))
      exact Ry rfl rfl (wG (nT (dF i))) (yIa SL_22 e0 e0 b (rdI (mtF t)) g0) (Ry rfl rfl (wG (nT (dF i))) (yI O_3 e0 b (rdI (mtF t)) g0) (Ry rfl rfl (wG (nT (dF i))) (yIa SL_56 e0 e0 b rO0 g1) (Ry rfl rfl (wG (nT (dF i))) (yB O_4 e0 b rO0 g1) (Ry rfl rfl (wG (nT (dF i))) (ynot e0) (yR rfl (pt_ (.bool c5) e0 (nT (dF i)) (eqv t4 e0)) (Rn QSn (f9 _ _ ⟨b6, C, b7, V, b8, b9, K, rfl, c0, c1, c2, c3, c4, W, rfl, b⟩)))))))
    rintro f w ⟨g2, c6, g3, g4, g5, c7, g6, t5, g7, g8, g9, h0, h1, h3, t6, b⟩
    refine t2 _ _ ?_
    have h5 : ∀ (c8 : List Bool) (f : FV) w, f 0 = j.v → f 1 = k.v → f 2 = o.v → f 7 = c.v → f 8 = d.v → f 9 = h.v → f 10 = iV p → f 26 = j.v → f 27 = iV (D.length : Int) → f 28 = iV p → f 33 = B.v → f 34 = iV (H.length : Int) → f 35 = iV G → St w0 (imm I1 B.v H :: ros) (row 4 rB c.v u :: row 3 I1 d.v x :: row 4 rB h.v c8 :: rs) w → blocks_sequence_j145 G c8 = some s0 → s9 .normal (fr 92 f) w := by
     intro c8 f w t7 t8 t9 u0 u1 u2 u3 u4 u5 u6 u7 u8 u9 b E
     refine t0 _ _ _ (s8 _ _ (wR (yY (yadd (eh u9) rfl) (Ym (iV (wa .i64 G 1)) e0 (wN ?_)))))
     cases E
     exact s2 _ _ _ rfl ⟨_, _, _, rfl, rfl, t7, t8, t9, u0, u1, u2, u3, u4, u5, u6, u7, u8, rfl, b⟩
    refine cB (eh t6) g (fun v0 g => ?_) fun v0 g => ?_
    ·exact wR (Ym h.v (eh c7) (Ym k.v (eh c6) (Ym (iV L) (eh t5) (bE g fun x2 h8 g => yY (yIa SL_22 e0 e0 b (rdI (mtF t)) h8) (yY (yI O_3 e0 b (rdI (mtF t)) h8) (bE g fun x4 h9 g => yY (yIs SL_56 e0 e0 b rO2 h9) (yT (r_sti (cs := [.bool true]) (b.k17) O_4 rfl e0 rfl rfl mkB h9) fun w b => wN (h5 _ _ _ g2 c6 g3 g4 g5 c7 g6 g7 g8 g9 h0 h1 h3 (b.k1l) g))))))))
    ·exact wp_skip (h5 _ _ _ g2 c6 g3 g4 g5 c7 g6 g7 g8 g9 h0 h1 h3 b g)
   ·refine wp_exit (s6 _ _ _ rfl ?_)
    cases g
    exact s3 _ _ _ _ rfl rfl (r0 _ _ _ b6 C b7 V b8 b9 c0 c1 c2 (b.facts (allT allI)) (s1 _ rfl))
  ·refine wp_exit (p7 _ _ _ rfl ?_)
   cases z
   exact p4 _ _ _ _ rfl rfl (l5 _ _ _ e7 e8 e9 f0 f1 f2 b (p2 _ rfl))
 ·refine wp_exit (j9 _ _ _ rfl ?_)
  cases y
  exact j7 _ _ _ _ rfl rfl (j0 _ _ _ _ a3 (b.k12) (j5 _ rfl))
theorem blocks_Triangular_ok {r t : Int} {b8 c0 c1 : LI} {u x y : Hdr} {out : LI × LI × LI × Int} (c : blocks_Triangular r t b8 c0 c1 = some out) (T : imm I1 u.v b8 ∈ ros) (U : imm I1 x.v c0 ∈ ros) (V : imm (rI .u64) y.v c1 ∈ ros) (b : St w0 ros rs w) :
  Calls Tryz.prog 15 #[.agg #[iV r, iV t, u.v, x.v, y.v]] w (fun e w => ∃ (c2 c3 c4 : Hdr), e = .returned (.tuple #[.agg #[c2.v, c3.v, c4.v], iV out.2.2.2]) ∧ St w0 ros (row 3 I1 c2.v out.1 :: row 3 I1 c3.v out.2.1 :: row 3 I1 c4.v out.2.2.1 :: rs) w) := by
 refine enterQ Tryz.func15 rfl Tryz.ntmps15 rfl fun Q W => sR fun _ f1 => yBb (r_box (vals := [iV r, iV t, u.v, x.v, y.v]) b e0 rfl) fun n8 w b => yBb (rAl b ZT_36) fun o w b => Ya (iV 0) rfl (wK f1 (sR fun _ f2 => yY (lbs_ [iV r, iV t, u.v, x.v, y.v] ST_27 e0 b R1) (bE c fun L f3 c => ?_)))
 refine yC (yCall FN_44 (a1 e0)) (blocks_square_ok f3 T U V b) ?_
 rintro _ w ⟨rfl, b⟩
 refine ⟨_, rfl, ?_⟩
 refine Ya (iV L) e0 (wK f2 (seqQ fun n9 f4 f5 => sR fun _ f6 => Ym (iV L) e0 (yY (yneq e0 rfl) (wK f6 ?_))))
 rcases iteS c with ⟨X, c⟩ | ⟨X, c⟩
 ·refine condF e0 (nF (dT X)) (wp_skip (f4 _ _ (sR fun _ f7 => yY (lbs_ [iV r, iV t, u.v, x.v, y.v] ST_27 e0 b R1) (bE c fun z f8 c => yC (yCall FN_21 (a1 e0)) (matching_Maximum_ok f8 T U V b) ?_))))
  rintro _ w ⟨h, rfl, b⟩
  refine ⟨_, rfl, ?_⟩
  refine Ym (.tuple #[h.v, iV z.2]) e0 (yY (x_ h.v e0) (yY (x_ (iV z.2) e0) (Ya h.v e0 (Ya (iV z.2) e0 (wK f7 (seqQ fun o0 f9 g0 => sR fun _ g1 => Ym h.v e0 (bE c fun o1 g2 c => ?_)))))))
  replace b := b.fz
  refine yC (yCall FN_45 (a2 e0 rfl)) (slices_Contains_int_ok g2 F0 b) ?_
  rintro _ w ⟨rfl, b⟩
  refine ⟨_, rfl, ?_⟩
  refine wK g1 (cB e0 c (fun g3 c => ?_) fun g3 c => ?_)
  ·refine sR fun _ g4 => yY (ybuild (us := [hnil.v, hnil.v, hnil.v]) [] SO_36 bp0 rfl) (yT (r_stbn (vals' := [hnil.v, hnil.v, hnil.v]) (us := [hnil.v, hnil.v, hnil.v]) b ST_36 e0 e0 rfl rfl (one_of rfl) rfl) fun w b => Ya (iV 9) rfl (wK g4 (wp_ret (g0 _ _ _ rfl ?_))))
   cases c
   replace b := ((b.rowNh 3 I1).rowNh 3 I1).rowNh 3 I1
   exact W _ _ _ (fin2r Tryz.results15 (rcs2 rfl rfl b R3 ST_36 rfl) ⟨rfl, rfl⟩ ⟨_, _, _, rfl, ((b.k1s).facts (allT allI))⟩)
  ·refine wp_skip (f9 _ _ (sR fun _ g5 => yY (lbs_ [iV r, iV t, u.v, x.v, y.v] ST_27 e0 b R1) (Ym h.v e0 (bE c fun o2 g6 c => yC (yCall FN_46 (a2 e0 e0)) (blocks_arcs_ok g6 (mtF T) (mtF U) (mtF V) F0 b) ?_))))
   rintro _ w ⟨Z, rfl, b⟩
   refine ⟨_, rfl, ?_⟩
   refine Ya Z.v e0 (wK g5 (sR fun _ g7 => Ym Z.v e0 (bE c fun a0 g8 c => ?_)))
   replace b := b.fz
   refine yC (yCall FN_47 (a1 e0)) (blocks_strong_ok g8 F0 b) ?_
   rintro _ w ⟨N, g, o5, rfl, b⟩
   refine ⟨_, rfl, ?_⟩
   refine Ym (.tuple #[N.v, g.v]) e0 (yY (x_ N.v e0) (yY (x_ g.v e0) (Ya N.v e0 (Ya g.v e0 (wK g7 (sR fun _ g9 => yH (rLt (n := 1) (l := [0]) b SL_22 [iV 0] (bp1 rfl) rfl rfl (mks1 (cs := [iV 0]) rfl mkI mks0)) fun O w b => yY (ybuild (us := [hnil.v, hnil.v, O.v]) [(2, O.v)] SO_36 (bp1 e0) rfl) (yBb (rAl b ZT_36) fun p w b => ?_)))))))
   refine yT (r_stbn (vals' := [hnil.v, hnil.v, O.v]) (us := [hnil.v, hnil.v, O.v]) b ST_36 e0 e0 rfl rfl (one_of rfl) rfl) fun w b => wK g9 (sQ fun _ h0 => sR fun _ h1 => Ym Z.v e0 (Ym N.v e0 (Ym g.v e0 (bE c fun A h2 c => ?_))))
   replace b := (((b.k17).fz).k1h).ffz
   refine yC (yCall FN_48 (a3 e0 e0 e0)) (blocks_sequence_ok h2 F2 F1 F0 b) ?_
   rintro _ w ⟨B, rfl, b⟩
   refine ⟨_, rfl, ?_⟩
   refine yY (yLen SL_22 e0 b rO0) (Ym (iV 0) rfl (wK h1 (blockQ fun h3 h5 => bE c fun h7 h9 c => ?_)))
   have i0 : ∀ (a4 a5 a6 : LI) (C D E : Hdr) (f : FV) w, f 2 = (pB o) → f 10 = (pB p) → St w0 ros (box o 36 [hnil.v, hnil.v, hnil.v] :: row 3 I1 C.v a4 :: row 3 I1 D.v a5 :: row 3 I1 E.v a6 :: box p 36 [C.v, D.v, E.v] :: rs) w → (a4, a5, a6) = h7 → h3 (.exit 0) (fr 91 f) w := by
    intro a4 a5 a6 C D E f w c5 i1 b ho
    subst ho
    refine h5 _ _ _ (h0 _ _ (sR fun _ i2 => yY (lbs_ [C.v, D.v, E.v] ST_36 (eh i1) b R4) (yT (r_stbn (vals' := [C.v, D.v, E.v]) (us := [C.v, D.v, E.v]) b ST_36 (eh c5) e0 rfl rfl (one_of rfl) rfl) fun w b => Ya (iV 0) rfl (wK i2 (wp_ret ?_)))))
    cases c
    exact W _ _ _ (fin2r Tryz.results15 (rcs2 rfl c5 b R0 ST_36 rfl) ⟨rfl, rfl⟩ ⟨_, _, _, rfl, (b.k1t)⟩)
   replace b := (b.rowNh 3 I1).rowNh 3 I1
   refine loopQ (fun s a w => ∃ (H I J : LI) (F : Int) (f : FV) (q j k : Hdr), (H, I, J, F) = s ∧ a = fr 91 f ∧ f 2 = (pB o) ∧ f 5 = h.v ∧ f 9 = g.v ∧ f 10 = (pB p) ∧ f 43 = B.v ∧ f 44 = iV (A.length : Int) ∧ f 45 = iV F ∧ St w0 (imm I1 h.v z.1 :: imm S1 g.v a0.2 :: ros) (box o 36 [hnil.v, hnil.v, hnil.v] :: row 3 I1 q.v H :: row 3 I1 j.v I :: row 3 I1 k.v J :: box p 36 [q.v, j.v, k.v] :: row 3 I1 B.v A :: rs) w) h9 ⟨_, _, _, _, _, _, _, _, rfl, rfl, rfl, rfl, rfl, rfl, rfl, rfl, rfl, ((b.k1u).facts (allC F3 (allC F0 (allT (allT (allT (allT allI)))))))⟩ ?_
   rintro _ _ w o6 ⟨H, I, J, F, f, q, j, k, rfl, rfl, c6, i3, c7, c8, c9, d0, a7, b⟩ d i4 o7 i5 i6
   refine sR fun _ i7 => yY (ylss (eh a7) (eh d0)) (wK i7 (seqQ fun o8 i8 i9 => ?_))
   refine cIf e0 d (fun j0 d => ?_) fun j0 d => ?_
   ·refine wp_skip (i8 _ _ (sQ fun _ j1 => blockQ fun _ j2 => sR fun _ j3 => bE d fun G d1 d => yY (yIa SL_22 (eh c9) (eh a7) b rO5 d1) (yY (yI O_3 e0 b rO5 d1) (Ya (iV G) e0 (wK j3 (sR fun _ j4 => ?_))))))
    refine Ya hnil.v rfl (wK j4 (sQ fun _ j5 => sR fun _ j6 => Ym g.v (eh c7) (Ym (iV G) e0 (bE d fun d2 d3 d => yY (yIa SL_78 e0 e0 b (rdI F1) d3) ?_))))
    obtain ⟨d4, b⟩ := iLs b F1 d3
    refine yY (yCt O_22 e0 b F1 rfl) (yY (yLen SL_22 e0 b (rdI F0)) (Ym (iV 0) rfl (wK j6 (blockQ fun j7 j8 => bE d fun j9 k0 d => ?_))))
    have l0 : ∀ (a8 : LI) (K : Hdr) (f : FV) w, f 2 = (pB o) → f 5 = h.v → f 9 = g.v → f 10 = (pB p) → f 12 = iV G → f 13 = K.v → f 43 = B.v → f 44 = iV (A.length : Int) → f 45 = iV F → St w0 (imm I1 h.v z.1 :: imm S1 g.v a0.2 :: ros) (box o 36 [hnil.v, hnil.v, hnil.v] :: row 3 I1 q.v H :: row 3 I1 j.v I :: row 3 I1 k.v J :: box p 36 [q.v, j.v, k.v] :: row 3 I1 K.v a8 :: row 3 I1 B.v A :: rs) w → a8 = j9 → j7 (.exit 2) (fr 91 f) w := by
     intro a8 K f w l1 l2 a9 m d5 d6 l3 l4 l5 b ho
     subst ho
     refine j8 _ _ _ (j5 _ _ (sR fun _ l6 => Ym K.v (eh d6) (bE d fun o9 l7 d => ?_)))
     replace b := b.k1k
     refine yC (yCall FN_49 (a1 e0)) (sortI_ok l7 b) ?_
     rintro _ w ⟨rfl, b⟩
     refine ⟨_, rfl, ?_⟩
     refine wK l6 (sQ fun _ l8 => bE d fun p0 l9 d => bE d fun p1 b0 d => bE d fun b1 m0 d => dR [0, 1, 0, 7, 0, 16, 0, 0, 192, 448, 1023, 63, 4095, 8191, 16383] [3, 10, 12, 14] 4 folM ?_)
     replace b := b.drew
     refine Dn [0, 1, 2, 4, 5, 6, 7, 8, 9] [] [3] (yR rfl (yFb FL_36_0 (eh m)) (yR rfl (lb_ q.v O_22 e0 b R5) (yR rfl (m_ K.v (eh d6)) (yR rfl (yFb FL_36_1 (eh m)) (yR rfl (lb_ j.v O_22 e0 b R5) (yR rfl (m_ g.v (eh a9)) (yR rfl (m_ (iV G) (eh d5)) (yR rfl (yIa SL_78 e0 e0 b (rdI F1) b0) ?_))))))))
     obtain ⟨p2, b⟩ := iLs b F1 b0
     refine yR rfl (yCt O_22 e0 b F1 rfl) (Rn QSn ?_)
     refine Lc1 rfl ?_
     replace b := b.k17
     refine LH wn (rAp b SL_22 e0 e0 rO1 l9) fun b2 w b => Dn [11] [4, 5, 6, 7, 8, 9] [10] (yR rfl (yFb FL_36_0 (eh m)) (Rn (yS rfl (yFb FL_36_1 (eh m)) (yS rfl (lb_ j.v O_22 e0 b R5) (yS rfl (m_ g.v (eh a9)) (yS rfl (m_ (iV G) (eh d5)) (yS rfl (yIa SL_78 e0 e0 b (rdI F3) b0) (yS rfl (yCt O_22 e0 b F1 rfl) QSn)))))) ?_))
     refine Lc1 rfl ?_
     replace b := b.k14
     refine LH wn (rAp b SL_22 e0 e0 (rdI F0) m0) fun b3 w b => Dn [] [11] [12] (Rn (yS rfl (yFb FL_36_0 (eh m)) QSn) ?_)
     refine Lc1 rfl ?_
     replace b := b.k1k
     refine LT wn (r_stb1 (vals' := [b2.v, j.v, k.v]) b O_22 e0 e0 rfl rfl rfl rfl) fun w b => Dn [13] [] [14] (yR rfl (yFb FL_36_1 (eh m)) (Rn QSn ?_))
     refine Lc1 rfl ?_
     refine LT wn (r_stb1 (vals' := [b2.v, b3.v, k.v]) b O_22 e0 e0 rfl rfl rfl rfl) fun w b => Dz [] [] (Rn QSn (l8 _ _ (wR (yY (yFb FL_36_2 (eh m)) (yY (lb_ k.v O_22 e0 b R0) (yY (yFb FL_36_1 (eh m)) (yY (lb_ b3.v O_22 e0 b R0) (yY (yLen SL_22 e0 b rO1) (yH (rLt (n := 1) (l := [(b1.length : Int)]) b SL_22 [iV (b1.length : Int)] (bp1 e0) rfl rfl (mks1 (cs := [iV (b1.length : Int)]) rfl mkI mks0)) fun p3 w b => bE d fun p4 m1 d => ?_)))))))))
     refine yH (rAp (b.k1a) SL_22 e0 e0 rO1 m1) fun m2 w b => yY (yFb FL_36_2 (eh m)) (yT (r_stb1 (vals' := [b2.v, b3.v, m2.v]) (b.k17) O_22 e0 e0 rfl rfl rfl rfl) fun w b => wN (j2 _ _ _ (j1 _ _ (wR (yY (yadd (eh l5) rfl) (Ym (iV (wa .i64 F 1)) e0 (wN ?_)))))))
     cases d
     exact i5 _ _ _ rfl ⟨_, _, _, _, _, _, _, _, rfl, rfl, l1, l2, a9, m, l3, l4, rfl, ((b.k1v).facts (allC F2 (allC F3 (allT (allT (allT (allT allI)))))))⟩
    replace b := b.rowNh 3 I1
    refine loopQ (fun s a w => ∃ (b4 : LI) (R : Int) (f : FV) (S : Hdr), (b4, R) = s ∧ a = fr 91 f ∧ f 2 = (pB o) ∧ f 5 = h.v ∧ f 9 = g.v ∧ f 10 = (pB p) ∧ f 12 = iV G ∧ f 13 = S.v ∧ f 43 = B.v ∧ f 44 = iV (A.length : Int) ∧ f 45 = iV F ∧ f 52 = d4.v ∧ f 53 = iV (d2.length : Int) ∧ f 54 = iV R ∧ St w0 (imm I1 h.v z.1 :: imm S1 g.v a0.2 :: imm I1 d4.v d2 :: ros) (box o 36 [hnil.v, hnil.v, hnil.v] :: row 3 I1 q.v H :: row 3 I1 j.v I :: row 3 I1 k.v J :: box p 36 [q.v, j.v, k.v] :: row 3 I1 S.v b4 :: row 3 I1 B.v A :: rs) w) k0 ⟨_, _, _, _, rfl, rfl, c6, i3, c7, c8, rfl, rfl, c9, d0, a7, rfl, rfl, rfl, ((b.k1w).facts (allC F2 (allC F3 (allC F0 (allT (allT (allT (allT allI))))))))⟩ ?_
    rintro _ _ w p5 ⟨b4, R, f, S, rfl, rfl, d7, b5, d8, d9, e1, e2, e3, e4, e5, e6, e7, b6, b⟩ i m3 p6 m4 m5
    refine sR fun _ m6 => yY (ylss (eh b6) (eh e7)) (wK m6 (seqQ fun p7 m7 m8 => ?_))
    refine cIf e0 i (fun m9 i => ?_) fun m9 i => ?_
    ·refine wp_skip (m7 _ _ (sQ fun _ n0 => blockQ fun _ n1 => sR fun _ n2 => bE i fun e8 e9 i => yY (yIa SL_22 (eh e6) (eh b6) b (rdI F2) e9) (yY (yI O_3 e0 b (rdI F2) e9) (Ya (iV e8) e0 (wK n2 (wR (Ym S.v (eh e2) ?_)))))))
     refine Ym h.v (eh b5) (Ym (iV e8) e0 (bE i fun b7 f0 i => yY (yIa SL_22 e0 e0 b (rdI F0) f0) (yY (yI O_3 e0 b (rdI F0) f0) (yH (rLt (n := 1) (l := [b7]) b SL_22 [iV b7] (bp1 e0) rfl rfl (mks1 (cs := [iV b7]) rfl mkI mks0)) fun p8 w b => bE i fun p9 n5 i => yH (rAp (b.k1a) SL_22 e0 e0 rO1 n5) fun n6 w b => Ya n6.v e0 (wN (n1 _ _ _ (n0 _ _ ?_)))))))
     refine wR (yY (yadd (eh b6) rfl) (Ym (iV (wa .i64 R 1)) e0 (wN ?_)))
     cases i
     exact m4 _ _ _ rfl ⟨_, _, _, _, rfl, rfl, d7, b5, d8, d9, e1, rfl, e3, e4, e5, e6, e7, rfl, (b.k1x)⟩
    ·refine wp_exit (m8 _ _ _ rfl ?_)
     cases i
     exact m5 _ _ _ _ rfl rfl (l0 _ _ _ _ d7 b5 d8 d9 e1 e2 e3 e4 e5 (b.facts (allC F0 (allC F1 (allT (allT (allT allI)))))) (m3 _ rfl))
   ·refine wp_exit (i9 _ _ _ rfl ?_)
    cases d
    exact i6 _ _ _ _ rfl rfl (i0 _ _ _ _ _ _ _ _ c6 c8 ((b.k1y).facts (allT (allT allI))) (i4 _ rfl))
 ·refine condT e0 (nT (dF X)) (sR fun _ n7 => yY (ybuild (us := [hnil.v, hnil.v, hnil.v]) [] SO_36 bp0 rfl) (Ym (iV L) e0 (yT (r_stbn (vals' := [hnil.v, hnil.v, hnil.v]) (us := [hnil.v, hnil.v, hnil.v]) b ST_36 e0 e0 rfl rfl (one_of rfl) rfl) fun w b => Ya (iV L) e0 (wK n7 (wp_ret (f5 _ _ _ rfl ?_))))))
  cases c
  replace b := ((b.rowNh 3 I1).rowNh 3 I1).rowNh 3 I1
  exact W _ _ _ (fin2r Tryz.results15 (rcs2 rfl rfl b R3 ST_36 rfl) ⟨rfl, rfl⟩ ⟨_, _, _, rfl, (b.k1s)⟩)
theorem slices_Clone_apiEntry_ok {f : List (Int × Int × Int)} {c : Hdr} {out : (List (Int × Int × Int))} (b : slices_Clone_apiEntry f = some out) (g : imm rTi64i64u64 c.v f ∈ ros) (a : St w0 ros rs w) :
  Calls Tryz.prog 113 #[c.v] w (fun e w => ∃ (h : Hdr), e = .returned (h.v) ∧ St w0 ros (row 49 rTi64i64u64 h.v out :: rs) w) := by
 refine enterQ Tryz.func113 rfl Tryz.ntmps113 rfl fun Q i => sR fun _ j => Ya hnil.v rfl (wK j (seqQ fun t k m => sR fun _ o => Ym c.v e0 (yY (yenil SL_44 e0 rfl) (wK o ?_))))
 rcases nilS c with d | d
 ·refine condT e0 d ?_
  obtain rfl := nilE d g a
  replace b := nilM b
  refine sR fun _ p => Ya hnil.v rfl (wK p (wp_ret (m _ _ _ rfl ?_)))
  cases b
  replace a := a.rowNh 49 rTi64i64u64
  exact i _ _ _ (fin1r Tryz.results113 ⟨rfl, rfl⟩ ⟨_, rfl, a⟩)
 ·refine condF e0 d (wp_skip (k _ _ (sR fun _ q => yH (rLt (n := 0) (l := []) a SL_44 [] bp0 rfl rfl mks0) fun u w a => Ym c.v e0 (bE b fun x r b => yH (rAp a SL_44 e0 e0 (rdI g) r) fun s w a => Ya s.v e0 (wK q ?_)))))
  refine wp_ret ?_
  cases b
  exact i _ _ _ (fin1r Tryz.results113 ⟨rfl, rfl⟩ ⟨_, rfl, a⟩)
theorem cmp_Compare_int_ok {d f out : Int} (a : cmp_Compare_int d f = some out) (b : St w0 ros rs w) :
  Calls Tryz.prog 117 #[iV d, iV f] w (fun e w => e = .returned (iV out) ∧ St w0 ros rs w) := by
 refine enterQ Tryz.func117 rfl Tryz.ntmps117 rfl fun Q c => sR fun _ j => Ya (iV 0) rfl (wK j (sR fun _ k => Ym (iV d) e0 (bE a fun h l a => yC (yCall FN_123 (a1 e0)) (cmp_isNaN_int_ok l b) ?_)))
 rintro _ w ⟨rfl, b⟩
 refine ⟨_, rfl, ?_⟩
 refine Ya (.bool h) e0 (wK k (sR fun _ m => Ym (iV f) e0 (bE a fun g n a => yC (yCall FN_123 (a1 e0)) (cmp_isNaN_int_ok n b) ?_)))
 rintro _ w ⟨rfl, b⟩
 refine ⟨_, rfl, ?_⟩
 refine Ya (.bool g) e0 (wK m (seqQ fun R o i => sR fun _ p => Ym (.bool h) e0 (wK p (cB e0 a (fun q a => ?_) fun q a => ?_))))
 ·refine seqQ fun S r s => sR fun _ t => Ym (.bool g) e0 (wK t (cB e0 a (fun u a => ?_) fun u a => ?_))
  ·refine sR fun _ v => Ya (iV 0) rfl (wK v (wp_ret (s _ _ _ rfl (i _ _ _ rfl ?_))))
   cases a
   exact c _ _ _ (fin1r Tryz.results117 ⟨rfl, rfl⟩ ⟨rfl, b⟩)
  ·refine wp_skip (r _ _ (sR fun _ x => Ya (iV (-1)) rfl (wK x (wp_ret (i _ _ _ rfl ?_)))))
   cases a
   exact c _ _ _ (fin1r Tryz.results117 ⟨rfl, rfl⟩ ⟨rfl, b⟩)
 ·refine wp_skip (o _ _ (seqQ fun T y z => sR fun _ A => Ym (.bool g) e0 (wK A (cB e0 a (fun B a => ?_) fun B a => ?_))))
  ·refine sR fun _ C => Ya (iV 1) rfl (wK C (wp_ret (z _ _ _ rfl ?_)))
   cases a
   exact c _ _ _ (fin1r Tryz.results117 ⟨rfl, rfl⟩ ⟨rfl, b⟩)
  ·refine wp_skip (y _ _ (seqQ fun U D E => sR fun _ F => Ym (iV d) e0 (Ym (iV f) e0 (yY (ylss e0 e0) (wK F ?_)))))
   refine cIf e0 a (fun G a => ?_) fun G a => ?_
   ·refine sR fun _ H => Ya (iV (-1)) rfl (wK H (wp_ret (E _ _ _ rfl ?_)))
    cases a
    exact c _ _ _ (fin1r Tryz.results117 ⟨rfl, rfl⟩ ⟨rfl, b⟩)
   ·refine wp_skip (D _ _ (seqQ fun V I J => sR fun _ K => Ym (iV d) e0 (Ym (iV f) e0 (yY (ygtr e0 e0) (wK K ?_)))))
    refine cIf e0 a (fun L a => ?_) fun L a => ?_
    ·refine sR fun _ N => Ya (iV 1) rfl (wK N (wp_ret (J _ _ _ rfl ?_)))
     cases a
     exact c _ _ _ (fin1r Tryz.results117 ⟨rfl, rfl⟩ ⟨rfl, b⟩)
    ·refine wp_skip (I _ _ (sR fun _ O => Ya (iV 0) rfl (wK O (wp_ret ?_))))
     cases a
     exact c _ _ _ (fin1r Tryz.results117 ⟨rfl, rfl⟩ ⟨rfl, b⟩)
end Go.Proofs.YtgnfkbaghjmgiaaGreatDoor
