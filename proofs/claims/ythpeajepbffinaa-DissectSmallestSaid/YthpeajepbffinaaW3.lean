/- Walks: each function computes its model, printed. -/
import Derived.Test.YthpeajepbffinaaW2
namespace Go.Proofs.Ythpeajepbffinaa
open Go Sx M
set_option maxRecDepth 100000
set_option maxHeartbeats 40000000
set_option linter.unusedVariables false
attribute [local irreducible] wpList Code.wp Calls DR QR QS LA LS St
variable {w0 : World} {ros : List Fact} {rs : List Res} {w : World}
theorem matching_full_ok {j h : Int} {out : LI} (i : matching_full j h = some out) (b : St w0 ros rs w) :
  Calls Try.prog 59 #[iV j, iV h] w (fun e w => ∃ (p : Hdr), e = .returned (p.v) ∧ St w0 ros (row 3 I1 p.v out :: rs) w) := by
 refine enterQ Try.func59 rfl Try.ntmps59 rfl fun Q u => sR fun _ x => Ya hnil.v rfl (wK x (sR fun _ y => Ym (iV j) e0 ?_))
 obtain ⟨z, A, i⟩ := bs i
 refine YH wn rfl (rMk b SL_22 e0 A) ?_
 intro c w b
 refine Ya c.v e0 (wK y (sQ fun _ B => sR fun _ C => Ym c.v e0 (yY (yLen SL_22 e0 b rO0) (Ym (iV 0) rfl (wK C (blockQ fun D E => ?_))))))
 obtain ⟨F, G, i⟩ := bs i
 have H : ∀ (k : LI) (f : FV) (w : World), f 5 = c.v → St w0 ros (row 3 I1 c.v k :: rs) w → k = F → D (.exit 0) (fr 20 f) w := by
  intro k f w I b ho
  subst ho
  refine E _ _ _ (B _ _ (sR fun _ J => Ym c.v (eh I) (Ya c.v e0 (wK J (wp_ret ?_)))))
  obtain rfl := someI i
  exact u _ _ _ (fin1r Try.results59 ⟨rfl, rfl⟩ ⟨_, rfl, b⟩)
 refine loopQ (fun s a w => ∃ (l : LI) (d : Int) (f : FV), (l, d) = s ∧ a = fr 20 f ∧ f 1 = iV h ∧ f 5 = c.v ∧ f 10 = iV (z.length : Int) ∧ f 11 = iV d ∧ St w0 ros (row 3 I1 c.v l :: rs) w) G ⟨_, _, _, rfl, rfl, rfl, rfl, rfl, rfl, b⟩ ?_
 rintro _ _ w W ⟨l, d, f, rfl, rfl, q, m, r, n, b⟩ g K X L N
 refine sR fun _ O => yY (ylss (eh n) (eh r)) (wK O (seqQ fun Z R S => ?_))
 rcases iteS g with ⟨o, g⟩ | ⟨o, g⟩
 ·refine cT e0 o (wp_skip (R _ _ (sQ fun _ T => blockQ fun _ U => sR fun _ V => Ym (iV d) (eh n) (Ya (iV d) e0 (wK V (wR (Ym c.v (eh m) (Ym (iV d) e0 ?_))))))))
  refine Ym (iV h) (eh q) ?_
  obtain ⟨a0, t, g⟩ := bs g
  refine yY (yIs SL_22 e0 e0 b rO0 t) (YT wn rfl (r_sti (cs := [iV h]) b O_3 rfl e0 e0 rfl mkI t) ?_)
  intro w b
  refine wN (U _ _ _ (T _ _ (wR (yY (yadd (eh n) rfl) (Ym (iV (wa .i64 d 1)) e0 (wN ?_))))))
  obtain rfl := someI g
  exact L _ _ _ rfl ⟨_, _, _, rfl, rfl, q, m, r, rfl, b⟩
 ·refine cF e0 o (wp_exit (S _ _ _ rfl ?_))
  obtain rfl := someI g
  exact N _ _ _ _ rfl rfl (H _ _ _ m b (K _ rfl))
theorem matching_kuhn_try_step {rec : L2 → LI → LI → (List Bool) → Int → Option (LI × LI × (List Bool) × Bool)} (c1 : ∀ {w0 : World} {ros : List Fact} {rs : List Res} {w : World} {m : L2} {x y : LI} {z : List Bool} {l : Int} {d : Nat} {j k g h : Hdr} {out : LI × LI × (List Bool) × Bool} (o : rec m x y z l = some out) (b : St w0 ros (box d 75 [j.v, k.v, g.v, h.v] :: row 22 S1 j.v m :: row 3 I1 k.v x :: row 3 I1 g.v y :: row 4 rB h.v z :: rs) w), Calls Try.prog 60 #[(pB d), iV l] w (fun e w => e = .returned (.bool out.2.2.2) ∧ St w0 ros (row 22 S1 j.v m :: row 3 I1 k.v out.1 :: row 3 I1 g.v out.2.1 :: row 4 rB h.v out.2.2.1 :: box d 75 [j.v, k.v, g.v, h.v] :: rs) w)) {w0 : World} {ros : List Fact} {rs : List Res} {w : World} {m : L2} {x y : LI} {z : List Bool} {l : Int} {d : Nat} {j k g h : Hdr} {out : LI × LI × (List Bool) × Bool} (o : matching_kuhn_try_body rec m x y z l = some out) (b : St w0 ros (box d 75 [j.v, k.v, g.v, h.v] :: row 22 S1 j.v m :: row 3 I1 k.v x :: row 3 I1 g.v y :: row 4 rB h.v z :: rs) w) :
  Calls Try.prog 60 #[(pB d), iV l] w (fun e w => e = .returned (.bool out.2.2.2) ∧ St w0 ros (row 22 S1 j.v m :: row 3 I1 k.v out.1 :: row 3 I1 g.v out.2.1 :: row 4 rB h.v out.2.2.1 :: box d 75 [j.v, k.v, g.v, h.v] :: rs) w) := by
 refine enterQ Try.func60 rfl Try.ntmps60 rfl fun Q a3 => sR fun _ c2 => Ya (.bool false) rfl (wK c2 (seqQ fun g0 c3 c4 => sR fun _ c5 => Ym (pB d) e0 (yY (yn e0) (yY (yFb FL_75_0 e0) (yY (lb_ j.v O_25 e0 b R0) (Ym (iV l) e0 ?_))))))
 obtain ⟨t, a4, o⟩ := bs o
 refine yY (yIa SL_25 e0 e0 b rO1 a4) ?_
 obtain ⟨u, c6, b⟩ := rLs b rO1 a4
 refine yY (yCe O_22 e0 c6 rfl) (yY (yLen SL_22 e0 b (rdI F0)) (Ym (iV 0) rfl (wK c5 (blockQ fun a5 a6 => ?_))))
 obtain ⟨a7, c7, o⟩ := bs o
 have c8 : ∀ (F G : LI) (H : List Bool) (f : FV) (w : World), St w0 ros (row 22 S1 j.v m :: row 3 I1 k.v F :: row 3 I1 g.v G :: row 4 rB h.v H :: box d 75 [j.v, k.v, g.v, h.v] :: rs) w → .inl (F, G, H) = a7 → a5 (.exit 0) (fr 66 f) w := by
  intro F G H f w b ho
  subst ho
  refine a6 _ _ _ (c3 _ _ (sR fun _ c9 => Ya (.bool false) rfl (wK c9 (wp_ret ?_))))
  obtain rfl := someI o
  exact a3 _ _ _ (fin1r Try.results60 ⟨rfl, rfl⟩ ⟨rfl, b⟩)
 have d0 : ∀ (I J : LI) (K : List Bool) (f : FV) (w : World), f 4 = .bool true → St w0 ros (row 22 S1 j.v m :: row 3 I1 k.v I :: row 3 I1 g.v J :: row 4 rB h.v K :: box d 75 [j.v, k.v, g.v, h.v] :: rs) w → .inr (I, J, K) = a7 → a5 .ret (fr 66 f) w := by
  intro I J K f w d1 b ho
  subst ho
  refine a6 _ _ _ (c4 _ _ _ rfl ?_)
  obtain rfl := someI o
  exact a3 _ _ _ (fin1r Try.results60 ⟨rfl, d1⟩ ⟨rfl, b⟩)
 refine loopQ (fun s a w => ∃ (L N : LI) (O : List Bool) (r : Int) (f : FV), (L, N, O, r) = s ∧ a = fr 66 f ∧ f 0 = (pB d) ∧ f 1 = iV l ∧ f 13 = u.v ∧ f 14 = iV (t.length : Int) ∧ f 15 = iV r ∧ St w0 (imm I1 u.v t :: ros) (row 22 S1 j.v m :: row 3 I1 k.v L :: row 3 I1 g.v N :: row 4 rB h.v O :: box d 75 [j.v, k.v, g.v, h.v] :: rs) w) c7 ⟨_, _, _, _, _, rfl, rfl, rfl, rfl, rfl, rfl, rfl, (b.pk 5 [1, 1, 1, 1, 0] rfl)⟩ ?_
 rintro _ _ w d2 ⟨L, N, O, r, f, rfl, rfl, q, R, B, C, A, b⟩ c a8 g1 d3 a9
 refine sR fun _ d4 => yY (ylss (eh A) (eh C)) (wK d4 (seqQ fun g2 d5 d6 => ?_))
 rcases iteS c with ⟨S, c⟩ | ⟨S, c⟩
 ·refine cT e0 S (wp_skip (d5 _ _ (seqQ fun d7 d8 d9 => ?_)))
  have b0 : ∀ (T U : LI) (V : List Bool) (f : FV) (w : World), f 0 = (pB d) → f 1 = iV l → f 13 = u.v → f 14 = iV (t.length : Int) → f 15 = iV r → St w0 (imm I1 u.v t :: ros) (row 22 S1 j.v m :: row 3 I1 k.v T :: row 3 I1 g.v U :: row 4 rB h.v V :: box d 75 [j.v, k.v, g.v, h.v] :: rs) w → matching_kuhn_try_j12 r T U V = some d2 → d7 .normal (fr 66 f) w := by
   intro T U V f w e1 e2 e3 e4 e5 b o
   refine d8 _ _ (wR (yY (yadd (eh e5) rfl) (Ym (iV (wa .i64 r 1)) e0 (wN ?_))))
   obtain rfl := someI o
   exact d3 _ _ _ rfl ⟨_, _, _, _, _, rfl, rfl, e1, e2, e3, e4, rfl, b⟩
  refine blockQ fun _ W => sR fun _ e6 => ?_
  obtain ⟨n, b2, c⟩ := bs c
  refine yY (yIa SL_22 (eh B) (eh A) b (rdI F0) b2) (yY (yI O_3 e0 b (rdI F0) b2) (Ya (iV n) e0 (wK e6 (seqQ fun g3 e7 e8 => sR fun _ e9 => Ym (pB d) (eh q) (yY (yn e0) (yY (yFb FL_75_3 e0) (yY (lb_ h.v O_67 e0 b R4) (Ym (iV n) e0 ?_))))))))
  obtain ⟨g4, b3, c⟩ := bs c
  refine yY (yIa SL_67 e0 e0 b rO3 b3) (yY (yB O_4 e0 b rO3 b3) (wK e9 ?_))
  rcases iteS c with ⟨X, c⟩ | ⟨X, c⟩
  ·exact condT e0 X (wp_exit (e8 _ _ _ rfl (W _ _ _ (b0 _ _ _ _ _ q R B C A b c))))
  ·refine condF e0 (bfalse X) (wp_skip (e7 _ _ (sR fun _ f0 => Ym (pB d) (eh q) (yY (yn e0) (yY (yFb FL_75_3 e0) (yY (lb_ h.v O_67 e0 b R4) (Ym (iV n) e0 ?_)))))))
   obtain ⟨g5, b4, c⟩ := bs c
   refine yY (yIs SL_67 e0 e0 b rO3 b4) ?_
   replace b := b.pk 4 [3, 0, 0, 0] rfl
   refine YT wn rfl (r_sti (cs := [.bool true]) b O_4 rfl e0 rfl rfl mkB b4) ?_
   intro w b
   refine wK f0 (sR fun _ f1 => Ym (pB d) (eh q) (yY (yn e0) (yY (yFb FL_75_2 e0) (yY (lb_ g.v O_22 e0 b R4) (Ym (iV n) e0 ?_)))))
   obtain ⟨f2, b5, c⟩ := bs c
   refine yY (yIa SL_22 e0 e0 b rO3 b5) (yY (yI O_3 e0 b rO3 b5) (yY (yeql e0 rfl) (Ym (.bool (decide (f2 = (-1)))) e0 ?_)))
   obtain ⟨D, p, c⟩ := bs c
   refine joinW 10 (fun f w => f 0 = (pB d) ∧ f 1 = iV l ∧ f 6 = iV n ∧ f 13 = u.v ∧ f 14 = iV (t.length : Int) ∧ f 15 = iV r ∧ f 50 = .bool D.1 ∧ St w0 (imm I1 u.v t :: ros) (row 22 S1 j.v m :: row 3 I1 k.v D.2.1 :: row 3 I1 g.v D.2.2.1 :: row 4 rB h.v D.2.2.2 :: box d 75 [j.v, k.v, g.v, h.v] :: rs) w) (fun b6 => ?_) ?_
   ·rcases iteS p with ⟨i, p⟩ | ⟨i, p⟩
    ·refine gN (dT i) (gN (dT i) (gN (dT i) (gN (dT i) (gN (dT i) (gN (dT i) (gN (dT i) (gN (dT i) (gN (dT i) (yY (pt_ (.bool true) e0 (dT i) rfl) ?_)))))))))
     obtain rfl := someI p
     exact b6 _ _ ⟨q, R, rfl, B, C, A, rfl, (b.pk 5 [1, 1, 1, 0, 0] rfl)⟩
    ·refine yG (dF i) (m_ (pB d) (eh q)) (yG (dF i) (m_ (pB d) (eh q)) (yG (dF i) (yn e0) (yG (dF i) (yFb FL_75_2 e0) (yG (dF i) (lb_ g.v O_22 e0 b R4) (yG (dF i) (m_ (iV n) e0) ?_)))))
     obtain ⟨g6, b7, p⟩ := bs p
     refine yG (dF i) (yIa SL_22 e0 e0 b rO3 b7) (yG (dF i) (yI O_3 e0 b rO3 b7) ?_)
     obtain ⟨f3, f4, p⟩ := bs p
     replace b := b.pk 5 [4, 1, 1, 1, 0] rfl
     refine Yc (wG (dF i)) rfl (yCall FN_60 (a2 e0 e0)) (c1 f4 b) ?_
     rintro _ w ⟨rfl, b⟩
     refine ⟨_, rfl, ?_⟩
     refine yY (pf_ (.bool f3.2.2.2) e0 (dF i) e0) ?_
     obtain rfl := someI p
     exact b6 _ _ ⟨q, R, rfl, B, C, A, rfl, b⟩
   rintro f w ⟨Z, E, a0, f5, f6, f7, b8, b⟩
   refine wK f1 ?_
   rcases iteS c with ⟨a1, c⟩ | ⟨a1, c⟩
   ·refine condT (eh b8) a1 (sQ fun _ f8 => ?_)
    obtain ⟨g7, b9, c⟩ := bs c
    obtain ⟨g8, c0, c⟩ := bs c
    refine dR [0, 1, 3, 7, 0, 0, 32, 96, 224, 0, 0, 0, 1535, 5631, 16383, 32767] [13, 15] 2 folM ?_
    replace b := b.drew
    refine Dn [0, 1, 2, 3, 4, 5, 6, 7, 8, 9, 10, 11, 12] [] [13] (yR rfl (m_ (pB d) (eh Z)) (yR rfl (yn e0) (yR rfl (yFb FL_75_1 e0) (yR rfl (lb_ k.v O_22 e0 b R4) (yR rfl (m_ (iV l) (eh E)) (yR rfl (m_ (pB d) (eh Z)) (yR rfl (yn e0) (yR rfl (yFb FL_75_2 e0) (yR rfl (lb_ g.v O_22 e0 b R4) (yR rfl (m_ (iV n) (eh a0)) (yR rfl (m_ (iV n) (eh a0)) (yR rfl (m_ (iV l) (eh E)) (yR rfl (yIs SL_22 e0 e0 b rO1 b9) ?_)))))))))))))
    refine Rn QSn ?_
    refine Lc1 rfl ?_
    replace b := b.pk 2 [1, 0] rfl
    refine LT wn (r_sti (cs := [iV n]) b O_3 rfl e0 e0 rfl mkI b9) ?_
    intro w b
    refine Dn [14] [9, 11] [15] (yR rfl (yIs SL_22 e0 e0 b rO2 c0) (Rn (yS rfl (m_ (iV n) (eh a0)) (yS rfl (m_ (iV l) (eh E)) QSn)) ?_))
    refine Lc1 rfl ?_
    replace b := b.pk 3 [2, 0, 0] rfl
    refine LT wn (r_sti (cs := [iV l]) b O_3 rfl e0 e0 rfl mkI c0) ?_
    intro w b
    refine Dz [] [] (Rn QSn (f8 _ _ (sR fun _ f9 => Ya (.bool true) rfl (wK f9 (wp_ret (W _ _ _ (d9 _ _ _ rfl ?_)))))))
    obtain rfl := someI c
    exact a9 _ _ _ _ rfl rfl (d0 _ _ _ _ _ rfl ((b.pk 5 [2, 1, 0, 0, 0] rfl).facts (allT allI)) (a8 _ rfl))
   ·exact condF (eh b8) (bfalse a1) (wp_skip (W _ _ _ (b0 _ _ _ _ _ Z E f5 f6 f7 b c)))
 ·refine cF e0 S (wp_exit (d6 _ _ _ rfl ?_))
  obtain rfl := someI c
  exact a9 _ _ _ _ rfl rfl (c8 _ _ _ _ _ (b.facts (allT allI)) (a8 _ rfl))
theorem matching_kuhn_try_ok_n (n : Nat) : ∀ {w0 : World} {ros : List Fact} {rs : List Res} {w : World} {g : L2} {i j : LI} {k : List Bool} {l : Int} {h : Nat} {a b c d : Hdr} {out : LI × LI × (List Bool) × Bool} (f : matching_kuhn_try n g i j k l = some out) (m : St w0 ros (box h 75 [a.v, b.v, c.v, d.v] :: row 22 S1 a.v g :: row 3 I1 b.v i :: row 3 I1 c.v j :: row 4 rB d.v k :: rs) w),
  Calls Try.prog 60 #[(pB h), iV l] w (fun e w => e = .returned (.bool out.2.2.2) ∧ St w0 ros (row 22 S1 a.v g :: row 3 I1 b.v out.1 :: row 3 I1 c.v out.2.1 :: row 4 rB d.v out.2.2.1 :: box h 75 [a.v, b.v, c.v, d.v] :: rs) w) := by
 induction n with
 | zero => intro _ _ _ _ _ _ _ _ _ _ _ _ _ _ out f; cases f
 | succ n ih => exact fun f m => matching_kuhn_try_step (rec := matching_kuhn_try n) ih f m
theorem matching_kuhn_try_ok {f : L2} {h i : LI} {j : List Bool} {k : Int} {g : Nat} {a b c d : Hdr} {out : LI × LI × (List Bool) × Bool} (l : matching_kuhn_try FUEL f h i j k = some out) (m : St w0 ros (box g 75 [a.v, b.v, c.v, d.v] :: row 22 S1 a.v f :: row 3 I1 b.v h :: row 3 I1 c.v i :: row 4 rB d.v j :: rs) w) :
  Calls Try.prog 60 #[(pB g), iV k] w (fun e w => e = .returned (.bool out.2.2.2) ∧ St w0 ros (row 22 S1 a.v f :: row 3 I1 b.v out.1 :: row 3 I1 c.v out.2.1 :: row 4 rB d.v out.2.2.1 :: box g 75 [a.v, b.v, c.v, d.v] :: rs) w) := matching_kuhn_try_ok_n FUEL l m
theorem matching_matched_ok {c d : Int} {E F G : LI} {n o p : Hdr} {out : L2 × LI × LI × (List Bool)} (g : matching_matched c d E F G = some out) (T : imm I1 n.v E ∈ ros) (U : imm I1 o.v F ∈ ros) (V : imm (rI .u64) p.v G ∈ ros) (b : St w0 ros rs w) :
  Calls Try.prog 34 #[.agg #[iV c, iV d, n.v, o.v, p.v]] w (fun e w => ∃ (H : Nat) (I J K L : Hdr), e = .returned (pB H) ∧ St w0 ros (row 22 S1 I.v out.1 :: row 3 I1 J.v out.2.1 :: row 3 I1 K.v out.2.2.1 :: row 4 rB L.v out.2.2.2 :: box H 75 [I.v, J.v, K.v, L.v] :: rs) w) := by
 refine enterQ Try.func34 rfl Try.ntmps34 rfl fun Q W => sR fun _ X => YB wn rfl (r_box (vals := [iV c, iV d, n.v, o.v, p.v]) b e0 rfl) ?_
 intro N w b
 refine Ya (.pointer none) rfl (wK X (sQ fun _ Z => ?_))
 obtain ⟨O, a0, g⟩ := bs g
 obtain ⟨c8, a3, g⟩ := bs g
 obtain ⟨c9, a4, g⟩ := bs g
 refine dR [0, 1, 0, 4, 15, 0, 32, 127, 255, 511, 1023] [1, 4, 7, 9, 10] 5 folM ?_
 replace b := b.drew
 refine Dn [0, 2, 3, 5, 6] [] [1] (yR rfl (lbs_ [iV c, iV d, n.v, o.v, p.v] ST_51 e0 b R0) (yR rfl (yFb FL_51_1 e0) (yR rfl (lb_ (iV d) O_3 e0 b R0) (yR rfl (yFb FL_51_0 e0) (yR rfl (lb_ (iV c) O_3 e0 b R0) (Rn QSn ?_))))))
 refine Lc1 rfl ?_
 refine Lk wn (yCall FN_58 (a1 e0)) (matching_Edges_ok a0 T U V b) ?_
 rintro _ w ⟨j, rfl, b⟩
 refine ⟨_, rfl, ?_⟩
 refine Dn [] [2, 3, 5, 6] [4] (Rn (yS rfl (yFb FL_51_1 e0) (yS rfl (lb_ (iV d) O_3 e0 b R1) (yS rfl (yFb FL_51_0 e0) (yS rfl (lb_ (iV c) O_3 e0 b R1) QSn)))) ?_)
 refine Lc1 rfl ?_
 refine Lk wn (yCall FN_59 (a2 e0 rfl)) (matching_full_ok a3 b) ?_
 rintro _ w ⟨k, rfl, b⟩
 refine ⟨_, rfl, ?_⟩
 refine Dn [] [5, 6] [7] (Rn (yS rfl (yFb FL_51_0 e0) (yS rfl (lb_ (iV c) O_3 e0 b R2) QSn)) ?_)
 refine Lc1 rfl ?_
 refine Lk wn (yCall FN_59 (a2 e0 rfl)) (matching_full_ok a4 b) ?_
 rintro _ w ⟨l, rfl, b⟩
 refine ⟨_, rfl, ?_⟩
 refine Dn [8] [] [9] (yR rfl (ybuild (us := [j.v, k.v, l.v, hnil.v]) [(0, j.v), (1, k.v), (2, l.v)] SO_75 (bp3 e0 e0 e0) rfl) (Rn QSn ?_))
 refine Lc1 rfl ?_
 refine LB wn (r_box (vals := [j.v, k.v, l.v, hnil.v]) b e0 rfl) ?_
 intro h w b
 refine Dn [] [] [10] (Rn QSn ?_)
 refine Lc1 rfl ?_
 refine Ly wn (a_ (pB h) e0) (Dz [] [] (Rn QSn (Z _ _ (sQ fun _ a5 => sR fun _ a6 => yY (yFb FL_51_1 e0) (yY (lb_ (iV d) O_3 e0 b R4) (Ym (iV 0) rfl (wK a6 (blockQ fun a7 a8 => ?_))))))))
 obtain ⟨a9, b0, g⟩ := bs g
 have b1 : ∀ (r t : LI) (u : List Bool) (x : Hdr) (f : FV) (w : World), f 3 = (pB h) → St w0 ros (row 22 S1 j.v O :: row 3 I1 k.v r :: row 3 I1 l.v t :: row 4 rB x.v u :: box h 75 [j.v, k.v, l.v, x.v] :: rs) w → (r, t, u) = a9 → a7 (.exit 0) (fr 31 f) w := by
  intro r t u x f w b2 b ho
  subst ho
  refine a8 _ _ _ (a5 _ _ (sR fun _ b3 => Ym (pB h) (eh b2) (Ya (pB h) e0 (wK b3 (wp_ret ?_)))))
  obtain rfl := someI g
  exact W _ _ _ (fin1r Try.results34 ⟨rfl, rfl⟩ ⟨_, _, _, _, _, rfl, b⟩)
 replace b := b.rowNh 4 rB
 refine loopQ (fun s a w => ∃ (y z : LI) (A : List Bool) (m : Int) (f : FV) (B : Hdr), (y, z, A, m) = s ∧ a = fr 31 f ∧ f 1 = (pB N) ∧ f 3 = (pB h) ∧ f 16 = iV d ∧ f 17 = iV m ∧ St w0 ros (box N 51 [iV c, iV d, n.v, o.v, p.v] :: row 22 S1 j.v O :: row 3 I1 k.v y :: row 3 I1 l.v z :: row 4 rB B.v A :: box h 75 [j.v, k.v, l.v, B.v] :: rs) w) b0 ⟨_, _, _, _, _, _, rfl, rfl, rfl, rfl, rfl, rfl, (b.pk 6 [5, 4, 3, 2, 0, 0] rfl)⟩ ?_
 rintro _ _ w d0 ⟨y, z, A, m, f, B, rfl, rfl, R, q, S, C, b⟩ i b4 d1 b5 b6
 refine sR fun _ b7 => yY (ylss (eh C) (eh S)) (wK b7 (seqQ fun d2 b8 c0 => ?_))
 rcases iteS i with ⟨D, i⟩ | ⟨D, i⟩
 ·refine cT e0 D (wp_skip (b8 _ _ (sQ fun _ c1 => blockQ fun _ c2 => sR fun _ c3 => Ym (iV m) (eh C) (Ya (iV m) e0 (wK c3 (sR fun _ c4 => Ym (pB h) (eh q) ?_))))))
  refine yY (yFb FL_51_0 (eh R)) (yY (lb_ (iV c) O_3 e0 b R0) ?_)
  obtain ⟨d3, c5, i⟩ := bs i
  refine YH wn rfl (rMk b SL_67 e0 c5) ?_
  intro c6 w b
  refine yY (yn e0) (yY (yFb FL_75_3 e0) ?_)
  replace b := b.pk 7 [6, 0, 0, 0, 0, 0, 0] rfl
  refine YT wn rfl (r_stb1 (vals' := [j.v, k.v, l.v, c6.v]) b O_67 e0 e0 rfl rfl rfl rfl) ?_
  intro w b
  refine wK c4 (wR (Ym (pB h) (eh q) (Ym (iV m) e0 ?_)))
  obtain ⟨d4, c7, i⟩ := bs i
  replace b := b.pk 6 [0, 2, 2, 2, 0, 0] rfl
  refine Yc wn rfl (yCall FN_60 (a2 e0 e0)) (matching_kuhn_try_ok c7 b) ?_
  rintro _ w ⟨rfl, b⟩
  refine ⟨_, rfl, ?_⟩
  refine wN (c2 _ _ _ (c1 _ _ (wR (yY (yadd (eh C) rfl) (Ym (iV (wa .i64 m 1)) e0 (wN ?_))))))
  obtain rfl := someI i
  exact b5 _ _ _ rfl ⟨_, _, _, _, _, _, rfl, rfl, R, q, S, rfl, (b.pk 7 [5, 0, 0, 0, 0, 0] rfl)⟩
 ·refine cF e0 D (wp_exit (c0 _ _ _ rfl ?_))
  obtain rfl := someI i
  exact b6 _ _ _ _ rfl rfl (b1 _ _ _ _ _ _ q (b.pk 6 [1, 1, 1, 1, 1] rfl) (b4 _ rfl))
theorem matching_Reachable_ok {D y : Int} {e2 e3 e4 : LI} {L N O : Hdr} {out : (List Bool) × (List Bool)} (p : matching_Reachable D y e2 e3 e4 = some out) (h5 : imm I1 L.v e2 ∈ ros) (h7 : imm I1 N.v e3 ∈ ros) (h9 : imm (rI .u64) O.v e4 ∈ ros) (b : St w0 ros rs w) :
  Calls Try.prog 82 #[.agg #[iV D, iV y, L.v, N.v, O.v]] w (fun e w => ∃ (e5 e6 : Hdr), e = .returned (.tuple #[e5.v, e6.v]) ∧ St w0 ros (row 4 rB e5.v out.1 :: row 4 rB e6.v out.2 :: rs) w) := by
 refine enterQ Try.func82 rfl Try.ntmps82 rfl fun Q i0 => sR fun _ i1 => YB wn rfl (r_box (vals := [iV D, iV y, L.v, N.v, O.v]) b e0 rfl) ?_
 intro s6 w b
 refine Ya hnil.v rfl (Ya hnil.v rfl (wK i1 (sR fun _ k2 => yY (lbs_ [iV D, iV y, L.v, N.v, O.v] ST_51 e0 b R0) ?_)))
 obtain ⟨c, i2, p⟩ := bs p
 refine Yc wn rfl (yCall FN_34 (a1 e0)) (matching_matched_ok i2 h5 h7 h9 b) ?_
 rintro _ w ⟨h, k, i, m, o, rfl, b⟩
 refine ⟨_, rfl, ?_⟩
 refine Ya (pB h) e0 (wK k2 (sQ fun _ i3 => ?_))
 obtain ⟨R, e7, p⟩ := bs p
 obtain ⟨i4, a0, p⟩ := bs p
 refine joinN (n := 89) (fun f w => ∃ (g d : Hdr), f 2 = g.v ∧ f 3 = d.v ∧ f 4 = (pB h) ∧ St w0 ros (row 4 rB g.v R :: row 4 rB d.v i4 :: row 22 S1 k.v c.1 :: row 3 I1 i.v c.2.1 :: row 3 I1 m.v c.2.2.1 :: row 4 rB o.v c.2.2.2 :: box h 75 [k.v, i.v, m.v, o.v] :: rs) w) (fun a2 => ?_) ?_
 ·refine dR [0, 1, 3, 0, 8, 24, 7, 127] [2, 5, 6, 7] 4 folM ?_
  replace b := b.drew
  refine Dn [0, 1, 3, 4] [] [2, 5] (yR rfl (yFb FL_51_0 e0) (yR rfl (lb_ (iV D) O_3 e0 b R5) (yR rfl (yFb FL_51_1 e0) (yR rfl (lb_ (iV y) O_3 e0 b R5) (Rn QSn ?_)))))
  refine Lc rfl ?_ (Lc1 rfl ?_)
  ·refine LH wn (rMk b SL_67 e0 e7) ?_
   intro S w b
   refine Dn [] [3, 4] [5, 6] (Rn (yS rfl (yFb FL_51_1 e0) (yS rfl (lb_ (iV y) O_3 e0 b R6) QSn)) ?_)
   refine Lc rfl ?_ (Lc1 rfl ?_)
   ·refine LH wn (rMk b SL_67 e0 a0) ?_
    intro J w b
    refine Dn [] [] [6] (Rn QSn ?_)
    refine Lc1 rfl ?_
    refine Ly wn (a_ S.v e0) (Dn [] [] [7] (Rn QSn ?_))
    refine Lc1 rfl ?_
    exact Ly wn (a_ J.v e0) (Dz [] [] (Rn QSn (a2 _ _ ⟨_, _, rfl, rfl, rfl, (b.pk 8 [1, 0, 0, 0, 0, 0, 0] rfl)⟩)))
   ·refine Ly wn (a_ S.v e0) (Dn [] [3, 4] [5] (Rn (yS rfl (yFb FL_51_1 e0) (yS rfl (lb_ (iV y) O_3 e0 b R6) QSn)) ?_))
    refine Lc1 rfl ?_
    refine LH wn (rMk b SL_67 e0 a0) ?_
    intro J w b
    refine Dn [] [] [7] (Rn QSn ?_)
    refine Lc1 rfl ?_
    exact Ly wn (a_ J.v e0) (Dz [] [] (Rn QSn (a2 _ _ ⟨_, _, rfl, rfl, rfl, (b.pk 8 [1, 0, 0, 0, 0, 0, 0] rfl)⟩)))
  ·refine LH wn (rMk b SL_67 e0 a0) ?_
   intro J w b
   refine Dn [] [0, 1] [2] (Rn (yS rfl (yFb FL_51_0 e0) (yS rfl (lb_ (iV D) O_3 e0 b R6) QSn)) ?_)
   refine Lc1 rfl ?_
   refine LH wn (rMk b SL_67 e0 e7) ?_
   intro S w b
   refine Dn [] [] [6] (Rn QSn ?_)
   refine Lc1 rfl ?_
   refine Ly wn (a_ S.v e0) (Dn [] [] [7] (Rn QSn ?_))
   refine Lc1 rfl ?_
   exact Ly wn (a_ J.v e0) (Dz [] [] (Rn QSn (a2 _ _ ⟨_, _, rfl, rfl, rfl, (b.pk 8 [0, 0, 0, 0, 0, 0, 0] rfl)⟩)))
 rintro f w ⟨g, d, E, F, z, b⟩
 refine i3 _ _ (sR fun _ i5 => Ya hnil.v rfl (wK i5 (sQ fun _ i6 => sR fun _ i7 => Ym (pB h) (eh z) (yY (yn e0) (yY (yFb FL_75_1 e0) (yY (lb_ i.v O_22 e0 b R6) (yY (yLen SL_22 e0 b rO3) ?_)))))))
 refine Ym (iV 0) rfl (wK i7 (blockQ fun i8 i9 => ?_))
 obtain ⟨j0, j2, p⟩ := bs p
 have j3 : ∀ (a3 : List Bool) (a4 : LI) (a5 : Hdr) (f : FV) (w : World), f 2 = g.v → f 3 = d.v → f 4 = (pB h) → f 5 = a5.v → St w0 ros (row 4 rB g.v R :: row 4 rB d.v a3 :: row 22 S1 k.v c.1 :: row 3 I1 i.v c.2.1 :: row 3 I1 m.v c.2.2.1 :: row 4 rB o.v c.2.2.2 :: box h 75 [k.v, i.v, m.v, o.v] :: row 3 I1 a5.v a4 :: rs) w → (a3, a4) = j0 → i8 (.exit 0) (fr 89 f) w := by
  intro a3 a4 a5 f w j4 j5 j6 j7 b ho
  subst ho
  refine i9 _ _ _ (i6 _ _ (sQ fun _ j8 => blockQ fun j9 k0 => ?_))
  obtain ⟨k7, k8, p⟩ := bs p
  have k9 : ∀ (a6 a7 : List Bool) (f : FV) (w : World), f 2 = g.v → f 3 = d.v → St w0 ros (row 4 rB g.v a6 :: row 4 rB d.v a7 :: rs) w → (a6, a7) = k7 → j9 (.exit 2) (fr 89 f) w := by
   intro a6 a7 f w l0 l1 b ho
   subst ho
   refine k0 _ _ _ (j8 _ _ (sR fun _ l2 => Ym g.v (eh l0) (Ym d.v (eh l1) (Ya g.v e0 (Ya d.v e0 (wK l2 (wp_ret ?_)))))))
   obtain rfl := someI p
   exact i0 _ _ _ (fin2r Try.results82 ⟨rfl, rfl⟩ ⟨rfl, rfl⟩ ⟨_, _, rfl, b⟩)
  replace b := b.pk 8 [7, 0, 0, 0, 0, 0, 0, 0] rfl
  replace b := b.toQ
  refine loopQ (fun s a w => ∃ (a8 a9 : List Bool) (T : LI) (f : FV) (A : Hdr), (a8, a9, T) = s ∧ a = fr 89 f ∧ f 2 = g.v ∧ f 3 = d.v ∧ f 4 = (pB h) ∧ f 5 = A.v ∧ St w0 ros (row 4 rB g.v a8 :: row 4 rB d.v a9 :: row 22 S1 k.v c.1 :: row 3 I1 i.v c.2.1 :: row 3 I1 m.v c.2.2.1 :: row 4 rB o.v c.2.2.2 :: box h 75 [k.v, i.v, m.v, o.v] :: rowS 3 I1 A.v T :: rs) w) k8 ⟨_, _, _, _, _, rfl, rfl, j4, j5, j6, j7, (b.pk 8 [1, 1, 1, 1, 1, 1, 1, 0] rfl)⟩ ?_
  rintro _ _ w s7 ⟨a8, a9, T, f, A, rfl, rfl, e8, e9, f0, b0, b⟩ r l3 s8 l4 l5
  refine seqQ fun s9 l6 l7 => sR fun _ l8 => Ym A.v (eh b0) (yY (yLen SL_22 e0 b (rdQ R7)) (yY (ygtr e0 rfl) (wK l8 ?_)))
  rcases iteS r with ⟨b1, r⟩ | ⟨b1, r⟩
  ·refine cT e0 b1 (wp_skip (l6 _ _ (blockQ fun _ l9 => sR fun _ m0 => Ym A.v (eh b0) ?_)))
   obtain ⟨f1, f2, r⟩ := bs r
   refine yY (yIa SL_22 e0 rfl b (rdQ R7) f2) (yY (yI O_3 e0 b (rdQ R7) f2) (Ya (iV f1) e0 (wK m0 (sR fun _ m1 => Ym A.v (eh b0) ?_))))
   obtain ⟨t0, f3, r⟩ := bs r
   replace b := b.pk 8 [7, 0, 0, 0, 0, 0, 0, 0] rfl
   refine yY (ySl (k2 := .i64) SL_22 e0 b (rdQ R0) (.inl (congrArg some rfl)) (.inr ⟨rfl, rfl⟩) f3) ?_
   replace b := b.qcut f3 rfl
   refine Ya ((subH A 1 1 (T.length : Int)).v) e0 (wK m1 (sR fun _ m2 => Ym (pB h) (eh f0) (yY (yn e0) (yY (yFb FL_75_0 e0) (yY (lb_ k.v O_25 e0 b R7) (Ym (iV f1) e0 ?_))))))
   obtain ⟨G, f4, r⟩ := bs r
   refine yY (yIa SL_25 e0 e0 b rO3 f4) ?_
   obtain ⟨H, m3, b⟩ := rLs b rO3 f4
   refine yY (yCe O_22 e0 m3 rfl) (yY (yLen SL_22 e0 b (rdI F0)) (Ym (iV 0) rfl (wK m2 (blockQ fun m4 m5 => ?_))))
   obtain ⟨m6, m7, r⟩ := bs r
   have m8 : ∀ (b2 b3 : List Bool) (b4 : LI) (b5 : Hdr) (f : FV) (w : World), f 2 = g.v → f 3 = d.v → f 4 = (pB h) → f 5 = b5.v → St w0 ros (row 4 rB g.v b2 :: row 4 rB d.v b3 :: row 22 S1 k.v c.1 :: row 3 I1 i.v c.2.1 :: row 3 I1 m.v c.2.2.1 :: row 4 rB o.v c.2.2.2 :: box h 75 [k.v, i.v, m.v, o.v] :: rowS 3 I1 b5.v b4 :: rs) w → (b2, b3, b4) = m6 → m4 (.exit 4) (fr 89 f) w := by
    intro b2 b3 b4 b5 f w m9 n0 n1 n2 b ho
    subst ho
    refine m5 _ _ _ (l9 _ _ _ ?_)
    obtain rfl := someI r
    exact l4 _ _ _ rfl ⟨_, _, _, _, _, rfl, rfl, m9, n0, n1, n2, b⟩
   refine loopQ (fun s a w => ∃ (b6 U : List Bool) (V : LI) (B : Int) (f : FV) (I : Hdr), (b6, U, V, B) = s ∧ a = fr 89 f ∧ f 2 = g.v ∧ f 3 = d.v ∧ f 4 = (pB h) ∧ f 5 = I.v ∧ f 54 = H.v ∧ f 55 = iV (G.length : Int) ∧ f 56 = iV B ∧ St w0 (imm I1 H.v G :: ros) (row 4 rB g.v b6 :: row 4 rB d.v U :: row 22 S1 k.v c.1 :: row 3 I1 i.v c.2.1 :: row 3 I1 m.v c.2.2.1 :: row 4 rB o.v c.2.2.2 :: box h 75 [k.v, i.v, m.v, o.v] :: rowS 3 I1 I.v V :: rs) w) m7 ⟨_, _, _, _, _, _, rfl, rfl, e8, e9, f0, rfl, rfl, rfl, rfl, (b.pk 8 [1, 1, 1, 1, 1, 1, 1, 0] rfl)⟩ ?_
   rintro _ _ w n3 ⟨b6, U, V, B, f, I, rfl, rfl, E, F, z, b7, b8, c0, W, b⟩ j n5 t1 n6 n7
   refine sR fun _ n8 => yY (ylss (eh W) (eh c0)) (wK n8 (seqQ fun t2 n9 o0 => ?_))
   rcases iteS j with ⟨c1, j⟩ | ⟨c1, j⟩
   ·refine cT e0 c1 (wp_skip (n9 _ _ (sQ fun _ o1 => blockQ fun o2 o3 => sR fun _ o5 => ?_)))
    obtain ⟨c2, f5, j⟩ := bs j
    refine yY (yIa SL_22 (eh b8) (eh W) b (rdI F0) f5) (yY (yI O_3 e0 b (rdI F0) f5) (Ya (iV c2) e0 (wK o5 (sR fun _ o6 => Ym g.v (eh E) (Ym (iV c2) e0 ?_)))))
    obtain ⟨c3, f6, j⟩ := bs j
    refine yY (yIs SL_67 e0 e0 b rO0 f6) (YT wn rfl (r_sti (cs := [.bool true]) b O_4 rfl e0 rfl rfl mkB f6) ?_)
    intro w b
    refine wK o6 (sR fun _ o7 => Ym (pB h) (eh z) (yY (yn e0) (yY (yFb FL_75_2 e0) (yY (lb_ m.v O_22 e0 b R6) (Ym (iV c2) e0 ?_)))))
    obtain ⟨x, f7, j⟩ := bs j
    refine yY (yIa SL_22 e0 e0 b rO4 f7) (yY (yI O_3 e0 b rO4 f7) (Ya (iV x) e0 (wK o7 (sR fun _ o8 => Ym (iV x) e0 (yY (yneq e0 rfl) (Ym (.bool (!(decide (x = (-1))))) e0 ?_))))))
    obtain ⟨o9, C, j⟩ := bs j
    refine joinW 6 (fun f w => f 2 = g.v ∧ f 3 = d.v ∧ f 4 = (pB h) ∧ f 5 = I.v ∧ f 11 = iV x ∧ f 54 = H.v ∧ f 55 = iV (G.length : Int) ∧ f 56 = iV B ∧ f 78 = .bool o9 ∧ St w0 (imm I1 H.v G :: ros) (row 4 rB g.v c3 :: row 4 rB d.v U :: row 22 S1 k.v c.1 :: row 3 I1 i.v c.2.1 :: row 3 I1 m.v c.2.2.1 :: row 4 rB o.v c.2.2.2 :: box h 75 [k.v, i.v, m.v, o.v] :: rowS 3 I1 I.v V :: rs) w) (fun f8 => ?_) ?_
    ·rcases iteS C with ⟨t, C⟩ | ⟨t, C⟩
     ·refine gN (nF (dT t)) (gN (nF (dT t)) (gN (nF (dT t)) (gN (nF (dT t)) (gN (nF (dT t)) (yY (pf_ (.bool false) e0 (nF (dT t)) rfl) ?_)))))
      obtain rfl := someI C
      exact f8 _ _ ⟨E, F, z, b7, rfl, b8, c0, W, rfl, b⟩
     ·refine yG (nT (dF t)) (m_ d.v (eh F)) (yG (nT (dF t)) (m_ (iV x) e0) ?_)
      obtain ⟨p0, f9, C⟩ := bs C
      refine yG (nT (dF t)) (yIa SL_67 e0 e0 b rO1 f9) (yG (nT (dF t)) (yB O_4 e0 b rO1 f9) (yG (nT (dF t)) (ynot e0) (yY (pt_ (.bool (!p0)) e0 (nT (dF t)) e0) ?_)))
      obtain rfl := someI C
      exact f8 _ _ ⟨E, F, z, b7, rfl, b8, c0, W, rfl, b⟩
    rintro f w ⟨g0, c4, g1, g2, g3, g4, g5, g6, g7, b⟩
    refine wK o8 ?_
    have g8 : ∀ (c5 : List Bool) (c6 : LI) (c7 : Hdr) (f : FV) (w : World), f 2 = g.v → f 3 = d.v → f 4 = (pB h) → f 5 = c7.v → f 54 = H.v → f 55 = iV (G.length : Int) → f 56 = iV B → St w0 (imm I1 H.v G :: ros) (row 4 rB g.v c3 :: row 4 rB d.v c5 :: row 22 S1 k.v c.1 :: row 3 I1 i.v c.2.1 :: row 3 I1 m.v c.2.2.1 :: row 4 rB o.v c.2.2.2 :: box h 75 [k.v, i.v, m.v, o.v] :: rowS 3 I1 c7.v c6 :: rs) w → matching_Reachable_j26 c3 B c5 c6 = some n3 → o2 .normal (fr 89 f) w := by
     intro c5 c6 c7 f w p1 p2 p3 p4 p5 p6 p7 b p
     refine o3 _ _ _ (o1 _ _ (wR (yY (yadd (eh p7) rfl) (Ym (iV (wa .i64 B 1)) e0 (wN ?_)))))
     obtain rfl := someI p
     exact n6 _ _ _ rfl ⟨_, _, _, _, _, _, rfl, rfl, p1, p2, p3, p4, p5, p6, rfl, b⟩
    rcases iteS j with ⟨c8, j⟩ | ⟨c8, j⟩
    ·refine condT (eh g7) c8 (sR fun _ p8 => Ym d.v (eh c4) (Ym (iV x) (eh g3) ?_))
     obtain ⟨t3, g9, j⟩ := bs j
     refine yY (yIs SL_67 e0 e0 b rO1 g9) ?_
     replace b := b.pk 2 [1, 0] rfl
     refine YT wn rfl (r_sti (cs := [.bool true]) b O_4 rfl e0 rfl rfl mkB g9) ?_
     intro w b
     refine wK p8 (wR (Ym I.v (eh g2) (Ym (iV x) (eh g3) (YH wn rfl (rLt (n := 1) (l := [x]) b SL_22 [iV x] (bp1 e0) rfl rfl (mks1 (cs := [iV x]) rfl mkI mks0)) ?_))))
     intro t4 w b
     obtain ⟨t5, p9, j⟩ := bs j
     replace b := b.pk 9 [8, 0, 0, 0, 0, 0, 0, 0, 0] rfl
     refine YH wn rfl (rQAp b SL_22 e0 e0 rO1 (List.cons_ne_nil _ _) p9) ?_
     intro q0 w b
     exact Ya q0.v e0 (wN (g8 _ _ _ _ _ g0 c4 g1 rfl g4 g5 g6 (b.pk 9 [3, 2, 2, 2, 2, 2, 2, 0] rfl) j))
    ·exact condF (eh g7) (bfalse c8) (wp_skip (g8 _ _ _ _ _ g0 c4 g1 g2 g4 g5 g6 b j))
   ·refine cF e0 c1 (wp_exit (o0 _ _ _ rfl ?_))
    obtain rfl := someI j
    exact n7 _ _ _ _ rfl rfl (m8 _ _ _ _ _ _ E F z b7 (b.facts (allT allI)) (n5 _ rfl))
  ·refine cF e0 b1 (wp_exit (l7 _ _ _ rfl ?_))
   obtain rfl := someI r
   exact l5 _ _ _ _ rfl rfl (k9 _ _ _ _ e8 e9 (b.pk 8 [0, 0] rfl) (l3 _ rfl))
 replace b := b.rowNh 3 I1
 refine loopQ (fun s a w => ∃ (c9 : List Bool) (d0 : LI) (u : Int) (f : FV) (X : Hdr), (c9, d0, u) = s ∧ a = fr 89 f ∧ f 2 = g.v ∧ f 3 = d.v ∧ f 4 = (pB h) ∧ f 5 = X.v ∧ f 23 = i.v ∧ f 24 = iV (c.2.1.length : Int) ∧ f 25 = iV u ∧ St w0 ros (row 4 rB g.v R :: row 4 rB d.v c9 :: row 22 S1 k.v c.1 :: row 3 I1 i.v c.2.1 :: row 3 I1 m.v c.2.2.1 :: row 4 rB o.v c.2.2.2 :: box h 75 [k.v, i.v, m.v, o.v] :: row 3 I1 X.v d0 :: rs) w) j2 ⟨_, _, _, _, _, rfl, rfl, E, F, z, rfl, rfl, rfl, rfl, (b.pk 8 [1, 1, 1, 1, 1, 1, 1, 0] rfl)⟩ ?_
 rintro _ _ w q4 ⟨c9, d0, u, f, X, rfl, rfl, d1, Z, d2, d3, d4, d5, K, b⟩ q q5 t6 q6 q7
 refine sR fun _ q8 => yY (ylss (eh K) (eh d5)) (wK q8 (seqQ fun t7 q9 r0 => ?_))
 rcases iteS q with ⟨d6, q⟩ | ⟨d6, q⟩
 ·refine cT e0 d6 (wp_skip (q9 _ _ (sQ fun _ r1 => blockQ fun r2 r3 => sR fun _ r4 => Ym (iV u) (eh K) ?_)))
  obtain ⟨h0, h1, q⟩ := bs q
  refine yY (yIa SL_22 (eh d4) (eh K) b rO3 h1) (yY (yI O_3 e0 b rO3 h1) (Ya (iV u) e0 (Ya (iV h0) e0 (wK r4 (sR fun _ r5 => Ym (iV h0) e0 (yY (yeql e0 rfl) (wK r5 ?_)))))))
  have h2 : ∀ (d7 : List Bool) (d8 : LI) (d9 : Hdr) (f : FV) (w : World), f 2 = g.v → f 3 = d.v → f 4 = (pB h) → f 5 = d9.v → f 23 = i.v → f 24 = iV (c.2.1.length : Int) → f 25 = iV u → St w0 ros (row 4 rB g.v R :: row 4 rB d.v d7 :: row 22 S1 k.v c.1 :: row 3 I1 i.v c.2.1 :: row 3 I1 m.v c.2.2.1 :: row 4 rB o.v c.2.2.2 :: box h 75 [k.v, i.v, m.v, o.v] :: row 3 I1 d9.v d8 :: rs) w → matching_Reachable_j27 u d7 d8 = some q4 → r2 .normal (fr 89 f) w := by
   intro d7 d8 d9 f w r6 r7 r8 r9 s0 s1 s2 b p
   refine r3 _ _ _ (r1 _ _ (wR (yY (yadd (eh s2) rfl) (Ym (iV (wa .i64 u 1)) e0 (wN ?_)))))
   obtain rfl := someI p
   exact q6 _ _ _ rfl ⟨_, _, _, _, _, rfl, rfl, r6, r7, r8, r9, s0, s1, rfl, b⟩
  rcases iteS q with ⟨e1, q⟩ | ⟨e1, q⟩
  ·refine cT e0 e1 (sR fun _ s3 => Ym d.v (eh Z) (Ym (iV u) e0 ?_))
   obtain ⟨t8, h3, q⟩ := bs q
   refine yY (yIs SL_67 e0 e0 b rO1 h3) ?_
   replace b := b.pk 2 [1, 0] rfl
   refine YT wn rfl (r_sti (cs := [.bool true]) b O_4 rfl e0 rfl rfl mkB h3) ?_
   intro w b
   refine wK s3 (wR (Ym X.v (eh d3) (Ym (iV u) e0 (YH wn rfl (rLt (n := 1) (l := [u]) b SL_22 [iV u] (bp1 e0) rfl rfl (mks1 (cs := [iV u]) rfl mkI mks0)) ?_))))
   intro t9 w b
   obtain ⟨u0, s4, q⟩ := bs q
   replace b := b.pk 9 [8, 0, 0, 0, 0, 0, 0, 0, 0] rfl
   refine YH wn rfl (rAp b SL_22 e0 e0 rO1 s4) ?_
   intro s5 w b
   exact Ya s5.v e0 (wN (h2 _ _ _ _ _ d1 Z d2 rfl d4 d5 K (b.pk 9 [3, 2, 2, 2, 2, 2, 2, 0] rfl) q))
  ·exact cF e0 e1 (wp_skip (h2 _ _ _ _ _ d1 Z d2 d3 d4 d5 K b q))
 ·refine cF e0 d6 (wp_exit (r0 _ _ _ rfl ?_))
  obtain rfl := someI q
  exact q7 _ _ _ _ rfl rfl (j3 _ _ _ _ _ d1 Z d2 d3 b (q5 _ rfl))
theorem matching_List_ok {m : List Bool} {g : Bool} {h : Hdr} {out : LI} (i : matching_List m g = some out) (p : imm rB h.v m ∈ ros) (b : St w0 ros rs w) :
  Calls Try.prog 83 #[h.v, .bool g] w (fun e w => ∃ (D : Hdr), e = .returned (D.v) ∧ St w0 ros (row 3 I1 D.v out :: rs) w) := by
 refine enterQ Try.func83 rfl Try.ntmps83 rfl fun Q H => sR fun _ I => Ya hnil.v rfl (wK I (sR fun _ J => Ya hnil.v rfl (wK J (sQ fun _ K => sR fun _ L => ?_))))
 refine Ym h.v e0 (yY (yLen SL_67 e0 b (rdI p)) (Ym (iV 0) rfl (wK L (blockQ fun N O => ?_))))
 obtain ⟨R, S, i⟩ := bs i
 have T : ∀ (q : LI) (j : Hdr) (f : FV) (w : World), f 5 = j.v → St w0 ros (row 3 I1 j.v q :: rs) w → q = R → N (.exit 0) (fr 24 f) w := by
  intro q j f w U b ho
  subst ho
  refine O _ _ _ (K _ _ (sR fun _ V => Ym j.v (eh U) (Ya j.v e0 (wK V (wp_ret ?_)))))
  obtain rfl := someI i
  exact H _ _ _ (fin1r Try.results83 ⟨rfl, rfl⟩ ⟨_, rfl, b⟩)
 replace b := b.rowNh 3 I1
 refine loopQ (fun s a w => ∃ (r : LI) (d : Int) (f : FV) (o : Hdr), (r, d) = s ∧ a = fr 24 f ∧ f 1 = .bool g ∧ f 5 = o.v ∧ f 8 = h.v ∧ f 9 = iV (m.length : Int) ∧ f 10 = iV d ∧ St w0 ros (row 3 I1 o.v r :: rs) w) S ⟨_, _, _, _, rfl, rfl, rfl, rfl, rfl, rfl, rfl, b⟩ ?_
 rintro _ _ w W ⟨r, d, f, o, rfl, rfl, t, u, x, y, k, b⟩ c X b6 Z a0
 refine sR fun _ a1 => yY (ylss (eh k) (eh y)) (wK a1 (seqQ fun b7 a2 a3 => ?_))
 rcases iteS c with ⟨z, c⟩ | ⟨z, c⟩
 ·refine cT e0 z (wp_skip (a2 _ _ (sQ fun _ a4 => blockQ fun a5 a6 => sR fun _ a7 => Ym (iV d) (eh k) ?_)))
  obtain ⟨E, F, c⟩ := bs c
  refine yY (yIa SL_67 (eh x) (eh k) b (rdI p) F) (yY (yB O_4 e0 b (rdI p) F) (Ya (iV d) e0 (Ya (.bool E) e0 (wK a7 (sR fun _ a8 => Ym (.bool E) e0 (Ym (.bool g) (eh t) (yY (yeqb (by kernel_rfl) e0 e0) (wK a8 ?_))))))))
  have G : ∀ (A : LI) (B : Hdr) (f : FV) (w : World), f 1 = .bool g → f 5 = B.v → f 8 = h.v → f 9 = iV (m.length : Int) → f 10 = iV d → St w0 ros (row 3 I1 B.v A :: rs) w → matching_List_j4 d A = some W → a5 .normal (fr 24 f) w := by
   intro A B f w a9 b0 b1 b2 b3 b i
   refine a6 _ _ _ (a4 _ _ (wR (yY (yadd (eh b3) rfl) (Ym (iV (wa .i64 d 1)) e0 (wN ?_)))))
   obtain rfl := someI i
   exact Z _ _ _ rfl ⟨_, _, _, _, rfl, rfl, a9, b0, b1, b2, rfl, b⟩
  rcases iteS c with ⟨C, c⟩ | ⟨C, c⟩
  ·refine condT e0 C (wR (Ym o.v (eh u) (Ym (iV d) e0 (YH wn rfl (rLt (n := 1) (l := [d]) b SL_22 [iV d] (bp1 e0) rfl rfl (mks1 (cs := [iV d]) rfl mkI mks0)) ?_))))
   intro b8 w b
   obtain ⟨b9, b4, c⟩ := bs c
   replace b := b.pk 2 [1, 0] rfl
   refine YH wn rfl (rAp b SL_22 e0 e0 rO1 b4) ?_
   intro b5 w b
   exact Ya b5.v e0 (wN (G _ _ _ _ t rfl x y k (b.pk 2 [0] rfl) c))
  ·exact condF e0 (bfalse C) (wp_skip (G _ _ _ _ t u x y k b c))
 ·refine cF e0 z (wp_exit (a3 _ _ _ rfl ?_))
  obtain rfl := someI c
  exact a0 _ _ _ _ rfl rfl (T _ _ _ _ u b (X _ rfl))
theorem matching_Cover_ok {c d : Int} {o p q : LI} {f g h : Hdr} {out : LI × LI × Int} (b : matching_Cover c d o p q = some out) (r : imm I1 f.v o ∈ ros) (s : imm I1 g.v p ∈ ros) (t : imm (rI .u64) h.v q ∈ ros) (a : St w0 ros rs w) :
  Calls Try.prog 67 #[.agg #[iV c, iV d, f.v, g.v, h.v]] w (fun e w => ∃ (u x : Hdr), e = .returned (.tuple #[.agg #[u.v, x.v], iV out.2.2]) ∧ St w0 ros (row 3 I1 u.v out.1 :: row 3 I1 x.v out.2.1 :: rs) w) := by
 refine enterQ Try.func67 rfl Try.ntmps67 rfl fun Q y => sR fun _ z => YB wn rfl (r_box (vals := [iV c, iV d, f.v, g.v, h.v]) a e0 rfl) ?_
 intro L w a
 refine YB wn rfl (rAl a ZT_106) ?_
 intro N w a
 refine Ya (iV 0) rfl (wK z (sR fun _ A => yY (lbs_ [iV c, iV d, f.v, g.v, h.v] ST_51 e0 a R1) ?_))
 obtain ⟨i, B, b⟩ := bs b
 refine Yc wn rfl (yCall FN_33 (a1 e0)) (matrix_Check_ok B r s t a) ?_
 rintro _ w ⟨rfl, a⟩
 refine ⟨_, rfl, ?_⟩
 refine Ya (iV i) e0 (wK A (seqQ fun O C D => sR fun _ E => Ym (iV i) e0 (yY (yneq e0 rfl) (wK E ?_))))
 rcases iteS b with ⟨n, b⟩ | ⟨n, b⟩
 ·refine condF e0 (nF (dT n)) (wp_skip (C _ _ (sR fun _ F => yY (lbs_ [iV c, iV d, f.v, g.v, h.v] ST_51 e0 a R1) ?_)))
  obtain ⟨R, G, b⟩ := bs b
  refine Yc wn rfl (yCall FN_82 (a1 e0)) (matching_Reachable_ok G r s t a) ?_
  rintro _ w ⟨j, k, rfl, a⟩
  refine ⟨_, rfl, ?_⟩
  refine Ym (.tuple #[j.v, k.v]) e0 (yY (x_ j.v e0) (yY (x_ k.v e0) (Ya j.v e0 (Ya k.v e0 (wK F (sR fun _ H => Ym j.v e0 ?_))))))
  obtain ⟨S, I, b⟩ := bs b
  replace a := a.fz
  refine Yc wn rfl (yCall FN_83 (a2 e0 rfl)) (matching_List_ok I F0 a) ?_
  rintro _ w ⟨l, rfl, a⟩
  refine ⟨_, rfl, ?_⟩
  refine Ym k.v e0 ?_
  obtain ⟨T, J, b⟩ := bs b
  replace a := a.pk 2 [1, 0] rfl
  replace a := a.fz
  refine Yc wn rfl (yCall FN_83 (a2 e0 rfl)) (matching_List_ok J F0 a) ?_
  rintro _ w ⟨m, rfl, a⟩
  refine ⟨_, rfl, ?_⟩
  refine yY (ybuild (us := [l.v, m.v]) [(0, l.v), (1, m.v)] SO_106 (bp2 e0 e0) rfl) ?_
  replace a := a.pk 3 [2, 0, 0] rfl
  refine YT wn rfl (r_stbn (vals' := [l.v, m.v]) (us := [l.v, m.v]) a ST_106 e0 e0 rfl rfl (one_of rfl) rfl) ?_
  intro w a
  refine Ya (iV 0) rfl (wK H (wp_ret ?_))
  obtain rfl := someI b
  exact y _ _ _ (fin2r Try.results67 (rcs2 rfl rfl a R0 ST_106 rfl) ⟨rfl, rfl⟩ ⟨_, _, rfl, ((a.pk 4 [2, 1] rfl).facts (allT (allT allI)))⟩)
 ·refine condT e0 (nT (dF n)) (sR fun _ K => yY (ybuild (us := [hnil.v, hnil.v]) [] SO_106 bp0 rfl) (Ym (iV i) e0 (YT wn rfl (r_stbn (vals' := [hnil.v, hnil.v]) (us := [hnil.v, hnil.v]) a ST_106 e0 e0 rfl rfl (one_of rfl) rfl) ?_)))
  intro w a
  refine Ya (iV i) e0 (wK K (wp_ret (D _ _ _ rfl ?_)))
  obtain rfl := someI b
  replace a := a.rowNh 3 I1
  replace a := a.rowNh 3 I1
  exact y _ _ _ (fin2r Try.results67 (rcs2 rfl rfl a R2 ST_106 rfl) ⟨rfl, rfl⟩ ⟨_, _, rfl, (a.pk 4 [1, 0] rfl)⟩)
theorem dissect_cover_ok {f1 : L2} {f2 : LI} {r L : Hdr} {out : (List Bool)} (i : dissect_cover f1 f2 = some out) (N : imm S1 r.v f1 ∈ ros) (f3 : imm I1 L.v f2 ∈ ros) (b : St w0 ros rs w) :
  Calls Try.prog 50 #[.agg #[r.v], L.v] w (fun e w => ∃ (f4 : Hdr), e = .returned (f4.v) ∧ St w0 ros (row 4 rB f4.v out :: rs) w) := by
 refine enterQ Try.func50 rfl Try.ntmps50 rfl fun Q f5 => sR fun _ i7 => YB wn rfl (r_box (vals := [r.v]) b e0 rfl) ?_
 intro t w b
 refine Ya hnil.v rfl (wK i7 (sQ fun _ i8 => ?_))
 obtain ⟨g, i9, i⟩ := bs i
 obtain ⟨c, j0, i⟩ := bs i
 refine dR [0, 0, 3, 0, 0, 31, 63, 127] [2, 5, 6, 7] 4 folM ?_
 replace b := b.drew
 refine Dn [0, 1, 3, 4] [] [2] (yR rfl (lbs_ [r.v] ST_27 e0 b R0) (yR rfl (m_ L.v e0) (yR rfl (lbs_ [r.v] ST_27 e0 b R0) (yR rfl (m_ L.v e0) (Rn QSn ?_)))))
 refine Lc1 rfl ?_
 refine Lk wn (yCall FN_66 (a3 e0 e0 rfl)) (dissect_border_ok i9 N f3 b) ?_
 rintro _ w ⟨j, rfl, b⟩
 refine ⟨_, rfl, ?_⟩
 refine Dn [] [3, 4] [5] (Rn (yS rfl (lbs_ [r.v] ST_27 e0 b R1) (yS rfl (m_ L.v e0) QSn)) ?_)
 refine Lc1 rfl ?_
 refine Lk wn (yCall FN_66 (a3 e0 e0 rfl)) (dissect_border_ok j0 N f3 b) ?_
 rintro _ w ⟨h, rfl, b⟩
 refine ⟨_, rfl, ?_⟩
 refine Dn [] [] [6] (Rn QSn ?_)
 refine Lc1 rfl ?_
 refine Ly wn (a_ j.v e0) (Dn [] [] [7] (Rn QSn ?_))
 refine Lc1 rfl ?_
 refine Ly wn (a_ h.v e0) (Dz [] [] (Rn QSn (i8 _ _ (sR fun _ j1 => Ym j.v e0 (yY (yLen SL_22 e0 b rO1) (Ym h.v e0 (yY (yLen SL_22 e0 b rO0) (YH wn rfl (rLt (n := 1) (l := [0]) b SL_22 [iV 0] (bp1 rfl) rfl rfl (mks1 (cs := [iV 0]) rfl mkI mks0)) ?_))))))))
 intro a5 w b
 refine yY (ybuild (us := [iV (g.length : Int), iV (c.length : Int), a5.v, hnil.v, hnil.v]) [(0, iV (g.length : Int)), (1, iV (c.length : Int)), (2, a5.v)] SO_51 (bp3 e0 e0 e0) rfl) (YB wn rfl (rAl b ZT_51) ?_)
 intro u w b
 refine YT wn rfl (r_stbn (vals' := [iV (g.length : Int), iV (c.length : Int), a5.v, hnil.v, hnil.v]) (us := [iV (g.length : Int), iV (c.length : Int), a5.v, hnil.v, hnil.v]) b ST_51 e0 e0 rfl rfl (one_of rfl) rfl) ?_
 intro w b
 refine wK j1 (sQ fun _ j2 => sR fun _ j3 => Ym h.v e0 (yY (yLen SL_22 e0 b rO2) (Ym (iV 0) rfl (wK j3 (blockQ fun j4 j5 => ?_)))))
 obtain ⟨j6, j7, i⟩ := bs i
 have j8 : ∀ (b4 b6 b7 : LI) (a6 a7 a8 : Hdr) (f : FV) (w : World), f 2 = (pB t) → f 5 = j.v → f 6 = h.v → f 7 = (pB u) → St w0 ros (box t 27 [r.v] :: row 3 I1 j.v g :: row 3 I1 h.v c :: row 3 I1 a6.v b4 :: row 3 I1 a7.v b6 :: row 45 (rI .u64) a8.v b7 :: box u 51 [iV (g.length : Int), iV (c.length : Int), a6.v, a7.v, a8.v] :: rs) w → (b4, b6, b7) = j6 → j4 (.exit 0) (fr 119 f) w := by
  intro b4 b6 b7 a6 a7 a8 f w j9 k0 k6 k7 b ho
  subst ho
  refine j5 _ _ _ (j2 _ _ (sR fun _ k8 => yY (yFb FL_27_0 (eh j9)) (yY (lb_ r.v O_25 e0 b R0) (yY (yLen SL_25 e0 b (rdI N)) ?_))))
  obtain ⟨w1, k9, i⟩ := bs i
  refine YH wn rfl (rMk b SL_67 e0 k9) ?_
  intro p w b
  refine Ya p.v e0 (wK k8 (sR fun _ l0 => yY (lbs_ [iV (g.length : Int), iV (c.length : Int), a6.v, a7.v, a8.v] ST_51 (eh k7) b R7) ?_))
  obtain ⟨x, l1, i⟩ := bs i
  replace b := b.pk 5 [4, 0, 0, 0, 0] rfl
  replace b := b.fz
  replace b := b.pk 5 [4, 0, 0, 0, 0] rfl
  replace b := b.fz
  replace b := b.pk 5 [4, 0, 0, 0, 0] rfl
  replace b := b.fz
  refine Yc wn rfl (yCall FN_67 (a1 e0)) (matching_Cover_ok l1 F2 F1 F0 b) ?_
  rintro _ w ⟨C, y, rfl, b⟩
  refine ⟨_, rfl, ?_⟩
  refine Ym (.tuple #[.agg #[C.v, y.v], iV x.2.2]) e0 (yY (x_ (.agg #[C.v, y.v]) e0) (yY (x_ (iV x.2.2) e0) (YB wn rfl (rAl b ZT_106) ?_)))
  intro a9 w b
  refine YT wn rfl (r_stbn (vals' := [C.v, y.v]) (us := [C.v, y.v]) b ST_106 e0 e0 rfl rfl (one_of rfl) rfl) ?_
  intro w b
  refine Ya (iV x.2.2) e0 (wK l0 (seqQ fun w2 l2 l3 => sR fun _ l4 => Ym (iV x.2.2) e0 (yY (yneq e0 rfl) (wK l4 ?_))))
  rcases iteS i with ⟨b8, i⟩ | ⟨b8, i⟩
  ·refine condF e0 (nF (dT b8)) (wp_skip (l2 _ _ (sQ fun _ l5 => sR fun _ l6 => yY (yFb FL_106_0 e0) (yY (lb_ C.v O_22 e0 b R0) (yY (yLen SL_22 e0 b rO1) (Ym (iV 0) rfl (wK l6 (blockQ fun l7 l8 => ?_))))))))
   obtain ⟨l9, m0, i⟩ := bs i
   have m1 : ∀ (b9 : List Bool) (f : FV) (w : World), f 6 = h.v → f 14 = p.v → f 15 = (pB a9) → St w0 ros (row 3 I1 h.v c :: row 4 rB p.v b9 :: row 3 I1 C.v x.1 :: row 3 I1 y.v x.2.1 :: box a9 106 [C.v, y.v] :: rs) w → b9 = l9 → l7 (.exit 4) (fr 119 f) w := by
    intro b9 f w m2 m3 m4 b ho
    subst ho
    refine l8 _ _ _ (l5 _ _ (sQ fun _ m5 => sR fun _ m6 => yY (yFb FL_106_1 (eh m4)) (yY (lb_ y.v O_22 e0 b R4) (yY (yLen SL_22 e0 b rO3) (Ym (iV 0) rfl (wK m6 (blockQ fun m7 m8 => ?_)))))))
    obtain ⟨m9, n0, i⟩ := bs i
    have n1 : ∀ (c0 : List Bool) (f : FV) (w : World), f 14 = p.v → St w0 ros (row 4 rB p.v c0 :: rs) w → c0 = m9 → m7 (.exit 6) (fr 119 f) w := by
     intro c0 f w n2 b ho
     subst ho
     refine m8 _ _ _ (m5 _ _ (sR fun _ n3 => Ym p.v (eh n2) (Ya p.v e0 (wK n3 (wp_ret ?_)))))
     obtain rfl := someI i
     exact f5 _ _ _ (fin1r Try.results50 ⟨rfl, rfl⟩ ⟨_, rfl, b⟩)
    refine loopQ (fun s a w => ∃ (c1 : List Bool) (b0 : Int) (f : FV), (c1, b0) = s ∧ a = fr 119 f ∧ f 6 = h.v ∧ f 14 = p.v ∧ f 105 = y.v ∧ f 106 = iV (x.2.1.length : Int) ∧ f 107 = iV b0 ∧ St w0 ros (row 3 I1 h.v c :: row 4 rB p.v c1 :: row 3 I1 y.v x.2.1 :: rs) w) n0 ⟨_, _, _, rfl, rfl, m2, m3, rfl, rfl, rfl, (b.pk 5 [0, 0, 1] rfl)⟩ ?_
    rintro _ _ w w3 ⟨c1, b0, f, rfl, rfl, f6, c2, f7, f8, c3, b⟩ z n4 w4 n5 n6
    refine sR fun _ n7 => yY (ylss (eh c3) (eh f8)) (wK n7 (seqQ fun w5 n8 n9 => ?_))
    rcases iteS z with ⟨c4, z⟩ | ⟨c4, z⟩
    ·refine cT e0 c4 (wp_skip (n8 _ _ (sQ fun _ o0 => blockQ fun _ o1 => sR fun _ o2 => ?_)))
     obtain ⟨f9, g0, z⟩ := bs z
     refine yY (yIa SL_22 (eh f7) (eh c3) b rO2 g0) (yY (yI O_3 e0 b rO2 g0) (Ya (iV f9) e0 (wK o2 (wR (Ym p.v (eh c2) (Ym h.v (eh f6) (Ym (iV f9) e0 ?_)))))))
     obtain ⟨w6, g1, z⟩ := bs z
     refine yY (yIa SL_22 e0 e0 b rO0 g1) (yY (yI O_3 e0 b rO0 g1) ?_)
     obtain ⟨w7, g2, z⟩ := bs z
     refine yY (yIs SL_67 e0 e0 b rO1 g2) ?_
     replace b := b.pk 2 [1, 0] rfl
     refine YT wn rfl (r_sti (cs := [.bool true]) b O_4 rfl e0 rfl rfl mkB g2) ?_
     intro w b
     refine wN (o1 _ _ _ (o0 _ _ (wR (yY (yadd (eh c3) rfl) (Ym (iV (wa .i64 b0 1)) e0 (wN ?_))))))
     obtain rfl := someI z
     exact n5 _ _ _ rfl ⟨_, _, _, rfl, rfl, f6, c2, f7, f8, rfl, (b.pk 3 [1, 0, 0] rfl)⟩
    ·refine cF e0 c4 (wp_exit (n9 _ _ _ rfl ?_))
     obtain rfl := someI z
     exact n6 _ _ _ _ rfl rfl (n1 _ _ _ c2 (b.pk 3 [1] rfl) (n4 _ rfl))
   refine loopQ (fun s a w => ∃ (c5 : List Bool) (b1 : Int) (f : FV), (c5, b1) = s ∧ a = fr 119 f ∧ f 5 = j.v ∧ f 6 = h.v ∧ f 14 = p.v ∧ f 15 = (pB a9) ∧ f 91 = C.v ∧ f 92 = iV (x.1.length : Int) ∧ f 93 = iV b1 ∧ St w0 ros (row 3 I1 j.v g :: row 3 I1 h.v c :: row 4 rB p.v c5 :: row 3 I1 C.v x.1 :: row 3 I1 y.v x.2.1 :: box a9 106 [C.v, y.v] :: rs) w) m0 ⟨_, _, _, rfl, rfl, k0, k6, rfl, rfl, rfl, rfl, rfl, ((b.pk 8 [5, 5, 3, 1, 1, 0] rfl).facts (allT (allT (allT allI))))⟩ ?_
   rintro _ _ w w8 ⟨c5, b1, f, rfl, rfl, g3, g4, c6, g5, g6, g7, c7, b⟩ A o3 w9 o4 o5
   refine sR fun _ o6 => yY (ylss (eh c7) (eh g7)) (wK o6 (seqQ fun x0 o7 o8 => ?_))
   rcases iteS A with ⟨c8, A⟩ | ⟨c8, A⟩
   ·refine cT e0 c8 (wp_skip (o7 _ _ (sQ fun _ o9 => blockQ fun _ p0 => sR fun _ p1 => ?_)))
    obtain ⟨g8, g9, A⟩ := bs A
    refine yY (yIa SL_22 (eh g6) (eh c7) b rO3 g9) (yY (yI O_3 e0 b rO3 g9) (Ya (iV g8) e0 (wK p1 (wR (Ym p.v (eh c6) (Ym j.v (eh g3) (Ym (iV g8) e0 ?_)))))))
    obtain ⟨x2, h0, A⟩ := bs A
    refine yY (yIa SL_22 e0 e0 b rO0 h0) (yY (yI O_3 e0 b rO0 h0) ?_)
    obtain ⟨x4, h1, A⟩ := bs A
    refine yY (yIs SL_67 e0 e0 b rO2 h1) ?_
    replace b := b.pk 3 [2, 0, 0] rfl
    refine YT wn rfl (r_sti (cs := [.bool true]) b O_4 rfl e0 rfl rfl mkB h1) ?_
    intro w b
    refine wN (p0 _ _ _ (o9 _ _ (wR (yY (yadd (eh c7) rfl) (Ym (iV (wa .i64 b1 1)) e0 (wN ?_))))))
    obtain rfl := someI A
    exact o4 _ _ _ rfl ⟨_, _, _, rfl, rfl, g3, g4, c6, g5, g6, g7, rfl, (b.pk 6 [1, 1, 0, 0, 0, 0] rfl)⟩
   ·refine cF e0 c8 (wp_exit (o8 _ _ _ rfl ?_))
    obtain rfl := someI A
    exact o5 _ _ _ _ rfl rfl (m1 _ _ _ g4 c6 g5 (b.pk 6 [1, 1, 1, 1, 1] rfl) (o3 _ rfl))
  ·refine condT e0 (nT (dF b8)) (sR fun _ p2 => Ym p.v e0 (Ya p.v e0 (wK p2 (wp_ret (l3 _ _ _ rfl ?_)))))
   obtain rfl := someI i
   exact f5 _ _ _ (fin1r Try.results50 ⟨rfl, rfl⟩ ⟨_, rfl, ((b.pk 8 [3] rfl).facts (allT (allT (allT allI))))⟩)
 replace b := b.rowNh 3 I1
 replace b := b.rowNh 45 (rI .u64)
 refine loopQ (fun s a w => ∃ (G c9 d0 : LI) (D : Int) (f : FV) (m d1 d2 : Hdr), (G, c9, d0, D) = s ∧ a = fr 119 f ∧ f 2 = (pB t) ∧ f 5 = j.v ∧ f 6 = h.v ∧ f 7 = (pB u) ∧ f 33 = h.v ∧ f 34 = iV (c.length : Int) ∧ f 35 = iV D ∧ St w0 ros (box t 27 [r.v] :: row 3 I1 j.v g :: row 3 I1 h.v c :: row 3 I1 m.v G :: row 3 I1 d1.v c9 :: row 45 (rI .u64) d2.v d0 :: box u 51 [iV (g.length : Int), iV (c.length : Int), m.v, d1.v, d2.v] :: rs) w) j7 ⟨_, _, _, _, _, _, _, _, rfl, rfl, rfl, rfl, rfl, rfl, rfl, rfl, rfl, (b.pk 7 [6, 5, 4, 3, 1, 0, 0] rfl)⟩ ?_
 rintro _ _ w x5 ⟨G, c9, d0, D, f, m, d1, d2, rfl, rfl, h3, d3, h5, h6, h8, i0, d4, b⟩ B p3 x6 p4 p5
 refine sR fun _ p6 => yY (ylss (eh d4) (eh i0)) (wK p6 (seqQ fun x7 p7 p8 => ?_))
 rcases iteS B with ⟨d5, B⟩ | ⟨d5, B⟩
 ·refine cT e0 d5 (wp_skip (p7 _ _ (sQ fun _ p9 => blockQ fun _ q0 => sR fun _ q3 => ?_)))
  obtain ⟨O, i1, B⟩ := bs B
  refine yY (yIa SL_22 (eh h8) (eh d4) b rO2 i1) (yY (yI O_3 e0 b rO2 i1) (Ya (iV O) e0 (wK q3 (sQ fun _ q4 => sR fun _ q5 => Ym j.v (eh d3) (yY (yLen SL_22 e0 b rO1) (Ym (iV 0) rfl (wK q5 (blockQ fun q6 q7 => ?_))))))))
  obtain ⟨q8, q9, B⟩ := bs B
  have r0 : ∀ (J d6 : LI) (R b2 : Hdr) (f : FV) (w : World), f 2 = (pB t) → f 5 = j.v → f 6 = h.v → f 7 = (pB u) → f 33 = h.v → f 34 = iV (c.length : Int) → f 35 = iV D → St w0 ros (box t 27 [r.v] :: row 3 I1 j.v g :: row 3 I1 h.v c :: row 3 I1 m.v G :: row 3 I1 R.v J :: row 45 (rI .u64) b2.v d6 :: box u 51 [iV (g.length : Int), iV (c.length : Int), m.v, R.v, b2.v] :: rs) w → (J, d6) = q8 → q6 (.exit 2) (fr 119 f) w := by
   intro J d6 R b2 f w r1 r2 r3 b3 r4 r5 r7 b ho
   subst ho
   refine q7 _ _ _ (q4 _ _ (wR (yY (yFb FL_51_2 (eh b3)) (yY (lb_ m.v O_22 e0 b R6) (yY (yFb FL_51_3 (eh b3)) (yY (lb_ R.v O_22 e0 b R6) (yY (yLen SL_22 e0 b rO4) (YH wn rfl (rLt (n := 1) (l := [(J.length : Int)]) b SL_22 [iV (J.length : Int)] (bp1 e0) rfl rfl (mks1 (cs := [iV (J.length : Int)]) rfl mkI mks0)) ?_))))))))
   intro x8 w b
   obtain ⟨x9, r9, B⟩ := bs B
   replace b := b.pk 5 [4, 0, 0, 0, 0] rfl
   refine YH wn rfl (rAp b SL_22 e0 e0 rO1 r9) ?_
   intro s0 w b
   refine yY (yFb FL_51_2 (eh b3)) ?_
   replace b := b.pk 8 [7, 0, 0, 0, 0, 0, 0, 0] rfl
   refine YT wn rfl (r_stb1 (vals' := [iV (g.length : Int), iV (c.length : Int), s0.v, R.v, b2.v]) b O_22 e0 e0 rfl rfl rfl rfl) ?_
   intro w b
   refine wN (q0 _ _ _ (p9 _ _ (wR (yY (yadd (eh r7) rfl) (Ym (iV (wa .i64 D 1)) e0 (wN ?_))))))
   obtain rfl := someI B
   exact p4 _ _ _ rfl ⟨_, _, _, _, _, _, _, _, rfl, rfl, r1, r2, r3, b3, r4, r5, rfl, (b.pk 8 [3, 3, 3, 1, 2, 2, 0] rfl)⟩
  refine loopQ (fun s a w => ∃ (d7 d8 : LI) (o : Int) (f : FV) (E q : Hdr), (d7, d8, o) = s ∧ a = fr 119 f ∧ f 2 = (pB t) ∧ f 5 = j.v ∧ f 6 = h.v ∧ f 7 = (pB u) ∧ f 9 = iV O ∧ f 33 = h.v ∧ f 34 = iV (c.length : Int) ∧ f 35 = iV D ∧ f 39 = j.v ∧ f 40 = iV (g.length : Int) ∧ f 41 = iV o ∧ St w0 ros (box t 27 [r.v] :: row 3 I1 j.v g :: row 3 I1 h.v c :: row 3 I1 m.v G :: row 3 I1 E.v d7 :: row 45 (rI .u64) q.v d8 :: box u 51 [iV (g.length : Int), iV (c.length : Int), m.v, E.v, q.v] :: rs) w) q9 ⟨_, _, _, _, _, _, rfl, rfl, h3, d3, h5, h6, rfl, h8, i0, d4, rfl, rfl, rfl, b⟩ ?_
  rintro _ _ w s1 ⟨d7, d8, o, f, E, q, rfl, rfl, K, S, T, d, U, V, W, X, Z, a0, H, b⟩ k s2 y0 s3 s4
  refine sR fun _ s5 => yY (ylss (eh H) (eh a0)) (wK s5 (seqQ fun y1 s6 s7 => ?_))
  rcases iteS k with ⟨d9, k⟩ | ⟨d9, k⟩
  ·refine cT e0 d9 (wp_skip (s6 _ _ (sQ fun _ s8 => blockQ fun s9 t0 => sR fun _ t1 => Ym (iV o) (eh H) ?_)))
   obtain ⟨i2, i3, k⟩ := bs k
   refine yY (yIa SL_22 (eh Z) (eh H) b rO1 i3) (yY (yI O_3 e0 b rO1 i3) (Ya (iV o) e0 (Ya (iV i2) e0 (wK t1 (sR fun _ t2 => yY (yFb FL_27_0 (eh K)) (yY (lb_ r.v O_25 e0 b R0) (Ym (iV O) (eh U) ?_)))))))
   obtain ⟨y2, i4, k⟩ := bs k
   refine yY (yIa SL_25 e0 e0 b (rdI N) i4) ?_
   obtain ⟨y3, b⟩ := iLs b N i4
   refine yY (yCt O_22 e0 b F1 rfl) (Ym (iV i2) e0 ?_)
   obtain ⟨I, t3, k⟩ := bs k
   refine Yc wn rfl (yCall FN_64 (a2 e0 e0)) (slices_BinarySearch_int_ok t3 F0 b) ?_
   rintro _ w ⟨rfl, b⟩
   refine ⟨_, rfl, ?_⟩
   refine Ym (.tuple #[iV I.1, .bool I.2]) e0 (yY (x_ (iV I.1) e0) (yY (x_ (.bool I.2) e0) (Ya (iV I.1) e0 (Ya (.bool I.2) e0 (wK t2 (sR fun _ t4 => Ym (.bool I.2) e0 (wK t4 ?_)))))))
   have i5 : ∀ (e1 e2 : LI) (e3 e4 : Hdr) (f : FV) (w : World), f 2 = (pB t) → f 5 = j.v → f 6 = h.v → f 7 = (pB u) → f 9 = iV O → f 33 = h.v → f 34 = iV (c.length : Int) → f 35 = iV D → f 39 = j.v → f 40 = iV (g.length : Int) → f 41 = iV o → St w0 ros (box t 27 [r.v] :: row 3 I1 j.v g :: row 3 I1 h.v c :: row 3 I1 m.v G :: row 3 I1 e3.v e1 :: row 45 (rI .u64) e4.v e2 :: box u 51 [iV (g.length : Int), iV (c.length : Int), m.v, e3.v, e4.v] :: rs) w → dissect_cover_j32 o e1 e2 = some s1 → s9 .normal (fr 119 f) w := by
    intro e1 e2 e3 e4 f w t5 t6 t7 t8 t9 u0 u1 u2 u3 u4 u5 b i
    refine t0 _ _ _ (s8 _ _ (wR (yY (yadd (eh u5) rfl) (Ym (iV (wa .i64 o 1)) e0 (wN ?_)))))
    obtain rfl := someI i
    exact s3 _ _ _ rfl ⟨_, _, _, _, _, _, rfl, rfl, t5, t6, t7, t8, t9, u0, u1, u2, u3, u4, rfl, b⟩
   rcases iteS k with ⟨e5, k⟩ | ⟨e5, k⟩
   ·refine condT e0 e5 ?_
    obtain ⟨u6, e6, k⟩ := bs k
    obtain ⟨u7, e7, k⟩ := bs k
    refine joinN (n := 119) (fun f w => ∃ (e8 e9 : Hdr), f 2 = (pB t) ∧ f 5 = j.v ∧ f 6 = h.v ∧ f 7 = (pB u) ∧ f 9 = iV O ∧ f 33 = h.v ∧ f 34 = iV (c.length : Int) ∧ f 35 = iV D ∧ f 39 = j.v ∧ f 40 = iV (g.length : Int) ∧ f 41 = iV o ∧ St w0 ros (box t 27 [r.v] :: row 3 I1 j.v g :: row 3 I1 h.v c :: row 3 I1 m.v G :: row 3 I1 e8.v u6 :: row 45 (rI .u64) e9.v u7 :: box u 51 [iV (g.length : Int), iV (c.length : Int), m.v, e8.v, e9.v] :: rs) w) (fun f0 => ?_) ?_
    ·refine dR [0, 1, 0, 4, 15, 0, 32, 0, 255, 127, 1023, 2047, 4095] [3, 4, 7, 8, 10, 12] 6 folM ?_
     replace b := b.drew
     refine Dn [0, 1, 2, 5, 6] [] [3, 7] (yR rfl (yFb FL_51_3 (eh d)) (yR rfl (lb_ E.v O_22 e0 b R6) (yR rfl (m_ (iV o) e0) (yR rfl (yFb FL_51_4 (eh d)) (yR rfl (lb_ q.v O_49 e0 b R6) (Rn QSn ?_))))))
     refine Lc rfl ?_ (Lc1 rfl ?_)
     ·refine LH wn (rLt (n := 1) (l := [o]) b SL_22 [iV o] (bp1 e0) rfl rfl (mks1 (cs := [iV o]) rfl mkI mks0)) ?_
      intro u8 w b
      refine Dn [] [0, 1, 5, 6] [4, 7] (Rn (yS rfl (yFb FL_51_3 (eh d)) (yS rfl (lb_ E.v O_22 e0 b R7) (yS rfl (yFb FL_51_4 (eh d)) (yS rfl (lb_ q.v O_49 e0 b R7) QSn)))) ?_)
      refine Lc rfl ?_ (Lc1 rfl ?_)
      ·replace b := b.pk 6 [5, 0, 0, 0, 0, 0] rfl
       refine LH wn (rAp b SL_22 e0 e0 rO1 e6) ?_
       intro F w b
       refine Dn [9] [5, 6] [7] (yR rfl (yFb FL_51_3 (eh d)) (Rn (yS rfl (yFb FL_51_4 (eh d)) (yS rfl (lb_ q.v O_49 e0 b R7) QSn)) ?_))
       refine Lc1 rfl ?_
       refine LH wn (rLt (n := 1) (l := [4607182418800017408]) b SL_49 [.int .u64 4607182418800017408] (bp1 rfl) rfl rfl (mks1 (cs := [.int .u64 4607182418800017408]) rfl mkI mks0)) ?_
       intro i6 w b
       refine Dn [] [5, 6, 9] [8] (Rn (yS rfl (yFb FL_51_4 (eh d)) (yS rfl (lb_ q.v O_49 e0 b R8) (yS rfl (yFb FL_51_3 (eh d)) QSn))) ?_)
       refine Lc1 rfl ?_
       replace b := b.pk 8 [7, 0, 0, 0, 0, 0, 0, 0] rfl
       refine LH wn (rAp b SL_49 e0 e0 rO1 e7) ?_
       intro a4 w b
       refine Dn [] [9] [10] (Rn (yS rfl (yFb FL_51_3 (eh d)) QSn) ?_)
       refine Lc1 rfl ?_
       replace b := b.pk 9 [8, 0, 0, 0, 0, 0, 0, 0, 0] rfl
       refine LT wn (r_stb1 (vals' := [iV (g.length : Int), iV (c.length : Int), m.v, F.v, q.v]) b O_22 e0 e0 rfl rfl rfl rfl) ?_
       intro w b
       refine Dn [11] [] [12] (yR rfl (yFb FL_51_4 (eh d)) (Rn QSn ?_))
       refine Lc1 rfl ?_
       refine LT wn (r_stb1 (vals' := [iV (g.length : Int), iV (c.length : Int), m.v, F.v, a4.v]) b O_49 e0 e0 rfl rfl rfl rfl) ?_
       intro w b
       exact Dz [] [] (Rn QSn (f0 _ _ ⟨_, _, K, S, T, d, U, V, W, X, Z, a0, H, ((b.pk 9 [5, 5, 5, 5, 3, 1, 0] rfl).facts (allT (allT allI)))⟩))
      ·refine LH wn (rLt (n := 1) (l := [4607182418800017408]) b SL_49 [.int .u64 4607182418800017408] (bp1 rfl) rfl rfl (mks1 (cs := [.int .u64 4607182418800017408]) rfl mkI mks0)) ?_
       intro i6 w b
       refine Dn [] [0, 1, 5, 6] [4] (Rn (yS rfl (yFb FL_51_3 (eh d)) (yS rfl (lb_ E.v O_22 e0 b R8) (yS rfl (yFb FL_51_4 (eh d)) (yS rfl (lb_ q.v O_49 e0 b R8) QSn)))) ?_)
       refine Lc1 rfl ?_
       replace b := b.pk 7 [6, 0, 0, 0, 0, 0, 0] rfl
       refine LH wn (rAp b SL_22 e0 e0 rO2 e6) ?_
       intro F w b
       refine Dn [9] [5, 6] [8] (yR rfl (yFb FL_51_3 (eh d)) (Rn (yS rfl (yFb FL_51_4 (eh d)) (yS rfl (lb_ q.v O_49 e0 b R8) QSn)) ?_))
       refine Lc1 rfl ?_
       replace b := b.pk 8 [7, 0, 0, 0, 0, 0, 0, 0] rfl
       refine LH wn (rAp b SL_49 e0 e0 rO2 e7) ?_
       intro a4 w b
       refine Dn [] [9] [10] (Rn (yS rfl (yFb FL_51_3 (eh d)) QSn) ?_)
       refine Lc1 rfl ?_
       replace b := b.pk 9 [8, 0, 0, 0, 0, 0, 0, 0, 0] rfl
       refine LT wn (r_stb1 (vals' := [iV (g.length : Int), iV (c.length : Int), m.v, F.v, q.v]) b O_22 e0 e0 rfl rfl rfl rfl) ?_
       intro w b
       refine Dn [11] [] [12] (yR rfl (yFb FL_51_4 (eh d)) (Rn QSn ?_))
       refine Lc1 rfl ?_
       refine LT wn (r_stb1 (vals' := [iV (g.length : Int), iV (c.length : Int), m.v, F.v, a4.v]) b O_49 e0 e0 rfl rfl rfl rfl) ?_
       intro w b
       exact Dz [] [] (Rn QSn (f0 _ _ ⟨_, _, K, S, T, d, U, V, W, X, Z, a0, H, ((b.pk 9 [5, 5, 5, 5, 2, 1, 0] rfl).facts (allT (allT allI)))⟩))
     ·refine LH wn (rLt (n := 1) (l := [4607182418800017408]) b SL_49 [.int .u64 4607182418800017408] (bp1 rfl) rfl rfl (mks1 (cs := [.int .u64 4607182418800017408]) rfl mkI mks0)) ?_
      intro i6 w b
      refine Dn [] [0, 1, 2, 5, 6] [3] (Rn (yS rfl (yFb FL_51_3 (eh d)) (yS rfl (lb_ E.v O_22 e0 b R7) (yS rfl (m_ (iV o) e0) (yS rfl (yFb FL_51_4 (eh d)) (yS rfl (lb_ q.v O_49 e0 b R7) QSn))))) ?_)
      refine Lc1 rfl ?_
      refine LH wn (rLt (n := 1) (l := [o]) b SL_22 [iV o] (bp1 e0) rfl rfl (mks1 (cs := [iV o]) rfl mkI mks0)) ?_
      intro u8 w b
      refine Dn [] [0, 1, 5, 6] [4] (Rn (yS rfl (yFb FL_51_3 (eh d)) (yS rfl (lb_ E.v O_22 e0 b R8) (yS rfl (yFb FL_51_4 (eh d)) (yS rfl (lb_ q.v O_49 e0 b R8) QSn)))) ?_)
      refine Lc1 rfl ?_
      replace b := b.pk 7 [6, 0, 0, 0, 0, 0, 0] rfl
      refine LH wn (rAp b SL_22 e0 e0 rO1 e6) ?_
      intro F w b
      refine Dn [9] [5, 6] [8] (yR rfl (yFb FL_51_3 (eh d)) (Rn (yS rfl (yFb FL_51_4 (eh d)) (yS rfl (lb_ q.v O_49 e0 b R8) QSn)) ?_))
      refine Lc1 rfl ?_
      replace b := b.pk 8 [7, 0, 0, 0, 0, 0, 0, 0] rfl
      refine LH wn (rAp b SL_49 e0 e0 rO3 e7) ?_
      intro a4 w b
      refine Dn [] [9] [10] (Rn (yS rfl (yFb FL_51_3 (eh d)) QSn) ?_)
      refine Lc1 rfl ?_
      replace b := b.pk 9 [8, 0, 0, 0, 0, 0, 0, 0, 0] rfl
      refine LT wn (r_stb1 (vals' := [iV (g.length : Int), iV (c.length : Int), m.v, F.v, q.v]) b O_22 e0 e0 rfl rfl rfl rfl) ?_
      intro w b
      refine Dn [11] [] [12] (yR rfl (yFb FL_51_4 (eh d)) (Rn QSn ?_))
      refine Lc1 rfl ?_
      refine LT wn (r_stb1 (vals' := [iV (g.length : Int), iV (c.length : Int), m.v, F.v, a4.v]) b O_49 e0 e0 rfl rfl rfl rfl) ?_
      intro w b
      exact Dz [] [] (Rn QSn (f0 _ _ ⟨_, _, K, S, T, d, U, V, W, X, Z, a0, H, ((b.pk 9 [5, 5, 5, 5, 2, 1, 0] rfl).facts (allT (allT allI)))⟩))
    rintro f w ⟨e8, e9, u9, v0, v1, v2, v3, v4, v5, v6, v7, v8, v9, b⟩
    exact i5 _ _ _ _ _ _ u9 v0 v1 v2 v3 v4 v5 v6 v7 v8 v9 b k
   ·exact condF e0 (bfalse e5) (wp_skip (i5 _ _ _ _ _ _ K S T d U V W X Z a0 H (b.facts (allT (allT allI))) k))
  ·refine cF e0 d9 (wp_exit (s7 _ _ _ rfl ?_))
   obtain rfl := someI k
   exact s4 _ _ _ _ rfl rfl (r0 _ _ _ _ _ _ K S T d V W X b (s2 _ rfl))
 ·refine cF e0 d5 (wp_exit (p8 _ _ _ rfl ?_))
  obtain rfl := someI B
  exact p5 _ _ _ _ rfl rfl (j8 _ _ _ _ _ _ _ _ h3 d3 h5 h6 b (p3 _ rfl))
theorem dissect_separate_ok {z : L2} {p : Hdr} {out : LI × LI × LI} (g : dissect_separate z = some out) (G : imm S1 p.v z ∈ ros) (b : St w0 ros rs w) :
  Calls Try.prog 31 #[.agg #[p.v]] w (fun e w => ∃ (a6 a7 a8 : Hdr), e = .returned (.agg #[a6.v, a7.v, a8.v]) ∧ St w0 ros (row 3 I1 a6.v out.1 :: row 3 I1 a7.v out.2.1 :: row 3 I1 a8.v out.2.2 :: rs) w) := by
 refine enterQ Try.func31 rfl Try.ntmps31 rfl fun Q b8 => sR fun _ b9 => YB wn rfl (r_box (vals := [p.v]) b e0 rfl) ?_
 intro g8 w b
 refine YB wn rfl (rAl b ZT_38) ?_
 intro j w b
 refine wK b9 (sR fun _ c0 => yY (lbs_ [p.v] ST_27 e0 b R1) ?_)
 obtain ⟨g9, c1, g⟩ := bs g
 refine Yc wn rfl (yCall FN_49 (a1 e0)) (dissect_units_ok c1 G b) ?_
 rintro _ w ⟨h0, h1, h3, rfl, b⟩
 refine ⟨_, rfl, ?_⟩
 obtain ⟨q, c2, g⟩ := bs g
 replace b := b.fz
 replace b := b.fz
 refine Yc wn rfl (yCall FN_32 (a1 e0)) (dissect_bisect_ok c2 F2 F1 F0 b) ?_
 rintro _ w ⟨h, rfl, b⟩
 refine ⟨_, rfl, ?_⟩
 refine Ym (.tuple #[h.v, .bool q.2]) e0 (yY (x_ h.v e0) (yY (x_ (.bool q.2) e0) (Ya h.v e0 (Ya (.bool q.2) e0 (wK c0 (sR fun _ c3 => yY (lbs_ [p.v] ST_27 e0 b R2) (Ym h.v e0 ?_)))))))
 obtain ⟨H, c4, g⟩ := bs g
 replace b := b.fz
 refine Yc wn rfl (yCall FN_50 (a2 e0 e0)) (dissect_cover_ok c4 (F_4 G) F0 b) ?_
 rintro _ w ⟨k, rfl, b⟩
 refine ⟨_, rfl, ?_⟩
 refine Ya k.v e0 (wK c3 (sR fun _ c5 => YB wn rfl (rAl b ZT_38) ?_))
 intro m w b
 refine wK c5 (sQ fun _ c6 => sR fun _ c7 => yY (yFb FL_27_0 e0) (yY (lb_ p.v O_25 e0 b R3) (yY (yLen SL_25 e0 b (rdI (F_4 G))) (Ym (iV 0) rfl (wK c7 (blockQ fun c8 c9 => ?_))))))
 obtain ⟨d0, d1, g⟩ := bs g
 have d2 : ∀ (I J K : LI) (r t u : Hdr) (f : FV) (w : World), f 2 = (pB j) → f 6 = (pB m) → St w0 ros (box j 38 [hnil.v, hnil.v, hnil.v] :: row 3 I1 r.v I :: row 3 I1 t.v J :: row 3 I1 u.v K :: box m 38 [r.v, t.v, u.v] :: rs) w → (I, J, K) = d0 → c8 (.exit 0) (fr 54 f) w := by
  intro I J K r t u f w a9 d3 b ho
  subst ho
  refine c9 _ _ _ (c6 _ _ (sR fun _ d4 => yY (lbs_ [r.v, t.v, u.v] ST_38 (eh d3) b R4) (YT wn rfl (r_stbn (vals' := [r.v, t.v, u.v]) (us := [r.v, t.v, u.v]) b ST_38 (eh a9) e0 rfl rfl (one_of rfl) rfl) ?_)))
  intro w b
  refine wK d4 (wp_ret ?_)
  obtain rfl := someI g
  exact b8 _ _ _ (fin1r Try.results31 (rcs2 rfl a9 b R0 ST_38 rfl) ⟨_, _, _, rfl, (b.pk 5 [1, 1, 1] rfl)⟩)
 replace b := b.rowNh 3 I1
 replace b := b.rowNh 3 I1
 replace b := b.rowNh 3 I1
 refine loopQ (fun s a w => ∃ (L N A : LI) (c : Int) (f : FV) (x y o : Hdr), (L, N, A, c) = s ∧ a = fr 54 f ∧ f 2 = (pB j) ∧ f 3 = h.v ∧ f 5 = k.v ∧ f 6 = (pB m) ∧ f 19 = iV (z.length : Int) ∧ f 20 = iV c ∧ St w0 (imm I1 h.v q.1 :: ros) (box j 38 [hnil.v, hnil.v, hnil.v] :: row 4 rB k.v H :: row 3 I1 x.v L :: row 3 I1 y.v N :: row 3 I1 o.v A :: box m 38 [x.v, y.v, o.v] :: rs) w) d1 ⟨_, _, _, _, _, _, _, _, rfl, rfl, rfl, rfl, rfl, rfl, rfl, rfl, ((b.pk 7 [5, 4, 2, 1, 0, 0] rfl).facts (allC F0 (allT (allT (allT (allT allI))))))⟩ ?_
 rintro _ _ w b0 ⟨L, N, A, c, f, x, y, o, rfl, rfl, C, D, E, i, F, B, b⟩ d d5 h4 d6 d7
 refine sR fun _ d8 => yY (ylss (eh B) (eh F)) (wK d8 (seqQ fun h5 d9 e1 => ?_))
 rcases iteS d with ⟨O, d⟩ | ⟨O, d⟩
 ·refine cT e0 O (wp_skip (d9 _ _ (sQ fun _ e2 => blockQ fun _ e3 => sR fun _ e4 => Ym (iV c) (eh B) (Ya (iV c) e0 (wK e4 (blockQ fun b1 e5 => sR fun _ e6 => ?_))))))
  refine Ym k.v (eh E) (Ym (iV c) e0 ?_)
  obtain ⟨e7, b2, d⟩ := bs d
  refine yY (yIa SL_67 e0 e0 b rO1 b2) (yY (yB O_4 e0 b rO1 b2) (Ya (.bool e7) e0 (wK e6 ?_)))
  have b5 : ∀ (R S T : LI) (U V W : Hdr) (f : FV) (w : World), f 2 = (pB j) → f 3 = h.v → f 5 = k.v → f 6 = (pB m) → f 19 = iV (z.length : Int) → f 20 = iV c → St w0 (imm I1 h.v q.1 :: ros) (box j 38 [hnil.v, hnil.v, hnil.v] :: row 4 rB k.v H :: row 3 I1 U.v R :: row 3 I1 V.v S :: row 3 I1 W.v T :: box m 38 [U.v, V.v, W.v] :: rs) w → dissect_separate_j9 c R S T = some b0 → b1 .normal (fr 54 f) w := by
   intro R S T U V W f w e8 e9 f0 f1 f2 f3 b g
   refine e5 _ _ _ (e3 _ _ _ (e2 _ _ (wR (yY (yadd (eh f3) rfl) (Ym (iV (wa .i64 c 1)) e0 (wN ?_))))))
   obtain rfl := someI g
   exact d6 _ _ _ rfl ⟨_, _, _, _, _, _, _, _, rfl, rfl, e8, e9, f0, f1, f2, rfl, b⟩
  rcases iteS d with ⟨X, d⟩ | ⟨X, d⟩
  ·refine condT e0 X (wR (yY (yFb FL_38_2 (eh i)) (yY (lb_ o.v O_22 e0 b R5) (Ym (iV c) e0 (YH wn rfl (rLt (n := 1) (l := [c]) b SL_22 [iV c] (bp1 e0) rfl rfl (mks1 (cs := [iV c]) rfl mkI mks0)) ?_)))))
   intro h9 w b
   obtain ⟨i0, f4, d⟩ := bs d
   replace b := b.pk 6 [5, 0, 0, 0, 0, 0] rfl
   refine YH wn rfl (rAp b SL_22 e0 e0 rO1 f4) ?_
   intro f5 w b
   refine yY (yFb FL_38_2 (eh i)) ?_
   replace b := b.pk 7 [6, 0, 0, 0, 0, 0, 0] rfl
   refine YT wn rfl (r_stb1 (vals' := [x.v, y.v, f5.v]) b O_22 e0 e0 rfl rfl rfl rfl) ?_
   intro w b
   exact wN (b5 _ _ _ _ _ _ _ _ C D E i F B (b.pk 7 [3, 3, 3, 3, 1, 0] rfl) d)
  ·refine condF e0 (bfalse X) (sR fun _ f6 => Ym h.v (eh D) (Ym (iV c) e0 ?_))
   obtain ⟨f7, b6, d⟩ := bs d
   refine yY (yIa SL_22 e0 e0 b (rdI F0) b6) (yY (yI O_3 e0 b (rdI F0) b6) (yY (yeql e0 rfl) (Ya (.bool (decide (f7 = 0))) e0 (wK f6 ?_))))
   have b7 : ∀ (Z a0 : LI) (a3 a4 : Hdr) (f : FV) (w : World), f 2 = (pB j) → f 3 = h.v → f 5 = k.v → f 6 = (pB m) → f 19 = iV (z.length : Int) → f 20 = iV c → St w0 (imm I1 h.v q.1 :: ros) (box j 38 [hnil.v, hnil.v, hnil.v] :: row 4 rB k.v H :: row 3 I1 a3.v Z :: row 3 I1 a4.v a0 :: row 3 I1 o.v A :: box m 38 [a3.v, a4.v, o.v] :: rs) w → dissect_separate_j10 c A Z a0 = some b0 → b1 .normal (fr 54 f) w := by
    intro Z a0 a3 a4 f w f8 f9 g0 g1 g2 g3 b g
    exact b5 _ _ _ _ _ _ _ _ f8 f9 g0 g1 g2 g3 b g
   rcases iteS d with ⟨a5, d⟩ | ⟨a5, d⟩
   ·refine cT e0 a5 (wR (yY (yFb FL_38_0 (eh i)) (yY (lb_ x.v O_22 e0 b R5) (Ym (iV c) e0 (YH wn rfl (rLt (n := 1) (l := [c]) b SL_22 [iV c] (bp1 e0) rfl rfl (mks1 (cs := [iV c]) rfl mkI mks0)) ?_)))))
    intro i1 w b
    obtain ⟨i2, g4, d⟩ := bs d
    replace b := b.pk 4 [3, 0, 0, 0] rfl
    refine YH wn rfl (rAp b SL_22 e0 e0 rO1 g4) ?_
    intro g5 w b
    refine yY (yFb FL_38_0 (eh i)) ?_
    replace b := b.pk 7 [6, 0, 0, 0, 0, 0, 0] rfl
    refine YT wn rfl (r_stb1 (vals' := [g5.v, y.v, o.v]) b O_22 e0 e0 rfl rfl rfl rfl) ?_
    intro w b
    exact wN (b7 _ _ _ _ _ _ C D E i F B (b.pk 7 [3, 3, 1, 2, 2, 0] rfl) d)
   ·refine cF e0 a5 (wR (yY (yFb FL_38_1 (eh i)) (yY (lb_ y.v O_22 e0 b R5) (Ym (iV c) e0 (YH wn rfl (rLt (n := 1) (l := [c]) b SL_22 [iV c] (bp1 e0) rfl rfl (mks1 (cs := [iV c]) rfl mkI mks0)) ?_)))))
    intro i3 w b
    obtain ⟨i4, g6, d⟩ := bs d
    replace b := b.pk 5 [4, 0, 0, 0, 0] rfl
    refine YH wn rfl (rAp b SL_22 e0 e0 rO1 g6) ?_
    intro g7 w b
    refine yY (yFb FL_38_1 (eh i)) ?_
    replace b := b.pk 7 [6, 0, 0, 0, 0, 0, 0] rfl
    refine YT wn rfl (r_stb1 (vals' := [x.v, g7.v, o.v]) b O_22 e0 e0 rfl rfl rfl rfl) ?_
    intro w b
    exact wN (b7 _ _ _ _ _ _ C D E i F B (b.pk 7 [3, 3, 3, 1, 2, 0] rfl) d)
 ·refine cF e0 O (wp_exit (e1 _ _ _ rfl ?_))
  obtain rfl := someI d
  exact d7 _ _ _ _ rfl rfl (d2 _ _ _ _ _ _ _ _ C i ((b.pk 6 [0, 1, 1, 1, 1] rfl).facts (allT allI)) (d5 _ rfl))
theorem dissect_Separate_ok {g : L2} {c : Hdr} {out : LI × LI × LI × Int} (b : dissect_Separate g = some out) (h : imm S1 c.v g ∈ ros) (a : St w0 ros rs w) :
  Calls Try.prog 13 #[.agg #[c.v]] w (fun e w => ∃ (i j k : Hdr), e = .returned (.tuple #[.agg #[i.v, j.v, k.v], iV out.2.2.2]) ∧ St w0 ros (row 3 I1 i.v out.1 :: row 3 I1 j.v out.2.1 :: row 3 I1 k.v out.2.2.1 :: rs) w) := by
 refine enterQ Try.func13 rfl Try.ntmps13 rfl fun Q l => sR fun _ p => YB wn rfl (r_box (vals := [c.v]) a e0 rfl) ?_
 intro A w a
 refine YB wn rfl (rAl a ZT_38) ?_
 intro B w a
 refine Ya (iV 0) rfl (wK p (sR fun _ q => yY (lbs_ [c.v] ST_27 e0 a R1) ?_))
 obtain ⟨d, r, b⟩ := bs b
 refine Yc wn rfl (yCall FN_30 (a1 e0)) (graph_Check_ok r h a) ?_
 rintro _ w ⟨rfl, a⟩
 refine ⟨_, rfl, ?_⟩
 refine Ya (iV d) e0 (wK q (seqQ fun C s t => sR fun _ u => Ym (iV d) e0 (yY (yneq e0 rfl) (wK u ?_))))
 rcases iteS b with ⟨f, b⟩ | ⟨f, b⟩
 ·refine condF e0 (nF (dT f)) (wp_skip (s _ _ (sR fun _ x => yY (lbs_ [c.v] ST_27 e0 a R1) ?_)))
  obtain ⟨D, y, b⟩ := bs b
  refine Yc wn rfl (yCall FN_31 (a1 e0)) (dissect_separate_ok y h a) ?_
  rintro _ w ⟨m, n, o, rfl, a⟩
  refine ⟨_, rfl, ?_⟩
  replace a := a.pk 4 [3, 0, 0, 0] rfl
  refine YT wn rfl (r_stbn (vals' := [m.v, n.v, o.v]) (us := [m.v, n.v, o.v]) a ST_38 e0 e0 rfl rfl (one_of rfl) rfl) ?_
  intro w a
  refine Ya (iV 0) rfl (wK x (wp_ret ?_))
  obtain rfl := someI b
  exact l _ _ _ (fin2r Try.results13 (rcs2 rfl rfl a R0 ST_38 rfl) ⟨rfl, rfl⟩ ⟨_, _, _, rfl, (a.pk 5 [1, 1, 1] rfl)⟩)
 ·refine condT e0 (nT (dF f)) (sR fun _ z => yY (ybuild (us := [hnil.v, hnil.v, hnil.v]) [] SO_38 bp0 rfl) (Ym (iV d) e0 (YT wn rfl (r_stbn (vals' := [hnil.v, hnil.v, hnil.v]) (us := [hnil.v, hnil.v, hnil.v]) a ST_38 e0 e0 rfl rfl (one_of rfl) rfl) ?_)))
  intro w a
  refine Ya (iV d) e0 (wK z (wp_ret (t _ _ _ rfl ?_)))
  obtain rfl := someI b
  replace a := a.rowNh 3 I1
  replace a := a.rowNh 3 I1
  replace a := a.rowNh 3 I1
  exact l _ _ _ (fin2r Try.results13 (rcs2 rfl rfl a R3 ST_38 rfl) ⟨rfl, rfl⟩ ⟨_, _, _, rfl, (a.pk 5 [2, 1, 0] rfl)⟩)
theorem sparsekit_Ints_ok {r t : LI} {h i : Hdr} {out : Bool} (d : sparsekit_Ints r t = some out) (j : imm I1 h.v r ∈ ros) (l : imm I1 i.v t ∈ ros) (b : St w0 ros rs w) :
  Calls Try.prog 44 #[h.v, i.v] w (fun e w => e = .returned (.bool out) ∧ St w0 ros rs w) := by
 refine enterQ Try.func44 rfl Try.ntmps44 rfl fun Q m => sR fun _ F => Ya (.bool false) rfl (wK F (seqQ fun a4 G H => sR fun _ I => Ym h.v e0 (yY (yLen SL_22 e0 b (rdI j)) (Ym i.v e0 (yY (yLen SL_22 e0 b (rdI l)) (yY (yneq e0 e0) ?_))))))
 refine wK I ?_
 rcases iteS d with ⟨n, d⟩ | ⟨n, d⟩
 ·refine condF e0 (nF (dT n)) (wp_skip (G _ _ (seqQ fun a5 J K => sR fun _ L => Ya (iV 0) rfl (wK L (blockQ fun u x => ?_)))))
  obtain ⟨y, N, d⟩ := bs d
  have O : ∀ (f : FV) (w : World), St w0 ros rs w → .inl () = y → u (.exit 0) (fr 26 f) w := by
   intro f w b ho
   subst ho
   refine x _ _ _ (J _ _ (sR fun _ R => Ya (.bool true) rfl (wK R (wp_ret ?_))))
   obtain rfl := someI d
   exact m _ _ _ (fin1r Try.results44 ⟨rfl, rfl⟩ ⟨rfl, b⟩)
  have S : ∀ (f : FV) (w : World), f 4 = .bool false → St w0 ros rs w → .inr () = y → u .ret (fr 26 f) w := by
   intro f w T b ho
   subst ho
   refine x _ _ _ (K _ _ _ rfl ?_)
   obtain rfl := someI d
   exact m _ _ _ (fin1r Try.results44 ⟨rfl, T⟩ ⟨rfl, b⟩)
  refine loopQ (fun s a w => ∃ (g : Int) (f : FV), g = s ∧ a = fr 26 f ∧ f 0 = h.v ∧ f 1 = i.v ∧ f 5 = iV g ∧ St w0 ros rs w) N ⟨_, _, rfl, rfl, rfl, rfl, rfl, b⟩ ?_
  rintro _ _ w a6 ⟨g, f, rfl, rfl, o, z, k, b⟩ c A a7 U B
  refine seqQ fun a8 V W => sR fun _ X => Ym (iV g) (eh k) (Ym h.v (eh o) (yY (yLen SL_22 e0 b (rdI j)) (yY (ylss e0 e0) (wK X ?_))))
  rcases iteS c with ⟨p, c⟩ | ⟨p, c⟩
  ·refine cT e0 p (wp_skip (V _ _ (seqQ fun a9 Z a0 => blockQ fun _ C => sQ fun _ a1 => ?_)))
   obtain ⟨b0, D, c⟩ := bs c
   obtain ⟨b1, E, c⟩ := bs c
   refine dR [0, 0, 3, 7, 0, 0, 48, 112, 255] [] 0 folM ?_
   replace b := b.drew
   refine Dz [0, 1, 2, 3, 4, 5, 6, 7, 8] [] (yR rfl (m_ h.v (eh o)) (yR rfl (m_ (iV g) (eh k)) (yR rfl (yIa SL_22 e0 e0 b (rdI j) D) (yR rfl (yI O_3 e0 b (rdI j) D) (yR rfl (m_ i.v (eh z)) (yR rfl (m_ (iV g) (eh k)) (yR rfl (yIa SL_22 e0 e0 b (rdI l) E) (yR rfl (yI O_3 e0 b (rdI l) E) (yR rfl (yneq e0 e0) (Rn QSn (a1 _ _ ?_)))))))))))
   rcases iteS c with ⟨q, c⟩ | ⟨q, c⟩
   ·refine condF e0 (nF (dT q)) (wp_skip (C _ _ _ (Z _ _ (wR (Ym (iV g) (eh k) (yY (yadd e0 rfl) (Ya (iV (wa .i64 g 1)) e0 (wN ?_))))))))
    obtain rfl := someI c
    exact U _ _ _ rfl ⟨_, _, rfl, rfl, o, z, rfl, b⟩
   ·refine condT e0 (nT (dF q)) (sR fun _ a2 => Ya (.bool false) rfl (wK a2 (wp_ret (C _ _ _ (a0 _ _ _ rfl ?_)))))
    obtain rfl := someI c
    exact B _ _ _ _ rfl rfl (S _ _ rfl b (A _ rfl))
  ·refine cF e0 p (wp_exit (W _ _ _ rfl ?_))
   obtain rfl := someI c
   exact B _ _ _ _ rfl rfl (O _ _ b (A _ rfl))
 ·refine condT e0 (nT (dF n)) (sR fun _ a3 => Ya (.bool false) rfl (wK a3 (wp_ret (H _ _ _ rfl ?_))))
  obtain rfl := someI d
  exact m _ _ _ (fin1r Try.results44 ⟨rfl, rfl⟩ ⟨rfl, b⟩)
theorem sparsekit_Split_ok {o p q r s t : LI} {i j k l m n : Hdr} {out : Bool} (d : sparsekit_Split o p q r s t = some out) (C : imm I1 i.v o ∈ ros) (D : imm I1 j.v p ∈ ros) (E : imm I1 k.v q ∈ ros) (F : imm I1 l.v r ∈ ros) (G : imm I1 m.v s ∈ ros) (H : imm I1 n.v t ∈ ros) (a : St w0 ros rs w) :
  Calls Try.prog 26 #[.agg #[i.v, j.v, k.v], .agg #[l.v, m.v, n.v]] w (fun e w => e = .returned (.bool out) ∧ St w0 ros rs w) := by
 refine enterQ Try.func26 rfl Try.ntmps26 rfl fun Q I => sR fun _ J => YB wn rfl (r_box (vals := [i.v, j.v, k.v]) a e0 rfl) ?_
 intro u w a
 refine YB wn rfl (r_box (vals := [l.v, m.v, n.v]) a e0 rfl) ?_
 intro x w a
 refine Ya (.bool false) rfl (wK J (sR fun _ K => yY (yFb FL_38_0 e0) (yY (lb_ i.v O_22 e0 a R1) (yY (yFb FL_38_0 e0) (yY (lb_ l.v O_22 e0 a R0) ?_)))))
 obtain ⟨L, N, d⟩ := bs d
 refine Yc wn rfl (yCall FN_44 (a2 e0 e0)) (sparsekit_Ints_ok N C F a) ?_
 rintro _ w ⟨rfl, a⟩
 refine ⟨_, rfl, ?_⟩
 refine Ym (.bool L) e0 ?_
 obtain ⟨y, g, d⟩ := bs d
 refine joinW 6 (fun f w => f 2 = (pB u) ∧ f 3 = (pB x) ∧ f 16 = .bool y ∧ St w0 ros (box u 38 [i.v, j.v, k.v] :: box x 38 [l.v, m.v, n.v] :: rs) w) (fun z => ?_) ?_
 ·rcases iteS g with ⟨b, g⟩ | ⟨b, g⟩
  ·refine yG b (yFb FL_38_1 e0) (yG b (lb_ j.v O_22 e0 a R1) (yG b (yFb FL_38_1 e0) (yG b (lb_ m.v O_22 e0 a R0) ?_)))
   obtain ⟨O, R, g⟩ := bs g
   refine Yc (wG b) rfl (yCall FN_44 (a2 e0 e0)) (sparsekit_Ints_ok R D G a) ?_
   rintro _ w ⟨rfl, a⟩
   refine ⟨_, rfl, ?_⟩
   refine yY (pt_ (.bool O) e0 b e0) ?_
   obtain rfl := someI g
   exact z _ _ ⟨rfl, rfl, rfl, (a.pk 2 [1, 0] rfl)⟩
  ·refine gN (bfalse b) (gN (bfalse b) (gN (bfalse b) (gN (bfalse b) (gN (bfalse b) (yY (pf_ (.bool false) e0 (bfalse b) rfl) ?_)))))
   obtain rfl := someI g
   exact z _ _ ⟨rfl, rfl, rfl, (a.pk 2 [1, 0] rfl)⟩
 rintro f w ⟨S, T, U, a⟩
 refine Ym (.bool y) (eh U) ?_
 obtain ⟨A, h, d⟩ := bs d
 refine joinW 6 (fun f w => f 23 = .bool A ∧ St w0 ros rs w) (fun B => ?_) ?_
 ·rcases iteS h with ⟨c, h⟩ | ⟨c, h⟩
  ·refine yG c (yFb FL_38_2 (eh S)) (yG c (lb_ k.v O_22 e0 a R0) (yG c (yFb FL_38_2 (eh T)) (yG c (lb_ n.v O_22 e0 a R1) ?_)))
   obtain ⟨V, W, h⟩ := bs h
   refine Yc (wG c) rfl (yCall FN_44 (a2 e0 e0)) (sparsekit_Ints_ok W E H a) ?_
   rintro _ w ⟨rfl, a⟩
   refine ⟨_, rfl, ?_⟩
   refine yY (pt_ (.bool V) e0 c e0) ?_
   obtain rfl := someI h
   exact B _ _ ⟨rfl, (a.pk 2 [] rfl)⟩
  ·refine gN (bfalse c) (gN (bfalse c) (gN (bfalse c) (gN (bfalse c) (gN (bfalse c) (yY (pf_ (.bool false) e0 (bfalse c) rfl) ?_)))))
   obtain rfl := someI h
   exact B _ _ ⟨rfl, (a.pk 2 [] rfl)⟩
 rintro f w ⟨X, a⟩
 refine Ya (.bool A) (eh X) (wK K (wp_ret ?_))
 obtain rfl := someI d
 exact I _ _ _ (fin1r Try.results26 ⟨rfl, rfl⟩ ⟨rfl, a⟩)
theorem dissect_parts_ok {g : Int} {r : L2} {o : Hdr} {out : LI × Bool} (x : dissect_parts g r = some out) (F : imm S1 o.v r ∈ ros) (b : St w0 ros rs w) :
  Calls Try.prog 45 #[iV g, o.v] w (fun e w => ∃ (a1 : Hdr), e = .returned (.tuple #[a1.v, .bool out.2]) ∧ St w0 ros (row 3 I1 a1.v out.1 :: rs) w) := by
 refine enterQ Try.func45 rfl Try.ntmps45 rfl fun Q a3 => sR fun _ e2 => Ya hnil.v rfl (Ya (.bool false) rfl (wK e2 (sR fun _ e3 => YH wn rfl (rLt (n := 1) (l := [(-1)]) b SL_22 [iV (-1)] (bp1 rfl) rfl rfl (mks1 (cs := [iV (-1)]) rfl mkI mks0)) ?_)))
 intro l0 w b
 refine Ym (iV g) e0 ?_
 obtain ⟨l1, e4, x⟩ := bs x
 replace b := b.fz
 refine Yc wn rfl (yCall FN_46 (a2 e0 e0)) (slices_Repeat_int_ok e4 F0 b) ?_
 rintro _ w ⟨c, rfl, b⟩
 refine ⟨_, rfl, ?_⟩
 refine Ya c.v e0 (wK e3 (sR fun _ e5 => Ya (iV 0) rfl (wK e5 (seqQ fun l2 e6 e7 => sR fun _ e8 => Ym o.v e0 (yY (yLen SL_25 e0 b (rdI (mtF F))) (Ym (iV 0) rfl ?_))))))
 refine wK e8 (blockQ fun a4 a5 => ?_)
 obtain ⟨a6, e9, x⟩ := bs x
 have f0 : ∀ (G : LI) (A : Int) (f : FV) (w : World), f 0 = iV g → f 6 = c.v → f 7 = iV A → St w0 ros (row 3 I1 c.v G :: rs) w → .inl (G, A) = a6 → a4 (.exit 0) (fr 57 f) w := by
  intro G A f w f1 f2 f3 b ho
  subst ho
  refine a5 _ _ _ (e6 _ _ (sR fun _ f4 => Ym c.v (eh f2) (Ym (iV A) (eh f3) (Ym (iV g) (eh f1) (yY (yeql e0 e0) (Ya c.v e0 (Ya (.bool (decide (A = g))) e0 (wK f4 (wp_ret ?_)))))))))
  obtain rfl := someI x
  exact a3 _ _ _ (fin2r Try.results45 ⟨rfl, rfl⟩ ⟨rfl, rfl⟩ ⟨_, rfl, b⟩)
 have f5 : ∀ (f : FV) (w : World), f 4 = hnil.v → f 5 = .bool false → St w0 ros rs w → .inr () = a6 → a4 .ret (fr 57 f) w := by
  intro f w f6 f7 b ho
  subst ho
  refine a5 _ _ _ (e7 _ _ _ rfl ?_)
  obtain rfl := someI x
  replace b := b.rowNh 3 I1
  exact a3 _ _ _ (fin2r Try.results45 ⟨rfl, f6⟩ ⟨rfl, f7⟩ ⟨_, rfl, b⟩)
 refine loopQ (fun s a w => ∃ (H : LI) (I h : Int) (f : FV), (H, I, h) = s ∧ a = fr 57 f ∧ f 0 = iV g ∧ f 6 = c.v ∧ f 7 = iV I ∧ f 16 = o.v ∧ f 17 = iV (r.length : Int) ∧ f 18 = iV h ∧ St w0 ros (row 3 I1 c.v H :: rs) w) e9 ⟨_, _, _, _, rfl, rfl, rfl, rfl, rfl, rfl, rfl, rfl, (b.facts (allT allI))⟩ ?_
 rintro _ _ w l3 ⟨H, I, h, f, rfl, rfl, a7, a8, a9, b0, b1, C, b⟩ m b2 l4 f8 b3
 refine sR fun _ f9 => yY (ylss (eh C) (eh b1)) (wK f9 (seqQ fun l5 g0 g1 => ?_))
 rcases iteS m with ⟨J, m⟩ | ⟨J, m⟩
 ·refine cT e0 J (wp_skip (g0 _ _ (seqQ fun l6 g2 g3 => blockQ fun _ b4 => sR fun _ g4 => Ym (iV h) (eh C) ?_)))
  obtain ⟨y, b5, m⟩ := bs m
  refine yY (yIa SL_25 (eh b0) (eh C) b (rdI F) b5) ?_
  obtain ⟨p, b⟩ := iLs b F b5
  refine yY (yCt O_22 e0 b F1 rfl) (Ya (iV h) e0 (Ya p.v e0 (wK g4 (sR fun _ g5 => Ya (iV (-1)) rfl (wK g5 (sR fun _ g6 => Ym p.v e0 (yY (yLen SL_22 e0 b (rdI F0)) ?_)))))))
  refine Ym (iV 0) rfl (wK g6 (blockQ fun b6 b7 => ?_))
  obtain ⟨b8, g7, m⟩ := bs m
  have g8 : ∀ (K : LI) (L : Int) (f : FV) (w : World), f 0 = iV g → f 6 = c.v → f 7 = iV L → f 16 = o.v → f 17 = iV (r.length : Int) → f 18 = iV h → St w0 ros (row 3 I1 c.v K :: rs) w → .inl (K, L) = b8 → b6 (.exit 2) (fr 57 f) w := by
   intro K L f w g9 h0 h1 h2 h5 h7 b ho
   subst ho
   refine b7 _ _ _ (b4 _ _ _ (g2 _ _ (wR (yY (yadd (eh h7) rfl) (Ym (iV (wa .i64 h 1)) e0 (wN ?_))))))
   obtain rfl := someI m
   exact f8 _ _ _ rfl ⟨_, _, _, _, rfl, rfl, g9, h0, h1, h2, h5, rfl, b⟩
  have h8 : ∀ (f : FV) (w : World), f 4 = hnil.v → f 5 = .bool false → St w0 ros rs w → .inr () = b8 → b6 .ret (fr 57 f) w := by
   intro f w h9 i0 b ho
   subst ho
   refine b7 _ _ _ (b4 _ _ _ (g3 _ _ _ rfl ?_))
   obtain rfl := someI m
   exact b3 _ _ _ _ rfl rfl (f5 _ _ h9 i0 b (b2 _ rfl))
  refine loopQ (fun s a w => ∃ (B : LI) (t q z : Int) (f : FV), (B, t, q, z) = s ∧ a = fr 57 f ∧ f 0 = iV g ∧ f 6 = c.v ∧ f 7 = iV t ∧ f 8 = iV h ∧ f 10 = iV q ∧ f 16 = o.v ∧ f 17 = iV (r.length : Int) ∧ f 18 = iV h ∧ f 23 = p.v ∧ f 24 = iV (y.length : Int) ∧ f 25 = iV z ∧ St w0 (imm I1 p.v y :: ros) (row 3 I1 c.v B :: rs) w) g7 ⟨_, _, _, _, _, rfl, rfl, a7, a8, a9, rfl, rfl, b0, b1, C, rfl, rfl, rfl, (b.facts (allC F0 (allT (allT allI))))⟩ ?_
  rintro _ _ w l7 ⟨B, t, q, z, f, rfl, rfl, D, N, O, b9, i1, R, S, T, U, V, E, b⟩ i c0 l8 i2 c1
  refine sR fun _ i3 => yY (ylss (eh E) (eh V)) (wK i3 (seqQ fun l9 i4 i5 => ?_))
  rcases iteS i with ⟨W, i⟩ | ⟨W, i⟩
  ·refine cT e0 W (wp_skip (i4 _ _ (seqQ fun m0 i6 i7 => blockQ fun _ c2 => sR fun _ i8 => ?_)))
   obtain ⟨d, c3, i⟩ := bs i
   refine yY (yIa SL_22 (eh U) (eh E) b (rdI F0) c3) (yY (yI O_3 e0 b (rdI F0) c3) (Ya (iV d) e0 (wK i8 (seqQ fun m1 i9 j0 => sR fun _ j1 => Ym (iV d) e0 (Ym (iV q) (eh i1) (yY (yleq e0 e0) (Ym (.bool (decide (d ≤ q))) e0 ?_)))))))
   refine joinW 4 (fun f w => f 0 = iV g ∧ f 6 = c.v ∧ f 7 = iV t ∧ f 8 = iV h ∧ f 12 = iV d ∧ f 16 = o.v ∧ f 17 = iV (r.length : Int) ∧ f 18 = iV h ∧ f 23 = p.v ∧ f 24 = iV (y.length : Int) ∧ f 25 = iV z ∧ f 36 = .bool ((decide (d ≤ q)) || (decide (g ≤ d))) ∧ St w0 (imm I1 p.v y :: ros) (row 3 I1 c.v B :: rs) w) (fun c4 => ?_) ?_
   ·rcases Bool.eq_false_or_eq_true (decide (d ≤ q)) with k | k
    ·exact gN k (gN k (gN k (yY (pt_ (.bool true) e0 k rfl) (c4 _ _ ⟨D, N, O, b9, rfl, R, S, T, U, V, E, (congrArg Value.bool (orT k)), b⟩))))
    ·exact yG k (m_ (iV d) e0) (yG k (m_ (iV g) (eh D)) (yG k (ygeq e0 e0) (yY (pf_ (.bool (decide (g ≤ d))) e0 k e0) (c4 _ _ ⟨D, N, O, b9, rfl, R, S, T, U, V, E, (congrArg Value.bool (orF k)), b⟩))))
   rintro f w ⟨c5, X, c6, c7, Z, c8, c9, d0, d1, d2, d3, j2, b⟩
   refine Ym (.bool ((decide (d ≤ q)) || (decide (g ≤ d)))) (eh j2) ?_
   obtain ⟨j3, u, i⟩ := bs i
   refine joinW 6 (fun f w => f 0 = iV g ∧ f 6 = c.v ∧ f 7 = iV t ∧ f 8 = iV h ∧ f 12 = iV d ∧ f 16 = o.v ∧ f 17 = iV (r.length : Int) ∧ f 18 = iV h ∧ f 23 = p.v ∧ f 24 = iV (y.length : Int) ∧ f 25 = iV z ∧ f 43 = .bool j3 ∧ St w0 (imm I1 p.v y :: ros) (row 3 I1 c.v B :: rs) w) (fun d4 => ?_) ?_
   ·rcases iteS u with ⟨j, u⟩ | ⟨j, u⟩
    ·refine gN j (gN j (gN j (gN j (gN j (yY (pt_ (.bool true) e0 j rfl) ?_)))))
     obtain rfl := someI u
     exact d4 _ _ ⟨c5, X, c6, c7, Z, c8, c9, d0, d1, d2, d3, rfl, b⟩
    ·refine yG (bfalse j) (m_ c.v (eh X)) (yG (bfalse j) (m_ (iV d) (eh Z)) ?_)
     obtain ⟨j4, d5, u⟩ := bs u
     refine yG (bfalse j) (yIa SL_22 e0 e0 b rO0 d5) (yG (bfalse j) (yI O_3 e0 b rO0 d5) (yG (bfalse j) (yneq e0 rfl) (yY (pf_ (.bool (!(decide (j4 = (-1))))) e0 (bfalse j) e0) ?_)))
     obtain rfl := someI u
     exact d4 _ _ ⟨c5, X, c6, c7, Z, c8, c9, d0, d1, d2, d3, rfl, b⟩
   rintro f w ⟨j5, d6, j6, d7, d8, j7, j8, j9, k0, k6, k7, d9, b⟩
   refine wK j1 ?_
   rcases iteS i with ⟨a0, i⟩ | ⟨a0, i⟩
   ·refine condT (eh d9) a0 (sR fun _ k8 => Ya hnil.v rfl (Ya (.bool false) rfl (wK k8 (wp_ret (j0 _ _ _ rfl (c2 _ _ _ (i7 _ _ _ rfl ?_)))))))
    obtain rfl := someI i
    exact c1 _ _ _ _ rfl rfl (h8 _ _ rfl rfl ((b.pk 1 [] rfl).facts (allT allI)) (c0 _ rfl))
   ·refine condF (eh d9) (bfalse a0) (wp_skip (i9 _ _ (sR fun _ k9 => Ym c.v (eh d6) (Ym (iV d) (eh d8) (Ym (iV h) (eh d7) (Ym (iV d) (eh d8) ?_))))))
    obtain ⟨m2, e1, i⟩ := bs i
    refine yY (yIs SL_22 e0 e0 b rO0 e1) (YT wn rfl (r_sti (cs := [iV h]) b O_3 rfl e0 e0 rfl mkI e1) ?_)
    intro w b
    refine Ya (iV d) e0 (wK k9 (wR (Ym (iV t) (eh j6) (yY (yadd e0 rfl) (Ya (iV (wa .i64 t 1)) e0 (wN (c2 _ _ _ (i6 _ _ (wR (yY (yadd (eh k7) rfl) (Ym (iV (wa .i64 z 1)) e0 (wN ?_))))))))))))
    obtain rfl := someI i
    exact i2 _ _ _ rfl ⟨_, _, _, _, _, rfl, rfl, j5, d6, rfl, d7, rfl, j7, j8, j9, k0, k6, rfl, b⟩
  ·refine cF e0 W (wp_exit (i5 _ _ _ rfl ?_))
   obtain rfl := someI i
   exact c1 _ _ _ _ rfl rfl (g8 _ _ _ _ D N O R S T (b.facts (allT allI)) (c0 _ rfl))
 ·refine cF e0 J (wp_exit (g1 _ _ _ rfl ?_))
  obtain rfl := someI m
  exact b3 _ _ _ _ rfl rfl (f0 _ _ _ _ a7 a8 a9 b (b2 _ rfl))
theorem dissect_Check_ok {p : L2} {F G H : LI} {j q r t : Hdr} {out : Int} (c : dissect_Check p F G H = some out) (x : imm S1 j.v p ∈ ros) (c1 : imm I1 q.v F ∈ ros) (c2 : imm I1 r.v G ∈ ros) (c3 : imm I1 t.v H ∈ ros) (b : St w0 ros rs w) :
  Calls Try.prog 27 #[.agg #[j.v], .agg #[q.v, r.v, t.v]] w (fun e w => e = .returned (iV out) ∧ St w0 ros rs w) := by
 refine enterQ Try.func27 rfl Try.ntmps27 rfl fun Q A => sR fun _ c4 => YB wn rfl (r_box (vals := [j.v]) b e0 rfl) ?_
 intro i7 w b
 refine YB wn rfl (r_box (vals := [q.v, r.v, t.v]) b e0 rfl) ?_
 intro i8 w b
 refine Ya (iV 0) rfl (wK c4 (sR fun _ c5 => yY (lbs_ [j.v] ST_27 e0 b R1) ?_))
 obtain ⟨B, c6, c⟩ := bs c
 refine Yc wn rfl (yCall FN_30 (a1 e0)) (graph_Check_ok c6 x b) ?_
 rintro _ w ⟨rfl, b⟩
 refine ⟨_, rfl, ?_⟩
 refine Ya (iV B) e0 (wK c5 (seqQ fun i9 c7 c8 => sR fun _ c9 => Ym (iV B) e0 (yY (yneq e0 rfl) (wK c9 ?_))))
 rcases iteS c with ⟨I, c⟩ | ⟨I, c⟩
 ·refine condF e0 (nF (dT I)) (wp_skip (c7 _ _ (sR fun _ d0 => yY (yFb FL_27_0 e0) (yY (lb_ j.v O_25 e0 b R1) (yY (yLen SL_25 e0 b (rdI x)) (yY (yFb FL_38_0 e0) (yY (lb_ q.v O_22 e0 b R0) (yY (yFb FL_38_1 e0) (yY (lb_ r.v O_22 e0 b R0) (yY (yFb FL_38_2 e0) (yY (lb_ t.v O_22 e0 b R0) ?_)))))))))))
  refine YH wn rfl (rLt (n := 3) (l := [F, G, H]) b SL_25 [q.v, r.v, t.v] (bp3 e0 e0 e0) rfl rfl (mks1 (cs := [q.v]) rfl (mkS c1) (mks1 (cs := [r.v]) rfl (mkS c2) (mks1 (cs := [t.v]) rfl (mkS c3) mks0)))) ?_
  intro j0 w b
  obtain ⟨m, d1, c⟩ := bs c
  replace b := b.fz
  refine Yc wn rfl (yCall FN_45 (a2 e0 e0)) (dissect_parts_ok d1 F0 b) ?_
  rintro _ w ⟨g, rfl, b⟩
  refine ⟨_, rfl, ?_⟩
  refine Ym (.tuple #[g.v, .bool m.2]) e0 (yY (x_ g.v e0) (yY (x_ (.bool m.2) e0) (Ya g.v e0 (Ya (.bool m.2) e0 (wK d0 (seqQ fun j1 d2 d3 => sR fun _ d4 => Ym (.bool m.2) e0 (yY (ynot e0) (wK d4 ?_))))))))
  rcases iteS c with ⟨J, c⟩ | ⟨J, c⟩
  ·refine condF e0 (nF J) (wp_skip (d2 _ _ (seqQ fun j2 d5 d6 => sR fun _ d7 => yY (yFb FL_27_0 e0) (yY (lb_ j.v O_25 e0 b R2) (yY (yLen SL_25 e0 b (rdI (mtF x))) (Ym (iV 0) rfl (wK d7 (blockQ fun W X => ?_))))))))
   obtain ⟨Z, d8, c⟩ := bs c
   have d9 : ∀ (f : FV) (w : World), St w0 ros rs w → .inl () = Z → W (.exit 0) (fr 61 f) w := by
    intro f w b ho
    subst ho
    refine X _ _ _ (d5 _ _ (sR fun _ e1 => Ya (iV 0) rfl (wK e1 (wp_ret ?_))))
    obtain rfl := someI c
    exact A _ _ _ (fin1r Try.results27 ⟨rfl, rfl⟩ ⟨rfl, b⟩)
   have e2 : ∀ (f : FV) (w : World), f 4 = iV 180 → St w0 ros rs w → .inr () = Z → W .ret (fr 61 f) w := by
    intro f w e3 b ho
    subst ho
    refine X _ _ _ (d6 _ _ _ rfl ?_)
    obtain rfl := someI c
    exact A _ _ _ (fin1r Try.results27 ⟨rfl, e3⟩ ⟨rfl, b⟩)
   refine loopQ (fun s a w => ∃ (i : Int) (f : FV), i = s ∧ a = fr 61 f ∧ f 6 = g.v ∧ f 34 = j.v ∧ f 35 = iV (p.length : Int) ∧ f 36 = iV i ∧ St w0 ros (row 3 I1 g.v m.1 :: rs) w) d8 ⟨_, _, rfl, rfl, rfl, rfl, rfl, rfl, ((b.pk 3 [0] rfl).facts (allT allI))⟩ ?_
   rintro _ _ w j3 ⟨i, f, rfl, rfl, e4, a0, a3, C, b⟩ k a4 j4 e5 a5
   refine sR fun _ e6 => yY (ylss (eh C) (eh a3)) (wK e6 (seqQ fun j5 e7 e8 => ?_))
   rcases iteS k with ⟨K, k⟩ | ⟨K, k⟩
   ·refine cT e0 K (wp_skip (e7 _ _ (seqQ fun j6 e9 f0 => blockQ fun _ a6 => sR fun _ f1 => Ym (iV i) (eh C) ?_)))
    obtain ⟨D, a7, k⟩ := bs k
    refine yY (yIa SL_25 (eh a0) (eh C) b (rdI x) a7) ?_
    obtain ⟨u, b⟩ := iLs b x a7
    refine yY (yCt O_22 e0 b F1 rfl) (Ya (iV i) e0 (Ya u.v e0 (wK f1 (sR fun _ f2 => Ym u.v e0 (yY (yLen SL_22 e0 b (rdI F0)) (Ym (iV 0) rfl (wK f2 (blockQ fun a8 a9 => ?_))))))))
    obtain ⟨b0, f3, k⟩ := bs k
    have f4 : ∀ (f : FV) (w : World), f 6 = g.v → f 34 = j.v → f 35 = iV (p.length : Int) → f 36 = iV i → St w0 ros (row 3 I1 g.v m.1 :: rs) w → .inl () = b0 → a8 (.exit 2) (fr 61 f) w := by
     intro f w f5 f6 f7 f8 b ho
     subst ho
     refine a9 _ _ _ (a6 _ _ _ (e9 _ _ (wR (yY (yadd (eh f8) rfl) (Ym (iV (wa .i64 i 1)) e0 (wN ?_))))))
     obtain rfl := someI k
     exact e5 _ _ _ rfl ⟨_, _, rfl, rfl, f5, f6, f7, rfl, b⟩
    have f9 : ∀ (f : FV) (w : World), f 4 = iV 180 → St w0 ros rs w → .inr () = b0 → a8 .ret (fr 61 f) w := by
     intro f w g0 b ho
     subst ho
     refine a9 _ _ _ (a6 _ _ _ (f0 _ _ _ rfl ?_))
     obtain rfl := someI k
     exact a5 _ _ _ _ rfl rfl (e2 _ _ g0 b (a4 _ rfl))
    refine loopQ (fun s a w => ∃ (y : Int) (f : FV), y = s ∧ a = fr 61 f ∧ f 6 = g.v ∧ f 8 = iV i ∧ f 34 = j.v ∧ f 35 = iV (p.length : Int) ∧ f 36 = iV i ∧ f 41 = u.v ∧ f 42 = iV (D.length : Int) ∧ f 43 = iV y ∧ St w0 (imm I1 u.v D :: ros) (row 3 I1 g.v m.1 :: rs) w) f3 ⟨_, _, rfl, rfl, e4, rfl, a0, a3, C, rfl, rfl, rfl, (b.facts (allC F0 (allT (allT allI))))⟩ ?_
    rintro _ _ w j7 ⟨y, f, rfl, rfl, z, L, N, O, R, S, T, E, b⟩ d b1 j8 g1 b2
    refine sR fun _ g2 => yY (ylss (eh E) (eh T)) (wK g2 (seqQ fun j9 g3 g4 => ?_))
    rcases iteS d with ⟨U, d⟩ | ⟨U, d⟩
    ·refine cT e0 U (wp_skip (g3 _ _ (seqQ fun k0 g5 g6 => blockQ fun _ b3 => sR fun _ g7 => ?_)))
     obtain ⟨b4, b5, d⟩ := bs d
     refine yY (yIa SL_22 (eh S) (eh E) b (rdI F0) b5) (yY (yI O_3 e0 b (rdI F0) b5) (Ya (iV b4) e0 (wK g7 (sR fun _ g8 => Ym g.v (eh z) (Ym (iV i) (eh L) ?_)))))
     obtain ⟨g9, b6, d⟩ := bs d
     refine yY (yIa SL_22 e0 e0 b rO0 b6) (yY (yI O_3 e0 b rO0 b6) (yY (yeql e0 rfl) (Ym (.bool (decide (g9 = 0))) e0 ?_)))
     obtain ⟨h0, o, d⟩ := bs d
     refine joinW 6 (fun f w => f 6 = g.v ∧ f 8 = iV i ∧ f 34 = j.v ∧ f 35 = iV (p.length : Int) ∧ f 36 = iV i ∧ f 41 = u.v ∧ f 42 = iV (D.length : Int) ∧ f 43 = iV y ∧ f 58 = .bool h0 ∧ St w0 (imm I1 u.v D :: ros) (row 3 I1 g.v m.1 :: rs) w) (fun b7 => ?_) ?_
     ·rcases iteS o with ⟨h, o⟩ | ⟨h, o⟩
      ·refine yG (dT h) (m_ g.v (eh z)) (yG (dT h) (m_ (iV b4) e0) ?_)
       obtain ⟨h1, b8, o⟩ := bs o
       refine yG (dT h) (yIa SL_22 e0 e0 b rO0 b8) (yG (dT h) (yI O_3 e0 b rO0 b8) (yG (dT h) (yeql e0 rfl) (yY (pt_ (.bool (decide (h1 = 1))) e0 (dT h) e0) ?_)))
       obtain rfl := someI o
       exact b7 _ _ ⟨z, L, N, O, R, S, T, E, rfl, b⟩
      ·refine gN (dF h) (gN (dF h) (gN (dF h) (gN (dF h) (gN (dF h) (yY (pf_ (.bool false) e0 (dF h) rfl) ?_)))))
       obtain rfl := someI o
       exact b7 _ _ ⟨z, L, N, O, R, S, T, E, rfl, b⟩
     rintro f w ⟨h3, h5, h7, h9, i0, i1, i2, i3, c0, b⟩
     refine wK g8 ?_
     rcases iteS d with ⟨V, d⟩ | ⟨V, d⟩
     ·refine condT (eh c0) V (sR fun _ i4 => Ya (iV 180) rfl (wK i4 (wp_ret (b3 _ _ _ (g6 _ _ _ rfl ?_)))))
      obtain rfl := someI d
      exact b2 _ _ _ _ rfl rfl (f9 _ _ rfl ((b.pk 1 [] rfl).facts (allT allI)) (b1 _ rfl))
     ·refine condF (eh c0) (bfalse V) (wp_skip (b3 _ _ _ (g5 _ _ (wR (yY (yadd (eh i3) rfl) (Ym (iV (wa .i64 y 1)) e0 (wN ?_)))))))
      obtain rfl := someI d
      exact g1 _ _ _ rfl ⟨_, _, rfl, rfl, h3, h5, h7, h9, i0, i1, i2, rfl, b⟩
    ·refine cF e0 U (wp_exit (g4 _ _ _ rfl ?_))
     obtain rfl := someI d
     exact b2 _ _ _ _ rfl rfl (f4 _ _ z N O R (b.facts (allT allI)) (b1 _ rfl))
   ·refine cF e0 K (wp_exit (e8 _ _ _ rfl ?_))
    obtain rfl := someI k
    exact a5 _ _ _ _ rfl rfl (d9 _ _ (b.pk 1 [] rfl) (a4 _ rfl))
  ·refine condT e0 (nT (bfalse J)) (sR fun _ i5 => Ya (iV 180) rfl (wK i5 (wp_ret (d3 _ _ _ rfl ?_))))
   obtain rfl := someI c
   exact A _ _ _ (fin1r Try.results27 ⟨rfl, rfl⟩ ⟨rfl, ((b.pk 3 [] rfl).facts (allT allI))⟩)
 ·refine condT e0 (nT (dF I)) (sR fun _ i6 => Ym (iV B) e0 (Ya (iV B) e0 (wK i6 (wp_ret (c8 _ _ _ rfl ?_)))))
  obtain rfl := someI c
  exact A _ _ _ (fin1r Try.results27 ⟨rfl, rfl⟩ ⟨rfl, (b.pk 2 [] rfl)⟩)
theorem sparselaw18_awake_ok {out : Bool} (k : sparselaw18_awake = some out) (a : St w0 ros rs w) :
  Calls Try.prog 7 #[] w (fun e w => e = .returned (.bool out) ∧ St w0 ros rs w) := by
 refine enterQ Try.func7 rfl Try.ntmps7 rfl fun Q E => sR fun _ F => Ya (.bool false) rfl (wK F (sR fun _ G => YH wn rfl (rLt (n := 1) (l := [1]) a SL_22 [iV 1] (bp1 rfl) rfl rfl (mks1 (cs := [iV 1]) rfl mkI mks0)) ?_))
 intro p w a
 refine YH wn rfl (rLt (n := 2) (l := [0, 2]) a SL_22 [iV 0, iV 2] (bp2 rfl rfl) rfl rfl (mks1 (cs := [iV 0]) rfl mkI (mks1 (cs := [iV 2]) rfl mkI mks0))) ?_
 intro q w a
 refine YH wn rfl (rLt (n := 2) (l := [1, 3]) a SL_22 [iV 1, iV 3] (bp2 rfl rfl) rfl rfl (mks1 (cs := [iV 1]) rfl mkI (mks1 (cs := [iV 3]) rfl mkI mks0))) ?_
 intro r w a
 refine YH wn rfl (rLt (n := 1) (l := [2]) a SL_22 [iV 2] (bp1 rfl) rfl rfl (mks1 (cs := [iV 2]) rfl mkI mks0)) ?_
 intro s w a
 replace a := a.pk 4 [3, 0, 0, 0] rfl
 replace a := a.fz
 replace a := a.pk 3 [2, 0, 0] rfl
 replace a := a.fz
 replace a := a.pk 2 [1, 0] rfl
 replace a := a.fz
 replace a := a.fz
 refine YH wn rfl (rLt (n := 4) (l := [[1], [0, 2], [1, 3], [2]]) a SL_25 [p.v, q.v, r.v, s.v] (bp4 e0 e0 e0 e0) rfl rfl (mks1 (cs := [p.v]) rfl (mkS F3) (mks1 (cs := [q.v]) rfl (mkS F2) (mks1 (cs := [r.v]) rfl (mkS F1) (mks1 (cs := [s.v]) rfl (mkS F0) mks0))))) ?_
 intro d w a
 refine yY (ybuild (us := [d.v]) [(0, d.v)] SO_27 (bp1 e0) rfl) (YB wn rfl (rAl a ZT_27) ?_)
 intro t w a
 refine YT wn rfl (r_stbn (vals' := [d.v]) (us := [d.v]) a ST_27 e0 e0 rfl rfl (one_of rfl) rfl) ?_
 intro w a
 refine wK G (sR fun _ H => yY (lbs_ [d.v] ST_27 e0 a R0) ?_)
 obtain ⟨g, I, k⟩ := bs k
 replace a := a.pk 2 [1, 0] rfl
 replace a := a.fz
 refine Yc wn rfl (yCall FN_13 (a1 e0)) (dissect_Separate_ok I F0 a) ?_
 rintro _ w ⟨h, i, j, rfl, a⟩
 refine ⟨_, rfl, ?_⟩
 refine Ym (.tuple #[.agg #[h.v, i.v, j.v], iV g.2.2.2]) e0 (yY (x_ (.agg #[h.v, i.v, j.v]) e0) (yY (x_ (iV g.2.2.2) e0) (YB wn rfl (rAl a ZT_38) ?_)))
 intro u w a
 refine YT wn rfl (r_stbn (vals' := [h.v, i.v, j.v]) (us := [h.v, i.v, j.v]) a ST_38 e0 e0 rfl rfl (one_of rfl) rfl) ?_
 intro w a
 refine Ya (iV g.2.2.2) e0 (wK H (sR fun _ J => Ym (iV g.2.2.2) e0 (yY (yeql e0 rfl) (Ym (.bool (decide (g.2.2.2 = 0))) e0 ?_))))
 obtain ⟨x, m, k⟩ := bs k
 refine joinW 7 (fun f w => f 1 = (pB t) ∧ f 2 = (pB u) ∧ f 24 = .bool x ∧ St w0 (imm S1 d.v [[1], [0, 2], [1, 3], [2]] :: imm I1 h.v g.1 :: imm I1 i.v g.2.1 :: imm I1 j.v g.2.2.1 :: ros) (box t 27 [d.v] :: box u 38 [h.v, i.v, j.v] :: rs) w) (fun y => ?_) ?_
 ·rcases iteS m with ⟨b, m⟩ | ⟨b, m⟩
  ·refine yG (dT b) (lbs_ [h.v, i.v, j.v] ST_38 e0 a R0) (YH (wG (dT b)) rfl (rLt (n := 2) (l := [0, 1]) a SL_22 [iV 0, iV 1] (bp2 rfl rfl) rfl rfl (mks1 (cs := [iV 0]) rfl mkI (mks1 (cs := [iV 1]) rfl mkI mks0))) ?_)
   intro z w a
   refine YH (wG (dT b)) rfl (rLt (n := 1) (l := [3]) a SL_22 [iV 3] (bp1 rfl) rfl rfl (mks1 (cs := [iV 3]) rfl mkI mks0)) ?_
   intro A w a
   refine YH (wG (dT b)) rfl (rLt (n := 1) (l := [2]) a SL_22 [iV 2] (bp1 rfl) rfl rfl (mks1 (cs := [iV 2]) rfl mkI mks0)) ?_
   intro B w a
   refine yG (dT b) (ybuild (us := [z.v, A.v, B.v]) [(0, z.v), (1, A.v), (2, B.v)] SO_38 (bp3 e0 e0 e0) rfl) ?_
   obtain ⟨K, L, m⟩ := bs m
   replace a := a.pk 5 [4, 0, 0, 0, 0] rfl
   replace a := a.fz
   replace a := a.pk 5 [4, 0, 0, 0, 0] rfl
   replace a := a.fz
   replace a := a.pk 5 [4, 0, 0, 0, 0] rfl
   replace a := a.fz
   replace a := a.pk 3 [2, 0, 0] rfl
   replace a := a.fz
   replace a := a.pk 2 [1, 0] rfl
   replace a := a.fz
   replace a := a.fz
   refine Yc (wG (dT b)) rfl (yCall FN_26 (a2 e0 e0)) (sparsekit_Split_ok L F5 F4 F3 F2 F1 F0 a) ?_
   rintro _ w ⟨rfl, a⟩
   refine ⟨_, rfl, ?_⟩
   refine yY (pt_ (.bool K) e0 (dT b) e0) ?_
   obtain rfl := someI m
   exact y _ _ ⟨rfl, rfl, rfl, ((a.pk 2 [1, 0] rfl).facts (allC F6 (allC F5 (allC F4 (allC F3 (allT (allT (allT (allT (allT (allT (allT (allT (allT (allT (allT allI))))))))))))))))⟩
  ·refine gN (dF b) (gN (dF b) (gN (dF b) (gN (dF b) (gN (dF b) (gN (dF b) (yY (pf_ (.bool false) e0 (dF b) rfl) ?_))))))
   obtain rfl := someI m
   replace a := a.pk 2 [1, 0] rfl
   replace a := a.fz
   replace a := a.pk 2 [1, 0] rfl
   replace a := a.fz
   replace a := a.pk 2 [1, 0] rfl
   replace a := a.fz
   exact y _ _ ⟨rfl, rfl, rfl, ((a.pk 2 [1, 0] rfl).facts (allC F3 (allC F2 (allC F1 (allC F0 (allT (allT (allT (allT (allT (allT (allT (allT allI)))))))))))))⟩
 rintro f w ⟨N, O, R, a⟩
 refine Ym (.bool x) (eh R) ?_
 obtain ⟨C, o, k⟩ := bs k
 refine joinW 5 (fun f w => f 30 = .bool C ∧ St w0 ros rs w) (fun D => ?_) ?_
 ·rcases iteS o with ⟨c, o⟩ | ⟨c, o⟩
  ·refine yG c (lbs_ [d.v] ST_27 (eh N) a R0) (yG c (lbs_ [h.v, i.v, j.v] ST_38 (eh O) a R1) ?_)
   obtain ⟨S, T, o⟩ := bs o
   refine Yc (wG c) rfl (yCall FN_27 (a2 e0 e0)) (dissect_Check_ok T F0 F1 F2 F3 a) ?_
   rintro _ w ⟨rfl, a⟩
   refine ⟨_, rfl, ?_⟩
   refine yG c (yeql e0 rfl) (yY (pt_ (.bool (decide (S = 0))) e0 c e0) ?_)
   obtain rfl := someI o
   exact D _ _ ⟨rfl, ((a.pk 2 [] rfl).facts (allT (allT (allT (allT allI)))))⟩
  ·refine gN (bfalse c) (gN (bfalse c) (gN (bfalse c) (gN (bfalse c) (yY (pf_ (.bool false) e0 (bfalse c) rfl) ?_))))
   obtain rfl := someI o
   exact D _ _ ⟨rfl, ((a.pk 2 [] rfl).facts (allT (allT (allT (allT allI)))))⟩
 rintro f w ⟨U, a⟩
 refine Ya (.bool C) (eh U) (wK J (wp_ret ?_))
 obtain rfl := someI k
 exact E _ _ _ (fin1r Try.results7 ⟨rfl, rfl⟩ ⟨rfl, a⟩)
end Go.Proofs.Ythpeajepbffinaa
