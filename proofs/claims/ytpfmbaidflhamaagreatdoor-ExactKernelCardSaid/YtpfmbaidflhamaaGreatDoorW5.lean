/- Walks: each function computes its model, printed. -/
import Derived.Test.YtpfmbaidflhamaaGreatDoorW4
namespace Go.Proofs.YtpfmbaidflhamaaGreatDoor
open Go Sx M
set_option maxRecDepth 100000
set_option maxHeartbeats 40000000
set_option linter.unusedVariables false
attribute [local irreducible] wpList Code.wp Calls DR QR QS LA LS St
variable {w0 : World} {ros : List Fact} {rs : List Res} {w : World}
theorem modular_echelon_1_ok {g : LI} {a : Int} {c : Hdr} {d : Nat} {out : Bool} (f : modular_echelon_1 g a = some out) (h : imm I1 c.v g ∈ ros) (b : St w0 ros (box d 3 [iV a] :: rs) w) :
  Calls Tryz.prog 122 #[c.v, (pB d)] w (fun e w => e = .returned (.bool out) ∧ St w0 ros (box d 3 [iV a] :: rs) w) := by
 refine enterQ Tryz.func122 rfl Tryz.ntmps122 rfl fun Q j => sR fun _ k => Ya (.bool false) rfl (wK k (sR fun _ l => Ym c.v e0 (yY (lb_ (iV a) O_3 e0 b R0) (bE f fun m i f => yY (yIa SL_48 e0 e0 b (rdI h) i) (yY (yI O_3 e0 b (rdI h) i) (yY (yneq e0 rfl) ?_))))))
 refine Ya (.bool (!(decide (m = 0)))) e0 (wK l (wp_ret ?_))
 cases f
 exact j _ _ _ (fin1r Tryz.results122 ⟨rfl, rfl⟩ ⟨rfl, b⟩)
theorem slices_IndexFunc_int_v2_ok {k : L2} {h : Int} {i : Hdr} {g : Nat} {out : Int} (j : slices_IndexFunc_int_v2 k h = some out) (l : imm S1 i.v k ∈ ros) (b : St w0 ros (box g 3 [iV h] :: rs) w) :
  Calls Tryz.prog 121 #[i.v, .func (.func 122) #[] #[(pB g)]] w (fun e w => e = .returned (iV out) ∧ St w0 ros (box g 3 [iV h] :: rs) w) := by
 refine enterQ Tryz.func121 rfl Tryz.ntmps121 rfl fun Q o => sR fun _ C => Ya (iV 0) rfl (wK C (seqQ fun a2 D E => sR fun _ F => Ym i.v e0 (yY (yLen SL_63 e0 b (rdI l)) (Ym (iV 0) rfl (wK F ?_)))))
 refine blockQ fun p q => bE j fun r G j => ?_
 have H : ∀ (f : FV) w, St w0 ros (box g 3 [iV h] :: rs) w → .inl () = r → p (.exit 0) (fr 19 f) w := by
  intro f w b ho
  subst ho
  refine q _ _ _ (D _ _ (sR fun _ I => Ya (iV (-1)) rfl (wK I (wp_ret ?_))))
  cases j
  exact o _ _ _ (fin1r Tryz.results121 ⟨rfl, rfl⟩ ⟨rfl, b⟩)
 have J : ∀ (m : Int) (f : FV) w, f 4 = iV m → St w0 ros (box g 3 [iV h] :: rs) w → .inr m = r → p .ret (fr 19 f) w := by
  intro m f w K b ho
  subst ho
  refine q _ _ _ (E _ _ _ rfl ?_)
  cases j
  exact o _ _ _ (fin1r Tryz.results121 ⟨rfl, K⟩ ⟨rfl, b⟩)
 refine loopQ (fun s a w => ∃ (d : Int) (f : FV), d = s ∧ a = fr 19 f ∧ f 0 = i.v ∧ f 1 = .func (.func 122) #[] #[(pB g)] ∧ f 7 = iV (k.length : Int) ∧ f 8 = iV d ∧ St w0 ros (box g 3 [iV h] :: rs) w) G ⟨_, _, rfl, rfl, rfl, rfl, rfl, rfl, b⟩ ?_
 rintro _ _ w a3 ⟨d, f, rfl, rfl, t, u, x, n, b⟩ c y a4 L z
 refine sR fun _ N => yY (ylss (eh n) (eh x)) (wK N (seqQ fun a5 O R => ?_))
 refine cIf e0 c (fun S c => ?_) fun S c => ?_
 ·refine wp_skip (O _ _ (seqQ fun a6 T U => blockQ fun _ A => sR fun _ V => Ym (iV d) (eh n) (Ya (iV d) e0 (wK V (sR fun _ W => Ym (.func (.func 122) #[] #[(pB g)]) (eh u) (Ym i.v (eh t) ?_))))))
  refine Ym (iV d) e0 (bE c fun a7 B c => yY (yIa SL_63 e0 e0 b (rdI l) B) ?_)
  obtain ⟨a8, b⟩ := iLs b l B
  refine yY (yCt O_48 e0 b F1 rfl) (bE c fun a9 X c => yC (yCallw FN_122 e0 (a1 e0)) (modular_echelon_1_ok X F0 b) ?_)
  rintro _ w ⟨rfl, b⟩
  refine ⟨_, rfl, ?_⟩
  refine wK W (cB e0 c (fun Z c => ?_) fun Z c => ?_)
  ·refine sR fun _ a0 => Ym (iV d) e0 (Ya (iV d) e0 (wK a0 (wp_ret (A _ _ _ (U _ _ _ rfl ?_)))))
   cases c
   exact z _ _ _ _ rfl rfl (J _ _ _ rfl (b.facts (allT (allT allI))) (y _ rfl))
  ·refine wp_skip (A _ _ _ (T _ _ (wR (yY (yadd (eh n) rfl) (Ym (iV (wa .i64 d 1)) e0 (wN ?_))))))
   cases c
   exact L _ _ _ rfl ⟨_, _, rfl, rfl, t, u, x, rfl, (b.facts (allT (allT allI)))⟩
 ·refine wp_exit (R _ _ _ rfl ?_)
  cases c
  exact z _ _ _ _ rfl rfl (H _ _ b (y _ rfl))
theorem modular_raise_ok {q r h out : Int} (i : modular_raise q r h = some out) (c : St w0 ros rs w) :
  Calls Tryz.prog 146 #[iV q, iV r, iV h] w (fun e w => e = .returned (iV out) ∧ St w0 ros rs w) := by
 refine enterQ Tryz.func146 rfl Tryz.ntmps146 rfl fun Q x => sR fun _ y => Ya (iV 0) rfl (wK y (sR fun _ z => Ya (iV 1) rfl (wK z (sQ fun _ A => blockQ fun B C => bE i fun D E i => ?_))))
 have F : ∀ (j : Int) (f : FV) w, f 7 = iV j → St w0 ros rs w → j = D → B (.exit 0) (fr 26 f) w := by
  intro j f w G c ho
  subst ho
  refine C _ _ _ (A _ _ (sR fun _ H => Ym (iV j) (eh G) (Ya (iV j) e0 (wK H (wp_ret ?_)))))
  cases i
  exact x _ _ _ (fin1r Tryz.results146 ⟨rfl, rfl⟩ ⟨rfl, c⟩)
 refine loopQ (fun s a w => ∃ (g d k : Int) (f : FV), (g, d, k) = s ∧ a = fr 26 f ∧ f 0 = iV g ∧ f 1 = iV d ∧ f 2 = iV h ∧ f 7 = iV k ∧ St w0 ros rs w) E ⟨_, _, _, _, rfl, rfl, rfl, rfl, rfl, rfl, c⟩ ?_
 rintro _ _ w I ⟨g, d, k, f, rfl, rfl, m, l, n, o, c⟩ b J a6 K L
 refine seqQ fun a7 N O => sR fun _ R => Ym (iV d) (eh l) (yY (ygtr e0 rfl) (wK R ?_))
 refine cIf e0 b (fun S b => ?_) fun S b => ?_
 ·refine wp_skip (N _ _ (sQ fun _ T => blockQ fun _ U => sQ fun V W => sR fun _ X => Ym (iV d) (eh l) (yY (yremc e0 rfl (by decide)) (yY (yeql e0 rfl) (wK X ?_)))))
  have t : ∀ (p : Int) (f : FV) w, f 0 = iV g → f 1 = iV d → f 2 = iV h → f 7 = iV p → St w0 ros rs w → modular_raise_j4 g h d p = some I → V .normal (fr 26 f) w := by
   intro p f w u Z v a0 c i
   refine W _ _ (wR (Ym (iV g) (eh u) (Ym (iV g) (eh u) (yY (ymul e0 e0) (Ym (iV h) (eh v) (bE i fun a1 a2 i => yY (yrem e0 e0 a2) (Ya (iV a1) e0 (wN (U _ _ _ (T _ _ (wR (Ym (iV d) (eh Z) ?_))))))))))))
   refine yY (yquoc e0 rfl (by decide)) (Ya (iV (wqc .i64 d 2)) e0 (wN ?_))
   cases i
   exact K _ _ _ rfl ⟨_, _, _, _, rfl, rfl, rfl, rfl, v, a0, c⟩
  refine cIf e0 b (fun a3 b => ?_) fun a3 b => ?_
  ·exact wR (Ym (iV k) (eh o) (Ym (iV g) (eh m) (yY (ymul e0 e0) (Ym (iV h) (eh n) (bE b fun a4 a5 b => yY (yrem e0 e0 a5) (Ya (iV a4) e0 (wN (t _ _ _ m l n rfl c b))))))))
  ·exact wp_skip (t _ _ _ m l n o c b)
 ·refine wp_exit (O _ _ _ rfl ?_)
  cases b
  exact L _ _ _ _ rfl rfl (F _ _ _ o c (J _ rfl))
theorem modular_inverse_ok {b a out : Int} (c : modular_inverse b a = some out) (d : St w0 ros rs w) :
  Calls Tryz.prog 124 #[iV b, iV a] w (fun e w => e = .returned (iV out) ∧ St w0 ros rs w) := by
 refine enterQ Tryz.func124 rfl Tryz.ntmps124 rfl fun Q f => sR fun _ g => Ya (iV 0) rfl (wK g (sR fun _ h => Ym (iV b) e0 (Ym (iV a) e0 (yY (ysub e0 rfl) (Ym (iV a) e0 (bE c fun i j c => yC (yCall FN_146 (a3 e0 e0 e0)) (modular_raise_ok j d) ?_))))))
 rintro _ w ⟨rfl, d⟩
 refine ⟨_, rfl, ?_⟩
 refine Ya (iV i) e0 (wK h (wp_ret ?_))
 cases c
 exact f _ _ _ (fin1r Tryz.results124 ⟨rfl, rfl⟩ ⟨rfl, d⟩)
theorem modular_subtract_ok {t m : LI} {i h : Int} {d j : Hdr} {out : LI} (n : modular_subtract t m i h = some out) (o : imm I1 j.v m ∈ ros) (b : St w0 ros (row 3 I1 d.v t :: rs) w) :
  Calls Tryz.prog 125 #[d.v, j.v, iV i, iV h] w (fun e w => e = .returned (.tuple #[]) ∧ St w0 ros (row 3 I1 d.v out :: rs) w) := by
 refine enterQ Tryz.func125 rfl Tryz.ntmps125 rfl fun Q D => sR fun _ E => Ym j.v e0 (yY (yLen SL_48 e0 b (rdI o)) (Ym (iV 0) rfl (wK E (blockQ fun F G => bE n fun H I n => ?_))))
 have J : ∀ (p : LI) (f : FV) w, St w0 ros (row 3 I1 d.v p :: rs) w → p = H → F (.exit 0) (fr 33 f) w := by
  intro p f w b ho
  subst ho
  refine G _ _ _ ?_
  cases n
  exact D _ _ _ (fin0n Tryz.results125 ⟨rfl, b⟩)
 refine loopQ (fun s a w => ∃ (q : LI) (g : Int) (f : FV), (q, g) = s ∧ a = fr 33 f ∧ f 0 = d.v ∧ f 2 = iV i ∧ f 3 = iV h ∧ f 10 = j.v ∧ f 11 = iV (m.length : Int) ∧ f 12 = iV g ∧ St w0 ros (row 3 I1 d.v q :: rs) w) I ⟨_, _, _, rfl, rfl, rfl, rfl, rfl, rfl, rfl, rfl, b⟩ ?_
 rintro _ _ w a1 ⟨q, g, f, rfl, rfl, k, u, r, x, y, l, b⟩ c K a3 L N
 refine sR fun _ O => yY (ylss (eh l) (eh y)) (wK O (seqQ fun a4 R S => ?_))
 refine cIf e0 c (fun T c => ?_) fun T c => ?_
 ·refine wp_skip (R _ _ (sQ fun _ U => blockQ fun _ V => sR fun _ W => Ym (iV g) (eh l) (bE c fun z A c => yY (yIa SL_48 (eh x) (eh l) b (rdI o) A) (yY (yI O_3 e0 b (rdI o) A) (Ya (iV g) e0 (Ya (iV z) e0 (wK W ?_)))))))
  refine bE c fun a5 B c => bE c fun a6 X c => bE c fun Z a0 c => bE c fun a7 C c => dR [0, 0, 0, 0, 12, 28, 0, 0, 192, 0, 960, 2044, 0, 8188, 16383, 32767] [13, 15] 2 folM ?_
  replace b := b.drew
  refine Dn [0, 1, 2, 3, 4, 5, 6, 7, 8, 9, 10, 11, 12] [] [13] (yR rfl (m_ d.v (eh k)) (yR rfl (m_ (iV g) e0) (yR rfl (m_ d.v (eh k)) (yR rfl (m_ (iV g) e0) (yR rfl (yIa SL_48 e0 e0 b rO0 B) (yR rfl (yI O_3 e0 b rO0 B) (yR rfl (m_ (iV i) (eh u)) (yR rfl (m_ (iV z) e0) (yR rfl (ymul e0 e0) (yR rfl (m_ (iV h) (eh r)) (yR rfl (yrem e0 e0 X) (yR rfl (ysub e0 e0) (yR rfl (m_ (iV h) (eh r)) ?_)))))))))))))
  refine Rn QSn ?_
  refine Lc1 rfl ?_
  refine Lk wn (yCall FN_123 (a2 e0 e0)) (modular_mod_ok a0 b) ?_
  rintro _ w ⟨rfl, b⟩
  refine ⟨_, rfl, ?_⟩
  refine Dn [14] [0, 1] [15] (yR rfl (yIs SL_48 e0 e0 b rO0 C) (Rn (yS rfl (m_ d.v (eh k)) (yS rfl (m_ (iV g) e0) QSn)) ?_))
  refine Lc1 rfl ?_
  refine LT wn (r_sti (cs := [iV Z]) b O_3 rfl e0 e0 rfl mkI C) fun w b => Dz [] [] (Rn QSn (V _ _ _ (U _ _ (wR (yY (yadd (eh l) rfl) (Ym (iV (wa .i64 g 1)) e0 (wN ?_)))))))
  cases c
  exact L _ _ _ rfl ⟨_, _, _, rfl, rfl, k, u, r, x, y, rfl, b⟩
 ·refine wp_exit (S _ _ _ rfl ?_)
  cases c
  exact N _ _ _ _ rfl rfl (J _ _ _ b (K _ rfl))
theorem modular_echelon_ok {f6 : L2} {m : Int} {c : Hdr} {f7 : List Hdr} {out : L2 × LI × Int} (g : modular_echelon f6 m = some out) (b : St w0 ros (row 48 rH c.v f7 :: fam 3 I1 f7 f6 :: rs) w) :
  Calls Tryz.prog 90 #[c.v, iV m] w (fun e w => ∃ (f8 : List Hdr) (f9 : Hdr), e = .returned (.tuple #[f9.v, iV out.2.2]) ∧ St w0 ros (row 48 rH c.v f8 :: fam 3 I1 f8 out.1 :: row 3 I1 f9.v out.2.1 :: rs) w) := by
 refine enterQ Tryz.func90 rfl Tryz.ntmps90 rfl fun Q j9 => sR fun _ k0 => Ya hnil.v rfl (Ya (iV 0) rfl (wK k0 (sR fun _ k2 => Ya (iV 1) rfl (wK k2 (sQ fun _ k5 => sQ fun _ k6 => ?_)))))
 refine wR (Ym c.v e0 (bE g fun z k7 g => ?_))
 have I := b
 replace b := b.ffz
 have o := b.guest0
 replace b := I
 clear I
 refine yC (yCall FN_118 (a1 e0)) (modular_columns_ok k7 F0 o) ?_
 clear o
 rintro _ w ⟨rfl, o⟩
 replace b := b.back o
 clear o
 refine ⟨_, rfl, ?_⟩
 refine Ym (iV 0) rfl (wK k6 (blockQ fun k8 k9 => bE g fun l0 l1 g => ?_))
 have g0 : ∀ (b2 : L2) (b3 : LI) (J : Int) (b4 : List Hdr) (K : Hdr) (f : FV) w, f 4 = K.v → f 5 = iV J → St w0 ros (row 48 rH c.v b4 :: fam 3 I1 b4 b2 :: row 3 I1 K.v b3 :: rs) w → (b2, b3, J) = l0 → k8 (.exit 0) (fr 137 f) w := by
  intro b2 b3 J b4 K f w l2 l3 b ho
  subst ho
  refine k9 _ _ _ (k5 _ _ (sR fun _ l4 => Ym K.v (eh l2) (Ym (iV J) (eh l3) (Ya K.v e0 (Ya (iV J) e0 (wK l4 (wp_ret ?_)))))))
  cases g
  exact j9 _ _ _ (fin2r Tryz.results90 ⟨rfl, rfl⟩ ⟨rfl, rfl⟩ ⟨_, _, rfl, b⟩)
 replace b := b.rowNh 3 I1
 refine loopQ (fun s a w => ∃ (b5 : L2) (d : LI) (T h : Int) (f : FV) (b6 : List Hdr) (k : Hdr), (b5, d, T, h) = s ∧ a = fr 137 f ∧ f 0 = c.v ∧ f 1 = iV m ∧ f 4 = k.v ∧ f 5 = iV T ∧ f 14 = iV z ∧ f 15 = iV h ∧ St w0 ros (row 48 rH c.v b6 :: fam 3 I1 b6 b5 :: row 3 I1 k.v d :: rs) w) l1 ⟨_, _, _, _, _, _, _, rfl, rfl, rfl, rfl, rfl, rfl, rfl, rfl, (b.k19)⟩ ?_
 rintro _ _ w g1 ⟨b5, d, T, h, f, b6, k, rfl, rfl, y, U, E, L, V, N, b⟩ i g2 x3 l5 g3
 refine sR fun _ l6 => yY (ylss (eh N) (eh V)) (wK l6 (seqQ fun x5 l7 l8 => ?_))
 refine cIf e0 i (fun l9 i => ?_) fun l9 i => ?_
 ·refine wp_skip (l7 _ _ (seqQ fun m0 m1 m2 => ?_))
  have g4 : ∀ (b7 : L2) (b8 : LI) (b9 : Int) (c0 : List Hdr) (c1 : Hdr) (f : FV) w, f 0 = c.v → f 1 = iV m → f 4 = c1.v → f 5 = iV b9 → f 14 = iV z → f 15 = iV h → St w0 ros (row 48 rH c.v c0 :: fam 3 I1 c0 b7 :: row 3 I1 c1.v b8 :: rs) w → modular_echelon_j161 h b7 b8 b9 = some g1 → m0 .normal (fr 137 f) w := by
   intro b7 b8 b9 c0 c1 f w m3 m4 m5 m6 m7 m8 b g
   refine m1 _ _ (wR (yY (yadd (eh m8) rfl) (Ym (iV (wa .i64 h 1)) e0 (wN ?_))))
   cases g
   exact l5 _ _ _ rfl ⟨_, _, _, _, _, _, _, rfl, rfl, m3, m4, m5, m6, m7, rfl, b⟩
  refine blockQ fun _ c2 => sR fun _ m9 => Ym (iV h) (eh N) (yBb (rAl b ZT_3) fun q w b => yT (r_stb1 (vals' := [iV h]) b O_3 e0 e0 rfl rfl rfl rfl) fun w b => wK m9 (sR fun _ n0 => Ym k.v (eh E) (yY (yLen SL_48 e0 b rO3) ?_)))
  refine Ya (iV (d.length : Int)) e0 (wK n0 (seqQ fun x6 n1 n2 => sR fun _ n3 => Ym (iV (d.length : Int)) e0 (Ym c.v (eh y) (yY (yLenF SLH_63 e0 b rO1 R2) (yY (yeql e0 e0) (wK n3 ?_))))))
  refine cIf e0 i (fun n4 i => ?_) fun n4 i => ?_
  ·refine wp_exit (n2 _ _ _ rfl (c2 _ _ _ (m2 _ _ _ rfl ?_)))
   cases i
   exact g3 _ _ _ _ rfl rfl (g0 _ _ _ _ _ _ _ E L (b.k2g) (g2 _ rfl))
  ·refine wp_skip (n1 _ _ (sR fun _ n5 => Ym (iV (d.length : Int)) e0 (Ym c.v (eh y) (Ym (iV (d.length : Int)) e0 (bE i fun x7 g5 i => yY (ySlF (k2 := .i64) SLH_63 e0 b rO1 R2 (.inl (congrArg some e0)) (.inr ⟨rfl, rfl⟩) g5) (yY (ymf (vf := #[]) (vc := #[(pB q)]) a0 (a1 e0)) (bE i fun F n6 i => ?_)))))))
   have I := b
   replace b := ((b.k19).ffz).sub F0 g5
   have o := b.guestB
   replace b := I
   clear I
   refine yC (yCall FN_121 (a2 e0 e0)) (slices_IndexFunc_int_v2_ok n6 F1 o) ?_
   clear o
   rintro _ w ⟨rfl, o⟩
   replace b := b.backB o
   clear o
   refine ⟨_, rfl, ?_⟩
   refine yY (yadd e0 e0) (Ya (iV (wa .i64 (d.length : Int) F)) e0 (wK n5 (seqQ fun x8 n7 n8 => sR fun _ n9 => Ym (iV (wa .i64 (d.length : Int) F)) e0 (Ym (iV (d.length : Int)) e0 (yY (ylss e0 e0) (wK n9 ?_))))))
   refine cIf e0 i (fun o0 i => ?_) fun o0 i => ?_
   ·exact wp_exit (n8 _ _ _ rfl (c2 _ _ _ (g4 _ _ _ _ _ _ _ y U E L V N (b.k2g) i)))
   ·refine wp_skip (n7 _ _ (sQ fun o1 o2 => sR fun _ o3 => Ym (iV (wa .i64 (d.length : Int) F)) e0 (Ym (iV (d.length : Int)) e0 (yY (ygtr e0 e0) (wK o3 ?_)))))
    have g6 : ∀ (c3 : L2) (W : Int) (r : List Hdr) (f : FV) w, f 0 = c.v → f 1 = iV m → f 4 = k.v → f 5 = iV W → f 6 = (pB q) → f 7 = iV (d.length : Int) → f 14 = iV z → f 15 = iV h → St w0 ros (row 48 rH c.v r :: fam 3 I1 r c3 :: row 3 I1 k.v d :: box q 3 [iV h] :: rs) w → modular_echelon_j162 d h m c3 W = some g1 → o1 .normal (fr 137 f) w := by
     intro c3 W r f w X c4 o4 o5 c5 Z o6 o7 b g
     refine o2 _ _ (sQ fun _ o8 => bE g fun x9 c6 g => bE g fun y0 g7 g => bE g fun C o9 g => dR [0, 0, 0, 6, 14, 0, 62, 126, 255, 0, 1023, 2047] [11] 1 folM ?_)
     replace b := b.drew
     refine Dn [0, 1, 2, 3, 4, 5, 6, 7, 8, 9, 10] [] [11] (yR rfl (m_ (iV W) (eh o5)) (yR rfl (m_ c.v (eh X)) (yR rfl (m_ (iV (d.length : Int)) (eh Z)) ?_)))
     obtain ⟨y1, a3⟩ := b.famI R1 c6
     refine yR rfl (yIa SLH_63 e0 e0 b rO0 a3) (yR rfl (yF1 O_48 e0 b rO0 a3 rfl) (yR rfl (lb_ (iV h) O_3 (eh c5) b R3) (yR rfl (yIa SL_48 e0 e0 b (rdF R1 a3 c6) g7) (yR rfl (yI O_3 e0 b (rdF R1 a3 c6) g7) (yR rfl (ymul e0 e0) (yR rfl (m_ (iV m) (eh c4)) (yR rfl (yrem e0 e0 o9) (Rn QSn ?_))))))))
     refine Lc1 rfl ?_
     refine Ly wn (a_ (iV C) e0) (Dz [] [] (Rn QSn (o8 _ _ (sQ fun _ p0 => bE g fun y2 c7 g => bE g fun y4 g8 g => bE g fun c8 p1 g => dR [0, 0, 3, 7, 0, 31, 63, 0, 255, 511] [8, 9] 2 folM ?_))))
     replace b := b.drew
     refine Dn [0, 1, 2, 3, 4, 5, 6, 7] [] [8] (yR rfl (m_ c.v (eh X)) (yR rfl (m_ (iV (d.length : Int)) (eh Z)) ?_))
     obtain ⟨y5, a5⟩ := b.famI R1 c7
     refine yR rfl (yIa SLH_63 e0 e0 b rO0 a5) (yR rfl (yF1 O_48 e0 b rO0 a5 rfl) (yR rfl (lb_ (iV h) O_3 (eh c5) b R3) (yR rfl (yIa SL_48 e0 e0 b (rdF R1 a5 c7) g8) (yR rfl (yI O_3 e0 b (rdF R1 a5 c7) g8) (yR rfl (m_ (iV m) (eh c4)) (Rn QSn ?_))))))
     refine Lc1 rfl ?_
     refine Lk wn (yCall FN_124 (a2 e0 e0)) (modular_inverse_ok p1 b) ?_
     rintro _ w ⟨rfl, b⟩
     refine ⟨_, rfl, ?_⟩
     refine Dn [] [] [9] (Rn QSn ?_)
     refine Lc1 rfl ?_
     refine Ly wn (a_ (iV c8) e0) (Dz [] [] (Rn QSn (p0 _ _ (sQ fun _ p2 => sR fun _ p3 => Ym c.v (eh X) (Ym (iV (d.length : Int)) (eh Z) (bE g fun p4 g9 g => ?_))))))
     obtain ⟨y6, c9⟩ := b.famI R1 g9
     refine yY (yIa SLH_63 e0 e0 b rO0 c9) (yY (yF1 O_48 e0 b rO0 c9 rfl) (yY (yLen SL_48 e0 b (rdF R1 c9 g9)) (Ym (iV 0) rfl (wK p3 (blockQ fun p5 p6 => bE g fun p7 p8 g => ?_)))))
     have p9 : ∀ (G : L2) (f : FV) w, f 0 = c.v → f 1 = iV m → f 4 = k.v → f 5 = iV C → f 6 = (pB q) → f 7 = iV (d.length : Int) → f 14 = iV z → f 15 = iV h → St w0 ros (row 48 rH c.v r :: fam 3 I1 r G :: row 3 I1 k.v d :: box q 3 [iV h] :: rs) w → G = p7 → p5 (.exit 2) (fr 137 f) w := by
      intro G f w h0 q0 q1 q2 q3 q4 q5 q6 b ho
      subst ho
      refine p6 _ _ _ (p2 _ _ (sQ fun _ q7 => sR fun _ q8 => Ym c.v (eh h0) (yY (yLenF SLH_63 e0 b rO0 R1) (Ym (iV 0) rfl (wK q8 (blockQ fun q9 r0 => bE g fun r1 r2 g => ?_))))))
      have r3 : ∀ (d0 : L2) (f : FV) w, f 0 = c.v → f 1 = iV m → f 4 = k.v → f 5 = iV C → f 6 = (pB q) → f 14 = iV z → f 15 = iV h → St w0 ros (row 48 rH c.v r :: fam 3 I1 r d0 :: row 3 I1 k.v d :: box q 3 [iV h] :: rs) w → d0 = r1 → q9 (.exit 4) (fr 137 f) w := by
       intro d0 f w r4 r6 r7 r8 r9 s0 s1 b ho
       subst ho
       exact r0 _ _ _ (q7 _ _ (wR (Ym k.v (eh r7) (yY (lb_ (iV h) O_3 (eh r9) b R3) (yH (rLt (n := 1) (l := [h]) b SL_48 [iV h] (bp1 e0) rfl rfl (mks1 (cs := [iV h]) rfl mkI mks0)) fun y7 w b => bE g fun y8 s2 g => yH (rAp (b.k17) SL_48 e0 e0 rO1 s2) fun s3 w b => Ya s3.v e0 (wN (c2 _ _ _ (g4 _ _ _ _ _ _ _ r4 r6 rfl r8 s0 s1 (b.k1y) g))))))))
      refine loopQ (fun s a w => ∃ (a6 : L2) (x : Int) (f : FV), (a6, x) = s ∧ a = fr 137 f ∧ f 0 = c.v ∧ f 1 = iV m ∧ f 4 = k.v ∧ f 5 = iV C ∧ f 6 = (pB q) ∧ f 7 = iV (d.length : Int) ∧ f 14 = iV z ∧ f 15 = iV h ∧ f 101 = c.v ∧ f 102 = iV (G.length : Int) ∧ f 103 = iV x ∧ St w0 ros (row 48 rH c.v r :: fam 3 I1 r a6 :: row 3 I1 k.v d :: box q 3 [iV h] :: rs) w) r2 ⟨_, _, _, rfl, rfl, h0, q0, q1, q2, q3, q4, q5, q6, rfl, rfl, rfl, b⟩ ?_
      rintro _ _ w s4 ⟨a6, x, f, rfl, rfl, d1, d2, d3, d4, a7, d5, d6, d7, d8, d9, O, b⟩ j s5 y9 s6 s7
      refine sR fun _ s8 => yY (ylss (eh O) (eh d9)) (wK s8 (seqQ fun z0 s9 t0 => ?_))
      refine cIf e0 j (fun t1 j => ?_) fun t1 j => ?_
      ·refine wp_skip (s9 _ _ (sQ fun _ t2 => blockQ fun t3 t4 => sR fun _ t5 => Ym (iV x) (eh O) (bE j fun z1 H j => ?_)))
       obtain ⟨R, A⟩ := b.famI R1 H
       refine yY (yIa SLH_63 (eh d8) (eh O) b rO0 A) (yY (yF1 O_48 e0 b rO0 A rfl) (Ya (iV x) e0 (Ya R.v e0 (wK t5 (sR fun _ t6 => Ym (iV x) e0 (Ym (iV (d.length : Int)) (eh d5) (yY (yneq e0 e0) (Ym (.bool (!(decide (x = (d.length : Int))))) e0 (bE j fun t7 D j => ?_)))))))))
       refine joinW 6 (fun f w => f 0 = c.v ∧ f 1 = iV m ∧ f 4 = k.v ∧ f 5 = iV C ∧ f 6 = (pB q) ∧ f 7 = iV (d.length : Int) ∧ f 12 = R.v ∧ f 14 = iV z ∧ f 15 = iV h ∧ f 101 = c.v ∧ f 102 = iV (G.length : Int) ∧ f 103 = iV x ∧ f 117 = .bool t7 ∧ St w0 ros (row 48 rH c.v r :: fam 3 I1 r a6 :: row 3 I1 k.v d :: box q 3 [iV h] :: rs) w) (fun h1 => ?_) ?_
       ·rcases iteS D with ⟨t, D⟩ | ⟨t, D⟩
        ·refine gN (nF (dT t)) (gN (nF (dT t)) (gN (nF (dT t)) (gN (nF (dT t)) (gN (nF (dT t)) (yY (pf_ (.bool false) e0 (nF (dT t)) rfl) ?_)))))
         cases D
         exact h1 _ _ ⟨d1, d2, d3, d4, a7, d5, rfl, d6, d7, d8, d9, O, rfl, b⟩
        ·refine yG (nT (dF t)) (m_ R.v e0) (yG (nT (dF t)) (lb_ (iV h) O_3 (eh a7) b R3) (bE D fun t8 h3 D => yG (nT (dF t)) (yIa SL_48 e0 e0 b (rdF R1 A H) h3) (yG (nT (dF t)) (yI O_3 e0 b (rdF R1 A H) h3) (yG (nT (dF t)) (yneq e0 rfl) (yY (pt_ (.bool (!(decide (t8 = 0)))) e0 (nT (dF t)) e0) ?_)))))
         cases D
         exact h1 _ _ ⟨d1, d2, d3, d4, a7, d5, rfl, d6, d7, d8, d9, O, rfl, b⟩
       rintro f w ⟨e1, e2, h4, h5, e3, e4, h6, h7, h8, h9, i0, i1, t9, b⟩
       refine wK t6 ?_
       have i2 : ∀ (e5 : L2) (f : FV) w, f 0 = c.v → f 1 = iV m → f 4 = k.v → f 5 = iV C → f 6 = (pB q) → f 7 = iV (d.length : Int) → f 14 = iV z → f 15 = iV h → f 101 = c.v → f 102 = iV (G.length : Int) → f 103 = iV x → St w0 ros (row 48 rH c.v r :: fam 3 I1 r e5 :: row 3 I1 k.v d :: box q 3 [iV h] :: rs) w → modular_echelon_j170 x e5 = some s4 → t3 .normal (fr 137 f) w := by
        intro e5 f w u0 u1 u2 u3 u4 u5 u6 u7 u8 u9 v0 b g
        refine t4 _ _ _ (t2 _ _ (wR (yY (yadd (eh v0) rfl) (Ym (iV (wa .i64 x 1)) e0 (wN ?_)))))
        cases g
        exact s6 _ _ _ rfl ⟨_, _, _, rfl, rfl, u0, u1, u2, u3, u4, u5, u6, u7, u8, u9, rfl, b⟩
       refine cB (eh t9) j (fun v1 j => ?_) fun v1 j => ?_
       ·refine bE j fun z2 i3 j => bE j fun z3 i4 j => bE j fun u2628 gu2628 j => bE j fun z4 v2 j => bE j fun z5 v3 j => dR [0, 0, 0, 6, 14, 0, 0, 96, 224, 0, 1023] [10] 1 folM ?_
        replace b := b.drew
        refine Dn [0, 1, 2, 3, 4, 5, 6, 7, 8, 9] [] [10] (yR rfl (m_ R.v (eh h6)) (yR rfl (m_ c.v (eh e1)) (yR rfl (m_ (iV (d.length : Int)) (eh e4)) ?_)))
        obtain ⟨z6, e6⟩ := b.famI R1 i3
        refine yR rfl (yIa SLH_63 e0 e0 b rO0 e6) (yR rfl (yF1 O_48 e0 b rO0 e6 rfl) (yR rfl (m_ R.v (eh h6)) (yR rfl (lb_ (iV h) O_3 (eh e3) b R3) (yR rfl (yIa SL_48 e0 e0 b (rdF R1 A H) i4) (yR rfl (yI O_3 e0 b (rdF R1 A H) i4) (yR rfl (m_ (iV m) (eh e2)) (Rn QSn ?_)))))))
        refine Lc1 rfl ?_
        replace b := (b.k10).foc A H
        have o := b.guestX gu2628 A e6 i3
        refine Lk wn (yCall FN_125 (a4 e0 e0 e0 e0)) (modular_subtract_ok v2 F0 o) ?_
        clear o
        rintro _ w ⟨rfl, o⟩
        replace b := b.backR o
        clear o
        refine ⟨_, rfl, ?_⟩
        replace b := b.unfoc' A v3
        exact Dz [] [] (Rn QSn (i2 _ _ _ e1 e2 h4 h5 e3 e4 h7 h8 h9 i0 i1 (b.k2h) j))
       ·exact wp_skip (i2 _ _ _ e1 e2 h4 h5 e3 e4 h7 h8 h9 i0 i1 b j)
      ·refine wp_exit (t0 _ _ _ rfl ?_)
       cases j
       exact s7 _ _ _ _ rfl rfl (r3 _ _ _ d1 d2 d3 d4 a7 d6 d7 b (s5 _ rfl))
     refine loopQ (fun s a w => ∃ (e7 : L2) (B : Int) (f : FV), (e7, B) = s ∧ a = fr 137 f ∧ f 0 = c.v ∧ f 1 = iV m ∧ f 4 = k.v ∧ f 5 = iV C ∧ f 6 = (pB q) ∧ f 7 = iV (d.length : Int) ∧ f 9 = iV c8 ∧ f 14 = iV z ∧ f 15 = iV h ∧ f 79 = iV (p4.length : Int) ∧ f 80 = iV B ∧ St w0 ros (row 48 rH c.v r :: fam 3 I1 r e7 :: row 3 I1 k.v d :: box q 3 [iV h] :: rs) w) p8 ⟨_, _, _, rfl, rfl, X, c4, o4, rfl, c5, Z, rfl, o6, o7, rfl, rfl, b⟩ ?_
     rintro _ _ w z7 ⟨e7, B, f, rfl, rfl, a8, e8, i5, i6, i7, a9, i8, i9, j0, j1, e9, b⟩ p v4 z8 v5 v6
     refine sR fun _ v7 => yY (ylss (eh e9) (eh j1)) (wK v7 (seqQ fun z9 v8 v9 => ?_))
     refine cIf e0 p (fun w1 p => ?_) fun w1 p => ?_
     ·refine wp_skip (v8 _ _ (sQ fun _ w2 => blockQ fun _ w3 => sR fun _ w4 => Ym (iV B) (eh e9) (Ya (iV B) e0 (wK w4 (bE p fun A0 f0 p => bE p fun A1 f1 p => bE p fun A2 j2 p => bE p fun w5 w6 p => ?_)))))
      refine bE p fun A3 j3 p => bE p fun A4 w7 p => dR [0, 0, 3, 7, 0, 0, 0, 96, 224, 0, 992, 2016, 0, 8160, 0, 32736, 65535, 131071] [17] 1 folM ?_
      replace b := b.drew
      refine Dn [0, 1, 2, 3, 4, 5, 6, 7, 8, 9, 10, 11, 12, 13, 14, 15, 16] [] [17] (yR rfl (m_ c.v (eh a8)) (yR rfl (m_ (iV (d.length : Int)) (eh a9)) ?_))
      obtain ⟨A5, S⟩ := b.famI R1 f0
      refine yR rfl (yIa SLH_63 e0 e0 b rO0 S) (yR rfl (yF1 O_48 e0 b rO0 S rfl) (yR rfl (m_ (iV B) e0) (yR rfl (m_ c.v (eh a8)) (yR rfl (m_ (iV (d.length : Int)) (eh a9)) ?_))))
      obtain ⟨A6, b0⟩ := b.famI R1 f1
      refine yR rfl (yIa SLH_63 e0 e0 b rO0 b0) (yR rfl (yF1 O_48 e0 b rO0 b0 rfl) (yR rfl (m_ (iV B) e0) (yR rfl (yIa SL_48 e0 e0 b (rdF R1 b0 f1) j2) (yR rfl (yI O_3 e0 b (rdF R1 b0 f1) j2) (yR rfl (m_ (iV c8) (eh i8)) (yR rfl (ymul e0 e0) (yR rfl (m_ (iV m) (eh e8)) (yR rfl (yrem e0 e0 w6) (yR rfl (yIs SL_48 e0 e0 b (rdF R1 S f0) j3) (Rn QSn ?_))))))))))
      refine Lc1 rfl ?_
      replace b := b.k10
      refine LT wn (r_sti (cs := [iV w5]) (b.foc S f0) O_3 rfl e0 e0 rfl mkI j3) fun w b => ?_
      replace b := b.unfoc' S w7
      refine Dz [] [] (Rn QSn (w3 _ _ _ (w2 _ _ (wR (yY (yadd (eh e9) rfl) (Ym (iV (wa .i64 B 1)) e0 (wN ?_)))))))
      cases p
      exact v5 _ _ _ rfl ⟨_, _, _, rfl, rfl, a8, e8, i5, i6, i7, a9, i8, i9, j0, j1, rfl, (b.k2h)⟩
     ·refine wp_exit (v9 _ _ _ rfl ?_)
      cases p
      exact v6 _ _ _ _ rfl rfl (p9 _ _ _ a8 e8 i5 i6 i7 a9 i9 j0 b (v4 _ rfl))
    refine cIf e0 i (fun w8 i => ?_) fun w8 i => ?_
    ·refine sQ fun _ w9 => bE i fun A7 j4 i => bE i fun A8 j5 i => bE i fun A9 f2 i => bE i fun B0 j6 i => dR [0, 0, 0, 0, 0, 0, 48, 112, 0, 0, 768, 1792, 4083, 8179, 16383, 32767] [13, 15] 2 folM ?_
     replace b := b.drew
     refine Dn [0, 1, 2, 3, 4, 5, 6, 7, 8, 9, 10, 11, 12] [] [13] (yR rfl (m_ c.v (eh y)) (yR rfl (m_ (iV (d.length : Int)) e0) (yR rfl (m_ c.v (eh y)) (yR rfl (m_ (iV (wa .i64 (d.length : Int) F)) e0) (yR rfl (m_ c.v (eh y)) (yR rfl (m_ (iV (wa .i64 (d.length : Int) F)) e0) ?_))))))
     obtain ⟨j7, f3⟩ := b.famI R2 j4
     refine yR rfl (yIa SLH_63 e0 e0 b rO1 f3) (yR rfl (yF1 O_48 e0 b rO1 f3 rfl) (yR rfl (m_ c.v (eh y)) (yR rfl (m_ (iV (d.length : Int)) e0) ?_)))
     obtain ⟨j8, f4⟩ := b.famI R2 j5
     refine yR rfl (yIa SLH_63 e0 e0 b rO1 f4) (yR rfl (yF1 O_48 e0 b rO1 f4 rfl) ?_)
     obtain ⟨B1, b1⟩ := setI_len (u := j7) f2 (b.famL (mtR (mtR mhR)))
     refine yR rfl (yIs SLH_63 e0 e0 b rO1 b1) (Rn QSn ?_)
     refine Lc1 rfl ?_
     replace b := b.k10
     refine LT wn (r_sti (cs := [j7.v]) b O_48 rfl e0 e0 rfl (mkF rfl) b1) fun w b => Dn [14] [2, 3] [15] ?_
     obtain ⟨B2, f5⟩ := setI_len (u := j8) j6 (swap_len f2 b1 (b.famL (mtR (mtR mhR))))
     refine yR rfl (yIs SLH_63 e0 e0 b rO0 f5) (Rn (yS rfl (m_ c.v (eh y)) (yS rfl (m_ (iV (wa .i64 (d.length : Int) F)) e0) QSn)) ?_)
     refine Lc1 rfl ?_
     refine LT wn (r_sti (cs := [j8.v]) b O_48 rfl e0 e0 rfl (mkF rfl) f5) fun w b => ?_
     replace b := (b.k1f).fswap f3 j4 f4 j5 b1 f2 f5 j6
     refine Dz [] [] (Rn QSn (w9 _ _ (wR (Ym (iV T) (eh L) (yY (yneg e0) (Ym (iV m) (eh U) (bE i fun x0 x2 i => yC (yCall FN_123 (a2 e0 e0)) (modular_mod_ok x2 b) ?_)))))))
     rintro _ w ⟨rfl, b⟩
     refine ⟨_, rfl, ?_⟩
     exact Ya (iV x0) e0 (wN (g6 _ _ _ _ _ y U E rfl rfl rfl V N (b.k2i) i))
    ·exact wp_skip (g6 _ _ _ _ _ y U E L rfl rfl V N (b.k1o) i)
 ·refine wp_exit (l8 _ _ _ rfl ?_)
  cases i
  exact g3 _ _ _ _ rfl rfl (g0 _ _ _ _ _ _ _ E L b (g2 _ rfl))
theorem modular_Rank_ok {j : L2} {c : Int} {d : Hdr} {out : Int × Int} (a : modular_Rank j c = some out) (k : imm S1 d.v j ∈ ros) (b : St w0 ros rs w) :
  Calls Tryz.prog 43 #[d.v, iV c] w (fun e w => e = .returned (.tuple #[iV out.1, iV out.2]) ∧ St w0 ros rs w) := by
 refine enterQ Tryz.func43 rfl Tryz.ntmps43 rfl fun Q l => sR fun _ m => Ya (iV 0) rfl (Ya (iV 0) rfl (wK m (sR fun _ n => Ym d.v e0 (Ym (iV c) e0 (bE a fun f o a => yC (yCall FN_89 (a2 e0 e0)) (modular_check_ok o k b) ?_)))))
 rintro _ w ⟨rfl, b⟩
 refine ⟨_, rfl, ?_⟩
 refine Ya (iV f) e0 (wK n (seqQ fun z p q => sR fun _ r => Ym (iV f) e0 (yY (yneq e0 rfl) (wK r ?_))))
 rcases iteS a with ⟨i, a⟩ | ⟨i, a⟩
 ·refine condF e0 (nF (dT i)) (wp_skip (p _ _ (sR fun _ s => Ym d.v e0 (Ym (iV c) e0 (bE a fun A t a => yC (yCall FN_91 (a2 e0 e0)) (modular_reduced_ok t k b) ?_)))))
  rintro _ w ⟨B, C, rfl, b⟩
  refine ⟨_, rfl, ?_⟩
  refine Ym (iV c) e0 (bE a fun g u a => yC (yCall FN_90 (a2 e0 e0)) (modular_echelon_ok u b) ?_)
  rintro _ w ⟨D, h, rfl, b⟩
  refine ⟨_, rfl, ?_⟩
  refine Ym (.tuple #[h.v, iV g.2.2]) e0 (yY (x_ h.v e0) (yY (x_ (iV g.2.2) e0) (Ya h.v e0 (Ya (iV g.2.2) e0 (wK s (sR fun _ x => Ym h.v e0 (yY (yLen SL_48 e0 b rO2) (Ya (iV (g.2.1.length : Int)) e0 (Ya (iV 0) rfl (wN ?_))))))))))
  refine x _ _ (wp_ret ?_)
  cases a
  exact l _ _ _ (fin2r Tryz.results43 ⟨rfl, rfl⟩ ⟨rfl, rfl⟩ ⟨rfl, (b.k1c)⟩)
 ·refine condT e0 (nT (dF i)) (sR fun _ y => Ym (iV f) e0 (Ya (iV 0) rfl (Ya (iV f) e0 (wK y (wp_ret (q _ _ _ rfl ?_))))))
  cases a
  exact l _ _ _ (fin2r Tryz.results43 ⟨rfl, rfl⟩ ⟨rfl, rfl⟩ ⟨rfl, b⟩)
theorem sparseref01_mulMag_ok {F G : LI} {l h : Hdr} {out : LI} (m : sparseref01_mulMag F G = some out) (x : imm (rI .u32) l.v F ∈ ros) (n : imm (rI .u32) h.v G ∈ ros) (b : St w0 ros rs w) :
  Calls Tryz.prog 115 #[l.v, h.v] w (fun e w => ∃ (H : Hdr), e = .returned (H.v) ∧ St w0 ros (row 103 (rI .u32) H.v out :: rs) w) := by
 refine enterQ Tryz.func115 rfl Tryz.ntmps115 rfl fun Q X => sR fun _ Z => Ya hnil.v rfl (wK Z (sR fun _ a0 => Ym l.v e0 (yY (yLen SL_29 e0 b (rdI x)) (Ym h.v e0 (yY (yLen SL_29 e0 b (rdI n)) (yY (yadd e0 e0) (bE m fun e3 a1 m => ?_)))))))
 refine yH (rMk b SL_29 e0 a1) fun c w b => Ya c.v e0 (wK a0 (sQ fun _ a2 => sR fun _ a3 => Ya (iV 0) rfl (wK a3 (blockQ fun a4 a5 => bE m fun a6 a7 m => ?_))))
 have a8 : ∀ (A : LI) (f : FV) w, f 5 = c.v → St w0 ros (row 103 (rI .u32) c.v A :: rs) w → A = a6 → a4 (.exit 0) (fr 66 f) w := by
  intro A f w a9 b ho
  subst ho
  refine a5 _ _ _ (a2 _ _ (sR fun _ b0 => Ym c.v (eh a9) (Ya c.v e0 (wK b0 (wp_ret ?_)))))
  cases m
  exact X _ _ _ (fin1r Tryz.results115 ⟨rfl, rfl⟩ ⟨_, rfl, b⟩)
 refine loopQ (fun s a w => ∃ (B : LI) (g : Int) (f : FV), (B, g) = s ∧ a = fr 66 f ∧ f 0 = l.v ∧ f 1 = h.v ∧ f 5 = c.v ∧ f 6 = iV g ∧ St w0 ros (row 103 (rI .u32) c.v B :: rs) w) a7 ⟨_, _, _, rfl, rfl, rfl, rfl, rfl, rfl, b⟩ ?_
 rintro _ _ w e4 ⟨B, g, f, rfl, rfl, I, b1, J, K, b⟩ i b2 e5 b3 b4
 refine seqQ fun e6 b5 b6 => sR fun _ b7 => Ym (iV g) (eh K) (Ym l.v (eh I) (yY (yLen SL_29 e0 b (rdI x)) (yY (ylss e0 e0) (wK b7 ?_))))
 refine cIf e0 i (fun b8 i => ?_) fun b8 i => ?_
 ·refine wp_skip (b5 _ _ (sQ fun _ b9 => blockQ fun _ c0 => sR fun _ c1 => Ya (.int .u64 0) rfl (wK c1 (sQ fun _ c2 => sR fun _ c3 => Ya (iV 0) rfl (wN ?_)))))
  refine c3 _ _ (blockQ fun c4 c5 => bE i fun c6 c7 i => ?_)
  have c8 : ∀ (C : LI) (o : Int) (f : FV) w, f 0 = l.v → f 1 = h.v → f 5 = c.v → f 6 = iV g → f 7 = .int .u64 o → St w0 ros (row 103 (rI .u32) c.v C :: rs) w → (C, o) = c6 → c4 (.exit 2) (fr 66 f) w := by
   intro C o f w c9 L N O d0 b ho
   subst ho
   refine c5 _ _ _ (c2 _ _ (wR (Ym c.v (eh N) (Ym (iV g) (eh O) (Ym h.v (eh L) (yY (yLen SL_29 e0 b (rdI n)) (yY (yadd e0 e0) (Ym (.int .u64 o) (eh d0) (yY (ycv (k' := .u32) (by kernel_rfl) (by kernel_rfl) e0) (bE i fun e7 R i => yY (yIs SL_29 e0 e0 b rO0 R) (yT (r_sti (cs := [.int .u32 (wc .u32 o)]) b O_103 rfl e0 e0 rfl mkI R) fun w b => ?_)))))))))))
   refine wN (c0 _ _ _ (b9 _ _ (wR (Ym (iV g) (eh O) (yY (yadd e0 rfl) (Ya (iV (wa .i64 g 1)) e0 (wN ?_)))))))
   cases i
   exact b3 _ _ _ rfl ⟨_, _, _, rfl, rfl, c9, L, N, rfl, b⟩
  refine loopQ (fun s a w => ∃ (D : LI) (j k : Int) (f : FV), (D, j, k) = s ∧ a = fr 66 f ∧ f 0 = l.v ∧ f 1 = h.v ∧ f 5 = c.v ∧ f 6 = iV g ∧ f 7 = .int .u64 j ∧ f 8 = iV k ∧ St w0 ros (row 103 (rI .u32) c.v D :: rs) w) c7 ⟨_, _, _, _, rfl, rfl, I, b1, J, K, rfl, rfl, b⟩ ?_
  rintro _ _ w e8 ⟨D, j, k, f, rfl, rfl, E, y, z, p, S, q, b⟩ d d1 e9 d2 d3
  refine seqQ fun f0 d4 d5 => sR fun _ d6 => Ym (iV k) (eh q) (Ym h.v (eh y) (yY (yLen SL_29 e0 b (rdI n)) (yY (ylss e0 e0) (wK d6 ?_))))
  refine cIf e0 d (fun d7 d => ?_) fun d7 d => ?_
  ·refine wp_skip (d4 _ _ (sQ fun _ d8 => blockQ fun _ d9 => sQ fun _ e1 => bE d fun r T d => bE d fun t U d => bE d fun u V d => dR [0, 0, 0, 6, 14, 30, 0, 0, 192, 448, 960, 2046, 4095, 0, 0, 0, 49152, 122880, 253952, 516096, 1048575, 2097151] [21] 1 folM ?_))
   replace b := b.drew
   refine Dn [0, 1, 2, 3, 4, 5, 6, 7, 8, 9, 10, 11, 12, 13, 14, 15, 16, 17, 18, 19, 20] [] [21] (yR rfl (m_ (.int .u64 j) (eh S)) (yR rfl (m_ l.v (eh E)) (yR rfl (m_ (iV g) (eh p)) (yR rfl (yIa SL_29 e0 e0 b (rdI x) T) (yR rfl (yI O_103 e0 b (rdI x) T) (yR rfl (ycv (k' := .u64) (by kernel_rfl) (by kernel_rfl) e0) (yR rfl (m_ h.v (eh y)) (yR rfl (m_ (iV k) (eh q)) (yR rfl (yIa SL_29 e0 e0 b (rdI n) U) (yR rfl (yI O_103 e0 b (rdI n) U) (yR rfl (ycv (k' := .u64) (by kernel_rfl) (by kernel_rfl) e0) (yR rfl (ymul e0 e0) (yR rfl (yadd e0 e0) ?_)))))))))))))
   refine yR rfl (m_ c.v (eh z)) (yR rfl (m_ (iV g) (eh p)) (yR rfl (m_ (iV k) (eh q)) (yR rfl (yadd e0 e0) (yR rfl (yIa SL_29 e0 e0 b rO0 V) (yR rfl (yI O_103 e0 b rO0 V) (yR rfl (ycv (k' := .u64) (by kernel_rfl) (by kernel_rfl) e0) (yR rfl (yadd e0 e0) (Rn QSn ?_))))))))
   refine Lc1 rfl ?_
   refine Ly wn (a_ (.int .u64 (wa .u64 (wa .u64 j (wm .u64 (wc .u64 r) (wc .u64 t))) (wc .u64 u))) e0) (Dz [] [] (Rn QSn (e1 _ _ (sR fun _ e2 => Ym c.v (eh z) (Ym (iV g) (eh p) (Ym (iV k) (eh q) (yY (yadd e0 e0) (Ym (.int .u64 (wa .u64 (wa .u64 j (wm .u64 (wc .u64 r) (wc .u64 t))) (wc .u64 u))) e0 (yY (ycv (k' := .u32) (by kernel_rfl) (by kernel_rfl) e0) (bE d fun f1 W d => yY (yIs SL_29 e0 e0 b rO0 W) ?_))))))))))
   refine yT (r_sti (cs := [.int .u32 (wc .u32 (wa .u64 (wa .u64 j (wm .u64 (wc .u64 r) (wc .u64 t))) (wc .u64 u)))]) b O_103 rfl e0 e0 rfl mkI W) fun w b => wK e2 (wR (Ym (.int .u64 (wa .u64 (wa .u64 j (wm .u64 (wc .u64 r) (wc .u64 t))) (wc .u64 u))) e0 (yY (yshrc e0 rfl) (Ya (.int .u64 (wsrc .u64 (wa .u64 (wa .u64 j (wm .u64 (wc .u64 r) (wc .u64 t))) (wc .u64 u)) 32)) e0 (wN (d9 _ _ _ (d8 _ _ (wR (Ym (iV k) (eh q) (yY (yadd e0 rfl) ?_))))))))))
   refine Ya (iV (wa .i64 k 1)) e0 (wN ?_)
   cases d
   exact d2 _ _ _ rfl ⟨_, _, _, _, rfl, rfl, E, y, z, p, rfl, rfl, b⟩
  ·refine wp_exit (d5 _ _ _ rfl ?_)
   cases d
   exact d3 _ _ _ _ rfl rfl (c8 _ _ _ _ E y z p S b (d1 _ rfl))
 ·refine wp_exit (b6 _ _ _ rfl ?_)
  cases i
  exact b4 _ _ _ _ rfl rfl (a8 _ _ _ J b (b2 _ rfl))
theorem sparseref01_Mul_ok {c : Bool} {h : LI} {d : Bool} {i : LI} {g f : Hdr} {out : Bool × LI} (b : sparseref01_Mul c h d i = some out) (m : imm (rI .u32) g.v h ∈ ros) (n : imm (rI .u32) f.v i ∈ ros) (a : St w0 ros rs w) :
  Calls Tryz.prog 86 #[.agg #[.bool c, g.v], .agg #[.bool d, f.v]] w (fun e w => ∃ (j : Hdr), e = .returned (.agg #[.bool out.1, j.v]) ∧ St w0 ros (row 103 (rI .u32) j.v out.2 :: rs) w) := by
 refine enterQ Tryz.func86 rfl Tryz.ntmps86 rfl fun Q o => sR fun _ p => yBb (r_box (vals := [.bool c, g.v]) a e0 rfl) fun x w a => yBb (r_box (vals := [.bool d, f.v]) a e0 rfl) fun y w a => yBb (rAl a ZT_31) fun z w a => wK p (sQ fun _ q => bE b fun A r b => bE b fun B s b => ?_)
 refine bE b fun C t b => bE b fun k u b => dR [0, 1, 0, 4, 15, 0, 32, 96, 0, 256, 992, 2016, 4095, 8191] [7, 10, 11, 12, 13] 5 folM ?_
 replace a := a.drew
 refine Dn [0, 1, 2, 3, 4, 5, 6, 8, 9] [] [7] (yR rfl (yFb FL_31_0 e0) (yR rfl (lb_ (.bool c) O_4 e0 a R2) (yR rfl (yFb FL_31_0 e0) (yR rfl (lb_ (.bool d) O_4 e0 a R1) (yR rfl (yneb (by kernel_rfl) e0 e0) (yR rfl (yFb FL_31_1 e0) (yR rfl (lb_ g.v O_29 e0 a R2) (yR rfl (yFb FL_31_1 e0) (yR rfl (lb_ f.v O_29 e0 a R1) (Rn QSn ?_))))))))))
 refine Lc1 rfl ?_
 refine Lk wn (yCall FN_116 (a1 e0)) (sparseref01_trim_ok r m a) ?_
 rintro _ w ⟨D, rfl, a⟩
 refine ⟨_, rfl, ?_⟩
 refine Dn [] [0, 1, 2, 3, 4, 8, 9] [10] (Rn (yS rfl (yFb FL_31_0 e0) (yS rfl (lb_ (.bool c) O_4 e0 a R3) (yS rfl (yFb FL_31_0 e0) (yS rfl (lb_ (.bool d) O_4 e0 a R2) (yS rfl (yneb (by kernel_rfl) e0 e0) (yS rfl (yFb FL_31_1 e0) (yS rfl (lb_ f.v O_29 e0 a R2) QSn))))))) ?_)
 refine Lc1 rfl ?_
 refine Lk wn (yCall FN_116 (a1 e0)) (sparseref01_trim_ok s n a) ?_
 rintro _ w ⟨E, rfl, a⟩
 refine ⟨_, rfl, ?_⟩
 refine Dn [] [0, 1, 2, 3, 4] [11] (Rn (yS rfl (yFb FL_31_0 e0) (yS rfl (lb_ (.bool c) O_4 e0 a R4) (yS rfl (yFb FL_31_0 e0) (yS rfl (lb_ (.bool d) O_4 e0 a R3) (yS rfl (yneb (by kernel_rfl) e0 e0) QSn))))) ?_)
 refine Lc1 rfl ?_
 replace a := ((a.k10).fz).fz
 refine Lk wn (yCall FN_115 (a2 e0 e0)) (sparseref01_mulMag_ok t F1 F0 a) ?_
 rintro _ w ⟨F, rfl, a⟩
 refine ⟨_, rfl, ?_⟩
 refine Dn [] [0, 1, 2, 3, 4] [12] (Rn (yS rfl (yFb FL_31_0 e0) (yS rfl (lb_ (.bool c) O_4 e0 a R3) (yS rfl (yFb FL_31_0 e0) (yS rfl (lb_ (.bool d) O_4 e0 a R2) (yS rfl (yneb (by kernel_rfl) e0 e0) QSn))))) ?_)
 refine Lc1 rfl ?_
 replace a := a.fz
 refine Lk wn (yCall FN_110 (a2 e0 e0)) (sparseref01_make1_ok u F0 a) ?_
 rintro _ w ⟨l, rfl, a⟩
 refine ⟨_, rfl, ?_⟩
 refine Dn [] [] [13] (Rn QSn ?_)
 refine Lc1 rfl ?_
 replace a := a.k10
 refine LT wn (r_stbn (vals' := [.bool k.1, l.v]) (us := [.bool k.1, l.v]) a ST_31 e0 e0 rfl rfl (one_of rfl) rfl) fun w a => Dz [] [] (Rn QSn (q _ _ (wp_ret ?_)))
 cases b
 exact o _ _ _ (fin1r Tryz.results86 (rcs2 rfl rfl a R0 ST_31 rfl) ⟨_, rfl, ((a.k2j).facts (allT (allT (allT allI))))⟩)
theorem sparseref01_addMag_ok {G B : LI} {i j : Hdr} {out : LI} (c : sparseref01_addMag G B = some out) (u : imm (rI .u32) i.v G ∈ ros) (x : imm (rI .u32) j.v B ∈ ros) (b : St w0 ros rs w) :
  Calls Tryz.prog 142 #[i.v, j.v] w (fun e w => ∃ (H : Hdr), e = .returned (H.v) ∧ St w0 ros (row 103 (rI .u32) H.v out :: rs) w) := by
 refine enterQ Tryz.func142 rfl Tryz.ntmps142 rfl fun Q U => sR fun _ V => Ya hnil.v rfl (wK V (sR fun _ W => Ya hnil.v rfl (wK W (sR fun _ X => Ya (.int .u64 0) rfl ?_))))
 refine wK X (sQ fun _ Z => sR fun _ a0 => Ya (iV 0) rfl (wK a0 (blockQ fun a1 a2 => bE c fun a3 a4 c => ?_)))
 have a5 : ∀ (C : LI) (m : Int) (y : Hdr) (f : FV) w, f 5 = y.v → f 6 = .int .u64 m → St w0 ros (row 103 (rI .u32) y.v C :: rs) w → (C, m) = a3 → a1 (.exit 0) (fr 51 f) w := by
  intro C m y f w a6 a7 b ho
  subst ho
  refine a2 _ _ _ (Z _ _ (sR fun _ a8 => Ym y.v (eh a6) (Ym (.int .u64 m) (eh a7) (yY (ycv (k' := .u32) (by kernel_rfl) (by kernel_rfl) e0) (yH (rLt (n := 1) (l := [wc .u32 m]) b SL_29 [.int .u32 (wc .u32 m)] (bp1 e0) rfl rfl (mks1 (cs := [.int .u32 (wc .u32 m)]) rfl mkI mks0)) fun d7 w b => bE c fun d8 a9 c => yH (rAp (b.k10) SL_29 e0 e0 rO1 a9) fun b0 w b => Ya b0.v e0 (wN ?_))))))
  refine a8 _ _ (wp_ret ?_)
  cases c
  exact U _ _ _ (fin1r Tryz.results142 ⟨rfl, rfl⟩ ⟨_, rfl, (b.k11)⟩)
 replace b := b.rowNh 103 (rI .u32)
 refine loopQ (fun s a w => ∃ (o : LI) (p d : Int) (f : FV) (k : Hdr), (o, p, d) = s ∧ a = fr 51 f ∧ f 0 = i.v ∧ f 1 = j.v ∧ f 5 = k.v ∧ f 6 = .int .u64 p ∧ f 7 = iV d ∧ St w0 ros (row 103 (rI .u32) k.v o :: rs) w) a4 ⟨_, _, _, _, _, rfl, rfl, rfl, rfl, rfl, rfl, rfl, b⟩ ?_
 rintro _ _ w I ⟨o, p, d, f, k, rfl, rfl, q, D, E, F, r, b⟩ g b1 d9 b2 b3
 refine seqQ fun e1 b4 b5 => sR fun _ b6 => Ym (iV d) (eh r) (Ym i.v (eh q) (yY (yLen SL_29 e0 b (rdI u)) (Ym j.v (eh D) (yY (yLen SL_29 e0 b (rdI x)) (yY (ymax e0 e0) (yY (ylss e0 e0) (wK b6 ?_)))))))
 refine cIf e0 g (fun b7 g => ?_) fun b7 g => ?_
 ·refine wp_skip (b4 _ _ (sQ fun _ b8 => blockQ fun _ b9 => sQ fun c0 c1 => sR fun _ c2 => Ym (iV d) (eh r) (Ym i.v (eh q) (yY (yLen SL_29 e0 b (rdI u)) (yY (ylss e0 e0) (wK c2 ?_))))))
  have J : ∀ (t : Int) (f : FV) w, f 0 = i.v → f 1 = j.v → f 5 = k.v → f 6 = .int .u64 t → f 7 = iV d → St w0 ros (row 103 (rI .u32) k.v o :: rs) w → sparseref01_addMag_j6 d B o t = some I → c0 .normal (fr 51 f) w := by
   intro t f w K z L N A b c
   refine c1 _ _ (sQ fun c3 c4 => sR fun _ c5 => Ym (iV d) (eh A) (Ym j.v (eh z) (yY (yLen SL_29 e0 b (rdI x)) (yY (ylss e0 e0) (wK c5 ?_)))))
   have O : ∀ (h : Int) (f : FV) w, f 0 = i.v → f 1 = j.v → f 5 = k.v → f 6 = .int .u64 h → f 7 = iV d → St w0 ros (row 103 (rI .u32) k.v o :: rs) w → sparseref01_addMag_j7 o d h = some I → c3 .normal (fr 51 f) w := by
    intro h f w c6 c7 c8 R c9 b c
    refine c4 _ _ (sR fun _ d0 => Ym k.v (eh c8) (Ym (.int .u64 h) (eh R) (yY (ycv (k' := .u32) (by kernel_rfl) (by kernel_rfl) e0) (yH (rLt (n := 1) (l := [wc .u32 h]) b SL_29 [.int .u32 (wc .u32 h)] (bp1 e0) rfl rfl (mks1 (cs := [.int .u32 (wc .u32 h)]) rfl mkI mks0)) fun e2 w b => bE c fun e3 d1 c => yH (rAp (b.k10) SL_29 e0 e0 rO1 d1) fun d2 w b => Ya d2.v e0 (wK d0 ?_)))))
    refine wR (Ym (.int .u64 h) (eh R) (yY (yshrc e0 rfl) (Ya (.int .u64 (wsrc .u64 h 32)) e0 (wN (b9 _ _ _ (b8 _ _ (wR (Ym (iV d) (eh c9) (yY (yadd e0 rfl) (Ya (iV (wa .i64 d 1)) e0 (wN ?_)))))))))))
    cases c
    exact b2 _ _ _ rfl ⟨_, _, _, _, _, rfl, rfl, c6, c7, rfl, rfl, rfl, (b.k11)⟩
   refine cIf e0 c (fun d3 c => ?_) fun d3 c => ?_
   ·exact wR (Ym (.int .u64 t) (eh N) (Ym j.v (eh z) (Ym (iV d) (eh A) (bE c fun d4 S c => yY (yIa SL_29 e0 e0 b (rdI x) S) (yY (yI O_103 e0 b (rdI x) S) (yY (ycv (k' := .u64) (by kernel_rfl) (by kernel_rfl) e0) (yY (yadd e0 e0) (Ya (.int .u64 (wa .u64 t (wc .u64 d4))) e0 (wN (O _ _ _ K z L rfl A b c))))))))))
   ·exact wp_skip (O _ _ _ K z L N A b c)
  refine cIf e0 g (fun d5 g => ?_) fun d5 g => ?_
  ·exact wR (Ym (.int .u64 p) (eh F) (Ym i.v (eh q) (Ym (iV d) (eh r) (bE g fun d6 T g => yY (yIa SL_29 e0 e0 b (rdI u) T) (yY (yI O_103 e0 b (rdI u) T) (yY (ycv (k' := .u64) (by kernel_rfl) (by kernel_rfl) e0) (yY (yadd e0 e0) (Ya (.int .u64 (wa .u64 p (wc .u64 d6))) e0 (wN (J _ _ _ q D E rfl r b g))))))))))
  ·exact wp_skip (J _ _ _ q D E F r b g)
 ·refine wp_exit (b5 _ _ _ rfl ?_)
  cases g
  exact b3 _ _ _ _ rfl rfl (a5 _ _ _ _ _ E F b (b1 _ rfl))
theorem sparseref01_cmpMag_ok {n z : LI} {h i : Hdr} {out : Int} (d : sparseref01_cmpMag n z = some out) (j : imm (rI .u32) h.v n ∈ ros) (k : imm (rI .u32) i.v z ∈ ros) (b : St w0 ros rs w) :
  Calls Tryz.prog 143 #[h.v, i.v] w (fun e w => e = .returned (iV out) ∧ St w0 ros rs w) := by
 refine enterQ Tryz.func143 rfl Tryz.ntmps143 rfl fun Q m => sR fun _ K => Ya (iV 0) rfl (wK K (seqQ fun b7 L A => sR fun _ N => Ym h.v e0 (yY (yLen SL_29 e0 b (rdI j)) (Ym i.v e0 (yY (yLen SL_29 e0 b (rdI k)) (yY (yneq e0 e0) ?_))))))
 refine wK N ?_
 rcases iteS d with ⟨o, d⟩ | ⟨o, d⟩
 ·refine condF e0 (nF (dT o)) (wp_skip (L _ _ (seqQ fun b8 O R => sR fun _ S => Ym h.v e0 (yY (yLen SL_29 e0 b (rdI j)) (yY (ysub e0 rfl) (Ya (iV (ws .i64 (n.length : Int) 1)) e0 (wK S (blockQ fun B C => bE d fun D T d => ?_))))))))
  have U : ∀ (f : FV) w, St w0 ros rs w → .inl () = D → B (.exit 0) (fr 41 f) w := by
   intro f w b ho
   subst ho
   refine C _ _ _ (O _ _ (sR fun _ V => Ya (iV 0) rfl (wK V (wp_ret ?_))))
   cases d
   exact m _ _ _ (fin1r Tryz.results143 ⟨rfl, rfl⟩ ⟨rfl, b⟩)
  have E : ∀ (p : Int) (f : FV) w, f 4 = iV p → St w0 ros rs w → .inr p = D → B .ret (fr 41 f) w := by
   intro p f w W b ho
   subst ho
   refine C _ _ _ (R _ _ _ rfl ?_)
   cases d
   exact m _ _ _ (fin1r Tryz.results143 ⟨rfl, W⟩ ⟨rfl, b⟩)
  refine loopQ (fun s a w => ∃ (g : Int) (f : FV), g = s ∧ a = fr 41 f ∧ f 0 = h.v ∧ f 1 = i.v ∧ f 5 = iV g ∧ St w0 ros rs w) T ⟨_, _, rfl, rfl, rfl, rfl, rfl, b⟩ ?_
  rintro _ _ w b9 ⟨g, f, rfl, rfl, q, r, l, b⟩ c t c0 X u
  refine seqQ fun c1 Z a0 => sR fun _ a1 => Ym (iV g) (eh l) (yY (ygeq e0 rfl) (wK a1 ?_))
  refine cIf e0 c (fun a2 c => ?_) fun a2 c => ?_
  ·refine wp_skip (Z _ _ (seqQ fun c2 a3 F => blockQ fun _ x => sQ fun _ a4 => bE c fun c3 G c => bE c fun c4 H c => dR [0, 0, 3, 7, 0, 0, 48, 112, 255] [] 0 folM ?_))
   replace b := b.drew
   refine Dz [0, 1, 2, 3, 4, 5, 6, 7, 8] [] (yR rfl (m_ h.v (eh q)) (yR rfl (m_ (iV g) (eh l)) (yR rfl (yIa SL_29 e0 e0 b (rdI j) G) (yR rfl (yI O_103 e0 b (rdI j) G) (yR rfl (m_ i.v (eh r)) (yR rfl (m_ (iV g) (eh l)) (yR rfl (yIa SL_29 e0 e0 b (rdI k) H) (yR rfl (yI O_103 e0 b (rdI k) H) (yR rfl (yneq e0 e0) (Rn QSn (a4 _ _ ?_)))))))))))
   rcases iteS c with ⟨y, c⟩ | ⟨y, c⟩
   ·refine condF e0 (nF (dT y)) (wp_skip (x _ _ _ (a3 _ _ (wR (Ym (iV g) (eh l) (yY (ysub e0 rfl) (Ya (iV (ws .i64 g 1)) e0 (wN ?_))))))))
    cases c
    exact X _ _ _ rfl ⟨_, _, rfl, rfl, q, r, rfl, b⟩
   ·refine condT e0 (nT (dF y)) (seqQ fun c6 a5 a6 => sQ fun _ a7 => bE c fun c7 I c => bE c fun c8 J c => dR [0, 0, 3, 7, 0, 0, 48, 112, 255] [] 0 folM ?_)
    replace b := b.drew
    refine Dz [0, 1, 2, 3, 4, 5, 6, 7, 8] [] (yR rfl (m_ h.v (eh q)) (yR rfl (m_ (iV g) (eh l)) (yR rfl (yIa SL_29 e0 e0 b (rdI j) I) (yR rfl (yI O_103 e0 b (rdI j) I) (yR rfl (m_ i.v (eh r)) (yR rfl (m_ (iV g) (eh l)) (yR rfl (yIa SL_29 e0 e0 b (rdI k) J) (yR rfl (yI O_103 e0 b (rdI k) J) (yR rfl (ylss e0 e0) (Rn QSn (a7 _ _ ?_)))))))))))
    refine cIf e0 c (fun a8 c => ?_) fun a8 c => ?_
    ·refine sR fun _ a9 => Ya (iV (-1)) rfl (wK a9 (wp_ret (a6 _ _ _ rfl (x _ _ _ (F _ _ _ rfl ?_)))))
     cases c
     exact u _ _ _ _ rfl rfl (E _ _ _ rfl b (t _ rfl))
    ·refine wp_skip (a5 _ _ (sR fun _ b0 => Ya (iV 1) rfl (wK b0 (wp_ret (x _ _ _ (F _ _ _ rfl ?_))))))
     cases c
     exact u _ _ _ _ rfl rfl (E _ _ _ rfl b (t _ rfl))
  ·refine wp_exit (a0 _ _ _ rfl ?_)
   cases c
   exact u _ _ _ _ rfl rfl (U _ _ b (t _ rfl))
 ·refine condT e0 (nT (dF o)) (seqQ fun c9 b1 b2 => sR fun _ b3 => Ym h.v e0 (yY (yLen SL_29 e0 b (rdI j)) (Ym i.v e0 (yY (yLen SL_29 e0 b (rdI k)) (yY (ylss e0 e0) (wK b3 ?_))))))
  refine cIf e0 d (fun b4 d => ?_) fun b4 d => ?_
  ·refine sR fun _ b5 => Ya (iV (-1)) rfl (wK b5 (wp_ret (b2 _ _ _ rfl (A _ _ _ rfl ?_))))
   cases d
   exact m _ _ _ (fin1r Tryz.results143 ⟨rfl, rfl⟩ ⟨rfl, b⟩)
  ·refine wp_skip (b1 _ _ (sR fun _ b6 => Ya (iV 1) rfl (wK b6 (wp_ret (A _ _ _ rfl ?_)))))
   cases d
   exact m _ _ _ (fin1r Tryz.results143 ⟨rfl, rfl⟩ ⟨rfl, b⟩)
theorem sparseref01_subMag_ok {B C : LI} {j k : Hdr} {out : LI} (h : sparseref01_subMag B C = some out) (u : imm (rI .u32) j.v B ∈ ros) (x : imm (rI .u32) k.v C ∈ ros) (b : St w0 ros rs w) :
  Calls Tryz.prog 144 #[j.v, k.v] w (fun e w => ∃ (D : Hdr), e = .returned (D.v) ∧ St w0 ros (row 103 (rI .u32) D.v out :: rs) w) := by
 refine enterQ Tryz.func144 rfl Tryz.ntmps144 rfl fun Q I => sR fun _ J => Ya hnil.v rfl (wK J (sR fun _ K => Ya hnil.v rfl (wK K (sR fun _ L => Ya (.int .u64 0) rfl ?_))))
 refine wK L (sQ fun _ N => sR fun _ O => Ya (iV 0) rfl (wK O (blockQ fun R S => bE h fun T U h => ?_)))
 have V : ∀ (y : LI) (p : Hdr) (f : FV) w, f 5 = p.v → St w0 ros (row 103 (rI .u32) p.v y :: rs) w → y = T → R (.exit 0) (fr 41 f) w := by
  intro y p f w W b ho
  subst ho
  refine S _ _ _ (N _ _ (sR fun _ X => Ym p.v (eh W) (Ya p.v e0 (wK X (wp_ret ?_)))))
  cases h
  exact I _ _ _ (fin1r Tryz.results144 ⟨rfl, rfl⟩ ⟨_, rfl, b⟩)
 replace b := b.rowNh 103 (rI .u32)
 refine loopQ (fun s a w => ∃ (q : LI) (i d : Int) (f : FV) (m : Hdr), (q, i, d) = s ∧ a = fr 41 f ∧ f 0 = j.v ∧ f 1 = k.v ∧ f 5 = m.v ∧ f 6 = .int .u64 i ∧ f 7 = iV d ∧ St w0 ros (row 103 (rI .u32) m.v q :: rs) w) U ⟨_, _, _, _, _, rfl, rfl, rfl, rfl, rfl, rfl, rfl, b⟩ ?_
 rintro _ _ w Z ⟨q, i, d, f, m, rfl, rfl, r, t, z, a0, o, b⟩ c a1 c3 a2 a3
 refine seqQ fun c4 a4 a5 => sR fun _ a6 => Ym (iV d) (eh o) (Ym j.v (eh r) (yY (yLen SL_29 e0 b (rdI u)) (yY (ylss e0 e0) (wK a6 ?_))))
 refine cIf e0 c (fun a7 c => ?_) fun a7 c => ?_
 ·refine wp_skip (a4 _ _ (sQ fun _ a8 => blockQ fun _ a9 => sR fun _ b0 => Ym j.v (eh r) (Ym (iV d) (eh o) (bE c fun A E c => yY (yIa SL_29 e0 e0 b (rdI u) E) (yY (yI O_103 e0 b (rdI u) E) (yY (ycv (k' := .u64) (by kernel_rfl) (by kernel_rfl) e0) (Ym (.int .u64 i) (eh a0) (yY (ysub e0 e0) ?_))))))))
  refine Ya (.int .u64 (ws .u64 (wc .u64 A) i)) e0 (wK b0 (sQ fun b1 b2 => sR fun _ b3 => Ym (iV d) (eh o) (Ym k.v (eh t) (yY (yLen SL_29 e0 b (rdI x)) (yY (ylss e0 e0) (wK b3 ?_))))))
  have F : ∀ (g : Int) (f : FV) w, f 0 = j.v → f 1 = k.v → f 5 = m.v → f 7 = iV d → f 8 = .int .u64 g → St w0 ros (row 103 (rI .u32) m.v q :: rs) w → sparseref01_subMag_j4 q d g = some Z → b1 .normal (fr 41 f) w := by
   intro g f w b4 b5 b6 b7 G b h
   refine b2 _ _ (sR fun _ b8 => Ym m.v (eh b6) (Ym (.int .u64 g) (eh G) (yY (ycv (k' := .u32) (by kernel_rfl) (by kernel_rfl) e0) (yH (rLt (n := 1) (l := [wc .u32 g]) b SL_29 [.int .u32 (wc .u32 g)] (bp1 e0) rfl rfl (mks1 (cs := [.int .u32 (wc .u32 g)]) rfl mkI mks0)) fun c5 w b => bE h fun c6 b9 h => yH (rAp (b.k10) SL_29 e0 e0 rO1 b9) fun c0 w b => Ya c0.v e0 (wK b8 ?_)))))
   refine wR (Ym (.int .u64 g) (eh G) (yY (yshrc e0 rfl) (Ya (.int .u64 (wsrc .u64 g 63)) e0 (wN (a9 _ _ _ (a8 _ _ (wR (Ym (iV d) (eh b7) (yY (yadd e0 rfl) (Ya (iV (wa .i64 d 1)) e0 (wN ?_)))))))))))
   cases h
   exact a2 _ _ _ rfl ⟨_, _, _, _, _, rfl, rfl, b4, b5, rfl, rfl, rfl, (b.k11)⟩
  refine cIf e0 c (fun c1 c => ?_) fun c1 c => ?_
  ·exact wR (Ym (.int .u64 (ws .u64 (wc .u64 A) i)) e0 (Ym k.v (eh t) (Ym (iV d) (eh o) (bE c fun c2 H c => yY (yIa SL_29 e0 e0 b (rdI x) H) (yY (yI O_103 e0 b (rdI x) H) (yY (ycv (k' := .u64) (by kernel_rfl) (by kernel_rfl) e0) (yY (ysub e0 e0) (Ya (.int .u64 (ws .u64 (ws .u64 (wc .u64 A) i) (wc .u64 c2))) e0 (wN (F _ _ _ r t z o rfl b c))))))))))
  ·exact wp_skip (F _ _ _ r t z o rfl b c)
 ·refine wp_exit (a5 _ _ _ rfl ?_)
  cases c
  exact a3 _ _ _ _ rfl rfl (V _ _ _ _ z b (a1 _ rfl))
theorem sparseref01_Add_ok {c : Bool} {k : LI} {d : Bool} {l : LI} {i f : Hdr} {out : Bool × LI} (b : sparseref01_Add c k d l = some out) (t : imm (rI .u32) i.v k ∈ ros) (u : imm (rI .u32) f.v l ∈ ros) (a : St w0 ros rs w) :
  Calls Tryz.prog 111 #[.agg #[.bool c, i.v], .agg #[.bool d, f.v]] w (fun e w => ∃ (m : Hdr), e = .returned (.agg #[.bool out.1, m.v]) ∧ St w0 ros (row 103 (rI .u32) m.v out.2 :: rs) w) := by
 refine enterQ Tryz.func111 rfl Tryz.ntmps111 rfl fun Q j => sR fun _ x => yBb (r_box (vals := [.bool c, i.v]) a e0 rfl) fun W w a => yBb (r_box (vals := [.bool d, f.v]) a e0 rfl) fun X w a => yBb (rAl a ZT_31) fun Z w a => wK x (sQ fun _ y => bE b fun a0 z b => bE b fun a3 A b => ?_)
 refine dR [0, 1, 3, 0, 8, 31, 63, 127] [2, 5, 6, 7] 4 folM ?_
 replace a := a.drew
 refine Dn [0, 1, 3, 4] [] [2] (yR rfl (yFb FL_31_1 e0) (yR rfl (lb_ i.v O_29 e0 a R2) (yR rfl (yFb FL_31_1 e0) (yR rfl (lb_ f.v O_29 e0 a R1) (Rn QSn ?_)))))
 refine Lc1 rfl ?_
 refine Lk wn (yCall FN_116 (a1 e0)) (sparseref01_trim_ok z t a) ?_
 rintro _ w ⟨g, rfl, a⟩
 refine ⟨_, rfl, ?_⟩
 refine Dn [] [3, 4] [5] (Rn (yS rfl (yFb FL_31_1 e0) (yS rfl (lb_ f.v O_29 e0 a R2) QSn)) ?_)
 refine Lc1 rfl ?_
 refine Lk wn (yCall FN_116 (a1 e0)) (sparseref01_trim_ok A u a) ?_
 rintro _ w ⟨h, rfl, a⟩
 refine ⟨_, rfl, ?_⟩
 refine Dn [] [] [6] (Rn QSn ?_)
 refine Lc1 rfl ?_
 refine Ly wn (a_ g.v e0) (Dn [] [] [7] (Rn QSn ?_))
 refine Lc1 rfl ?_
 refine Ly wn (a_ h.v e0) (Dz [] [] (Rn QSn (y _ _ (seqQ fun a4 B C => sR fun _ D => yY (yFb FL_31_0 e0) (yY (lb_ (.bool c) O_4 e0 a R4) (yY (yFb FL_31_0 e0) (yY (lb_ (.bool d) O_4 e0 a R3) (yY (yeqb (by kernel_rfl) e0 e0) (wK D (cB e0 b (fun E b => ?_) fun E b => ?_))))))))))
 ·refine sQ fun _ F => bE b fun a5 G b => bE b fun n H b => dR [0, 1, 0, 0, 12, 31, 63] [4, 5, 6] 3 folM ?_
  replace a := a.drew
  refine Dn [0, 1, 2, 3] [] [4] (yR rfl (yFb FL_31_0 e0) (yR rfl (lb_ (.bool c) O_4 e0 a R4) (yR rfl (m_ g.v e0) (yR rfl (m_ h.v e0) (Rn QSn ?_)))))
  refine Lc1 rfl ?_
  replace a := ((a.k10).fz).fz
  refine Lk wn (yCall FN_142 (a2 e0 e0)) (sparseref01_addMag_ok G F1 F0 a) ?_
  rintro _ w ⟨a6, rfl, a⟩
  refine ⟨_, rfl, ?_⟩
  refine Dn [] [0, 1] [5] (Rn (yS rfl (yFb FL_31_0 e0) (yS rfl (lb_ (.bool c) O_4 e0 a R3) QSn)) ?_)
  refine Lc1 rfl ?_
  replace a := a.fz
  refine Lk wn (yCall FN_110 (a2 e0 e0)) (sparseref01_make1_ok H F0 a) ?_
  rintro _ w ⟨o, rfl, a⟩
  refine ⟨_, rfl, ?_⟩
  refine Dn [] [] [6] (Rn QSn ?_)
  refine Lc1 rfl ?_
  replace a := a.k10
  refine LT wn (r_stbn (vals' := [.bool n.1, o.v]) (us := [.bool n.1, o.v]) a ST_31 e0 e0 rfl rfl (one_of rfl) rfl) fun w a => Dz [] [] (Rn QSn (F _ _ (wp_ret (C _ _ _ rfl ?_))))
  cases b
  exact j _ _ _ (fin1r Tryz.results111 (rcs2 rfl rfl a R0 ST_31 rfl) ⟨_, rfl, ((a.k2j).facts (allT (allT (allT allI))))⟩)
 ·refine wp_skip (B _ _ (seqQ fun a7 I J => sR fun _ K => Ym g.v e0 (Ym h.v e0 (bE b fun a8 L b => ?_))))
  replace a := ((a.k10).fz).fz
  refine yC (yCall FN_143 (a2 e0 e0)) (sparseref01_cmpMag_ok L F1 F0 a) ?_
  rintro _ w ⟨rfl, a⟩
  refine ⟨_, rfl, ?_⟩
  refine yY (ygeq e0 rfl) (wK K ?_)
  refine cIf e0 b (fun N b => ?_) fun N b => ?_
  ·refine sQ fun _ O => bE b fun a9 R b => bE b fun p S b => dR [0, 1, 0, 0, 12, 31, 63] [4, 5, 6] 3 folM ?_
   replace a := a.drew
   refine Dn [0, 1, 2, 3] [] [4] (yR rfl (yFb FL_31_0 e0) (yR rfl (lb_ (.bool c) O_4 e0 a R2) (yR rfl (m_ g.v e0) (yR rfl (m_ h.v e0) (Rn QSn ?_)))))
   refine Lc1 rfl ?_
   refine Lk wn (yCall FN_144 (a2 e0 e0)) (sparseref01_subMag_ok R F1 F0 a) ?_
   rintro _ w ⟨b0, rfl, a⟩
   refine ⟨_, rfl, ?_⟩
   refine Dn [] [0, 1] [5] (Rn (yS rfl (yFb FL_31_0 e0) (yS rfl (lb_ (.bool c) O_4 e0 a R3) QSn)) ?_)
   refine Lc1 rfl ?_
   replace a := a.fz
   refine Lk wn (yCall FN_110 (a2 e0 e0)) (sparseref01_make1_ok S F0 a) ?_
   rintro _ w ⟨q, rfl, a⟩
   refine ⟨_, rfl, ?_⟩
   refine Dn [] [] [6] (Rn QSn ?_)
   refine Lc1 rfl ?_
   replace a := a.k10
   refine LT wn (r_stbn (vals' := [.bool p.1, q.v]) (us := [.bool p.1, q.v]) a ST_31 e0 e0 rfl rfl (one_of rfl) rfl) fun w a => Dz [] [] (Rn QSn (O _ _ (wp_ret (J _ _ _ rfl ?_))))
   cases b
   exact j _ _ _ (fin1r Tryz.results111 (rcs2 rfl rfl a R0 ST_31 rfl) ⟨_, rfl, ((a.k2j).facts (allT (allT (allT allI))))⟩)
  ·refine wp_skip (I _ _ (sQ fun _ T => bE b fun b1 U b => bE b fun r V b => dR [0, 1, 0, 0, 12, 31, 63] [4, 5, 6] 3 folM ?_))
   replace a := a.drew
   refine Dn [0, 1, 2, 3] [] [4] (yR rfl (yFb FL_31_0 e0) (yR rfl (lb_ (.bool d) O_4 e0 a R1) (yR rfl (m_ h.v e0) (yR rfl (m_ g.v e0) (Rn QSn ?_)))))
   refine Lc1 rfl ?_
   refine Lk wn (yCall FN_144 (a2 e0 e0)) (sparseref01_subMag_ok U F0 F1 a) ?_
   rintro _ w ⟨b2, rfl, a⟩
   refine ⟨_, rfl, ?_⟩
   refine Dn [] [0, 1] [5] (Rn (yS rfl (yFb FL_31_0 e0) (yS rfl (lb_ (.bool d) O_4 e0 a R2) QSn)) ?_)
   refine Lc1 rfl ?_
   replace a := a.fz
   refine Lk wn (yCall FN_110 (a2 e0 e0)) (sparseref01_make1_ok V F0 a) ?_
   rintro _ w ⟨s, rfl, a⟩
   refine ⟨_, rfl, ?_⟩
   refine Dn [] [] [6] (Rn QSn ?_)
   refine Lc1 rfl ?_
   replace a := a.k10
   refine LT wn (r_stbn (vals' := [.bool r.1, s.v]) (us := [.bool r.1, s.v]) a ST_31 e0 e0 rfl rfl (one_of rfl) rfl) fun w a => Dz [] [] (Rn QSn (T _ _ (wp_ret ?_)))
   cases b
   exact j _ _ _ (fin1r Tryz.results111 (rcs2 rfl rfl a R0 ST_31 rfl) ⟨_, rfl, ((a.k2j).facts (allT (allT (allT allI))))⟩)
theorem sparseref08_Dot_ok {y z : List (Bool × LI)} {i m : Hdr} {out : Bool × LI} (q : sparseref08_Dot y z = some out) (r : imm (rP rB (rS (rI .u32))) i.v y ∈ ros) (A : imm (rP rB (rS (rI .u32))) m.v z ∈ ros) (b : St w0 ros rs w) :
  Calls Tryz.prog 74 #[i.v, m.v] w (fun e w => ∃ (B : Hdr), e = .returned (.agg #[.bool out.1, B.v]) ∧ St w0 ros (row 103 (rI .u32) B.v out.2 :: rs) w) := by
 refine enterQ Tryz.func74 rfl Tryz.ntmps74 rfl fun Q J => sR fun _ K => yBb (rAl b ZT_31) fun n w b => wK K (sR fun _ L => yY (ybuild (us := [.bool false, hnil.v]) [] SO_31 bp0 rfl) (yBb (rAl b ZT_31) fun o w b => yT (r_stbn (vals' := [.bool false, hnil.v]) (us := [.bool false, hnil.v]) b ST_31 e0 e0 rfl rfl (one_of rfl) rfl) fun w b => ?_))
 refine wK L (sQ fun _ N => sR fun _ O => Ya (iV 0) rfl (wK O (blockQ fun R S => bE q fun T U q => ?_)))
 have V : ∀ (g : Bool) (t : LI) (h : Hdr) (f : FV) w, f 4 = (pB n) → f 5 = (pB o) → St w0 ros (box n 31 [.bool false, hnil.v] :: row 103 (rI .u32) h.v t :: box o 31 [.bool g, h.v] :: rs) w → (g, t) = T → R (.exit 0) (fr 26 f) w := by
  intro g t h f w C W b ho
  subst ho
  refine S _ _ _ (N _ _ (sR fun _ X => yY (lbs_ [.bool g, h.v] ST_31 (eh W) b R2) (yT (r_stbn (vals' := [.bool g, h.v]) (us := [.bool g, h.v]) b ST_31 (eh C) e0 rfl rfl (one_of rfl) rfl) fun w b => wK X (wp_ret ?_))))
  cases q
  exact J _ _ _ (fin1r Tryz.results74 (rcs2 rfl C b R0 ST_31 rfl) ⟨_, rfl, (b.k1u)⟩)
 replace b := b.rowNh 103 (rI .u32)
 refine loopQ (fun s a w => ∃ (j : Bool) (u : LI) (d : Int) (f : FV) (k : Hdr), (j, u, d) = s ∧ a = fr 26 f ∧ f 0 = i.v ∧ f 1 = m.v ∧ f 4 = (pB n) ∧ f 5 = (pB o) ∧ f 6 = iV d ∧ St w0 ros (box n 31 [.bool false, hnil.v] :: row 103 (rI .u32) k.v u :: box o 31 [.bool j, k.v] :: rs) w) U ⟨_, _, _, _, _, rfl, rfl, rfl, rfl, rfl, rfl, rfl, (b.k1f)⟩ ?_
 rintro _ _ w b7 ⟨j, u, d, f, k, rfl, rfl, x, D, E, l, p, b⟩ c Z b8 a0 a1
 refine seqQ fun b9 a3 a4 => sR fun _ a5 => Ym (iV d) (eh p) (Ym i.v (eh x) (yY (yLen SL_32 e0 b (rdI r)) (yY (ylss e0 e0) (wK a5 ?_))))
 refine cIf e0 c (fun a6 c => ?_) fun a6 c => ?_
 ·refine wp_skip (a3 _ _ (sQ fun _ a7 => blockQ fun _ a8 => bE c fun a9 F c => bE c fun b0 G c => bE c fun c0 b1 c => bE c fun H b2 c => dR [0, 0, 0, 6, 14, 0, 0, 96, 224, 510, 1023, 2047] [9, 10, 11] 3 folM ?_))
  replace b := b.drew
  refine Dn [0, 1, 2, 3, 4, 5, 6, 7, 8] [] [9] (yR rfl (lbs_ [.bool j, k.v] ST_31 (eh l) b R2) (yR rfl (m_ i.v (eh x)) (yR rfl (m_ (iV d) (eh p)) (yR rfl (yIa SL_32 e0 e0 b (rdI r) F) ?_))))
  obtain ⟨c1, c2, b⟩ := iLd b r F
  obtain ⟨c3, c4, rfl, b⟩ := b.eltP
  obtain ⟨rfl, b⟩ := b.eltB
  obtain ⟨b3, rfl, b⟩ := b.eltS
  refine yR rfl (yCtn (cs := [.bool a9.1, b3.v]) ST_31 rfl e0 b F1) (yR rfl (m_ m.v (eh D)) (yR rfl (m_ (iV d) (eh p)) (yR rfl (yIa SL_32 e0 e0 b (rdI (F_2 A)) G) ?_)))
  obtain ⟨c5, c6, b⟩ := iLd b (F_2 A) G
  obtain ⟨c7, c8, rfl, b⟩ := b.eltP
  obtain ⟨rfl, b⟩ := b.eltB
  obtain ⟨b4, rfl, b⟩ := b.eltS
  refine yR rfl (yCtn (cs := [.bool b0.1, b4.v]) ST_31 rfl e0 b F1) (Rn QSn ?_)
  refine Lc1 rfl ?_
  refine Lk wn (yCall FN_86 (a2 e0 e0)) (sparseref01_Mul_ok b1 F2 F0 b) ?_
  rintro _ w ⟨c9, rfl, b⟩
  refine ⟨_, rfl, ?_⟩
  refine Dn [] [0] [10] (Rn (yS rfl (lbs_ [.bool j, k.v] ST_31 (eh l) b R3) QSn) ?_)
  refine Lc1 rfl ?_
  replace b := ((b.k1f).fz).fz
  refine Lk wn (yCall FN_111 (a2 e0 e0)) (sparseref01_Add_ok b2 F1 F0 b) ?_
  rintro _ w ⟨I, rfl, b⟩
  refine ⟨_, rfl, ?_⟩
  refine Dn [] [] [11] (Rn QSn ?_)
  refine Lc1 rfl ?_
  replace b := b.k1f
  refine LT wn (r_stbn (vals' := [.bool H.1, I.v]) (us := [.bool H.1, I.v]) b ST_31 (eh l) e0 rfl rfl (one_of rfl) rfl) fun w b => Dz [] [] (Rn QSn (a8 _ _ _ (a7 _ _ (wR (Ym (iV d) (eh p) (yY (yadd e0 rfl) (Ya (iV (wa .i64 d 1)) e0 (wN ?_))))))))
  cases c
  exact a0 _ _ _ rfl ⟨_, _, _, _, _, rfl, rfl, x, D, E, l, rfl, ((b.k2c).facts (allT (allT (allT (allT (allT (allT allI)))))))⟩
 ·refine wp_exit (a4 _ _ _ rfl ?_)
  cases c
  exact a1 _ _ _ _ rfl rfl (V _ _ _ _ _ E l b (Z _ rfl))
end Go.Proofs.YtpfmbaidflhamaaGreatDoor
