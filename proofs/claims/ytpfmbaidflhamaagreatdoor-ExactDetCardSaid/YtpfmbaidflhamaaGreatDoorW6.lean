/- Walks: each function computes its model, printed. -/
import Derived.Test.YtpfmbaidflhamaaGreatDoorW5
namespace Go.Proofs.YtpfmbaidflhamaaGreatDoor
open Go Sx M
set_option maxRecDepth 100000
set_option maxHeartbeats 40000000
set_option linter.unusedVariables false
attribute [local irreducible] wpList Code.wp Calls DR QR QS LA LS St
variable {w0 : World} {ros : List Fact} {rs : List Res} {w : World}
theorem modular_echelon_1_ok {g : LI} {a : Int} {c : Hdr} {d : Nat} {out : Bool} (f : modular_echelon_1 g a = some out) (h : imm I1 c.v g ∈ ros) (b : St w0 ros (box d 3 [iV a] :: rs) w) :
  Calls Tryz.prog 122 #[c.v, (pB d)] w (fun e w => e = .returned (.bool out) ∧ St w0 ros (box d 3 [iV a] :: rs) w) := by
 refine enterQ Tryz.func122 rfl Tryz.ntmps122 rfl fun Q j => sR fun _ k => Ya (.bool false) rfl (wK k (sR fun _ l => Ym c.v e0 (yY (lb_ (iV a) O_3 e0 b R0) (bE f fun m i f => yY (yIa SL_48 e0 e0 b (rdI h) i) (yY (yI O_3 e0 b (rdI h) i) (yY (yneq e0 rfl) ?_))))))
 refine Ya (.bool (!(decide (m = 0)))) e0 (wK l (wp_ret ?_))
 cases f
 exact j _ _ _ (fin1r Tryz.results122 ⟨rfl, rfl⟩ ⟨rfl, b⟩)
theorem slices_IndexFunc_int_v2_ok {k : L2} {h : Int} {i : Hdr} {g : Nat} {out : Int} (j : slices_IndexFunc_int_v2 k h = some out) (l : imm S1 i.v k ∈ ros) (b : St w0 ros (box g 3 [iV h] :: rs) w) :
  Calls Tryz.prog 121 #[i.v, .func (.func 122) #[] #[(pB g)]] w (fun e w => e = .returned (iV out) ∧ St w0 ros (box g 3 [iV h] :: rs) w) := by
 refine enterQ Tryz.func121 rfl Tryz.ntmps121 rfl fun Q o => sR fun _ C => Ya (iV 0) rfl (wK C (seqQ fun a2 D E => sR fun _ F => Ym i.v e0 (yY (yLen SL_63 e0 b (rdI l)) (Ym (iV 0) rfl (wK F ?_)))))
 refine blockQ fun p q => bE j fun r G j => ?_
 have H : ∀ (f : FV) w, St w0 ros (box g 3 [iV h] :: rs) w → .inl () = r → p (.exit 0) (fr 19 f) w := by
  intro f w b ho
  subst ho
  refine q _ _ _ (D _ _ (sR fun _ I => Ya (iV (-1)) rfl (wK I (wp_ret ?_))))
  cases j
  exact o _ _ _ (fin1r Tryz.results121 ⟨rfl, rfl⟩ ⟨rfl, b⟩)
 have J : ∀ (m : Int) (f : FV) w, f 4 = iV m → St w0 ros (box g 3 [iV h] :: rs) w → .inr m = r → p .ret (fr 19 f) w := by
  intro m f w K b ho
  subst ho
  refine q _ _ _ (E _ _ _ rfl ?_)
  cases j
  exact o _ _ _ (fin1r Tryz.results121 ⟨rfl, K⟩ ⟨rfl, b⟩)
 refine loopQ (fun s a w => ∃ (d : Int) (f : FV), d = s ∧ a = fr 19 f ∧ f 0 = i.v ∧ f 1 = .func (.func 122) #[] #[(pB g)] ∧ f 7 = iV (k.length : Int) ∧ f 8 = iV d ∧ St w0 ros (box g 3 [iV h] :: rs) w) G ⟨_, _, rfl, rfl, rfl, rfl, rfl, rfl, b⟩ ?_
 rintro _ _ w a3 ⟨d, f, rfl, rfl, t, u, x, n, b⟩ c y a4 L z
 refine sR fun _ N => yY (ylss (eh n) (eh x)) (wK N (seqQ fun a5 O R => ?_))
 refine cIf e0 c (fun S c => ?_) fun S c => ?_
 ·refine wp_skip (O _ _ (seqQ fun a6 T U => blockQ fun _ A => sR fun _ V => Ym (iV d) (eh n) (Ya (iV d) e0 (wK V (sR fun _ W => Ym (.func (.func 122) #[] #[(pB g)]) (eh u) (Ym i.v (eh t) ?_))))))
  refine Ym (iV d) e0 (bE c fun a7 B c => yY (yIa SL_63 e0 e0 b (rdI l) B) ?_)
  obtain ⟨a8, b⟩ := iLs b l B
  refine yY (yCt O_48 e0 b F1 rfl) (bE c fun a9 X c => yC (yCallw FN_122 e0 (a1 e0)) (modular_echelon_1_ok X F0 b) ?_)
  rintro _ w ⟨rfl, b⟩
  refine ⟨_, rfl, ?_⟩
  refine wK W (cB e0 c (fun Z c => ?_) fun Z c => ?_)
  ·refine sR fun _ a0 => Ym (iV d) e0 (Ya (iV d) e0 (wK a0 (wp_ret (A _ _ _ (U _ _ _ rfl ?_)))))
   cases c
   exact z _ _ _ _ rfl rfl (J _ _ _ rfl (b.facts (allT (allT allI))) (y _ rfl))
  ·refine wp_skip (A _ _ _ (T _ _ (wR (yY (yadd (eh n) rfl) (Ym (iV (wa .i64 d 1)) e0 (wN ?_))))))
   cases c
   exact L _ _ _ rfl ⟨_, _, rfl, rfl, t, u, x, rfl, (b.facts (allT (allT allI)))⟩
 ·refine wp_exit (R _ _ _ rfl ?_)
  cases c
  exact z _ _ _ _ rfl rfl (H _ _ b (y _ rfl))
theorem modular_raise_ok {q r h out : Int} (i : modular_raise q r h = some out) (c : St w0 ros rs w) :
  Calls Tryz.prog 146 #[iV q, iV r, iV h] w (fun e w => e = .returned (iV out) ∧ St w0 ros rs w) := by
 refine enterQ Tryz.func146 rfl Tryz.ntmps146 rfl fun Q x => sR fun _ y => Ya (iV 0) rfl (wK y (sR fun _ z => Ya (iV 1) rfl (wK z (sQ fun _ A => blockQ fun B C => bE i fun D E i => ?_))))
 have F : ∀ (j : Int) (f : FV) w, f 7 = iV j → St w0 ros rs w → j = D → B (.exit 0) (fr 26 f) w := by
  intro j f w G c ho
  subst ho
  refine C _ _ _ (A _ _ (sR fun _ H => Ym (iV j) (eh G) (Ya (iV j) e0 (wK H (wp_ret ?_)))))
  cases i
  exact x _ _ _ (fin1r Tryz.results146 ⟨rfl, rfl⟩ ⟨rfl, c⟩)
 refine loopQ (fun s a w => ∃ (g d k : Int) (f : FV), (g, d, k) = s ∧ a = fr 26 f ∧ f 0 = iV g ∧ f 1 = iV d ∧ f 2 = iV h ∧ f 7 = iV k ∧ St w0 ros rs w) E ⟨_, _, _, _, rfl, rfl, rfl, rfl, rfl, rfl, c⟩ ?_
 rintro _ _ w I ⟨g, d, k, f, rfl, rfl, m, l, n, o, c⟩ b J a6 K L
 refine seqQ fun a7 N O => sR fun _ R => Ym (iV d) (eh l) (yY (ygtr e0 rfl) (wK R ?_))
 refine cIf e0 b (fun S b => ?_) fun S b => ?_
 ·refine wp_skip (N _ _ (sQ fun _ T => blockQ fun _ U => sQ fun V W => sR fun _ X => Ym (iV d) (eh l) (yY (yremc e0 rfl (by decide)) (yY (yeql e0 rfl) (wK X ?_)))))
  have t : ∀ (p : Int) (f : FV) w, f 0 = iV g → f 1 = iV d → f 2 = iV h → f 7 = iV p → St w0 ros rs w → modular_raise_j4 g h d p = some I → V .normal (fr 26 f) w := by
   intro p f w u Z v a0 c i
   refine W _ _ (wR (Ym (iV g) (eh u) (Ym (iV g) (eh u) (yY (ymul e0 e0) (Ym (iV h) (eh v) (bE i fun a1 a2 i => yY (yrem e0 e0 a2) (Ya (iV a1) e0 (wN (U _ _ _ (T _ _ (wR (Ym (iV d) (eh Z) ?_))))))))))))
   refine yY (yquoc e0 rfl (by decide)) (Ya (iV (wqc .i64 d 2)) e0 (wN ?_))
   cases i
   exact K _ _ _ rfl ⟨_, _, _, _, rfl, rfl, rfl, rfl, v, a0, c⟩
  refine cIf e0 b (fun a3 b => ?_) fun a3 b => ?_
  ·exact wR (Ym (iV k) (eh o) (Ym (iV g) (eh m) (yY (ymul e0 e0) (Ym (iV h) (eh n) (bE b fun a4 a5 b => yY (yrem e0 e0 a5) (Ya (iV a4) e0 (wN (t _ _ _ m l n rfl c b))))))))
  ·exact wp_skip (t _ _ _ m l n o c b)
 ·refine wp_exit (O _ _ _ rfl ?_)
  cases b
  exact L _ _ _ _ rfl rfl (F _ _ _ o c (J _ rfl))
theorem modular_inverse_ok {b a out : Int} (c : modular_inverse b a = some out) (d : St w0 ros rs w) :
  Calls Tryz.prog 124 #[iV b, iV a] w (fun e w => e = .returned (iV out) ∧ St w0 ros rs w) := by
 refine enterQ Tryz.func124 rfl Tryz.ntmps124 rfl fun Q f => sR fun _ g => Ya (iV 0) rfl (wK g (sR fun _ h => Ym (iV b) e0 (Ym (iV a) e0 (yY (ysub e0 rfl) (Ym (iV a) e0 (bE c fun i j c => yC (yCall FN_146 (a3 e0 e0 e0)) (modular_raise_ok j d) ?_))))))
 rintro _ w ⟨rfl, d⟩
 refine ⟨_, rfl, ?_⟩
 refine Ya (iV i) e0 (wK h (wp_ret ?_))
 cases c
 exact f _ _ _ (fin1r Tryz.results124 ⟨rfl, rfl⟩ ⟨rfl, d⟩)
theorem modular_subtract_ok {t m : LI} {i h : Int} {d j : Hdr} {out : LI} (n : modular_subtract t m i h = some out) (o : imm I1 j.v m ∈ ros) (b : St w0 ros (row 3 I1 d.v t :: rs) w) :
  Calls Tryz.prog 125 #[d.v, j.v, iV i, iV h] w (fun e w => e = .returned (.tuple #[]) ∧ St w0 ros (row 3 I1 d.v out :: rs) w) := by
 refine enterQ Tryz.func125 rfl Tryz.ntmps125 rfl fun Q D => sR fun _ E => Ym j.v e0 (yY (yLen SL_48 e0 b (rdI o)) (Ym (iV 0) rfl (wK E (blockQ fun F G => bE n fun H I n => ?_))))
 have J : ∀ (p : LI) (f : FV) w, St w0 ros (row 3 I1 d.v p :: rs) w → p = H → F (.exit 0) (fr 33 f) w := by
  intro p f w b ho
  subst ho
  refine G _ _ _ ?_
  cases n
  exact D _ _ _ (fin0n Tryz.results125 ⟨rfl, b⟩)
 refine loopQ (fun s a w => ∃ (q : LI) (g : Int) (f : FV), (q, g) = s ∧ a = fr 33 f ∧ f 0 = d.v ∧ f 2 = iV i ∧ f 3 = iV h ∧ f 10 = j.v ∧ f 11 = iV (m.length : Int) ∧ f 12 = iV g ∧ St w0 ros (row 3 I1 d.v q :: rs) w) I ⟨_, _, _, rfl, rfl, rfl, rfl, rfl, rfl, rfl, rfl, b⟩ ?_
 rintro _ _ w a1 ⟨q, g, f, rfl, rfl, k, u, r, x, y, l, b⟩ c K a3 L N
 refine sR fun _ O => yY (ylss (eh l) (eh y)) (wK O (seqQ fun a4 R S => ?_))
 refine cIf e0 c (fun T c => ?_) fun T c => ?_
 ·refine wp_skip (R _ _ (sQ fun _ U => blockQ fun _ V => sR fun _ W => Ym (iV g) (eh l) (bE c fun z A c => yY (yIa SL_48 (eh x) (eh l) b (rdI o) A) (yY (yI O_3 e0 b (rdI o) A) (Ya (iV g) e0 (Ya (iV z) e0 (wK W ?_)))))))
  refine bE c fun a5 B c => bE c fun a6 X c => bE c fun Z a0 c => bE c fun a7 C c => dR [0, 0, 0, 0, 12, 28, 0, 0, 192, 0, 960, 2044, 0, 8188, 16383, 32767] [13, 15] 2 folM ?_
  replace b := b.drew
  refine Dn [0, 1, 2, 3, 4, 5, 6, 7, 8, 9, 10, 11, 12] [] [13] (yR rfl (m_ d.v (eh k)) (yR rfl (m_ (iV g) e0) (yR rfl (m_ d.v (eh k)) (yR rfl (m_ (iV g) e0) (yR rfl (yIa SL_48 e0 e0 b rO0 B) (yR rfl (yI O_3 e0 b rO0 B) (yR rfl (m_ (iV i) (eh u)) (yR rfl (m_ (iV z) e0) (yR rfl (ymul e0 e0) (yR rfl (m_ (iV h) (eh r)) (yR rfl (yrem e0 e0 X) (yR rfl (ysub e0 e0) (yR rfl (m_ (iV h) (eh r)) ?_)))))))))))))
  refine Rn QSn ?_
  refine Lc1 rfl ?_
  refine Lk wn (yCall FN_123 (a2 e0 e0)) (modular_mod_ok a0 b) ?_
  rintro _ w ⟨rfl, b⟩
  refine ⟨_, rfl, ?_⟩
  refine Dn [14] [0, 1] [15] (yR rfl (yIs SL_48 e0 e0 b rO0 C) (Rn (yS rfl (m_ d.v (eh k)) (yS rfl (m_ (iV g) e0) QSn)) ?_))
  refine Lc1 rfl ?_
  refine LT wn (r_sti (cs := [iV Z]) b O_3 rfl e0 e0 rfl mkI C) fun w b => Dz [] [] (Rn QSn (V _ _ _ (U _ _ (wR (yY (yadd (eh l) rfl) (Ym (iV (wa .i64 g 1)) e0 (wN ?_)))))))
  cases c
  exact L _ _ _ rfl ⟨_, _, _, rfl, rfl, k, u, r, x, y, rfl, b⟩
 ·refine wp_exit (S _ _ _ rfl ?_)
  cases c
  exact N _ _ _ _ rfl rfl (J _ _ _ b (K _ rfl))
theorem modular_echelon_ok {f6 : L2} {m : Int} {c : Hdr} {f7 : List Hdr} {out : L2 × LI × Int} (g : modular_echelon f6 m = some out) (b : St w0 ros (row 48 rH c.v f7 :: fam 3 I1 f7 f6 :: rs) w) :
  Calls Tryz.prog 90 #[c.v, iV m] w (fun e w => ∃ (f8 : List Hdr) (f9 : Hdr), e = .returned (.tuple #[f9.v, iV out.2.2]) ∧ St w0 ros (row 48 rH c.v f8 :: fam 3 I1 f8 out.1 :: row 3 I1 f9.v out.2.1 :: rs) w) := by
 refine enterQ Tryz.func90 rfl Tryz.ntmps90 rfl fun Q j9 => sR fun _ k0 => Ya hnil.v rfl (Ya (iV 0) rfl (wK k0 (sR fun _ k2 => Ya (iV 1) rfl (wK k2 (sQ fun _ k5 => sQ fun _ k6 => ?_)))))
 refine wR (Ym c.v e0 (bE g fun z k7 g => ?_))
 have I := b
 replace b := b.ffz
 have o := b.guest0
 replace b := I
 clear I
 refine yC (yCall FN_118 (a1 e0)) (modular_columns_ok k7 F0 o) ?_
 clear o
 rintro _ w ⟨rfl, o⟩
 replace b := b.back o
 clear o
 refine ⟨_, rfl, ?_⟩
 refine Ym (iV 0) rfl (wK k6 (blockQ fun k8 k9 => bE g fun l0 l1 g => ?_))
 have g0 : ∀ (b2 : L2) (b3 : LI) (J : Int) (b4 : List Hdr) (K : Hdr) (f : FV) w, f 4 = K.v → f 5 = iV J → St w0 ros (row 48 rH c.v b4 :: fam 3 I1 b4 b2 :: row 3 I1 K.v b3 :: rs) w → (b2, b3, J) = l0 → k8 (.exit 0) (fr 137 f) w := by
  intro b2 b3 J b4 K f w l2 l3 b ho
  subst ho
  refine k9 _ _ _ (k5 _ _ (sR fun _ l4 => Ym K.v (eh l2) (Ym (iV J) (eh l3) (Ya K.v e0 (Ya (iV J) e0 (wK l4 (wp_ret ?_)))))))
  cases g
  exact j9 _ _ _ (fin2r Tryz.results90 ⟨rfl, rfl⟩ ⟨rfl, rfl⟩ ⟨_, _, rfl, b⟩)
 replace b := b.rowNh 3 I1
 refine loopQ (fun s a w => ∃ (b5 : L2) (d : LI) (T h : Int) (f : FV) (b6 : List Hdr) (k : Hdr), (b5, d, T, h) = s ∧ a = fr 137 f ∧ f 0 = c.v ∧ f 1 = iV m ∧ f 4 = k.v ∧ f 5 = iV T ∧ f 14 = iV z ∧ f 15 = iV h ∧ St w0 ros (row 48 rH c.v b6 :: fam 3 I1 b6 b5 :: row 3 I1 k.v d :: rs) w) l1 ⟨_, _, _, _, _, _, _, rfl, rfl, rfl, rfl, rfl, rfl, rfl, rfl, (b.k19)⟩ ?_
 rintro _ _ w g1 ⟨b5, d, T, h, f, b6, k, rfl, rfl, y, U, E, L, V, N, b⟩ i g2 x3 l5 g3
 refine sR fun _ l6 => yY (ylss (eh N) (eh V)) (wK l6 (seqQ fun x5 l7 l8 => ?_))
 refine cIf e0 i (fun l9 i => ?_) fun l9 i => ?_
 ·refine wp_skip (l7 _ _ (seqQ fun m0 m1 m2 => ?_))
  have g4 : ∀ (b7 : L2) (b8 : LI) (b9 : Int) (c0 : List Hdr) (c1 : Hdr) (f : FV) w, f 0 = c.v → f 1 = iV m → f 4 = c1.v → f 5 = iV b9 → f 14 = iV z → f 15 = iV h → St w0 ros (row 48 rH c.v c0 :: fam 3 I1 c0 b7 :: row 3 I1 c1.v b8 :: rs) w → modular_echelon_j161 h b7 b8 b9 = some g1 → m0 .normal (fr 137 f) w := by
   intro b7 b8 b9 c0 c1 f w m3 m4 m5 m6 m7 m8 b g
   refine m1 _ _ (wR (yY (yadd (eh m8) rfl) (Ym (iV (wa .i64 h 1)) e0 (wN ?_))))
   cases g
   exact l5 _ _ _ rfl ⟨_, _, _, _, _, _, _, rfl, rfl, m3, m4, m5, m6, m7, rfl, b⟩
  refine blockQ fun _ c2 => sR fun _ m9 => Ym (iV h) (eh N) (yBb (rAl b ZT_3) fun q w b => yT (r_stb1 (vals' := [iV h]) b O_3 e0 e0 rfl rfl rfl rfl) fun w b => wK m9 (sR fun _ n0 => Ym k.v (eh E) (yY (yLen SL_48 e0 b rO3) ?_)))
  refine Ya (iV (d.length : Int)) e0 (wK n0 (seqQ fun x6 n1 n2 => sR fun _ n3 => Ym (iV (d.length : Int)) e0 (Ym c.v (eh y) (yY (yLenF SLH_63 e0 b rO1 R2) (yY (yeql e0 e0) (wK n3 ?_))))))
  refine cIf e0 i (fun n4 i => ?_) fun n4 i => ?_
  ·refine wp_exit (n2 _ _ _ rfl (c2 _ _ _ (m2 _ _ _ rfl ?_)))
   cases i
   exact g3 _ _ _ _ rfl rfl (g0 _ _ _ _ _ _ _ E L (b.k2f) (g2 _ rfl))
  ·refine wp_skip (n1 _ _ (sR fun _ n5 => Ym (iV (d.length : Int)) e0 (Ym c.v (eh y) (Ym (iV (d.length : Int)) e0 (bE i fun x7 g5 i => yY (ySlF (k2 := .i64) SLH_63 e0 b rO1 R2 (.inl (congrArg some e0)) (.inr ⟨rfl, rfl⟩) g5) (yY (ymf (vf := #[]) (vc := #[(pB q)]) a0 (a1 e0)) (bE i fun F n6 i => ?_)))))))
   have I := b
   replace b := ((b.k19).ffz).sub F0 g5
   have o := b.guestB
   replace b := I
   clear I
   refine yC (yCall FN_121 (a2 e0 e0)) (slices_IndexFunc_int_v2_ok n6 F1 o) ?_
   clear o
   rintro _ w ⟨rfl, o⟩
   replace b := b.backB o
   clear o
   refine ⟨_, rfl, ?_⟩
   refine yY (yadd e0 e0) (Ya (iV (wa .i64 (d.length : Int) F)) e0 (wK n5 (seqQ fun x8 n7 n8 => sR fun _ n9 => Ym (iV (wa .i64 (d.length : Int) F)) e0 (Ym (iV (d.length : Int)) e0 (yY (ylss e0 e0) (wK n9 ?_))))))
   refine cIf e0 i (fun o0 i => ?_) fun o0 i => ?_
   ·exact wp_exit (n8 _ _ _ rfl (c2 _ _ _ (g4 _ _ _ _ _ _ _ y U E L V N (b.k2f) i)))
   ·refine wp_skip (n7 _ _ (sQ fun o1 o2 => sR fun _ o3 => Ym (iV (wa .i64 (d.length : Int) F)) e0 (Ym (iV (d.length : Int)) e0 (yY (ygtr e0 e0) (wK o3 ?_)))))
    have g6 : ∀ (c3 : L2) (W : Int) (r : List Hdr) (f : FV) w, f 0 = c.v → f 1 = iV m → f 4 = k.v → f 5 = iV W → f 6 = (pB q) → f 7 = iV (d.length : Int) → f 14 = iV z → f 15 = iV h → St w0 ros (row 48 rH c.v r :: fam 3 I1 r c3 :: row 3 I1 k.v d :: box q 3 [iV h] :: rs) w → modular_echelon_j162 d h m c3 W = some g1 → o1 .normal (fr 137 f) w := by
     intro c3 W r f w X c4 o4 o5 c5 Z o6 o7 b g
     refine o2 _ _ (sQ fun _ o8 => bE g fun x9 c6 g => bE g fun y0 g7 g => bE g fun C o9 g => dR [0, 0, 0, 6, 14, 0, 62, 126, 255, 0, 1023, 2047] [11] 1 folM ?_)
     replace b := b.drew
     refine Dn [0, 1, 2, 3, 4, 5, 6, 7, 8, 9, 10] [] [11] (yR rfl (m_ (iV W) (eh o5)) (yR rfl (m_ c.v (eh X)) (yR rfl (m_ (iV (d.length : Int)) (eh Z)) ?_)))
     obtain ⟨y1, a3⟩ := b.famI R1 c6
     refine yR rfl (yIa SLH_63 e0 e0 b rO0 a3) (yR rfl (yF1 O_48 e0 b rO0 a3 rfl) (yR rfl (lb_ (iV h) O_3 (eh c5) b R3) (yR rfl (yIa SL_48 e0 e0 b (rdF R1 a3 c6) g7) (yR rfl (yI O_3 e0 b (rdF R1 a3 c6) g7) (yR rfl (ymul e0 e0) (yR rfl (m_ (iV m) (eh c4)) (yR rfl (yrem e0 e0 o9) (Rn QSn ?_))))))))
     refine Lc1 rfl ?_
     refine Ly wn (a_ (iV C) e0) (Dz [] [] (Rn QSn (o8 _ _ (sQ fun _ p0 => bE g fun y2 c7 g => bE g fun y4 g8 g => bE g fun c8 p1 g => dR [0, 0, 3, 7, 0, 31, 63, 0, 255, 511] [8, 9] 2 folM ?_))))
     replace b := b.drew
     refine Dn [0, 1, 2, 3, 4, 5, 6, 7] [] [8] (yR rfl (m_ c.v (eh X)) (yR rfl (m_ (iV (d.length : Int)) (eh Z)) ?_))
     obtain ⟨y5, a5⟩ := b.famI R1 c7
     refine yR rfl (yIa SLH_63 e0 e0 b rO0 a5) (yR rfl (yF1 O_48 e0 b rO0 a5 rfl) (yR rfl (lb_ (iV h) O_3 (eh c5) b R3) (yR rfl (yIa SL_48 e0 e0 b (rdF R1 a5 c7) g8) (yR rfl (yI O_3 e0 b (rdF R1 a5 c7) g8) (yR rfl (m_ (iV m) (eh c4)) (Rn QSn ?_))))))
     refine Lc1 rfl ?_
     refine Lk wn (yCall FN_124 (a2 e0 e0)) (modular_inverse_ok p1 b) ?_
     rintro _ w ⟨rfl, b⟩
     refine ⟨_, rfl, ?_⟩
     refine Dn [] [] [9] (Rn QSn ?_)
     refine Lc1 rfl ?_
     refine Ly wn (a_ (iV c8) e0) (Dz [] [] (Rn QSn (p0 _ _ (sQ fun _ p2 => sR fun _ p3 => Ym c.v (eh X) (Ym (iV (d.length : Int)) (eh Z) (bE g fun p4 g9 g => ?_))))))
     obtain ⟨y6, c9⟩ := b.famI R1 g9
     refine yY (yIa SLH_63 e0 e0 b rO0 c9) (yY (yF1 O_48 e0 b rO0 c9 rfl) (yY (yLen SL_48 e0 b (rdF R1 c9 g9)) (Ym (iV 0) rfl (wK p3 (blockQ fun p5 p6 => bE g fun p7 p8 g => ?_)))))
     have p9 : ∀ (G : L2) (f : FV) w, f 0 = c.v → f 1 = iV m → f 4 = k.v → f 5 = iV C → f 6 = (pB q) → f 7 = iV (d.length : Int) → f 14 = iV z → f 15 = iV h → St w0 ros (row 48 rH c.v r :: fam 3 I1 r G :: row 3 I1 k.v d :: box q 3 [iV h] :: rs) w → G = p7 → p5 (.exit 2) (fr 137 f) w := by
      intro G f w h0 q0 q1 q2 q3 q4 q5 q6 b ho
      subst ho
      refine p6 _ _ _ (p2 _ _ (sQ fun _ q7 => sR fun _ q8 => Ym c.v (eh h0) (yY (yLenF SLH_63 e0 b rO0 R1) (Ym (iV 0) rfl (wK q8 (blockQ fun q9 r0 => bE g fun r1 r2 g => ?_))))))
      have r3 : ∀ (d0 : L2) (f : FV) w, f 0 = c.v → f 1 = iV m → f 4 = k.v → f 5 = iV C → f 6 = (pB q) → f 14 = iV z → f 15 = iV h → St w0 ros (row 48 rH c.v r :: fam 3 I1 r d0 :: row 3 I1 k.v d :: box q 3 [iV h] :: rs) w → d0 = r1 → q9 (.exit 4) (fr 137 f) w := by
       intro d0 f w r4 r6 r7 r8 r9 s0 s1 b ho
       subst ho
       exact r0 _ _ _ (q7 _ _ (wR (Ym k.v (eh r7) (yY (lb_ (iV h) O_3 (eh r9) b R3) (yH (rLt (n := 1) (l := [h]) b SL_48 [iV h] (bp1 e0) rfl rfl (mks1 (cs := [iV h]) rfl mkI mks0)) fun y7 w b => bE g fun y8 s2 g => yH (rAp (b.k17) SL_48 e0 e0 rO1 s2) fun s3 w b => Ya s3.v e0 (wN (c2 _ _ _ (g4 _ _ _ _ _ _ _ r4 r6 rfl r8 s0 s1 (b.k1y) g))))))))
      refine loopQ (fun s a w => ∃ (a6 : L2) (x : Int) (f : FV), (a6, x) = s ∧ a = fr 137 f ∧ f 0 = c.v ∧ f 1 = iV m ∧ f 4 = k.v ∧ f 5 = iV C ∧ f 6 = (pB q) ∧ f 7 = iV (d.length : Int) ∧ f 14 = iV z ∧ f 15 = iV h ∧ f 101 = c.v ∧ f 102 = iV (G.length : Int) ∧ f 103 = iV x ∧ St w0 ros (row 48 rH c.v r :: fam 3 I1 r a6 :: row 3 I1 k.v d :: box q 3 [iV h] :: rs) w) r2 ⟨_, _, _, rfl, rfl, h0, q0, q1, q2, q3, q4, q5, q6, rfl, rfl, rfl, b⟩ ?_
      rintro _ _ w s4 ⟨a6, x, f, rfl, rfl, d1, d2, d3, d4, a7, d5, d6, d7, d8, d9, O, b⟩ j s5 y9 s6 s7
      refine sR fun _ s8 => yY (ylss (eh O) (eh d9)) (wK s8 (seqQ fun z0 s9 t0 => ?_))
      refine cIf e0 j (fun t1 j => ?_) fun t1 j => ?_
      ·refine wp_skip (s9 _ _ (sQ fun _ t2 => blockQ fun t3 t4 => sR fun _ t5 => Ym (iV x) (eh O) (bE j fun z1 H j => ?_)))
       obtain ⟨R, A⟩ := b.famI R1 H
       refine yY (yIa SLH_63 (eh d8) (eh O) b rO0 A) (yY (yF1 O_48 e0 b rO0 A rfl) (Ya (iV x) e0 (Ya R.v e0 (wK t5 (sR fun _ t6 => Ym (iV x) e0 (Ym (iV (d.length : Int)) (eh d5) (yY (yneq e0 e0) (Ym (.bool (!(decide (x = (d.length : Int))))) e0 (bE j fun t7 D j => ?_)))))))))
       refine joinW 6 (fun f w => f 0 = c.v ∧ f 1 = iV m ∧ f 4 = k.v ∧ f 5 = iV C ∧ f 6 = (pB q) ∧ f 7 = iV (d.length : Int) ∧ f 12 = R.v ∧ f 14 = iV z ∧ f 15 = iV h ∧ f 101 = c.v ∧ f 102 = iV (G.length : Int) ∧ f 103 = iV x ∧ f 117 = .bool t7 ∧ St w0 ros (row 48 rH c.v r :: fam 3 I1 r a6 :: row 3 I1 k.v d :: box q 3 [iV h] :: rs) w) (fun h1 => ?_) ?_
       ·rcases iteS D with ⟨t, D⟩ | ⟨t, D⟩
        ·refine gN (nF (dT t)) (gN (nF (dT t)) (gN (nF (dT t)) (gN (nF (dT t)) (gN (nF (dT t)) (yY (pf_ (.bool false) e0 (nF (dT t)) rfl) ?_)))))
         cases D
         exact h1 _ _ ⟨d1, d2, d3, d4, a7, d5, rfl, d6, d7, d8, d9, O, rfl, b⟩
        ·refine yG (nT (dF t)) (m_ R.v e0) (yG (nT (dF t)) (lb_ (iV h) O_3 (eh a7) b R3) (bE D fun t8 h3 D => yG (nT (dF t)) (yIa SL_48 e0 e0 b (rdF R1 A H) h3) (yG (nT (dF t)) (yI O_3 e0 b (rdF R1 A H) h3) (yG (nT (dF t)) (yneq e0 rfl) (yY (pt_ (.bool (!(decide (t8 = 0)))) e0 (nT (dF t)) e0) ?_)))))
         cases D
         exact h1 _ _ ⟨d1, d2, d3, d4, a7, d5, rfl, d6, d7, d8, d9, O, rfl, b⟩
       rintro f w ⟨e1, e2, h4, h5, e3, e4, h6, h7, h8, h9, i0, i1, t9, b⟩
       refine wK t6 ?_
       have i2 : ∀ (e5 : L2) (f : FV) w, f 0 = c.v → f 1 = iV m → f 4 = k.v → f 5 = iV C → f 6 = (pB q) → f 7 = iV (d.length : Int) → f 14 = iV z → f 15 = iV h → f 101 = c.v → f 102 = iV (G.length : Int) → f 103 = iV x → St w0 ros (row 48 rH c.v r :: fam 3 I1 r e5 :: row 3 I1 k.v d :: box q 3 [iV h] :: rs) w → modular_echelon_j170 x e5 = some s4 → t3 .normal (fr 137 f) w := by
        intro e5 f w u0 u1 u2 u3 u4 u5 u6 u7 u8 u9 v0 b g
        refine t4 _ _ _ (t2 _ _ (wR (yY (yadd (eh v0) rfl) (Ym (iV (wa .i64 x 1)) e0 (wN ?_)))))
        cases g
        exact s6 _ _ _ rfl ⟨_, _, _, rfl, rfl, u0, u1, u2, u3, u4, u5, u6, u7, u8, u9, rfl, b⟩
       refine cB (eh t9) j (fun v1 j => ?_) fun v1 j => ?_
       ·refine bE j fun z2 i3 j => bE j fun z3 i4 j => bE j fun u2628 gu2628 j => bE j fun z4 v2 j => bE j fun z5 v3 j => dR [0, 0, 0, 6, 14, 0, 0, 96, 224, 0, 1023] [10] 1 folM ?_
        replace b := b.drew
        refine Dn [0, 1, 2, 3, 4, 5, 6, 7, 8, 9] [] [10] (yR rfl (m_ R.v (eh h6)) (yR rfl (m_ c.v (eh e1)) (yR rfl (m_ (iV (d.length : Int)) (eh e4)) ?_)))
        obtain ⟨z6, e6⟩ := b.famI R1 i3
        refine yR rfl (yIa SLH_63 e0 e0 b rO0 e6) (yR rfl (yF1 O_48 e0 b rO0 e6 rfl) (yR rfl (m_ R.v (eh h6)) (yR rfl (lb_ (iV h) O_3 (eh e3) b R3) (yR rfl (yIa SL_48 e0 e0 b (rdF R1 A H) i4) (yR rfl (yI O_3 e0 b (rdF R1 A H) i4) (yR rfl (m_ (iV m) (eh e2)) (Rn QSn ?_)))))))
        refine Lc1 rfl ?_
        replace b := (b.k10).foc A H
        have o := b.guestX gu2628 A e6 i3
        refine Lk wn (yCall FN_125 (a4 e0 e0 e0 e0)) (modular_subtract_ok v2 F0 o) ?_
        clear o
        rintro _ w ⟨rfl, o⟩
        replace b := b.backR o
        clear o
        refine ⟨_, rfl, ?_⟩
        replace b := b.unfoc' A v3
        exact Dz [] [] (Rn QSn (i2 _ _ _ e1 e2 h4 h5 e3 e4 h7 h8 h9 i0 i1 (b.k2g) j))
       ·exact wp_skip (i2 _ _ _ e1 e2 h4 h5 e3 e4 h7 h8 h9 i0 i1 b j)
      ·refine wp_exit (t0 _ _ _ rfl ?_)
       cases j
       exact s7 _ _ _ _ rfl rfl (r3 _ _ _ d1 d2 d3 d4 a7 d6 d7 b (s5 _ rfl))
     refine loopQ (fun s a w => ∃ (e7 : L2) (B : Int) (f : FV), (e7, B) = s ∧ a = fr 137 f ∧ f 0 = c.v ∧ f 1 = iV m ∧ f 4 = k.v ∧ f 5 = iV C ∧ f 6 = (pB q) ∧ f 7 = iV (d.length : Int) ∧ f 9 = iV c8 ∧ f 14 = iV z ∧ f 15 = iV h ∧ f 79 = iV (p4.length : Int) ∧ f 80 = iV B ∧ St w0 ros (row 48 rH c.v r :: fam 3 I1 r e7 :: row 3 I1 k.v d :: box q 3 [iV h] :: rs) w) p8 ⟨_, _, _, rfl, rfl, X, c4, o4, rfl, c5, Z, rfl, o6, o7, rfl, rfl, b⟩ ?_
     rintro _ _ w z7 ⟨e7, B, f, rfl, rfl, a8, e8, i5, i6, i7, a9, i8, i9, j0, j1, e9, b⟩ p v4 z8 v5 v6
     refine sR fun _ v7 => yY (ylss (eh e9) (eh j1)) (wK v7 (seqQ fun z9 v8 v9 => ?_))
     refine cIf e0 p (fun w1 p => ?_) fun w1 p => ?_
     ·refine wp_skip (v8 _ _ (sQ fun _ w2 => blockQ fun _ w3 => sR fun _ w4 => Ym (iV B) (eh e9) (Ya (iV B) e0 (wK w4 (bE p fun A0 f0 p => bE p fun A1 f1 p => bE p fun A2 j2 p => bE p fun w5 w6 p => ?_)))))
      refine bE p fun A3 j3 p => bE p fun A4 w7 p => dR [0, 0, 3, 7, 0, 0, 0, 96, 224, 0, 992, 2016, 0, 8160, 0, 32736, 65535, 131071] [17] 1 folM ?_
      replace b := b.drew
      refine Dn [0, 1, 2, 3, 4, 5, 6, 7, 8, 9, 10, 11, 12, 13, 14, 15, 16] [] [17] (yR rfl (m_ c.v (eh a8)) (yR rfl (m_ (iV (d.length : Int)) (eh a9)) ?_))
      obtain ⟨A5, S⟩ := b.famI R1 f0
      refine yR rfl (yIa SLH_63 e0 e0 b rO0 S) (yR rfl (yF1 O_48 e0 b rO0 S rfl) (yR rfl (m_ (iV B) e0) (yR rfl (m_ c.v (eh a8)) (yR rfl (m_ (iV (d.length : Int)) (eh a9)) ?_))))
      obtain ⟨A6, b0⟩ := b.famI R1 f1
      refine yR rfl (yIa SLH_63 e0 e0 b rO0 b0) (yR rfl (yF1 O_48 e0 b rO0 b0 rfl) (yR rfl (m_ (iV B) e0) (yR rfl (yIa SL_48 e0 e0 b (rdF R1 b0 f1) j2) (yR rfl (yI O_3 e0 b (rdF R1 b0 f1) j2) (yR rfl (m_ (iV c8) (eh i8)) (yR rfl (ymul e0 e0) (yR rfl (m_ (iV m) (eh e8)) (yR rfl (yrem e0 e0 w6) (yR rfl (yIs SL_48 e0 e0 b (rdF R1 S f0) j3) (Rn QSn ?_))))))))))
      refine Lc1 rfl ?_
      replace b := b.k10
      refine LT wn (r_sti (cs := [iV w5]) (b.foc S f0) O_3 rfl e0 e0 rfl mkI j3) fun w b => ?_
      replace b := b.unfoc' S w7
      refine Dz [] [] (Rn QSn (w3 _ _ _ (w2 _ _ (wR (yY (yadd (eh e9) rfl) (Ym (iV (wa .i64 B 1)) e0 (wN ?_)))))))
      cases p
      exact v5 _ _ _ rfl ⟨_, _, _, rfl, rfl, a8, e8, i5, i6, i7, a9, i8, i9, j0, j1, rfl, (b.k2g)⟩
     ·refine wp_exit (v9 _ _ _ rfl ?_)
      cases p
      exact v6 _ _ _ _ rfl rfl (p9 _ _ _ a8 e8 i5 i6 i7 a9 i9 j0 b (v4 _ rfl))
    refine cIf e0 i (fun w8 i => ?_) fun w8 i => ?_
    ·refine sQ fun _ w9 => bE i fun A7 j4 i => bE i fun A8 j5 i => bE i fun A9 f2 i => bE i fun B0 j6 i => dR [0, 0, 0, 0, 0, 0, 48, 112, 0, 0, 768, 1792, 4083, 8179, 16383, 32767] [13, 15] 2 folM ?_
     replace b := b.drew
     refine Dn [0, 1, 2, 3, 4, 5, 6, 7, 8, 9, 10, 11, 12] [] [13] (yR rfl (m_ c.v (eh y)) (yR rfl (m_ (iV (d.length : Int)) e0) (yR rfl (m_ c.v (eh y)) (yR rfl (m_ (iV (wa .i64 (d.length : Int) F)) e0) (yR rfl (m_ c.v (eh y)) (yR rfl (m_ (iV (wa .i64 (d.length : Int) F)) e0) ?_))))))
     obtain ⟨j7, f3⟩ := b.famI R2 j4
     refine yR rfl (yIa SLH_63 e0 e0 b rO1 f3) (yR rfl (yF1 O_48 e0 b rO1 f3 rfl) (yR rfl (m_ c.v (eh y)) (yR rfl (m_ (iV (d.length : Int)) e0) ?_)))
     obtain ⟨j8, f4⟩ := b.famI R2 j5
     refine yR rfl (yIa SLH_63 e0 e0 b rO1 f4) (yR rfl (yF1 O_48 e0 b rO1 f4 rfl) ?_)
     obtain ⟨B1, b1⟩ := setI_len (u := j7) f2 (b.famL (mtR (mtR mhR)))
     refine yR rfl (yIs SLH_63 e0 e0 b rO1 b1) (Rn QSn ?_)
     refine Lc1 rfl ?_
     replace b := b.k10
     refine LT wn (r_sti (cs := [j7.v]) b O_48 rfl e0 e0 rfl (mkF rfl) b1) fun w b => Dn [14] [2, 3] [15] ?_
     obtain ⟨B2, f5⟩ := setI_len (u := j8) j6 (swap_len f2 b1 (b.famL (mtR (mtR mhR))))
     refine yR rfl (yIs SLH_63 e0 e0 b rO0 f5) (Rn (yS rfl (m_ c.v (eh y)) (yS rfl (m_ (iV (wa .i64 (d.length : Int) F)) e0) QSn)) ?_)
     refine Lc1 rfl ?_
     refine LT wn (r_sti (cs := [j8.v]) b O_48 rfl e0 e0 rfl (mkF rfl) f5) fun w b => ?_
     replace b := (b.k1f).fswap f3 j4 f4 j5 b1 f2 f5 j6
     refine Dz [] [] (Rn QSn (w9 _ _ (wR (Ym (iV T) (eh L) (yY (yneg e0) (Ym (iV m) (eh U) (bE i fun x0 x2 i => yC (yCall FN_123 (a2 e0 e0)) (modular_mod_ok x2 b) ?_)))))))
     rintro _ w ⟨rfl, b⟩
     refine ⟨_, rfl, ?_⟩
     exact Ya (iV x0) e0 (wN (g6 _ _ _ _ _ y U E rfl rfl rfl V N (b.k2h) i))
    ·exact wp_skip (g6 _ _ _ _ _ y U E L rfl rfl V N (b.k1o) i)
 ·refine wp_exit (l8 _ _ _ rfl ?_)
  cases i
  exact g3 _ _ _ _ rfl rfl (g0 _ _ _ _ _ _ _ E L b (g2 _ rfl))
theorem modular_Det_ok {l : L2} {c : Int} {d : Hdr} {out : Int × Int} (a : modular_Det l c = some out) (i : imm S1 d.v l ∈ ros) (b : St w0 ros rs w) :
  Calls Tryz.prog 48 #[d.v, iV c] w (fun e w => e = .returned (.tuple #[iV out.1, iV out.2]) ∧ St w0 ros rs w) := by
 refine enterQ Tryz.func48 rfl Tryz.ntmps48 rfl fun Q j => sR fun _ m => Ya (iV 0) rfl (Ya (iV 0) rfl (wK m (sR fun _ n => Ym d.v e0 (Ym (iV c) e0 (bE a fun g o a => yC (yCall FN_100 (a2 e0 e0)) (modular_square_ok o i b) ?_)))))
 rintro _ w ⟨rfl, b⟩
 refine ⟨_, rfl, ?_⟩
 refine Ya (iV g) e0 (wK n (seqQ fun E p q => sR fun _ r => Ym (iV g) e0 (yY (yneq e0 rfl) (wK r ?_))))
 rcases iteS a with ⟨k, a⟩ | ⟨k, a⟩
 ·refine condF e0 (nF (dT k)) (wp_skip (p _ _ (sR fun _ s => Ym d.v e0 (Ym (iV c) e0 (bE a fun F t a => yC (yCall FN_91 (a2 e0 e0)) (modular_reduced_ok t i b) ?_)))))
  rintro _ w ⟨G, H, rfl, b⟩
  refine ⟨_, rfl, ?_⟩
  refine Ym (iV c) e0 (bE a fun f u a => yC (yCall FN_90 (a2 e0 e0)) (modular_echelon_ok u b) ?_)
  rintro _ w ⟨I, h, rfl, b⟩
  refine ⟨_, rfl, ?_⟩
  refine Ym (.tuple #[h.v, iV f.2.2]) e0 (yY (x_ h.v e0) (yY (x_ (iV f.2.2) e0) (Ya h.v e0 (Ya (iV f.2.2) e0 (wK s (seqQ fun J x y => sR fun _ z => Ym h.v e0 (yY (yLen SL_48 e0 b rO2) (Ym d.v e0 (yY (yLen SL_63 e0 b (rdI i)) ?_)))))))))
  refine yY (ylss e0 e0) (wK z ?_)
  refine cIf e0 a (fun A a => ?_) fun A a => ?_
  ·refine sR fun _ B => Ya (iV 0) rfl (Ya (iV 0) rfl (wK B (wp_ret (y _ _ _ rfl ?_))))
   cases a
   exact j _ _ _ (fin2r Tryz.results48 ⟨rfl, rfl⟩ ⟨rfl, rfl⟩ ⟨rfl, (b.k1c)⟩)
  ·refine wp_skip (x _ _ (sR fun _ C => Ym (iV f.2.2) e0 (Ya (iV f.2.2) e0 (Ya (iV 0) rfl (wK C (wp_ret ?_))))))
   cases a
   exact j _ _ _ (fin2r Tryz.results48 ⟨rfl, rfl⟩ ⟨rfl, rfl⟩ ⟨rfl, (b.k1c)⟩)
 ·refine condT e0 (nT (dF k)) (sR fun _ D => Ym (iV g) e0 (Ya (iV 0) rfl (Ya (iV g) e0 (wK D (wp_ret (q _ _ _ rfl ?_))))))
  cases a
  exact j _ _ _ (fin2r Tryz.results48 ⟨rfl, rfl⟩ ⟨rfl, rfl⟩ ⟨rfl, b⟩)
theorem integer_Int_ok {d : Bool} {B : LI} {m : Hdr} {out : Int × Bool} (g : integer_Int d B = some out) (S : imm (rI .u32) m.v B ∈ ros) (c : St w0 ros rs w) :
  Calls Tryz.prog 139 #[.agg #[.bool d, m.v]] w (fun e w => e = .returned (.tuple #[iV out.1, .bool out.2]) ∧ St w0 ros rs w) := by
 refine enterQ Tryz.func139 rfl Tryz.ntmps139 rfl fun Q t => sR fun _ T => yBb (r_box (vals := [.bool d, m.v]) c e0 rfl) fun n w c => Ya (iV 0) rfl (Ya (.bool false) rfl (wK T (sR fun _ U => yY (yFb FL_31_1 e0) (yY (lb_ m.v O_29 e0 c R0) (bE g fun C V g => ?_)))))
 refine yC (yCall FN_73 (a1 e0)) (integer_trim_ok V S c) ?_
 rintro _ w ⟨q, rfl, c⟩
 refine ⟨_, rfl, ?_⟩
 refine Ya q.v e0 (wK U (seqQ fun e2 W X => sR fun _ Z => Ym q.v e0 (yY (yLen SL_29 e0 c (rdI F0)) (yY (ygtr e0 rfl) (wK Z ?_)))))
 refine cIf e0 g (fun a0 g => ?_) fun a0 g => ?_
 ·refine sR fun _ a2 => Ya (iV 0) rfl (Ya (.bool false) rfl (wK a2 (wp_ret (X _ _ _ rfl ?_))))
  cases g
  exact t _ _ _ (fin2r Tryz.results139 ⟨rfl, rfl⟩ ⟨rfl, rfl⟩ ⟨rfl, ((c.k13).facts (allT allI))⟩)
 ·refine wp_skip (W _ _ (sR fun _ a3 => Ya (.int .u64 0) rfl (wK a3 (sQ fun _ a4 => sR fun _ a5 => Ym q.v e0 (yY (yLen SL_29 e0 c (rdI F0)) (Ym (iV 0) rfl (wN ?_)))))))
  refine a5 _ _ (blockQ fun a6 a7 => bE g fun a8 a9 g => ?_)
  have b0 : ∀ (b : Int) (f : FV) w, f 1 = (pB n) → f 5 = .int .u64 b → St w0 ros (box n 31 [.bool d, m.v] :: rs) w → b = a8 → a6 (.exit 0) (fr 59 f) w := by
   intro b f w x y c ho
   subst ho
   refine a7 _ _ _ (a4 _ _ (seqQ fun e3 b1 D => blockQ fun _ z => sR fun _ b2 => yY (yFb FL_31_0 (eh x)) (yY (lb_ (.bool d) O_4 e0 c R0) (Ym (.bool d) e0 ?_))))
   refine joinW 3 (fun f w => f 1 = (pB n) ∧ f 5 = .int .u64 b ∧ f 35 = .bool (d && (decide ((0 : Int) < b))) ∧ St w0 ros (box n 31 [.bool d, m.v] :: rs) w) (fun E => ?_) ?_
   ·rcases Bool.eq_false_or_eq_true d with i | i
    ·exact yG i (m_ (.int .u64 b) (eh y)) (yG i (ygtr e0 rfl) (yY (pt_ (.bool (decide ((0 : Int) < b))) e0 i e0) (E _ _ ⟨x, y, (congrArg Value.bool (andT i)), c⟩)))
    ·exact gN i (gN i (yY (pf_ (.bool false) e0 i rfl) (E _ _ ⟨x, y, (congrArg Value.bool (andF i)), c⟩)))
   rintro f w ⟨F, A, b3, c⟩
   refine Ym (.bool (d && (decide ((0 : Int) < b)))) (eh b3) ?_
   refine joinW 3 (fun f w => f 1 = (pB n) ∧ f 5 = .int .u64 b ∧ f 39 = .bool ((d && (decide ((0 : Int) < b))) && (decide (b ≤ 9223372036854775808))) ∧ St w0 ros (box n 31 [.bool d, m.v] :: rs) w) (fun G => ?_) ?_
   ·rcases Bool.eq_false_or_eq_true (d && (decide ((0 : Int) < b))) with j | j
    ·exact yG j (m_ (.int .u64 b) (eh A)) (yG j (yleq e0 rfl) (yY (pt_ (.bool (decide (b ≤ 9223372036854775808))) e0 j e0) (G _ _ ⟨F, A, (congrArg Value.bool (andT j)), c⟩)))
    ·exact gN j (gN j (yY (pf_ (.bool false) e0 j rfl) (G _ _ ⟨F, A, (congrArg Value.bool (andF j)), c⟩)))
   rintro f w ⟨b5, p, b6, c⟩
   refine Ya (.bool ((d && (decide ((0 : Int) < b))) && (decide (b ≤ 9223372036854775808)))) (eh b6) (wK b2 (cB e0 g (fun b7 g => ?_) fun b7 g => ?_))
   ·refine sR fun _ b8 => Ym (.int .u64 b) (eh p) (yY (ysub e0 rfl) (yY (ycv (k' := .i64) (by kernel_rfl) (by kernel_rfl) e0) (yY (yneg e0) (yY (ysub e0 rfl) (Ya (iV (ws .i64 (wneg .i64 (wc .i64 (ws .u64 b 1))) 1)) e0 (Ya (.bool true) rfl (wK b8 (wp_ret (z _ _ _ (D _ _ _ rfl ?_))))))))))
    cases g
    exact t _ _ _ (fin2r Tryz.results139 ⟨rfl, rfl⟩ ⟨rfl, rfl⟩ ⟨rfl, (c.k13)⟩)
   ·refine sR fun _ b9 => Ym (.int .u64 b) (eh p) (yY (ylss e0 rfl) (Ym (.bool (decide (b < 9223372036854775808))) e0 ?_))
    refine joinW 8 (fun f w => f 5 = .int .u64 b ∧ f 56 = .bool ((decide (b < 9223372036854775808)) && ((!d) || (decide (b = 0)))) ∧ St w0 ros rs w) (fun H => ?_) ?_
    ·rcases Bool.eq_false_or_eq_true (decide (b < 9223372036854775808)) with h | h
     ·refine yG h (yFb FL_31_0 (eh b5)) (yG h (lb_ (.bool d) O_4 e0 c R0) (yG h (ynot e0) (yG h (m_ (.bool (!d)) e0) ?_)))
      refine joinW 3 (fun f w => f 5 = .int .u64 b ∧ f 48 = .bool (decide (b < 9223372036854775808)) ∧ f 55 = .bool ((!d) || (decide (b = 0))) ∧ St w0 ros rs w) (fun I => ?_) ?_
      ·rcases Bool.eq_false_or_eq_true (!d) with k | k
       ·exact gN k (gN k (yG h (pt_ (.bool true) e0 k rfl) (I _ _ ⟨p, rfl, (congrArg Value.bool (orT k)), (c.k13)⟩)))
       ·exact yG k (m_ (.int .u64 b) (eh p)) (yG k (yeql e0 rfl) (yG h (pf_ (.bool (decide (b = 0))) e0 k e0) (I _ _ ⟨p, rfl, (congrArg Value.bool (orF k)), (c.k13)⟩)))
      rintro f w ⟨c0, c1, c2, c⟩
      exact yY (pt_ (.bool ((!d) || (decide (b = 0)))) (eh c1) h (eh c2)) (H _ _ ⟨c0, (congrArg Value.bool (andT h)), c⟩)
     ·exact gN h (gN h (gN h (gN h (Gn (wxu rfl rfl rfl) rfl (Gn (wxu rfl rfl rfl) rfl (gN h (yY (pf_ (.bool false) e0 h rfl) (H _ _ ⟨p, (congrArg Value.bool (andF h)), (c.k13)⟩))))))))
    rintro f w ⟨c3, c4, c⟩
    refine Ya (.bool ((decide (b < 9223372036854775808)) && ((!d) || (decide (b = 0))))) (eh c4) (wK b9 (cB e0 g (fun c5 g => ?_) fun c5 g => ?_))
    ·refine sR fun _ c6 => Ym (.int .u64 b) (eh c3) (yY (ycv (k' := .i64) (by kernel_rfl) (by kernel_rfl) e0) (Ya (iV (wc .i64 b)) e0 (Ya (.bool true) rfl (wK c6 (wp_ret (z _ _ _ (D _ _ _ rfl ?_)))))))
     cases g
     exact t _ _ _ (fin2r Tryz.results139 ⟨rfl, rfl⟩ ⟨rfl, rfl⟩ ⟨rfl, c⟩)
    ·refine wp_skip (z _ _ _ (b1 _ _ (sR fun _ c8 => Ya (iV 0) rfl (Ya (.bool false) rfl (wK c8 (wp_ret ?_))))))
     cases g
     exact t _ _ _ (fin2r Tryz.results139 ⟨rfl, rfl⟩ ⟨rfl, rfl⟩ ⟨rfl, c⟩)
  refine loopQ (fun s a w => ∃ (r o : Int) (f : FV), (r, o) = s ∧ a = fr 59 f ∧ f 1 = (pB n) ∧ f 5 = .int .u64 r ∧ f 14 = q.v ∧ f 15 = iV (C.length : Int) ∧ f 16 = iV o ∧ St w0 (imm (rI .u32) q.v C :: ros) (box n 31 [.bool d, m.v] :: rs) w) a9 ⟨_, _, _, rfl, rfl, rfl, rfl, rfl, rfl, rfl, c⟩ ?_
  rintro _ _ w e4 ⟨r, o, f, rfl, rfl, J, K, L, N, u, c⟩ l c9 e5 d0 d1
  refine sR fun _ d2 => yY (ylss (eh u) (eh N)) (wK d2 (seqQ fun e6 d3 d4 => ?_))
  refine cIf e0 l (fun d5 l => ?_) fun d5 l => ?_
  ·refine wp_skip (d3 _ _ (sQ fun _ d6 => blockQ fun _ d7 => sR fun _ d8 => Ym (iV o) (eh u) (bE l fun O R l => yY (yIa SL_29 (eh L) (eh u) c (rdI F0) R) (yY (yI O_103 e0 c (rdI F0) R) (Ya (iV o) e0 (Ya (.int .u32 O) e0 (wK d8 ?_)))))))
   refine wR (Ym (.int .u64 r) (eh K) (Ym (.int .u32 O) e0 (yY (ycv (k' := .u64) (by kernel_rfl) (by kernel_rfl) e0) (Ym (iV o) e0 (yY (ymul rfl e0) (bE l fun d9 e1 l => yY (yshl e0 e0 e1) (yY (yor e0 e0) (Ya (.int .u64 (wor .u64 r d9)) e0 (wN (d7 _ _ _ (d6 _ _ (wR ?_))))))))))))
   refine yY (yadd (eh u) rfl) (Ym (iV (wa .i64 o 1)) e0 (wN ?_))
   cases l
   exact d0 _ _ _ rfl ⟨_, _, _, rfl, rfl, J, rfl, L, N, rfl, c⟩
  ·refine wp_exit (d4 _ _ _ rfl ?_)
   cases l
   exact d1 _ _ _ _ rfl rfl (b0 _ _ _ J K (c.facts (allT allI)) (c9 _ rfl))
theorem modular_remainder_ok {g : Bool} {x : LI} {p : Int} {h : Hdr} {out : Int} (q : modular_remainder g x p = some out) (j : imm (rI .u32) h.v x ∈ ros) (b : St w0 ros rs w) :
  Calls Tryz.prog 102 #[.agg #[.bool g, h.v], iV p] w (fun e w => e = .returned (iV out) ∧ St w0 ros rs w) := by
 refine enterQ Tryz.func102 rfl Tryz.ntmps102 rfl fun Q y => sR fun _ z => yBb (r_box (vals := [.bool g, h.v]) b e0 rfl) fun F w b => Ya (iV 0) rfl (wK z (sQ fun _ A => bE q fun G r q => bE q fun a k q => ?_))
 refine joinN (n := 24) (fun f w => ∃ (u : Nat) (s : Hdr), f 6 = (pB u) ∧ St w0 (imm (rI .u32) s.v a.2.2.2.1 :: ros) (box u 31 [.bool a.2.2.1, s.v] :: rs) w) (fun i => ?_) ?_
 ·refine dR [0, 0, 2, 7, 15, 31, 31, 31, 0, 0, 831, 1919, 4095] [2, 3, 8, 9, 10, 11, 12] 7 folM ?_
  replace b := b.drew
  refine Dn [0, 1] [] [2, 8, 9] (yR rfl (lbs_ [.bool g, h.v] ST_31 e0 b R0) (yR rfl (m_ (iV p) e0) (Rn QSn ?_)))
  refine Lc rfl ?_ (Lc rfl ?_ (Lc1 rfl ?_))
  ·refine Lk wn (yCall FN_82 (a1 e0)) (integer_FromInt_ok r b) ?_
   rintro _ w ⟨t, rfl, b⟩
   refine ⟨_, rfl, ?_⟩
   refine Dn [] [0] [3, 8, 9] (Rn (yS rfl (lbs_ [.bool g, h.v] ST_31 e0 b R0) QSn) ?_)
   refine Lc rfl ?_ (Lc rfl ?_ (Lc1 rfl ?_))
   ·refine Lk wn (yCall FN_114 (a2 e0 e0)) (integer_DivMod_ok k (mtF j) F0 b) ?_
    rintro _ w ⟨d, c, rfl, b⟩
    refine ⟨_, rfl, ?_⟩
    refine Dn [4, 5, 6, 7] [] [8, 9] (yR rfl (m_ (.tuple #[.agg #[.bool a.1, d.v], .agg #[.bool a.2.2.1, c.v], iV a.2.2.2.2]) e0) (yR rfl (x_ (.agg #[.bool a.1, d.v]) e0) (yR rfl (x_ (.agg #[.bool a.2.2.1, c.v]) e0) (yR rfl (x_ (iV a.2.2.2.2) e0) (Rn QSn ?_)))))
    refine Lc rfl ?_ (Lc1 rfl ?_)
    ·refine LB wn (rAl b ZT_31) fun l w b => Dn [] [4, 5, 6, 7] [9] (Rn (yS rfl (m_ (.tuple #[.agg #[.bool a.1, d.v], .agg #[.bool a.2.2.1, c.v], iV a.2.2.2.2]) e0) (yS rfl (x_ (.agg #[.bool a.1, d.v]) e0) (yS rfl (x_ (.agg #[.bool a.2.2.1, c.v]) e0) (yS rfl (x_ (iV a.2.2.2.2) e0) QSn)))) ?_)
     refine Lc1 rfl ?_
     refine LB wn (rAl b ZT_31) fun m w b => Dn [] [4, 5, 6, 7] [10] (Rn (yS rfl (m_ (.tuple #[.agg #[.bool a.1, d.v], .agg #[.bool a.2.2.1, c.v], iV a.2.2.2.2]) e0) (yS rfl (x_ (.agg #[.bool a.1, d.v]) e0) (yS rfl (x_ (.agg #[.bool a.2.2.1, c.v]) e0) (yS rfl (x_ (iV a.2.2.2.2) e0) QSn)))) ?_)
     refine Lc1 rfl ?_
     replace b := b.k10
     refine LT wn (r_stbn (vals' := [.bool a.1, d.v]) (us := [.bool a.1, d.v]) b ST_31 e0 e0 rfl rfl (one_of rfl) rfl) fun w b => Dn [] [6, 7] [11] (Rn (yS rfl (x_ (.agg #[.bool a.2.2.1, c.v]) e0) (yS rfl (x_ (iV a.2.2.2.2) e0) QSn)) ?_)
     refine Lc1 rfl ?_
     replace b := b.k10
     refine LT wn (r_stbn (vals' := [.bool a.2.2.1, c.v]) (us := [.bool a.2.2.1, c.v]) b ST_31 e0 e0 rfl rfl (one_of rfl) rfl) fun w b => Dn [] [7] [12] (Rn (yS rfl (x_ (iV a.2.2.2.2) e0) QSn) ?_)
     refine Lc1 rfl ?_
     exact Ly wn (a_ (iV a.2.2.2.2) e0) (Dz [] [] (Rn QSn (i _ _ ⟨_, _, rfl, ((b.k2a).facts (allC F1 (allT (allT (allT allI)))))⟩)))
    ·refine LB wn (rAl b ZT_31) fun m w b => Dn [] [4, 5, 6, 7] [8] (Rn (yS rfl (m_ (.tuple #[.agg #[.bool a.1, d.v], .agg #[.bool a.2.2.1, c.v], iV a.2.2.2.2]) e0) (yS rfl (x_ (.agg #[.bool a.1, d.v]) e0) (yS rfl (x_ (.agg #[.bool a.2.2.1, c.v]) e0) (yS rfl (x_ (iV a.2.2.2.2) e0) QSn)))) ?_)
     refine Lc1 rfl ?_
     refine LB wn (rAl b ZT_31) fun l w b => Dn [] [4, 5, 6, 7] [10] (Rn (yS rfl (m_ (.tuple #[.agg #[.bool a.1, d.v], .agg #[.bool a.2.2.1, c.v], iV a.2.2.2.2]) e0) (yS rfl (x_ (.agg #[.bool a.1, d.v]) e0) (yS rfl (x_ (.agg #[.bool a.2.2.1, c.v]) e0) (yS rfl (x_ (iV a.2.2.2.2) e0) QSn)))) ?_)
     refine Lc1 rfl ?_
     refine LT wn (r_stbn (vals' := [.bool a.1, d.v]) (us := [.bool a.1, d.v]) b ST_31 e0 e0 rfl rfl (one_of rfl) rfl) fun w b => Dn [] [6, 7] [11] (Rn (yS rfl (x_ (.agg #[.bool a.2.2.1, c.v]) e0) (yS rfl (x_ (iV a.2.2.2.2) e0) QSn)) ?_)
     refine Lc1 rfl ?_
     replace b := b.k10
     refine LT wn (r_stbn (vals' := [.bool a.2.2.1, c.v]) (us := [.bool a.2.2.1, c.v]) b ST_31 e0 e0 rfl rfl (one_of rfl) rfl) fun w b => Dn [] [7] [12] (Rn (yS rfl (x_ (iV a.2.2.2.2) e0) QSn) ?_)
     refine Lc1 rfl ?_
     exact Ly wn (a_ (iV a.2.2.2.2) e0) (Dz [] [] (Rn QSn (i _ _ ⟨_, _, rfl, ((b.k2a).facts (allC F1 (allT (allT (allT allI)))))⟩)))
   ·refine LB wn (rAl b ZT_31) fun l w b => Dn [] [0] [3, 9] (Rn (yS rfl (lbs_ [.bool g, h.v] ST_31 e0 b R1) QSn) ?_)
    refine Lc rfl ?_ (Lc1 rfl ?_)
    ·refine Lk wn (yCall FN_114 (a2 e0 e0)) (integer_DivMod_ok k (mtF j) F0 b) ?_
     rintro _ w ⟨d, c, rfl, b⟩
     refine ⟨_, rfl, ?_⟩
     refine Dn [4, 5, 6, 7] [] [9] (yR rfl (m_ (.tuple #[.agg #[.bool a.1, d.v], .agg #[.bool a.2.2.1, c.v], iV a.2.2.2.2]) e0) (yR rfl (x_ (.agg #[.bool a.1, d.v]) e0) (yR rfl (x_ (.agg #[.bool a.2.2.1, c.v]) e0) (yR rfl (x_ (iV a.2.2.2.2) e0) (Rn QSn ?_)))))
     refine Lc1 rfl ?_
     refine LB wn (rAl b ZT_31) fun m w b => Dn [] [4, 5, 6, 7] [10] (Rn (yS rfl (m_ (.tuple #[.agg #[.bool a.1, d.v], .agg #[.bool a.2.2.1, c.v], iV a.2.2.2.2]) e0) (yS rfl (x_ (.agg #[.bool a.1, d.v]) e0) (yS rfl (x_ (.agg #[.bool a.2.2.1, c.v]) e0) (yS rfl (x_ (iV a.2.2.2.2) e0) QSn)))) ?_)
     refine Lc1 rfl ?_
     replace b := b.k10
     refine LT wn (r_stbn (vals' := [.bool a.1, d.v]) (us := [.bool a.1, d.v]) b ST_31 e0 e0 rfl rfl (one_of rfl) rfl) fun w b => Dn [] [6, 7] [11] (Rn (yS rfl (x_ (.agg #[.bool a.2.2.1, c.v]) e0) (yS rfl (x_ (iV a.2.2.2.2) e0) QSn)) ?_)
     refine Lc1 rfl ?_
     replace b := b.k10
     refine LT wn (r_stbn (vals' := [.bool a.2.2.1, c.v]) (us := [.bool a.2.2.1, c.v]) b ST_31 e0 e0 rfl rfl (one_of rfl) rfl) fun w b => Dn [] [7] [12] (Rn (yS rfl (x_ (iV a.2.2.2.2) e0) QSn) ?_)
     refine Lc1 rfl ?_
     exact Ly wn (a_ (iV a.2.2.2.2) e0) (Dz [] [] (Rn QSn (i _ _ ⟨_, _, rfl, ((b.k2a).facts (allC F1 (allT (allT (allT allI)))))⟩)))
    ·refine LB wn (rAl b ZT_31) fun m w b => Dn [] [0] [3] (Rn (yS rfl (lbs_ [.bool g, h.v] ST_31 e0 b R2) QSn) ?_)
     refine Lc1 rfl ?_
     refine Lk wn (yCall FN_114 (a2 e0 e0)) (integer_DivMod_ok k (mtF j) F0 b) ?_
     rintro _ w ⟨d, c, rfl, b⟩
     refine ⟨_, rfl, ?_⟩
     refine Dn [4, 5, 6, 7] [] [10] (yR rfl (m_ (.tuple #[.agg #[.bool a.1, d.v], .agg #[.bool a.2.2.1, c.v], iV a.2.2.2.2]) e0) (yR rfl (x_ (.agg #[.bool a.1, d.v]) e0) (yR rfl (x_ (.agg #[.bool a.2.2.1, c.v]) e0) (yR rfl (x_ (iV a.2.2.2.2) e0) (Rn QSn ?_)))))
     refine Lc1 rfl ?_
     replace b := b.k10
     refine LT wn (r_stbn (vals' := [.bool a.1, d.v]) (us := [.bool a.1, d.v]) b ST_31 e0 e0 rfl rfl (one_of rfl) rfl) fun w b => Dn [] [6, 7] [11] (Rn (yS rfl (x_ (.agg #[.bool a.2.2.1, c.v]) e0) (yS rfl (x_ (iV a.2.2.2.2) e0) QSn)) ?_)
     refine Lc1 rfl ?_
     replace b := b.k10
     refine LT wn (r_stbn (vals' := [.bool a.2.2.1, c.v]) (us := [.bool a.2.2.1, c.v]) b ST_31 e0 e0 rfl rfl (one_of rfl) rfl) fun w b => Dn [] [7] [12] (Rn (yS rfl (x_ (iV a.2.2.2.2) e0) QSn) ?_)
     refine Lc1 rfl ?_
     exact Ly wn (a_ (iV a.2.2.2.2) e0) (Dz [] [] (Rn QSn (i _ _ ⟨_, _, rfl, ((b.k2a).facts (allC F1 (allT (allT (allT allI)))))⟩)))
   ·refine LB wn (rAl b ZT_31) fun m w b => Dn [] [0] [3, 8] (Rn (yS rfl (lbs_ [.bool g, h.v] ST_31 e0 b R1) QSn) ?_)
    refine Lc rfl ?_ (Lc1 rfl ?_)
    ·refine Lk wn (yCall FN_114 (a2 e0 e0)) (integer_DivMod_ok k (mtF j) F0 b) ?_
     rintro _ w ⟨d, c, rfl, b⟩
     refine ⟨_, rfl, ?_⟩
     refine Dn [4, 5, 6, 7] [] [8] (yR rfl (m_ (.tuple #[.agg #[.bool a.1, d.v], .agg #[.bool a.2.2.1, c.v], iV a.2.2.2.2]) e0) (yR rfl (x_ (.agg #[.bool a.1, d.v]) e0) (yR rfl (x_ (.agg #[.bool a.2.2.1, c.v]) e0) (yR rfl (x_ (iV a.2.2.2.2) e0) (Rn QSn ?_)))))
     refine Lc1 rfl ?_
     refine LB wn (rAl b ZT_31) fun l w b => Dn [] [4, 5, 6, 7] [10] (Rn (yS rfl (m_ (.tuple #[.agg #[.bool a.1, d.v], .agg #[.bool a.2.2.1, c.v], iV a.2.2.2.2]) e0) (yS rfl (x_ (.agg #[.bool a.1, d.v]) e0) (yS rfl (x_ (.agg #[.bool a.2.2.1, c.v]) e0) (yS rfl (x_ (iV a.2.2.2.2) e0) QSn)))) ?_)
     refine Lc1 rfl ?_
     refine LT wn (r_stbn (vals' := [.bool a.1, d.v]) (us := [.bool a.1, d.v]) b ST_31 e0 e0 rfl rfl (one_of rfl) rfl) fun w b => Dn [] [6, 7] [11] (Rn (yS rfl (x_ (.agg #[.bool a.2.2.1, c.v]) e0) (yS rfl (x_ (iV a.2.2.2.2) e0) QSn)) ?_)
     refine Lc1 rfl ?_
     replace b := b.k10
     refine LT wn (r_stbn (vals' := [.bool a.2.2.1, c.v]) (us := [.bool a.2.2.1, c.v]) b ST_31 e0 e0 rfl rfl (one_of rfl) rfl) fun w b => Dn [] [7] [12] (Rn (yS rfl (x_ (iV a.2.2.2.2) e0) QSn) ?_)
     refine Lc1 rfl ?_
     exact Ly wn (a_ (iV a.2.2.2.2) e0) (Dz [] [] (Rn QSn (i _ _ ⟨_, _, rfl, ((b.k2a).facts (allC F1 (allT (allT (allT allI)))))⟩)))
    ·refine LB wn (rAl b ZT_31) fun l w b => Dn [] [0] [3] (Rn (yS rfl (lbs_ [.bool g, h.v] ST_31 e0 b R2) QSn) ?_)
     refine Lc1 rfl ?_
     refine Lk wn (yCall FN_114 (a2 e0 e0)) (integer_DivMod_ok k (mtF j) F0 b) ?_
     rintro _ w ⟨d, c, rfl, b⟩
     refine ⟨_, rfl, ?_⟩
     refine Dn [4, 5, 6, 7] [] [10] (yR rfl (m_ (.tuple #[.agg #[.bool a.1, d.v], .agg #[.bool a.2.2.1, c.v], iV a.2.2.2.2]) e0) (yR rfl (x_ (.agg #[.bool a.1, d.v]) e0) (yR rfl (x_ (.agg #[.bool a.2.2.1, c.v]) e0) (yR rfl (x_ (iV a.2.2.2.2) e0) (Rn QSn ?_)))))
     refine Lc1 rfl ?_
     refine LT wn (r_stbn (vals' := [.bool a.1, d.v]) (us := [.bool a.1, d.v]) b ST_31 e0 e0 rfl rfl (one_of rfl) rfl) fun w b => Dn [] [6, 7] [11] (Rn (yS rfl (x_ (.agg #[.bool a.2.2.1, c.v]) e0) (yS rfl (x_ (iV a.2.2.2.2) e0) QSn)) ?_)
     refine Lc1 rfl ?_
     replace b := b.k10
     refine LT wn (r_stbn (vals' := [.bool a.2.2.1, c.v]) (us := [.bool a.2.2.1, c.v]) b ST_31 e0 e0 rfl rfl (one_of rfl) rfl) fun w b => Dn [] [7] [12] (Rn (yS rfl (x_ (iV a.2.2.2.2) e0) QSn) ?_)
     refine Lc1 rfl ?_
     exact Ly wn (a_ (iV a.2.2.2.2) e0) (Dz [] [] (Rn QSn (i _ _ ⟨_, _, rfl, ((b.k2a).facts (allC F1 (allT (allT (allT allI)))))⟩)))
  ·refine LB wn (rAl b ZT_31) fun l w b => Dn [] [0, 1] [2, 9] (Rn (yS rfl (lbs_ [.bool g, h.v] ST_31 e0 b R1) (yS rfl (m_ (iV p) e0) QSn)) ?_)
   refine Lc rfl ?_ (Lc1 rfl ?_)
   ·refine Lk wn (yCall FN_82 (a1 e0)) (integer_FromInt_ok r b) ?_
    rintro _ w ⟨t, rfl, b⟩
    refine ⟨_, rfl, ?_⟩
    refine Dn [] [0] [3, 9] (Rn (yS rfl (lbs_ [.bool g, h.v] ST_31 e0 b R1) QSn) ?_)
    refine Lc rfl ?_ (Lc1 rfl ?_)
    ·refine Lk wn (yCall FN_114 (a2 e0 e0)) (integer_DivMod_ok k (mtF j) F0 b) ?_
     rintro _ w ⟨d, c, rfl, b⟩
     refine ⟨_, rfl, ?_⟩
     refine Dn [4, 5, 6, 7] [] [9] (yR rfl (m_ (.tuple #[.agg #[.bool a.1, d.v], .agg #[.bool a.2.2.1, c.v], iV a.2.2.2.2]) e0) (yR rfl (x_ (.agg #[.bool a.1, d.v]) e0) (yR rfl (x_ (.agg #[.bool a.2.2.1, c.v]) e0) (yR rfl (x_ (iV a.2.2.2.2) e0) (Rn QSn ?_)))))
     refine Lc1 rfl ?_
     refine LB wn (rAl b ZT_31) fun m w b => Dn [] [4, 5, 6, 7] [10] (Rn (yS rfl (m_ (.tuple #[.agg #[.bool a.1, d.v], .agg #[.bool a.2.2.1, c.v], iV a.2.2.2.2]) e0) (yS rfl (x_ (.agg #[.bool a.1, d.v]) e0) (yS rfl (x_ (.agg #[.bool a.2.2.1, c.v]) e0) (yS rfl (x_ (iV a.2.2.2.2) e0) QSn)))) ?_)
     refine Lc1 rfl ?_
     replace b := b.k10
     refine LT wn (r_stbn (vals' := [.bool a.1, d.v]) (us := [.bool a.1, d.v]) b ST_31 e0 e0 rfl rfl (one_of rfl) rfl) fun w b => Dn [] [6, 7] [11] (Rn (yS rfl (x_ (.agg #[.bool a.2.2.1, c.v]) e0) (yS rfl (x_ (iV a.2.2.2.2) e0) QSn)) ?_)
     refine Lc1 rfl ?_
     replace b := b.k10
     refine LT wn (r_stbn (vals' := [.bool a.2.2.1, c.v]) (us := [.bool a.2.2.1, c.v]) b ST_31 e0 e0 rfl rfl (one_of rfl) rfl) fun w b => Dn [] [7] [12] (Rn (yS rfl (x_ (iV a.2.2.2.2) e0) QSn) ?_)
     refine Lc1 rfl ?_
     exact Ly wn (a_ (iV a.2.2.2.2) e0) (Dz [] [] (Rn QSn (i _ _ ⟨_, _, rfl, ((b.k2a).facts (allC F1 (allT (allT (allT allI)))))⟩)))
    ·refine LB wn (rAl b ZT_31) fun m w b => Dn [] [0] [3] (Rn (yS rfl (lbs_ [.bool g, h.v] ST_31 e0 b R2) QSn) ?_)
     refine Lc1 rfl ?_
     refine Lk wn (yCall FN_114 (a2 e0 e0)) (integer_DivMod_ok k (mtF j) F0 b) ?_
     rintro _ w ⟨d, c, rfl, b⟩
     refine ⟨_, rfl, ?_⟩
     refine Dn [4, 5, 6, 7] [] [10] (yR rfl (m_ (.tuple #[.agg #[.bool a.1, d.v], .agg #[.bool a.2.2.1, c.v], iV a.2.2.2.2]) e0) (yR rfl (x_ (.agg #[.bool a.1, d.v]) e0) (yR rfl (x_ (.agg #[.bool a.2.2.1, c.v]) e0) (yR rfl (x_ (iV a.2.2.2.2) e0) (Rn QSn ?_)))))
     refine Lc1 rfl ?_
     replace b := b.k10
     refine LT wn (r_stbn (vals' := [.bool a.1, d.v]) (us := [.bool a.1, d.v]) b ST_31 e0 e0 rfl rfl (one_of rfl) rfl) fun w b => Dn [] [6, 7] [11] (Rn (yS rfl (x_ (.agg #[.bool a.2.2.1, c.v]) e0) (yS rfl (x_ (iV a.2.2.2.2) e0) QSn)) ?_)
     refine Lc1 rfl ?_
     replace b := b.k10
     refine LT wn (r_stbn (vals' := [.bool a.2.2.1, c.v]) (us := [.bool a.2.2.1, c.v]) b ST_31 e0 e0 rfl rfl (one_of rfl) rfl) fun w b => Dn [] [7] [12] (Rn (yS rfl (x_ (iV a.2.2.2.2) e0) QSn) ?_)
     refine Lc1 rfl ?_
     exact Ly wn (a_ (iV a.2.2.2.2) e0) (Dz [] [] (Rn QSn (i _ _ ⟨_, _, rfl, ((b.k2a).facts (allC F1 (allT (allT (allT allI)))))⟩)))
   ·refine LB wn (rAl b ZT_31) fun m w b => Dn [] [0, 1] [2] (Rn (yS rfl (lbs_ [.bool g, h.v] ST_31 e0 b R2) (yS rfl (m_ (iV p) e0) QSn)) ?_)
    refine Lc1 rfl ?_
    refine Lk wn (yCall FN_82 (a1 e0)) (integer_FromInt_ok r b) ?_
    rintro _ w ⟨t, rfl, b⟩
    refine ⟨_, rfl, ?_⟩
    refine Dn [] [0] [3] (Rn (yS rfl (lbs_ [.bool g, h.v] ST_31 e0 b R2) QSn) ?_)
    refine Lc1 rfl ?_
    refine Lk wn (yCall FN_114 (a2 e0 e0)) (integer_DivMod_ok k (mtF j) F0 b) ?_
    rintro _ w ⟨d, c, rfl, b⟩
    refine ⟨_, rfl, ?_⟩
    refine Dn [4, 5, 6, 7] [] [10] (yR rfl (m_ (.tuple #[.agg #[.bool a.1, d.v], .agg #[.bool a.2.2.1, c.v], iV a.2.2.2.2]) e0) (yR rfl (x_ (.agg #[.bool a.1, d.v]) e0) (yR rfl (x_ (.agg #[.bool a.2.2.1, c.v]) e0) (yR rfl (x_ (iV a.2.2.2.2) e0) (Rn QSn ?_)))))
    refine Lc1 rfl ?_
    replace b := b.k10
    refine LT wn (r_stbn (vals' := [.bool a.1, d.v]) (us := [.bool a.1, d.v]) b ST_31 e0 e0 rfl rfl (one_of rfl) rfl) fun w b => Dn [] [6, 7] [11] (Rn (yS rfl (x_ (.agg #[.bool a.2.2.1, c.v]) e0) (yS rfl (x_ (iV a.2.2.2.2) e0) QSn)) ?_)
    refine Lc1 rfl ?_
    replace b := b.k10
    refine LT wn (r_stbn (vals' := [.bool a.2.2.1, c.v]) (us := [.bool a.2.2.1, c.v]) b ST_31 e0 e0 rfl rfl (one_of rfl) rfl) fun w b => Dn [] [7] [12] (Rn (yS rfl (x_ (iV a.2.2.2.2) e0) QSn) ?_)
    refine Lc1 rfl ?_
    exact Ly wn (a_ (iV a.2.2.2.2) e0) (Dz [] [] (Rn QSn (i _ _ ⟨_, _, rfl, ((b.k2a).facts (allC F1 (allT (allT (allT allI)))))⟩)))
  ·refine LB wn (rAl b ZT_31) fun m w b => Dn [] [0, 1] [2, 8] (Rn (yS rfl (lbs_ [.bool g, h.v] ST_31 e0 b R1) (yS rfl (m_ (iV p) e0) QSn)) ?_)
   refine Lc rfl ?_ (Lc1 rfl ?_)
   ·refine Lk wn (yCall FN_82 (a1 e0)) (integer_FromInt_ok r b) ?_
    rintro _ w ⟨t, rfl, b⟩
    refine ⟨_, rfl, ?_⟩
    refine Dn [] [0] [3, 8] (Rn (yS rfl (lbs_ [.bool g, h.v] ST_31 e0 b R1) QSn) ?_)
    refine Lc rfl ?_ (Lc1 rfl ?_)
    ·refine Lk wn (yCall FN_114 (a2 e0 e0)) (integer_DivMod_ok k (mtF j) F0 b) ?_
     rintro _ w ⟨d, c, rfl, b⟩
     refine ⟨_, rfl, ?_⟩
     refine Dn [4, 5, 6, 7] [] [8] (yR rfl (m_ (.tuple #[.agg #[.bool a.1, d.v], .agg #[.bool a.2.2.1, c.v], iV a.2.2.2.2]) e0) (yR rfl (x_ (.agg #[.bool a.1, d.v]) e0) (yR rfl (x_ (.agg #[.bool a.2.2.1, c.v]) e0) (yR rfl (x_ (iV a.2.2.2.2) e0) (Rn QSn ?_)))))
     refine Lc1 rfl ?_
     refine LB wn (rAl b ZT_31) fun l w b => Dn [] [4, 5, 6, 7] [10] (Rn (yS rfl (m_ (.tuple #[.agg #[.bool a.1, d.v], .agg #[.bool a.2.2.1, c.v], iV a.2.2.2.2]) e0) (yS rfl (x_ (.agg #[.bool a.1, d.v]) e0) (yS rfl (x_ (.agg #[.bool a.2.2.1, c.v]) e0) (yS rfl (x_ (iV a.2.2.2.2) e0) QSn)))) ?_)
     refine Lc1 rfl ?_
     refine LT wn (r_stbn (vals' := [.bool a.1, d.v]) (us := [.bool a.1, d.v]) b ST_31 e0 e0 rfl rfl (one_of rfl) rfl) fun w b => Dn [] [6, 7] [11] (Rn (yS rfl (x_ (.agg #[.bool a.2.2.1, c.v]) e0) (yS rfl (x_ (iV a.2.2.2.2) e0) QSn)) ?_)
     refine Lc1 rfl ?_
     replace b := b.k10
     refine LT wn (r_stbn (vals' := [.bool a.2.2.1, c.v]) (us := [.bool a.2.2.1, c.v]) b ST_31 e0 e0 rfl rfl (one_of rfl) rfl) fun w b => Dn [] [7] [12] (Rn (yS rfl (x_ (iV a.2.2.2.2) e0) QSn) ?_)
     refine Lc1 rfl ?_
     exact Ly wn (a_ (iV a.2.2.2.2) e0) (Dz [] [] (Rn QSn (i _ _ ⟨_, _, rfl, ((b.k2a).facts (allC F1 (allT (allT (allT allI)))))⟩)))
    ·refine LB wn (rAl b ZT_31) fun l w b => Dn [] [0] [3] (Rn (yS rfl (lbs_ [.bool g, h.v] ST_31 e0 b R2) QSn) ?_)
     refine Lc1 rfl ?_
     refine Lk wn (yCall FN_114 (a2 e0 e0)) (integer_DivMod_ok k (mtF j) F0 b) ?_
     rintro _ w ⟨d, c, rfl, b⟩
     refine ⟨_, rfl, ?_⟩
     refine Dn [4, 5, 6, 7] [] [10] (yR rfl (m_ (.tuple #[.agg #[.bool a.1, d.v], .agg #[.bool a.2.2.1, c.v], iV a.2.2.2.2]) e0) (yR rfl (x_ (.agg #[.bool a.1, d.v]) e0) (yR rfl (x_ (.agg #[.bool a.2.2.1, c.v]) e0) (yR rfl (x_ (iV a.2.2.2.2) e0) (Rn QSn ?_)))))
     refine Lc1 rfl ?_
     refine LT wn (r_stbn (vals' := [.bool a.1, d.v]) (us := [.bool a.1, d.v]) b ST_31 e0 e0 rfl rfl (one_of rfl) rfl) fun w b => Dn [] [6, 7] [11] (Rn (yS rfl (x_ (.agg #[.bool a.2.2.1, c.v]) e0) (yS rfl (x_ (iV a.2.2.2.2) e0) QSn)) ?_)
     refine Lc1 rfl ?_
     replace b := b.k10
     refine LT wn (r_stbn (vals' := [.bool a.2.2.1, c.v]) (us := [.bool a.2.2.1, c.v]) b ST_31 e0 e0 rfl rfl (one_of rfl) rfl) fun w b => Dn [] [7] [12] (Rn (yS rfl (x_ (iV a.2.2.2.2) e0) QSn) ?_)
     refine Lc1 rfl ?_
     exact Ly wn (a_ (iV a.2.2.2.2) e0) (Dz [] [] (Rn QSn (i _ _ ⟨_, _, rfl, ((b.k2a).facts (allC F1 (allT (allT (allT allI)))))⟩)))
   ·refine LB wn (rAl b ZT_31) fun l w b => Dn [] [0, 1] [2] (Rn (yS rfl (lbs_ [.bool g, h.v] ST_31 e0 b R2) (yS rfl (m_ (iV p) e0) QSn)) ?_)
    refine Lc1 rfl ?_
    refine Lk wn (yCall FN_82 (a1 e0)) (integer_FromInt_ok r b) ?_
    rintro _ w ⟨t, rfl, b⟩
    refine ⟨_, rfl, ?_⟩
    refine Dn [] [0] [3] (Rn (yS rfl (lbs_ [.bool g, h.v] ST_31 e0 b R2) QSn) ?_)
    refine Lc1 rfl ?_
    refine Lk wn (yCall FN_114 (a2 e0 e0)) (integer_DivMod_ok k (mtF j) F0 b) ?_
    rintro _ w ⟨d, c, rfl, b⟩
    refine ⟨_, rfl, ?_⟩
    refine Dn [4, 5, 6, 7] [] [10] (yR rfl (m_ (.tuple #[.agg #[.bool a.1, d.v], .agg #[.bool a.2.2.1, c.v], iV a.2.2.2.2]) e0) (yR rfl (x_ (.agg #[.bool a.1, d.v]) e0) (yR rfl (x_ (.agg #[.bool a.2.2.1, c.v]) e0) (yR rfl (x_ (iV a.2.2.2.2) e0) (Rn QSn ?_)))))
    refine Lc1 rfl ?_
    refine LT wn (r_stbn (vals' := [.bool a.1, d.v]) (us := [.bool a.1, d.v]) b ST_31 e0 e0 rfl rfl (one_of rfl) rfl) fun w b => Dn [] [6, 7] [11] (Rn (yS rfl (x_ (.agg #[.bool a.2.2.1, c.v]) e0) (yS rfl (x_ (iV a.2.2.2.2) e0) QSn)) ?_)
    refine Lc1 rfl ?_
    replace b := b.k10
    refine LT wn (r_stbn (vals' := [.bool a.2.2.1, c.v]) (us := [.bool a.2.2.1, c.v]) b ST_31 e0 e0 rfl rfl (one_of rfl) rfl) fun w b => Dn [] [7] [12] (Rn (yS rfl (x_ (iV a.2.2.2.2) e0) QSn) ?_)
    refine Lc1 rfl ?_
    exact Ly wn (a_ (iV a.2.2.2.2) e0) (Dz [] [] (Rn QSn (i _ _ ⟨_, _, rfl, ((b.k2a).facts (allC F1 (allT (allT (allT allI)))))⟩)))
 rintro f w ⟨u, s, B, b⟩
 refine A _ _ (sR fun _ C => yY (lbs_ [.bool a.2.2.1, s.v] ST_31 (eh B) b R0) (bE q fun o D q => yC (yCall FN_139 (a1 e0)) (integer_Int_ok D F0 b) ?_))
 rintro _ w ⟨rfl, b⟩
 refine ⟨_, rfl, ?_⟩
 refine Ym (.tuple #[iV o.1, .bool o.2]) e0 (yY (x_ (iV o.1) e0) (yY (x_ (.bool o.2) e0) (Ya (iV o.1) e0 (Ya (.bool o.2) e0 (wK C (sR fun _ E => Ym (iV o.1) e0 (Ya (iV o.1) e0 (wK E (wp_ret ?_)))))))))
 cases q
 exact y _ _ _ (fin1r Tryz.results102 ⟨rfl, rfl⟩ ⟨rfl, ((b.k13).facts (allT allI))⟩)
theorem modular_Reduce_ok {c : Bool} {h : LI} {d : Int} {f : Hdr} {out : Int × Int} (a : modular_Reduce c h d = some out) (j : imm (rI .u32) f.v h ∈ ros) (b : St w0 ros rs w) :
  Calls Tryz.prog 49 #[.agg #[.bool c, f.v], iV d] w (fun e w => e = .returned (.tuple #[iV out.1, iV out.2]) ∧ St w0 ros rs w) := by
 refine enterQ Tryz.func49 rfl Tryz.ntmps49 rfl fun Q i => sR fun _ k => yBb (r_box (vals := [.bool c, f.v]) b e0 rfl) fun t w b => Ya (iV 0) rfl (Ya (iV 0) rfl (wK k (seqQ fun u l m => sR fun _ n => Ym (iV d) e0 (bE a fun x o a => ?_))))
 refine yC (yCall FN_101 (a1 e0)) (modular_IsPrime_ok o b) ?_
 rintro _ w ⟨rfl, b⟩
 refine ⟨_, rfl, ?_⟩
 refine yY (ynot e0) (wK n ?_)
 rcases iteS a with ⟨g, a⟩ | ⟨g, a⟩
 ·refine condF e0 (nF g) (wp_skip (l _ _ (sR fun _ p => yY (lbs_ [.bool c, f.v] ST_31 e0 b R0) (Ym (iV d) e0 (bE a fun q r a => yC (yCall FN_102 (a2 e0 e0)) (modular_remainder_ok r j b) ?_)))))
  rintro _ w ⟨rfl, b⟩
  refine ⟨_, rfl, ?_⟩
  refine Ya (iV q) e0 (Ya (iV 0) rfl (wK p (wp_ret ?_)))
  cases a
  exact i _ _ _ (fin2r Tryz.results49 ⟨rfl, rfl⟩ ⟨rfl, rfl⟩ ⟨rfl, (b.k13)⟩)
 ·refine condT e0 (nT (bfalse g)) (sR fun _ s => Ya (iV 0) rfl (Ya (iV 70) rfl (wK s (wp_ret (m _ _ _ rfl ?_)))))
  cases a
  exact i _ _ _ (fin2r Tryz.results49 ⟨rfl, rfl⟩ ⟨rfl, rfl⟩ ⟨rfl, (b.k13)⟩)
theorem sparselaw08_ExactDet_ok {b2 c0 : LI} {c1 c2 : Int} {b3 b4 : Hdr} {out : Bool} (c : sparselaw08_ExactDet b2 c0 c1 c2 = some out) (u4 : out = true) (e3 : imm I1 b3.v b2 ∈ ros) (e4 : imm I1 b4.v c0 ∈ ros) (b : St w0 ros rs w) :
  Calls Tryz.prog 8 #[b3.v, b4.v, iV c1, iV c2] w (fun e w => e = .returned (.bool out) ∧ St w0 ros rs w) := by
 refine enterQ Tryz.func8 rfl Tryz.ntmps8 rfl fun Q d3 => sR fun _ h9 => Ya (.bool false) rfl (wK h9 (seqQ fun u5 i0 i1 => sR fun _ i2 => Ym b3.v e0 (yY (yLen SL_48 e0 b (rdI e3)) (yY (ygtr e0 rfl) (Ym (.bool (decide ((25 : Int) < (b2.length : Int)))) e0 ?_)))))
 refine joinW 4 (fun f w => f 0 = b3.v ∧ f 1 = b4.v ∧ f 2 = iV c1 ∧ f 3 = iV c2 ∧ f 36 = .bool ((decide ((25 : Int) < (b2.length : Int))) || (decide ((25 : Int) < (c0.length : Int)))) ∧ St w0 ros rs w) (fun e5 => ?_) ?_
 ·rcases Bool.eq_false_or_eq_true (decide ((25 : Int) < (b2.length : Int))) with E | E
  ·exact gN E (gN E (gN E (yY (pt_ (.bool true) e0 E rfl) (e5 _ _ ⟨rfl, rfl, rfl, rfl, (congrArg Value.bool (orT E)), b⟩))))
  ·exact yG E (m_ b4.v e0) (yG E (yLen SL_48 e0 b (rdI e4)) (yG E (ygtr e0 rfl) (yY (pf_ (.bool (decide ((25 : Int) < (c0.length : Int)))) e0 E e0) (e5 _ _ ⟨rfl, rfl, rfl, rfl, (congrArg Value.bool (orF E)), b⟩))))
 rintro f w ⟨i3, i4, i5, i6, i7, b⟩
 refine wK i2 (cB (eh i7) c (fun i8 c => ?_) fun i8 c => ?_)
 ·refine sR fun _ i9 => bE c fun j0 j3 c => yC (yCall FN_10 a0) (sparselaw08_awake_ok j3 b) ?_
  rintro _ w ⟨rfl, b⟩
  refine ⟨_, rfl, ?_⟩
  refine Ya (.bool j0) e0 (wK i9 (wp_ret (i1 _ _ _ rfl ?_)))
  cases c
  exact d3 _ _ _ (fin1r Tryz.results8 ⟨rfl, rfl⟩ ⟨rfl, b⟩)
 ·refine wp_skip (i0 _ _ (sR fun _ j4 => Ym (iV c1) (eh i5) (bE c fun I j5 c => yC (yCall FN_26 (a2 e0 rfl)) (sparsekit_Place_ok j5 b) ?_)))
  rintro _ w ⟨rfl, b⟩
  refine ⟨_, rfl, ?_⟩
  refine Ya (iV I) e0 (wK j4 (sR fun _ j6 => yH (rLt (n := 5) (l := [2, 3, 7, 101, 2147483647]) b SL_48 [iV 2, iV 3, iV 7, iV 101, iV 2147483647] (bp5 rfl rfl rfl rfl rfl) rfl rfl (mks1 (cs := [iV 2]) rfl mkI (mks1 (cs := [iV 3]) rfl mkI (mks1 (cs := [iV 7]) rfl mkI (mks1 (cs := [iV 101]) rfl mkI (mks1 (cs := [iV 2147483647]) rfl mkI mks0)))))) fun u6 w b => Ym (iV c2) (eh i6) (bE c fun u7 j7 c => yC (yCall FN_26 (a2 e0 rfl)) (sparsekit_Place_ok j7 b) ?_)))
  rintro _ w ⟨rfl, b⟩
  refine ⟨_, rfl, ?_⟩
  refine bE c fun X e6 c => yY (yIa SL_48 e0 e0 b rO0 e6) (yY (yI O_3 e0 b rO0 e6) (Ya (iV X) e0 (wK j6 (sR fun _ j8 => Ym b3.v (eh i3) (Ym (iV I) e0 (bE c fun c3 j9 c => yC (yCall FN_27 (a2 e0 e0)) (sparselaw08_square_ok j9 e3 b) ?_))))))
  rintro _ w ⟨z, rfl, b⟩
  refine ⟨_, rfl, ?_⟩
  refine Ym b4.v (eh i4) (Ym (iV I) e0 (bE c fun u8 k0 c => yC (yCall FN_27 (a2 e0 e0)) (sparselaw08_square_ok k0 e4 b) ?_))
  rintro _ w ⟨d4, rfl, b⟩
  refine ⟨_, rfl, ?_⟩
  refine Ya z.v e0 (Ya d4.v e0 (wK j8 (sR fun _ l0 => Ym z.v e0 (bE c fun d l1 c => ?_))))
  replace b := (b.k10).fz
  refine yC (yCall FN_35 (a1 e0)) (exact_Det_ok l1 F0 b) ?_
  rintro _ w ⟨h, rfl, b⟩
  refine ⟨_, rfl, ?_⟩
  refine Ym (.tuple #[.agg #[.bool d.1, h.v], iV d.2.2]) e0 (yY (x_ (.agg #[.bool d.1, h.v]) e0) (yY (x_ (iV d.2.2) e0) (yBb (rAl b ZT_31) fun G w b => yT (r_stbn (vals' := [.bool d.1, h.v]) (us := [.bool d.1, h.v]) b ST_31 e0 e0 rfl rfl (one_of rfl) rfl) fun w b => Ya (iV d.2.2) e0 (wK l0 (sR fun _ l2 => Ym d4.v e0 (bE c fun x l3 c => ?_))))))
  replace b := (b.k10).fz
  refine yC (yCall FN_35 (a1 e0)) (exact_Det_ok l3 F0 b) ?_
  rintro _ w ⟨a8, rfl, b⟩
  refine ⟨_, rfl, ?_⟩
  refine Ym (.tuple #[.agg #[.bool x.1, a8.v], iV x.2.2]) e0 (yY (x_ (.agg #[.bool x.1, a8.v]) e0) (yY (x_ (iV x.2.2) e0) (yBb (rAl b ZT_31) fun u9 w b => yT (r_stbn (vals' := [.bool x.1, a8.v]) (us := [.bool x.1, a8.v]) b ST_31 e0 e0 rfl rfl (one_of rfl) rfl) fun w b => Ya (iV x.2.2) e0 (wK l2 (sR fun _ l4 => Ym z.v e0 (Ym d4.v e0 ?_))))))
  refine bE c fun v0 l5 c => yC (yCall FN_46 (a2 e0 e0)) (sparseref08_Product_ok l5 F3 F1 b) ?_
  rintro _ w ⟨v1, rfl, b⟩
  refine ⟨_, rfl, ?_⟩
  refine bE c fun r l6 c => ?_
  replace b := b.fz
  refine yC (yCall FN_35 (a1 e0)) (exact_Det_ok l6 F0 b) ?_
  rintro _ w ⟨Z, rfl, b⟩
  refine ⟨_, rfl, ?_⟩
  refine Ym (.tuple #[.agg #[.bool r.1, Z.v], iV r.2.2]) e0 (yY (x_ (.agg #[.bool r.1, Z.v]) e0) (yY (x_ (iV r.2.2) e0) (yBb (rAl b ZT_31) fun v2 w b => yT (r_stbn (vals' := [.bool r.1, Z.v]) (us := [.bool r.1, Z.v]) b ST_31 e0 e0 rfl rfl (one_of rfl) rfl) fun w b => Ya (iV r.2.2) e0 (wK l4 (sR fun _ l7 => Ym z.v e0 (bE c fun D l8 c => ?_))))))
  refine yC (yCall FN_37 (a1 e0)) (exact_Bound_ok l8 F5 b) ?_
  rintro _ w ⟨a9, rfl, b⟩
  refine ⟨_, rfl, ?_⟩
  refine Ym (.tuple #[.agg #[.bool D.1, a9.v], iV D.2.2]) e0 (yY (x_ (.agg #[.bool D.1, a9.v]) e0) (yY (x_ (iV D.2.2) e0) (yBb (rAl b ZT_31) fun v3 w b => yT (r_stbn (vals' := [.bool D.1, a9.v]) (us := [.bool D.1, a9.v]) b ST_31 e0 e0 rfl rfl (one_of rfl) rfl) fun w b => Ya (iV D.2.2) e0 (wK l7 (seqQ fun v4 l9 m0 => sQ fun _ m1 => bE c fun A b5 c => bE c fun y a4 c => ?_)))))
  refine bE c fun t J c => bE c fun p u c => bE c fun a5 m c => ?_
  refine joinN (n := 158) (fun f w => f 2 = iV I ∧ f 3 = iV X ∧ f 9 = z.v ∧ f 11 = (pB G) ∧ f 102 = .bool a5 ∧ St w0 (imm (rS (rP rB (rS (rI .u32)))) z.v c3 :: imm (rI .u32) h.v d.2.1 :: ros) (box G 31 [.bool d.1, h.v] :: rs) w) (fun b0 => ?_) ?_
  ·rcases iteS b5 with ⟨i, b5⟩ | ⟨i, b5⟩
   ·have b6 := someI b5
    rcases iteS a4 with ⟨q, a4⟩ | ⟨q, a4⟩
    ·have e7 := someI a4
     have c4 : y = true := e7.symm
     rw [if_pos c4] at J
     have e8 := someI J
     have K : t = true := e8.symm
     rw [if_pos K] at u
     have e9 := someI u
     have L : p = true := e9.symm
     rw [if_pos L] at m
     have m2 := someI m
     refine dR [0, 1, 3, 7, 15, 31, 63, 127, 255, 511, 1023, 2047, 4095, 8191, 16383, 32767, 32767, 32767, 229375, 524287, 1048575, 2097151, 4194303, 8388607, 8388607, 33554431, 8388607, 134217727, 268435455, 536870911] [18, 19, 25, 27] 4 folM ?_
     replace b := b.drew
     refine Dn [0, 1, 2, 3, 4, 5, 6, 7, 8, 9, 10, 11, 12, 13, 14, 15, 16, 17] [] [18] (yR rfl (m_ (iV d.2.2) e0) (yR rfl (yneq e0 rfl) (yR rfl (m_ (.bool (!(decide (d.2.2 = 0)))) e0) (Ry rfl rfl (wG (nF (dT i))) (m_ (iV x.2.2) e0) (Ry rfl rfl (wG (nF (dT i))) (yneq e0 rfl) (yR rfl (pf_ (.bool A) e0 (nF (dT i)) (eqv b6 e0)) (yR rfl (m_ (.bool A) e0) (Rx rfl rfl (wX q) (Rx rfl rfl (wX q) (yR rfl (pt_ (.bool y) e0 q (eqv e7 rfl)) (yR rfl (m_ (.bool y) e0) (Rx rfl rfl (wX c4) (Rx rfl rfl (wX c4) ?_)))))))))))))
     refine yR rfl (pt_ (.bool t) e0 c4 (eqv e8 rfl)) (yR rfl (m_ (.bool t) e0) (Rx rfl rfl (wX K) (Rx rfl rfl (wX K) (Rx rfl rfl (wX K) (Rn QSn ?_)))))
     refine Lc1 rfl ?_
     refine Lx (wX K) (Dn [] [15] [19] (Rn (Sx_ rfl rfl (wX K) rfl QSn) ?_))
     refine Lc1 rfl ?_
     refine Lx (wX K) (Dn [20, 21, 22, 23, 24, 26] [] [25] (Rx rfl rfl (wX K) (yR rfl (pt_ (.bool p) e0 K (eqv e9 rfl)) (yR rfl (m_ (.bool p) e0) (Rx rfl rfl (wX L) (Rx rfl rfl (wX L) (Rx rfl rfl (wX L) (Rn QSn ?_))))))))
     refine Lc1 rfl ?_
     refine Lx (wX L) (Dn [] [26] [27] (Rn (Sx_ rfl rfl (wX L) rfl QSn) ?_))
     refine Lc1 rfl ?_
     exact Lx (wX L) (Dz [28, 29] [] (Rx rfl rfl (wX L) (yR rfl (pt_ (.bool a5) e0 L (eqv m2 rfl)) (Rn QSn (b0 _ _ ⟨rfl, rfl, rfl, rfl, rfl, ((b.k2i).facts (allC F6 (allC F5 (allT (allT (allT (allT (allT (allT (allT allI))))))))))⟩)))))
    ·have c5 := someI a4
     rcases iteS J with ⟨B, J⟩ | ⟨B, J⟩
     ·have f0 := someI J
      have N : t = true := f0.symm
      rw [if_pos N] at u
      have f1 := someI u
      have O : p = true := f1.symm
      rw [if_pos O] at m
      have m3 := someI m
      refine dR [0, 1, 3, 7, 15, 31, 63, 127, 255, 511, 1023, 2047, 4095, 8191, 16383, 32767, 32767, 32767, 229375, 524287, 1048575, 2097151, 4194303, 8388607, 8388607, 33554431, 8388607, 134217727, 268435455, 536870911] [18, 19, 25, 27] 4 folM ?_
      replace b := b.drew
      refine Dn [0, 1, 2, 3, 4, 5, 6, 7, 8, 9, 10, 11, 12, 13, 14, 15, 16, 17] [] [18] (yR rfl (m_ (iV d.2.2) e0) (yR rfl (yneq e0 rfl) (yR rfl (m_ (.bool (!(decide (d.2.2 = 0)))) e0) (Ry rfl rfl (wG (nF (dT i))) (m_ (iV x.2.2) e0) (Ry rfl rfl (wG (nF (dT i))) (yneq e0 rfl) (yR rfl (pf_ (.bool A) e0 (nF (dT i)) (eqv b6 e0)) (yR rfl (m_ (.bool A) e0) (Ry rfl rfl (wG (bfalse q)) (m_ (iV r.2.2) e0) (Ry rfl rfl (wG (bfalse q)) (yneq e0 rfl) (yR rfl (pf_ (.bool y) e0 (bfalse q) (eqv c5 e0)) (yR rfl (m_ (.bool y) e0) (Rx rfl rfl (wX B) (Rx rfl rfl (wX B) ?_)))))))))))))
      refine yR rfl (pt_ (.bool t) e0 B (eqv f0 rfl)) (yR rfl (m_ (.bool t) e0) (Rx rfl rfl (wX N) (Rx rfl rfl (wX N) (Rx rfl rfl (wX N) (Rn QSn ?_)))))
      refine Lc1 rfl ?_
      refine Lx (wX N) (Dn [] [15] [19] (Rn (Sx_ rfl rfl (wX N) rfl QSn) ?_))
      refine Lc1 rfl ?_
      refine Lx (wX N) (Dn [20, 21, 22, 23, 24, 26] [] [25] (Rx rfl rfl (wX N) (yR rfl (pt_ (.bool p) e0 N (eqv f1 rfl)) (yR rfl (m_ (.bool p) e0) (Rx rfl rfl (wX O) (Rx rfl rfl (wX O) (Rx rfl rfl (wX O) (Rn QSn ?_))))))))
      refine Lc1 rfl ?_
      refine Lx (wX O) (Dn [] [26] [27] (Rn (Sx_ rfl rfl (wX O) rfl QSn) ?_))
      refine Lc1 rfl ?_
      exact Lx (wX O) (Dz [28, 29] [] (Rx rfl rfl (wX O) (yR rfl (pt_ (.bool a5) e0 O (eqv m3 rfl)) (Rn QSn (b0 _ _ ⟨rfl, rfl, rfl, rfl, rfl, ((b.k2i).facts (allC F6 (allC F5 (allT (allT (allT (allT (allT (allT (allT allI))))))))))⟩)))))
     ·have d5 := someI J
      rcases iteS u with ⟨g, u⟩ | ⟨g, u⟩
      ·have f2 := someI u
       have R : p = true := f2.symm
       rw [if_pos R] at m
       have m4 := someI m
       refine dR [0, 1, 3, 7, 15, 31, 63, 127, 255, 511, 1023, 2047, 4095, 8191, 16383, 32767, 32767, 32767, 229375, 524287, 1048575, 2097151, 4194303, 8388607, 8388607, 33554431, 8388607, 134217727, 268435455, 536870911] [18, 19, 25, 27] 4 folM ?_
       replace b := b.drew
       refine Dn [0, 1, 2, 3, 4, 5, 6, 7, 8, 9, 10, 11, 12, 13, 14, 15, 16, 17] [] [18] (yR rfl (m_ (iV d.2.2) e0) (yR rfl (yneq e0 rfl) (yR rfl (m_ (.bool (!(decide (d.2.2 = 0)))) e0) (Ry rfl rfl (wG (nF (dT i))) (m_ (iV x.2.2) e0) (Ry rfl rfl (wG (nF (dT i))) (yneq e0 rfl) (yR rfl (pf_ (.bool A) e0 (nF (dT i)) (eqv b6 e0)) (yR rfl (m_ (.bool A) e0) (Ry rfl rfl (wG (bfalse q)) (m_ (iV r.2.2) e0) (Ry rfl rfl (wG (bfalse q)) (yneq e0 rfl) (yR rfl (pf_ (.bool y) e0 (bfalse q) (eqv c5 e0)) (yR rfl (m_ (.bool y) e0) (Ry rfl rfl (wG (bfalse B)) (m_ (iV D.2.2) e0) (Ry rfl rfl (wG (bfalse B)) (yneq e0 rfl) ?_)))))))))))))
       refine yR rfl (pf_ (.bool t) e0 (bfalse B) (eqv d5 e0)) (yR rfl (m_ (.bool t) e0) (Rx rfl rfl (wX g) (Rx rfl rfl (wX g) (Rx rfl rfl (wX g) (Rn QSn ?_)))))
       refine Lc1 rfl ?_
       refine Lx (wX g) (Dn [] [15] [19] (Rn (Sx_ rfl rfl (wX g) rfl QSn) ?_))
       refine Lc1 rfl ?_
       refine Lx (wX g) (Dn [20, 21, 22, 23, 24, 26] [] [25] (Rx rfl rfl (wX g) (yR rfl (pt_ (.bool p) e0 g (eqv f2 rfl)) (yR rfl (m_ (.bool p) e0) (Rx rfl rfl (wX R) (Rx rfl rfl (wX R) (Rx rfl rfl (wX R) (Rn QSn ?_))))))))
       refine Lc1 rfl ?_
       refine Lx (wX R) (Dn [] [26] [27] (Rn (Sx_ rfl rfl (wX R) rfl QSn) ?_))
       refine Lc1 rfl ?_
       exact Lx (wX R) (Dz [28, 29] [] (Rx rfl rfl (wX R) (yR rfl (pt_ (.bool a5) e0 R (eqv m4 rfl)) (Rn QSn (b0 _ _ ⟨rfl, rfl, rfl, rfl, rfl, ((b.k2i).facts (allC F6 (allC F5 (allT (allT (allT (allT (allT (allT (allT allI))))))))))⟩)))))
      ·refine bE u fun v5 f3 u => bE u fun v6 f4 u => ?_
       have f5 := someI u
       rcases iteS m with ⟨o, m⟩ | ⟨o, m⟩
       ·have m5 := someI m
        refine dR [0, 1, 3, 7, 15, 31, 63, 127, 255, 511, 1023, 2047, 4095, 8191, 16383, 32767, 32767, 32767, 229375, 524287, 1048575, 2097151, 4194303, 8388607, 8388607, 33554431, 8388607, 134217727, 268435455, 536870911] [18, 19, 25, 27] 4 folM ?_
        replace b := b.drew
        refine Dn [0, 1, 2, 3, 4, 5, 6, 7, 8, 9, 10, 11, 12, 13, 14, 15, 16, 17] [] [18] (yR rfl (m_ (iV d.2.2) e0) (yR rfl (yneq e0 rfl) (yR rfl (m_ (.bool (!(decide (d.2.2 = 0)))) e0) (Ry rfl rfl (wG (nF (dT i))) (m_ (iV x.2.2) e0) (Ry rfl rfl (wG (nF (dT i))) (yneq e0 rfl) (yR rfl (pf_ (.bool A) e0 (nF (dT i)) (eqv b6 e0)) (yR rfl (m_ (.bool A) e0) (Ry rfl rfl (wG (bfalse q)) (m_ (iV r.2.2) e0) (Ry rfl rfl (wG (bfalse q)) (yneq e0 rfl) (yR rfl (pf_ (.bool y) e0 (bfalse q) (eqv c5 e0)) (yR rfl (m_ (.bool y) e0) (Ry rfl rfl (wG (bfalse B)) (m_ (iV D.2.2) e0) (Ry rfl rfl (wG (bfalse B)) (yneq e0 rfl) ?_)))))))))))))
        refine yR rfl (pf_ (.bool t) e0 (bfalse B) (eqv d5 e0)) (yR rfl (m_ (.bool t) e0) (Ry rfl rfl (wG (bfalse g)) (lbs_ [.bool r.1, Z.v] ST_31 e0 b R1) (Ry rfl rfl (wG (bfalse g)) (lbs_ [.bool d.1, h.v] ST_31 e0 b R3) (Ry rfl rfl (wG (bfalse g)) (lbs_ [.bool x.1, a8.v] ST_31 e0 b R2) (Rn QSn ?_)))))
        refine Lc1 rfl ?_
        refine Lk (wG (bfalse g)) (yCall FN_32 (a2 e0 e0)) (integer_Mul_ok f3 F5 F3 b) ?_
        rintro _ w ⟨m6, rfl, b⟩
        refine ⟨_, rfl, ?_⟩
        refine Dn [] [15] [19] (Rn (Sy rfl rfl (wG (bfalse g)) (lbs_ [.bool r.1, Z.v] ST_31 e0 b R1) rfl QSn) ?_)
        refine Lc1 rfl ?_
        refine Lk (wG (bfalse g)) (yCall FN_23 (a2 e0 e0)) (sparsekit_Big_ok f4 F2 F0 b) ?_
        rintro _ w ⟨rfl, b⟩
        refine ⟨_, rfl, ?_⟩
        refine Dn [20, 21, 22, 23, 24, 26] [] [25] (Ry rfl rfl (wG (bfalse g)) (ynot e0) (yR rfl (pf_ (.bool p) e0 (bfalse g) (eqv f5 e0)) (yR rfl (m_ (.bool p) e0) (Rx rfl rfl (wX o) (Rx rfl rfl (wX o) (Rx rfl rfl (wX o) (Rn QSn ?_)))))))
        refine Lc1 rfl ?_
        refine Lx (wX o) (Dn [] [26] [27] (Rn (Sx_ rfl rfl (wX o) rfl QSn) ?_))
        refine Lc1 rfl ?_
        exact Lx (wX o) (Dz [28, 29] [] (Rx rfl rfl (wX o) (yR rfl (pt_ (.bool a5) e0 o (eqv m5 rfl)) (Rn QSn (b0 _ _ ⟨rfl, rfl, rfl, rfl, rfl, ((b.k2i).facts (allC F7 (allC F6 (allT (allT (allT (allT (allT (allT (allT (allT allI)))))))))))⟩)))))
       ·refine bE m fun v7 m7 m => bE m fun v8 m8 m => ?_
        have m9 := someI m
        refine dR [0, 1, 3, 7, 15, 31, 63, 127, 255, 511, 1023, 2047, 4095, 8191, 16383, 32767, 32767, 32767, 229375, 524287, 1048575, 2097151, 4194303, 8388607, 8388607, 33554431, 8388607, 134217727, 268435455, 536870911] [18, 19, 25, 27] 4 folM ?_
        replace b := b.drew
        refine Dn [0, 1, 2, 3, 4, 5, 6, 7, 8, 9, 10, 11, 12, 13, 14, 15, 16, 17] [] [18] (yR rfl (m_ (iV d.2.2) e0) (yR rfl (yneq e0 rfl) (yR rfl (m_ (.bool (!(decide (d.2.2 = 0)))) e0) (Ry rfl rfl (wG (nF (dT i))) (m_ (iV x.2.2) e0) (Ry rfl rfl (wG (nF (dT i))) (yneq e0 rfl) (yR rfl (pf_ (.bool A) e0 (nF (dT i)) (eqv b6 e0)) (yR rfl (m_ (.bool A) e0) (Ry rfl rfl (wG (bfalse q)) (m_ (iV r.2.2) e0) (Ry rfl rfl (wG (bfalse q)) (yneq e0 rfl) (yR rfl (pf_ (.bool y) e0 (bfalse q) (eqv c5 e0)) (yR rfl (m_ (.bool y) e0) (Ry rfl rfl (wG (bfalse B)) (m_ (iV D.2.2) e0) (Ry rfl rfl (wG (bfalse B)) (yneq e0 rfl) ?_)))))))))))))
        refine yR rfl (pf_ (.bool t) e0 (bfalse B) (eqv d5 e0)) (yR rfl (m_ (.bool t) e0) (Ry rfl rfl (wG (bfalse g)) (lbs_ [.bool r.1, Z.v] ST_31 e0 b R1) (Ry rfl rfl (wG (bfalse g)) (lbs_ [.bool d.1, h.v] ST_31 e0 b R3) (Ry rfl rfl (wG (bfalse g)) (lbs_ [.bool x.1, a8.v] ST_31 e0 b R2) (Rn QSn ?_)))))
        refine Lc1 rfl ?_
        refine Lk (wG (bfalse g)) (yCall FN_32 (a2 e0 e0)) (integer_Mul_ok f3 F5 F3 b) ?_
        rintro _ w ⟨m6, rfl, b⟩
        refine ⟨_, rfl, ?_⟩
        refine Dn [] [15] [19] (Rn (Sy rfl rfl (wG (bfalse g)) (lbs_ [.bool r.1, Z.v] ST_31 e0 b R1) rfl QSn) ?_)
        refine Lc1 rfl ?_
        refine Lk (wG (bfalse g)) (yCall FN_23 (a2 e0 e0)) (sparsekit_Big_ok f4 F2 F0 b) ?_
        rintro _ w ⟨rfl, b⟩
        refine ⟨_, rfl, ?_⟩
        refine Dn [20, 21, 22, 23, 24, 26] [] [25] (Ry rfl rfl (wG (bfalse g)) (ynot e0) (yR rfl (pf_ (.bool p) e0 (bfalse g) (eqv f5 e0)) (yR rfl (m_ (.bool p) e0) (Ry rfl rfl (wG (bfalse o)) (lbs_ [.bool d.1, h.v] ST_31 e0 b R3) (Ry rfl rfl (wG (bfalse o)) (lbs_ [.bool d.1, h.v] ST_31 e0 b R3) (Ry rfl rfl (wG (bfalse o)) (lbs_ [.bool D.1, a9.v] ST_31 e0 b R0) (Rn QSn ?_)))))))
        refine Lc1 rfl ?_
        refine Lk (wG (bfalse o)) (yCall FN_32 (a2 e0 e0)) (integer_Mul_ok m7 F6 F6 b) ?_
        rintro _ w ⟨v9, rfl, b⟩
        refine ⟨_, rfl, ?_⟩
        refine Dn [] [26] [27] (Rn (Sy rfl rfl (wG (bfalse o)) (lbs_ [.bool D.1, a9.v] ST_31 e0 b R0) rfl QSn) ?_)
        refine Lc1 rfl ?_
        refine Lk (wG (bfalse o)) (yCall FN_47 (a2 e0 e0)) (integer_Cmp_ok m8 F0 F2 b) ?_
        rintro _ w ⟨rfl, b⟩
        refine ⟨_, rfl, ?_⟩
        exact Dz [28, 29] [] (Ry rfl rfl (wG (bfalse o)) (ygtr e0 rfl) (yR rfl (pf_ (.bool a5) e0 (bfalse o) (eqv m9 e0)) (Rn QSn (b0 _ _ ⟨rfl, rfl, rfl, rfl, rfl, ((b.k2i).facts (allC F8 (allC F7 (allT (allT (allT (allT (allT (allT (allT (allT (allT allI))))))))))))⟩))))
   ·have f6 := someI b5
    have c6 : A = true := f6.symm
    rw [if_pos c6] at a4
    have f7 := someI a4
    have c7 : y = true := f7.symm
    rw [if_pos c7] at J
    have f8 := someI J
    have S : t = true := f8.symm
    rw [if_pos S] at u
    have f9 := someI u
    have T : p = true := f9.symm
    rw [if_pos T] at m
    have n0 := someI m
    refine dR [0, 1, 3, 7, 15, 31, 63, 127, 255, 511, 1023, 2047, 4095, 8191, 16383, 32767, 32767, 32767, 229375, 524287, 1048575, 2097151, 4194303, 8388607, 8388607, 33554431, 8388607, 134217727, 268435455, 536870911] [18, 19, 25, 27] 4 folM ?_
    replace b := b.drew
    refine Dn [0, 1, 2, 3, 4, 5, 6, 7, 8, 9, 10, 11, 12, 13, 14, 15, 16, 17] [] [18] (yR rfl (m_ (iV d.2.2) e0) (yR rfl (yneq e0 rfl) (yR rfl (m_ (.bool (!(decide (d.2.2 = 0)))) e0) (Rx rfl rfl (wX (nT (dF i))) (Rx rfl rfl (wX (nT (dF i))) (yR rfl (pt_ (.bool A) e0 (nT (dF i)) (eqv f6 rfl)) (yR rfl (m_ (.bool A) e0) (Rx rfl rfl (wX c6) (Rx rfl rfl (wX c6) (yR rfl (pt_ (.bool y) e0 c6 (eqv f7 rfl)) (yR rfl (m_ (.bool y) e0) (Rx rfl rfl (wX c7) (Rx rfl rfl (wX c7) ?_)))))))))))))
    refine yR rfl (pt_ (.bool t) e0 c7 (eqv f8 rfl)) (yR rfl (m_ (.bool t) e0) (Rx rfl rfl (wX S) (Rx rfl rfl (wX S) (Rx rfl rfl (wX S) (Rn QSn ?_)))))
    refine Lc1 rfl ?_
    refine Lx (wX S) (Dn [] [15] [19] (Rn (Sx_ rfl rfl (wX S) rfl QSn) ?_))
    refine Lc1 rfl ?_
    refine Lx (wX S) (Dn [20, 21, 22, 23, 24, 26] [] [25] (Rx rfl rfl (wX S) (yR rfl (pt_ (.bool p) e0 S (eqv f9 rfl)) (yR rfl (m_ (.bool p) e0) (Rx rfl rfl (wX T) (Rx rfl rfl (wX T) (Rx rfl rfl (wX T) (Rn QSn ?_))))))))
    refine Lc1 rfl ?_
    refine Lx (wX T) (Dn [] [26] [27] (Rn (Sx_ rfl rfl (wX T) rfl QSn) ?_))
    refine Lc1 rfl ?_
    exact Lx (wX T) (Dz [28, 29] [] (Rx rfl rfl (wX T) (yR rfl (pt_ (.bool a5) e0 T (eqv n0 rfl)) (Rn QSn (b0 _ _ ⟨rfl, rfl, rfl, rfl, rfl, ((b.k2i).facts (allC F6 (allC F5 (allT (allT (allT (allT (allT (allT (allT allI))))))))))⟩)))))
  rintro f w ⟨n1, n2, n3, n4, n5, b⟩
  refine m1 _ _ (cB (eh n5) c (fun n6 c => ?_) fun n6 c => ?_)
  ·refine sR fun _ n7 => Ya (.bool false) rfl (wK n7 (wp_ret (m0 _ _ _ rfl ?_)))
   cases c
   exact d3 _ _ _ (fin1r Tryz.results8 ⟨rfl, rfl⟩ ⟨rfl, ((b.k13).facts (allT (allT allI)))⟩)
  ·refine wp_skip (l9 _ _ (sR fun _ n8 => Ya hnil.v rfl (wK n8 (sQ fun _ n9 => sR fun _ o0 => Ya (iV 0) rfl (wK o0 (blockQ fun o1 o2 => ?_))))))
   refine bE c fun o3 o4 c => ?_
   have o5 : ∀ (d6 : L2) (d0 : Hdr) (f : FV) w, f 3 = iV X → f 11 = (pB G) → f 19 = d0.v → St w0 (imm (rI .u32) h.v d.2.1 :: ros) (box G 31 [.bool d.1, h.v] :: row 48 S1 d0.v d6 :: rs) w → d6 = o3 → o1 (.exit 0) (fr 158 f) w := by
    intro d6 d0 f w g0 o6 o7 b ho
    subst ho
    refine o2 _ _ _ (n9 _ _ (sR fun _ o8 => Ym d0.v (eh o7) (Ym (iV X) (eh g0) (bE c fun j o9 c => ?_))))
    have g1 := b
    replace b := (b.k10).fz
    have b7 := b.guest0
    replace b := g1
    clear g1
    refine yC (yCall FN_48 (a2 e0 e0)) (modular_Det_ok o9 F0 b7) ?_
    clear b7
    rintro _ w ⟨rfl, b7⟩
    replace b := b.back b7
    clear b7
    refine ⟨_, rfl, ?_⟩
    refine Ym (.tuple #[iV j.1, iV j.2]) e0 (yY (x_ (iV j.1) e0) (yY (x_ (iV j.2) e0) (Ya (iV j.1) e0 (Ya (iV j.2) e0 (wK o8 (sR fun _ p0 => yY (lbs_ [.bool d.1, h.v] ST_31 (eh o6) b R0) (Ym (iV X) (eh g0) (bE c fun k p1 c => yC (yCall FN_49 (a2 e0 e0)) (modular_Reduce_ok p1 F0 b) ?_))))))))
    rintro _ w ⟨rfl, b⟩
    refine ⟨_, rfl, ?_⟩
    refine Ym (.tuple #[iV k.1, iV k.2]) e0 (yY (x_ (iV k.1) e0) (yY (x_ (iV k.2) e0) (Ya (iV k.1) e0 (Ya (iV k.2) e0 (wK p0 (sR fun _ p2 => Ym (iV j.2) e0 (yY (yeql e0 rfl) (Ym (.bool (decide (j.2 = 0))) e0 ?_))))))))
    refine joinW 3 (fun f w => f 25 = iV j.1 ∧ f 27 = iV k.1 ∧ f 149 = .bool ((decide (j.2 = 0)) && (decide (k.2 = 0))) ∧ St w0 ros rs w) (fun g2 => ?_) ?_
    ·rcases Bool.eq_false_or_eq_true (decide (j.2 = 0)) with U | U
     ·exact yG U (m_ (iV k.2) e0) (yG U (yeql e0 rfl) (yY (pt_ (.bool (decide (k.2 = 0))) e0 U e0) (g2 _ _ ⟨rfl, rfl, (congrArg Value.bool (andT U)), ((b.k14).facts (allT allI))⟩)))
     ·exact gN U (gN U (yY (pf_ (.bool false) e0 U rfl) (g2 _ _ ⟨rfl, rfl, (congrArg Value.bool (andF U)), ((b.k14).facts (allT allI))⟩)))
    rintro f w ⟨p3, p4, p5, b⟩
    refine Ym (.bool ((decide (j.2 = 0)) && (decide (k.2 = 0)))) (eh p5) ?_
    refine joinW 4 (fun f w => f 154 = .bool (((decide (j.2 = 0)) && (decide (k.2 = 0))) && (decide (j.1 = k.1))) ∧ St w0 ros rs w) (fun g3 => ?_) ?_
    ·rcases Bool.eq_false_or_eq_true ((decide (j.2 = 0)) && (decide (k.2 = 0))) with F | F
     ·exact yG F (m_ (iV j.1) (eh p3)) (yG F (m_ (iV k.1) (eh p4)) (yG F (yeql e0 e0) (yY (pt_ (.bool (decide (j.1 = k.1))) e0 F e0) (g3 _ _ ⟨(congrArg Value.bool (andT F)), b⟩))))
     ·exact gN F (gN F (gN F (yY (pf_ (.bool false) e0 F rfl) (g3 _ _ ⟨(congrArg Value.bool (andF F)), b⟩))))
    rintro f w ⟨p6, b⟩
    refine Ym (.bool (((decide (j.2 = 0)) && (decide (k.2 = 0))) && (decide (j.1 = k.1)))) (eh p6) (bE c fun g4 a6 c => ?_)
    refine joinW 2 (fun f w => f 157 = .bool g4 ∧ St w0 ros rs w) (fun g5 => ?_) ?_
    ·rcases iteS a6 with ⟨b8, a6⟩ | ⟨b8, a6⟩
     ·refine bE a6 fun p7 p8 a6 => Yc (wG b8) rfl (yCall FN_10 a0) (sparselaw08_awake_ok p8 b) ?_
      rintro _ w ⟨rfl, b⟩
      refine ⟨_, rfl, ?_⟩
      refine yY (pt_ (.bool p7) e0 b8 e0) ?_
      cases a6
      exact g5 _ _ ⟨rfl, b⟩
     ·refine gN (bfalse b8) (yY (pf_ (.bool false) e0 (bfalse b8) rfl) ?_)
      cases a6
      exact g5 _ _ ⟨rfl, b⟩
    rintro f w ⟨p9, b⟩
    refine Ya (.bool g4) (eh p9) (wK p2 (wp_ret ?_))
    cases c
    exact d3 _ _ _ (fin1r Tryz.results8 ⟨rfl, rfl⟩ ⟨rfl, b⟩)
   replace b := b.rowNh 48 S1
   refine loopQ (fun s a w => ∃ (b9 : L2) (V : Int) (f : FV) (a3 : Hdr), (b9, V) = s ∧ a = fr 158 f ∧ f 2 = iV I ∧ f 3 = iV X ∧ f 9 = z.v ∧ f 11 = (pB G) ∧ f 19 = a3.v ∧ f 20 = iV V ∧ St w0 (imm (rS (rP rB (rS (rI .u32)))) z.v c3 :: imm (rI .u32) h.v d.2.1 :: ros) (box G 31 [.bool d.1, h.v] :: row 48 S1 a3.v b9 :: rs) w) o4 ⟨_, _, _, _, rfl, rfl, n1, n2, n3, n4, rfl, rfl, (b.k10)⟩ ?_
   rintro _ _ w w1 ⟨b9, V, f, a3, rfl, rfl, g6, g7, q0, g8, g9, h0, b⟩ W q3 w2 q4 q5
   refine seqQ fun w3 q6 q7 => sR fun _ q8 => Ym (iV V) (eh h0) (Ym (iV I) (eh g6) (yY (ylss e0 e0) (wK q8 ?_)))
   refine cIf e0 W (fun q9 W => ?_) fun q9 W => ?_
   ·refine wp_skip (q6 _ _ (sQ fun _ r0 => blockQ fun _ r1 => sR fun _ r2 => Ya hnil.v rfl (wK r2 (sQ fun _ r3 => sR fun _ r4 => Ya (iV 0) rfl (wN ?_)))))
    refine r4 _ _ (blockQ fun r5 r6 => bE W fun r7 r8 W => ?_)
    have r9 : ∀ (d1 : LI) (b1 : Hdr) (f : FV) w, f 2 = iV I → f 3 = iV X → f 9 = z.v → f 11 = (pB G) → f 19 = a3.v → f 20 = iV V → f 21 = b1.v → St w0 (imm (rS (rP rB (rS (rI .u32)))) z.v c3 :: imm (rI .u32) h.v d.2.1 :: ros) (box G 31 [.bool d.1, h.v] :: row 48 S1 a3.v b9 :: row 3 I1 b1.v d1 :: rs) w → d1 = r7 → r5 (.exit 2) (fr 158 f) w := by
     intro d1 b1 f w s0 s1 s2 s3 s4 s5 s6 b ho
     subst ho
     refine r6 _ _ _ (r3 _ _ (wR (Ym a3.v (eh s4) (Ym b1.v (eh s6) (yH (rLt (n := 1) (l := [d1]) ((b.k1f).fz) SL_63 [b1.v] (bp1 e0) rfl rfl (mks1 (cs := [b1.v]) rfl (mkS F0) mks0)) fun w4 w b => bE W fun w5 s7 W => yH (rAp (b.k1f) SL_63 e0 e0 rO1 s7) fun s8 w b => Ya s8.v e0 (wN (r1 _ _ _ (r0 _ _ ?_))))))))
     refine wR (Ym (iV V) (eh s5) (yY (yadd e0 rfl) (Ya (iV (wa .i64 V 1)) e0 (wN ?_))))
     cases W
     exact q4 _ _ _ rfl ⟨_, _, _, _, rfl, rfl, s0, s1, s2, s3, rfl, rfl, ((b.k2d).facts (allC F1 (allC F2 (allT (allT (allT allI))))))⟩
    replace b := b.rowNh 3 I1
    refine loopQ (fun s a w => ∃ (d7 : LI) (a7 : Int) (f : FV) (d2 : Hdr), (d7, a7) = s ∧ a = fr 158 f ∧ f 2 = iV I ∧ f 3 = iV X ∧ f 9 = z.v ∧ f 11 = (pB G) ∧ f 19 = a3.v ∧ f 20 = iV V ∧ f 21 = d2.v ∧ f 22 = iV a7 ∧ St w0 (imm (rS (rP rB (rS (rI .u32)))) z.v c3 :: imm (rI .u32) h.v d.2.1 :: ros) (box G 31 [.bool d.1, h.v] :: row 48 S1 a3.v b9 :: row 3 I1 d2.v d7 :: rs) w) r8 ⟨_, _, _, _, rfl, rfl, g6, g7, q0, g8, g9, h0, rfl, rfl, (b.k19)⟩ ?_
    rintro _ _ w w6 ⟨d7, a7, f, d2, rfl, rfl, d8, h1, d9, h3, h5, e1, h6, e2, b⟩ C s9 w7 t0 t1
    refine seqQ fun w8 t2 t3 => sR fun _ t4 => Ym (iV a7) (eh e2) (Ym (iV I) (eh d8) (yY (ylss e0 e0) (wK t4 ?_)))
    refine cIf e0 C (fun t5 C => ?_) fun t5 C => ?_
    ·refine wp_skip (t2 _ _ (sQ fun _ t6 => blockQ fun _ t7 => sR fun _ t8 => Ym z.v (eh d9) (Ym (iV V) (eh e1) (bE C fun w9 h7 C => yY (yIa SL_22 e0 e0 b (rdI F0) h7) ?_))))
     obtain ⟨x0, b⟩ := iLs b F0 h7
     refine yY (yCt O_32 e0 b F1 rfl) (Ym (iV a7) (eh e2) (bE C fun t9 h8 C => yY (yIa SL_32 e0 e0 b (rdI F0) h8) ?_))
     obtain ⟨x2, x4, b⟩ := iLd b F0 h8
     obtain ⟨x7, x8, rfl, b⟩ := b.eltP
     obtain ⟨rfl, b⟩ := b.eltB
     obtain ⟨u0, rfl, b⟩ := b.eltS
     refine yY (yCtn (cs := [.bool t9.1, u0.v]) ST_31 rfl e0 b F1) (bE C fun H u1 C => yC (yCall FN_42 (a1 e0)) (sparseref01_Int_ok u1 F0 b) ?_)
     rintro _ w ⟨rfl, b⟩
     refine ⟨_, rfl, ?_⟩
     refine Ym (.tuple #[iV H.1, .bool H.2]) e0 (yY (x_ (iV H.1) e0) (yY (x_ (.bool H.2) e0) (Ya (iV H.1) e0 (Ya (.bool H.2) e0 (wK t8 (wR (Ym d2.v (eh h6) (Ym (iV H.1) e0 (yH (rLt (n := 1) (l := [H.1]) b SL_48 [iV H.1] (bp1 e0) rfl rfl (mks1 (cs := [iV H.1]) rfl mkI mks0)) fun x9 w b => bE C fun y0 u2 C => yH (rAp (b.k17) SL_48 e0 e0 rO1 u2) ?_)))))))))
     refine fun u3 w b => Ya u3.v e0 (wN (t7 _ _ _ (t6 _ _ (wR (Ym (iV a7) (eh e2) (yY (yadd e0 rfl) (Ya (iV (wa .i64 a7 1)) e0 (wN ?_))))))))
     cases C
     exact t0 _ _ _ rfl ⟨_, _, _, _, rfl, rfl, d8, h1, d9, h3, h5, e1, rfl, rfl, ((b.k18).facts (allC F4 (allC F5 (allT (allT (allT (allT (allT (allT allI)))))))))⟩
    ·refine wp_exit (t3 _ _ _ rfl ?_)
     cases C
     exact t1 _ _ _ _ rfl rfl (r9 _ _ _ _ d8 h1 d9 h3 h5 e1 h6 b (s9 _ rfl))
   ·refine wp_exit (q7 _ _ _ rfl ?_)
    cases W
    exact q5 _ _ _ _ rfl rfl (o5 _ _ _ _ g7 g8 g9 (b.facts (allC F1 (allT (allT allI)))) (q3 _ rfl))
end Go.Proofs.YtpfmbaidflhamaaGreatDoor
