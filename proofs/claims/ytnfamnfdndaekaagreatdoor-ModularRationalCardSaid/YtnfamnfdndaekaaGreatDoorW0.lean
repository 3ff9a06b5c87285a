/- Walks: each function computes its model, printed. -/
import Derived.Test.YtnfamnfdndaekaaGreatDoorSxX
import Derived.Test.YtnfamnfdndaekaaGreatDoorTy
import Derived.Test.YtnfamnfdndaekaaGreatDoorM6
import Derived.Test.YtnfamnfdndaekaaGreatDoorSxV
import Derived.Test.YtnfamnfdndaekaaGreatDoorSxS
import Derived.Test.YtnfamnfdndaekaaGreatDoorSxY
namespace Go.Proofs.YtnfamnfdndaekaaGreatDoor
open Go Sx M
set_option maxRecDepth 100000
set_option maxHeartbeats 40000000
set_option linter.unusedVariables false
attribute [local irreducible] wpList Code.wp Calls DR QR QS LA LS St
variable {w0 : World} {ros : List Fact} {rs : List Res} {w : World}
theorem sparsekit_Slim_ok {d : Bool} {f : LI} {b : Int} {c : Hdr} {out : Bool} (g : sparsekit_Slim d f b = some out) (h : imm (rI .u32) c.v f ∈ ros) (a : St w0 ros rs w) :
  Calls Tryz.prog 18 #[.agg #[.bool d, c.v], iV b] w (fun e w => e = .returned (.bool out) ∧ St w0 ros rs w) := by
 refine enterQ Tryz.func18 rfl Tryz.ntmps18 rfl fun Q i => sR fun _ j => yBb (r_box (vals := [.bool d, c.v]) a e0 rfl) fun l w a => Ya (.bool false) rfl (wK j (sR fun _ k => yY (yFb FL_27_1 e0) (yY (lb_ c.v O_25 e0 a R0) (yY (yLen SL_25 e0 a (rdI h)) (Ym (iV b) e0 ?_)))))
 refine yY (yleq e0 e0) (Ya (.bool (decide ((f.length : Int) ≤ b))) e0 (wK k (wp_ret ?_)))
 cases g
 exact i _ _ _ (fin1r Tryz.results18 ⟨rfl, rfl⟩ ⟨rfl, (a.k10)⟩)
theorem modular_IsPrime_ok {b : Int} {out : Bool} (h : modular_IsPrime b = some out) (c : St w0 ros rs w) :
  Calls Tryz.prog 24 #[iV b] w (fun e w => e = .returned (.bool out) ∧ St w0 ros rs w) := by
 refine enterQ Tryz.func24 rfl Tryz.ntmps24 rfl fun Q l => sR fun _ u => Ya (.bool false) rfl (wK u (seqQ fun Z v x => sR fun _ y => Ym (iV b) e0 (yY (ylss e0 rfl) (Ym (.bool (decide (b < 2))) e0 ?_))))
 refine joinW 3 (fun f w => f 0 = iV b ∧ f 9 = .bool ((decide (b < 2)) || (decide ((2147483647 : Int) < b))) ∧ St w0 ros rs w) (fun m => ?_) ?_
 ·rcases Bool.eq_false_or_eq_true (decide (b < 2)) with g | g
  ·exact gN g (gN g (yY (pt_ (.bool true) e0 g rfl) (m _ _ ⟨rfl, (congrArg Value.bool (orT g)), c⟩)))
  ·exact yG g (m_ (iV b) e0) (yG g (ygtr e0 rfl) (yY (pf_ (.bool (decide ((2147483647 : Int) < b))) e0 g e0) (m _ _ ⟨rfl, (congrArg Value.bool (orF g)), c⟩)))
 rintro f w ⟨j, z, c⟩
 refine wK y (cB (eh z) h (fun A h => ?_) fun A h => ?_)
 ·refine sR fun _ B => Ya (.bool false) rfl (wK B (wp_ret (x _ _ _ rfl ?_)))
  cases h
  exact l _ _ _ (fin1r Tryz.results24 ⟨rfl, rfl⟩ ⟨rfl, c⟩)
 ·refine wp_skip (v _ _ (seqQ fun a0 C D => sR fun _ E => Ya (iV 2) rfl (wK E (blockQ fun n o => bE h fun p F h => ?_))))
  have G : ∀ (f : FV) w, St w0 ros rs w → .inl () = p → n (.exit 0) (fr 21 f) w := by
   intro f w c ho
   subst ho
   refine o _ _ _ (C _ _ (sR fun _ H => Ya (.bool true) rfl (wK H (wp_ret ?_))))
   cases h
   exact l _ _ _ (fin1r Tryz.results24 ⟨rfl, rfl⟩ ⟨rfl, c⟩)
  have I : ∀ (f : FV) w, f 2 = .bool false → St w0 ros rs w → .inr () = p → n .ret (fr 21 f) w := by
   intro f w J c ho
   subst ho
   refine o _ _ _ (D _ _ _ rfl ?_)
   cases h
   exact l _ _ _ (fin1r Tryz.results24 ⟨rfl, J⟩ ⟨rfl, c⟩)
  refine loopQ (fun s a w => ∃ (i : Int) (f : FV), i = s ∧ a = fr 21 f ∧ f 0 = iV b ∧ f 3 = iV i ∧ St w0 ros rs w) F ⟨_, _, rfl, rfl, j, rfl, c⟩ ?_
  rintro _ _ w a1 ⟨i, f, rfl, rfl, j, k, c⟩ d q a2 K r
  refine seqQ fun a3 L N => sR fun _ O => Ym (iV i) (eh k) (Ym (iV i) (eh k) (yY (ymul e0 e0) (Ym (iV b) (eh j) (yY (yleq e0 e0) (wK O ?_)))))
  refine cIf e0 d (fun R d => ?_) fun R d => ?_
  ·refine wp_skip (L _ _ (seqQ fun a4 S T => blockQ fun _ t => sR fun _ U => Ym (iV b) (eh j) (Ym (iV i) (eh k) (bE d fun a5 V d => yY (yrem e0 e0 V) (yY (yeql e0 rfl) (wK U ?_))))))
   refine cIf e0 d (fun W d => ?_) fun W d => ?_
   ·refine sR fun _ X => Ya (.bool false) rfl (wK X (wp_ret (t _ _ _ (T _ _ _ rfl ?_))))
    cases d
    exact r _ _ _ _ rfl rfl (I _ _ rfl c (q _ rfl))
   ·refine wp_skip (t _ _ _ (S _ _ (wR (Ym (iV i) (eh k) (yY (yadd e0 rfl) (Ya (iV (wa .i64 i 1)) e0 (wN ?_)))))))
    cases d
    exact K _ _ _ rfl ⟨_, _, rfl, rfl, j, rfl, c⟩
  ·refine wp_exit (N _ _ _ rfl ?_)
   cases d
   exact r _ _ _ _ rfl rfl (G _ _ c (q _ rfl))
theorem modular_mod_ok {h b out : Int} (a : modular_mod h b = some out) (d : St w0 ros rs w) :
  Calls Tryz.prog 62 #[iV h, iV b] w (fun e w => e = .returned (iV out) ∧ St w0 ros rs w) := by
 refine enterQ Tryz.func62 rfl Tryz.ntmps62 rfl fun Q j => sR fun _ k => Ya (iV 0) rfl (wK k (sR fun _ l => Ym (iV h) e0 (Ym (iV b) e0 (bE a fun g m a => yY (yrem e0 e0 m) (Ya (iV g) e0 (wN ?_))))))
 refine l _ _ (sQ fun n o => sR fun _ p => Ym (iV g) e0 (yY (ylss e0 rfl) (wK p ?_)))
 have i : ∀ (c : Int) (f : FV) w, f 5 = iV c → St w0 ros rs w → modular_mod_j1 c = some out → n .normal (fr 15 f) w := by
  intro c f w q d a
  refine o _ _ (sR fun _ r => Ym (iV c) (eh q) (Ya (iV c) e0 (wK r (wp_ret ?_))))
  cases a
  exact j _ _ _ (fin1r Tryz.results62 ⟨rfl, rfl⟩ ⟨rfl, d⟩)
 refine cIf e0 a (fun s a => ?_) fun s a => ?_
 ·exact wR (Ym (iV g) e0 (Ym (iV b) e0 (yY (yadd e0 e0) (Ya (iV (wa .i64 g b)) e0 (wN (i _ _ _ rfl d a))))))
 ·exact wp_skip (i _ _ _ rfl d a)
theorem modular_raise_ok {q r h out : Int} (i : modular_raise q r h = some out) (c : St w0 ros rs w) :
  Calls Tryz.prog 78 #[iV q, iV r, iV h] w (fun e w => e = .returned (iV out) ∧ St w0 ros rs w) := by
 refine enterQ Tryz.func78 rfl Tryz.ntmps78 rfl fun Q x => sR fun _ y => Ya (iV 0) rfl (wK y (sR fun _ z => Ya (iV 1) rfl (wK z (sQ fun _ A => blockQ fun B C => bE i fun D E i => ?_))))
 have F : ∀ (j : Int) (f : FV) w, f 7 = iV j → St w0 ros rs w → j = D → B (.exit 0) (fr 26 f) w := by
  intro j f w G c ho
  subst ho
  refine C _ _ _ (A _ _ (sR fun _ H => Ym (iV j) (eh G) (Ya (iV j) e0 (wK H (wp_ret ?_)))))
  cases i
  exact x _ _ _ (fin1r Tryz.results78 ⟨rfl, rfl⟩ ⟨rfl, c⟩)
 refine loopQ (fun s a w => ∃ (g d k : Int) (f : FV), (g, d, k) = s ∧ a = fr 26 f ∧ f 0 = iV g ∧ f 1 = iV d ∧ f 2 = iV h ∧ f 7 = iV k ∧ St w0 ros rs w) E ⟨_, _, _, _, rfl, rfl, rfl, rfl, rfl, rfl, c⟩ ?_
 rintro _ _ w I ⟨g, d, k, f, rfl, rfl, m, l, n, o, c⟩ b J a6 K L
 refine seqQ fun a7 N O => sR fun _ R => Ym (iV d) (eh l) (yY (ygtr e0 rfl) (wK R ?_))
 refine cIf e0 b (fun S b => ?_) fun S b => ?_
 ·refine wp_skip (N _ _ (sQ fun _ T => blockQ fun _ U => sQ fun V W => sR fun _ X => Ym (iV d) (eh l) (yY (yremc e0 rfl (by decide)) (yY (yeql e0 rfl) (wK X ?_)))))
  have t : ∀ (p : Int) (f : FV) w, f 0 = iV g → f 1 = iV d → f 2 = iV h → f 7 = iV p → St w0 ros rs w → modular_raise_j4 g h d p = some I → V .normal (fr 26 f) w := by
   intro p f w u Z v a0 c i
   refine W _ _ (wR (Ym (iV g) (eh u) (Ym (iV g) (eh u) (yY (ymul e0 e0) (Ym (iV h) (eh v) (bE i fun a1 a2 i => yY (yrem e0 e0 a2) (Ya (iV a1) e0 (wN (U _ _ _ (T _ _ (wR (Ym (iV d) (eh Z) ?_))))))))))))
   refine yY (yquoc e0 rfl (by decide)) (Ya (iV (wqc .i64 d 2)) e0 (wN ?_))
   cases i
   exact K _ _ _ rfl ⟨_, _, _, _, rfl, rfl, rfl, rfl, v, a0, c⟩
  refine cIf e0 b (fun a3 b => ?_) fun a3 b => ?_
  ·exact wR (Ym (iV k) (eh o) (Ym (iV g) (eh m) (yY (ymul e0 e0) (Ym (iV h) (eh n) (bE b fun a4 a5 b => yY (yrem e0 e0 a5) (Ya (iV a4) e0 (wN (t _ _ _ m l n rfl c b))))))))
  ·exact wp_skip (t _ _ _ m l n o c b)
 ·refine wp_exit (O _ _ _ rfl ?_)
  cases b
  exact L _ _ _ _ rfl rfl (F _ _ _ o c (J _ rfl))
theorem modular_inverse_ok {b a out : Int} (c : modular_inverse b a = some out) (d : St w0 ros rs w) :
  Calls Tryz.prog 64 #[iV b, iV a] w (fun e w => e = .returned (iV out) ∧ St w0 ros rs w) := by
 refine enterQ Tryz.func64 rfl Tryz.ntmps64 rfl fun Q f => sR fun _ g => Ya (iV 0) rfl (wK g (sR fun _ h => Ym (iV b) e0 (Ym (iV a) e0 (yY (ysub e0 rfl) (Ym (iV a) e0 (bE c fun i j c => yC (yCall FN_78 (a3 e0 e0 e0)) (modular_raise_ok j d) ?_))))))
 rintro _ w ⟨rfl, d⟩
 refine ⟨_, rfl, ?_⟩
 refine Ya (iV i) e0 (wK h (wp_ret ?_))
 cases c
 exact f _ _ _ (fin1r Tryz.results64 ⟨rfl, rfl⟩ ⟨rfl, d⟩)
theorem modular_Inverse_ok {d c : Int} {out : Int × Int} (a : modular_Inverse d c = some out) (b : St w0 ros rs w) :
  Calls Tryz.prog 28 #[iV d, iV c] w (fun e w => e = .returned (.tuple #[iV out.1, iV out.2]) ∧ St w0 ros rs w) := by
 refine enterQ Tryz.func28 rfl Tryz.ntmps28 rfl fun Q f => sR fun _ j => Ya (iV 0) rfl (Ya (iV 0) rfl (wK j (seqQ fun z k i => blockQ fun _ g => sR fun _ l => Ym (iV c) e0 (bE a fun m n a => yC (yCall FN_24 (a1 e0)) (modular_IsPrime_ok n b) ?_))))
 rintro _ w ⟨rfl, b⟩
 refine ⟨_, rfl, ?_⟩
 refine yY (ynot e0) (Ya (.bool (!m)) e0 (wK l ?_))
 rcases iteS a with ⟨h, a⟩ | ⟨h, a⟩
 ·refine condF e0 (nF h) (sR fun _ o => Ym (iV d) e0 (Ym (iV c) e0 (bE a fun p q a => yC (yCall FN_62 (a2 e0 e0)) (modular_mod_ok q b) ?_)))
  rintro _ w ⟨rfl, b⟩
  refine ⟨_, rfl, ?_⟩
  refine yY (yeql e0 rfl) (Ya (.bool (decide (p = 0))) e0 (wK o ?_))
  refine cIf e0 a (fun r a => ?_) fun r a => ?_
  ·refine sR fun _ s => Ya (iV 0) rfl (Ya (iV 8) rfl (wK s (wp_ret (g _ _ _ (i _ _ _ rfl ?_)))))
   cases a
   exact f _ _ _ (fin2r Tryz.results28 ⟨rfl, rfl⟩ ⟨rfl, rfl⟩ ⟨rfl, b⟩)
  ·refine wp_skip (g _ _ _ (k _ _ (sR fun _ t => Ym (iV d) e0 (Ym (iV c) e0 (bE a fun A u a => yC (yCall FN_62 (a2 e0 e0)) (modular_mod_ok u b) ?_)))))
   rintro _ w ⟨rfl, b⟩
   refine ⟨_, rfl, ?_⟩
   refine Ym (iV c) e0 (bE a fun v x a => yC (yCall FN_64 (a2 e0 e0)) (modular_inverse_ok x b) ?_)
   rintro _ w ⟨rfl, b⟩
   refine ⟨_, rfl, ?_⟩
   refine Ya (iV v) e0 (Ya (iV 0) rfl (wK t (wp_ret ?_)))
   cases a
   exact f _ _ _ (fin2r Tryz.results28 ⟨rfl, rfl⟩ ⟨rfl, rfl⟩ ⟨rfl, b⟩)
 ·refine condT e0 (nT (bfalse h)) (sR fun _ y => Ya (iV 0) rfl (Ya (iV 70) rfl (wK y (wp_ret (g _ _ _ (i _ _ _ rfl ?_))))))
  cases a
  exact f _ _ _ (fin2r Tryz.results28 ⟨rfl, rfl⟩ ⟨rfl, rfl⟩ ⟨rfl, b⟩)
theorem modular_columns_ok {f : L2} {c : Hdr} {out : Int} (b : modular_columns f = some out) (d : imm S1 c.v f ∈ ros) (a : St w0 ros rs w) :
  Calls Tryz.prog 94 #[c.v] w (fun e w => e = .returned (iV out) ∧ St w0 ros rs w) := by
 refine enterQ Tryz.func94 rfl Tryz.ntmps94 rfl fun Q g => sR fun _ i => Ya (iV 0) rfl (wK i (seqQ fun q j k => sR fun _ l => Ym c.v e0 (yY (yLen SL_52 e0 a (rdI d)) (yY (yeql e0 rfl) (wK l ?_)))))
 refine cIf e0 b (fun m b => ?_) fun m b => ?_
 ·refine sR fun _ n => Ya (iV 0) rfl (wK n (wp_ret (k _ _ _ rfl ?_)))
  cases b
  exact g _ _ _ (fin1r Tryz.results94 ⟨rfl, rfl⟩ ⟨rfl, a⟩)
 ·refine wp_skip (j _ _ (sR fun _ o => Ym c.v e0 (bE b fun p h b => yY (yIa SL_52 e0 rfl a (rdI d) h) ?_)))
  obtain ⟨r, a⟩ := iLs a d h
  refine yY (yCt O_22 e0 a F1 rfl) (yY (yLen SL_22 e0 a (rdI F0)) (Ya (iV (p.length : Int)) e0 (wK o (wp_ret ?_))))
  cases b
  exact g _ _ _ (fin1r Tryz.results94 ⟨rfl, rfl⟩ ⟨rfl, (a.facts (allT (allT allI)))⟩)
theorem modular_check_1_ok {b : LI} {a : Int} {c : Hdr} {d : Nat} {out : Bool} (g : modular_check_1 b a = some out) (h : imm I1 c.v b ∈ ros) (f : St w0 ros (box d 3 [iV a] :: rs) w) :
  Calls Tryz.prog 123 #[c.v, (pB d)] w (fun e w => e = .returned (.bool out) ∧ St w0 ros (box d 3 [iV a] :: rs) w) := by
 refine enterQ Tryz.func123 rfl Tryz.ntmps123 rfl fun Q i => sR fun _ j => Ya (.bool false) rfl (wK j (sR fun _ k => Ym c.v e0 (yY (yLen SL_22 e0 f (rdI h)) (yY (lb_ (iV a) O_3 e0 f R0) (yY (yneq e0 e0) (Ya (.bool (!(decide ((b.length : Int) = a)))) e0 (wN ?_)))))))
 refine k _ _ (wp_ret ?_)
 cases g
 exact i _ _ _ (fin1r Tryz.results123 ⟨rfl, rfl⟩ ⟨rfl, f⟩)
theorem slices_IndexFunc_int_ok {k : L2} {h : Int} {i : Hdr} {g : Nat} {out : Int} (j : slices_IndexFunc_int k h = some out) (l : imm S1 i.v k ∈ ros) (b : St w0 ros (box g 3 [iV h] :: rs) w) :
  Calls Tryz.prog 119 #[i.v, .func (.func 123) #[] #[(pB g)]] w (fun e w => e = .returned (iV out) ∧ St w0 ros (box g 3 [iV h] :: rs) w) := by
 refine enterQ Tryz.func119 rfl Tryz.ntmps119 rfl fun Q o => sR fun _ C => Ya (iV 0) rfl (wK C (seqQ fun a2 D E => sR fun _ F => Ym i.v e0 (yY (yLen SL_52 e0 b (rdI l)) (Ym (iV 0) rfl (wK F ?_)))))
 refine blockQ fun p q => bE j fun r G j => ?_
 have H : ∀ (f : FV) w, St w0 ros (box g 3 [iV h] :: rs) w → .inl () = r → p (.exit 0) (fr 19 f) w := by
  intro f w b ho
  subst ho
  refine q _ _ _ (D _ _ (sR fun _ I => Ya (iV (-1)) rfl (wK I (wp_ret ?_))))
  cases j
  exact o _ _ _ (fin1r Tryz.results119 ⟨rfl, rfl⟩ ⟨rfl, b⟩)
 have J : ∀ (m : Int) (f : FV) w, f 4 = iV m → St w0 ros (box g 3 [iV h] :: rs) w → .inr m = r → p .ret (fr 19 f) w := by
  intro m f w K b ho
  subst ho
  refine q _ _ _ (E _ _ _ rfl ?_)
  cases j
  exact o _ _ _ (fin1r Tryz.results119 ⟨rfl, K⟩ ⟨rfl, b⟩)
 refine loopQ (fun s a w => ∃ (d : Int) (f : FV), d = s ∧ a = fr 19 f ∧ f 0 = i.v ∧ f 1 = .func (.func 123) #[] #[(pB g)] ∧ f 7 = iV (k.length : Int) ∧ f 8 = iV d ∧ St w0 ros (box g 3 [iV h] :: rs) w) G ⟨_, _, rfl, rfl, rfl, rfl, rfl, rfl, b⟩ ?_
 rintro _ _ w a3 ⟨d, f, rfl, rfl, t, u, x, n, b⟩ c y a4 L z
 refine sR fun _ N => yY (ylss (eh n) (eh x)) (wK N (seqQ fun a5 O R => ?_))
 refine cIf e0 c (fun S c => ?_) fun S c => ?_
 ·refine wp_skip (O _ _ (seqQ fun a6 T U => blockQ fun _ A => sR fun _ V => Ym (iV d) (eh n) (Ya (iV d) e0 (wK V (sR fun _ W => Ym (.func (.func 123) #[] #[(pB g)]) (eh u) (Ym i.v (eh t) ?_))))))
  refine Ym (iV d) e0 (bE c fun a7 B c => yY (yIa SL_52 e0 e0 b (rdI l) B) ?_)
  obtain ⟨a8, b⟩ := iLs b l B
  refine yY (yCt O_22 e0 b F1 rfl) (bE c fun a9 X c => yC (yCallw FN_123 e0 (a1 e0)) (modular_check_1_ok X F0 b) ?_)
  rintro _ w ⟨rfl, b⟩
  refine ⟨_, rfl, ?_⟩
  refine wK W (cB e0 c (fun Z c => ?_) fun Z c => ?_)
  ·refine sR fun _ a0 => Ym (iV d) e0 (Ya (iV d) e0 (wK a0 (wp_ret (A _ _ _ (U _ _ _ rfl ?_)))))
   cases c
   exact z _ _ _ _ rfl rfl (J _ _ _ rfl (b.facts (allT (allT allI))) (y _ rfl))
  ·refine wp_skip (A _ _ _ (T _ _ (wR (yY (yadd (eh n) rfl) (Ym (iV (wa .i64 d 1)) e0 (wN ?_))))))
   cases c
   exact L _ _ _ rfl ⟨_, _, rfl, rfl, t, u, x, rfl, (b.facts (allT (allT allI)))⟩
 ·refine wp_exit (R _ _ _ rfl ?_)
  cases c
  exact z _ _ _ _ rfl rfl (H _ _ b (y _ rfl))
theorem slices_ContainsFunc_int_ok {g : L2} {b : Int} {c : Hdr} {a : Nat} {out : Bool} (d : slices_ContainsFunc_int g b = some out) (h : imm S1 c.v g ∈ ros) (f : St w0 ros (box a 3 [iV b] :: rs) w) :
  Calls Tryz.prog 122 #[c.v, .func (.func 123) #[] #[(pB a)]] w (fun e w => e = .returned (.bool out) ∧ St w0 ros (box a 3 [iV b] :: rs) w) := by
 refine enterQ Tryz.func122 rfl Tryz.ntmps122 rfl fun Q i => sR fun _ j => Ya (.bool false) rfl (wK j (sR fun _ k => Ym c.v e0 (Ym (.func (.func 123) #[] #[(pB a)]) e0 (bE d fun l m d => yC (yCall FN_119 (a2 e0 e0)) (slices_IndexFunc_int_ok m h f) ?_))))
 rintro _ w ⟨rfl, f⟩
 refine ⟨_, rfl, ?_⟩
 refine yY (ygeq e0 rfl) (Ya (.bool (decide ((0 : Int) ≤ l))) e0 (wK k (wp_ret ?_)))
 cases d
 exact i _ _ _ (fin1r Tryz.results122 ⟨rfl, rfl⟩ ⟨rfl, f⟩)
theorem modular_check_ok {d : L2} {k : Int} {g : Hdr} {out : Int} (a : modular_check d k = some out) (l : imm S1 g.v d ∈ ros) (b : St w0 ros rs w) :
  Calls Tryz.prog 83 #[g.v, iV k] w (fun e w => e = .returned (iV out) ∧ St w0 ros rs w) := by
 refine enterQ Tryz.func83 rfl Tryz.ntmps83 rfl fun Q i => sR fun _ p => Ya (iV 0) rfl (wK p (sR fun _ q => Ym g.v e0 (bE a fun h r a => yC (yCall FN_94 (a1 e0)) (modular_columns_ok r l b) ?_)))
 rintro _ w ⟨rfl, b⟩
 refine ⟨_, rfl, ?_⟩
 refine yBb (rAl b ZT_3) fun s w b => yT (r_stb1 (vals' := [iV h]) b O_3 e0 e0 rfl rfl rfl rfl) fun w b => wK q (seqQ fun K t m => blockQ fun _ j => sR fun _ u => Ym (iV k) e0 (bE a fun x y a => yC (yCall FN_24 (a1 e0)) (modular_IsPrime_ok y b) ?_))
 rintro _ w ⟨rfl, b⟩
 refine ⟨_, rfl, ?_⟩
 refine yY (ynot e0) (Ya (.bool (!x)) e0 (wK u ?_))
 rcases iteS a with ⟨n, a⟩ | ⟨n, a⟩
 ·refine condF e0 (nF n) (sR fun _ z => Ym g.v e0 (yY (ymf (vf := #[]) (vc := #[(pB s)]) a0 (a1 e0)) (bE a fun A B a => yC (yCall FN_122 (a2 e0 e0)) (slices_ContainsFunc_int_ok B l b) ?_)))
  rintro _ w ⟨rfl, b⟩
  refine ⟨_, rfl, ?_⟩
  refine Ya (.bool A) e0 (wK z (cB e0 a (fun C a => ?_) fun C a => ?_))
  ·refine sR fun _ D => Ya (iV 5) rfl (wK D (wp_ret (j _ _ _ (m _ _ _ rfl ?_))))
   cases a
   exact i _ _ _ (fin1r Tryz.results83 ⟨rfl, rfl⟩ ⟨rfl, (b.k10)⟩)
  ·refine sR fun _ E => Ym g.v e0 (yY (yLen SL_52 e0 b (rdI l)) (yY (ygtr e0 rfl) (Ym (.bool (decide ((200 : Int) < (d.length : Int)))) e0 ?_)))
   refine joinW 3 (fun f w => f 23 = .bool ((decide ((200 : Int) < (d.length : Int))) || (decide ((200 : Int) < h))) ∧ St w0 ros rs w) (fun o => ?_) ?_
   ·rcases Bool.eq_false_or_eq_true (decide ((200 : Int) < (d.length : Int))) with c | c
    ·exact gN c (gN c (yY (pt_ (.bool true) e0 c rfl) (o _ _ ⟨(congrArg Value.bool (orT c)), (b.k10)⟩)))
    ·exact yG c (lb_ (iV h) O_3 e0 b R0) (yG c (ygtr e0 rfl) (yY (pf_ (.bool (decide ((200 : Int) < h))) e0 c e0) (o _ _ ⟨(congrArg Value.bool (orF c)), (b.k10)⟩)))
   rintro f w ⟨F, b⟩
   refine Ya (.bool ((decide ((200 : Int) < (d.length : Int))) || (decide ((200 : Int) < h)))) (eh F) (wK E (cB e0 a (fun G a => ?_) fun G a => ?_))
   ·refine sR fun _ H => Ya (iV 6) rfl (wK H (wp_ret (j _ _ _ (m _ _ _ rfl ?_))))
    cases a
    exact i _ _ _ (fin1r Tryz.results83 ⟨rfl, rfl⟩ ⟨rfl, b⟩)
   ·refine wp_skip (j _ _ _ (t _ _ (sR fun _ I => Ya (iV 0) rfl (wK I (wp_ret ?_)))))
    cases a
    exact i _ _ _ (fin1r Tryz.results83 ⟨rfl, rfl⟩ ⟨rfl, b⟩)
 ·refine condT e0 (nT (bfalse n)) (sR fun _ J => Ya (iV 70) rfl (wK J (wp_ret (j _ _ _ (m _ _ _ rfl ?_)))))
  cases a
  exact i _ _ _ (fin1r Tryz.results83 ⟨rfl, rfl⟩ ⟨rfl, (b.k10)⟩)
theorem modular_reduced_ok {o : L2} {j : Int} {k : Hdr} {out : L2} (y : modular_reduced o j = some out) (z : imm S1 k.v o ∈ ros) (b : St w0 ros rs w) :
  Calls Tryz.prog 82 #[k.v, iV j] w (fun e w => ∃ (H : Hdr) (I : List Hdr), e = .returned (H.v) ∧ St w0 ros (row 22 rH H.v I :: fam 3 I1 I out :: rs) w) := by
 refine enterQ Tryz.func82 rfl Tryz.ntmps82 rfl fun Q a3 => sR fun _ a4 => Ya hnil.v rfl (wK a4 (sR fun _ a5 => Ya hnil.v rfl (wK a5 (sQ fun _ a6 => sR fun _ a7 => ?_))))
 refine Ym k.v e0 (yY (yLen SL_52 e0 b (rdI z)) (Ym (iV 0) rfl (wK a7 (blockQ fun a8 a9 => bE y fun b0 b1 y => ?_))))
 have b2 : ∀ (A : L2) (p : Hdr) (B : List Hdr) (f : FV) w, f 5 = p.v → St w0 ros (row 22 rH p.v B :: fam 3 I1 B A :: rs) w → A = b0 → a8 (.exit 0) (fr 36 f) w := by
  intro A p B f w b3 b ho
  subst ho
  refine a9 _ _ _ (a6 _ _ (sR fun _ b4 => Ym p.v (eh b3) (Ya p.v e0 (wK b4 (wp_ret ?_)))))
  cases y
  exact a3 _ _ _ (fin1r Tryz.results82 ⟨rfl, rfl⟩ ⟨_, _, rfl, b⟩)
 replace b := ((b.rowNh 22 rH).fNew 3 I1).k11
 refine loopQ (fun s a w => ∃ (q : L2) (m : Int) (f : FV) (g : Hdr) (h : List Hdr), (q, m) = s ∧ a = fr 36 f ∧ f 1 = iV j ∧ f 5 = g.v ∧ f 11 = k.v ∧ f 12 = iV (o.length : Int) ∧ f 13 = iV m ∧ St w0 ros (row 22 rH g.v h :: fam 3 I1 h q :: rs) w) b1 ⟨_, _, _, _, _, rfl, rfl, rfl, rfl, rfl, rfl, rfl, b⟩ ?_
 rintro _ _ w f6 ⟨q, m, f, g, h, rfl, rfl, b5, J, K, L, C, b⟩ c b6 f7 b7 b8
 refine sR fun _ b9 => yY (ylss (eh C) (eh L)) (wK b9 (seqQ fun f8 c0 c1 => ?_))
 refine cIf e0 c (fun c2 c => ?_) fun c2 c => ?_
 ·refine wp_skip (c0 _ _ (sQ fun _ c3 => blockQ fun _ c4 => sR fun _ c5 => bE c fun N O c => yY (yIa SL_52 (eh K) (eh C) b (rdI z) O) ?_))
  obtain ⟨r, b⟩ := iLs b z O
  refine yY (yCt O_22 e0 b F1 rfl) (Ya r.v e0 (wK c5 (sR fun _ c6 => Ya hnil.v rfl (wK c6 (sQ fun _ c7 => sR fun _ c8 => Ym r.v e0 (yY (yLen SL_22 e0 b (rdI F0)) ?_))))))
  refine Ym (iV 0) rfl (wK c8 (blockQ fun c9 d0 => bE c fun d1 d2 c => ?_))
  have d3 : ∀ (t : LI) (i : Hdr) (f : FV) w, f 1 = iV j → f 5 = g.v → f 8 = i.v → f 11 = k.v → f 12 = iV (o.length : Int) → f 13 = iV m → St w0 ros (row 22 rH g.v h :: fam 3 I1 h q :: row 3 I1 i.v t :: rs) w → t = d1 → c9 (.exit 2) (fr 36 f) w := by
   intro t i f w d4 d5 d6 d7 d8 d9 b ho
   subst ho
   refine d0 _ _ _ (c7 _ _ (wR (Ym g.v (eh d5) (Ym i.v (eh d6) (yH (rLt (n := 1) (l := [i]) b SLH_52 [i.v] (bp1 e0) rfl rfl (mks1 rfl (mkF rfl) mks0)) fun f9 w b => bE c fun g0 R c => ?_)))))
   replace b := b.k11
   obtain ⟨g1, ey110, e1⟩ := app_rep R (b.famL R2) (show [i].length = [t].length from rfl)
   refine yH (rAp b SLH_52 e0 e0 rO1 e1) fun e2 w b => ?_
   replace b := (b.k12).fPush
   rw [← ey110, ← (app_some R).1] at b
   refine Ya e2.v e0 (wN (c4 _ _ _ (c3 _ _ (wR (yY (yadd (eh d9) rfl) (Ym (iV (wa .i64 m 1)) e0 (wN ?_)))))))
   cases c
   exact b7 _ _ _ rfl ⟨_, _, _, _, _, rfl, rfl, d4, rfl, d7, d8, rfl, (b.k13)⟩
  replace b := b.rowNh 3 I1
  refine loopQ (fun s a w => ∃ (D : LI) (u : Int) (f : FV) (x : Hdr), (D, u) = s ∧ a = fr 36 f ∧ f 1 = iV j ∧ f 5 = g.v ∧ f 8 = x.v ∧ f 11 = k.v ∧ f 12 = iV (o.length : Int) ∧ f 13 = iV m ∧ f 17 = r.v ∧ f 18 = iV (N.length : Int) ∧ f 19 = iV u ∧ St w0 (imm I1 r.v N :: ros) (row 22 rH g.v h :: fam 3 I1 h q :: row 3 I1 x.v D :: rs) w) d2 ⟨_, _, _, _, rfl, rfl, b5, J, rfl, K, L, C, rfl, rfl, rfl, ((b.k14).facts (allC F0 (allT (allT allI))))⟩ ?_
  rintro _ _ w g2 ⟨D, u, f, x, rfl, rfl, E, S, T, U, V, W, X, Z, F, b⟩ d e3 g3 e4 e5
  refine sR fun _ e6 => yY (ylss (eh F) (eh Z)) (wK e6 (seqQ fun g4 e7 e8 => ?_))
  refine cIf e0 d (fun e9 d => ?_) fun e9 d => ?_
  ·refine wp_skip (e7 _ _ (sQ fun _ f0 => blockQ fun _ f1 => sR fun _ f2 => bE d fun a0 a1 d => yY (yIa SL_22 (eh X) (eh F) b (rdI F0) a1) (yY (yI O_3 e0 b (rdI F0) a1) (Ya (iV a0) e0 (wK f2 (wR (Ym x.v (eh T) ?_)))))))
   refine Ym (iV a0) e0 (Ym (iV j) (eh E) (bE d fun G f3 d => yC (yCall FN_62 (a2 e0 e0)) (modular_mod_ok f3 b) ?_))
   rintro _ w ⟨rfl, b⟩
   refine ⟨_, rfl, ?_⟩
   refine yH (rLt (n := 1) (l := [G]) b SL_22 [iV G] (bp1 e0) rfl rfl (mks1 (cs := [iV G]) rfl mkI mks0)) fun g5 w b => bE d fun g6 f4 d => yH (rAp (b.k15) SL_22 e0 e0 rO1 f4) fun f5 w b => Ya f5.v e0 (wN (f1 _ _ _ (f0 _ _ (wR (yY (yadd (eh F) rfl) (Ym (iV (wa .i64 u 1)) e0 (wN ?_)))))))
   cases d
   exact e4 _ _ _ rfl ⟨_, _, _, _, rfl, rfl, E, S, rfl, U, V, W, X, Z, rfl, (b.k16)⟩
  ·refine wp_exit (e8 _ _ _ rfl ?_)
   cases d
   exact e5 _ _ _ _ rfl rfl (d3 _ _ _ _ E S T U V W (b.facts (allT allI)) (e3 _ rfl))
 ·refine wp_exit (c1 _ _ _ rfl ?_)
  cases c
  exact b8 _ _ _ _ rfl rfl (b2 _ _ _ _ _ J b (b6 _ rfl))
theorem modular_echelon_1_ok {g : LI} {a : Int} {c : Hdr} {d : Nat} {out : Bool} (f : modular_echelon_1 g a = some out) (h : imm I1 c.v g ∈ ros) (b : St w0 ros (box d 3 [iV a] :: rs) w) :
  Calls Tryz.prog 120 #[c.v, (pB d)] w (fun e w => e = .returned (.bool out) ∧ St w0 ros (box d 3 [iV a] :: rs) w) := by
 refine enterQ Tryz.func120 rfl Tryz.ntmps120 rfl fun Q j => sR fun _ k => Ya (.bool false) rfl (wK k (sR fun _ l => Ym c.v e0 (yY (lb_ (iV a) O_3 e0 b R0) (bE f fun m i f => yY (yIa SL_22 e0 e0 b (rdI h) i) (yY (yI O_3 e0 b (rdI h) i) (yY (yneq e0 rfl) ?_))))))
 refine Ya (.bool (!(decide (m = 0)))) e0 (wK l (wp_ret ?_))
 cases f
 exact j _ _ _ (fin1r Tryz.results120 ⟨rfl, rfl⟩ ⟨rfl, b⟩)
theorem slices_IndexFunc_int_v2_ok {k : L2} {h : Int} {i : Hdr} {g : Nat} {out : Int} (j : slices_IndexFunc_int_v2 k h = some out) (l : imm S1 i.v k ∈ ros) (b : St w0 ros (box g 3 [iV h] :: rs) w) :
  Calls Tryz.prog 119 #[i.v, .func (.func 120) #[] #[(pB g)]] w (fun e w => e = .returned (iV out) ∧ St w0 ros (box g 3 [iV h] :: rs) w) := by
 refine enterQ Tryz.func119 rfl Tryz.ntmps119 rfl fun Q o => sR fun _ C => Ya (iV 0) rfl (wK C (seqQ fun a2 D E => sR fun _ F => Ym i.v e0 (yY (yLen SL_52 e0 b (rdI l)) (Ym (iV 0) rfl (wK F ?_)))))
 refine blockQ fun p q => bE j fun r G j => ?_
 have H : ∀ (f : FV) w, St w0 ros (box g 3 [iV h] :: rs) w → .inl () = r → p (.exit 0) (fr 19 f) w := by
  intro f w b ho
  subst ho
  refine q _ _ _ (D _ _ (sR fun _ I => Ya (iV (-1)) rfl (wK I (wp_ret ?_))))
  cases j
  exact o _ _ _ (fin1r Tryz.results119 ⟨rfl, rfl⟩ ⟨rfl, b⟩)
 have J : ∀ (m : Int) (f : FV) w, f 4 = iV m → St w0 ros (box g 3 [iV h] :: rs) w → .inr m = r → p .ret (fr 19 f) w := by
  intro m f w K b ho
  subst ho
  refine q _ _ _ (E _ _ _ rfl ?_)
  cases j
  exact o _ _ _ (fin1r Tryz.results119 ⟨rfl, K⟩ ⟨rfl, b⟩)
 refine loopQ (fun s a w => ∃ (d : Int) (f : FV), d = s ∧ a = fr 19 f ∧ f 0 = i.v ∧ f 1 = .func (.func 120) #[] #[(pB g)] ∧ f 7 = iV (k.length : Int) ∧ f 8 = iV d ∧ St w0 ros (box g 3 [iV h] :: rs) w) G ⟨_, _, rfl, rfl, rfl, rfl, rfl, rfl, b⟩ ?_
 rintro _ _ w a3 ⟨d, f, rfl, rfl, t, u, x, n, b⟩ c y a4 L z
 refine sR fun _ N => yY (ylss (eh n) (eh x)) (wK N (seqQ fun a5 O R => ?_))
 refine cIf e0 c (fun S c => ?_) fun S c => ?_
 ·refine wp_skip (O _ _ (seqQ fun a6 T U => blockQ fun _ A => sR fun _ V => Ym (iV d) (eh n) (Ya (iV d) e0 (wK V (sR fun _ W => Ym (.func (.func 120) #[] #[(pB g)]) (eh u) (Ym i.v (eh t) ?_))))))
  refine Ym (iV d) e0 (bE c fun a7 B c => yY (yIa SL_52 e0 e0 b (rdI l) B) ?_)
  obtain ⟨a8, b⟩ := iLs b l B
  refine yY (yCt O_22 e0 b F1 rfl) (bE c fun a9 X c => yC (yCallw FN_120 e0 (a1 e0)) (modular_echelon_1_ok X F0 b) ?_)
  rintro _ w ⟨rfl, b⟩
  refine ⟨_, rfl, ?_⟩
  refine wK W (cB e0 c (fun Z c => ?_) fun Z c => ?_)
  ·refine sR fun _ a0 => Ym (iV d) e0 (Ya (iV d) e0 (wK a0 (wp_ret (A _ _ _ (U _ _ _ rfl ?_)))))
   cases c
   exact z _ _ _ _ rfl rfl (J _ _ _ rfl (b.facts (allT (allT allI))) (y _ rfl))
  ·refine wp_skip (A _ _ _ (T _ _ (wR (yY (yadd (eh n) rfl) (Ym (iV (wa .i64 d 1)) e0 (wN ?_))))))
   cases c
   exact L _ _ _ rfl ⟨_, _, rfl, rfl, t, u, x, rfl, (b.facts (allT (allT allI)))⟩
 ·refine wp_exit (R _ _ _ rfl ?_)
  cases c
  exact z _ _ _ _ rfl rfl (H _ _ b (y _ rfl))
end Go.Proofs.YtnfamnfdndaekaaGreatDoor
