/- Walks: each function computes its model, printed. -/
import Derived.Test.YtpfmbaidflhamaaGreatDoorW0
namespace Go.Proofs.YtpfmbaidflhamaaGreatDoor
open Go Sx M
set_option maxRecDepth 100000
set_option maxHeartbeats 40000000
set_option linter.unusedVariables false
attribute [local irreducible] wpList Code.wp Calls DR QR QS LA LS St
variable {w0 : World} {ros : List Fact} {rs : List Res} {w : World}
theorem exact_square_ok {i : List (List (Bool × LI))} {h : Hdr} {out : Int} (c : exact_square i = some out) (j : imm (rS (rP rB (rS (rI .u32)))) h.v i ∈ ros) (b : St w0 ros rs w) :
  Calls Tryz.prog 52 #[h.v] w (fun e w => e = .returned (iV out) ∧ St w0 ros rs w) := by
 refine enterQ Tryz.func52 rfl Tryz.ntmps52 rfl fun Q k => sR fun _ m => Ya (iV 0) rfl (wK m (sR fun _ n => Ym h.v e0 (bE c fun g o c => yC (yCall FN_64 (a1 e0)) (exact_check_ok o j b) ?_)))
 rintro _ w ⟨rfl, b⟩
 refine ⟨_, rfl, ?_⟩
 refine Ya (iV g) e0 (wK n (seqQ fun C p q => sR fun _ r => Ym (iV g) e0 (yY (yeql e0 rfl) (Ym (.bool (decide (g = 0))) e0 (bE c fun s d c => ?_)))))
 refine joinW 6 (fun f w => f 3 = iV g ∧ f 14 = .bool s ∧ St w0 ros rs w) (fun l => ?_) ?_
 ·rcases iteS d with ⟨a, d⟩ | ⟨a, d⟩
  ·refine yG (dT a) (m_ h.v e0) (yG (dT a) (yLen SL_22 e0 b (rdI j)) (yG (dT a) (m_ h.v e0) (bE d fun t u d => Yc (wG (dT a)) rfl (yCall FN_65 (a1 e0)) (exact_columns_ok u j b) ?_)))
   rintro _ w ⟨rfl, b⟩
   refine ⟨_, rfl, ?_⟩
   refine yG (dT a) (yneq e0 e0) (yY (pt_ (.bool (!(decide ((i.length : Int) = t)))) e0 (dT a) e0) ?_)
   cases d
   exact l _ _ ⟨rfl, rfl, b⟩
  ·refine gN (dF a) (gN (dF a) (gN (dF a) (gN (dF a) (gN (dF a) (yY (pf_ (.bool false) e0 (dF a) rfl) ?_)))))
   cases d
   exact l _ _ ⟨rfl, rfl, b⟩
 rintro f w ⟨x, y, b⟩
 refine wK r (cB (eh y) c (fun z c => ?_) fun z c => ?_)
 ·refine sR fun _ A => Ya (iV 5) rfl (wK A (wp_ret (q _ _ _ rfl ?_)))
  cases c
  exact k _ _ _ (fin1r Tryz.results52 ⟨rfl, rfl⟩ ⟨rfl, b⟩)
 ·refine wp_skip (p _ _ (sR fun _ B => Ym (iV g) (eh x) (Ya (iV g) e0 (wK B (wp_ret ?_)))))
  cases c
  exact k _ _ _ (fin1r Tryz.results52 ⟨rfl, rfl⟩ ⟨rfl, b⟩)
theorem integer_trim_ok {n : LI} {d : Hdr} {out : LI} (j : integer_trim n = some out) (k : imm (rI .u32) d.v n ∈ ros) (b : St w0 ros rs w) :
  Calls Tryz.prog 73 #[d.v] w (fun e w => ∃ (p : Hdr), e = .returned (p.v) ∧ St w0 (imm (rI .u32) p.v out :: ros) rs w) := by
 refine enterQ Tryz.func73 rfl Tryz.ntmps73 rfl fun Q y => sR fun _ k1 => Ya hnil.v rfl (wK k1 (sR fun _ z => Ym d.v e0 (yY (yLen SL_29 e0 b (rdI k)) (Ya (iV (n.length : Int)) e0 (wK z (sQ fun _ A => ?_))))))
 refine blockQ fun B C => bE j fun D E j => ?_
 have F : ∀ (l : Int) (f : FV) w, f 0 = d.v → f 3 = iV l → St w0 ros rs w → l = D → B (.exit 0) (fr 21 f) w := by
  intro l f w G H b ho
  subst ho
  refine C _ _ _ (A _ _ (sR fun _ I => Ym d.v (eh G) (Ym (iV l) (eh H) (bE j fun X q j => yY (ySl (k1 := .i64) SL_29 e0 b (rdI k) (.inr ⟨rfl, rfl⟩) (.inl (congrArg some e0)) q) ?_))))
  replace b := b.sub k q
  refine Ya ((subH d 1 0 l).v) e0 (wK I (wp_ret ?_))
  cases j
  exact y _ _ _ (fin1r Tryz.results73 ⟨rfl, rfl⟩ ⟨_, rfl, b⟩)
 refine loopQ (fun s a w => ∃ (g : Int) (f : FV), g = s ∧ a = fr 21 f ∧ f 0 = d.v ∧ f 3 = iV g ∧ St w0 ros rs w) E ⟨_, _, rfl, rfl, rfl, rfl, b⟩ ?_
 rintro _ _ w Z ⟨g, f, rfl, rfl, o, m, b⟩ h J a0 K L
 refine seqQ fun a1 N O => sR fun _ R => Ym (iV g) (eh m) (yY (ygtr e0 rfl) (Ym (.bool (decide ((0 : Int) < g))) e0 (bE h fun S i h => ?_)))
 refine joinW 7 (fun f w => f 0 = d.v ∧ f 3 = iV g ∧ f 15 = .bool S ∧ St w0 ros rs w) (fun r => ?_) ?_
 ·rcases iteS i with ⟨c, i⟩ | ⟨c, i⟩
  ·refine yG (dT c) (m_ d.v (eh o)) (yG (dT c) (m_ (iV g) (eh m)) (yG (dT c) (ysub e0 rfl) (bE i fun T t i => yG (dT c) (yIa SL_29 e0 e0 b (rdI k) t) (yG (dT c) (yI O_103 e0 b (rdI k) t) (yG (dT c) (yeql e0 rfl) (yY (pt_ (.bool (decide (T = 0))) e0 (dT c) e0) ?_))))))
   cases i
   exact r _ _ ⟨o, m, rfl, b⟩
  ·refine gN (dF c) (gN (dF c) (gN (dF c) (gN (dF c) (gN (dF c) (gN (dF c) (yY (pf_ (.bool false) e0 (dF c) rfl) ?_))))))
   cases i
   exact r _ _ ⟨o, m, rfl, b⟩
 rintro f w ⟨u, x, U, b⟩
 refine wK R (cB (eh U) h (fun V h => ?_) fun V h => ?_)
 ·refine wp_skip (N _ _ (blockQ fun _ W => wR (Ym (iV g) (eh x) (yY (ysub e0 rfl) (Ya (iV (ws .i64 g 1)) e0 (wN (W _ _ _ ?_)))))))
  cases h
  exact K _ _ _ rfl ⟨_, _, rfl, rfl, u, rfl, b⟩
 ·refine wp_exit (O _ _ _ rfl ?_)
  cases h
  exact L _ _ _ _ rfl rfl (F _ _ _ u x b (J _ rfl))
theorem integer_Sign_ok {c : Bool} {h : LI} {d : Hdr} {out : Int} (a : integer_Sign c h = some out) (j : imm (rI .u32) d.v h ∈ ros) (b : St w0 ros rs w) :
  Calls Tryz.prog 29 #[.agg #[.bool c, d.v]] w (fun e w => e = .returned (iV out) ∧ St w0 ros rs w) := by
 refine enterQ Tryz.func29 rfl Tryz.ntmps29 rfl fun Q f => sR fun _ k => yBb (r_box (vals := [.bool c, d.v]) b e0 rfl) fun x w b => Ya (iV 0) rfl (wK k (seqQ fun y l i => blockQ fun _ g => sR fun _ m => yY (yFb FL_31_1 e0) (yY (lb_ d.v O_29 e0 b R0) ?_)))
 refine bE a fun n o a => yC (yCall FN_73 (a1 e0)) (integer_trim_ok o j b) ?_
 rintro _ w ⟨z, rfl, b⟩
 refine ⟨_, rfl, ?_⟩
 refine yY (yLen SL_29 e0 b (rdI F0)) (yY (yeql e0 rfl) (Ya (.bool (decide ((n.length : Int) = 0))) e0 (wK m ?_)))
 refine cIf e0 a (fun p a => ?_) fun p a => ?_
 ·refine sR fun _ q => Ya (iV 0) rfl (wK q (wp_ret (g _ _ _ (i _ _ _ rfl ?_))))
  cases a
  exact f _ _ _ (fin1r Tryz.results29 ⟨rfl, rfl⟩ ⟨rfl, ((b.k10).facts (allT allI))⟩)
 ·refine sR fun _ r => yY (yFb FL_31_0 e0) (yY (lb_ (.bool c) O_4 e0 b R0) (Ya (.bool c) e0 (wK r (cB e0 a (fun s a => ?_) fun s a => ?_))))
  ·refine sR fun _ t => Ya (iV (-1)) rfl (wK t (wp_ret (g _ _ _ (i _ _ _ rfl ?_))))
   cases a
   exact f _ _ _ (fin1r Tryz.results29 ⟨rfl, rfl⟩ ⟨rfl, ((b.k10).facts (allT allI))⟩)
  ·refine wp_skip (g _ _ _ (l _ _ (sR fun _ u => Ya (iV 1) rfl (wK u (wp_ret ?_)))))
   cases a
   exact f _ _ _ (fin1r Tryz.results29 ⟨rfl, rfl⟩ ⟨rfl, ((b.k10).facts (allT allI))⟩)
theorem cmp_isNaN_uint32_ok {a : Int} {out : Bool} (b : cmp_isNaN_uint32 a = some out) (c : St w0 ros rs w) :
  Calls Tryz.prog 157 #[.int .u32 a] w (fun e w => e = .returned (.bool out) ∧ St w0 ros rs w) := by
 refine enterQ Tryz.func157 rfl Tryz.ntmps157 rfl fun Q d => sR fun _ f => Ya (.bool false) rfl (wK f (sR fun _ g => Ym (.int .u32 a) e0 (Ym (.int .u32 a) e0 (yY (yneq e0 e0) (Ya (.bool (!(decide (a = a)))) e0 (wK g ?_))))))
 refine wp_ret ?_
 cases b
 exact d _ _ _ (fin1r Tryz.results157 ⟨rfl, rfl⟩ ⟨rfl, c⟩)
theorem cmp_Compare_uint32_ok {d f out : Int} (a : cmp_Compare_uint32 d f = some out) (b : St w0 ros rs w) :
  Calls Tryz.prog 138 #[.int .u32 d, .int .u32 f] w (fun e w => e = .returned (iV out) ∧ St w0 ros rs w) := by
 refine enterQ Tryz.func138 rfl Tryz.ntmps138 rfl fun Q c => sR fun _ j => Ya (iV 0) rfl (wK j (sR fun _ k => Ym (.int .u32 d) e0 (bE a fun h l a => yC (yCall FN_157 (a1 e0)) (cmp_isNaN_uint32_ok l b) ?_)))
 rintro _ w ⟨rfl, b⟩
 refine ⟨_, rfl, ?_⟩
 refine Ya (.bool h) e0 (wK k (sR fun _ m => Ym (.int .u32 f) e0 (bE a fun g n a => yC (yCall FN_157 (a1 e0)) (cmp_isNaN_uint32_ok n b) ?_)))
 rintro _ w ⟨rfl, b⟩
 refine ⟨_, rfl, ?_⟩
 refine Ya (.bool g) e0 (wK m (seqQ fun R o i => sR fun _ p => Ym (.bool h) e0 (wK p (cB e0 a (fun q a => ?_) fun q a => ?_))))
 ·refine seqQ fun S r s => sR fun _ t => Ym (.bool g) e0 (wK t (cB e0 a (fun u a => ?_) fun u a => ?_))
  ·refine sR fun _ v => Ya (iV 0) rfl (wK v (wp_ret (s _ _ _ rfl (i _ _ _ rfl ?_))))
   cases a
   exact c _ _ _ (fin1r Tryz.results138 ⟨rfl, rfl⟩ ⟨rfl, b⟩)
  ·refine wp_skip (r _ _ (sR fun _ x => Ya (iV (-1)) rfl (wK x (wp_ret (i _ _ _ rfl ?_)))))
   cases a
   exact c _ _ _ (fin1r Tryz.results138 ⟨rfl, rfl⟩ ⟨rfl, b⟩)
 ·refine wp_skip (o _ _ (seqQ fun T y z => sR fun _ A => Ym (.bool g) e0 (wK A (cB e0 a (fun B a => ?_) fun B a => ?_))))
  ·refine sR fun _ C => Ya (iV 1) rfl (wK C (wp_ret (z _ _ _ rfl ?_)))
   cases a
   exact c _ _ _ (fin1r Tryz.results138 ⟨rfl, rfl⟩ ⟨rfl, b⟩)
  ·refine wp_skip (y _ _ (seqQ fun U D E => sR fun _ F => Ym (.int .u32 d) e0 (Ym (.int .u32 f) e0 (yY (ylss e0 e0) (wK F ?_)))))
   refine cIf e0 a (fun G a => ?_) fun G a => ?_
   ·refine sR fun _ H => Ya (iV (-1)) rfl (wK H (wp_ret (E _ _ _ rfl ?_)))
    cases a
    exact c _ _ _ (fin1r Tryz.results138 ⟨rfl, rfl⟩ ⟨rfl, b⟩)
   ·refine wp_skip (D _ _ (seqQ fun V I J => sR fun _ K => Ym (.int .u32 d) e0 (Ym (.int .u32 f) e0 (yY (ygtr e0 e0) (wK K ?_)))))
    refine cIf e0 a (fun L a => ?_) fun L a => ?_
    ·refine sR fun _ N => Ya (iV 1) rfl (wK N (wp_ret (J _ _ _ rfl ?_)))
     cases a
     exact c _ _ _ (fin1r Tryz.results138 ⟨rfl, rfl⟩ ⟨rfl, b⟩)
    ·refine wp_skip (I _ _ (sR fun _ O => Ya (iV 0) rfl (wK O (wp_ret ?_))))
     cases a
     exact c _ _ _ (fin1r Tryz.results138 ⟨rfl, rfl⟩ ⟨rfl, b⟩)
theorem cmp_isNaN_int_ok {a : Int} {out : Bool} (b : cmp_isNaN_int a = some out) (c : St w0 ros rs w) :
  Calls Tryz.prog 156 #[iV a] w (fun e w => e = .returned (.bool out) ∧ St w0 ros rs w) := by
 refine enterQ Tryz.func156 rfl Tryz.ntmps156 rfl fun Q d => sR fun _ f => Ya (.bool false) rfl (wK f (sR fun _ g => Ym (iV a) e0 (Ym (iV a) e0 (yY (yneq e0 e0) (Ya (.bool (!(decide (a = a)))) e0 (wK g ?_))))))
 refine wp_ret ?_
 cases b
 exact d _ _ _ (fin1r Tryz.results156 ⟨rfl, rfl⟩ ⟨rfl, c⟩)
theorem cmp_Compare_int_ok {d f out : Int} (a : cmp_Compare_int d f = some out) (b : St w0 ros rs w) :
  Calls Tryz.prog 137 #[iV d, iV f] w (fun e w => e = .returned (iV out) ∧ St w0 ros rs w) := by
 refine enterQ Tryz.func137 rfl Tryz.ntmps137 rfl fun Q c => sR fun _ j => Ya (iV 0) rfl (wK j (sR fun _ k => Ym (iV d) e0 (bE a fun h l a => yC (yCall FN_156 (a1 e0)) (cmp_isNaN_int_ok l b) ?_)))
 rintro _ w ⟨rfl, b⟩
 refine ⟨_, rfl, ?_⟩
 refine Ya (.bool h) e0 (wK k (sR fun _ m => Ym (iV f) e0 (bE a fun g n a => yC (yCall FN_156 (a1 e0)) (cmp_isNaN_int_ok n b) ?_)))
 rintro _ w ⟨rfl, b⟩
 refine ⟨_, rfl, ?_⟩
 refine Ya (.bool g) e0 (wK m (seqQ fun R o i => sR fun _ p => Ym (.bool h) e0 (wK p (cB e0 a (fun q a => ?_) fun q a => ?_))))
 ·refine seqQ fun S r s => sR fun _ t => Ym (.bool g) e0 (wK t (cB e0 a (fun u a => ?_) fun u a => ?_))
  ·refine sR fun _ v => Ya (iV 0) rfl (wK v (wp_ret (s _ _ _ rfl (i _ _ _ rfl ?_))))
   cases a
   exact c _ _ _ (fin1r Tryz.results137 ⟨rfl, rfl⟩ ⟨rfl, b⟩)
  ·refine wp_skip (r _ _ (sR fun _ x => Ya (iV (-1)) rfl (wK x (wp_ret (i _ _ _ rfl ?_)))))
   cases a
   exact c _ _ _ (fin1r Tryz.results137 ⟨rfl, rfl⟩ ⟨rfl, b⟩)
 ·refine wp_skip (o _ _ (seqQ fun T y z => sR fun _ A => Ym (.bool g) e0 (wK A (cB e0 a (fun B a => ?_) fun B a => ?_))))
  ·refine sR fun _ C => Ya (iV 1) rfl (wK C (wp_ret (z _ _ _ rfl ?_)))
   cases a
   exact c _ _ _ (fin1r Tryz.results137 ⟨rfl, rfl⟩ ⟨rfl, b⟩)
  ·refine wp_skip (y _ _ (seqQ fun U D E => sR fun _ F => Ym (iV d) e0 (Ym (iV f) e0 (yY (ylss e0 e0) (wK F ?_)))))
   refine cIf e0 a (fun G a => ?_) fun G a => ?_
   ·refine sR fun _ H => Ya (iV (-1)) rfl (wK H (wp_ret (E _ _ _ rfl ?_)))
    cases a
    exact c _ _ _ (fin1r Tryz.results137 ⟨rfl, rfl⟩ ⟨rfl, b⟩)
   ·refine wp_skip (D _ _ (seqQ fun V I J => sR fun _ K => Ym (iV d) e0 (Ym (iV f) e0 (yY (ygtr e0 e0) (wK K ?_)))))
    refine cIf e0 a (fun L a => ?_) fun L a => ?_
    ·refine sR fun _ N => Ya (iV 1) rfl (wK N (wp_ret (J _ _ _ rfl ?_)))
     cases a
     exact c _ _ _ (fin1r Tryz.results137 ⟨rfl, rfl⟩ ⟨rfl, b⟩)
    ·refine wp_skip (I _ _ (sR fun _ O => Ya (iV 0) rfl (wK O (wp_ret ?_))))
     cases a
     exact c _ _ _ (fin1r Tryz.results137 ⟨rfl, rfl⟩ ⟨rfl, b⟩)
theorem integer_compare_ok {m u : LI} {h i : Hdr} {out : Int} (d : integer_compare m u = some out) (j : imm (rI .u32) h.v m ∈ ros) (k : imm (rI .u32) i.v u ∈ ros) (b : St w0 ros rs w) :
  Calls Tryz.prog 99 #[h.v, i.v] w (fun e w => e = .returned (iV out) ∧ St w0 ros rs w) := by
 refine enterQ Tryz.func99 rfl Tryz.ntmps99 rfl fun Q n => sR fun _ H => Ya (iV 0) rfl (wK H (seqQ fun b2 I J => sR fun _ K => Ym h.v e0 (yY (yLen SL_29 e0 b (rdI j)) (Ym i.v e0 (yY (yLen SL_29 e0 b (rdI k)) (yY (yneq e0 e0) ?_))))))
 refine wK K ?_
 rcases iteS d with ⟨o, d⟩ | ⟨o, d⟩
 ·refine condF e0 (nF (dT o)) (wp_skip (I _ _ (seqQ fun b3 L N => sR fun _ O => Ym h.v e0 (yY (yLen SL_29 e0 b (rdI j)) (yY (ysub e0 rfl) (Ya (iV (ws .i64 (m.length : Int) 1)) e0 (wK O (blockQ fun x y => bE d fun z R d => ?_))))))))
  have S : ∀ (f : FV) w, St w0 ros rs w → .inl () = z → x (.exit 0) (fr 41 f) w := by
   intro f w b ho
   subst ho
   refine y _ _ _ (L _ _ (sR fun _ T => Ya (iV 0) rfl (wK T (wp_ret ?_))))
   cases d
   exact n _ _ _ (fin1r Tryz.results99 ⟨rfl, rfl⟩ ⟨rfl, b⟩)
  have U : ∀ (p : Int) (f : FV) w, f 4 = iV p → St w0 ros rs w → .inr p = z → x .ret (fr 41 f) w := by
   intro p f w V b ho
   subst ho
   refine y _ _ _ (N _ _ _ rfl ?_)
   cases d
   exact n _ _ _ (fin1r Tryz.results99 ⟨rfl, V⟩ ⟨rfl, b⟩)
  refine loopQ (fun s a w => ∃ (g : Int) (f : FV), g = s ∧ a = fr 41 f ∧ f 0 = h.v ∧ f 1 = i.v ∧ f 5 = iV g ∧ St w0 ros rs w) R ⟨_, _, rfl, rfl, rfl, rfl, rfl, b⟩ ?_
  rintro _ _ w b4 ⟨g, f, rfl, rfl, q, r, l, b⟩ c A b5 W B
  refine seqQ fun b6 X Z => sR fun _ a0 => Ym (iV g) (eh l) (yY (ygeq e0 rfl) (wK a0 ?_))
  refine cIf e0 c (fun a1 c => ?_) fun a1 c => ?_
  ·refine wp_skip (X _ _ (seqQ fun b7 a3 a4 => blockQ fun _ C => sQ fun _ a5 => bE c fun b8 D c => bE c fun b9 E c => dR [0, 0, 3, 7, 0, 0, 48, 112, 255] [] 0 folM ?_))
   replace b := b.drew
   refine Dz [0, 1, 2, 3, 4, 5, 6, 7, 8] [] (yR rfl (m_ h.v (eh q)) (yR rfl (m_ (iV g) (eh l)) (yR rfl (yIa SL_29 e0 e0 b (rdI j) D) (yR rfl (yI O_103 e0 b (rdI j) D) (yR rfl (m_ i.v (eh r)) (yR rfl (m_ (iV g) (eh l)) (yR rfl (yIa SL_29 e0 e0 b (rdI k) E) (yR rfl (yI O_103 e0 b (rdI k) E) (yR rfl (yneq e0 e0) (Rn QSn (a5 _ _ ?_)))))))))))
   rcases iteS c with ⟨t, c⟩ | ⟨t, c⟩
   ·refine condF e0 (nF (dT t)) (wp_skip (C _ _ _ (a3 _ _ (wR (Ym (iV g) (eh l) (yY (ysub e0 rfl) (Ya (iV (ws .i64 g 1)) e0 (wN ?_))))))))
    cases c
    exact W _ _ _ rfl ⟨_, _, rfl, rfl, q, r, rfl, b⟩
   ·refine condT e0 (nT (dF t)) (sQ fun _ a6 => bE c fun c0 F c => bE c fun c1 G c => bE c fun a7 a8 c => dR [0, 0, 3, 7, 0, 0, 48, 112, 255, 511] [8, 9] 2 folM ?_)
    replace b := b.drew
    refine Dn [0, 1, 2, 3, 4, 5, 6, 7] [] [8] (yR rfl (m_ h.v (eh q)) (yR rfl (m_ (iV g) (eh l)) (yR rfl (yIa SL_29 e0 e0 b (rdI j) F) (yR rfl (yI O_103 e0 b (rdI j) F) (yR rfl (m_ i.v (eh r)) (yR rfl (m_ (iV g) (eh l)) (yR rfl (yIa SL_29 e0 e0 b (rdI k) G) (yR rfl (yI O_103 e0 b (rdI k) G) (Rn QSn ?_)))))))))
    refine Lc1 rfl ?_
    refine Lk wn (yCall FN_138 (a2 e0 e0)) (cmp_Compare_uint32_ok a8 b) ?_
    rintro _ w ⟨rfl, b⟩
    refine ⟨_, rfl, ?_⟩
    refine Dn [] [] [9] (Rn QSn ?_)
    refine Lc1 rfl ?_
    refine Ly wn (a_ (iV a7) e0) (Dz [] [] (Rn QSn (a6 _ _ (wp_ret (C _ _ _ (a4 _ _ _ rfl ?_))))))
    cases c
    exact B _ _ _ _ rfl rfl (U _ _ _ rfl b (A _ rfl))
  ·refine wp_exit (Z _ _ _ rfl ?_)
   cases c
   exact B _ _ _ _ rfl rfl (S _ _ b (A _ rfl))
 ·refine condT e0 (nT (dF o)) (sR fun _ a9 => Ym h.v e0 (yY (yLen SL_29 e0 b (rdI j)) (Ym i.v e0 (yY (yLen SL_29 e0 b (rdI k)) (bE d fun b0 b1 d => yC (yCall FN_137 (a2 e0 e0)) (cmp_Compare_int_ok b1 b) ?_)))))
  rintro _ w ⟨rfl, b⟩
  refine ⟨_, rfl, ?_⟩
  refine Ya (iV b0) e0 (wK a9 (wp_ret (J _ _ _ rfl ?_)))
  cases d
  exact n _ _ _ (fin1r Tryz.results99 ⟨rfl, rfl⟩ ⟨rfl, b⟩)
theorem integer_Cmp_ok {i : Bool} {l : LI} {f : Bool} {m : LI} {g d : Hdr} {out : Int} (b : integer_Cmp i l f m = some out) (n : imm (rI .u32) g.v l ∈ ros) (o : imm (rI .u32) d.v m ∈ ros) (a : St w0 ros rs w) :
  Calls Tryz.prog 47 #[.agg #[.bool i, g.v], .agg #[.bool f, d.v]] w (fun e w => e = .returned (iV out) ∧ St w0 ros rs w) := by
 refine enterQ Tryz.func47 rfl Tryz.ntmps47 rfl fun Q j => sR fun _ q => yBb (r_box (vals := [.bool i, g.v]) a e0 rfl) fun I w a => yBb (r_box (vals := [.bool f, d.v]) a e0 rfl) fun J w a => Ya (iV 0) rfl (wK q (sQ fun _ r => bE b fun c s b => bE b fun h t b => dR [0, 1, 0, 7, 15, 31] [1, 3, 4, 5] 4 folM ?_))
 replace a := a.drew
 refine Dn [0, 2] [] [1] (yR rfl (lbs_ [.bool i, g.v] ST_31 e0 a R1) (yR rfl (lbs_ [.bool f, d.v] ST_31 e0 a R0) (Rn QSn ?_)))
 refine Lc1 rfl ?_
 refine Lk wn (yCall FN_29 (a1 e0)) (integer_Sign_ok s n a) ?_
 rintro _ w ⟨rfl, a⟩
 refine ⟨_, rfl, ?_⟩
 refine Dn [] [2] [3] (Rn (yS rfl (lbs_ [.bool f, d.v] ST_31 e0 a R0) QSn) ?_)
 refine Lc1 rfl ?_
 refine Lk wn (yCall FN_29 (a1 e0)) (integer_Sign_ok t o a) ?_
 rintro _ w ⟨rfl, a⟩
 refine ⟨_, rfl, ?_⟩
 refine Dn [] [] [4] (Rn QSn ?_)
 refine Lc1 rfl ?_
 refine Ly wn (a_ (iV c) e0) (Dn [] [] [5] (Rn QSn ?_))
 refine Lc1 rfl ?_
 refine Ly wn (a_ (iV h) e0) (Dz [] [] (Rn QSn (r _ _ (seqQ fun K u p => blockQ fun _ k => sR fun _ x => Ym (iV c) e0 (Ym (iV h) e0 (yY (ylss e0 e0) (Ya (.bool (decide (c < h))) e0 (wK x ?_))))))))
 refine cIf e0 b (fun y b => ?_) fun y b => ?_
 ·refine sR fun _ z => Ya (iV (-1)) rfl (wK z (wp_ret (k _ _ _ (p _ _ _ rfl ?_))))
  cases b
  exact j _ _ _ (fin1r Tryz.results47 ⟨rfl, rfl⟩ ⟨rfl, (a.k1c)⟩)
 ·refine sR fun _ A => Ym (iV c) e0 (Ym (iV h) e0 (yY (ygtr e0 e0) (Ya (.bool (decide (h < c))) e0 (wK A ?_))))
  refine cIf e0 b (fun B b => ?_) fun B b => ?_
  ·refine sR fun _ C => Ya (iV 1) rfl (wK C (wp_ret (k _ _ _ (p _ _ _ rfl ?_))))
   cases b
   exact j _ _ _ (fin1r Tryz.results47 ⟨rfl, rfl⟩ ⟨rfl, (a.k1c)⟩)
  ·refine wp_skip (k _ _ _ (u _ _ (sQ fun _ D => bE b fun L E b => bE b fun N F b => bE b fun G H b => dR [0, 0, 2, 6, 0, 16, 62, 126, 255, 511] [3, 6, 7, 9] 4 folM ?_)))
   replace a := a.drew
   refine Dn [0, 1, 2, 4, 5] [] [3] (yR rfl (m_ (iV c) e0) (yR rfl (yFb FL_31_1 e0) (yR rfl (lb_ g.v O_29 e0 a R1) (yR rfl (yFb FL_31_1 e0) (yR rfl (lb_ d.v O_29 e0 a R0) (Rn QSn ?_))))))
   refine Lc1 rfl ?_
   refine Lk wn (yCall FN_73 (a1 e0)) (integer_trim_ok E n a) ?_
   rintro _ w ⟨O, rfl, a⟩
   refine ⟨_, rfl, ?_⟩
   refine Dn [] [0, 4, 5] [6] (Rn (yS rfl (m_ (iV c) e0) (yS rfl (yFb FL_31_1 e0) (yS rfl (lb_ d.v O_29 e0 a R0) QSn))) ?_)
   refine Lc1 rfl ?_
   refine Lk wn (yCall FN_73 (a1 e0)) (integer_trim_ok F (mtF o) a) ?_
   rintro _ w ⟨R, rfl, a⟩
   refine ⟨_, rfl, ?_⟩
   refine Dn [] [0] [7] (Rn (yS rfl (m_ (iV c) e0) QSn) ?_)
   refine Lc1 rfl ?_
   refine Lk wn (yCall FN_99 (a2 e0 e0)) (integer_compare_ok H F1 F0 a) ?_
   rintro _ w ⟨rfl, a⟩
   refine ⟨_, rfl, ?_⟩
   refine Dn [8] [0] [9] (yR rfl (ymul e0 e0) (Rn (yS rfl (m_ (iV c) e0) QSn) ?_))
   refine Lc1 rfl ?_
   refine Ly wn (a_ (iV (wm .i64 c G)) e0) (Dz [] [] (Rn QSn (D _ _ (wp_ret ?_))))
   cases b
   exact j _ _ _ (fin1r Tryz.results47 ⟨rfl, rfl⟩ ⟨rfl, ((a.k1c).facts (allT (allT allI)))⟩)
theorem slices_Clone_uint32_ok {f : LI} {c : Hdr} {out : LI} (b : slices_Clone_uint32 f = some out) (g : imm (rI .u32) c.v f ∈ ros) (a : St w0 ros rs w) :
  Calls Tryz.prog 92 #[c.v] w (fun e w => ∃ (h : Hdr), e = .returned (h.v) ∧ St w0 ros (row 103 (rI .u32) h.v out :: rs) w) := by
 refine enterQ Tryz.func92 rfl Tryz.ntmps92 rfl fun Q i => sR fun _ j => Ya hnil.v rfl (wK j (seqQ fun t k m => sR fun _ o => Ym c.v e0 (yY (yenil SL_29 e0 rfl) (wK o ?_))))
 rcases nilS c with d | d
 ·refine condT e0 d ?_
  obtain rfl := nilE d g a
  replace b := nilM b
  refine sR fun _ p => Ya hnil.v rfl (wK p (wp_ret (m _ _ _ rfl ?_)))
  cases b
  replace a := a.rowNh 103 (rI .u32)
  exact i _ _ _ (fin1r Tryz.results92 ⟨rfl, rfl⟩ ⟨_, rfl, a⟩)
 ·refine condF e0 d (wp_skip (k _ _ (sR fun _ q => yH (rLt (n := 0) (l := []) a SL_29 [] bp0 rfl rfl mks0) fun u w a => Ym c.v e0 (bE b fun x r b => yH (rAp a SL_29 e0 e0 (rdI g) r) fun s w a => Ya s.v e0 (wK q ?_)))))
  refine wp_ret ?_
  cases b
  exact i _ _ _ (fin1r Tryz.results92 ⟨rfl, rfl⟩ ⟨_, rfl, a⟩)
theorem integer_big_ok {b : Bool} {g : LI} {f : Hdr} {out : Bool × LI} (c : integer_big b g = some out) (j : imm (rI .u32) f.v g ∈ ros) (a : St w0 ros rs w) :
  Calls Tryz.prog 76 #[.bool b, f.v] w (fun e w => ∃ (h : Hdr), e = .returned (.agg #[.bool out.1, h.v]) ∧ St w0 (imm (rI .u32) h.v out.2 :: ros) rs w) := by
 refine enterQ Tryz.func76 rfl Tryz.ntmps76 rfl fun Q i => sR fun _ k => yBb (rAl a ZT_31) fun t w a => wK k (sR fun _ l => Ym f.v e0 (bE c fun u m c => yC (yCall FN_73 (a1 e0)) (integer_trim_ok m j a) ?_))
 rintro _ w ⟨d, rfl, a⟩
 refine ⟨_, rfl, ?_⟩
 refine Ya d.v e0 (wK l (seqQ fun x n o => sR fun _ p => Ym d.v e0 (yY (yLen SL_29 e0 a (rdI F0)) (yY (yeql e0 rfl) (wK p ?_)))))
 refine cIf e0 c (fun q c => ?_) fun q c => ?_
 ·refine sR fun _ r => yY (ybuild (us := [.bool false, hnil.v]) [] SO_31 bp0 rfl) (yT (r_stbn (vals' := [.bool false, hnil.v]) (us := [.bool false, hnil.v]) a ST_31 e0 e0 rfl rfl (one_of rfl) rfl) fun w a => wK r (wp_ret (o _ _ _ rfl ?_)))
  cases c
  replace a := a.immNh (rI .u32)
  exact i _ _ _ (fin1r Tryz.results76 (rcs2 rfl rfl a R0 ST_31 rfl) ⟨_, rfl, ((a.k10).facts (allC F0 (allT (allT allI))))⟩)
 ·refine wp_skip (n _ _ (sR fun _ s => Ym (.bool b) e0 (Ym d.v e0 (yY (ybuild (us := [.bool b, d.v]) [(0, .bool b), (1, d.v)] SO_31 (bp2 e0 e0) rfl) (yT (r_stbn (vals' := [.bool b, d.v]) (us := [.bool b, d.v]) a ST_31 e0 e0 rfl rfl (one_of rfl) rfl) fun w a => wK s (wp_ret ?_))))))
  cases c
  exact i _ _ _ (fin1r Tryz.results76 (rcs2 rfl rfl a R0 ST_31 rfl) ⟨_, rfl, (a.k10)⟩)
theorem integer_Norm_ok {b : Bool} {f : LI} {d : Hdr} {out : Bool × LI} (c : integer_Norm b f = some out) (j : imm (rI .u32) d.v f ∈ ros) (a : St w0 ros rs w) :
  Calls Tryz.prog 104 #[.agg #[.bool b, d.v]] w (fun e w => ∃ (g : Hdr), e = .returned (.agg #[.bool out.1, g.v]) ∧ St w0 (imm (rI .u32) g.v out.2 :: ros) rs w) := by
 refine enterQ Tryz.func104 rfl Tryz.ntmps104 rfl fun Q k => sR fun _ l => yBb (r_box (vals := [.bool b, d.v]) a e0 rfl) fun p w a => yBb (rAl a ZT_31) fun q w a => wK l (sQ fun _ m => bE c fun r n c => bE c fun h o c => dR [0, 1, 0, 4, 12, 31, 63] [4, 5, 6] 3 folM ?_)
 replace a := a.drew
 refine Dn [0, 1, 2, 3] [] [4] (yR rfl (yFb FL_31_0 e0) (yR rfl (lb_ (.bool b) O_4 e0 a R1) (yR rfl (yFb FL_31_1 e0) (yR rfl (lb_ d.v O_29 e0 a R1) (Rn QSn ?_)))))
 refine Lc1 rfl ?_
 refine Lk wn (yCall FN_92 (a1 e0)) (slices_Clone_uint32_ok n j a) ?_
 rintro _ w ⟨s, rfl, a⟩
 refine ⟨_, rfl, ?_⟩
 refine Dn [] [0, 1] [5] (Rn (yS rfl (yFb FL_31_0 e0) (yS rfl (lb_ (.bool b) O_4 e0 a R2) QSn)) ?_)
 refine Lc1 rfl ?_
 replace a := a.fz
 refine Lk wn (yCall FN_76 (a2 e0 e0)) (integer_big_ok o F0 a) ?_
 rintro _ w ⟨i, rfl, a⟩
 refine ⟨_, rfl, ?_⟩
 refine Dn [] [] [6] (Rn QSn ?_)
 refine Lc1 rfl ?_
 refine LT wn (r_stbn (vals' := [.bool h.1, i.v]) (us := [.bool h.1, i.v]) a ST_31 e0 e0 rfl rfl (one_of rfl) rfl) fun w a => Dz [] [] (Rn QSn (m _ _ (wp_ret ?_)))
 cases c
 exact k _ _ _ (fin1r Tryz.results104 (rcs2 rfl rfl a R0 ST_31 rfl) ⟨_, rfl, ((a.k1c).facts (allC F0 (allT (allT allI))))⟩)
theorem exact_twin_ok {q : List (List (Bool × LI))} {O : List (Bool × LI)} {k j : Hdr} {out : (List (List (Bool × LI)))} (m : exact_twin q O = some out) (G : imm (rS (rP rB (rS (rI .u32)))) k.v q ∈ ros) (H : imm (rP rB (rS (rI .u32))) j.v O ∈ ros) (b : St w0 ros rs w) :
  Calls Tryz.prog 54 #[k.v, j.v] w (fun e w => ∃ (R : Hdr) (S : List Hdr), e = .returned (R.v) ∧ St w0 ros (row 32 rH R.v S :: fam 31 (rP rB (rS (rI .u32))) S out :: rs) w) := by
 refine enterQ Tryz.func54 rfl Tryz.ntmps54 rfl fun Q c1 => sR fun _ c2 => Ya hnil.v rfl (wK c2 (sR fun _ c3 => Ya hnil.v rfl (wK c3 (sQ fun _ c4 => sR fun _ c5 => ?_))))
 refine Ym k.v e0 (yY (yLen SL_22 e0 b (rdI G)) (Ym (iV 0) rfl (wK c5 (blockQ fun c6 c7 => bE m fun c8 c9 m => ?_))))
 have d0 : ∀ (I : List (List (Bool × LI))) (r : Hdr) (J : List Hdr) (f : FV) w, f 5 = r.v → St w0 ros (row 32 rH r.v J :: fam 31 (rP rB (rS (rI .u32))) J I :: rs) w → I = c8 → c6 (.exit 0) (fr 48 f) w := by
  intro I r J f w d1 b ho
  subst ho
  refine c7 _ _ _ (c4 _ _ (sR fun _ d2 => Ym r.v (eh d1) (Ya r.v e0 (wK d2 (wp_ret ?_)))))
  cases m
  exact c1 _ _ _ (fin1r Tryz.results54 ⟨rfl, rfl⟩ ⟨_, _, rfl, b⟩)
 replace b := ((b.rowNh 32 rH).fNew 31 (rP rB (rS (rI .u32)))).k17
 refine loopQ (fun s a w => ∃ (o : List (List (Bool × LI))) (d : Int) (f : FV) (h : Hdr) (i : List Hdr), (o, d) = s ∧ a = fr 48 f ∧ f 1 = j.v ∧ f 5 = h.v ∧ f 11 = k.v ∧ f 12 = iV (q.length : Int) ∧ f 13 = iV d ∧ St w0 ros (row 32 rH h.v i :: fam 31 (rP rB (rS (rI .u32))) i o :: rs) w) c9 ⟨_, _, _, _, _, rfl, rfl, rfl, rfl, rfl, rfl, rfl, b⟩ ?_
 rintro _ _ w d3 ⟨o, d, f, h, i, rfl, rfl, d4, T, U, V, t, b⟩ c d5 i6 d6 d7
 refine sR fun _ d8 => yY (ylss (eh t) (eh V)) (wK d8 (seqQ fun i7 d9 e1 => ?_))
 refine cIf e0 c (fun e2 c => ?_) fun e2 c => ?_
 ·refine wp_skip (d9 _ _ (sQ fun _ e3 => blockQ fun _ e4 => sR fun _ e5 => Ym (iV d) (eh t) (bE c fun W X c => yY (yIa SL_22 (eh U) (eh t) b (rdI G) X) ?_)))
  obtain ⟨u, b⟩ := iLs b G X
  refine yY (yCt O_32 e0 b F1 rfl) (Ya (iV d) e0 (Ya u.v e0 (wK e5 (sR fun _ e6 => Ya hnil.v rfl (wK e6 (sQ fun _ e7 => sR fun _ e8 => Ym u.v e0 ?_))))))
  refine yY (yLen SL_32 e0 b (rdI F0)) (Ym (iV 0) rfl (wK e8 (blockQ fun e9 f0 => bE c fun f1 f2 c => ?_)))
  have f3 : ∀ (K : List (Bool × LI)) (x : Hdr) (f : FV) w, f 1 = j.v → f 5 = h.v → f 6 = iV d → f 8 = x.v → f 11 = k.v → f 12 = iV (q.length : Int) → f 13 = iV d → St w0 ros (row 32 rH h.v i :: fam 31 (rP rB (rS (rI .u32))) i o :: row 31 (rP rB (rS (rI .u32))) x.v K :: rs) w → K = f1 → e9 (.exit 2) (fr 48 f) w := by
   intro K x f w y Z a0 a2 a3 a4 a5 b ho
   subst ho
   refine f0 _ _ _ (e7 _ _ (sQ fun f4 f5 => sR fun _ f6 => Ym (iV d) (eh a0) (Ym j.v (eh y) (yY (yLen SL_32 e0 b (rdI H)) (yY (ylss e0 e0) (wK f6 ?_))))))
   have a6 : ∀ (z : List (Bool × LI)) (p : Hdr) (f : FV) w, f 1 = j.v → f 5 = h.v → f 8 = p.v → f 11 = k.v → f 12 = iV (q.length : Int) → f 13 = iV d → St w0 ros (row 32 rH h.v i :: fam 31 (rP rB (rS (rI .u32))) i o :: row 31 (rP rB (rS (rI .u32))) p.v z :: rs) w → exact_twin_j7 o d z = some d3 → f4 .normal (fr 48 f) w := by
    intro z p f w f7 f8 f9 g0 g1 g2 b m
    refine f5 _ _ (wR (Ym h.v (eh f8) (Ym p.v (eh f9) (yH (rLt (n := 1) (l := [p]) b SLH_22 [p.v] (bp1 e0) rfl rfl (mks1 rfl (mkF rfl) mks0)) fun i8 w b => bE m fun i9 a7 m => ?_))))
    replace b := b.k17
    obtain ⟨j0, ey217, g3⟩ := app_rep a7 (b.famL R2) (show [p].length = [z].length from rfl)
    refine yH (rAp b SLH_22 e0 e0 rO1 g3) fun g4 w b => ?_
    replace b := (b.k12).fPush
    rw [← ey217, ← (app_some a7).1] at b
    refine Ya g4.v e0 (wN (e4 _ _ _ (e3 _ _ (wR (yY (yadd (eh g2) rfl) (Ym (iV (wa .i64 d 1)) e0 (wN ?_)))))))
    cases m
    exact d6 _ _ _ rfl ⟨_, _, _, _, _, rfl, rfl, f7, rfl, g0, g1, rfl, (b.k1b)⟩
   refine cIf e0 c (fun g5 c => ?_) fun g5 c => ?_
   ·refine wR (Ym x.v (eh a2) (Ym j.v (eh y) (Ym (iV d) (eh a0) (bE c fun g6 a8 c => yY (yIa SL_32 e0 e0 b (rdI H) a8) ?_))))
    obtain ⟨j1, j2, b⟩ := iLd b H a8
    obtain ⟨j3, j4, rfl, b⟩ := b.eltP
    obtain ⟨rfl, b⟩ := b.eltB
    obtain ⟨g7, rfl, b⟩ := b.eltS
    refine yY (yCtn (cs := [.bool g6.1, g7.v]) ST_31 rfl e0 b F1) (bE c fun A g8 c => yC (yCall FN_104 (a1 e0)) (integer_Norm_ok g8 F0 b) ?_)
    rintro _ w ⟨a9, rfl, b⟩
    refine ⟨_, rfl, ?_⟩
    exact yH (rLt (n := 1) (l := [(A.1, A.2)]) b SL_32 [.agg #[.bool A.1, a9.v]] (bp1 e0) rfl rfl (mks1 (cs := [.bool A.1, a9.v]) rfl (mkP mkB (mkS F0)) mks0)) fun j5 w b => bE c fun j6 g9 c => yH (rAp (b.k13) SL_32 e0 e0 rO1 g9) fun h0 w b => Ya h0.v e0 (wN (a6 _ _ _ _ y Z rfl a3 a4 a5 ((b.k1d).facts (allT (allT (allT allI)))) c))
   ·exact wp_skip (a6 _ _ _ _ y Z a2 a3 a4 a5 b c)
  replace b := b.rowNh 31 (rP rB (rS (rI .u32)))
  refine loopQ (fun s a w => ∃ (L : List (Bool × LI)) (B : Int) (f : FV) (C : Hdr), (L, B) = s ∧ a = fr 48 f ∧ f 1 = j.v ∧ f 5 = h.v ∧ f 6 = iV d ∧ f 8 = C.v ∧ f 11 = k.v ∧ f 12 = iV (q.length : Int) ∧ f 13 = iV d ∧ f 18 = u.v ∧ f 19 = iV (W.length : Int) ∧ f 20 = iV B ∧ St w0 (imm (rP rB (rS (rI .u32))) u.v W :: ros) (row 32 rH h.v i :: fam 31 (rP rB (rS (rI .u32))) i o :: row 31 (rP rB (rS (rI .u32))) C.v L :: rs) w) f2 ⟨_, _, _, _, rfl, rfl, d4, T, rfl, rfl, U, V, t, rfl, rfl, rfl, ((b.k1e).facts (allC F0 (allT (allT allI))))⟩ ?_
  rintro _ _ w j8 ⟨L, B, f, C, rfl, rfl, b0, b1, b2, b3, b4, b5, b6, b7, b8, N, b⟩ g h1 j9 h3 h5
  refine sR fun _ h6 => yY (ylss (eh N) (eh b8)) (wK h6 (seqQ fun k0 h7 h8 => ?_))
  refine cIf e0 g (fun h9 g => ?_) fun h9 g => ?_
  ·refine wp_skip (h7 _ _ (sQ fun _ i0 => blockQ fun _ i1 => sR fun _ i2 => bE g fun D b9 g => yY (yIa SL_32 (eh b7) (eh N) b (rdI F0) b9) ?_))
   obtain ⟨k5, k6, b⟩ := iLd b F0 b9
   obtain ⟨k7, k8, rfl, b⟩ := b.eltP
   obtain ⟨rfl, b⟩ := b.eltB
   obtain ⟨E, rfl, b⟩ := b.eltS
   refine yY (yCtn (cs := [.bool D.1, E.v]) ST_31 rfl e0 b F1) (yBb (rAl b ZT_31) fun k9 w b => yT (r_stbn (vals' := [.bool D.1, E.v]) (us := [.bool D.1, E.v]) b ST_31 e0 e0 rfl rfl (one_of rfl) rfl) fun w b => wK i2 (wR (Ym C.v (eh b3) (yY (lbs_ [.bool D.1, E.v] ST_31 e0 b R0) (bE g fun F i3 g => yC (yCall FN_104 (a1 e0)) (integer_Norm_ok i3 F0 b) ?_)))))
   rintro _ w ⟨c0, rfl, b⟩
   refine ⟨_, rfl, ?_⟩
   refine yH (rLt (n := 1) (l := [(F.1, F.2)]) b SL_32 [.agg #[.bool F.1, c0.v]] (bp1 e0) rfl rfl (mks1 (cs := [.bool F.1, c0.v]) rfl (mkP mkB (mkS F0)) mks0)) fun l0 w b => bE g fun l1 i4 g => yH (rAp (b.k14) SL_32 e0 e0 rO1 i4) fun i5 w b => Ya i5.v e0 (wN (i1 _ _ _ (i0 _ _ (wR (yY (yadd (eh N) rfl) (Ym (iV (wa .i64 B 1)) e0 (wN ?_)))))))
   cases g
   exact h3 _ _ _ rfl ⟨_, _, _, _, rfl, rfl, b0, b1, b2, rfl, b4, b5, b6, b7, b8, rfl, ((b.k1f).facts (allC F3 (allT (allT (allT (allT allI))))))⟩
  ·refine wp_exit (h8 _ _ _ rfl ?_)
   cases g
   exact h5 _ _ _ _ rfl rfl (f3 _ _ _ _ b0 b1 b2 b3 b4 b5 b6 (b.facts (allT allI)) (h1 _ rfl))
 ·refine wp_exit (e1 _ _ _ rfl ?_)
  cases c
  exact d7 _ _ _ _ rfl rfl (d0 _ _ _ _ _ T b (d5 _ rfl))
theorem integer_FromInt_ok {c : Int} {out : Bool × LI} (d : integer_FromInt c = some out) (a : St w0 ros rs w) :
  Calls Tryz.prog 82 #[iV c] w (fun e w => ∃ (g : Hdr), e = .returned (.agg #[.bool out.1, g.v]) ∧ St w0 (imm (rI .u32) g.v out.2 :: ros) rs w) := by
 refine enterQ Tryz.func82 rfl Tryz.ntmps82 rfl fun Q p => sR fun _ q => yBb (rAl a ZT_31) fun h w a => wK q (sR fun _ r => Ym (iV c) e0 (yY (ycv (k' := .u64) (by kernel_rfl) (by kernel_rfl) e0) (Ya (.int .u64 (wc .u64 c)) e0 (wK r ?_))))
 refine sQ fun s t => sR fun _ u => Ym (iV c) e0 (yY (ylss e0 rfl) (wK u ?_))
 have i : ∀ (b : Int) (f : FV) w, f 0 = iV c → f 2 = (pB h) → f 3 = .int .u64 b → St w0 ros (box h 31 [.bool false, hnil.v] :: rs) w → integer_FromInt_j1 c b = some out → s .normal (fr 20 f) w := by
  intro b f w x j k a d
  refine t _ _ (sR fun _ y => Ym (iV c) (eh x) (yY (ylss e0 rfl) (Ym (.int .u64 b) (eh k) (yY (yand e0 rfl) (yY (ycv (k' := .u32) (by kernel_rfl) (by kernel_rfl) e0) (Ym (.int .u64 b) (eh k) (yY (yshrc e0 rfl) (yY (ycv (k' := .u32) (by kernel_rfl) (by kernel_rfl) e0) (yH (rLt (n := 2) (l := [wc .u32 (wand .u64 b 4294967295), wc .u32 (wsrc .u64 b 32)]) a SL_29 [.int .u32 (wc .u32 (wand .u64 b 4294967295)), .int .u32 (wc .u32 (wsrc .u64 b 32))] (bp2 e0 e0) rfl rfl (mks1 (cs := [.int .u32 (wc .u32 (wand .u64 b 4294967295))]) rfl mkI (mks1 (cs := [.int .u32 (wc .u32 (wsrc .u64 b 32))]) rfl mkI mks0))) fun B w a => bE d fun m z d => ?_)))))))))
  replace a := a.fz
  refine yC (yCall FN_76 (a2 e0 e0)) (integer_big_ok z F0 a) ?_
  rintro _ w ⟨o, rfl, a⟩
  refine ⟨_, rfl, ?_⟩
  refine yT (r_stbn (vals' := [.bool m.1, o.v]) (us := [.bool m.1, o.v]) a ST_31 (eh j) e0 rfl rfl (one_of rfl) rfl) fun w a => wK y (wp_ret ?_)
  cases d
  exact p _ _ _ (fin1r Tryz.results82 (rcs2 rfl j a R0 ST_31 rfl) ⟨_, rfl, ((a.k10).facts (allC F0 (allT (allT allI))))⟩)
 refine cIf e0 d (fun A d => ?_) fun A d => ?_
 ·exact wR (Ym (.int .u64 (wc .u64 c)) e0 (yY (yneg e0) (Ya (.int .u64 (wneg .u64 (wc .u64 c))) e0 (wN (i _ _ _ rfl rfl rfl a d)))))
 ·exact wp_skip (i _ _ _ rfl rfl rfl a d)
end Go.Proofs.YtpfmbaidflhamaaGreatDoor
