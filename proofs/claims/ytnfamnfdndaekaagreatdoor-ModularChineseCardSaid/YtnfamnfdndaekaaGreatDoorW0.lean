/- Walks: each function computes its model, printed. -/
import Derived.Test.YtnfamnfdndaekaaGreatDoorSxX
import Derived.Test.YtnfamnfdndaekaaGreatDoorTy
import Derived.Test.YtnfamnfdndaekaaGreatDoorM4
import Derived.Test.YtnfamnfdndaekaaGreatDoorSxV
import Derived.Test.YtnfamnfdndaekaaGreatDoorSxS
import Derived.Test.YtnfamnfdndaekaaGreatDoorSxY
namespace Go.Proofs.YtnfamnfdndaekaaGreatDoor
open Go Sx M
set_option maxRecDepth 100000
set_option maxHeartbeats 40000000
set_option linter.unusedVariables false
attribute [local irreducible] wpList Code.wp Calls DR QR QS LA LS St
variable {w0 : World} {ros : List Fact} {rs : List Res} {w : World}
theorem sparsekit_Slim_ok {d : Bool} {f : LI} {b : Int} {c : Hdr} {out : Bool} (g : sparsekit_Slim d f b = some out) (h : imm (rI .u32) c.v f ∈ ros) (a : St w0 ros rs w) :
  Calls Tryz.prog 18 #[.agg #[.bool d, c.v], iV b] w (fun e w => e = .returned (.bool out) ∧ St w0 ros rs w) := by
 refine enterQ Tryz.func18 rfl Tryz.ntmps18 rfl fun Q i => sR fun _ j => yBb (r_box (vals := [.bool d, c.v]) a e0 rfl) fun l w a => Ya (.bool false) rfl (wK j (sR fun _ k => yY (yFb FL_27_1 e0) (yY (lb_ c.v O_25 e0 a R0) (yY (yLen SL_25 e0 a (rdI h)) (Ym (iV b) e0 ?_)))))
 refine yY (yleq e0 e0) (Ya (.bool (decide ((f.length : Int) ≤ b))) e0 (wK k (wp_ret ?_)))
 cases g
 exact i _ _ _ (fin1r Tryz.results18 ⟨rfl, rfl⟩ ⟨rfl, (a.k10)⟩)
theorem modular_IsPrime_ok {b : Int} {out : Bool} (h : modular_IsPrime b = some out) (c : St w0 ros rs w) :
  Calls Tryz.prog 24 #[iV b] w (fun e w => e = .returned (.bool out) ∧ St w0 ros rs w) := by
 refine enterQ Tryz.func24 rfl Tryz.ntmps24 rfl fun Q l => sR fun _ u => Ya (.bool false) rfl (wK u (seqQ fun Z v x => sR fun _ y => Ym (iV b) e0 (yY (ylss e0 rfl) (Ym (.bool (decide (b < 2))) e0 ?_))))
 refine joinW 3 (fun f w => f 0 = iV b ∧ f 9 = .bool ((decide (b < 2)) || (decide ((2147483647 : Int) < b))) ∧ St w0 ros rs w) (fun m => ?_) ?_
 ·rcases Bool.eq_false_or_eq_true (decide (b < 2)) with g | g
  ·exact gN g (gN g (yY (pt_ (.bool true) e0 g rfl) (m _ _ ⟨rfl, (congrArg Value.bool (orT g)), c⟩)))
  ·exact yG g (m_ (iV b) e0) (yG g (ygtr e0 rfl) (yY (pf_ (.bool (decide ((2147483647 : Int) < b))) e0 g e0) (m _ _ ⟨rfl, (congrArg Value.bool (orF g)), c⟩)))
 rintro f w ⟨j, z, c⟩
 refine wK y (cB (eh z) h (fun A h => ?_) fun A h => ?_)
 ·refine sR fun _ B => Ya (.bool false) rfl (wK B (wp_ret (x _ _ _ rfl ?_)))
  cases h
  exact l _ _ _ (fin1r Tryz.results24 ⟨rfl, rfl⟩ ⟨rfl, c⟩)
 ·refine wp_skip (v _ _ (seqQ fun a0 C D => sR fun _ E => Ya (iV 2) rfl (wK E (blockQ fun n o => bE h fun p F h => ?_))))
  have G : ∀ (f : FV) w, St w0 ros rs w → .inl () = p → n (.exit 0) (fr 21 f) w := by
   intro f w c ho
   subst ho
   refine o _ _ _ (C _ _ (sR fun _ H => Ya (.bool true) rfl (wK H (wp_ret ?_))))
   cases h
   exact l _ _ _ (fin1r Tryz.results24 ⟨rfl, rfl⟩ ⟨rfl, c⟩)
  have I : ∀ (f : FV) w, f 2 = .bool false → St w0 ros rs w → .inr () = p → n .ret (fr 21 f) w := by
   intro f w J c ho
   subst ho
   refine o _ _ _ (D _ _ _ rfl ?_)
   cases h
   exact l _ _ _ (fin1r Tryz.results24 ⟨rfl, J⟩ ⟨rfl, c⟩)
  refine loopQ (fun s a w => ∃ (i : Int) (f : FV), i = s ∧ a = fr 21 f ∧ f 0 = iV b ∧ f 3 = iV i ∧ St w0 ros rs w) F ⟨_, _, rfl, rfl, j, rfl, c⟩ ?_
  rintro _ _ w a1 ⟨i, f, rfl, rfl, j, k, c⟩ d q a2 K r
  refine seqQ fun a3 L N => sR fun _ O => Ym (iV i) (eh k) (Ym (iV i) (eh k) (yY (ymul e0 e0) (Ym (iV b) (eh j) (yY (yleq e0 e0) (wK O ?_)))))
  refine cIf e0 d (fun R d => ?_) fun R d => ?_
  ·refine wp_skip (L _ _ (seqQ fun a4 S T => blockQ fun _ t => sR fun _ U => Ym (iV b) (eh j) (Ym (iV i) (eh k) (bE d fun a5 V d => yY (yrem e0 e0 V) (yY (yeql e0 rfl) (wK U ?_))))))
   refine cIf e0 d (fun W d => ?_) fun W d => ?_
   ·refine sR fun _ X => Ya (.bool false) rfl (wK X (wp_ret (t _ _ _ (T _ _ _ rfl ?_))))
    cases d
    exact r _ _ _ _ rfl rfl (I _ _ rfl c (q _ rfl))
   ·refine wp_skip (t _ _ _ (S _ _ (wR (Ym (iV i) (eh k) (yY (yadd e0 rfl) (Ya (iV (wa .i64 i 1)) e0 (wN ?_)))))))
    cases d
    exact K _ _ _ rfl ⟨_, _, rfl, rfl, j, rfl, c⟩
  ·refine wp_exit (N _ _ _ rfl ?_)
   cases d
   exact r _ _ _ _ rfl rfl (G _ _ c (q _ rfl))
theorem integer_trim_ok {n : LI} {d : Hdr} {out : LI} (j : integer_trim n = some out) (k : imm (rI .u32) d.v n ∈ ros) (b : St w0 ros rs w) :
  Calls Tryz.prog 77 #[d.v] w (fun e w => ∃ (p : Hdr), e = .returned (p.v) ∧ St w0 (imm (rI .u32) p.v out :: ros) rs w) := by
 refine enterQ Tryz.func77 rfl Tryz.ntmps77 rfl fun Q y => sR fun _ k1 => Ya hnil.v rfl (wK k1 (sR fun _ z => Ym d.v e0 (yY (yLen SL_25 e0 b (rdI k)) (Ya (iV (n.length : Int)) e0 (wK z (sQ fun _ A => ?_))))))
 refine blockQ fun B C => bE j fun D E j => ?_
 have F : ∀ (l : Int) (f : FV) w, f 0 = d.v → f 3 = iV l → St w0 ros rs w → l = D → B (.exit 0) (fr 21 f) w := by
  intro l f w G H b ho
  subst ho
  refine C _ _ _ (A _ _ (sR fun _ I => Ym d.v (eh G) (Ym (iV l) (eh H) (bE j fun X q j => yY (ySl (k1 := .i64) SL_25 e0 b (rdI k) (.inr ⟨rfl, rfl⟩) (.inl (congrArg some e0)) q) ?_))))
  replace b := b.sub k q
  refine Ya ((subH d 1 0 l).v) e0 (wK I (wp_ret ?_))
  cases j
  exact y _ _ _ (fin1r Tryz.results77 ⟨rfl, rfl⟩ ⟨_, rfl, b⟩)
 refine loopQ (fun s a w => ∃ (g : Int) (f : FV), g = s ∧ a = fr 21 f ∧ f 0 = d.v ∧ f 3 = iV g ∧ St w0 ros rs w) E ⟨_, _, rfl, rfl, rfl, rfl, b⟩ ?_
 rintro _ _ w Z ⟨g, f, rfl, rfl, o, m, b⟩ h J a0 K L
 refine seqQ fun a1 N O => sR fun _ R => Ym (iV g) (eh m) (yY (ygtr e0 rfl) (Ym (.bool (decide ((0 : Int) < g))) e0 (bE h fun S i h => ?_)))
 refine joinW 7 (fun f w => f 0 = d.v ∧ f 3 = iV g ∧ f 15 = .bool S ∧ St w0 ros rs w) (fun r => ?_) ?_
 ·rcases iteS i with ⟨c, i⟩ | ⟨c, i⟩
  ·refine yG (dT c) (m_ d.v (eh o)) (yG (dT c) (m_ (iV g) (eh m)) (yG (dT c) (ysub e0 rfl) (bE i fun T t i => yG (dT c) (yIa SL_25 e0 e0 b (rdI k) t) (yG (dT c) (yI O_88 e0 b (rdI k) t) (yG (dT c) (yeql e0 rfl) (yY (pt_ (.bool (decide (T = 0))) e0 (dT c) e0) ?_))))))
   cases i
   exact r _ _ ⟨o, m, rfl, b⟩
  ·refine gN (dF c) (gN (dF c) (gN (dF c) (gN (dF c) (gN (dF c) (gN (dF c) (yY (pf_ (.bool false) e0 (dF c) rfl) ?_))))))
   cases i
   exact r _ _ ⟨o, m, rfl, b⟩
 rintro f w ⟨u, x, U, b⟩
 refine wK R (cB (eh U) h (fun V h => ?_) fun V h => ?_)
 ·refine wp_skip (N _ _ (blockQ fun _ W => wR (Ym (iV g) (eh x) (yY (ysub e0 rfl) (Ya (iV (ws .i64 g 1)) e0 (wN (W _ _ _ ?_)))))))
  cases h
  exact K _ _ _ rfl ⟨_, _, rfl, rfl, u, rfl, b⟩
 ·refine wp_exit (O _ _ _ rfl ?_)
  cases h
  exact L _ _ _ _ rfl rfl (F _ _ _ u x b (J _ rfl))
theorem integer_big_ok {b : Bool} {g : LI} {f : Hdr} {out : Bool × LI} (c : integer_big b g = some out) (j : imm (rI .u32) f.v g ∈ ros) (a : St w0 ros rs w) :
  Calls Tryz.prog 74 #[.bool b, f.v] w (fun e w => ∃ (h : Hdr), e = .returned (.agg #[.bool out.1, h.v]) ∧ St w0 (imm (rI .u32) h.v out.2 :: ros) rs w) := by
 refine enterQ Tryz.func74 rfl Tryz.ntmps74 rfl fun Q i => sR fun _ k => yBb (rAl a ZT_27) fun t w a => wK k (sR fun _ l => Ym f.v e0 (bE c fun u m c => yC (yCall FN_77 (a1 e0)) (integer_trim_ok m j a) ?_))
 rintro _ w ⟨d, rfl, a⟩
 refine ⟨_, rfl, ?_⟩
 refine Ya d.v e0 (wK l (seqQ fun x n o => sR fun _ p => Ym d.v e0 (yY (yLen SL_25 e0 a (rdI F0)) (yY (yeql e0 rfl) (wK p ?_)))))
 refine cIf e0 c (fun q c => ?_) fun q c => ?_
 ·refine sR fun _ r => yY (ybuild (us := [.bool false, hnil.v]) [] SO_27 bp0 rfl) (yT (r_stbn (vals' := [.bool false, hnil.v]) (us := [.bool false, hnil.v]) a ST_27 e0 e0 rfl rfl (one_of rfl) rfl) fun w a => wK r (wp_ret (o _ _ _ rfl ?_)))
  cases c
  replace a := a.immNh (rI .u32)
  exact i _ _ _ (fin1r Tryz.results74 (rcs2 rfl rfl a R0 ST_27 rfl) ⟨_, rfl, ((a.k10).facts (allC F0 (allT (allT allI))))⟩)
 ·refine wp_skip (n _ _ (sR fun _ s => Ym (.bool b) e0 (Ym d.v e0 (yY (ybuild (us := [.bool b, d.v]) [(0, .bool b), (1, d.v)] SO_27 (bp2 e0 e0) rfl) (yT (r_stbn (vals' := [.bool b, d.v]) (us := [.bool b, d.v]) a ST_27 e0 e0 rfl rfl (one_of rfl) rfl) fun w a => wK s (wp_ret ?_))))))
  cases c
  exact i _ _ _ (fin1r Tryz.results74 (rcs2 rfl rfl a R0 ST_27 rfl) ⟨_, rfl, (a.k10)⟩)
theorem integer_FromInt_ok {c : Int} {out : Bool × LI} (d : integer_FromInt c = some out) (a : St w0 ros rs w) :
  Calls Tryz.prog 23 #[iV c] w (fun e w => ∃ (g : Hdr), e = .returned (.agg #[.bool out.1, g.v]) ∧ St w0 (imm (rI .u32) g.v out.2 :: ros) rs w) := by
 refine enterQ Tryz.func23 rfl Tryz.ntmps23 rfl fun Q p => sR fun _ q => yBb (rAl a ZT_27) fun h w a => wK q (sR fun _ r => Ym (iV c) e0 (yY (ycv (k' := .u64) (by kernel_rfl) (by kernel_rfl) e0) (Ya (.int .u64 (wc .u64 c)) e0 (wK r ?_))))
 refine sQ fun s t => sR fun _ u => Ym (iV c) e0 (yY (ylss e0 rfl) (wK u ?_))
 have i : ∀ (b : Int) (f : FV) w, f 0 = iV c → f 2 = (pB h) → f 3 = .int .u64 b → St w0 ros (box h 27 [.bool false, hnil.v] :: rs) w → integer_FromInt_j1 c b = some out → s .normal (fr 20 f) w := by
  intro b f w x j k a d
  refine t _ _ (sR fun _ y => Ym (iV c) (eh x) (yY (ylss e0 rfl) (Ym (.int .u64 b) (eh k) (yY (yand e0 rfl) (yY (ycv (k' := .u32) (by kernel_rfl) (by kernel_rfl) e0) (Ym (.int .u64 b) (eh k) (yY (yshrc e0 rfl) (yY (ycv (k' := .u32) (by kernel_rfl) (by kernel_rfl) e0) (yH (rLt (n := 2) (l := [wc .u32 (wand .u64 b 4294967295), wc .u32 (wsrc .u64 b 32)]) a SL_25 [.int .u32 (wc .u32 (wand .u64 b 4294967295)), .int .u32 (wc .u32 (wsrc .u64 b 32))] (bp2 e0 e0) rfl rfl (mks1 (cs := [.int .u32 (wc .u32 (wand .u64 b 4294967295))]) rfl mkI (mks1 (cs := [.int .u32 (wc .u32 (wsrc .u64 b 32))]) rfl mkI mks0))) fun B w a => bE d fun m z d => ?_)))))))))
  replace a := a.fz
  refine yC (yCall FN_74 (a2 e0 e0)) (integer_big_ok z F0 a) ?_
  rintro _ w ⟨o, rfl, a⟩
  refine ⟨_, rfl, ?_⟩
  refine yT (r_stbn (vals' := [.bool m.1, o.v]) (us := [.bool m.1, o.v]) a ST_27 (eh j) e0 rfl rfl (one_of rfl) rfl) fun w a => wK y (wp_ret ?_)
  cases d
  exact p _ _ _ (fin1r Tryz.results23 (rcs2 rfl j a R0 ST_27 rfl) ⟨_, rfl, ((a.k10).facts (allC F0 (allT (allT allI))))⟩)
 refine cIf e0 d (fun A d => ?_) fun A d => ?_
 ·exact wR (Ym (.int .u64 (wc .u64 c)) e0 (yY (yneg e0) (Ya (.int .u64 (wneg .u64 (wc .u64 c))) e0 (wN (i _ _ _ rfl rfl rfl a d)))))
 ·exact wp_skip (i _ _ _ rfl rfl rfl a d)
theorem cmp_isNaN_uint32_ok {a : Int} {out : Bool} (b : cmp_isNaN_uint32 a = some out) (c : St w0 ros rs w) :
  Calls Tryz.prog 160 #[.int .u32 a] w (fun e w => e = .returned (.bool out) ∧ St w0 ros rs w) := by
 refine enterQ Tryz.func160 rfl Tryz.ntmps160 rfl fun Q d => sR fun _ f => Ya (.bool false) rfl (wK f (sR fun _ g => Ym (.int .u32 a) e0 (Ym (.int .u32 a) e0 (yY (yneq e0 e0) (Ya (.bool (!(decide (a = a)))) e0 (wK g ?_))))))
 refine wp_ret ?_
 cases b
 exact d _ _ _ (fin1r Tryz.results160 ⟨rfl, rfl⟩ ⟨rfl, c⟩)
theorem cmp_Compare_uint32_ok {d f out : Int} (a : cmp_Compare_uint32 d f = some out) (b : St w0 ros rs w) :
  Calls Tryz.prog 136 #[.int .u32 d, .int .u32 f] w (fun e w => e = .returned (iV out) ∧ St w0 ros rs w) := by
 refine enterQ Tryz.func136 rfl Tryz.ntmps136 rfl fun Q c => sR fun _ j => Ya (iV 0) rfl (wK j (sR fun _ k => Ym (.int .u32 d) e0 (bE a fun h l a => yC (yCall FN_160 (a1 e0)) (cmp_isNaN_uint32_ok l b) ?_)))
 rintro _ w ⟨rfl, b⟩
 refine ⟨_, rfl, ?_⟩
 refine Ya (.bool h) e0 (wK k (sR fun _ m => Ym (.int .u32 f) e0 (bE a fun g n a => yC (yCall FN_160 (a1 e0)) (cmp_isNaN_uint32_ok n b) ?_)))
 rintro _ w ⟨rfl, b⟩
 refine ⟨_, rfl, ?_⟩
 refine Ya (.bool g) e0 (wK m (seqQ fun R o i => sR fun _ p => Ym (.bool h) e0 (wK p (cB e0 a (fun q a => ?_) fun q a => ?_))))
 ·refine seqQ fun S r s => sR fun _ t => Ym (.bool g) e0 (wK t (cB e0 a (fun u a => ?_) fun u a => ?_))
  ·refine sR fun _ v => Ya (iV 0) rfl (wK v (wp_ret (s _ _ _ rfl (i _ _ _ rfl ?_))))
   cases a
   exact c _ _ _ (fin1r Tryz.results136 ⟨rfl, rfl⟩ ⟨rfl, b⟩)
  ·refine wp_skip (r _ _ (sR fun _ x => Ya (iV (-1)) rfl (wK x (wp_ret (i _ _ _ rfl ?_)))))
   cases a
   exact c _ _ _ (fin1r Tryz.results136 ⟨rfl, rfl⟩ ⟨rfl, b⟩)
 ·refine wp_skip (o _ _ (seqQ fun T y z => sR fun _ A => Ym (.bool g) e0 (wK A (cB e0 a (fun B a => ?_) fun B a => ?_))))
  ·refine sR fun _ C => Ya (iV 1) rfl (wK C (wp_ret (z _ _ _ rfl ?_)))
   cases a
   exact c _ _ _ (fin1r Tryz.results136 ⟨rfl, rfl⟩ ⟨rfl, b⟩)
  ·refine wp_skip (y _ _ (seqQ fun U D E => sR fun _ F => Ym (.int .u32 d) e0 (Ym (.int .u32 f) e0 (yY (ylss e0 e0) (wK F ?_)))))
   refine cIf e0 a (fun G a => ?_) fun G a => ?_
   ·refine sR fun _ H => Ya (iV (-1)) rfl (wK H (wp_ret (E _ _ _ rfl ?_)))
    cases a
    exact c _ _ _ (fin1r Tryz.results136 ⟨rfl, rfl⟩ ⟨rfl, b⟩)
   ·refine wp_skip (D _ _ (seqQ fun V I J => sR fun _ K => Ym (.int .u32 d) e0 (Ym (.int .u32 f) e0 (yY (ygtr e0 e0) (wK K ?_)))))
    refine cIf e0 a (fun L a => ?_) fun L a => ?_
    ·refine sR fun _ N => Ya (iV 1) rfl (wK N (wp_ret (J _ _ _ rfl ?_)))
     cases a
     exact c _ _ _ (fin1r Tryz.results136 ⟨rfl, rfl⟩ ⟨rfl, b⟩)
    ·refine wp_skip (I _ _ (sR fun _ O => Ya (iV 0) rfl (wK O (wp_ret ?_))))
     cases a
     exact c _ _ _ (fin1r Tryz.results136 ⟨rfl, rfl⟩ ⟨rfl, b⟩)
theorem cmp_isNaN_int_ok {a : Int} {out : Bool} (b : cmp_isNaN_int a = some out) (c : St w0 ros rs w) :
  Calls Tryz.prog 159 #[iV a] w (fun e w => e = .returned (.bool out) ∧ St w0 ros rs w) := by
 refine enterQ Tryz.func159 rfl Tryz.ntmps159 rfl fun Q d => sR fun _ f => Ya (.bool false) rfl (wK f (sR fun _ g => Ym (iV a) e0 (Ym (iV a) e0 (yY (yneq e0 e0) (Ya (.bool (!(decide (a = a)))) e0 (wK g ?_))))))
 refine wp_ret ?_
 cases b
 exact d _ _ _ (fin1r Tryz.results159 ⟨rfl, rfl⟩ ⟨rfl, c⟩)
theorem cmp_Compare_int_ok {d f out : Int} (a : cmp_Compare_int d f = some out) (b : St w0 ros rs w) :
  Calls Tryz.prog 135 #[iV d, iV f] w (fun e w => e = .returned (iV out) ∧ St w0 ros rs w) := by
 refine enterQ Tryz.func135 rfl Tryz.ntmps135 rfl fun Q c => sR fun _ j => Ya (iV 0) rfl (wK j (sR fun _ k => Ym (iV d) e0 (bE a fun h l a => yC (yCall FN_159 (a1 e0)) (cmp_isNaN_int_ok l b) ?_)))
 rintro _ w ⟨rfl, b⟩
 refine ⟨_, rfl, ?_⟩
 refine Ya (.bool h) e0 (wK k (sR fun _ m => Ym (iV f) e0 (bE a fun g n a => yC (yCall FN_159 (a1 e0)) (cmp_isNaN_int_ok n b) ?_)))
 rintro _ w ⟨rfl, b⟩
 refine ⟨_, rfl, ?_⟩
 refine Ya (.bool g) e0 (wK m (seqQ fun R o i => sR fun _ p => Ym (.bool h) e0 (wK p (cB e0 a (fun q a => ?_) fun q a => ?_))))
 ·refine seqQ fun S r s => sR fun _ t => Ym (.bool g) e0 (wK t (cB e0 a (fun u a => ?_) fun u a => ?_))
  ·refine sR fun _ v => Ya (iV 0) rfl (wK v (wp_ret (s _ _ _ rfl (i _ _ _ rfl ?_))))
   cases a
   exact c _ _ _ (fin1r Tryz.results135 ⟨rfl, rfl⟩ ⟨rfl, b⟩)
  ·refine wp_skip (r _ _ (sR fun _ x => Ya (iV (-1)) rfl (wK x (wp_ret (i _ _ _ rfl ?_)))))
   cases a
   exact c _ _ _ (fin1r Tryz.results135 ⟨rfl, rfl⟩ ⟨rfl, b⟩)
 ·refine wp_skip (o _ _ (seqQ fun T y z => sR fun _ A => Ym (.bool g) e0 (wK A (cB e0 a (fun B a => ?_) fun B a => ?_))))
  ·refine sR fun _ C => Ya (iV 1) rfl (wK C (wp_ret (z _ _ _ rfl ?_)))
   cases a
   exact c _ _ _ (fin1r Tryz.results135 ⟨rfl, rfl⟩ ⟨rfl, b⟩)
  ·refine wp_skip (y _ _ (seqQ fun U D E => sR fun _ F => Ym (iV d) e0 (Ym (iV f) e0 (yY (ylss e0 e0) (wK F ?_)))))
   refine cIf e0 a (fun G a => ?_) fun G a => ?_
   ·refine sR fun _ H => Ya (iV (-1)) rfl (wK H (wp_ret (E _ _ _ rfl ?_)))
    cases a
    exact c _ _ _ (fin1r Tryz.results135 ⟨rfl, rfl⟩ ⟨rfl, b⟩)
   ·refine wp_skip (D _ _ (seqQ fun V I J => sR fun _ K => Ym (iV d) e0 (Ym (iV f) e0 (yY (ygtr e0 e0) (wK K ?_)))))
    refine cIf e0 a (fun L a => ?_) fun L a => ?_
    ·refine sR fun _ N => Ya (iV 1) rfl (wK N (wp_ret (J _ _ _ rfl ?_)))
     cases a
     exact c _ _ _ (fin1r Tryz.results135 ⟨rfl, rfl⟩ ⟨rfl, b⟩)
    ·refine wp_skip (I _ _ (sR fun _ O => Ya (iV 0) rfl (wK O (wp_ret ?_))))
     cases a
     exact c _ _ _ (fin1r Tryz.results135 ⟨rfl, rfl⟩ ⟨rfl, b⟩)
theorem integer_compare_ok {m u : LI} {h i : Hdr} {out : Int} (d : integer_compare m u = some out) (j : imm (rI .u32) h.v m ∈ ros) (k : imm (rI .u32) i.v u ∈ ros) (b : St w0 ros rs w) :
  Calls Tryz.prog 109 #[h.v, i.v] w (fun e w => e = .returned (iV out) ∧ St w0 ros rs w) := by
 refine enterQ Tryz.func109 rfl Tryz.ntmps109 rfl fun Q n => sR fun _ H => Ya (iV 0) rfl (wK H (seqQ fun b2 I J => sR fun _ K => Ym h.v e0 (yY (yLen SL_25 e0 b (rdI j)) (Ym i.v e0 (yY (yLen SL_25 e0 b (rdI k)) (yY (yneq e0 e0) ?_))))))
 refine wK K ?_
 rcases iteS d with ⟨o, d⟩ | ⟨o, d⟩
 ·refine condF e0 (nF (dT o)) (wp_skip (I _ _ (seqQ fun b3 L N => sR fun _ O => Ym h.v e0 (yY (yLen SL_25 e0 b (rdI j)) (yY (ysub e0 rfl) (Ya (iV (ws .i64 (m.length : Int) 1)) e0 (wK O (blockQ fun x y => bE d fun z R d => ?_))))))))
  have S : ∀ (f : FV) w, St w0 ros rs w → .inl () = z → x (.exit 0) (fr 41 f) w := by
   intro f w b ho
   subst ho
   refine y _ _ _ (L _ _ (sR fun _ T => Ya (iV 0) rfl (wK T (wp_ret ?_))))
   cases d
   exact n _ _ _ (fin1r Tryz.results109 ⟨rfl, rfl⟩ ⟨rfl, b⟩)
  have U : ∀ (p : Int) (f : FV) w, f 4 = iV p → St w0 ros rs w → .inr p = z → x .ret (fr 41 f) w := by
   intro p f w V b ho
   subst ho
   refine y _ _ _ (N _ _ _ rfl ?_)
   cases d
   exact n _ _ _ (fin1r Tryz.results109 ⟨rfl, V⟩ ⟨rfl, b⟩)
  refine loopQ (fun s a w => ∃ (g : Int) (f : FV), g = s ∧ a = fr 41 f ∧ f 0 = h.v ∧ f 1 = i.v ∧ f 5 = iV g ∧ St w0 ros rs w) R ⟨_, _, rfl, rfl, rfl, rfl, rfl, b⟩ ?_
  rintro _ _ w b4 ⟨g, f, rfl, rfl, q, r, l, b⟩ c A b5 W B
  refine seqQ fun b6 X Z => sR fun _ a0 => Ym (iV g) (eh l) (yY (ygeq e0 rfl) (wK a0 ?_))
  refine cIf e0 c (fun a1 c => ?_) fun a1 c => ?_
  ·refine wp_skip (X _ _ (seqQ fun b7 a3 a4 => blockQ fun _ C => sQ fun _ a5 => bE c fun b8 D c => bE c fun b9 E c => dR [0, 0, 3, 7, 0, 0, 48, 112, 255] [] 0 folM ?_))
   replace b := b.drew
   refine Dz [0, 1, 2, 3, 4, 5, 6, 7, 8] [] (yR rfl (m_ h.v (eh q)) (yR rfl (m_ (iV g) (eh l)) (yR rfl (yIa SL_25 e0 e0 b (rdI j) D) (yR rfl (yI O_88 e0 b (rdI j) D) (yR rfl (m_ i.v (eh r)) (yR rfl (m_ (iV g) (eh l)) (yR rfl (yIa SL_25 e0 e0 b (rdI k) E) (yR rfl (yI O_88 e0 b (rdI k) E) (yR rfl (yneq e0 e0) (Rn QSn (a5 _ _ ?_)))))))))))
   rcases iteS c with ⟨t, c⟩ | ⟨t, c⟩
   ·refine condF e0 (nF (dT t)) (wp_skip (C _ _ _ (a3 _ _ (wR (Ym (iV g) (eh l) (yY (ysub e0 rfl) (Ya (iV (ws .i64 g 1)) e0 (wN ?_))))))))
    cases c
    exact W _ _ _ rfl ⟨_, _, rfl, rfl, q, r, rfl, b⟩
   ·refine condT e0 (nT (dF t)) (sQ fun _ a6 => bE c fun c0 F c => bE c fun c1 G c => bE c fun a7 a8 c => dR [0, 0, 3, 7, 0, 0, 48, 112, 255, 511] [8, 9] 2 folM ?_)
    replace b := b.drew
    refine Dn [0, 1, 2, 3, 4, 5, 6, 7] [] [8] (yR rfl (m_ h.v (eh q)) (yR rfl (m_ (iV g) (eh l)) (yR rfl (yIa SL_25 e0 e0 b (rdI j) F) (yR rfl (yI O_88 e0 b (rdI j) F) (yR rfl (m_ i.v (eh r)) (yR rfl (m_ (iV g) (eh l)) (yR rfl (yIa SL_25 e0 e0 b (rdI k) G) (yR rfl (yI O_88 e0 b (rdI k) G) (Rn QSn ?_)))))))))
    refine Lc1 rfl ?_
    refine Lk wn (yCall FN_136 (a2 e0 e0)) (cmp_Compare_uint32_ok a8 b) ?_
    rintro _ w ⟨rfl, b⟩
    refine ⟨_, rfl, ?_⟩
    refine Dn [] [] [9] (Rn QSn ?_)
    refine Lc1 rfl ?_
    refine Ly wn (a_ (iV a7) e0) (Dz [] [] (Rn QSn (a6 _ _ (wp_ret (C _ _ _ (a4 _ _ _ rfl ?_))))))
    cases c
    exact B _ _ _ _ rfl rfl (U _ _ _ rfl b (A _ rfl))
  ·refine wp_exit (Z _ _ _ rfl ?_)
   cases c
   exact B _ _ _ _ rfl rfl (S _ _ b (A _ rfl))
 ·refine condT e0 (nT (dF o)) (sR fun _ a9 => Ym h.v e0 (yY (yLen SL_25 e0 b (rdI j)) (Ym i.v e0 (yY (yLen SL_25 e0 b (rdI k)) (bE d fun b0 b1 d => yC (yCall FN_135 (a2 e0 e0)) (cmp_Compare_int_ok b1 b) ?_)))))
  rintro _ w ⟨rfl, b⟩
  refine ⟨_, rfl, ?_⟩
  refine Ya (iV b0) e0 (wK a9 (wp_ret (J _ _ _ rfl ?_)))
  cases d
  exact n _ _ _ (fin1r Tryz.results109 ⟨rfl, rfl⟩ ⟨rfl, b⟩)
theorem slices_Clone_uint32_ok {f : LI} {c : Hdr} {out : LI} (b : slices_Clone_uint32 f = some out) (g : imm (rI .u32) c.v f ∈ ros) (a : St w0 ros rs w) :
  Calls Tryz.prog 75 #[c.v] w (fun e w => ∃ (h : Hdr), e = .returned (h.v) ∧ St w0 ros (row 88 (rI .u32) h.v out :: rs) w) := by
 refine enterQ Tryz.func75 rfl Tryz.ntmps75 rfl fun Q i => sR fun _ j => Ya hnil.v rfl (wK j (seqQ fun t k m => sR fun _ o => Ym c.v e0 (yY (yenil SL_25 e0 rfl) (wK o ?_))))
 rcases nilS c with d | d
 ·refine condT e0 d ?_
  obtain rfl := nilE d g a
  replace b := nilM b
  refine sR fun _ p => Ya hnil.v rfl (wK p (wp_ret (m _ _ _ rfl ?_)))
  cases b
  replace a := a.rowNh 88 (rI .u32)
  exact i _ _ _ (fin1r Tryz.results75 ⟨rfl, rfl⟩ ⟨_, rfl, a⟩)
 ·refine condF e0 d (wp_skip (k _ _ (sR fun _ q => yH (rLt (n := 0) (l := []) a SL_25 [] bp0 rfl rfl mks0) fun u w a => Ym c.v e0 (bE b fun x r b => yH (rAp a SL_25 e0 e0 (rdI g) r) fun s w a => Ya s.v e0 (wK q ?_)))))
  refine wp_ret ?_
  cases b
  exact i _ _ _ (fin1r Tryz.results75 ⟨rfl, rfl⟩ ⟨_, rfl, a⟩)
theorem integer_short_ok {o : LI} {k : Int} {j : Hdr} {out : LI × Int} (g : integer_short o k = some out) (m : imm (rI .u32) j.v o ∈ ros) (b : St w0 ros rs w) :
  Calls Tryz.prog 98 #[j.v, .int .u32 k] w (fun e w => ∃ (x : Hdr), e = .returned (.tuple #[x.v, .int .u32 out.2]) ∧ St w0 (imm (rI .u32) x.v out.1 :: ros) rs w) := by
 refine enterQ Tryz.func98 rfl Tryz.ntmps98 rfl fun Q C => sR fun _ D => Ya hnil.v rfl (Ya (.int .u32 0) rfl (wK D (sR fun _ E => Ym j.v e0 (yY (yLen SL_25 e0 b (rdI m)) (bE g fun b3 F g => yH (rMk b SL_25 e0 F) fun h w b => ?_)))))
 refine Ya h.v e0 (wK E (sR fun _ G => Ya (.int .u64 0) rfl (wK G (sQ fun _ H => sR fun _ I => Ym j.v e0 (yY (yLen SL_25 e0 b (rdI m)) (yY (ysub e0 rfl) ?_))))))
 refine Ya (iV (ws .i64 (o.length : Int) 1)) e0 (wK I (blockQ fun J K => bE g fun L N g => ?_))
 have O : ∀ (p : LI) (l : Int) (f : FV) w, f 6 = h.v → f 7 = .int .u64 l → St w0 ros (row 88 (rI .u32) h.v p :: rs) w → (p, l) = L → J (.exit 0) (fr 44 f) w := by
  intro p l f w R S b ho
  subst ho
  refine K _ _ _ (H _ _ (sR fun _ T => Ym h.v (eh R) (bE g fun b4 U g => ?_)))
  replace b := b.fz
  refine yC (yCall FN_77 (a1 e0)) (integer_trim_ok U F0 b) ?_
  rintro _ w ⟨V, rfl, b⟩
  refine ⟨_, rfl, ?_⟩
  refine Ym (.int .u64 l) (eh S) (yY (ycv (k' := .u32) (by kernel_rfl) (by kernel_rfl) e0) (Ya V.v e0 (Ya (.int .u32 (wc .u32 l)) e0 (wK T (wp_ret ?_)))))
  cases g
  exact C _ _ _ (fin2r Tryz.results98 ⟨rfl, rfl⟩ ⟨rfl, rfl⟩ ⟨_, rfl, (b.facts (allC F0 (allT (allT allI))))⟩)
 refine loopQ (fun s a w => ∃ (q : LI) (i d : Int) (f : FV), (q, i, d) = s ∧ a = fr 44 f ∧ f 0 = j.v ∧ f 1 = .int .u32 k ∧ f 6 = h.v ∧ f 7 = .int .u64 i ∧ f 8 = iV d ∧ St w0 ros (row 88 (rI .u32) h.v q :: rs) w) N ⟨_, _, _, _, rfl, rfl, rfl, rfl, rfl, rfl, rfl, b⟩ ?_
 rintro _ _ w b5 ⟨q, i, d, f, rfl, rfl, y, r, t, z, n, b⟩ c W b6 X Z
 refine seqQ fun b7 a0 a2 => sR fun _ a3 => Ym (iV d) (eh n) (yY (ygeq e0 rfl) (wK a3 ?_))
 refine cIf e0 c (fun a4 c => ?_) fun a4 c => ?_
 ·refine wp_skip (a0 _ _ (sQ fun _ a5 => blockQ fun _ a6 => sR fun _ a7 => Ym (.int .u64 i) (eh z) (yY (yshlc e0 rfl) (Ym j.v (eh y) (Ym (iV d) (eh n) (bE c fun u A c => yY (yIa SL_25 e0 e0 b (rdI m) A) (yY (yI O_88 e0 b (rdI m) A) (yY (ycv (k' := .u64) (by kernel_rfl) (by kernel_rfl) e0) ?_))))))))
  refine yY (yor e0 e0) (Ya (.int .u64 (wor .u64 (wslc .u64 i 32) (wc .u64 u))) e0 (wK a7 (sR fun _ a8 => Ym h.v (eh t) (Ym (iV d) (eh n) (Ym (.int .u64 (wor .u64 (wslc .u64 i 32) (wc .u64 u))) e0 (Ym (.int .u32 k) (eh r) (yY (ycv (k' := .u64) (by kernel_rfl) (by kernel_rfl) e0) (bE c fun a9 b0 c => yY (yquo e0 e0 b0) (yY (ycv (k' := .u32) (by kernel_rfl) (by kernel_rfl) e0) ?_)))))))))
  refine bE c fun b8 B c => yY (yIs SL_25 e0 e0 b rO0 B) (yT (r_sti (cs := [.int .u32 (wc .u32 a9)]) b O_88 rfl e0 e0 rfl mkI B) fun w b => wK a8 (wR (Ym (.int .u64 (wor .u64 (wslc .u64 i 32) (wc .u64 u))) e0 (Ym (.int .u32 k) (eh r) (yY (ycv (k' := .u64) (by kernel_rfl) (by kernel_rfl) e0) (bE c fun b1 b2 c => yY (yrem e0 e0 b2) (Ya (.int .u64 b1) e0 (wN ?_))))))))
  refine a6 _ _ _ (a5 _ _ (wR (Ym (iV d) (eh n) (yY (ysub e0 rfl) (Ya (iV (ws .i64 d 1)) e0 (wN ?_))))))
  cases c
  exact X _ _ _ rfl ⟨_, _, _, _, rfl, rfl, y, r, t, rfl, rfl, b⟩
 ·refine wp_exit (a2 _ _ _ rfl ?_)
  cases c
  exact Z _ _ _ _ rfl rfl (O _ _ _ _ t z b (W _ rfl))
theorem math_bits_Len32_ok {d out : Int} (a : math_bits_Len32 d = some out) (b : St w0 ros rs w) :
  Calls Tryz.prog 157 #[.int .u32 d] w (fun e w => e = .returned (iV out) ∧ St w0 ros rs w) := by
 refine enterQ Tryz.func157 rfl Tryz.ntmps157 rfl fun Q n => sR fun _ o => Ya (iV 0) rfl (wK o (sQ fun p q => sR fun _ r => Ym (.int .u32 d) e0 (yY (ygeq e0 rfl) (wK r ?_))))
 have k : ∀ (c g : Int) (f : FV) w, f 0 = .int .u32 c → f 2 = iV g → St w0 ros rs w → math_bits_Len32_j1 c g = some out → p .normal (fr 19 f) w := by
  intro c g f w j l b a
  refine q _ _ (sQ fun s t => sR fun _ u => Ym (.int .u32 c) (eh j) (yY (ygeq e0 rfl) (wK u ?_)))
  have m : ∀ (i h : Int) (f : FV) w, f 0 = .int .u32 i → f 2 = iV h → St w0 ros rs w → math_bits_Len32_j2 i h = some out → s .normal (fr 19 f) w := by
   intro i h f w v x b a
   refine t _ _ (sR fun _ y => Ym (iV h) (eh x) (Ym (.int .u32 i) (eh v) (yY (ycv (k' := .u8) (by kernel_rfl) (by kernel_rfl) e0) (bE a fun z A a => yY (yixs (by kernel_rfl) rfl e0 (by kernel_rfl) A) (yY (ycv (k' := .i64) (by kernel_rfl) (by kernel_rfl) e0) (yY (yadd e0 e0) (Ya (iV (wa .i64 h (wc .i64 z))) e0 (wK y (wp_ret ?_)))))))))
   cases a
   exact n _ _ _ (fin1r Tryz.results157 ⟨rfl, rfl⟩ ⟨rfl, b⟩)
  refine cIf e0 a (fun B a => ?_) fun B a => ?_
  ·exact sR fun _ C => Ym (.int .u32 c) (eh j) (yY (yshrc e0 rfl) (Ya (.int .u32 (wsrc .u32 c 8)) e0 (wK C (wR (Ym (iV g) (eh l) (yY (yadd e0 rfl) (Ya (iV (wa .i64 g 8)) e0 (wN (m _ _ _ _ rfl rfl b a)))))))))
  ·exact wp_skip (m _ _ _ _ j l b a)
 refine cIf e0 a (fun D a => ?_) fun D a => ?_
 ·exact sR fun _ E => Ym (.int .u32 d) e0 (yY (yshrc e0 rfl) (Ya (.int .u32 (wsrc .u32 d 16)) e0 (wK E (wR (Ya (iV 16) rfl (wN (k _ _ _ _ rfl rfl b a)))))))
 ·exact wp_skip (k _ _ _ _ rfl rfl b a)
theorem math_bits_LeadingZeros32_ok {a out : Int} (b : math_bits_LeadingZeros32 a = some out) (c : St w0 ros rs w) :
  Calls Tryz.prog 137 #[.int .u32 a] w (fun e w => e = .returned (iV out) ∧ St w0 ros rs w) := by
 refine enterQ Tryz.func137 rfl Tryz.ntmps137 rfl fun Q d => sR fun _ f => Ya (iV 0) rfl (wK f (sR fun _ g => Ym (.int .u32 a) e0 (bE b fun h i b => yC (yCall FN_157 (a1 e0)) (math_bits_Len32_ok i c) ?_)))
 rintro _ w ⟨rfl, c⟩
 refine ⟨_, rfl, ?_⟩
 refine yY (ysub rfl e0) (Ya (iV (ws .i64 32 h)) e0 (wK g (wp_ret ?_)))
 cases b
 exact d _ _ _ (fin1r Tryz.results137 ⟨rfl, rfl⟩ ⟨rfl, c⟩)
end Go.Proofs.YtnfamnfdndaekaaGreatDoor
