/- Walks: each function computes its model, printed. -/
import Derived.Test.YtnfamnfdndaekaaGreatDoorW1
namespace Go.Proofs.YtnfamnfdndaekaaGreatDoor
open Go Sx M
set_option maxRecDepth 100000
set_option maxHeartbeats 40000000
set_option linter.unusedVariables false
attribute [local irreducible] wpList Code.wp Calls DR QR QS LA LS St
variable {w0 : World} {ros : List Fact} {rs : List Res} {w : World}
theorem modular_Combine_1_ok {a : Int} {out : Bool} (b : modular_Combine_1 a = some out) (c : St w0 ros rs w) :
  Calls Tryz.prog 58 #[iV a] w (fun e w => e = .returned (.bool out) ∧ St w0 ros rs w) := by
 refine enterQ Tryz.func58 rfl Tryz.ntmps58 rfl fun Q d => sR fun _ f => Ya (.bool false) rfl (wK f (sR fun _ g => Ym (iV a) e0 (bE b fun h i b => yC (yCall FN_24 (a1 e0)) (modular_IsPrime_ok i c) ?_)))
 rintro _ w ⟨rfl, c⟩
 refine ⟨_, rfl, ?_⟩
 refine yY (ynot e0) (Ya (.bool (!h)) e0 (wK g (wp_ret ?_)))
 cases b
 exact d _ _ _ (fin1r Tryz.results58 ⟨rfl, rfl⟩ ⟨rfl, c⟩)
theorem slices_IndexFunc_int_ok {i : LI} {g : Hdr} {out : Int} (h : slices_IndexFunc_int i = some out) (j : imm I1 g.v i ∈ ros) (b : St w0 ros rs w) :
  Calls Tryz.prog 103 #[g.v, .func (.func 58) #[] #[]] w (fun e w => e = .returned (iV out) ∧ St w0 ros rs w) := by
 refine enterQ Tryz.func103 rfl Tryz.ntmps103 rfl fun Q m => sR fun _ A => Ya (iV 0) rfl (wK A (seqQ fun Z B C => sR fun _ D => Ym g.v e0 (yY (yLen SL_22 e0 b (rdI j)) (Ym (iV 0) rfl (wK D ?_)))))
 refine blockQ fun n o => bE h fun p E h => ?_
 have F : ∀ (f : FV) w, St w0 ros rs w → .inl () = p → n (.exit 0) (fr 19 f) w := by
  intro f w b ho
  subst ho
  refine o _ _ _ (B _ _ (sR fun _ G => Ya (iV (-1)) rfl (wK G (wp_ret ?_))))
  cases h
  exact m _ _ _ (fin1r Tryz.results103 ⟨rfl, rfl⟩ ⟨rfl, b⟩)
 have H : ∀ (k : Int) (f : FV) w, f 4 = iV k → St w0 ros rs w → .inr k = p → n .ret (fr 19 f) w := by
  intro k f w I b ho
  subst ho
  refine o _ _ _ (C _ _ _ rfl ?_)
  cases h
  exact m _ _ _ (fin1r Tryz.results103 ⟨rfl, I⟩ ⟨rfl, b⟩)
 refine loopQ (fun s a w => ∃ (d : Int) (f : FV), d = s ∧ a = fr 19 f ∧ f 0 = g.v ∧ f 1 = .func (.func 58) #[] #[] ∧ f 7 = iV (i.length : Int) ∧ f 8 = iV d ∧ St w0 ros rs w) E ⟨_, _, rfl, rfl, rfl, rfl, rfl, rfl, b⟩ ?_
 rintro _ _ w a0 ⟨d, f, rfl, rfl, q, r, t, l, b⟩ c u a2 J x
 refine sR fun _ K => yY (ylss (eh l) (eh t)) (wK K (seqQ fun a3 L N => ?_))
 refine cIf e0 c (fun O c => ?_) fun O c => ?_
 ·refine wp_skip (L _ _ (seqQ fun a4 R S => blockQ fun _ y => sR fun _ T => Ym (iV d) (eh l) (Ya (iV d) e0 (wK T (sR fun _ U => Ym (.func (.func 58) #[] #[]) (eh r) (Ym g.v (eh q) ?_))))))
  refine Ym (iV d) e0 (bE c fun a5 z c => yY (yIa SL_22 e0 e0 b (rdI j) z) (yY (yI O_3 e0 b (rdI j) z) (bE c fun a6 V c => yC (yCallw FN_58 e0 (a1 e0)) (modular_Combine_1_ok V b) ?_)))
  rintro _ w ⟨rfl, b⟩
  refine ⟨_, rfl, ?_⟩
  refine wK U (cB e0 c (fun W c => ?_) fun W c => ?_)
  ·refine sR fun _ X => Ym (iV d) e0 (Ya (iV d) e0 (wK X (wp_ret (y _ _ _ (S _ _ _ rfl ?_)))))
   cases c
   exact x _ _ _ _ rfl rfl (H _ _ _ rfl b (u _ rfl))
  ·refine wp_skip (y _ _ _ (R _ _ (wR (yY (yadd (eh l) rfl) (Ym (iV (wa .i64 d 1)) e0 (wN ?_))))))
   cases c
   exact J _ _ _ rfl ⟨_, _, rfl, rfl, q, r, t, rfl, b⟩
 ·refine wp_exit (N _ _ _ rfl ?_)
  cases c
  exact x _ _ _ _ rfl rfl (F _ _ b (u _ rfl))
theorem slices_ContainsFunc_int_ok {d : LI} {a : Hdr} {out : Bool} (b : slices_ContainsFunc_int d = some out) (f : imm I1 a.v d ∈ ros) (c : St w0 ros rs w) :
  Calls Tryz.prog 57 #[a.v, .func (.func 58) #[] #[]] w (fun e w => e = .returned (.bool out) ∧ St w0 ros rs w) := by
 refine enterQ Tryz.func57 rfl Tryz.ntmps57 rfl fun Q g => sR fun _ h => Ya (.bool false) rfl (wK h (sR fun _ i => Ym a.v e0 (Ym (.func (.func 58) #[] #[]) e0 (bE b fun j k b => yC (yCall FN_103 (a2 e0 e0)) (slices_IndexFunc_int_ok k f c) ?_))))
 rintro _ w ⟨rfl, c⟩
 refine ⟨_, rfl, ?_⟩
 refine yY (ygeq e0 rfl) (Ya (.bool (decide ((0 : Int) ≤ j))) e0 (wK i (wp_ret ?_)))
 cases b
 exact g _ _ _ (fin1r Tryz.results57 ⟨rfl, rfl⟩ ⟨rfl, c⟩)
theorem slices_Values_int_ok {c : LI} {a : Hdr} {out : Unit} (g : slices_Values_int c = some out) (k : imm I1 a.v c ∈ ros) (b : St w0 ros rs w) :
  Calls Tryz.prog 60 #[a.v] w (fun e w => ∃ (d : Nat), e = .returned (.func (.func 106) #[] #[(pB d)]) ∧ St w0 ros (box d 22 [a.v] :: rs) w) := by
 refine enterQ Tryz.func60 rfl Tryz.ntmps60 rfl fun Q h => sR fun _ i => yBb (r_box (vals := [a.v]) b e0 rfl) fun f w b => Ya .nilFunc rfl (wK i (sR fun _ j => yY (ymf (vf := #[]) (vc := #[(pB f)]) a0 (a1 e0)) (Ya (.func (.func 106) #[] #[(pB f)]) e0 (wK j ?_))))
 refine wp_ret ?_
 cases g
 exact h _ _ _ (fin1r Tryz.results60 ⟨rfl, rfl⟩ ⟨_, rfl, b⟩)
theorem slices_Collect_int_ok {f : LI} {a : Nat} {b : Hdr} {out : LI} (c : slices_Collect_int f = some out) (h : imm I1 b.v f ∈ ros) (d : St w0 ros (box a 22 [b.v] :: rs) w) :
  Calls Tryz.prog 104 #[.func (.func 106) #[] #[(pB a)]] w (fun e w => ∃ (g : Hdr), e = .returned (g.v) ∧ St w0 ros (box a 22 [b.v] :: row 3 I1 g.v out :: rs) w) := by
 refine enterQ Tryz.func104 rfl Tryz.ntmps104 rfl fun Q i => sR fun _ j => Ya hnil.v rfl (wK j (sR fun _ k => Ym (.func (.func 106) #[] #[(pB a)]) e0 (bE c fun n l c => yC (yCall FN_132 (a2 rfl e0)) (colV_ok l h d) ?_)))
 rintro _ w ⟨m, rfl, d⟩
 refine ⟨_, rfl, ?_⟩
 refine Ya m.v e0 (wK k (wp_ret ?_))
 cases c
 exact i _ _ _ (fin1r Tryz.results104 ⟨rfl, rfl⟩ ⟨_, rfl, (d.k11)⟩)
theorem slices_Sorted_int_ok {g : LI} {c : Nat} {f : Hdr} {out : LI} (b : slices_Sorted_int g = some out) (i : imm I1 f.v g ∈ ros) (a : St w0 ros (box c 22 [f.v] :: rs) w) :
  Calls Tryz.prog 59 #[.func (.func 106) #[] #[(pB c)]] w (fun e w => ∃ (h : Hdr), e = .returned (h.v) ∧ St w0 ros (box c 22 [f.v] :: row 3 I1 h.v out :: rs) w) := by
 refine enterQ Tryz.func59 rfl Tryz.ntmps59 rfl fun Q j => sR fun _ k => Ya hnil.v rfl (wK k (sR fun _ l => Ym (.func (.func 106) #[] #[(pB c)]) e0 (bE b fun q m b => yC (yCall FN_104 (a1 e0)) (slices_Collect_int_ok m i a) ?_)))
 rintro _ w ⟨d, rfl, a⟩
 refine ⟨_, rfl, ?_⟩
 refine Ya d.v e0 (wK l (sR fun _ n => Ym d.v e0 (bE b fun r o b => ?_)))
 replace a := a.k11
 refine yC (yCall FN_105 (a1 e0)) (sortI_ok o a) ?_
 rintro _ w ⟨rfl, a⟩
 refine ⟨_, rfl, ?_⟩
 refine wK n (sR fun _ p => Ym d.v e0 (Ya d.v e0 (wK p (wp_ret ?_))))
 cases b
 exact j _ _ _ (fin1r Tryz.results59 ⟨rfl, rfl⟩ ⟨_, rfl, (a.k11)⟩)
theorem modular_mod_ok {h b out : Int} (a : modular_mod h b = some out) (d : St w0 ros rs w) :
  Calls Tryz.prog 62 #[iV h, iV b] w (fun e w => e = .returned (iV out) ∧ St w0 ros rs w) := by
 refine enterQ Tryz.func62 rfl Tryz.ntmps62 rfl fun Q j => sR fun _ k => Ya (iV 0) rfl (wK k (sR fun _ l => Ym (iV h) e0 (Ym (iV b) e0 (bE a fun g m a => yY (yrem e0 e0 m) (Ya (iV g) e0 (wN ?_))))))
 refine l _ _ (sQ fun n o => sR fun _ p => Ym (iV g) e0 (yY (ylss e0 rfl) (wK p ?_)))
 have i : ∀ (c : Int) (f : FV) w, f 5 = iV c → St w0 ros rs w → modular_mod_j1 c = some out → n .normal (fr 15 f) w := by
  intro c f w q d a
  refine o _ _ (sR fun _ r => Ym (iV c) (eh q) (Ya (iV c) e0 (wK r (wp_ret ?_))))
  cases a
  exact j _ _ _ (fin1r Tryz.results62 ⟨rfl, rfl⟩ ⟨rfl, d⟩)
 refine cIf e0 a (fun s a => ?_) fun s a => ?_
 ·exact wR (Ym (iV g) e0 (Ym (iV b) e0 (yY (yadd e0 e0) (Ya (iV (wa .i64 g b)) e0 (wN (i _ _ _ rfl d a))))))
 ·exact wp_skip (i _ _ _ rfl d a)
theorem modular_raise_ok {q r h out : Int} (i : modular_raise q r h = some out) (c : St w0 ros rs w) :
  Calls Tryz.prog 78 #[iV q, iV r, iV h] w (fun e w => e = .returned (iV out) ∧ St w0 ros rs w) := by
 refine enterQ Tryz.func78 rfl Tryz.ntmps78 rfl fun Q x => sR fun _ y => Ya (iV 0) rfl (wK y (sR fun _ z => Ya (iV 1) rfl (wK z (sQ fun _ A => blockQ fun B C => bE i fun D E i => ?_))))
 have F : ∀ (j : Int) (f : FV) w, f 7 = iV j → St w0 ros rs w → j = D → B (.exit 0) (fr 26 f) w := by
  intro j f w G c ho
  subst ho
  refine C _ _ _ (A _ _ (sR fun _ H => Ym (iV j) (eh G) (Ya (iV j) e0 (wK H (wp_ret ?_)))))
  cases i
  exact x _ _ _ (fin1r Tryz.results78 ⟨rfl, rfl⟩ ⟨rfl, c⟩)
 refine loopQ (fun s a w => ∃ (g d k : Int) (f : FV), (g, d, k) = s ∧ a = fr 26 f ∧ f 0 = iV g ∧ f 1 = iV d ∧ f 2 = iV h ∧ f 7 = iV k ∧ St w0 ros rs w) E ⟨_, _, _, _, rfl, rfl, rfl, rfl, rfl, rfl, c⟩ ?_
 rintro _ _ w I ⟨g, d, k, f, rfl, rfl, m, l, n, o, c⟩ b J a6 K L
 refine seqQ fun a7 N O => sR fun _ R => Ym (iV d) (eh l) (yY (ygtr e0 rfl) (wK R ?_))
 refine cIf e0 b (fun S b => ?_) fun S b => ?_
 ·refine wp_skip (N _ _ (sQ fun _ T => blockQ fun _ U => sQ fun V W => sR fun _ X => Ym (iV d) (eh l) (yY (yremc e0 rfl (by decide)) (yY (yeql e0 rfl) (wK X ?_)))))
  have t : ∀ (p : Int) (f : FV) w, f 0 = iV g → f 1 = iV d → f 2 = iV h → f 7 = iV p → St w0 ros rs w → modular_raise_j4 g h d p = some I → V .normal (fr 26 f) w := by
   intro p f w u Z v a0 c i
   refine W _ _ (wR (Ym (iV g) (eh u) (Ym (iV g) (eh u) (yY (ymul e0 e0) (Ym (iV h) (eh v) (bE i fun a1 a2 i => yY (yrem e0 e0 a2) (Ya (iV a1) e0 (wN (U _ _ _ (T _ _ (wR (Ym (iV d) (eh Z) ?_))))))))))))
   refine yY (yquoc e0 rfl (by decide)) (Ya (iV (wqc .i64 d 2)) e0 (wN ?_))
   cases i
   exact K _ _ _ rfl ⟨_, _, _, _, rfl, rfl, rfl, rfl, v, a0, c⟩
  refine cIf e0 b (fun a3 b => ?_) fun a3 b => ?_
  ·exact wR (Ym (iV k) (eh o) (Ym (iV g) (eh m) (yY (ymul e0 e0) (Ym (iV h) (eh n) (bE b fun a4 a5 b => yY (yrem e0 e0 a5) (Ya (iV a4) e0 (wN (t _ _ _ m l n rfl c b))))))))
  ·exact wp_skip (t _ _ _ m l n o c b)
 ·refine wp_exit (O _ _ _ rfl ?_)
  cases b
  exact L _ _ _ _ rfl rfl (F _ _ _ o c (J _ rfl))
theorem modular_inverse_ok {b a out : Int} (c : modular_inverse b a = some out) (d : St w0 ros rs w) :
  Calls Tryz.prog 64 #[iV b, iV a] w (fun e w => e = .returned (iV out) ∧ St w0 ros rs w) := by
 refine enterQ Tryz.func64 rfl Tryz.ntmps64 rfl fun Q f => sR fun _ g => Ya (iV 0) rfl (wK g (sR fun _ h => Ym (iV b) e0 (Ym (iV a) e0 (yY (ysub e0 rfl) (Ym (iV a) e0 (bE c fun i j c => yC (yCall FN_78 (a3 e0 e0 e0)) (modular_raise_ok j d) ?_))))))
 rintro _ w ⟨rfl, d⟩
 refine ⟨_, rfl, ?_⟩
 refine Ya (iV i) e0 (wK h (wp_ret ?_))
 cases c
 exact f _ _ _ (fin1r Tryz.results64 ⟨rfl, rfl⟩ ⟨rfl, d⟩)
theorem integer_times_ok {n t : LI} {l g : Hdr} {out : LI} (h : integer_times n t = some out) (u : imm (rI .u32) l.v n ∈ ros) (r : imm (rI .u32) g.v t ∈ ros) (b : St w0 ros rs w) :
  Calls Tryz.prog 76 #[l.v, g.v] w (fun e w => ∃ (I : Hdr), e = .returned (I.v) ∧ St w0 (imm (rI .u32) I.v out :: ros) rs w) := by
 refine enterQ Tryz.func76 rfl Tryz.ntmps76 rfl fun Q J => sR fun _ a9 => Ya hnil.v rfl (wK a9 (seqQ fun g7 b0 b1 => sR fun _ b2 => Ym l.v e0 (yY (yLen SL_25 e0 b (rdI u)) (yY (yeql e0 rfl) (Ym (.bool (decide ((n.length : Int) = 0))) e0 ?_)))))
 refine joinW 4 (fun f w => f 0 = l.v ∧ f 1 = g.v ∧ f 19 = .bool ((decide ((n.length : Int) = 0)) || (decide ((t.length : Int) = 0))) ∧ St w0 ros rs w) (fun K => ?_) ?_
 ·rcases Bool.eq_false_or_eq_true (decide ((n.length : Int) = 0)) with i | i
  ·exact gN i (gN i (gN i (yY (pt_ (.bool true) e0 i rfl) (K _ _ ⟨rfl, rfl, (congrArg Value.bool (orT i)), b⟩))))
  ·exact yG i (m_ g.v e0) (yG i (yLen SL_25 e0 b (rdI r)) (yG i (yeql e0 rfl) (yY (pf_ (.bool (decide ((t.length : Int) = 0))) e0 i e0) (K _ _ ⟨rfl, rfl, (congrArg Value.bool (orF i)), b⟩))))
 rintro f w ⟨L, x, b3, b⟩
 refine wK b2 (cB (eh b3) h (fun b4 h => ?_) fun b4 h => ?_)
 ·refine sR fun _ b5 => Ya hnil.v rfl (wK b5 (wp_ret (b1 _ _ _ rfl ?_)))
  cases h
  replace b := b.immNh (rI .u32)
  exact J _ _ _ (fin1r Tryz.results76 ⟨rfl, rfl⟩ ⟨_, rfl, b⟩)
 ·refine wp_skip (b0 _ _ (sR fun _ b6 => Ym l.v (eh L) (yY (yLen SL_25 e0 b (rdI u)) (Ym g.v (eh x) (yY (yLen SL_25 e0 b (rdI r)) (yY (yadd e0 e0) (bE h fun g8 b7 h => yH (rMk b SL_25 e0 b7) fun c w b => Ya c.v e0 (wN ?_))))))))
  refine b6 _ _ (sQ fun _ b8 => sR fun _ b9 => Ym l.v (eh L) (yY (yLen SL_25 e0 b (rdI u)) (Ym (iV 0) rfl (wK b9 (blockQ fun c0 c1 => bE h fun c2 c3 h => ?_)))))
  have c4 : ∀ (E : LI) (f : FV) w, f 5 = c.v → St w0 ros (row 88 (rI .u32) c.v E :: rs) w → E = c2 → c0 (.exit 0) (fr 77 f) w := by
   intro E f w c5 b ho
   subst ho
   refine c1 _ _ _ (b8 _ _ (sR fun _ c8 => Ym c.v (eh c5) (bE h fun g9 c9 h => ?_)))
   replace b := b.fz
   refine yC (yCall FN_77 (a1 e0)) (integer_trim_ok c9 F0 b) ?_
   rintro _ w ⟨d0, rfl, b⟩
   refine ⟨_, rfl, ?_⟩
   refine Ya d0.v e0 (wK c8 (wp_ret ?_))
   cases h
   exact J _ _ _ (fin1r Tryz.results76 ⟨rfl, rfl⟩ ⟨_, rfl, (b.facts (allC F0 (allT (allT allI))))⟩)
  refine loopQ (fun s a w => ∃ (F : LI) (d : Int) (f : FV), (F, d) = s ∧ a = fr 77 f ∧ f 1 = g.v ∧ f 5 = c.v ∧ f 26 = l.v ∧ f 27 = iV (n.length : Int) ∧ f 28 = iV d ∧ St w0 ros (row 88 (rI .u32) c.v F :: rs) w) c3 ⟨_, _, _, rfl, rfl, x, rfl, rfl, rfl, rfl, b⟩ ?_
  rintro _ _ w h0 ⟨F, d, f, rfl, rfl, N, O, R, S, A, b⟩ j d1 h1 d2 d3
  refine sR fun _ d4 => yY (ylss (eh A) (eh S)) (wK d4 (seqQ fun h3 d5 d6 => ?_))
  refine cIf e0 j (fun d7 j => ?_) fun d7 j => ?_
  ·refine wp_skip (d5 _ _ (sQ fun _ d8 => blockQ fun _ d9 => sR fun _ e1 => Ym (iV d) (eh A) (bE j fun o T j => yY (yIa SL_25 (eh R) (eh A) b (rdI u) T) (yY (yI O_88 e0 b (rdI u) T) (Ya (iV d) e0 (Ya (.int .u32 o) e0 (wK e1 ?_)))))))
   refine sR fun _ e2 => Ya (.int .u64 0) rfl (wK e2 (sQ fun _ e3 => sR fun _ e4 => Ym g.v (eh N) (yY (yLen SL_25 e0 b (rdI r)) (Ym (iV 0) rfl (wK e4 (blockQ fun e5 e6 => ?_))))))
   refine bE j fun e7 e8 j => ?_
   have e9 : ∀ (G : LI) (y : Int) (f : FV) w, f 1 = g.v → f 5 = c.v → f 6 = iV d → f 8 = .int .u64 y → f 26 = l.v → f 27 = iV (n.length : Int) → f 28 = iV d → St w0 ros (row 88 (rI .u32) c.v G :: rs) w → (G, y) = e7 → e5 (.exit 2) (fr 77 f) w := by
    intro G y f w U V f0 f1 f2 f3 f4 b ho
    subst ho
    refine e6 _ _ _ (e3 _ _ (wR (Ym c.v (eh V) (Ym (iV d) (eh f0) (Ym g.v (eh U) (yY (yLen SL_25 e0 b (rdI r)) (yY (yadd e0 e0) (Ym (.int .u64 y) (eh f1) (yY (ycv (k' := .u32) (by kernel_rfl) (by kernel_rfl) e0) (bE j fun h5 W j => yY (yIs SL_25 e0 e0 b rO0 W) (yT (r_sti (cs := [.int .u32 (wc .u32 y)]) b O_88 rfl e0 e0 rfl mkI W) fun w b => ?_)))))))))))
    refine wN (d9 _ _ _ (d8 _ _ (wR (yY (yadd (eh f4) rfl) (Ym (iV (wa .i64 d 1)) e0 (wN ?_))))))
    cases j
    exact d2 _ _ _ rfl ⟨_, _, _, rfl, rfl, U, V, f2, f3, rfl, b⟩
   refine loopQ (fun s a w => ∃ (H : LI) (m p : Int) (f : FV), (H, m, p) = s ∧ a = fr 77 f ∧ f 1 = g.v ∧ f 5 = c.v ∧ f 6 = iV d ∧ f 7 = .int .u32 o ∧ f 8 = .int .u64 m ∧ f 26 = l.v ∧ f 27 = iV (n.length : Int) ∧ f 28 = iV d ∧ f 33 = g.v ∧ f 34 = iV (t.length : Int) ∧ f 35 = iV p ∧ St w0 ros (row 88 (rI .u32) c.v H :: rs) w) e8 ⟨_, _, _, _, rfl, rfl, N, O, rfl, rfl, rfl, R, S, A, rfl, rfl, rfl, b⟩ ?_
   rintro _ _ w h6 ⟨H, m, p, f, rfl, rfl, x, B, C, X, Z, a0, a2, a3, a4, a5, D, b⟩ k f5 h7 f6 f7
   refine sR fun _ f8 => yY (ylss (eh D) (eh a5)) (wK f8 (seqQ fun h9 f9 g0 => ?_))
   refine cIf e0 k (fun g1 k => ?_) fun g1 k => ?_
   ·refine wp_skip (f9 _ _ (sQ fun _ g2 => blockQ fun _ g3 => sR fun _ g4 => Ym (iV p) (eh D) (bE k fun q a6 k => yY (yIa SL_25 (eh a4) (eh D) b (rdI r) a6) (yY (yI O_88 e0 b (rdI r) a6) (Ya (iV p) e0 (Ya (.int .u32 q) e0 (wK g4 ?_)))))))
    refine sR fun _ g5 => Ym (.int .u32 o) (eh X) (yY (ycv (k' := .u64) (by kernel_rfl) (by kernel_rfl) e0) (Ym (.int .u32 q) e0 (yY (ycv (k' := .u64) (by kernel_rfl) (by kernel_rfl) e0) (yY (ymul e0 e0) (Ym c.v (eh B) (Ym (iV d) (eh C) (Ym (iV p) e0 (yY (yadd e0 e0) (bE k fun z a7 k => yY (yIa SL_25 e0 e0 b rO0 a7) (yY (yI O_88 e0 b rO0 a7) ?_))))))))))
    refine yY (ycv (k' := .u64) (by kernel_rfl) (by kernel_rfl) e0) (yY (yadd e0 e0) (Ym (.int .u64 m) (eh Z) (yY (yadd e0 e0) (Ya (.int .u64 (wa .u64 (wa .u64 (wm .u64 (wc .u64 o) (wc .u64 q)) (wc .u64 z)) m)) e0 (wK g5 (sR fun _ g6 => Ym c.v (eh B) (Ym (iV d) (eh C) (Ym (iV p) e0 (yY (yadd e0 e0) (Ym (.int .u64 (wa .u64 (wa .u64 (wm .u64 (wc .u64 o) (wc .u64 q)) (wc .u64 z)) m)) e0 ?_))))))))))
    refine yY (yand e0 rfl) (yY (ycv (k' := .u32) (by kernel_rfl) (by kernel_rfl) e0) (bE k fun i0 a8 k => yY (yIs SL_25 e0 e0 b rO0 a8) (yT (r_sti (cs := [.int .u32 (wc .u32 (wand .u64 (wa .u64 (wa .u64 (wm .u64 (wc .u64 o) (wc .u64 q)) (wc .u64 z)) m) 4294967295))]) b O_88 rfl e0 e0 rfl mkI a8) fun w b => wK g6 (wR (Ym (.int .u64 (wa .u64 (wa .u64 (wm .u64 (wc .u64 o) (wc .u64 q)) (wc .u64 z)) m)) e0 (yY (yshrc e0 rfl) (Ya (.int .u64 (wsrc .u64 (wa .u64 (wa .u64 (wm .u64 (wc .u64 o) (wc .u64 q)) (wc .u64 z)) m) 32)) e0 (wN (g3 _ _ _ ?_)))))))))
    refine g2 _ _ (wR (yY (yadd (eh D) rfl) (Ym (iV (wa .i64 p 1)) e0 (wN ?_))))
    cases k
    exact f6 _ _ _ rfl ⟨_, _, _, _, rfl, rfl, x, B, C, X, rfl, a0, a2, a3, a4, a5, rfl, b⟩
   ·refine wp_exit (g0 _ _ _ rfl ?_)
    cases k
    exact f7 _ _ _ _ rfl rfl (e9 _ _ _ _ x B C Z a0 a2 a3 b (f5 _ rfl))
  ·refine wp_exit (d6 _ _ _ rfl ?_)
   cases j
   exact d3 _ _ _ _ rfl rfl (c4 _ _ _ O b (d1 _ rfl))
theorem integer_Mul_ok {c : Bool} {h : LI} {d : Bool} {i : LI} {g f : Hdr} {out : Bool × LI} (b : integer_Mul c h d i = some out) (m : imm (rI .u32) g.v h ∈ ros) (n : imm (rI .u32) f.v i ∈ ros) (a : St w0 ros rs w) :
  Calls Tryz.prog 22 #[.agg #[.bool c, g.v], .agg #[.bool d, f.v]] w (fun e w => ∃ (j : Hdr), e = .returned (.agg #[.bool out.1, j.v]) ∧ St w0 (imm (rI .u32) j.v out.2 :: ros) rs w) := by
 refine enterQ Tryz.func22 rfl Tryz.ntmps22 rfl fun Q o => sR fun _ p => yBb (r_box (vals := [.bool c, g.v]) a e0 rfl) fun x w a => yBb (r_box (vals := [.bool d, f.v]) a e0 rfl) fun y w a => yBb (rAl a ZT_27) fun z w a => wK p (sQ fun _ q => bE b fun A r b => bE b fun B s b => ?_)
 refine bE b fun C t b => bE b fun k u b => dR [0, 1, 0, 4, 15, 0, 32, 96, 0, 256, 992, 2016, 4095, 8191] [7, 10, 11, 12, 13] 5 folM ?_
 replace a := a.drew
 refine Dn [0, 1, 2, 3, 4, 5, 6, 8, 9] [] [7] (yR rfl (yFb FL_27_0 e0) (yR rfl (lb_ (.bool c) O_4 e0 a R2) (yR rfl (yFb FL_27_0 e0) (yR rfl (lb_ (.bool d) O_4 e0 a R1) (yR rfl (yneb (by kernel_rfl) e0 e0) (yR rfl (yFb FL_27_1 e0) (yR rfl (lb_ g.v O_25 e0 a R2) (yR rfl (yFb FL_27_1 e0) (yR rfl (lb_ f.v O_25 e0 a R1) (Rn QSn ?_))))))))))
 refine Lc1 rfl ?_
 refine Lk wn (yCall FN_77 (a1 e0)) (integer_trim_ok r m a) ?_
 rintro _ w ⟨D, rfl, a⟩
 refine ⟨_, rfl, ?_⟩
 refine Dn [] [0, 1, 2, 3, 4, 8, 9] [10] (Rn (yS rfl (yFb FL_27_0 e0) (yS rfl (lb_ (.bool c) O_4 e0 a R2) (yS rfl (yFb FL_27_0 e0) (yS rfl (lb_ (.bool d) O_4 e0 a R1) (yS rfl (yneb (by kernel_rfl) e0 e0) (yS rfl (yFb FL_27_1 e0) (yS rfl (lb_ f.v O_25 e0 a R1) QSn))))))) ?_)
 refine Lc1 rfl ?_
 refine Lk wn (yCall FN_77 (a1 e0)) (integer_trim_ok s (mtF n) a) ?_
 rintro _ w ⟨E, rfl, a⟩
 refine ⟨_, rfl, ?_⟩
 refine Dn [] [0, 1, 2, 3, 4] [11] (Rn (yS rfl (yFb FL_27_0 e0) (yS rfl (lb_ (.bool c) O_4 e0 a R2) (yS rfl (yFb FL_27_0 e0) (yS rfl (lb_ (.bool d) O_4 e0 a R1) (yS rfl (yneb (by kernel_rfl) e0 e0) QSn))))) ?_)
 refine Lc1 rfl ?_
 refine Lk wn (yCall FN_76 (a2 e0 e0)) (integer_times_ok t F1 F0 a) ?_
 rintro _ w ⟨F, rfl, a⟩
 refine ⟨_, rfl, ?_⟩
 refine Dn [] [0, 1, 2, 3, 4] [12] (Rn (yS rfl (yFb FL_27_0 e0) (yS rfl (lb_ (.bool c) O_4 e0 a R2) (yS rfl (yFb FL_27_0 e0) (yS rfl (lb_ (.bool d) O_4 e0 a R1) (yS rfl (yneb (by kernel_rfl) e0 e0) QSn))))) ?_)
 refine Lc1 rfl ?_
 refine Lk wn (yCall FN_74 (a2 e0 e0)) (integer_big_ok u F0 a) ?_
 rintro _ w ⟨l, rfl, a⟩
 refine ⟨_, rfl, ?_⟩
 refine Dn [] [] [13] (Rn QSn ?_)
 refine Lc1 rfl ?_
 refine LT wn (r_stbn (vals' := [.bool k.1, l.v]) (us := [.bool k.1, l.v]) a ST_27 e0 e0 rfl rfl (one_of rfl) rfl) fun w a => Dz [] [] (Rn QSn (q _ _ (wp_ret ?_)))
 cases b
 exact o _ _ _ (fin1r Tryz.results22 (rcs2 rfl rfl a R0 ST_27 rfl) ⟨_, rfl, ((a.k18).facts (allC F0 (allT (allT (allT (allT allI))))))⟩)
theorem integer_Add_ok {c : Bool} {l : LI} {d : Bool} {m : LI} {i f : Hdr} {out : Bool × LI} (b : integer_Add c l d m = some out) (x : imm (rI .u32) i.v l ∈ ros) (y : imm (rI .u32) f.v m ∈ ros) (a : St w0 ros rs w) :
  Calls Tryz.prog 65 #[.agg #[.bool c, i.v], .agg #[.bool d, f.v]] w (fun e w => ∃ (n : Hdr), e = .returned (.agg #[.bool out.1, n.v]) ∧ St w0 (imm (rI .u32) n.v out.2 :: ros) rs w) := by
 refine enterQ Tryz.func65 rfl Tryz.ntmps65 rfl fun Q j => sR fun _ z => yBb (r_box (vals := [.bool c, i.v]) a e0 rfl) fun W w a => yBb (r_box (vals := [.bool d, f.v]) a e0 rfl) fun X w a => yBb (rAl a ZT_27) fun Z w a => wK z (sQ fun _ A => bE b fun a0 B b => bE b fun a3 C b => ?_)
 refine dR [0, 1, 3, 0, 8, 31, 63, 127] [2, 5, 6, 7] 4 folM ?_
 replace a := a.drew
 refine Dn [0, 1, 3, 4] [] [2] (yR rfl (yFb FL_27_1 e0) (yR rfl (lb_ i.v O_25 e0 a R2) (yR rfl (yFb FL_27_1 e0) (yR rfl (lb_ f.v O_25 e0 a R1) (Rn QSn ?_)))))
 refine Lc1 rfl ?_
 refine Lk wn (yCall FN_77 (a1 e0)) (integer_trim_ok B x a) ?_
 rintro _ w ⟨g, rfl, a⟩
 refine ⟨_, rfl, ?_⟩
 refine Dn [] [3, 4] [5] (Rn (yS rfl (yFb FL_27_1 e0) (yS rfl (lb_ f.v O_25 e0 a R1) QSn)) ?_)
 refine Lc1 rfl ?_
 refine Lk wn (yCall FN_77 (a1 e0)) (integer_trim_ok C (mtF y) a) ?_
 rintro _ w ⟨h, rfl, a⟩
 refine ⟨_, rfl, ?_⟩
 refine Dn [] [] [6] (Rn QSn ?_)
 refine Lc1 rfl ?_
 refine Ly wn (a_ g.v e0) (Dn [] [] [7] (Rn QSn ?_))
 refine Lc1 rfl ?_
 refine Ly wn (a_ h.v e0) (Dz [] [] (Rn QSn (A _ _ (seqQ fun a4 D o => blockQ fun _ k => sR fun _ E => yY (yFb FL_27_0 e0) (yY (lb_ (.bool c) O_4 e0 a R2) (yY (yFb FL_27_0 e0) (yY (lb_ (.bool d) O_4 e0 a R1) (yY (yeqb (by kernel_rfl) e0 e0) (Ya (.bool (c == d)) e0 ?_)))))))))
 refine wK E (cB e0 b (fun F b => ?_) fun F b => ?_)
 ·refine sQ fun _ G => bE b fun a5 H b => bE b fun p I b => dR [0, 1, 0, 0, 12, 31, 63] [4, 5, 6] 3 folM ?_
  replace a := a.drew
  refine Dn [0, 1, 2, 3] [] [4] (yR rfl (yFb FL_27_0 e0) (yR rfl (lb_ (.bool c) O_4 e0 a R2) (yR rfl (m_ g.v e0) (yR rfl (m_ h.v e0) (Rn QSn ?_)))))
  refine Lc1 rfl ?_
  refine Lk wn (yCall FN_108 (a2 e0 e0)) (integer_plus_ok H F1 F0 a) ?_
  rintro _ w ⟨a6, rfl, a⟩
  refine ⟨_, rfl, ?_⟩
  refine Dn [] [0, 1] [5] (Rn (yS rfl (yFb FL_27_0 e0) (yS rfl (lb_ (.bool c) O_4 e0 a R2) QSn)) ?_)
  refine Lc1 rfl ?_
  refine Lk wn (yCall FN_74 (a2 e0 e0)) (integer_big_ok I F0 a) ?_
  rintro _ w ⟨q, rfl, a⟩
  refine ⟨_, rfl, ?_⟩
  refine Dn [] [] [6] (Rn QSn ?_)
  refine Lc1 rfl ?_
  refine LT wn (r_stbn (vals' := [.bool p.1, q.v]) (us := [.bool p.1, q.v]) a ST_27 e0 e0 rfl rfl (one_of rfl) rfl) fun w a => Dz [] [] (Rn QSn (G _ _ (wp_ret (k _ _ _ (o _ _ _ rfl ?_)))))
  cases b
  exact j _ _ _ (fin1r Tryz.results65 (rcs2 rfl rfl a R0 ST_27 rfl) ⟨_, rfl, ((a.k18).facts (allC F0 (allT (allT (allT (allT allI))))))⟩)
 ·refine sR fun _ J => Ym g.v e0 (Ym h.v e0 (bE b fun K L b => yC (yCall FN_109 (a2 e0 e0)) (integer_compare_ok L F1 F0 a) ?_))
  rintro _ w ⟨rfl, a⟩
  refine ⟨_, rfl, ?_⟩
  refine yY (ygeq e0 rfl) (Ya (.bool (decide ((0 : Int) ≤ K))) e0 (wK J ?_))
  refine cIf e0 b (fun N b => ?_) fun N b => ?_
  ·refine sQ fun _ O => bE b fun a7 R b => bE b fun r S b => dR [0, 1, 0, 0, 12, 31, 63] [4, 5, 6] 3 folM ?_
   replace a := a.drew
   refine Dn [0, 1, 2, 3] [] [4] (yR rfl (yFb FL_27_0 e0) (yR rfl (lb_ (.bool c) O_4 e0 a R2) (yR rfl (m_ g.v e0) (yR rfl (m_ h.v e0) (Rn QSn ?_)))))
   refine Lc1 rfl ?_
   refine Lk wn (yCall FN_110 (a2 e0 e0)) (integer_minus_ok R F1 F0 a) ?_
   rintro _ w ⟨a8, rfl, a⟩
   refine ⟨_, rfl, ?_⟩
   refine Dn [] [0, 1] [5] (Rn (yS rfl (yFb FL_27_0 e0) (yS rfl (lb_ (.bool c) O_4 e0 a R2) QSn)) ?_)
   refine Lc1 rfl ?_
   refine Lk wn (yCall FN_74 (a2 e0 e0)) (integer_big_ok S F0 a) ?_
   rintro _ w ⟨s, rfl, a⟩
   refine ⟨_, rfl, ?_⟩
   refine Dn [] [] [6] (Rn QSn ?_)
   refine Lc1 rfl ?_
   refine LT wn (r_stbn (vals' := [.bool r.1, s.v]) (us := [.bool r.1, s.v]) a ST_27 e0 e0 rfl rfl (one_of rfl) rfl) fun w a => Dz [] [] (Rn QSn (O _ _ (wp_ret (k _ _ _ (o _ _ _ rfl ?_)))))
   cases b
   exact j _ _ _ (fin1r Tryz.results65 (rcs2 rfl rfl a R0 ST_27 rfl) ⟨_, rfl, ((a.k18).facts (allC F0 (allT (allT (allT (allT allI))))))⟩)
  ·refine wp_skip (k _ _ _ (D _ _ (sQ fun _ T => bE b fun a9 U b => bE b fun t V b => dR [0, 1, 0, 0, 12, 31, 63] [4, 5, 6] 3 folM ?_)))
   replace a := a.drew
   refine Dn [0, 1, 2, 3] [] [4] (yR rfl (yFb FL_27_0 e0) (yR rfl (lb_ (.bool d) O_4 e0 a R1) (yR rfl (m_ h.v e0) (yR rfl (m_ g.v e0) (Rn QSn ?_)))))
   refine Lc1 rfl ?_
   refine Lk wn (yCall FN_110 (a2 e0 e0)) (integer_minus_ok U F0 F1 a) ?_
   rintro _ w ⟨b0, rfl, a⟩
   refine ⟨_, rfl, ?_⟩
   refine Dn [] [0, 1] [5] (Rn (yS rfl (yFb FL_27_0 e0) (yS rfl (lb_ (.bool d) O_4 e0 a R1) QSn)) ?_)
   refine Lc1 rfl ?_
   refine Lk wn (yCall FN_74 (a2 e0 e0)) (integer_big_ok V F0 a) ?_
   rintro _ w ⟨u, rfl, a⟩
   refine ⟨_, rfl, ?_⟩
   refine Dn [] [] [6] (Rn QSn ?_)
   refine Lc1 rfl ?_
   refine LT wn (r_stbn (vals' := [.bool t.1, u.v]) (us := [.bool t.1, u.v]) a ST_27 e0 e0 rfl rfl (one_of rfl) rfl) fun w a => Dz [] [] (Rn QSn (T _ _ (wp_ret ?_)))
   cases b
   exact j _ _ _ (fin1r Tryz.results65 (rcs2 rfl rfl a R0 ST_27 rfl) ⟨_, rfl, ((a.k18).facts (allC F0 (allT (allT (allT (allT allI))))))⟩)
theorem integer_Sign_ok {c : Bool} {h : LI} {d : Hdr} {out : Int} (a : integer_Sign c h = some out) (j : imm (rI .u32) d.v h ∈ ros) (b : St w0 ros rs w) :
  Calls Tryz.prog 84 #[.agg #[.bool c, d.v]] w (fun e w => e = .returned (iV out) ∧ St w0 ros rs w) := by
 refine enterQ Tryz.func84 rfl Tryz.ntmps84 rfl fun Q f => sR fun _ k => yBb (r_box (vals := [.bool c, d.v]) b e0 rfl) fun x w b => Ya (iV 0) rfl (wK k (seqQ fun y l i => blockQ fun _ g => sR fun _ m => yY (yFb FL_27_1 e0) (yY (lb_ d.v O_25 e0 b R0) ?_)))
 refine bE a fun n o a => yC (yCall FN_77 (a1 e0)) (integer_trim_ok o j b) ?_
 rintro _ w ⟨z, rfl, b⟩
 refine ⟨_, rfl, ?_⟩
 refine yY (yLen SL_25 e0 b (rdI F0)) (yY (yeql e0 rfl) (Ya (.bool (decide ((n.length : Int) = 0))) e0 (wK m ?_)))
 refine cIf e0 a (fun p a => ?_) fun p a => ?_
 ·refine sR fun _ q => Ya (iV 0) rfl (wK q (wp_ret (g _ _ _ (i _ _ _ rfl ?_))))
  cases a
  exact f _ _ _ (fin1r Tryz.results84 ⟨rfl, rfl⟩ ⟨rfl, ((b.k10).facts (allT allI))⟩)
 ·refine sR fun _ r => yY (yFb FL_27_0 e0) (yY (lb_ (.bool c) O_4 e0 b R0) (Ya (.bool c) e0 (wK r (cB e0 a (fun s a => ?_) fun s a => ?_))))
  ·refine sR fun _ t => Ya (iV (-1)) rfl (wK t (wp_ret (g _ _ _ (i _ _ _ rfl ?_))))
   cases a
   exact f _ _ _ (fin1r Tryz.results84 ⟨rfl, rfl⟩ ⟨rfl, ((b.k10).facts (allT allI))⟩)
  ·refine wp_skip (g _ _ _ (l _ _ (sR fun _ u => Ya (iV 1) rfl (wK u (wp_ret ?_)))))
   cases a
   exact f _ _ _ (fin1r Tryz.results84 ⟨rfl, rfl⟩ ⟨rfl, ((b.k10).facts (allT allI))⟩)
theorem integer_Cmp_ok {i : Bool} {l : LI} {f : Bool} {m : LI} {g d : Hdr} {out : Int} (b : integer_Cmp i l f m = some out) (n : imm (rI .u32) g.v l ∈ ros) (o : imm (rI .u32) d.v m ∈ ros) (a : St w0 ros rs w) :
  Calls Tryz.prog 66 #[.agg #[.bool i, g.v], .agg #[.bool f, d.v]] w (fun e w => e = .returned (iV out) ∧ St w0 ros rs w) := by
 refine enterQ Tryz.func66 rfl Tryz.ntmps66 rfl fun Q j => sR fun _ q => yBb (r_box (vals := [.bool i, g.v]) a e0 rfl) fun I w a => yBb (r_box (vals := [.bool f, d.v]) a e0 rfl) fun J w a => Ya (iV 0) rfl (wK q (sQ fun _ r => bE b fun c s b => bE b fun h t b => dR [0, 1, 0, 7, 15, 31] [1, 3, 4, 5] 4 folM ?_))
 replace a := a.drew
 refine Dn [0, 2] [] [1] (yR rfl (lbs_ [.bool i, g.v] ST_27 e0 a R1) (yR rfl (lbs_ [.bool f, d.v] ST_27 e0 a R0) (Rn QSn ?_)))
 refine Lc1 rfl ?_
 refine Lk wn (yCall FN_84 (a1 e0)) (integer_Sign_ok s n a) ?_
 rintro _ w ⟨rfl, a⟩
 refine ⟨_, rfl, ?_⟩
 refine Dn [] [2] [3] (Rn (yS rfl (lbs_ [.bool f, d.v] ST_27 e0 a R0) QSn) ?_)
 refine Lc1 rfl ?_
 refine Lk wn (yCall FN_84 (a1 e0)) (integer_Sign_ok t o a) ?_
 rintro _ w ⟨rfl, a⟩
 refine ⟨_, rfl, ?_⟩
 refine Dn [] [] [4] (Rn QSn ?_)
 refine Lc1 rfl ?_
 refine Ly wn (a_ (iV c) e0) (Dn [] [] [5] (Rn QSn ?_))
 refine Lc1 rfl ?_
 refine Ly wn (a_ (iV h) e0) (Dz [] [] (Rn QSn (r _ _ (seqQ fun K u p => blockQ fun _ k => sR fun _ x => Ym (iV c) e0 (Ym (iV h) e0 (yY (ylss e0 e0) (Ya (.bool (decide (c < h))) e0 (wK x ?_))))))))
 refine cIf e0 b (fun y b => ?_) fun y b => ?_
 ·refine sR fun _ z => Ya (iV (-1)) rfl (wK z (wp_ret (k _ _ _ (p _ _ _ rfl ?_))))
  cases b
  exact j _ _ _ (fin1r Tryz.results66 ⟨rfl, rfl⟩ ⟨rfl, (a.k19)⟩)
 ·refine sR fun _ A => Ym (iV c) e0 (Ym (iV h) e0 (yY (ygtr e0 e0) (Ya (.bool (decide (h < c))) e0 (wK A ?_))))
  refine cIf e0 b (fun B b => ?_) fun B b => ?_
  ·refine sR fun _ C => Ya (iV 1) rfl (wK C (wp_ret (k _ _ _ (p _ _ _ rfl ?_))))
   cases b
   exact j _ _ _ (fin1r Tryz.results66 ⟨rfl, rfl⟩ ⟨rfl, (a.k19)⟩)
  ·refine wp_skip (k _ _ _ (u _ _ (sQ fun _ D => bE b fun L E b => bE b fun N F b => bE b fun G H b => dR [0, 0, 2, 6, 0, 16, 62, 126, 255, 511] [3, 6, 7, 9] 4 folM ?_)))
   replace a := a.drew
   refine Dn [0, 1, 2, 4, 5] [] [3] (yR rfl (m_ (iV c) e0) (yR rfl (yFb FL_27_1 e0) (yR rfl (lb_ g.v O_25 e0 a R1) (yR rfl (yFb FL_27_1 e0) (yR rfl (lb_ d.v O_25 e0 a R0) (Rn QSn ?_))))))
   refine Lc1 rfl ?_
   refine Lk wn (yCall FN_77 (a1 e0)) (integer_trim_ok E n a) ?_
   rintro _ w ⟨O, rfl, a⟩
   refine ⟨_, rfl, ?_⟩
   refine Dn [] [0, 4, 5] [6] (Rn (yS rfl (m_ (iV c) e0) (yS rfl (yFb FL_27_1 e0) (yS rfl (lb_ d.v O_25 e0 a R0) QSn))) ?_)
   refine Lc1 rfl ?_
   refine Lk wn (yCall FN_77 (a1 e0)) (integer_trim_ok F (mtF o) a) ?_
   rintro _ w ⟨R, rfl, a⟩
   refine ⟨_, rfl, ?_⟩
   refine Dn [] [0] [7] (Rn (yS rfl (m_ (iV c) e0) QSn) ?_)
   refine Lc1 rfl ?_
   refine Lk wn (yCall FN_109 (a2 e0 e0)) (integer_compare_ok H F1 F0 a) ?_
   rintro _ w ⟨rfl, a⟩
   refine ⟨_, rfl, ?_⟩
   refine Dn [8] [0] [9] (yR rfl (ymul e0 e0) (Rn (yS rfl (m_ (iV c) e0) QSn) ?_))
   refine Lc1 rfl ?_
   refine Ly wn (a_ (iV (wm .i64 c G)) e0) (Dz [] [] (Rn QSn (D _ _ (wp_ret ?_))))
   cases b
   exact j _ _ _ (fin1r Tryz.results66 ⟨rfl, rfl⟩ ⟨rfl, ((a.k19).facts (allT (allT allI)))⟩)
end Go.Proofs.YtnfamnfdndaekaaGreatDoor
