/- Walks: each function computes its model, printed. -/
import Derived.Test.YtgnfkbaghjmgiaaGreatDoorW2
namespace Go.Proofs.YtgnfkbaghjmgiaaGreatDoor
open Go Sx M
set_option maxRecDepth 100000
set_option maxHeartbeats 40000000
set_option linter.unusedVariables false
attribute [local irreducible] wpList Code.wp Calls DR QR QS LA LS St
variable {w0 : World} {ros : List Fact} {rs : List Res} {w : World}
theorem blocks_Coarse_ok {d f : Int} {z A B : LI} {g h i : Hdr} {out : LI × LI × LI × LI × LI × LI × Int} (b : blocks_Coarse d f z A B = some out) (C : imm I1 g.v z ∈ ros) (D : imm I1 h.v A ∈ ros) (E : imm (rI .u64) i.v B ∈ ros) (a : St w0 ros rs w) :
  Calls Tryz.prog 13 #[.agg #[iV d, iV f, g.v, h.v, i.v]] w (fun e w => ∃ (F G H I J K : Hdr), e = .returned (.tuple #[.agg #[F.v, G.v, H.v, I.v, J.v, K.v], iV out.2.2.2.2.2.2]) ∧ St w0 ros (row 3 I1 F.v out.1 :: row 3 I1 G.v out.2.1 :: row 3 I1 H.v out.2.2.1 :: row 3 I1 I.v out.2.2.2.1 :: row 3 I1 J.v out.2.2.2.2.1 :: row 3 I1 K.v out.2.2.2.2.2.1 :: rs) w) := by
 refine enterQ Tryz.func13 rfl Tryz.ntmps13 rfl fun Q L => sR fun _ N => yBb (r_box (vals := [iV d, iV f, g.v, h.v, i.v]) a e0 rfl) fun b0 w a => yBb (rAl a ZT_31) fun b1 w a => Ya (iV 0) rfl (wK N (sR fun _ O => yY (lbs_ [iV d, iV f, g.v, h.v, i.v] ST_27 e0 a R1) (bE b fun c R b => ?_)))
 refine yC (yCall FN_36 (a1 e0)) (matrix_Transpose_ok R C D E a) ?_
 rintro _ w ⟨j, k, l, rfl, a⟩
 refine ⟨_, rfl, ?_⟩
 refine Ym (.tuple #[.agg #[iV c.1, iV c.2.1, j.v, k.v, l.v], iV c.2.2.2.2.2]) e0 (yY (x_ (.agg #[iV c.1, iV c.2.1, j.v, k.v, l.v]) e0) (yY (x_ (iV c.2.2.2.2.2) e0) (yBb (rAl a ZT_27) fun b2 w a => yT (r_stbn (vals' := [iV c.1, iV c.2.1, j.v, k.v, l.v]) (us := [iV c.1, iV c.2.1, j.v, k.v, l.v]) a ST_27 e0 e0 rfl rfl (one_of rfl) rfl) fun w a => Ya (iV c.2.2.2.2.2) e0 (wK O (seqQ fun b3 S T => sR fun _ U => Ym (iV c.2.2.2.2.2) e0 ?_)))))
 refine yY (yneq e0 rfl) (wK U ?_)
 rcases iteS b with ⟨y, b⟩ | ⟨y, b⟩
 ·refine condF e0 (nF (dT y)) (wp_skip (S _ _ (sR fun _ V => yY (lbs_ [iV d, iV f, g.v, h.v, i.v] ST_27 e0 a R5) (bE b fun b4 W b => yC (yCall FN_37 (a1 e0)) (matching_Reachable_ok W C D E a) ?_))))
  rintro _ w ⟨m, n, rfl, a⟩
  refine ⟨_, rfl, ?_⟩
  refine Ym (.tuple #[m.v, n.v]) e0 (yY (x_ m.v e0) (yY (x_ n.v e0) (Ya m.v e0 (Ya n.v e0 (wK V (sR fun _ X => yY (lbs_ [iV c.1, iV c.2.1, j.v, k.v, l.v] ST_27 e0 a R2) (bE b fun b5 Z b => ?_)))))))
  replace a := (((((a.k14).fz).k14).fz).k14).fz
  refine yC (yCall FN_37 (a1 e0)) (matching_Reachable_ok Z F2 F1 F0 a) ?_
  rintro _ w ⟨o, p, rfl, a⟩
  refine ⟨_, rfl, ?_⟩
  refine Ym (.tuple #[o.v, p.v]) e0 (yY (x_ o.v e0) (yY (x_ p.v e0) (Ya o.v e0 (Ya p.v e0 (wK X (sR fun _ a0 => Ym m.v e0 (bE b fun b6 a3 b => ?_)))))))
  replace a := (a.k17).fz
  refine yC (yCall FN_38 (a2 e0 rfl)) (matching_List_ok a3 F0 a) ?_
  rintro _ w ⟨q, rfl, a⟩
  refine ⟨_, rfl, ?_⟩
  refine Ym n.v e0 (bE b fun b7 a4 b => ?_)
  replace a := (a.k14).fz
  refine yC (yCall FN_38 (a2 e0 rfl)) (matching_List_ok a4 F0 a) ?_
  rintro _ w ⟨r, rfl, a⟩
  refine ⟨_, rfl, ?_⟩
  refine Ym m.v e0 (Ym p.v e0 (bE b fun b8 a5 b => ?_))
  replace a := (a.k14).fz
  refine yC (yCall FN_39 (a2 e0 e0)) (blocks_rest_ok a5 F2 F0 a) ?_
  rintro _ w ⟨s, rfl, a⟩
  refine ⟨_, rfl, ?_⟩
  refine Ym n.v e0 (Ym o.v e0 (bE b fun c0 a6 b => ?_))
  replace a := (a.k14).fz
  refine yC (yCall FN_39 (a2 e0 e0)) (blocks_rest_ok a6 F2 F0 a) ?_
  rintro _ w ⟨t, rfl, a⟩
  refine ⟨_, rfl, ?_⟩
  refine Ym p.v e0 (bE b fun c1 a7 b => yC (yCall FN_38 (a2 e0 rfl)) (matching_List_ok a7 F1 a) ?_)
  rintro _ w ⟨u, rfl, a⟩
  refine ⟨_, rfl, ?_⟩
  refine Ym o.v e0 (bE b fun c2 a8 b => yC (yCall FN_38 (a2 e0 rfl)) (matching_List_ok a8 F0 a) ?_)
  rintro _ w ⟨x, rfl, a⟩
  refine ⟨_, rfl, ?_⟩
  refine yY (ybuild (us := [q.v, r.v, s.v, t.v, u.v, x.v]) [(0, q.v), (1, r.v), (2, s.v), (3, t.v), (4, u.v), (5, x.v)] SO_31 (bp6 e0 e0 e0 e0 e0 e0) rfl) (yT (r_stbn (vals' := [q.v, r.v, s.v, t.v, u.v, x.v]) (us := [q.v, r.v, s.v, t.v, u.v, x.v]) (a.k22) ST_31 e0 e0 rfl rfl (one_of rfl) rfl) fun w a => Ya (iV 0) rfl (wK a0 (wp_ret ?_)))
  cases b
  exact L _ _ _ (fin2r Tryz.results13 (rcs2 rfl rfl a R0 ST_31 rfl) ⟨rfl, rfl⟩ ⟨_, _, _, _, _, _, rfl, ((a.k2e).facts (allT (allT (allT (allT (allT (allT (allT allI))))))))⟩)
 ·refine condT e0 (nT (dF y)) (sR fun _ a9 => yY (ybuild (us := [hnil.v, hnil.v, hnil.v, hnil.v, hnil.v, hnil.v]) [] SO_31 bp0 rfl) (Ym (iV c.2.2.2.2.2) e0 (yT (r_stbn (vals' := [hnil.v, hnil.v, hnil.v, hnil.v, hnil.v, hnil.v]) (us := [hnil.v, hnil.v, hnil.v, hnil.v, hnil.v, hnil.v]) (a.k1j) ST_31 e0 e0 rfl rfl (one_of rfl) rfl) fun w a => Ya (iV c.2.2.2.2.2) e0 (wK a9 (wp_ret (T _ _ _ rfl ?_))))))
  cases b
  replace a := (((((a.rowNh 3 I1).rowNh 3 I1).rowNh 3 I1).rowNh 3 I1).rowNh 3 I1).rowNh 3 I1
  exact L _ _ _ (fin2r Tryz.results13 (rcs2 rfl rfl a R6 ST_31 rfl) ⟨rfl, rfl⟩ ⟨_, _, _, _, _, _, rfl, (a.k2f)⟩)
theorem sparsekit_Ints_ok {q r : LI} {h i : Hdr} {out : Bool} (d : sparsekit_Ints q r = some out) (j : imm I1 h.v q ∈ ros) (l : imm I1 i.v r ∈ ros) (b : St w0 ros rs w) :
  Calls Tryz.prog 32 #[h.v, i.v] w (fun e w => e = .returned (.bool out) ∧ St w0 ros rs w) := by
 refine enterQ Tryz.func32 rfl Tryz.ntmps32 rfl fun Q m => sR fun _ E => Ya (.bool false) rfl (wK E (seqQ fun a4 F G => sR fun _ H => Ym h.v e0 (yY (yLen SL_22 e0 b (rdI j)) (Ym i.v e0 (yY (yLen SL_22 e0 b (rdI l)) (yY (yneq e0 e0) ?_))))))
 refine wK H ?_
 rcases iteS d with ⟨n, d⟩ | ⟨n, d⟩
 ·refine condF e0 (nF (dT n)) (wp_skip (F _ _ (seqQ fun a5 I J => sR fun _ K => Ya (iV 0) rfl (wK K (blockQ fun t u => bE d fun x L d => ?_)))))
  have N : ∀ (f : FV) w, St w0 ros rs w → .inl () = x → t (.exit 0) (fr 26 f) w := by
   intro f w b ho
   subst ho
   refine u _ _ _ (I _ _ (sR fun _ O => Ya (.bool true) rfl (wK O (wp_ret ?_))))
   cases d
   exact m _ _ _ (fin1r Tryz.results32 ⟨rfl, rfl⟩ ⟨rfl, b⟩)
  have R : ∀ (f : FV) w, f 4 = .bool false → St w0 ros rs w → .inr () = x → t .ret (fr 26 f) w := by
   intro f w S b ho
   subst ho
   refine u _ _ _ (J _ _ _ rfl ?_)
   cases d
   exact m _ _ _ (fin1r Tryz.results32 ⟨rfl, S⟩ ⟨rfl, b⟩)
  refine loopQ (fun s a w => ∃ (g : Int) (f : FV), g = s ∧ a = fr 26 f ∧ f 0 = h.v ∧ f 1 = i.v ∧ f 5 = iV g ∧ St w0 ros rs w) L ⟨_, _, rfl, rfl, rfl, rfl, rfl, b⟩ ?_
  rintro _ _ w a6 ⟨g, f, rfl, rfl, o, y, k, b⟩ c z a7 T A
  refine seqQ fun a8 U V => sR fun _ W => Ym (iV g) (eh k) (Ym h.v (eh o) (yY (yLen SL_22 e0 b (rdI j)) (yY (ylss e0 e0) (wK W ?_))))
  refine cIf e0 c (fun X c => ?_) fun X c => ?_
  ·refine wp_skip (U _ _ (seqQ fun a9 Z a0 => blockQ fun _ B => sQ fun _ a1 => bE c fun b0 C c => bE c fun b1 D c => dR [0, 0, 3, 7, 0, 0, 48, 112, 255] [] 0 folM ?_))
   replace b := b.drew
   refine Dz [0, 1, 2, 3, 4, 5, 6, 7, 8] [] (yR rfl (m_ h.v (eh o)) (yR rfl (m_ (iV g) (eh k)) (yR rfl (yIa SL_22 e0 e0 b (rdI j) C) (yR rfl (yI O_3 e0 b (rdI j) C) (yR rfl (m_ i.v (eh y)) (yR rfl (m_ (iV g) (eh k)) (yR rfl (yIa SL_22 e0 e0 b (rdI l) D) (yR rfl (yI O_3 e0 b (rdI l) D) (yR rfl (yneq e0 e0) (Rn QSn (a1 _ _ ?_)))))))))))
   rcases iteS c with ⟨p, c⟩ | ⟨p, c⟩
   ·refine condF e0 (nF (dT p)) (wp_skip (B _ _ _ (Z _ _ (wR (Ym (iV g) (eh k) (yY (yadd e0 rfl) (Ya (iV (wa .i64 g 1)) e0 (wN ?_))))))))
    cases c
    exact T _ _ _ rfl ⟨_, _, rfl, rfl, o, y, rfl, b⟩
   ·refine condT e0 (nT (dF p)) (sR fun _ a2 => Ya (.bool false) rfl (wK a2 (wp_ret (B _ _ _ (a0 _ _ _ rfl ?_)))))
    cases c
    exact A _ _ _ _ rfl rfl (R _ _ rfl b (z _ rfl))
  ·refine wp_exit (V _ _ _ rfl ?_)
   cases c
   exact A _ _ _ _ rfl rfl (N _ _ b (z _ rfl))
 ·refine condT e0 (nT (dF n)) (sR fun _ a3 => Ya (.bool false) rfl (wK a3 (wp_ret (G _ _ _ rfl ?_))))
  cases d
  exact m _ _ _ (fin1r Tryz.results32 ⟨rfl, rfl⟩ ⟨rfl, b⟩)
theorem math_bits_Mul64_ok {a b : Int} {out : Int × Int} (c : math_bits_Mul64 a b = some out) (d : St w0 ros rs w) :
  Calls Tryz.prog 125 #[.int .u64 a, .int .u64 b] w (fun e w => e = .returned (.tuple #[.int .u64 out.1, .int .u64 out.2]) ∧ St w0 ros rs w) := by
 refine enterQ Tryz.func125 rfl Tryz.ntmps125 rfl fun Q f => sR fun _ g => Ya (.int .u64 0) rfl (Ya (.int .u64 0) rfl (wK g (sR fun _ h => Ym (.int .u64 a) e0 (yY (yand e0 rfl) (Ya (.int .u64 (wand .u64 a 4294967295)) e0 (wK h ?_))))))
 refine sR fun _ i => Ym (.int .u64 a) e0 (yY (yshrc e0 rfl) (Ya (.int .u64 (wsrc .u64 a 32)) e0 (wK i (sR fun _ j => Ym (.int .u64 b) e0 (yY (yand e0 rfl) (Ya (.int .u64 (wand .u64 b 4294967295)) e0 (wK j ?_)))))))
 refine sR fun _ k => Ym (.int .u64 b) e0 (yY (yshrc e0 rfl) (Ya (.int .u64 (wsrc .u64 b 32)) e0 (wK k (sR fun _ l => Ym (.int .u64 (wand .u64 a 4294967295)) e0 (Ym (.int .u64 (wand .u64 b 4294967295)) e0 (yY (ymul e0 e0) (Ya (.int .u64 (wm .u64 (wand .u64 a 4294967295) (wand .u64 b 4294967295))) e0 (wN ?_))))))))
 refine l _ _ (sR fun _ m => Ym (.int .u64 (wsrc .u64 a 32)) e0 (Ym (.int .u64 (wand .u64 b 4294967295)) e0 (yY (ymul e0 e0) (Ym (.int .u64 (wm .u64 (wand .u64 a 4294967295) (wand .u64 b 4294967295))) e0 (yY (yshrc e0 rfl) (yY (yadd e0 e0) (Ya (.int .u64 (wa .u64 (wm .u64 (wsrc .u64 a 32) (wand .u64 b 4294967295)) (wsrc .u64 (wm .u64 (wand .u64 a 4294967295) (wand .u64 b 4294967295)) 32))) e0 (wK m (sR fun _ n => ?_)))))))))
 refine Ym (.int .u64 (wa .u64 (wm .u64 (wsrc .u64 a 32) (wand .u64 b 4294967295)) (wsrc .u64 (wm .u64 (wand .u64 a 4294967295) (wand .u64 b 4294967295)) 32))) e0 (yY (yand e0 rfl) (Ya (.int .u64 (wand .u64 (wa .u64 (wm .u64 (wsrc .u64 a 32) (wand .u64 b 4294967295)) (wsrc .u64 (wm .u64 (wand .u64 a 4294967295) (wand .u64 b 4294967295)) 32)) 4294967295)) e0 (wK n (sR fun _ o => Ym (.int .u64 (wa .u64 (wm .u64 (wsrc .u64 a 32) (wand .u64 b 4294967295)) (wsrc .u64 (wm .u64 (wand .u64 a 4294967295) (wand .u64 b 4294967295)) 32))) e0 (yY (yshrc e0 rfl) (Ya (.int .u64 (wsrc .u64 (wa .u64 (wm .u64 (wsrc .u64 a 32) (wand .u64 b 4294967295)) (wsrc .u64 (wm .u64 (wand .u64 a 4294967295) (wand .u64 b 4294967295)) 32)) 32)) e0 (wK o (sR fun _ p => ?_))))))))
 refine Ym (.int .u64 (wand .u64 (wa .u64 (wm .u64 (wsrc .u64 a 32) (wand .u64 b 4294967295)) (wsrc .u64 (wm .u64 (wand .u64 a 4294967295) (wand .u64 b 4294967295)) 32)) 4294967295)) e0 (Ym (.int .u64 (wand .u64 a 4294967295)) e0 (Ym (.int .u64 (wsrc .u64 b 32)) e0 (yY (ymul e0 e0) (yY (yadd e0 e0) (Ya (.int .u64 (wa .u64 (wand .u64 (wa .u64 (wm .u64 (wsrc .u64 a 32) (wand .u64 b 4294967295)) (wsrc .u64 (wm .u64 (wand .u64 a 4294967295) (wand .u64 b 4294967295)) 32)) 4294967295) (wm .u64 (wand .u64 a 4294967295) (wsrc .u64 b 32)))) e0 (wK p (sR fun _ q => Ym (.int .u64 (wsrc .u64 a 32)) e0 (Ym (.int .u64 (wsrc .u64 b 32)) e0 (yY (ymul e0 e0) (Ym (.int .u64 (wsrc .u64 (wa .u64 (wm .u64 (wsrc .u64 a 32) (wand .u64 b 4294967295)) (wsrc .u64 (wm .u64 (wand .u64 a 4294967295) (wand .u64 b 4294967295)) 32)) 32)) e0 ?_))))))))))
 refine yY (yadd e0 e0) (Ym (.int .u64 (wa .u64 (wand .u64 (wa .u64 (wm .u64 (wsrc .u64 a 32) (wand .u64 b 4294967295)) (wsrc .u64 (wm .u64 (wand .u64 a 4294967295) (wand .u64 b 4294967295)) 32)) 4294967295) (wm .u64 (wand .u64 a 4294967295) (wsrc .u64 b 32)))) e0 (yY (yshrc e0 rfl) (yY (yadd e0 e0) (Ya (.int .u64 (wa .u64 (wa .u64 (wm .u64 (wsrc .u64 a 32) (wsrc .u64 b 32)) (wsrc .u64 (wa .u64 (wm .u64 (wsrc .u64 a 32) (wand .u64 b 4294967295)) (wsrc .u64 (wm .u64 (wand .u64 a 4294967295) (wand .u64 b 4294967295)) 32)) 32)) (wsrc .u64 (wa .u64 (wand .u64 (wa .u64 (wm .u64 (wsrc .u64 a 32) (wand .u64 b 4294967295)) (wsrc .u64 (wm .u64 (wand .u64 a 4294967295) (wand .u64 b 4294967295)) 32)) 4294967295) (wm .u64 (wand .u64 a 4294967295) (wsrc .u64 b 32))) 32))) e0 (wK q (sR fun _ r => Ym (.int .u64 a) e0 (Ym (.int .u64 b) e0 (yY (ymul e0 e0) (Ya (.int .u64 (wm .u64 a b)) e0 (wN ?_))))))))))
 refine r _ _ (wp_ret ?_)
 cases c
 exact f _ _ _ (fin2r Tryz.results125 ⟨rfl, rfl⟩ ⟨rfl, rfl⟩ ⟨rfl, d⟩)
theorem math_bits_Mul_ok {b c : Int} {out : Int × Int} (d : math_bits_Mul b c = some out) (f : St w0 ros rs w) :
  Calls Tryz.prog 102 #[.int .u64 b, .int .u64 c] w (fun e w => e = .returned (.tuple #[.int .u64 out.1, .int .u64 out.2]) ∧ St w0 ros rs w) := by
 refine enterQ Tryz.func102 rfl Tryz.ntmps102 rfl fun Q g => sR fun _ h => Ya (.int .u64 0) rfl (Ya (.int .u64 0) rfl (wK h (sQ fun _ i => condF rfl rfl (wp_skip (i _ _ (sR fun _ j => Ym (.int .u64 b) e0 ?_))))))
 refine Ym (.int .u64 c) e0 (bE d fun a k d => yC (yCall FN_125 (a2 e0 e0)) (math_bits_Mul64_ok k f) ?_)
 rintro _ w ⟨rfl, f⟩
 refine ⟨_, rfl, ?_⟩
 refine Ym (.tuple #[.int .u64 a.1, .int .u64 a.2]) e0 (yY (x_ (.int .u64 a.1) e0) (yY (x_ (.int .u64 a.2) e0) (Ya (.int .u64 a.1) e0 (Ya (.int .u64 a.2) e0 (wK j (sR fun _ l => Ym (.int .u64 a.1) e0 (Ym (.int .u64 a.2) e0 (Ya (.int .u64 a.1) e0 (Ya (.int .u64 a.2) e0 (wN ?_))))))))))
 refine l _ _ (wp_ret ?_)
 cases d
 exact g _ _ _ (fin2r Tryz.results102 ⟨rfl, rfl⟩ ⟨rfl, rfl⟩ ⟨rfl, f⟩)
theorem slices_Repeat_int_ok {o : LI} {l : Int} {k : Hdr} {out : LI} (c : slices_Repeat_int o l = some out) (t : imm I1 k.v o ∈ ros) (b : St w0 ros rs w) :
  Calls Tryz.prog 78 #[k.v, iV l] w (fun e w => ∃ (u : Hdr), e = .returned (u.v) ∧ St w0 ros (row 3 I1 u.v out :: rs) w) := by
 refine enterQ Tryz.func78 rfl Tryz.ntmps78 rfl fun Q z => sR fun _ k1 => Ya hnil.v rfl (wK k1 (sQ fun A k2 => sR fun _ B => Ym (iV l) e0 (yY (ylss e0 rfl) (wK B ?_))))
 have C : ∀ (f : FV) w, f 0 = k.v → f 1 = iV l → St w0 ros rs w → slices_Repeat_int_j1 o l = some out → A .normal (fr 48 f) w := by
  intro f w p D b c
  refine k2 _ _ (sR fun _ E => Ym k.v (eh p) (yY (yLen SL_22 e0 b (rdI t)) (yY (ycv (k' := .u64) (by kernel_rfl) (by kernel_rfl) e0) (Ym (iV l) (eh D) (yY (ycv (k' := .u64) (by kernel_rfl) (by kernel_rfl) e0) (bE c fun d F c => yC (yCall FN_102 (a2 e0 e0)) (math_bits_Mul_ok F b) ?_))))))
  rintro _ w ⟨rfl, b⟩
  refine ⟨_, rfl, ?_⟩
  refine Ym (.tuple #[.int .u64 d.1, .int .u64 d.2]) e0 (yY (x_ (.int .u64 d.1) e0) (yY (x_ (.int .u64 d.2) e0) (Ya (.int .u64 d.1) e0 (Ya (.int .u64 d.2) e0 (wK E (sQ fun G H => sR fun _ I => Ym (.int .u64 d.1) e0 (yY (ygtr e0 rfl) (Ym (.bool (decide ((0 : Int) < d.1))) e0 ?_))))))))
  refine joinW 3 (fun f w => f 0 = k.v ∧ f 6 = .int .u64 d.2 ∧ f 26 = .bool ((decide ((0 : Int) < d.1)) || (decide ((9223372036854775807 : Int) < d.2))) ∧ St w0 ros rs w) (fun x => ?_) ?_
  ·rcases Bool.eq_false_or_eq_true (decide ((0 : Int) < d.1)) with i | i
   ·exact gN i (gN i (yY (pt_ (.bool true) e0 i rfl) (x _ _ ⟨p, rfl, (congrArg Value.bool (orT i)), b⟩)))
   ·exact yG i (m_ (.int .u64 d.2) e0) (yG i (ygtr e0 rfl) (yY (pf_ (.bool (decide ((9223372036854775807 : Int) < d.2))) e0 i e0) (x _ _ ⟨p, rfl, (congrArg Value.bool (orF i)), b⟩)))
  rintro f w ⟨J, K, L, b⟩
  refine wK I ?_
  have N : ∀ (f : FV) w, f 0 = k.v → f 6 = .int .u64 d.2 → St w0 ros rs w → slices_Repeat_int_j3 d o = some out → G .normal (fr 48 f) w := by
   intro f w O R b c
   refine H _ _ (sR fun _ S => Ym (.int .u64 d.2) (eh R) (yY (ycv (k' := .i64) (by kernel_rfl) (by kernel_rfl) e0) (bE c fun c0 T c => yH (rMk b SL_22 e0 T) fun g w b => Ya g.v e0 (wK S (sR fun _ U => Ym g.v e0 ?_)))))
   refine Ym k.v (eh O) (bE c fun V W c => YV wn rfl (rCp b SL_22 rfl e0 (.inr ⟨rfl, rfl, rfl⟩) e0 (rdI t) W) fun w b => Ya (iV V.2) e0 (wK U (sQ fun _ X => blockQ fun Z a0 => bE c fun a1 a3 c => ?_)))
   have a4 : ∀ (q : LI) (f : FV) w, f 7 = g.v → St w0 ros (row 3 I1 g.v q :: rs) w → q = a1 → Z (.exit 0) (fr 48 f) w := by
    intro q f w a5 b ho
    subst ho
    refine a0 _ _ _ (X _ _ (sR fun _ a6 => Ym g.v (eh a5) (Ya g.v e0 (wK a6 (wp_ret ?_)))))
    cases c
    exact z _ _ _ (fin1r Tryz.results78 ⟨rfl, rfl⟩ ⟨_, rfl, b⟩)
   refine loopQ (fun s a w => ∃ (r : LI) (j : Int) (f : FV), (r, j) = s ∧ a = fr 48 f ∧ f 7 = g.v ∧ f 8 = iV j ∧ St w0 ros (row 3 I1 g.v r :: rs) w) a3 ⟨_, _, _, rfl, rfl, rfl, rfl, b⟩ ?_
   rintro _ _ w c1 ⟨r, j, f, rfl, rfl, m, n, b⟩ h a7 c2 a8 a9
   refine seqQ fun c3 b0 b1 => sR fun _ b2 => Ym (iV j) (eh n) (Ym g.v (eh m) (yY (yLen SL_22 e0 b rO0) (yY (ylss e0 e0) (wK b2 ?_))))
   refine cIf e0 h (fun b3 h => ?_) fun b3 h => ?_
   ·refine wp_skip (b0 _ _ (blockQ fun _ b4 => bE h fun c4 b5 h => bE h fun c5 y h => bE h fun b6 b7 h => dR [0, 0, 0, 6, 0, 0, 48, 126, 255, 511] [7, 9] 2 folM ?_))
    replace b := b.drew
    refine Dn [0, 1, 2, 3, 4, 5, 6] [] [7] (yR rfl (m_ (iV j) (eh n)) (yR rfl (m_ g.v (eh m)) (yR rfl (m_ (iV j) (eh n)) (yR rfl (ySl (k2 := .i64) SL_22 e0 b rO0 (.inl (congrArg some e0)) (.inr ⟨rfl, rfl⟩) b5) (yR rfl (m_ g.v (eh m)) (yR rfl (m_ (iV j) (eh n)) (yR rfl (ySl (k1 := .i64) SL_22 e0 b rO0 (.inr ⟨rfl, rfl⟩) (.inl (congrArg some e0)) y) (Rn QSn ?_))))))))
    refine Lc1 rfl ?_
    refine LV wn (rCp b SL_22 rfl e0 (.inl rfl) e0 (rdSub rO0 y) b7) fun w b => Dn [8] [0] [9] (yR rfl (yadd e0 e0) (Rn (yS rfl (m_ (iV j) (eh n)) QSn) ?_))
    refine Lc1 rfl ?_
    refine Ly wn (a_ (iV (wa .i64 j b6.2)) e0) (Dz [] [] (Rn QSn (b4 _ _ _ ?_)))
    cases h
    exact a8 _ _ _ rfl ⟨_, _, _, rfl, rfl, m, rfl, b⟩
   ·refine wp_exit (b1 _ _ _ rfl ?_)
    cases h
    exact a9 _ _ _ _ rfl rfl (a4 _ _ _ m b (a7 _ rfl))
  refine cB (eh L) c (fun b8 c => ?_) fun b8 c => ?_
  ·cases c
  ·exact wp_skip (N _ _ J K b c)
 refine cIf e0 c (fun b9 c => ?_) fun b9 c => ?_
 ·cases c
 ·exact wp_skip (C _ _ rfl rfl b c)
theorem blocks_places_ok {q : LI} {j : Int} {o : Hdr} {out : LI × Bool} (m : blocks_places q j = some out) (u : imm I1 o.v q ∈ ros) (b : St w0 ros rs w) :
  Calls Tryz.prog 53 #[o.v, iV j] w (fun e w => ∃ (G : Hdr), e = .returned (.tuple #[G.v, .bool out.2]) ∧ St w0 ros (row 3 I1 G.v out.1 :: rs) w) := by
 refine enterQ Tryz.func53 rfl Tryz.ntmps53 rfl fun Q x => sR fun _ a3 => Ya hnil.v rfl (Ya (.bool false) rfl (wK a3 (sR fun _ a4 => yH (rLt (n := 1) (l := [(-1)]) b SL_22 [iV (-1)] (bp1 rfl) rfl rfl (mks1 (cs := [iV (-1)]) rfl mkI mks0)) fun e5 w b => Ym (iV j) e0 (bE m fun e6 a5 m => ?_))))
 replace b := b.fz
 refine yC (yCall FN_78 (a2 e0 e0)) (slices_Repeat_int_ok a5 F0 b) ?_
 rintro _ w ⟨g, rfl, b⟩
 refine ⟨_, rfl, ?_⟩
 refine Ya g.v e0 (wK a4 (seqQ fun e7 a6 a7 => sR fun _ a8 => Ym o.v e0 (yY (yLen SL_22 e0 b (rdI (mtF u))) (Ym (iV j) e0 (yY (yneq e0 e0) (wK a8 ?_))))))
 rcases iteS m with ⟨y, m⟩ | ⟨y, m⟩
 ·refine condF e0 (nF (dT y)) (wp_skip (a6 _ _ (seqQ fun e8 a9 b0 => sR fun _ b1 => Ym o.v e0 (yY (yLen SL_22 e0 b (rdI (mtF u))) (Ym (iV 0) rfl (wK b1 (blockQ fun H I => bE m fun J b2 m => ?_)))))))
  have b3 : ∀ (z : LI) (f : FV) w, f 6 = g.v → St w0 ros (row 3 I1 g.v z :: rs) w → .inl z = J → H (.exit 0) (fr 43 f) w := by
   intro z f w b4 b ho
   subst ho
   refine I _ _ _ (a9 _ _ (sR fun _ b5 => Ym g.v (eh b4) (Ya g.v e0 (Ya (.bool true) rfl (wK b5 (wp_ret ?_))))))
   cases m
   exact x _ _ _ (fin2r Tryz.results53 ⟨rfl, rfl⟩ ⟨rfl, rfl⟩ ⟨_, rfl, b⟩)
  have b6 : ∀ (f : FV) w, f 4 = hnil.v → f 5 = .bool false → St w0 ros rs w → .inr () = J → H .ret (fr 43 f) w := by
   intro f w b7 b8 b ho
   subst ho
   refine I _ _ _ (b0 _ _ _ rfl ?_)
   cases m
   replace b := b.rowNh 3 I1
   exact x _ _ _ (fin2r Tryz.results53 ⟨rfl, b7⟩ ⟨rfl, b8⟩ ⟨_, rfl, b⟩)
  refine loopQ (fun s a w => ∃ (r : LI) (i : Int) (f : FV), (r, i) = s ∧ a = fr 43 f ∧ f 1 = iV j ∧ f 6 = g.v ∧ f 16 = o.v ∧ f 17 = iV (q.length : Int) ∧ f 18 = iV i ∧ St w0 ros (row 3 I1 g.v r :: rs) w) b2 ⟨_, _, _, rfl, rfl, rfl, rfl, rfl, rfl, rfl, (b.facts (allT allI))⟩ ?_
  rintro _ _ w e9 ⟨r, i, f, rfl, rfl, A, B, C, D, t, b⟩ c K f0 b9 L
  refine sR fun _ c0 => yY (ylss (eh t) (eh D)) (wK c0 (seqQ fun f1 c1 c2 => ?_))
  refine cIf e0 c (fun c3 c => ?_) fun c3 c => ?_
  ·refine wp_skip (c1 _ _ (seqQ fun f2 c4 c5 => blockQ fun _ N => sR fun _ c6 => Ym (iV i) (eh t) (bE c fun d O c => yY (yIa SL_22 (eh C) (eh t) b (rdI u) O) (yY (yI O_3 e0 b (rdI u) O) (Ya (iV i) e0 (Ya (iV d) e0 (wK c6 ?_)))))))
   refine seqQ fun f3 c8 c9 => sR fun _ d0 => Ym (iV d) e0 (yY (ylss e0 rfl) (Ym (.bool (decide (d < 0))) e0 ?_))
   refine joinW 4 (fun f w => f 1 = iV j ∧ f 6 = g.v ∧ f 7 = iV i ∧ f 8 = iV d ∧ f 16 = o.v ∧ f 17 = iV (q.length : Int) ∧ f 18 = iV i ∧ f 29 = .bool ((decide (d < 0)) || (decide (j ≤ d))) ∧ St w0 ros (row 3 I1 g.v r :: rs) w) (fun R => ?_) ?_
   ·rcases Bool.eq_false_or_eq_true (decide (d < 0)) with k | k
    ·exact gN k (gN k (gN k (yY (pt_ (.bool true) e0 k rfl) (R _ _ ⟨A, B, rfl, rfl, C, D, t, (congrArg Value.bool (orT k)), b⟩))))
    ·exact yG k (m_ (iV d) e0) (yG k (m_ (iV j) (eh A)) (yG k (ygeq e0 e0) (yY (pf_ (.bool (decide (j ≤ d))) e0 k e0) (R _ _ ⟨A, B, rfl, rfl, C, D, t, (congrArg Value.bool (orF k)), b⟩))))
   rintro f w ⟨S, E, T, F, U, V, W, d1, b⟩
   refine Ym (.bool ((decide (d < 0)) || (decide (j ≤ d)))) (eh d1) (bE c fun d2 p c => ?_)
   refine joinW 6 (fun f w => f 1 = iV j ∧ f 6 = g.v ∧ f 7 = iV i ∧ f 8 = iV d ∧ f 16 = o.v ∧ f 17 = iV (q.length : Int) ∧ f 18 = iV i ∧ f 36 = .bool d2 ∧ St w0 ros (row 3 I1 g.v r :: rs) w) (fun X => ?_) ?_
   ·rcases iteS p with ⟨h, p⟩ | ⟨h, p⟩
    ·refine gN h (gN h (gN h (gN h (gN h (yY (pt_ (.bool true) e0 h rfl) ?_)))))
     cases p
     exact X _ _ ⟨S, E, T, F, U, V, W, rfl, b⟩
    ·refine yG (bfalse h) (m_ g.v (eh E)) (yG (bfalse h) (m_ (iV d) (eh F)) (bE p fun d3 Z p => yG (bfalse h) (yIa SL_22 e0 e0 b rO0 Z) (yG (bfalse h) (yI O_3 e0 b rO0 Z) (yG (bfalse h) (ygeq e0 rfl) (yY (pf_ (.bool (decide ((0 : Int) ≤ d3))) e0 (bfalse h) e0) ?_)))))
     cases p
     exact X _ _ ⟨S, E, T, F, U, V, W, rfl, b⟩
   rintro f w ⟨d4, a0, d5, d6, d7, d8, d9, e1, b⟩
   refine wK d0 (cB (eh e1) c (fun e2 c => ?_) fun e2 c => ?_)
   ·refine sR fun _ e3 => Ya hnil.v rfl (Ya (.bool false) rfl (wK e3 (wp_ret (c9 _ _ _ rfl (N _ _ _ (c5 _ _ _ rfl ?_))))))
    cases c
    exact L _ _ _ _ rfl rfl (b6 _ _ rfl rfl (b.k10) (K _ rfl))
   ·refine wp_skip (c8 _ _ (wR (Ym g.v (eh a0) (Ym (iV d) (eh d6) (Ym (iV i) (eh d5) (bE c fun f4 a1 c => yY (yIs SL_22 e0 e0 b rO0 a1) (yT (r_sti (cs := [iV i]) b O_3 rfl e0 e0 rfl mkI a1) fun w b => wN (N _ _ _ (c4 _ _ (wR ?_))))))))))
    refine yY (yadd (eh d9) rfl) (Ym (iV (wa .i64 i 1)) e0 (wN ?_))
    cases c
    exact b9 _ _ _ rfl ⟨_, _, _, rfl, rfl, d4, a0, d7, d8, rfl, b⟩
  ·refine wp_exit (c2 _ _ _ rfl ?_)
   cases c
   exact L _ _ _ _ rfl rfl (b3 _ _ _ B b (K _ rfl))
 ·refine condT e0 (nT (dF y)) (sR fun _ e4 => Ya hnil.v rfl (Ya (.bool false) rfl (wK e4 (wp_ret (a7 _ _ _ rfl ?_)))))
  cases m
  replace b := b.rowNh 3 I1
  exact x _ _ _ (fin2r Tryz.results53 ⟨rfl, rfl⟩ ⟨rfl, rfl⟩ ⟨_, rfl, ((b.k1f).facts (allT allI))⟩)
theorem blocks_blockOf_ok {q : LI} {k : Int} {g : Hdr} {out : LI × Bool} (h : blocks_blockOf q k = some out) (j : imm I1 g.v q ∈ ros) (b : St w0 ros rs w) :
  Calls Tryz.prog 54 #[g.v, iV k] w (fun e w => ∃ (L : Hdr), e = .returned (.tuple #[L.v, .bool out.2]) ∧ St w0 ros (row 3 I1 L.v out.1 :: rs) w) := by
 refine enterQ Tryz.func54 rfl Tryz.ntmps54 rfl fun Q C => sR fun _ b0 => Ya hnil.v rfl (Ya (.bool false) rfl (wK b0 (seqQ fun f7 k2 b1 => sR fun _ b2 => Ym g.v e0 (yY (yLen SL_22 e0 b (rdI j)) (yY (yeql e0 rfl) (Ym (.bool (decide ((q.length : Int) = 0))) e0 ?_))))))
 refine bE h fun N r h => ?_
 refine joinW 5 (fun f w => f 0 = g.v ∧ f 1 = iV k ∧ f 17 = .bool N ∧ St w0 ros rs w) (fun O => ?_) ?_
 ·rcases iteS r with ⟨m, r⟩ | ⟨m, r⟩
  ·refine gN (dT m) (gN (dT m) (gN (dT m) (gN (dT m) (yY (pt_ (.bool true) e0 (dT m) rfl) ?_))))
   cases r
   exact O _ _ ⟨rfl, rfl, rfl, b⟩
  ·refine yG (dF m) (m_ g.v e0) (bE r fun b3 R r => yG (dF m) (yIa SL_22 e0 rfl b (rdI j) R) (yG (dF m) (yI O_3 e0 b (rdI j) R) (yG (dF m) (yneq e0 rfl) (yY (pf_ (.bool (!(decide (b3 = 0)))) e0 (dF m) e0) ?_))))
   cases r
   exact O _ _ ⟨rfl, rfl, rfl, b⟩
 rintro f w ⟨z, D, b4, b⟩
 refine Ym (.bool N) (eh b4) (bE h fun b5 t h => ?_)
 refine joinW 9 (fun f w => f 0 = g.v ∧ f 1 = iV k ∧ f 27 = .bool b5 ∧ St w0 ros rs w) (fun S => ?_) ?_
 ·rcases iteS t with ⟨c, t⟩ | ⟨c, t⟩
  ·refine gN c (gN c (gN c (gN c (gN c (gN c (gN c (gN c (yY (pt_ (.bool true) e0 c rfl) ?_))))))))
   cases t
   exact S _ _ ⟨z, D, rfl, b⟩
  ·refine yG (bfalse c) (m_ g.v (eh z)) (yG (bfalse c) (m_ g.v (eh z)) (yG (bfalse c) (yLen SL_22 e0 b (rdI j)) (yG (bfalse c) (ysub e0 rfl) (bE t fun b6 T t => yG (bfalse c) (yIa SL_22 e0 e0 b (rdI j) T) (yG (bfalse c) (yI O_3 e0 b (rdI j) T) (yG (bfalse c) (m_ (iV k) (eh D)) (yG (bfalse c) (yneq e0 e0) (yY (pf_ (.bool (!(decide (b6 = k)))) e0 (bfalse c) e0) ?_))))))))
   cases t
   exact S _ _ ⟨z, D, rfl, b⟩
 rintro f w ⟨U, b7, b8, b⟩
 refine wK b2 (cB (eh b8) h (fun b9 h => ?_) fun b9 h => ?_)
 ·refine sR fun _ c0 => Ya hnil.v rfl (Ya (.bool false) rfl (wK c0 (wp_ret (b1 _ _ _ rfl ?_))))
  cases h
  replace b := b.rowNh 3 I1
  exact C _ _ _ (fin2r Tryz.results54 ⟨rfl, rfl⟩ ⟨rfl, rfl⟩ ⟨_, rfl, b⟩)
 ·refine wp_skip (k2 _ _ (sR fun _ c1 => Ya hnil.v rfl (wK c1 (seqQ fun f8 c2 c3 => sR fun _ c4 => Ym g.v (eh U) (bE h fun A V h => yY (ySl (k2 := .i64) SL_22 e0 b (rdI j) (.inl (congrArg some rfl)) (.inr ⟨rfl, rfl⟩) V) ?_)))))
  replace b := b.sub j V
  refine yY (yLen SL_22 e0 b (rdI F0)) (Ym (iV 0) rfl (wK c4 (blockQ fun W X => bE h fun Z c5 h => ?_)))
  have c6 : ∀ (E : LI) (x : Hdr) (f : FV) w, f 6 = x.v → St w0 ros (row 3 I1 x.v E :: rs) w → .inl E = Z → W (.exit 0) (fr 60 f) w := by
   intro E x f w c8 b ho
   subst ho
   refine X _ _ _ (c2 _ _ (sR fun _ c9 => Ym x.v (eh c8) (Ya x.v e0 (Ya (.bool true) rfl (wK c9 (wp_ret ?_))))))
   cases h
   exact C _ _ _ (fin2r Tryz.results54 ⟨rfl, rfl⟩ ⟨rfl, rfl⟩ ⟨_, rfl, b⟩)
  have d0 : ∀ (f : FV) w, f 4 = hnil.v → f 5 = .bool false → St w0 ros rs w → .inr () = Z → W .ret (fr 60 f) w := by
   intro f w d1 d2 b ho
   subst ho
   refine X _ _ _ (c3 _ _ _ rfl ?_)
   cases h
   replace b := b.rowNh 3 I1
   exact C _ _ _ (fin2r Tryz.results54 ⟨rfl, d1⟩ ⟨rfl, d2⟩ ⟨_, rfl, b⟩)
  replace b := b.rowNh 3 I1
  refine loopQ (fun s a w => ∃ (B : LI) (i : Int) (f : FV) (u : Hdr), (B, i) = s ∧ a = fr 60 f ∧ f 0 = g.v ∧ f 1 = iV k ∧ f 6 = u.v ∧ f 29 = (subH g 1 1 (q.length : Int)).v ∧ f 30 = iV (A.length : Int) ∧ f 31 = iV i ∧ St w0 (imm I1 (subH g 1 1 (q.length : Int)).v A :: ros) (row 3 I1 u.v B :: rs) w) c5 ⟨_, _, _, _, rfl, rfl, U, b7, rfl, rfl, rfl, rfl, b⟩ ?_
  rintro _ _ w f9 ⟨B, i, f, u, rfl, rfl, F, G, H, I, J, y, b⟩ d a0 g0 d3 a1
  refine sR fun _ d4 => yY (ylss (eh y) (eh J)) (wK d4 (seqQ fun g1 d5 d6 => ?_))
  refine cIf e0 d (fun d7 d => ?_) fun d7 d => ?_
  ·refine wp_skip (d5 _ _ (seqQ fun g2 d8 d9 => blockQ fun _ a3 => sR fun _ e1 => Ym (iV i) (eh y) (bE d fun p a4 d => yY (yIa SL_22 (eh I) (eh y) b (rdI F0) a4) (yY (yI O_3 e0 b (rdI F0) a4) (Ya (iV i) e0 (Ya (iV p) e0 (wK e1 ?_)))))))
   refine seqQ fun g3 e2 e3 => sR fun _ e4 => Ym (iV p) e0 (Ym g.v (eh F) (Ym (iV i) e0 (bE d fun K a5 d => yY (yIa SL_22 e0 e0 b (rdI (mtF j)) a5) (yY (yI O_3 e0 b (rdI (mtF j)) a5) (yY (yleq e0 e0) (Ym (.bool (decide (p ≤ K))) e0 ?_))))))
   refine joinW 4 (fun f w => f 0 = g.v ∧ f 1 = iV k ∧ f 6 = u.v ∧ f 7 = iV i ∧ f 8 = iV p ∧ f 29 = (subH g 1 1 (q.length : Int)).v ∧ f 30 = iV (A.length : Int) ∧ f 31 = iV i ∧ f 46 = .bool ((decide (p ≤ K)) || (decide (k < p))) ∧ St w0 (imm I1 (subH g 1 1 (q.length : Int)).v A :: ros) (row 3 I1 u.v B :: rs) w) (fun a6 => ?_) ?_
   ·rcases Bool.eq_false_or_eq_true (decide (p ≤ K)) with o | o
    ·exact gN o (gN o (gN o (yY (pt_ (.bool true) e0 o rfl) (a6 _ _ ⟨F, G, H, rfl, rfl, I, J, y, (congrArg Value.bool (orT o)), b⟩))))
    ·exact yG o (m_ (iV p) e0) (yG o (m_ (iV k) (eh G)) (yG o (ygtr e0 e0) (yY (pf_ (.bool (decide (k < p))) e0 o e0) (a6 _ _ ⟨F, G, H, rfl, rfl, I, J, y, (congrArg Value.bool (orF o)), b⟩))))
   rintro f w ⟨a7, e5, e6, a8, e7, e8, e9, f0, f1, b⟩
   refine wK e4 (cB (eh f1) d (fun f2 d => ?_) fun f2 d => ?_)
   ·refine sR fun _ f3 => Ya hnil.v rfl (Ya (.bool false) rfl (wK f3 (wp_ret (e3 _ _ _ rfl (a3 _ _ _ (d9 _ _ _ rfl ?_))))))
    cases d
    exact a1 _ _ _ _ rfl rfl (d0 _ _ rfl rfl ((b.k10).facts (allT allI)) (a0 _ rfl))
   ·refine wp_skip (e2 _ _ (wR (Ym u.v (eh e6) (Ym (iV i) (eh a8) (yH (rLt (n := 1) (l := [i]) b SL_22 [iV i] (bp1 e0) rfl rfl (mks1 (cs := [iV i]) rfl mkI mks0)) fun g4 w b => Ym (iV p) (eh e7) (Ym g.v (eh a7) (Ym (iV i) (eh a8) (bE d fun g5 a9 d => yY (yIa SL_22 e0 e0 b (rdI (mtF j)) a9) (yY (yI O_3 e0 b (rdI (mtF j)) a9) (yY (ysub e0 e0) ?_))))))))))
    refine bE d fun g6 f4 d => ?_
    replace b := b.fz
    refine yC (yCall FN_78 (a2 e0 e0)) (slices_Repeat_int_ok f4 F0 b) ?_
    rintro _ w ⟨g7, rfl, b⟩
    refine ⟨_, rfl, ?_⟩
    refine bE d fun g8 f5 d => yH (rAp (b.k11) SL_22 e0 e0 rO1 f5) fun f6 w b => Ya f6.v e0 (wN (a3 _ _ _ (d8 _ _ (wR (yY (yadd (eh f0) rfl) (Ym (iV (wa .i64 i 1)) e0 (wN ?_)))))))
    cases d
    exact d3 _ _ _ rfl ⟨_, _, _, _, rfl, rfl, a7, e5, rfl, e8, e9, rfl, ((b.k1f).facts (allC F1 (allT (allT allI))))⟩
  ·refine wp_exit (d6 _ _ _ rfl ?_)
   cases d
   exact a1 _ _ _ _ rfl rfl (c6 _ _ _ _ H (b.facts (allT allI)) (a0 _ rfl))
theorem blocks_Check_ok {o g : Int} {G H I J K L : LI} {p q r t u x : Hdr} {out : Int} (c : blocks_Check o g G H I J K L = some out) (N : imm I1 p.v G ∈ ros) (O : imm I1 q.v H ∈ ros) (R : imm (rI .u64) r.v I ∈ ros) (b6 : imm I1 t.v J ∈ ros) (b7 : imm I1 u.v K ∈ ros) (b8 : imm I1 x.v L ∈ ros) (b : St w0 ros rs w) :
  Calls Tryz.prog 24 #[.agg #[iV o, iV g, p.v, q.v, r.v], .agg #[t.v, u.v, x.v]] w (fun e w => e = .returned (iV out) ∧ St w0 ros rs w) := by
 refine enterQ Tryz.func24 rfl Tryz.ntmps24 rfl fun Q y => sR fun _ b9 => yBb (r_box (vals := [iV o, iV g, p.v, q.v, r.v]) b e0 rfl) fun S w b => yBb (r_box (vals := [t.v, u.v, x.v]) b e0 rfl) fun T w b => Ya (iV 0) rfl (wK b9 (sR fun _ c0 => yY (lbs_ [iV o, iV g, p.v, q.v, r.v] ST_27 e0 b R1) (bE c fun A c1 c => ?_)))
 refine yC (yCall FN_44 (a1 e0)) (blocks_square_ok c1 N O R b) ?_
 rintro _ w ⟨rfl, b⟩
 refine ⟨_, rfl, ?_⟩
 refine Ya (iV A) e0 (wK c0 (seqQ fun g6 c2 c3 => sR fun _ c4 => Ym (iV A) e0 (yY (yneq e0 rfl) (wK c4 ?_))))
 rcases iteS c with ⟨C, c⟩ | ⟨C, c⟩
 ·refine condF e0 (nF (dT C)) (wp_skip (c2 _ _ (sR fun _ c5 => yY (yFb FL_36_0 e0) (yY (lb_ t.v O_22 e0 b R0) (yY (yFb FL_27_1 e0) (yY (lb_ (iV g) O_3 e0 b R1) (bE c fun h c6 c => yC (yCall FN_53 (a2 e0 e0)) (blocks_places_ok c6 b6 b) ?_)))))))
  rintro _ w ⟨j, rfl, b⟩
  refine ⟨_, rfl, ?_⟩
  refine Ym (.tuple #[j.v, .bool h.2]) e0 (yY (x_ j.v e0) (yY (x_ (.bool h.2) e0) (Ya j.v e0 (Ya (.bool h.2) e0 (wK c5 (sR fun _ c7 => yY (yFb FL_36_1 e0) (yY (lb_ u.v O_22 e0 b R1) (yY (yFb FL_27_1 e0) (yY (lb_ (iV g) O_3 e0 b R2) (bE c fun k c8 c => ?_))))))))))
  refine yC (yCall FN_53 (a2 e0 e0)) (blocks_places_ok c8 b7 b) ?_
  rintro _ w ⟨l, rfl, b⟩
  refine ⟨_, rfl, ?_⟩
  refine Ym (.tuple #[l.v, .bool k.2]) e0 (yY (x_ l.v e0) (yY (x_ (.bool k.2) e0) (Ya l.v e0 (Ya (.bool k.2) e0 (wK c7 (seqQ fun g7 c9 d0 => sR fun _ d1 => Ym (.bool h.2) e0 (yY (ynot e0) (Ym (.bool (!h.2)) e0 ?_))))))))
  refine joinW 3 (fun f w => f 2 = (pB S) ∧ f 3 = (pB T) ∧ f 6 = j.v ∧ f 8 = l.v ∧ f 39 = .bool ((!h.2) || (!k.2)) ∧ St w0 ros (box S 27 [iV o, iV g, p.v, q.v, r.v] :: box T 36 [t.v, u.v, x.v] :: row 3 I1 j.v h.1 :: row 3 I1 l.v k.1 :: rs) w) (fun U => ?_) ?_
  ·rcases Bool.eq_false_or_eq_true (!h.2) with i | i
   ·exact gN i (gN i (yY (pt_ (.bool true) e0 i rfl) (U _ _ ⟨rfl, rfl, rfl, rfl, (congrArg Value.bool (orT i)), (b.k2g)⟩)))
   ·exact yG i (m_ (.bool k.2) e0) (yG i (ynot e0) (yY (pf_ (.bool (!k.2)) e0 i e0) (U _ _ ⟨rfl, rfl, rfl, rfl, (congrArg Value.bool (orF i)), (b.k2g)⟩)))
  rintro f w ⟨V, d2, d3, d4, d5, b⟩
  refine wK d1 (cB (eh d5) c (fun d6 c => ?_) fun d6 c => ?_)
  ·refine sR fun _ d7 => Ya (iV 90) rfl (wK d7 (wp_ret (d0 _ _ _ rfl ?_)))
   cases c
   exact y _ _ _ (fin1r Tryz.results24 ⟨rfl, rfl⟩ ⟨rfl, (b.k2h)⟩)
  ·refine wp_skip (c9 _ _ (sR fun _ d8 => yY (yFb FL_36_2 (eh d2)) (yY (lb_ x.v O_22 e0 b R1) (yY (yFb FL_27_1 (eh V)) (yY (lb_ (iV g) O_3 e0 b R0) (bE c fun z d9 c => yC (yCall FN_54 (a2 e0 e0)) (blocks_blockOf_ok d9 b8 b) ?_))))))
   rintro _ w ⟨n, rfl, b⟩
   refine ⟨_, rfl, ?_⟩
   refine Ym (.tuple #[n.v, .bool z.2]) e0 (yY (x_ n.v e0) (yY (x_ (.bool z.2) e0) (Ya n.v e0 (Ya (.bool z.2) e0 (wK d8 (seqQ fun g8 e1 e2 => sR fun _ e3 => Ym (.bool z.2) e0 (yY (ynot e0) (wK e3 ?_))))))))
   rcases iteS c with ⟨D, c⟩ | ⟨D, c⟩
   ·refine condF e0 (nF D) (wp_skip (e1 _ _ (seqQ fun g9 e4 e5 => sR fun _ e6 => yY (lbs_ [iV o, iV g, p.v, q.v, r.v] ST_27 (eh V) b R1) (bE c fun W e7 c => yC (yCall FN_55 (a1 e0)) (matrix_Entries_ok e7 N O R b) ?_))))
    rintro _ w ⟨X, rfl, b⟩
    refine ⟨_, rfl, ?_⟩
    refine yY (yLen SL_44 e0 b rO0) (Ym (iV 0) rfl (wK e6 (blockQ fun Z a0 => bE c fun a3 e8 c => ?_)))
    have e9 : ∀ (f : FV) w, St w0 ros rs w → .inl () = a3 → Z (.exit 0) (fr 75 f) w := by
     intro f w b ho
     subst ho
     refine a0 _ _ _ (e4 _ _ (sR fun _ f0 => Ya (iV 0) rfl (wK f0 (wp_ret ?_))))
     cases c
     exact y _ _ _ (fin1r Tryz.results24 ⟨rfl, rfl⟩ ⟨rfl, b⟩)
    have f1 : ∀ (f : FV) w, f 4 = iV 150 → St w0 ros rs w → .inr () = a3 → Z .ret (fr 75 f) w := by
     intro f w f2 b ho
     subst ho
     refine a0 _ _ _ (e5 _ _ _ rfl ?_)
     cases c
     exact y _ _ _ (fin1r Tryz.results24 ⟨rfl, f2⟩ ⟨rfl, b⟩)
    refine loopQ (fun s a w => ∃ (B : Int) (f : FV), B = s ∧ a = fr 75 f ∧ f 6 = j.v ∧ f 8 = l.v ∧ f 10 = n.v ∧ f 51 = X.v ∧ f 52 = iV (W.length : Int) ∧ f 53 = iV B ∧ St w0 ros (row 3 I1 j.v h.1 :: row 3 I1 l.v k.1 :: row 3 I1 n.v z.1 :: row 49 rTi64i64u64 X.v W :: rs) w) e8 ⟨_, _, rfl, rfl, d3, d4, rfl, rfl, rfl, rfl, (b.k2i)⟩ ?_
    rintro _ _ w h0 ⟨B, f, rfl, rfl, a4, a5, E, a6, a7, F, b⟩ d a8 h1 f3 a9
    refine sR fun _ f4 => yY (ylss (eh F) (eh a7)) (wK f4 (seqQ fun h2 f5 f6 => ?_))
    refine cIf e0 d (fun f7 d => ?_) fun f7 d => ?_
    ·refine wp_skip (f5 _ _ (seqQ fun h3 f8 f9 => blockQ fun _ b0 => sR fun _ g0 => bE d fun m b1 d => yY (yIa SL_44 (eh a6) (eh F) b rO3 b1) (yY (yFn ST_49 e0 b rO3 b1 rfl) (yBb (rAl b ZT_49) fun h5 w b => yT (r_stbn (vals' := [iV m.1, iV m.2.1, .int .u64 m.2.2]) (us := [iV m.1, iV m.2.1, .int .u64 m.2.2]) b ST_49 e0 e0 rfl rfl (one_of rfl) rfl) fun w b => wN ?_))))
     refine g0 _ _ (sQ fun _ g1 => bE d fun h7 b2 d => bE d fun h9 b3 d => bE d fun i0 b4 d => bE d fun i1 b5 d => dR [0, 0, 0, 4, 14, 30, 63, 127, 0, 0, 0, 1024, 3584, 7680, 16128, 32512, 65535] [] 0 folM ?_)
     replace b := b.drew
     refine Dz [0, 1, 2, 3, 4, 5, 6, 7, 8, 9, 10, 11, 12, 13, 14, 15, 16] [] (yR rfl (m_ n.v (eh E)) (yR rfl (m_ j.v (eh a4)) (yR rfl (yFb FL_49_0 e0) (yR rfl (lb_ (iV m.1) O_3 e0 b R0) (yR rfl (yIa SL_22 e0 e0 b rO1 b2) (yR rfl (yI O_3 e0 b rO1 b2) (yR rfl (yIa SL_22 e0 e0 b rO3 b3) (yR rfl (yI O_3 e0 b rO3 b3) (yR rfl (m_ n.v (eh E)) (yR rfl (m_ l.v (eh a5)) (yR rfl (yFb FL_49_1 e0) (yR rfl (lb_ (iV m.2.1) O_3 e0 b R0) (yR rfl (yIa SL_22 e0 e0 b rO2 b4) ?_)))))))))))))
     refine yR rfl (yI O_3 e0 b rO2 b4) (yR rfl (yIa SL_22 e0 e0 b rO3 b5) (yR rfl (yI O_3 e0 b rO3 b5) (yR rfl (ygtr e0 e0) (Rn QSn (g1 _ _ ?_)))))
     refine cIf e0 d (fun g2 d => ?_) fun g2 d => ?_
     ·refine sR fun _ g3 => Ya (iV 150) rfl (wK g3 (wp_ret (b0 _ _ _ (f9 _ _ _ rfl ?_))))
      cases d
      exact a9 _ _ _ _ rfl rfl (f1 _ _ rfl (b.k2j) (a8 _ rfl))
     ·refine wp_skip (b0 _ _ _ (f8 _ _ (wR (yY (yadd (eh F) rfl) (Ym (iV (wa .i64 B 1)) e0 (wN ?_))))))
      cases d
      exact f3 _ _ _ rfl ⟨_, _, rfl, rfl, a4, a5, E, a6, a7, rfl, (b.k2k)⟩
    ·refine wp_exit (f6 _ _ _ rfl ?_)
     cases d
     exact a9 _ _ _ _ rfl rfl (e9 _ _ (b.k2h) (a8 _ rfl))
   ·refine condT e0 (nT (bfalse D)) (sR fun _ g4 => Ya (iV 150) rfl (wK g4 (wp_ret (e2 _ _ _ rfl ?_))))
    cases c
    exact y _ _ _ (fin1r Tryz.results24 ⟨rfl, rfl⟩ ⟨rfl, (b.k2j)⟩)
 ·refine condT e0 (nT (dF C)) (sR fun _ g5 => Ym (iV A) e0 (Ya (iV A) e0 (wK g5 (wp_ret (c3 _ _ _ rfl ?_)))))
  cases c
  exact y _ _ _ (fin1r Tryz.results24 ⟨rfl, rfl⟩ ⟨rfl, (b.k1z)⟩)
theorem sparselaw15_awake_ok {out : Bool} (k : sparselaw15_awake = some out) (a : St w0 ros rs w) :
  Calls Tryz.prog 9 #[] w (fun e w => e = .returned (.bool out) ∧ St w0 ros rs w) := by
 refine enterQ Tryz.func9 rfl Tryz.ntmps9 rfl fun Q a5 => sR fun _ a6 => Ya (.bool false) rfl (wK a6 (sR fun _ a7 => yH (rLt (n := 3) (l := [0, 1, 3]) a SL_22 [iV 0, iV 1, iV 3] (bp3 rfl rfl rfl) rfl rfl (mks1 (cs := [iV 0]) rfl mkI (mks1 (cs := [iV 1]) rfl mkI (mks1 (cs := [iV 3]) rfl mkI mks0)))) fun d w a => yH (rLt (n := 3) (l := [0, 0, 1]) a SL_22 [iV 0, iV 0, iV 1] (bp3 rfl rfl rfl) rfl rfl (mks1 (cs := [iV 0]) rfl mkI (mks1 (cs := [iV 0]) rfl mkI (mks1 (cs := [iV 1]) rfl mkI mks0)))) fun g w a => yH (rLt (n := 3) (l := [0, 0, 0]) a SL_25 [.int .u64 0, .int .u64 0, .int .u64 0] (bp3 rfl rfl rfl) rfl rfl (mks1 (cs := [.int .u64 0]) rfl mkI (mks1 (cs := [.int .u64 0]) rfl mkI (mks1 (cs := [.int .u64 0]) rfl mkI mks0)))) fun h w a => ?_))
 refine yY (ybuild (us := [iV 2, iV 2, d.v, g.v, h.v]) [(0, iV 2), (1, iV 2), (2, d.v), (3, g.v), (4, h.v)] SO_27 (bp5 rfl rfl e0 e0 e0) rfl) (yBb (rAl a ZT_27) fun B w a => yT (r_stbn (vals' := [iV 2, iV 2, d.v, g.v, h.v]) (us := [iV 2, iV 2, d.v, g.v, h.v]) a ST_27 e0 e0 rfl rfl (one_of rfl) rfl) fun w a => wK a7 (sR fun _ a8 => yY (lbs_ [iV 2, iV 2, d.v, g.v, h.v] ST_27 e0 a R0) (bE k fun c a9 k => ?_)))
 replace a := (((((a.k14).fz).k17).fz).k11).fz
 refine yC (yCall FN_15 (a1 e0)) (blocks_Triangular_ok a9 F2 F1 F0 a) ?_
 rintro _ w ⟨m, i, j, rfl, a⟩
 refine ⟨_, rfl, ?_⟩
 refine Ym (.tuple #[.agg #[m.v, i.v, j.v], iV c.2.2.2]) e0 (yY (x_ (.agg #[m.v, i.v, j.v]) e0) (yY (x_ (iV c.2.2.2) e0) (yBb (rAl a ZT_36) fun C w a => yT (r_stbn (vals' := [m.v, i.v, j.v]) (us := [m.v, i.v, j.v]) a ST_36 e0 e0 rfl rfl (one_of rfl) rfl) fun w a => Ya (iV c.2.2.2) e0 (wK a8 (sR fun _ b0 => yY (lbs_ [iV 2, iV 2, d.v, g.v, h.v] ST_27 e0 a R4) (bE k fun b b1 k => ?_))))))
 refine yC (yCall FN_13 (a1 e0)) (blocks_Coarse_ok b1 F2 F1 F0 a) ?_
 rintro _ w ⟨t, u, x, o, y, z, rfl, a⟩
 refine ⟨_, rfl, ?_⟩
 refine Ym (.tuple #[.agg #[t.v, u.v, x.v, o.v, y.v, z.v], iV b.2.2.2.2.2.2]) e0 (yY (x_ (.agg #[t.v, u.v, x.v, o.v, y.v, z.v]) e0) (yY (x_ (iV b.2.2.2.2.2.2) e0) (yBb (rAl a ZT_31) fun H w a => yT (r_stbn (vals' := [t.v, u.v, x.v, o.v, y.v, z.v]) (us := [t.v, u.v, x.v, o.v, y.v, z.v]) a ST_31 e0 e0 rfl rfl (one_of rfl) rfl) fun w a => Ya (iV b.2.2.2.2.2.2) e0 (wK b0 (sR fun _ b2 => Ym (iV c.2.2.2) e0 (yY (yeql e0 rfl) ?_))))))
 refine Ym (.bool (decide (c.2.2.2 = 0))) e0 ?_
 refine joinW 3 (fun f w => f 1 = (pB B) ∧ f 2 = (pB C) ∧ f 4 = (pB H) ∧ f 25 = .bool ((decide (c.2.2.2 = 0)) && (decide (b.2.2.2.2.2.2 = 0))) ∧ St w0 (imm I1 d.v [0, 1, 3] :: imm I1 g.v [0, 0, 1] :: imm (rI .u64) h.v [0, 0, 0] :: ros) (box B 27 [iV 2, iV 2, d.v, g.v, h.v] :: row 3 I1 m.v c.1 :: row 3 I1 i.v c.2.1 :: row 3 I1 j.v c.2.2.1 :: box C 36 [m.v, i.v, j.v] :: row 3 I1 t.v b.1 :: row 3 I1 u.v b.2.1 :: row 3 I1 x.v b.2.2.1 :: row 3 I1 o.v b.2.2.2.1 :: row 3 I1 y.v b.2.2.2.2.1 :: row 3 I1 z.v b.2.2.2.2.2.1 :: box H 31 [t.v, u.v, x.v, o.v, y.v, z.v] :: rs) w) (fun K => ?_) ?_
 ·rcases Bool.eq_false_or_eq_true (decide (c.2.2.2 = 0)) with A | A
  ·exact yG A (m_ (iV b.2.2.2.2.2.2) e0) (yG A (yeql e0 rfl) (yY (pt_ (.bool (decide (b.2.2.2.2.2.2 = 0))) e0 A e0) (K _ _ ⟨rfl, rfl, rfl, (congrArg Value.bool (andT A)), ((a.k2l).facts (allC F2 (allC F1 (allC F0 (allT (allT (allT allI)))))))⟩)))
  ·exact gN A (gN A (yY (pf_ (.bool false) e0 A rfl) (K _ _ ⟨rfl, rfl, rfl, (congrArg Value.bool (andF A)), ((a.k2l).facts (allC F2 (allC F1 (allC F0 (allT (allT (allT allI)))))))⟩)))
 rintro f w ⟨L, I, N, b3, a⟩
 refine Ym (.bool ((decide (c.2.2.2 = 0)) && (decide (b.2.2.2.2.2.2 = 0)))) (eh b3) (bE k fun O D k => ?_)
 refine joinW 5 (fun f w => f 1 = (pB B) ∧ f 2 = (pB C) ∧ f 4 = (pB H) ∧ f 31 = .bool O ∧ St w0 (imm I1 d.v [0, 1, 3] :: imm I1 g.v [0, 0, 1] :: imm (rI .u64) h.v [0, 0, 0] :: imm I1 j.v c.2.2.1 :: ros) (box B 27 [iV 2, iV 2, d.v, g.v, h.v] :: row 3 I1 m.v c.1 :: row 3 I1 i.v c.2.1 :: box C 36 [m.v, i.v, j.v] :: row 3 I1 t.v b.1 :: row 3 I1 u.v b.2.1 :: row 3 I1 x.v b.2.2.1 :: row 3 I1 o.v b.2.2.2.1 :: row 3 I1 y.v b.2.2.2.2.1 :: row 3 I1 z.v b.2.2.2.2.2.1 :: box H 31 [t.v, u.v, x.v, o.v, y.v, z.v] :: rs) w) (fun R => ?_) ?_
 ·rcases iteS D with ⟨p, D⟩ | ⟨p, D⟩
  ·refine yG p (yFb FL_36_2 (eh I)) (yG p (lb_ j.v O_22 e0 a R4) (YH (wG p) rfl (rLt (n := 3) (l := [0, 1, 2]) a SL_22 [iV 0, iV 1, iV 2] (bp3 rfl rfl rfl) rfl rfl (mks1 (cs := [iV 0]) rfl mkI (mks1 (cs := [iV 1]) rfl mkI (mks1 (cs := [iV 2]) rfl mkI mks0)))) fun d1 w a => bE D fun b5 b6 D => ?_))
   replace a := ((a.k1j).fz).fz
   refine Yc (wG p) rfl (yCall FN_32 (a2 e0 e0)) (sparsekit_Ints_ok b6 F1 F0 a) ?_
   rintro _ w ⟨rfl, a⟩
   refine ⟨_, rfl, ?_⟩
   refine yY (pt_ (.bool b5) e0 p e0) ?_
   cases D
   exact R _ _ ⟨L, I, N, rfl, (a.facts (allC F2 (allC F3 (allC F4 (allC F1 (allT (allT (allT (allT (allT allI))))))))))⟩
  ·refine gN (bfalse p) (gN (bfalse p) (gN (bfalse p) (gN (bfalse p) (yY (pf_ (.bool false) e0 (bfalse p) rfl) ?_))))
   cases D
   replace a := (a.k14).fz
   exact R _ _ ⟨L, I, N, rfl, (a.facts (allC F1 (allC F2 (allC F3 (allC F0 (allT (allT (allT (allT allI)))))))))⟩
 rintro f w ⟨S, J, T, b7, a⟩
 refine Ym (.bool O) (eh b7) (bE k fun U E k => ?_)
 refine joinW 5 (fun f w => f 1 = (pB B) ∧ f 2 = (pB C) ∧ f 4 = (pB H) ∧ f 37 = .bool U ∧ St w0 (imm I1 d.v [0, 1, 3] :: imm I1 g.v [0, 0, 1] :: imm (rI .u64) h.v [0, 0, 0] :: imm I1 i.v c.2.1 :: imm I1 j.v c.2.2.1 :: ros) (box B 27 [iV 2, iV 2, d.v, g.v, h.v] :: row 3 I1 m.v c.1 :: box C 36 [m.v, i.v, j.v] :: row 3 I1 t.v b.1 :: row 3 I1 u.v b.2.1 :: row 3 I1 x.v b.2.2.1 :: row 3 I1 o.v b.2.2.2.1 :: row 3 I1 y.v b.2.2.2.2.1 :: row 3 I1 z.v b.2.2.2.2.2.1 :: box H 31 [t.v, u.v, x.v, o.v, y.v, z.v] :: rs) w) (fun V => ?_) ?_
 ·rcases iteS E with ⟨q, E⟩ | ⟨q, E⟩
  ·refine yG q (yFb FL_36_1 (eh J)) (yG q (lb_ i.v O_22 e0 a R3) (YH (wG q) rfl (rLt (n := 2) (l := [0, 1]) a SL_22 [iV 0, iV 1] (bp2 rfl rfl) rfl rfl (mks1 (cs := [iV 0]) rfl mkI (mks1 (cs := [iV 1]) rfl mkI mks0))) fun d2 w a => bE E fun b8 c0 E => ?_))
   replace a := ((a.k14).fz).fz
   refine Yc (wG q) rfl (yCall FN_32 (a2 e0 e0)) (sparsekit_Ints_ok c0 F1 F0 a) ?_
   rintro _ w ⟨rfl, a⟩
   refine ⟨_, rfl, ?_⟩
   refine yY (pt_ (.bool b8) e0 q e0) ?_
   cases E
   exact V _ _ ⟨S, J, T, rfl, (a.facts (allC F2 (allC F3 (allC F4 (allC F1 (allC F5 (allT (allT (allT (allT (allT (allT allI))))))))))))⟩
  ·refine gN (bfalse q) (gN (bfalse q) (gN (bfalse q) (gN (bfalse q) (yY (pf_ (.bool false) e0 (bfalse q) rfl) ?_))))
   cases E
   replace a := (a.k17).fz
   exact V _ _ ⟨S, J, T, rfl, (a.facts (allC F1 (allC F2 (allC F3 (allC F0 (allC F4 (allT (allT (allT (allT (allT allI)))))))))))⟩
 rintro f w ⟨W, X, c1, c2, a⟩
 refine Ym (.bool U) (eh c2) (bE k fun Z F k => ?_)
 refine joinW 5 (fun f w => f 1 = (pB B) ∧ f 2 = (pB C) ∧ f 43 = .bool Z ∧ St w0 (imm I1 d.v [0, 1, 3] :: imm I1 g.v [0, 0, 1] :: imm (rI .u64) h.v [0, 0, 0] :: imm I1 i.v c.2.1 :: imm I1 j.v c.2.2.1 :: ros) (box B 27 [iV 2, iV 2, d.v, g.v, h.v] :: row 3 I1 m.v c.1 :: box C 36 [m.v, i.v, j.v] :: rs) w) (fun a0 => ?_) ?_
 ·rcases iteS F with ⟨r, F⟩ | ⟨r, F⟩
  ·refine yG r (yFb FL_31_3 (eh c1)) (yG r (lb_ o.v O_22 e0 a R9) (YH (wG r) rfl (rLt (n := 2) (l := [0, 1]) a SL_22 [iV 0, iV 1] (bp2 rfl rfl) rfl rfl (mks1 (cs := [iV 0]) rfl mkI (mks1 (cs := [iV 1]) rfl mkI mks0))) fun d3 w a => bE F fun c3 c4 F => ?_))
   replace a := ((a.k22).fz).fz
   refine Yc (wG r) rfl (yCall FN_32 (a2 e0 e0)) (sparsekit_Ints_ok c4 F1 F0 a) ?_
   rintro _ w ⟨rfl, a⟩
   refine ⟨_, rfl, ?_⟩
   refine yY (pt_ (.bool c3) e0 r e0) ?_
   cases F
   exact a0 _ _ ⟨W, X, rfl, ((a.k2m).facts (allC F2 (allC F3 (allC F4 (allC F5 (allC F6 (allT (allT (allT (allT (allT (allT (allT allI)))))))))))))⟩
  ·refine gN (bfalse r) (gN (bfalse r) (gN (bfalse r) (gN (bfalse r) (yY (pf_ (.bool false) e0 (bfalse r) rfl) ?_))))
   cases F
   exact a0 _ _ ⟨W, X, rfl, (a.k2n)⟩
 rintro f w ⟨c5, c6, c7, a⟩
 refine Ym (.bool Z) (eh c7) (bE k fun a3 G k => ?_)
 refine joinW 5 (fun f w => f 49 = .bool a3 ∧ St w0 ros rs w) (fun a4 => ?_) ?_
 ·rcases iteS G with ⟨s, G⟩ | ⟨s, G⟩
  ·refine yG s (lbs_ [iV 2, iV 2, d.v, g.v, h.v] ST_27 (eh c5) a R0) (yG s (lbs_ [m.v, i.v, j.v] ST_36 (eh c6) a R2) (bE G fun c8 c9 G => ?_))
   replace a := (a.k11).fz
   refine Yc (wG s) rfl (yCall FN_24 (a2 e0 e0)) (blocks_Check_ok c9 F1 F2 F3 F0 F4 F5 a) ?_
   rintro _ w ⟨rfl, a⟩
   refine ⟨_, rfl, ?_⟩
   refine yG s (yeql e0 rfl) (yY (pt_ (.bool (decide (c8 = 0))) e0 s e0) ?_)
   cases G
   exact a4 _ _ ⟨rfl, ((a.k1z).facts (allT (allT (allT (allT (allT (allT allI)))))))⟩
  ·refine gN (bfalse s) (gN (bfalse s) (gN (bfalse s) (gN (bfalse s) (yY (pf_ (.bool false) e0 (bfalse s) rfl) ?_))))
   cases G
   exact a4 _ _ ⟨rfl, ((a.k2o).facts (allT (allT (allT (allT (allT allI))))))⟩
 rintro f w ⟨d0, a⟩
 refine Ya (.bool a3) (eh d0) (wK b2 (wp_ret ?_))
 cases k
 exact a5 _ _ _ (fin1r Tryz.results9 ⟨rfl, rfl⟩ ⟨rfl, a⟩)
theorem sparsekit_Place_ok {a b out : Int} (c : sparsekit_Place a b = some out) (d : St w0 ros rs w) :
  Calls Tryz.prog 10 #[iV a, iV b] w (fun e w => e = .returned (iV out) ∧ St w0 ros rs w) := by
 refine enterQ Tryz.func10 rfl Tryz.ntmps10 rfl fun Q f => sR fun _ g => Ya (iV 0) rfl (wK g (sR fun _ h => Ym (iV a) e0 (yY (ycv (k' := .u64) (by kernel_rfl) (by kernel_rfl) e0) (Ym (iV b) e0 (yY (ycv (k' := .u64) (by kernel_rfl) (by kernel_rfl) e0) (bE c fun i j c => yY (yrem e0 e0 j) ?_))))))
 refine yY (ycv (k' := .i64) (by kernel_rfl) (by kernel_rfl) e0) (Ya (iV (wc .i64 i)) e0 (wK h (wp_ret ?_)))
 cases c
 exact f _ _ _ (fin1r Tryz.results10 ⟨rfl, rfl⟩ ⟨rfl, d⟩)
theorem sparseref01_trim_ok {u : LI} {d : Hdr} {out : LI} (m : sparseref01_trim u = some out) (o : imm (rI .u32) d.v u ∈ ros) (b : St w0 ros rs w) :
  Calls Tryz.prog 126 #[d.v] w (fun e w => ∃ (C : Hdr), e = .returned (C.v) ∧ St w0 ros (row 133 (rI .u32) C.v out :: rs) w) := by
 refine enterQ Tryz.func126 rfl Tryz.ntmps126 rfl fun Q L => sR fun _ N => Ya hnil.v rfl (wK N (sR fun _ O => Ym d.v e0 (yY (yLen SL_96 e0 b (rdI o)) (Ya (iV (u.length : Int)) e0 (wK O (sQ fun _ R => ?_))))))
 refine blockQ fun S T => bE m fun U V m => ?_
 have W : ∀ (p : Int) (f : FV) w, f 0 = d.v → f 3 = iV p → St w0 ros rs w → p = U → S (.exit 0) (fr 33 f) w := by
  intro p f w X Z b ho
  subst ho
  refine T _ _ _ (R _ _ (sR fun _ a0 => Ya hnil.v rfl (wK a0 (sQ fun _ a1 => sR fun _ a2 => Ya (iV 0) rfl (wK a2 (blockQ fun a3 a4 => ?_))))))
  refine bE m fun a5 a6 m => ?_
  have a7 : ∀ (x : LI) (q : Hdr) (f : FV) w, f 4 = q.v → St w0 ros (row 133 (rI .u32) q.v x :: rs) w → x = a5 → a3 (.exit 2) (fr 33 f) w := by
   intro x q f w a8 b ho
   subst ho
   refine a4 _ _ _ (a1 _ _ (sR fun _ a9 => Ym q.v (eh a8) (Ya q.v e0 (wK a9 (wp_ret ?_)))))
   cases m
   exact L _ _ _ (fin1r Tryz.results126 ⟨rfl, rfl⟩ ⟨_, rfl, b⟩)
  replace b := b.rowNh 133 (rI .u32)
  refine loopQ (fun s a w => ∃ (y : LI) (i : Int) (f : FV) (r : Hdr), (y, i) = s ∧ a = fr 33 f ∧ f 0 = d.v ∧ f 3 = iV p ∧ f 4 = r.v ∧ f 5 = iV i ∧ St w0 ros (row 133 (rI .u32) r.v y :: rs) w) a6 ⟨_, _, _, _, rfl, rfl, X, Z, rfl, rfl, b⟩ ?_
  rintro _ _ w d2 ⟨y, i, f, r, rfl, rfl, D, E, F, z, b⟩ g b0 d3 b1 b2
  refine seqQ fun d4 b3 b4 => sR fun _ b5 => Ym (iV i) (eh z) (Ym (iV p) (eh E) (yY (ylss e0 e0) (wK b5 ?_)))
  refine cIf e0 g (fun b6 g => ?_) fun b6 g => ?_
  ·refine wp_skip (b3 _ _ (sQ fun _ b7 => blockQ fun _ b8 => wR (Ym r.v (eh F) (Ym d.v (eh D) (Ym (iV i) (eh z) (bE g fun A G g => yY (yIa SL_96 e0 e0 b (rdI o) G) (yY (yI O_133 e0 b (rdI o) G) (yH (rLt (n := 1) (l := [A]) b SL_96 [.int .u32 A] (bp1 e0) rfl rfl (mks1 (cs := [.int .u32 A]) rfl mkI mks0)) fun d5 w b => bE g fun d6 b9 g => ?_))))))))
   refine yH (rAp (b.k11) SL_96 e0 e0 rO1 b9) fun c0 w b => Ya c0.v e0 (wN (b8 _ _ _ (b7 _ _ (wR (Ym (iV i) (eh z) (yY (yadd e0 rfl) (Ya (iV (wa .i64 i 1)) e0 (wN ?_))))))))
   cases g
   exact b1 _ _ _ rfl ⟨_, _, _, _, rfl, rfl, D, E, rfl, rfl, (b.k1f)⟩
  ·refine wp_exit (b4 _ _ _ rfl ?_)
   cases g
   exact b2 _ _ _ _ rfl rfl (a7 _ _ _ _ F b (b0 _ rfl))
 refine loopQ (fun s a w => ∃ (h : Int) (f : FV), h = s ∧ a = fr 33 f ∧ f 0 = d.v ∧ f 3 = iV h ∧ St w0 ros rs w) V ⟨_, _, rfl, rfl, rfl, rfl, b⟩ ?_
 rintro _ _ w d7 ⟨h, f, rfl, rfl, B, t, b⟩ j c1 d8 c2 c3
 refine seqQ fun d9 c4 c5 => sR fun _ c6 => Ym (iV h) (eh t) (yY (ygtr e0 rfl) (Ym (.bool (decide ((0 : Int) < h))) e0 (bE j fun c7 k j => ?_)))
 refine joinW 7 (fun f w => f 0 = d.v ∧ f 3 = iV h ∧ f 17 = .bool c7 ∧ St w0 ros rs w) (fun H => ?_) ?_
 ·rcases iteS k with ⟨c, k⟩ | ⟨c, k⟩
  ·refine yG (dT c) (m_ d.v (eh B)) (yG (dT c) (m_ (iV h) (eh t)) (yG (dT c) (ysub e0 rfl) (bE k fun c8 I k => yG (dT c) (yIa SL_96 e0 e0 b (rdI o) I) (yG (dT c) (yI O_133 e0 b (rdI o) I) (yG (dT c) (yeql e0 rfl) (yY (pt_ (.bool (decide (c8 = 0))) e0 (dT c) e0) ?_))))))
   cases k
   exact H _ _ ⟨B, t, rfl, b⟩
  ·refine gN (dF c) (gN (dF c) (gN (dF c) (gN (dF c) (gN (dF c) (gN (dF c) (yY (pf_ (.bool false) e0 (dF c) rfl) ?_))))))
   cases k
   exact H _ _ ⟨B, t, rfl, b⟩
 rintro f w ⟨J, K, c9, b⟩
 refine wK c6 (cB (eh c9) j (fun d0 j => ?_) fun d0 j => ?_)
 ·refine wp_skip (c4 _ _ (blockQ fun _ d1 => wR (Ym (iV h) (eh K) (yY (ysub e0 rfl) (Ya (iV (ws .i64 h 1)) e0 (wN (d1 _ _ _ ?_)))))))
  cases j
  exact c2 _ _ _ rfl ⟨_, _, rfl, rfl, J, rfl, b⟩
 ·refine wp_exit (c5 _ _ _ rfl ?_)
  cases j
  exact c3 _ _ _ _ rfl rfl (W _ _ _ J K b (c1 _ rfl))
theorem sparseref01_make1_ok {c : Bool} {j : LI} {h : Hdr} {out : Bool × LI} (i : sparseref01_make1 c j = some out) (o : imm (rI .u32) h.v j ∈ ros) (a : St w0 ros rs w) :
  Calls Tryz.prog 110 #[.bool c, h.v] w (fun e w => ∃ (k : Hdr), e = .returned (.agg #[.bool out.1, k.v]) ∧ St w0 ros (row 133 (rI .u32) k.v out.2 :: rs) w) := by
 refine enterQ Tryz.func110 rfl Tryz.ntmps110 rfl fun Q p => sR fun _ q => yBb (rAl a ZT_98) fun l w a => wK q (sR fun _ r => Ym h.v e0 (bE i fun g s i => yC (yCall FN_126 (a1 e0)) (sparseref01_trim_ok s o a) ?_))
 rintro _ w ⟨d, rfl, a⟩
 refine ⟨_, rfl, ?_⟩
 refine Ya d.v e0 (wK r (sR fun _ t => Ym (.bool c) e0 (Ym (.bool c) e0 ?_)))
 refine joinW 4 (fun f w => f 1 = d.v ∧ f 4 = (pB l) ∧ f 12 = .bool (c && (decide ((0 : Int) < (g.length : Int)))) ∧ St w0 ros (row 133 (rI .u32) d.v g :: box l 98 [.bool false, hnil.v] :: rs) w) (fun m => ?_) ?_
 ·rcases Bool.eq_false_or_eq_true c with b | b
  ·exact yG b (m_ d.v e0) (yG b (yLen SL_96 e0 a rO0) (yG b (ygtr e0 rfl) (yY (pt_ (.bool (decide ((0 : Int) < (g.length : Int)))) e0 b e0) (m _ _ ⟨rfl, rfl, (congrArg Value.bool (andT b)), a⟩))))
  ·exact gN b (gN b (gN b (yY (pf_ (.bool false) e0 b rfl) (m _ _ ⟨rfl, rfl, (congrArg Value.bool (andF b)), a⟩))))
 rintro f w ⟨u, n, x, a⟩
 refine Ym d.v (eh u) (yY (ybuild (us := [.bool (c && (decide ((0 : Int) < (g.length : Int)))), d.v]) [(0, .bool (c && (decide ((0 : Int) < (g.length : Int))))), (1, d.v)] SO_98 (bp2 (eh x) e0) rfl) (yT (r_stbn (vals' := [.bool (c && (decide ((0 : Int) < (g.length : Int)))), d.v]) (us := [.bool (c && (decide ((0 : Int) < (g.length : Int)))), d.v]) (a.k11) ST_98 (eh n) e0 rfl rfl (one_of rfl) rfl) fun w a => wK t (wp_ret ?_)))
 cases i
 exact p _ _ _ (fin1r Tryz.results110 (rcs2 rfl n a R0 ST_98 rfl) ⟨_, rfl, (a.k12)⟩)
theorem sparseref01_FromInt_ok {c : Int} {out : Bool × LI} (d : sparseref01_FromInt c = some out) (a : St w0 ros rs w) :
  Calls Tryz.prog 85 #[iV c] w (fun e w => ∃ (g : Hdr), e = .returned (.agg #[.bool out.1, g.v]) ∧ St w0 ros (row 133 (rI .u32) g.v out.2 :: rs) w) := by
 refine enterQ Tryz.func85 rfl Tryz.ntmps85 rfl fun Q p => sR fun _ q => yBb (rAl a ZT_98) fun h w a => wK q (sR fun _ r => Ym (iV c) e0 (yY (ycv (k' := .u64) (by kernel_rfl) (by kernel_rfl) e0) (Ya (.int .u64 (wc .u64 c)) e0 (wK r ?_))))
 refine sQ fun s t => sR fun _ u => Ym (iV c) e0 (yY (ylss e0 rfl) (wK u ?_))
 have i : ∀ (b : Int) (f : FV) w, f 0 = iV c → f 2 = (pB h) → f 3 = .int .u64 b → St w0 ros (box h 98 [.bool false, hnil.v] :: rs) w → sparseref01_FromInt_j1 c b = some out → s .normal (fr 22 f) w := by
  intro b f w x j k a d
  refine t _ _ (sR fun _ y => Ym (iV c) (eh x) (yY (ylss e0 rfl) (Ym (.int .u64 b) (eh k) (yY (ycv (k' := .u32) (by kernel_rfl) (by kernel_rfl) e0) (Ym (.int .u64 b) (eh k) (yY (yshrc e0 rfl) (yY (ycv (k' := .u32) (by kernel_rfl) (by kernel_rfl) e0) (yH (rLt (n := 2) (l := [wc .u32 b, wc .u32 (wsrc .u64 b 32)]) a SL_96 [.int .u32 (wc .u32 b), .int .u32 (wc .u32 (wsrc .u64 b 32))] (bp2 e0 e0) rfl rfl (mks1 (cs := [.int .u32 (wc .u32 b)]) rfl mkI (mks1 (cs := [.int .u32 (wc .u32 (wsrc .u64 b 32))]) rfl mkI mks0))) fun B w a => bE d fun m z d => ?_))))))))
  replace a := a.fz
  refine yC (yCall FN_110 (a2 e0 e0)) (sparseref01_make1_ok z F0 a) ?_
  rintro _ w ⟨o, rfl, a⟩
  refine ⟨_, rfl, ?_⟩
  refine yT (r_stbn (vals' := [.bool m.1, o.v]) (us := [.bool m.1, o.v]) (a.k11) ST_98 (eh j) e0 rfl rfl (one_of rfl) rfl) fun w a => wK y (wp_ret ?_)
  cases d
  exact p _ _ _ (fin1r Tryz.results85 (rcs2 rfl j a R0 ST_98 rfl) ⟨_, rfl, ((a.k12).facts (allT allI))⟩)
 refine cIf e0 d (fun A d => ?_) fun A d => ?_
 ·exact wR (Ym (iV c) e0 (yY (yadd e0 rfl) (yY (yneg e0) (yY (ycv (k' := .u64) (by kernel_rfl) (by kernel_rfl) e0) (yY (yadd e0 rfl) (Ya (.int .u64 (wa .u64 (wc .u64 (wneg .i64 (wa .i64 c 1))) 1)) e0 (wN (i _ _ _ rfl rfl rfl a d))))))))
 ·exact wp_skip (i _ _ _ rfl rfl rfl a d)
theorem sparseref01_Norm_ok {b : Bool} {f : LI} {c : Hdr} {out : Bool × LI} (d : sparseref01_Norm b f = some out) (j : imm (rI .u32) c.v f ∈ ros) (a : St w0 ros rs w) :
  Calls Tryz.prog 103 #[.agg #[.bool b, c.v]] w (fun e w => ∃ (g : Hdr), e = .returned (.agg #[.bool out.1, g.v]) ∧ St w0 ros (row 133 (rI .u32) g.v out.2 :: rs) w) := by
 refine enterQ Tryz.func103 rfl Tryz.ntmps103 rfl fun Q k => sR fun _ l => yBb (r_box (vals := [.bool b, c.v]) a e0 rfl) fun o w a => yBb (rAl a ZT_98) fun p w a => wK l (sR fun _ m => yY (yFb FL_98_0 e0) (yY (lb_ (.bool b) O_4 e0 a R1) (yY (yFb FL_98_1 e0) ?_)))
 refine yY (lb_ c.v O_96 e0 a R1) (bE d fun h n d => yC (yCall FN_110 (a2 e0 e0)) (sparseref01_make1_ok n j a) ?_)
 rintro _ w ⟨i, rfl, a⟩
 refine ⟨_, rfl, ?_⟩
 refine yT (r_stbn (vals' := [.bool h.1, i.v]) (us := [.bool h.1, i.v]) (a.k11) ST_98 e0 e0 rfl rfl (one_of rfl) rfl) fun w a => wK m (wp_ret ?_)
 cases d
 exact k _ _ _ (fin1r Tryz.results103 (rcs2 rfl rfl a R0 ST_98 rfl) ⟨_, rfl, (a.k2p)⟩)
end Go.Proofs.YtgnfkbaghjmgiaaGreatDoor
