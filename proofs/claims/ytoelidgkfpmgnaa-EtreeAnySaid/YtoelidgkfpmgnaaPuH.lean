/- The document's check of a matrix; the entries by columns; the rows; the table of the normal graph (from PtH, told more of). -/
import Derived.Test.YtoelidgkfpmgnaaPuG
set_option linter.unusedSimpArgs false
set_option linter.unusedVariables false
namespace Pu
open Pl Sx Go M Vc

theorem check_r {x1 x2 : Int} {x3 x5 x7 : List Int} (h3 : x3.length ≤ 100000) (h5 : x5.length ≤ 100000) (h7 : x7.length ≤ 100000) : Ret (sparseref09_Check x1 x2 x3 x5 x7) (Ot x1 x2 x3 x5 x7) := by
  unfold sparseref09_Check
  by_cases hs : Sz x1 x2 x5
  · obtain ⟨hs1, hs2, hs3⟩ := id hs
    obtain ⟨n, rfl⟩ := Int.eq_ofNat_of_zero_le hs2.1
    have hw : wa .i64 (n : Int) 1 = ((n + 1 : Nat) : Int) := wa1 (by omega)
    rw [if_neg (by simp; omega), hw]
    by_cases hv : x7.length = x5.length
    · by_cases hl : x3.length = n + 1
      · have hg0 : getI x3 0 = some (x3[0]'(by omega)) := getI_lt (k := 0) (by omega)
        have hgn : getI x3 (n : Int) = some (x3[n]'(by omega)) := getI_lt (by omega)
        rw [if_neg (by simp; omega), bindS hg0]
        simp only [Option.bind_some]
        by_cases h0 : (x3[0]'(by omega)) = 0
        · rw [decide_eq_true h0, if_neg (by simp), bindS hgn]
          simp only [Option.bind_some]
          by_cases hn : (x3[n]'(by omega)) = (x5.length : Int)
          · rw [decide_eq_true hn, if_neg (by simp)]
            have hH : Hd x1 (n : Int) x3 x5 x7 := ⟨hv, by omega, by simp [h0, show 0 < x3.length by omega], by simp [hn, show n < x3.length by omega]⟩
            simp only [ret_bind]
            refine ret_call (mono_r hl (by omega)) ?_
            rintro o (⟨rfl, hM⟩ | ⟨rfl, hM⟩)
            · simp only [ret_bind]
              refine ret_call (cl_r (x1 := x1) hl (by omega) h5 hM hH.s0 (by simpa using hH.sn)) ?_
              rintro o (⟨rfl, hC⟩ | ⟨rfl, hC⟩)
              · simp only [ret_bind]
                refine ret_call (fin_r h7) ?_
                rintro b (⟨rfl, hF⟩ | ⟨rfl, hF⟩)
                · rw [if_pos rfl, ret_some]; exact Or.inr (Or.inr (Or.inr ⟨rfl, hs, ⟨hH, hM, hC⟩, hF⟩))
                · rw [if_neg (by simp), ret_some]; exact Or.inr (Or.inr (Or.inl ⟨rfl, hs, ⟨hH, hM, hC⟩, hF⟩))
              · rw [ret_some]; exact Or.inr (Or.inl ⟨rfl, hs, fun h => hC h.2.2⟩)
            · rw [ret_some]; exact Or.inr (Or.inl ⟨rfl, hs, fun h => hM h.2.1⟩)
          · rw [decide_eq_false hn, if_pos (by simp), ret_some]
            refine Or.inr (Or.inl ⟨rfl, hs, fun h => hn ?_⟩)
            have := h.1.sn
            simp only [Int.toNat_natCast] at this
            rw [List.getElem?_eq_getElem (by omega)] at this
            exact Option.some.inj this
        · rw [decide_eq_false h0]
          simp only [Bool.not_false, if_true, Option.bind_some]
          rw [ret_some]
          refine Or.inr (Or.inl ⟨rfl, hs, fun h => h0 ?_⟩)
          have := h.1.s0
          rw [List.getElem?_eq_getElem (by omega)] at this
          exact Option.some.inj this
      · rw [if_pos (by simp; omega)]
        simp only [Option.bind_some, if_true]
        rw [ret_some]
        exact Or.inr (Or.inl ⟨rfl, hs, fun h => hl (by have := h.1.ls; omega)⟩)
    · rw [if_pos (by simp; omega)]
      simp only [Option.bind_some, if_true]
      rw [ret_some]
      exact Or.inr (Or.inl ⟨rfl, hs, fun h => hv h.1.lv⟩)
  · rw [if_pos, ret_some]
    · exact Or.inl ⟨rfl, hs⟩
    · simp only [Bool.or_eq_true, decide_eq_true_eq]
      refine Classical.byContradiction fun h => hs ⟨by omega, by omega, by omega⟩

theorem checks {x1 x2 : Int} {x3 x5 x7 : List Int} (h3 : x3.length ≤ 100000) (h5 : x5.length ≤ 100000) (h7 : x7.length ≤ 100000) : ∃ e, matrix_Check x1 x2 x3 x5 x7 = some e ∧ sparseref09_Check x1 x2 x3 x5 x7 = some e ∧ Ot x1 x2 x3 x5 x7 e := by
  obtain ⟨e, h1, h2⟩ := check_p (x1 := x1) (x2 := x2) h3 h5 h7
  obtain ⟨e', k1, k2⟩ := check_r (x1 := x1) (x2 := x2) h3 h5 h7
  obtain rfl := h2.uniq k2
  exact ⟨e, h1, k1, h2⟩

/-- a valid matrix -/
structure Va (x1 x2 : Int) (x3 x5 x7 : List Int) : Prop where
  sz : Sz x1 x2 x5
  hd : Hd x1 x2 x3 x5 x7
  mo : Mo x3
  cl : Cl x1 x3 x5
theorem Ot.va {x1 x2 : Int} {x3 x5 x7 : List Int} (h : Ot x1 x2 x3 x5 x7 0) : Va x1 x2 x3 x5 x7 := by
  rcases h with ⟨h, _⟩ | ⟨h, _⟩ | ⟨h, _⟩ | ⟨_, h1, ⟨h2, h3, h4⟩, _⟩
  · cases h
  · cases h
  · cases h
  · exact ⟨h1, h2, h3, h4⟩

/-- by columns, and in a column by rows -/
def LT (e e' : Int × Int × Int) : Prop := e.2.1 < e'.2.1 ∨ (e.2.1 = e'.2.1 ∧ e.1 < e'.1)
def Bd (x1 x2 : Int) (e : Int × Int × Int) : Prop := (0 ≤ e.1 ∧ e.1 < x1) ∧ (0 ≤ e.2.1 ∧ e.2.1 < x2)
theorem lt_snoc {l : List (Int × Int × Int)} {x : Int × Int × Int} (h : l.Pairwise LT) (h2 : ∀ e, e ∈ l → LT e x) : (l ++ [x]).Pairwise LT := by
  rw [List.pairwise_append]
  exact ⟨h, List.pairwise_singleton _ _, fun y hy z hz => by rw [List.mem_singleton] at hz; subst hz; exact h2 y hy⟩

theorem entries_ok {x1 x2 : Int} {x3 x5 x7 : List Int} (h : Va x1 x2 x3 x5 x7) (h5 : x5.length ≤ 100000) :
    Ret (loop (sparseref09_Entries_l3 x2 x3 x5 x7) ([], 0)) (fun l => l.length ≤ x5.length ∧ (∀ e, e ∈ l → Bd x1 x2 e) ∧ l.Pairwise LT) := by
  obtain ⟨hs1, hs2, hs3⟩ := h.sz
  obtain ⟨n, rfl⟩ := Int.eq_ofNat_of_zero_le hs2.1
  have hl : x3.length = n + 1 := by have := h.hd.ls; omega
  have hsn : x3[n]? = some (x5.length : Int) := by simpa using h.hd.sn
  have hv := h.hd.lv
  refine ret_loop n (fun k (t : List (Int × Int × Int) × Int) => t.2 = k ∧ x3[k]? = some (t.1.length : Int) ∧ (∀ e, e ∈ t.1 → Bd x1 n e ∧ e.2.1 < (k : Int)) ∧ t.1.Pairwise LT) ⟨rfl, by simpa using h.hd.s0, (fun e he => by simp at he), .nil⟩ ?_
  rintro k ⟨l, i⟩ hk ⟨rfl, hkl, hI, hP⟩
  simp only at hkl hI hP
  unfold sparseref09_Entries_l3
  by_cases hkn : k < n
  · have hwk : wa .i64 (k : Int) 1 = ((k + 1 : Nat) : Int) := wa1 (by omega)
    obtain ⟨b, hb⟩ : ∃ b, x3[k + 1]? = some b := ⟨x3[k + 1]'(by omega), by simp [show k + 1 < x3.length by omega]⟩
    have hab := h.mo k _ b hkl hb
    have hbn := mo_le h.mo (show k + 1 ≤ n by omega) hb hsn
    obtain ⟨b, rfl⟩ := Int.eq_ofNat_of_zero_le (show 0 ≤ b by omega)
    have e1 : getI x3 (k : Int) = some (l.length : Int) := hkl
    have e2 : getI x3 ((k + 1 : Nat) : Int) = some (b : Int) := hb
    have e5 : (k : Int) < (n : Int) := by omega
    simp only [ret_bind, ret_if, e1, e5, ret_some, vq_l, vq_r, hwk, true_implies, not_true_eq_false, false_implies, and_true]
    refine ret_call (P := fun l' => l'.length = b ∧ (∀ e, e ∈ l' → Bd x1 n e ∧ e.2.1 ≤ (k : Int)) ∧ l'.Pairwise LT) ?_ (fun l' hl' => ⟨hkn, trivial, by rw [hb, hl'.1], fun e he => ⟨(hl'.2.1 e he).1, by have := (hl'.2.1 e he).2; omega⟩, hl'.2.2⟩)
    refine ret_loop (b - l.length) (fun m (t : List (Int × Int × Int) × Int) => t.2 = ((l.length + m : Nat) : Int) ∧ t.1.length = l.length + m ∧ (∀ e, e ∈ t.1 → Bd x1 n e ∧ (e.2.1 < (k : Int) ∨ (e.2.1 = (k : Int) ∧ 0 < m ∧ ∀ z, x5[l.length + m - 1]? = some z → e.1 ≤ z))) ∧ t.1.Pairwise LT) ⟨rfl, rfl, (fun e he => ⟨(hI e he).1, .inl (hI e he).2⟩), hP⟩ ?_
    rintro m ⟨l', i⟩ hm ⟨h0, h1, h2, hP⟩
    simp only at h0 h1 h2 hP
    subst h0
    unfold sparseref09_Entries_l4
    by_cases hmb : l.length + m < b
    · obtain ⟨x, hx⟩ : ∃ x, x5[l.length + m]? = some x := ⟨x5[l.length + m]'(by omega), by simp [show l.length + m < x5.length by omega]⟩
      obtain ⟨y, hy⟩ : ∃ y, x7[l.length + m]? = some y := ⟨x7[l.length + m]'(by omega), by simp [show l.length + m < x7.length by omega]⟩
      have e3 : getI x5 ((l.length + m : Nat) : Int) = some x := hx
      have e4 : getI x7 ((l.length + m : Nat) : Int) = some y := hy
      have e6 : ((l.length + m : Nat) : Int) < (b : Int) := by omega
      have hw2 : wa .i64 ((l.length + m : Nat) : Int) 1 = ((l.length + (m + 1) : Nat) : Int) := by rw [wa1 (by omega)]; congr 1
      have hc := h.cl k _ _ hkl hb (l.length + m) x (by omega) (by omega) hx
      simp only [ret_bind, ret_if, ret_get, ret_set, ret_app, ret_mkL, ret_sli, ret_wr, ret_wq, ret_some, vq_l, vq_r, Int.toNat_natCast, if_true, if_false, obs, decide_false, decide_true, Bool.false_eq_true, Bool.not_true, Bool.not_false, not_true_eq_false, not_false_eq_true, true_implies, false_implies, reduceCtorEq, true_and, and_true, false_and, or_false, false_or, implies_true, hwk, e2, e3, e4, e6, hw2]
      refine ⟨by rw [h1, List.length_singleton]; omega, by omega, by rw [List.length_append, h1, List.length_singleton]; omega, fun e he => ?_, lt_snoc hP (fun e he => ?_)⟩
      · rw [List.mem_append, List.mem_singleton] at he
        rcases he with he | rfl
        · refine ⟨(h2 e he).1, ?_⟩
          rcases (h2 e he).2 with h3 | ⟨h3, h4, h6⟩
          · exact .inl h3
          · refine .inr ⟨h3, by omega, fun z hz => ?_⟩
            rw [show l.length + (m + 1) - 1 = l.length + m by omega, hx] at hz
            obtain rfl := Option.some.inj hz
            obtain ⟨u, hu⟩ : ∃ u, x5[l.length + m - 1]? = some u := ⟨x5[l.length + m - 1]'(by omega), by simp [show l.length + m - 1 < x5.length by omega]⟩
            have := h6 u hu
            have := hc.2.2 (by omega) u hu
            omega
        · refine ⟨⟨⟨hc.1, hc.2.1⟩, by simp only; omega, by simp only; omega⟩, .inr ⟨rfl, by omega, fun z hz => ?_⟩⟩
          rw [show l.length + (m + 1) - 1 = l.length + m by omega, hx] at hz
          obtain rfl := Option.some.inj hz
          exact Int.le_refl _
      · rcases (h2 e he).2 with h3 | ⟨h3, h4, h6⟩
        · exact .inl h3
        · refine .inr ⟨h3, ?_⟩
          obtain ⟨u, hu⟩ : ∃ u, x5[l.length + m - 1]? = some u := ⟨x5[l.length + m - 1]'(by omega), by simp [show l.length + m - 1 < x5.length by omega]⟩
          have := h6 u hu
          have := hc.2.2 (by omega) u hu
          simp only; omega
    · have e6 : ¬ ((l.length + m : Nat) : Int) < (b : Int) := by omega
      simp only [ret_bind, ret_if, ret_get, ret_set, ret_app, ret_mkL, ret_sli, ret_wr, ret_wq, ret_some, vq_l, vq_r, Int.toNat_natCast, if_true, if_false, obs, decide_false, decide_true, Bool.false_eq_true, Bool.not_true, Bool.not_false, not_true_eq_false, not_false_eq_true, true_implies, false_implies, reduceCtorEq, true_and, and_true, false_and, or_false, false_or, implies_true, hwk, e2, e6]
      exact ⟨by omega, (fun e he => ⟨(h2 e he).1, by rcases (h2 e he).2 with h3 | ⟨h3, _⟩ <;> omega⟩), hP⟩
  · have e5 : ¬ (k : Int) < (n : Int) := by omega
    simp only [ret_bind, ret_if, ret_get, ret_set, ret_app, ret_mkL, ret_sli, ret_wr, ret_wq, ret_some, vq_l, vq_r, Int.toNat_natCast, if_true, if_false, obs, decide_false, decide_true, Bool.false_eq_true, Bool.not_true, Bool.not_false, not_true_eq_false, not_false_eq_true, true_implies, false_implies, reduceCtorEq, true_and, and_true, false_and, or_false, false_or, implies_true, e5]
    have : k = n := by omega
    subst this
    rw [hsn] at hkl
    have := Option.some.inj hkl
    exact ⟨by omega, (fun e he => (hI e he).1), hP⟩

theorem ent_l4 : matrix_entries_l4 = sparseref09_Entries_l4 := rfl
theorem ent_l3 : matrix_entries_l3 = sparseref09_Entries_l3 := rfl

/-- the entries, both ways -/
theorem ents {x1 x2 : Int} {x3 x5 x7 : List Int} (h : Va x1 x2 x3 x5 x7) (h5 : x5.length ≤ 100000) (hp : matrix_Check x1 x2 x3 x5 x7 = some 0) (hr : sparseref09_Check x1 x2 x3 x5 x7 = some 0) :
    ∃ l, matrix_Entries x1 x2 x3 x5 x7 = some l ∧ sparseref09_Entries x1 x2 x3 x5 x7 = some l ∧ l.length ≤ x5.length ∧ (∀ e, e ∈ l → Bd x1 x2 e) ∧ l.Pairwise LT := by
  obtain ⟨l, h1, h2, h3⟩ := entries_ok h h5
  refine ⟨l, ?_, ?_, h2, h3⟩
  · unfold matrix_Entries matrix_entries
    rw [bindS hp, if_pos rfl, ent_l3, h1]; rfl
  · unfold sparseref09_Entries
    rw [bindS hr, if_pos rfl, h1]; rfl

def PR (c : List Int) (m : Nat) (i j : Nat) : Prop := ∃ a b : Nat, b < a ∧ a < m ∧ c[a]? = some (i : Int) ∧ c[b]? = some (j : Int)
def PB (c : List Int) (a q : Nat) (i j : Nat) : Prop := ∃ b : Nat, b < q ∧ c[a]? = some (i : Int) ∧ c[b]? = some (j : Int)
theorem PR.succ {c : List Int} {m i j : Nat} : PR c (m + 1) i j ↔ PR c m i j ∨ PB c m m i j := by
  constructor
  · rintro ⟨a, b, h1, h2, h3, h4⟩
    by_cases ha : a = m
    · subst ha; exact .inr ⟨b, h1, h3, h4⟩
    · exact .inl ⟨a, b, h1, by omega, h3, h4⟩
  · rintro (⟨a, b, h1, h2, h3, h4⟩ | ⟨b, h1, h2, h3⟩)
    · exact ⟨a, b, h1, by omega, h3, h4⟩
    · exact ⟨m, b, h1, by omega, h2, h3⟩
theorem PB.succ {c : List Int} {a q : Nat} {v w : Nat} (ha : c[a]? = some (v : Int)) (hq : c[q]? = some (w : Int)) {i j : Nat} : PB c a (q + 1) i j ↔ PB c a q i j ∨ (i = v ∧ j = w) := by
  constructor
  · rintro ⟨b, h1, h2, h3⟩
    by_cases hb : b = q
    · subst hb
      rw [ha] at h2; rw [hq] at h3
      have := Option.some.inj h2
      have := Option.some.inj h3
      exact .inr ⟨by omega, by omega⟩
    · exact .inl ⟨b, by omega, h2, h3⟩
  · rintro (⟨b, h1, h2, h3⟩ | ⟨rfl, rfl⟩)
    · exact ⟨b, by omega, h2, h3⟩
    · exact ⟨q, by omega, ha, hq⟩

theorem row_r {rows : List (List Int)} {k : Nat} {c : List Int} (hk : getI rows (k : Int) = some c) {n : Nat} (hc : c.length ≤ 100000) (hr : ∀ x, x ∈ c → 0 ≤ x ∧ x < (n : Int)) {T : List (List Bool)} {B : Nat → Nat → Prop} (hT : Tr T n B) :
    Ret (loop (sparseref12_FromNormal_l13 rows (k : Int)) (T, 0)) (fun T' => Tr T' n (fun i j => B i j ∨ PR c c.length i j)) := by
  refine ret_loop c.length (fun a (t : List (List Bool) × Int) => t.2 = a ∧ Tr t.1 n (fun i j => B i j ∨ PR c a i j)) ⟨rfl, Tr.congr (fun i j _ _ => by simp [PR]) hT⟩ ?_
  rintro a ⟨T, i⟩ ha ⟨rfl, hT⟩
  simp only at hT
  unfold sparseref12_FromNormal_l13
  by_cases hac : a < c.length
  · obtain ⟨x, hx⟩ : ∃ x, c[a]? = some x := ⟨c[a], by simp [hac]⟩
    have hxr := hr x (mem_get hx)
    obtain ⟨v, rfl⟩ := Int.eq_ofNat_of_zero_le hxr.1
    have e1 : getI c (a : Int) = some (v : Int) := hx
    have e5 : (a : Int) < (c.length : Int) := by omega
    have hw : wa .i64 (a : Int) 1 = ((a + 1 : Nat) : Int) := wa1 (by omega)
    simp only [ret_bind, ret_if, ret_get, ret_set, ret_app, ret_mkL, ret_sli, ret_wr, ret_wq, ret_some, vq_l, vq_r, Int.toNat_natCast, if_true, if_false, obs, decide_false, decide_true, Bool.false_eq_true, Bool.not_true, Bool.not_false, not_true_eq_false, not_false_eq_true, true_implies, false_implies, reduceCtorEq, true_and, and_true, false_and, or_false, false_or, implies_true, hk, e5, hw]
    refine ret_call (P := fun T' => Tr T' n (fun i j => (B i j ∨ PR c a i j) ∨ PB c a a i j)) ?_ ?_
    · refine ret_loop a (fun q (t : List (List Bool) × Int) => t.2 = q ∧ Tr t.1 n (fun i j => (B i j ∨ PR c a i j) ∨ PB c a q i j)) ⟨rfl, Tr.congr (fun i j _ _ => by simp [PB]) hT⟩ ?_
      rintro q ⟨T, i⟩ hq ⟨rfl, hT⟩
      simp only at hT
      unfold sparseref12_FromNormal_l14
      by_cases hqa : q < a
      · obtain ⟨y, hy⟩ : ∃ y, c[q]? = some y := ⟨c[q]'(by omega), by simp [show q < c.length by omega]⟩
        have hyr := hr y (mem_get hy)
        obtain ⟨w, rfl⟩ := Int.eq_ofNat_of_zero_le hyr.1
        obtain ⟨r, g1, g2, g3, _⟩ := hT.row (show v < n by omega)
        have hTl := hT.1
        have e2 : getI c (q : Int) = some (w : Int) := hy
        have e6 : (q : Int) < (a : Int) := by omega
        have hw2 : wa .i64 (q : Int) 1 = ((q + 1 : Nat) : Int) := wa1 (by omega)
        simp only [ret_bind, ret_if, ret_get, ret_set, ret_app, ret_mkL, ret_sli, ret_wr, ret_wq, ret_some, vq_l, vq_r, Int.toNat_natCast, if_true, if_false, obs, decide_false, decide_true, Bool.false_eq_true, Bool.not_true, Bool.not_false, not_true_eq_false, not_false_eq_true, true_implies, false_implies, reduceCtorEq, true_and, and_true, false_and, or_false, false_or, implies_true, hk, e1, e2, e6, hw2, g1]
        refine ⟨by omega, by omega, by omega, by omega, hqa, Tr.congr (fun i j _ _ => ?_) (hT.on (j := w) (show v < n by omega) g2)⟩
        rw [PB.succ hx hy]
        constructor
        · rintro (h | h | h)
          · exact .inr (.inr h)
          · exact .inl h
          · exact .inr (.inl h)
        · rintro (h | h | h)
          · exact .inr (.inl h)
          · exact .inr (.inr h)
          · exact .inl h
      · have e6 : ¬ (q : Int) < (a : Int) := by omega
        have : q = a := by omega
        subst this
        simp only [ret_bind, ret_if, ret_get, ret_set, ret_app, ret_mkL, ret_sli, ret_wr, ret_wq, ret_some, vq_l, vq_r, Int.toNat_natCast, if_true, if_false, obs, decide_false, decide_true, Bool.false_eq_true, Bool.not_true, Bool.not_false, not_true_eq_false, not_false_eq_true, true_implies, false_implies, reduceCtorEq, true_and, and_true, false_and, or_false, false_or, implies_true, e6]
        exact hT
    · intro T' hT'
      refine ⟨hac, Tr.congr (fun i j _ _ => ?_) hT'⟩
      rw [PR.succ]
      exact or_assoc
  · have e5 : ¬ (a : Int) < (c.length : Int) := by omega
    have : a = c.length := by omega
    subst this
    simp only [ret_bind, ret_if, ret_get, ret_set, ret_app, ret_mkL, ret_sli, ret_wr, ret_wq, ret_some, vq_l, vq_r, Int.toNat_natCast, if_true, if_false, obs, decide_false, decide_true, Bool.false_eq_true, Bool.not_true, Bool.not_false, not_true_eq_false, not_false_eq_true, true_implies, false_implies, reduceCtorEq, true_and, and_true, false_and, or_false, false_or, implies_true, hk, e5]
    exact hT

def RR (rows : List (List Int)) (i j : Nat) : Prop := ∃ c, c ∈ rows ∧ PR c c.length i j
theorem RR.succ {rows : List (List Int)} {k : Nat} {c : List Int} (h : rows[k]? = some c) {i j : Nat} : RR (rows.take (k + 1)) i j ↔ RR (rows.take k) i j ∨ PR c c.length i j := by
  unfold RR
  constructor
  · rintro ⟨x, hx, h1⟩
    rw [mts h] at hx
    rcases hx with hx | rfl
    · exact .inl ⟨x, hx, h1⟩
    · exact .inr h1
  · rintro (⟨x, hx, h1⟩ | h1)
    · exact ⟨x, (mts h).2 (.inl hx), h1⟩
    · exact ⟨c, (mts h).2 (.inr rfl), h1⟩

theorem fn_r {rows : List (List Int)} {n : Nat} (hl : rows.length ≤ 100000) (hs : ∀ c, c ∈ rows → c.length ≤ 100000 ∧ ∀ x, x ∈ c → 0 ≤ x ∧ x < (n : Int)) :
    Ret (loop (sparseref12_FromNormal_l10 rows) (List.replicate n (List.replicate n false), 0)) (fun T => Tr T n (RR rows)) := by
  refine ret_loop rows.length (fun k (t : List (List Bool) × Int) => t.2 = k ∧ Tr t.1 n (RR (rows.take k))) ⟨rfl, Tr.congr (fun i j _ _ => by simp [RR]) (Tr.blank n)⟩ ?_
  rintro k ⟨T, i⟩ hk ⟨rfl, hT⟩
  simp only at hT
  unfold sparseref12_FromNormal_l10
  by_cases hkl : k < rows.length
  · obtain ⟨c, hc⟩ : ∃ c, rows[k]? = some c := ⟨rows[k], by simp [hkl]⟩
    obtain ⟨c1, c2⟩ := hs c (mem_get hc)
    have e5 : (k : Int) < (rows.length : Int) := by omega
    have hw : wa .i64 (k : Int) 1 = ((k + 1 : Nat) : Int) := wa1 (by omega)
    simp only [ret_bind, ret_if, ret_get, ret_set, ret_app, ret_mkL, ret_sli, ret_wr, ret_wq, ret_some, vq_l, vq_r, Int.toNat_natCast, if_true, if_false, obs, decide_false, decide_true, Bool.false_eq_true, Bool.not_true, Bool.not_false, not_true_eq_false, not_false_eq_true, true_implies, false_implies, reduceCtorEq, true_and, and_true, false_and, or_false, false_or, implies_true, e5, hw]
    exact ret_call (row_r (show getI rows (k : Int) = some c from hc) c1 c2 hT) (fun T' hT' => ⟨hkl, Tr.congr (fun i j _ _ => by rw [RR.succ hc]) hT'⟩)
  · have e5 : ¬ (k : Int) < (rows.length : Int) := by omega
    simp only [ret_bind, ret_if, ret_get, ret_set, ret_app, ret_mkL, ret_sli, ret_wr, ret_wq, ret_some, vq_l, vq_r, Int.toNat_natCast, if_true, if_false, obs, decide_false, decide_true, Bool.false_eq_true, Bool.not_true, Bool.not_false, not_true_eq_false, not_false_eq_true, true_implies, false_implies, reduceCtorEq, true_and, and_true, false_and, or_false, false_or, implies_true, e5]
    rwa [take_all (by omega)] at hT

/-- a row's columns -/
def cols (l : List (Int × Int × Int)) (r : Nat) : List Int := (l.filter fun e => decide (e.1 = (r : Int))).map (·.2.1)
def En (l : List (Int × Int × Int)) (r c : Nat) : Prop := ∃ e, e ∈ l ∧ e.1 = (r : Int) ∧ e.2.1 = (c : Int)
theorem cols_mem {l : List (Int × Int × Int)} {r : Nat} {x : Int} : x ∈ cols l r ↔ ∃ e, e ∈ l ∧ e.1 = (r : Int) ∧ e.2.1 = x := by
  simp [cols, and_assoc]
theorem cols_snoc {l : List (Int × Int × Int)} {e : Int × Int × Int} {r : Nat} : cols (l ++ [e]) r = if e.1 = (r : Int) then cols l r ++ [e.2.1] else cols l r := by
  unfold cols
  rw [List.filter_append, List.map_append]
  by_cases h : e.1 = (r : Int)
  · simp [h]
  · simp [h]
theorem cols_len {l : List (Int × Int × Int)} {r : Nat} : (cols l r).length ≤ l.length := by
  unfold cols; rw [List.length_map]; exact List.length_filter_le _ _

theorem rows_ok {l : List (Int × Int × Int)} {m n : Nat} (hl : l.length ≤ 100000) (hr : ∀ e, e ∈ l → Bd m n e) :
    Ret (loop (sparseref12_FromNormal_l1 l) (List.replicate m [], 0)) (fun rows => rows.length = m ∧ ∀ r, r < m → rows[r]? = some (cols l r)) := by
  refine ret_loop l.length (fun k (t : List (List Int) × Int) => t.2 = k ∧ t.1.length = m ∧ ∀ r, r < m → t.1[r]? = some (cols (l.take k) r)) ⟨rfl, by simp, fun r hr => by simp [hr, cols]⟩ ?_
  rintro k ⟨rows, i⟩ hk ⟨rfl, h1, h2⟩
  simp only at h1 h2
  unfold sparseref12_FromNormal_l1
  by_cases hkl : k < l.length
  · obtain ⟨x, hx⟩ : ∃ x, l[k]? = some x := ⟨l[k], by simp [hkl]⟩
    obtain ⟨⟨a1, a2⟩, b1, b2⟩ := hr x (mem_get hx)
    obtain ⟨v, hv⟩ := Int.eq_ofNat_of_zero_le a1
    have hc := h2 v (by omega)
    have hcl := cols_len (l := l.take k) (r := v)
    have hlt : (l.take k).length ≤ l.length := by rw [List.length_take]; omega
    have e1 : getI l (k : Int) = some x := hx
    have e2 : getI rows (v : Int) = some (cols (l.take k) v) := hc
    have e5 : (k : Int) < (l.length : Int) := by omega
    have hw : wa .i64 (k : Int) 1 = ((k + 1 : Nat) : Int) := wa1 (by omega)
    simp only [ret_bind, ret_if, ret_get, ret_set, ret_app, ret_mkL, ret_sli, ret_wr, ret_wq, ret_some, vq_l, vq_r, Int.toNat_natCast, if_true, if_false, obs, decide_false, decide_true, Bool.false_eq_true, Bool.not_true, Bool.not_false, not_true_eq_false, not_false_eq_true, true_implies, false_implies, reduceCtorEq, true_and, and_true, false_and, or_false, false_or, implies_true, e1, e2, e5, hw, hv]
    refine ⟨by rw [List.length_singleton]; omega, by omega, by omega, hkl, by simp [h1], fun r hr' => ?_⟩
    rw [List.getElem?_set, tks hx, cols_snoc, hv]
    by_cases hrv : v = r
    · subst hrv
      rw [if_pos rfl, if_pos (by omega), if_pos rfl]
    · rw [if_neg hrv, if_neg (by omega), h2 r hr']
  · have e5 : ¬ (k : Int) < (l.length : Int) := by omega
    simp only [ret_bind, ret_if, ret_get, ret_set, ret_app, ret_mkL, ret_sli, ret_wr, ret_wq, ret_some, vq_l, vq_r, Int.toNat_natCast, if_true, if_false, obs, decide_false, decide_true, Bool.false_eq_true, Bool.not_true, Bool.not_false, not_true_eq_false, not_false_eq_true, true_implies, false_implies, reduceCtorEq, true_and, and_true, false_and, or_false, false_or, implies_true, e5]
    rw [take_all (by omega)] at h2
    exact ⟨h1, h2⟩

/-- who is joined to whom in the normal graph -/
def Nb (l : List (Int × Int × Int)) (i j : Nat) : Prop := i ≠ j ∧ ∃ r, En l r i ∧ En l r j
theorem nb_rows {l : List (Int × Int × Int)} {m n : Nat} (hr : ∀ e, e ∈ l → Bd m n e) {rows : List (List Int)} (h1 : rows.length = m) (h2 : ∀ r, r < m → rows[r]? = some (cols l r)) {i j : Nat} (hij : i ≠ j) : (RR rows i j ∨ RR rows j i) ↔ ∃ r, En l r i ∧ En l r j := by
  have half : ∀ {i j : Nat}, RR rows i j → ∃ r, En l r i ∧ En l r j := by
    rintro i j ⟨c, hc, a, b, hba, ha, hi, hj⟩
    obtain ⟨r, hr', hc'⟩ := List.mem_iff_getElem.1 hc
    have hrm : r < m := by omega
    have := h2 r hrm
    rw [List.getElem?_eq_getElem (by omega), hc'] at this
    obtain rfl := Option.some.inj this
    exact ⟨r, cols_mem.1 (mem_get hi), cols_mem.1 (mem_get hj)⟩
  constructor
  · rintro (h | h)
    · exact half h
    · obtain ⟨r, h3, h4⟩ := half h
      exact ⟨r, h4, h3⟩
  · rintro ⟨r, hi, hj⟩
    have hrm : r < m := by
      obtain ⟨e, he, h3, _⟩ := hi
      have := (hr e he).1
      omega
    have hmem := List.mem_of_getElem? (h2 r hrm)
    obtain ⟨a, ha⟩ := List.mem_iff_getElem?.1 (cols_mem.2 hi)
    obtain ⟨b, hb⟩ := List.mem_iff_getElem?.1 (cols_mem.2 hj)
    have hal := (List.getElem?_eq_some_iff.1 ha).1
    have hbl := (List.getElem?_eq_some_iff.1 hb).1
    by_cases hab : a < b
    · exact .inr ⟨_, hmem, b, a, hab, hbl, hb, ha⟩
    · by_cases hba : b < a
      · exact .inl ⟨_, hmem, a, b, hba, hal, ha, hb⟩
      · obtain rfl : a = b := by omega
        rw [ha] at hb
        have := Option.some.inj hb
        omega

open Classical in
/-- the document's normal graph -/
theorem rnormal_ok {x1 x2 : Int} {x3 x5 x7 : List Int} {l : List (Int × Int × Int)} {m n : Nat} (hm : m ≤ 200) (hn : n ≤ 200) (h1 : x1 = (m : Int)) (h2 : x2 = (n : Int)) (hc : sparseref09_Check x1 x2 x3 x5 x7 = some 0) (he : sparseref09_Entries x1 x2 x3 x5 x7 = some l) (hl : l.length ≤ 1000) (hr : ∀ e, e ∈ l → Bd m n e) :
    ∃ adj, sparseref12_FromNormal x1 x2 x3 x5 x7 = some (adj, 0) ∧ Gr adj ∧ adj.length = n ∧ ∀ (v w : Nat), v < n → w < n → ∀ ll, adj[v]? = some ll → ((w : Int) ∈ ll ↔ Nb l v w) := by
  subst h1 h2
  unfold sparseref12_FromNormal
  obtain ⟨rows, r1, r2, r3⟩ := rows_ok (l := l) (m := m) (n := n) (by omega) hr
  have hs : ∀ c, c ∈ rows → c.length ≤ 100000 ∧ ∀ x, x ∈ c → 0 ≤ x ∧ x < (n : Int) := by
    intro c hc
    obtain ⟨r, hr', hc'⟩ := List.mem_iff_getElem.1 hc
    have := r3 r (by omega)
    rw [List.getElem?_eq_getElem (by omega), hc'] at this
    obtain rfl := Option.some.inj this
    refine ⟨by have := cols_len (l := l) (r := r); omega, fun x hx => ?_⟩
    obtain ⟨e, he, _, rfl⟩ := cols_mem.1 hx
    exact (hr e he).2
  obtain ⟨T', t1', t2'⟩ := fn_r (rows := rows) (n := n) (by omega) hs
  rw [bindS hc, if_pos rfl, bindS (mkL_nat ([] : List Int) m (by omega)), bindS he, bindS r1, bindS (rempty_ok (by omega)), bindS t1', bindS (fromTable_ok t2'.tb (by omega))]
  refine ⟨_, rfl, nbr_gr _ n, by simp, fun v w hv hw ll hll => ?_⟩
  simp only [List.getElem?_map, List.getElem?_range hv, Option.map_some, Option.some.injEq] at hll
  subst hll
  rw [nbr_mem]
  simp only [Int.toNat_natCast, decide_eq_true_eq, Nb]
  constructor
  · rintro ⟨_, _, h3, h4⟩
    exact ⟨h3, (nb_rows hr r2 r3 h3).1 h4⟩
  · rintro ⟨h3, h4⟩
    exact ⟨by omega, hw, h3, (nb_rows hr r2 r3 h3).2 h4⟩
end Pu
