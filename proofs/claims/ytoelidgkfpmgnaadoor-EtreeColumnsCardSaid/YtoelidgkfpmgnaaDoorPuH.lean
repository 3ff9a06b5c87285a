/- The document's check of a matrix; the entries by columns; the rows; the table of the normal graph (from PtH, told more of). -/
import Derived.Test.YtoelidgkfpmgnaaDoorPuG
set_option linter.unusedSimpArgs false
set_option linter.unusedVariables false
namespace Pu
open Pl Sx Go M Vc

/-- a valid matrix -/
structure Va (x1 x2 : Int) (x3 x5 x7 : List Int) : Prop where
  sz : Sz x1 x2 x5
  hd : Hd x1 x2 x3 x5 x7
  mo : Mo x3
  cl : Cl x1 x3 x5
theorem Ot.va {x1 x2 : Int} {x3 x5 x7 : List Int} (h : Ot x1 x2 x3 x5 x7 0) : Va x1 x2 x3 x5 x7 := by
  rcases h with ⟨h, _⟩ | ⟨h, _⟩ | ⟨h, _⟩ | ⟨_, h1, ⟨h2, h3, h4⟩, _⟩
  · cases h
  · cases h
  · cases h
  · exact ⟨h1, h2, h3, h4⟩

/-- by columns, and in a column by rows -/
def LT (e e' : Int × Int × Int) : Prop := e.2.1 < e'.2.1 ∨ (e.2.1 = e'.2.1 ∧ e.1 < e'.1)
def Bd (x1 x2 : Int) (e : Int × Int × Int) : Prop := (0 ≤ e.1 ∧ e.1 < x1) ∧ (0 ≤ e.2.1 ∧ e.2.1 < x2)
theorem lt_snoc {l : List (Int × Int × Int)} {x : Int × Int × Int} (h : l.Pairwise LT) (h2 : ∀ e, e ∈ l → LT e x) : (l ++ [x]).Pairwise LT := by
  rw [List.pairwise_append]
  exact ⟨h, List.pairwise_singleton _ _, fun y hy z hz => by rw [List.mem_singleton] at hz; subst hz; exact h2 y hy⟩

def PR (c : List Int) (m : Nat) (i j : Nat) : Prop := ∃ a b : Nat, b < a ∧ a < m ∧ c[a]? = some (i : Int) ∧ c[b]? = some (j : Int)
def PB (c : List Int) (a q : Nat) (i j : Nat) : Prop := ∃ b : Nat, b < q ∧ c[a]? = some (i : Int) ∧ c[b]? = some (j : Int)
theorem PR.succ {c : List Int} {m i j : Nat} : PR c (m + 1) i j ↔ PR c m i j ∨ PB c m m i j := by
  constructor
  · rintro ⟨a, b, h1, h2, h3, h4⟩
    by_cases ha : a = m
    · subst ha; exact .inr ⟨b, h1, h3, h4⟩
    · exact .inl ⟨a, b, h1, by omega, h3, h4⟩
  · rintro (⟨a, b, h1, h2, h3, h4⟩ | ⟨b, h1, h2, h3⟩)
    · exact ⟨a, b, h1, by omega, h3, h4⟩
    · exact ⟨m, b, h1, by omega, h2, h3⟩
theorem PB.succ {c : List Int} {a q : Nat} {v w : Nat} (ha : c[a]? = some (v : Int)) (hq : c[q]? = some (w : Int)) {i j : Nat} : PB c a (q + 1) i j ↔ PB c a q i j ∨ (i = v ∧ j = w) := by
  constructor
  · rintro ⟨b, h1, h2, h3⟩
    by_cases hb : b = q
    · subst hb
      rw [ha] at h2; rw [hq] at h3
      have := Option.some.inj h2
      have := Option.some.inj h3
      exact .inr ⟨by omega, by omega⟩
    · exact .inl ⟨b, by omega, h2, h3⟩
  · rintro (⟨b, h1, h2, h3⟩ | ⟨rfl, rfl⟩)
    · exact ⟨b, by omega, h2, h3⟩
    · exact ⟨q, by omega, ha, hq⟩

def RR (rows : List (List Int)) (i j : Nat) : Prop := ∃ c, c ∈ rows ∧ PR c c.length i j
theorem RR.succ {rows : List (List Int)} {k : Nat} {c : List Int} (h : rows[k]? = some c) {i j : Nat} : RR (rows.take (k + 1)) i j ↔ RR (rows.take k) i j ∨ PR c c.length i j := by
  unfold RR
  constructor
  · rintro ⟨x, hx, h1⟩
    rw [mts h] at hx
    rcases hx with hx | rfl
    · exact .inl ⟨x, hx, h1⟩
    · exact .inr h1
  · rintro (⟨x, hx, h1⟩ | h1)
    · exact ⟨x, (mts h).2 (.inl hx), h1⟩
    · exact ⟨c, (mts h).2 (.inr rfl), h1⟩

/-- a row's columns -/
def cols (l : List (Int × Int × Int)) (r : Nat) : List Int := (l.filter fun e => decide (e.1 = (r : Int))).map (·.2.1)
def En (l : List (Int × Int × Int)) (r c : Nat) : Prop := ∃ e, e ∈ l ∧ e.1 = (r : Int) ∧ e.2.1 = (c : Int)
theorem cols_mem {l : List (Int × Int × Int)} {r : Nat} {x : Int} : x ∈ cols l r ↔ ∃ e, e ∈ l ∧ e.1 = (r : Int) ∧ e.2.1 = x := by
  simp [cols, and_assoc]
theorem cols_snoc {l : List (Int × Int × Int)} {e : Int × Int × Int} {r : Nat} : cols (l ++ [e]) r = if e.1 = (r : Int) then cols l r ++ [e.2.1] else cols l r := by
  unfold cols
  rw [List.filter_append, List.map_append]
  by_cases h : e.1 = (r : Int)
  · simp [h]
  · simp [h]
theorem cols_len {l : List (Int × Int × Int)} {r : Nat} : (cols l r).length ≤ l.length := by
  unfold cols; rw [List.length_map]; exact List.length_filter_le _ _

/-- who is joined to whom in the normal graph -/
def Nb (l : List (Int × Int × Int)) (i j : Nat) : Prop := i ≠ j ∧ ∃ r, En l r i ∧ En l r j
theorem nb_rows {l : List (Int × Int × Int)} {m n : Nat} (hr : ∀ e, e ∈ l → Bd m n e) {rows : List (List Int)} (h1 : rows.length = m) (h2 : ∀ r, r < m → rows[r]? = some (cols l r)) {i j : Nat} (hij : i ≠ j) : (RR rows i j ∨ RR rows j i) ↔ ∃ r, En l r i ∧ En l r j := by
  have half : ∀ {i j : Nat}, RR rows i j → ∃ r, En l r i ∧ En l r j := by
    rintro i j ⟨c, hc, a, b, hba, ha, hi, hj⟩
    obtain ⟨r, hr', hc'⟩ := List.mem_iff_getElem.1 hc
    have hrm : r < m := by omega
    have := h2 r hrm
    rw [List.getElem?_eq_getElem (by omega), hc'] at this
    obtain rfl := Option.some.inj this
    exact ⟨r, cols_mem.1 (mem_get hi), cols_mem.1 (mem_get hj)⟩
  constructor
  · rintro (h | h)
    · exact half h
    · obtain ⟨r, h3, h4⟩ := half h
      exact ⟨r, h4, h3⟩
  · rintro ⟨r, hi, hj⟩
    have hrm : r < m := by
      obtain ⟨e, he, h3, _⟩ := hi
      have := (hr e he).1
      omega
    have hmem := List.mem_of_getElem? (h2 r hrm)
    obtain ⟨a, ha⟩ := List.mem_iff_getElem?.1 (cols_mem.2 hi)
    obtain ⟨b, hb⟩ := List.mem_iff_getElem?.1 (cols_mem.2 hj)
    have hal := (List.getElem?_eq_some_iff.1 ha).1
    have hbl := (List.getElem?_eq_some_iff.1 hb).1
    by_cases hab : a < b
    · exact .inr ⟨_, hmem, b, a, hab, hbl, hb, ha⟩
    · by_cases hba : b < a
      · exact .inl ⟨_, hmem, a, b, hba, hal, ha, hb⟩
      · obtain rfl : a = b := by omega
        rw [ha] at hb
        have := Option.some.inj hb
        omega

end Pu
