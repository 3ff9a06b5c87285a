/- The lists of a forest: Check, Depths, Sizes, Postorder of the program and of the document are the same. -/
import Derived.Test.YtoelidgkfpmgnaaDoorPlA
import Derived.Test.YtoelidgkfpmgnaaDoorM3
import Derived.KernelRfl
namespace Pl
open Sx Go M

theorem awake19 : sparselaw19_awake = some true := by kernel_rfl

/-! ### two lists are the same -/
theorem ints_spec (a b : List Int) (hl : a.length < 10000000) : sparsekit_Ints a b = some (decide (a = b)) := by
  unfold sparsekit_Ints
  by_cases h : a.length = b.length
  · rw [if_pos (by omega)]
    obtain ⟨o, h1, h2⟩ := forG (step := sparsekit_Ints_l1 a b) (fun k (_ : Unit) => (k : Int)) a.length (by omega) (fun k _ => a.take k = b.take k)
      (fun o => (o = .inl () ∧ a = b) ∨ (o = .inr () ∧ a ≠ b)) (s0 := ()) (by simp) (by
        intro k _ hk hI
        have hk2 : k < b.length := by omega
        unfold sparsekit_Ints_l1
        rw [if_pos (by omega), bindS (getI_lt hk), bindS (getI_lt hk2)]
        by_cases he : a[k] = b[k]
        · rw [if_pos he, wa1 (by omega)]
          exact .inl ⟨(), rfl, by rw [take_succ' hk, take_succ' hk2, hI, he]⟩
        · rw [if_neg he]
          refine .inr ⟨_, rfl, .inr ⟨rfl, ?_⟩⟩
          rintro rfl; exact he rfl) (by
        intro _ hI
        unfold sparsekit_Ints_l1
        rw [if_neg (by omega)]
        refine ⟨_, rfl, .inl ⟨rfl, ?_⟩⟩
        rwa [List.take_of_length_le (by omega), List.take_of_length_le (by omega)] at hI)
    have h1' : loop (sparsekit_Ints_l1 a b) 0 = some o := h1
    rw [bindS h1']
    rcases h2 with ⟨rfl, h2⟩ | ⟨rfl, h2⟩
    · simp [h2]
    · simp [h2]
  · rw [if_neg (by omega)]
    simp only [Option.some.injEq]
    symm
    rw [decide_eq_false_iff_not]
    rintro rfl; exact h rfl

/-! ### forests -/
def FoAt (par : List Int) (k : Nat) : Prop := ∀ p, par[k]? = some p → p = -1 ∨ ((k : Int) < p ∧ p < par.length)
def Fo (par : List Int) : Prop := ∀ k, k < par.length → FoAt par k

theorem check_e (par : List Int) (h : par.length ≤ 200) : (etree_Check par = some 0 ∧ Fo par) ∨ (etree_Check par = some 190 ∧ ¬ Fo par) := by
  unfold etree_Check
  rw [if_neg (by omega)]
  obtain ⟨o, h1, h2⟩ := forG (step := etree_Check_l7 par) (fun k (_ : Unit) => (k : Int)) par.length (by omega) (fun k _ => ∀ j, j < k → FoAt par j)
      (fun o => (o = .inl () ∧ Fo par) ∨ (o = .inr () ∧ ¬ Fo par)) (s0 := ()) (fun j hj => by omega) (by
        intro k _ hk hI
        unfold etree_Check_l7
        rw [if_pos (by omega), bindS (getI_lt hk)]
        have hg : par[k]? = some par[k] := by simp [hk]
        split
        · rename_i hc
          refine .inr ⟨_, rfl, .inr ⟨rfl, fun hF => ?_⟩⟩
          have := hF k hk _ hg
          simp at hc
          omega
        · rename_i hc
          rw [wa1 (by omega)]
          refine .inl ⟨(), rfl, fun j hj => ?_⟩
          by_cases hjk : j = k
          · subst hjk
            intro p hp
            rw [hg] at hp; cases hp
            simp at hc
            omega
          · exact hI j (by omega)) (by
        intro _ hI
        unfold etree_Check_l7
        rw [if_neg (by omega)]
        exact ⟨_, rfl, .inl ⟨rfl, hI⟩⟩)
  have h1' : loop (etree_Check_l7 par) 0 = some o := h1
  rw [bindS h1']
  rcases h2 with ⟨rfl, h2⟩ | ⟨rfl, h2⟩
  · exact .inl ⟨rfl, h2⟩
  · exact .inr ⟨rfl, h2⟩

/-! ### depths -/
def dp (par : List Int) : Nat → Nat → Nat
  | 0, _ => 0
  | f + 1, j => match par[j]? with
    | some p => if p = -1 then 0 else dp par f p.toNat + 1
    | none => 0
theorem dp_stable {par : List Int} (hF : Fo par) : ∀ f j, par.length ≤ f + j → dp par (f + 1) j = dp par f j := by
  intro f
  induction f with
  | zero =>
    intro j hj
    simp only [dp]
    rw [List.getElem?_eq_none (by omega)]
  | succ f ih =>
    intro j hj
    rw [dp, dp]
    cases hp : par[j]? with
    | none => rfl
    | some p =>
      simp only
      have hj' : j < par.length := (List.getElem?_eq_some_iff.1 hp).1
      rcases hF j hj' p hp with h | h
      · rw [if_pos h, if_pos h]
      · rw [if_neg (by omega), if_neg (by omega), ih p.toNat (by omega)]
def D (par : List Int) (j : Nat) : Nat := dp par par.length j
theorem D_root {par : List Int} {j : Nat} (hj : par[j]? = some (-1)) : D par j = 0 := by
  unfold D
  cases h : par.length with
  | zero => rfl
  | succ n => simp [dp, hj]
theorem D_next {par : List Int} (hF : Fo par) {j : Nat} {p : Int} (hj : par[j]? = some p) (hp : p ≠ -1) : D par j = D par p.toNat + 1 := by
  have hj' : j < par.length := (List.getElem?_eq_some_iff.1 hj).1
  have hjp := (hF j hj' p hj).resolve_left hp
  unfold D
  have e : par.length = (par.length - 1) + 1 := by omega
  have h1 : dp par par.length j = dp par (par.length - 1) p.toNat + 1 := by
    conv => lhs; rw [e]
    simp only [dp, hj]
    rw [if_neg hp]
  have h2 := dp_stable hF (par.length - 1) p.toNat (by omega)
  rw [← e] at h2
  rw [h1, h2]
theorem D_lt {par : List Int} (hF : Fo par) : ∀ m j, par.length = j + m → D par j ≤ m := by
  intro m
  induction m using Nat.strongRecOn with
  | _ m ih =>
    intro j hj
    cases hp : par[j]? with
    | none =>
      rw [List.getElem?_eq_none_iff] at hp
      have : par.length = j := by omega
      unfold D
      cases hl : par.length with
      | zero => simp [dp]
      | succ n => simp [dp, List.getElem?_eq_none (show par.length ≤ j by omega)]
    | some p =>
      have hj' : j < par.length := (List.getElem?_eq_some_iff.1 hp).1
      by_cases h0 : p = -1
      · subst h0; rw [D_root hp]; omega
      · have hjp := (hF j hj' p hp).resolve_left h0
        rw [D_next hF hp h0]
        have := ih (par.length - p.toNat) (by omega) p.toNat (by omega)
        omega

end Pl
