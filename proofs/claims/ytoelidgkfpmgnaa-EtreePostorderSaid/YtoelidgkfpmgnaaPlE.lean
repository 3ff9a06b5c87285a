/- The lists of a forest: Check, Depths, Sizes, Postorder of the program and of the document are the same. -/
import Derived.Test.YtoelidgkfpmgnaaPlA
import Derived.Test.YtoelidgkfpmgnaaM3
import Derived.KernelRfl
namespace Pl
open Sx Go M

theorem awake19 : sparselaw19_awake = some true := by kernel_rfl

/-! ### two lists are the same -/
theorem ints_spec (a b : List Int) (hl : a.length < 10000000) : sparsekit_Ints a b = some (decide (a = b)) := by
  unfold sparsekit_Ints
  by_cases h : a.length = b.length
  · rw [if_pos (by omega)]
    obtain ⟨o, h1, h2⟩ := forG (step := sparsekit_Ints_l1 a b) (fun k (_ : Unit) => (k : Int)) a.length (by omega) (fun k _ => a.take k = b.take k)
      (fun o => (o = .inl () ∧ a = b) ∨ (o = .inr () ∧ a ≠ b)) (s0 := ()) (by simp) (by
        intro k _ hk hI
        have hk2 : k < b.length := by omega
        unfold sparsekit_Ints_l1
        rw [if_pos (by omega), bindS (getI_lt hk), bindS (getI_lt hk2)]
        by_cases he : a[k] = b[k]
        · rw [if_pos he, wa1 (by omega)]
          exact .inl ⟨(), rfl, by rw [take_succ' hk, take_succ' hk2, hI, he]⟩
        · rw [if_neg he]
          refine .inr ⟨_, rfl, .inr ⟨rfl, ?_⟩⟩
          rintro rfl; exact he rfl) (by
        intro _ hI
        unfold sparsekit_Ints_l1
        rw [if_neg (by omega)]
        refine ⟨_, rfl, .inl ⟨rfl, ?_⟩⟩
        rwa [List.take_of_length_le (by omega), List.take_of_length_le (by omega)] at hI)
    have h1' : loop (sparsekit_Ints_l1 a b) 0 = some o := h1
    rw [bindS h1']
    rcases h2 with ⟨rfl, h2⟩ | ⟨rfl, h2⟩
    · simp [h2]
    · simp [h2]
  · rw [if_neg (by omega)]
    simp only [Option.some.injEq]
    symm
    rw [decide_eq_false_iff_not]
    rintro rfl; exact h rfl

theorem twinInts_spec (a : List Int) (hl : a.length < 1000000) : sparsekit_TwinInts a = some a := by
  unfold sparsekit_TwinInts
  obtain ⟨o, h1, h2⟩ := forG (step := sparsekit_TwinInts_l1 a) (fun k (s : List Int) => (s, (k : Int))) a.length (by omega) (fun k s => s = a.take k)
      (fun o => o = a) (s0 := []) (by simp) (by
        intro k s hk hI
        subst hI
        unfold sparsekit_TwinInts_l1
        simp only
        rw [if_pos (by omega), bindS (getI_lt hk), bindS (app_small (by simp; omega)), wa1 (by omega)]
        exact .inl ⟨_, rfl, by rw [take_succ' hk]⟩) (by
        intro s hI
        subst hI
        unfold sparsekit_TwinInts_l1
        simp only
        rw [if_neg (by omega)]
        exact ⟨_, rfl, by simp⟩)
  have h1' : loop (sparsekit_TwinInts_l1 a) ([], 0) = some o := h1
  rw [bindS h1', h2]

/-! ### forests -/
def FoAt (par : List Int) (k : Nat) : Prop := ∀ p, par[k]? = some p → p = -1 ∨ ((k : Int) < p ∧ p < par.length)
def Fo (par : List Int) : Prop := ∀ k, k < par.length → FoAt par k

theorem check_e (par : List Int) (h : par.length ≤ 200) : (etree_Check par = some 0 ∧ Fo par) ∨ (etree_Check par = some 190 ∧ ¬ Fo par) := by
  unfold etree_Check
  rw [if_neg (by omega)]
  obtain ⟨o, h1, h2⟩ := forG (step := etree_Check_l7 par) (fun k (_ : Unit) => (k : Int)) par.length (by omega) (fun k _ => ∀ j, j < k → FoAt par j)
      (fun o => (o = .inl () ∧ Fo par) ∨ (o = .inr () ∧ ¬ Fo par)) (s0 := ()) (fun j hj => by omega) (by
        intro k _ hk hI
        unfold etree_Check_l7
        rw [if_pos (by omega), bindS (getI_lt hk)]
        have hg : par[k]? = some par[k] := by simp [hk]
        split
        · rename_i hc
          refine .inr ⟨_, rfl, .inr ⟨rfl, fun hF => ?_⟩⟩
          have := hF k hk _ hg
          simp at hc
          omega
        · rename_i hc
          rw [wa1 (by omega)]
          refine .inl ⟨(), rfl, fun j hj => ?_⟩
          by_cases hjk : j = k
          · subst hjk
            intro p hp
            rw [hg] at hp; cases hp
            simp at hc
            omega
          · exact hI j (by omega)) (by
        intro _ hI
        unfold etree_Check_l7
        rw [if_neg (by omega)]
        exact ⟨_, rfl, .inl ⟨rfl, hI⟩⟩)
  have h1' : loop (etree_Check_l7 par) 0 = some o := h1
  rw [bindS h1']
  rcases h2 with ⟨rfl, h2⟩ | ⟨rfl, h2⟩
  · exact .inl ⟨rfl, h2⟩
  · exact .inr ⟨rfl, h2⟩

theorem check_r (par : List Int) (h : par.length ≤ 200) : (sparseref19_Check par = some 0 ∧ Fo par) ∨ (sparseref19_Check par = some 190 ∧ ¬ Fo par) := by
  unfold sparseref19_Check
  rw [if_neg (by omega)]
  obtain ⟨o, h1, h2⟩ := forG (step := sparseref19_Check_l7 par) (fun k (_ : Unit) => (k : Int)) par.length (by omega) (fun k _ => ∀ j, j < k → FoAt par j)
      (fun o => (o = .inl () ∧ Fo par) ∨ (o = .inr () ∧ ¬ Fo par)) (s0 := ()) (fun j hj => by omega) (by
        intro k _ hk hI
        have hg : par[k]? = some par[k] := by simp [hk]
        have hv : ∃ b : Bool, (b = true ↔ ¬ FoAt par k) ∧ (if par[k] = (-1) then some false else (getI par (k : Int)).bind fun x53 => (if x53 ≤ (k : Int) then some true else (getI par (k : Int)).bind fun x58 => some (decide ((par.length : Int) ≤ x58))).bind fun r55 => some r55) = some b := by
          rw [bindS (getI_lt hk)]
          by_cases h0 : par[k] = -1
          · refine ⟨false, ?_, by rw [if_pos h0]⟩
            simp only [Bool.false_eq_true, false_iff, Classical.not_not]
            intro p hp
            rw [hg] at hp; cases hp
            exact .inl h0
          · rw [if_neg h0]
            by_cases h1 : par[k] ≤ (k : Int)
            · refine ⟨true, ?_, by rw [if_pos h1]; rfl⟩
              simp only [true_iff]
              intro hF
              have := hF _ hg
              omega
            · rw [if_neg h1, bindS (getI_lt hk)]
              refine ⟨_, ?_, rfl⟩
              rw [decide_eq_true_iff]
              constructor
              · intro h2 hF
                have := hF _ hg
                omega
              · intro hF
                by_cases h2 : (par.length : Int) ≤ par[k]
                · exact h2
                · exact absurd (fun p hp => by rw [hg] at hp; cases hp; omega) hF
        obtain ⟨b, hb, hv⟩ := hv
        unfold sparseref19_Check_l7
        rw [if_pos (by omega), bindS (getI_lt hk), bindS hv]
        by_cases hbt : b = true
        · rw [if_pos hbt]
          exact .inr ⟨_, rfl, .inr ⟨rfl, fun hF => (hb.1 hbt) (hF k hk)⟩⟩
        · rw [if_neg hbt, wa1 (by omega)]
          refine .inl ⟨(), rfl, fun j hj => ?_⟩
          by_cases hjk : j = k
          · subst hjk
            exact Classical.not_not.1 fun h => hbt (hb.2 h)
          · exact hI j (by omega)) (by
        intro _ hI
        unfold sparseref19_Check_l7
        rw [if_neg (by omega)]
        exact ⟨_, rfl, .inl ⟨rfl, hI⟩⟩)
  have h1' : loop (sparseref19_Check_l7 par) 0 = some o := h1
  rw [bindS h1']
  rcases h2 with ⟨rfl, h2⟩ | ⟨rfl, h2⟩
  · exact .inl ⟨rfl, h2⟩
  · exact .inr ⟨rfl, h2⟩

/-! ### depths -/
def dp (par : List Int) : Nat → Nat → Nat
  | 0, _ => 0
  | f + 1, j => match par[j]? with
    | some p => if p = -1 then 0 else dp par f p.toNat + 1
    | none => 0
theorem dp_stable {par : List Int} (hF : Fo par) : ∀ f j, par.length ≤ f + j → dp par (f + 1) j = dp par f j := by
  intro f
  induction f with
  | zero =>
    intro j hj
    simp only [dp]
    rw [List.getElem?_eq_none (by omega)]
  | succ f ih =>
    intro j hj
    rw [dp, dp]
    cases hp : par[j]? with
    | none => rfl
    | some p =>
      simp only
      have hj' : j < par.length := (List.getElem?_eq_some_iff.1 hp).1
      rcases hF j hj' p hp with h | h
      · rw [if_pos h, if_pos h]
      · rw [if_neg (by omega), if_neg (by omega), ih p.toNat (by omega)]
def D (par : List Int) (j : Nat) : Nat := dp par par.length j
theorem D_root {par : List Int} {j : Nat} (hj : par[j]? = some (-1)) : D par j = 0 := by
  unfold D
  cases h : par.length with
  | zero => rfl
  | succ n => simp [dp, hj]
theorem D_next {par : List Int} (hF : Fo par) {j : Nat} {p : Int} (hj : par[j]? = some p) (hp : p ≠ -1) : D par j = D par p.toNat + 1 := by
  have hj' : j < par.length := (List.getElem?_eq_some_iff.1 hj).1
  have hjp := (hF j hj' p hj).resolve_left hp
  unfold D
  have e : par.length = (par.length - 1) + 1 := by omega
  have h1 : dp par par.length j = dp par (par.length - 1) p.toNat + 1 := by
    conv => lhs; rw [e]
    simp only [dp, hj]
    rw [if_neg hp]
  have h2 := dp_stable hF (par.length - 1) p.toNat (by omega)
  rw [← e] at h2
  rw [h1, h2]
theorem D_lt {par : List Int} (hF : Fo par) : ∀ m j, par.length = j + m → D par j ≤ m := by
  intro m
  induction m using Nat.strongRecOn with
  | _ m ih =>
    intro j hj
    cases hp : par[j]? with
    | none =>
      rw [List.getElem?_eq_none_iff] at hp
      have : par.length = j := by omega
      unfold D
      cases hl : par.length with
      | zero => simp [dp]
      | succ n => simp [dp, List.getElem?_eq_none (show par.length ≤ j by omega)]
    | some p =>
      have hj' : j < par.length := (List.getElem?_eq_some_iff.1 hp).1
      by_cases h0 : p = -1
      · subst h0; rw [D_root hp]; omega
      · have hjp := (hF j hj' p hp).resolve_left h0
        rw [D_next hF hp h0]
        have := ih (par.length - p.toNat) (by omega) p.toNat (by omega)
        omega

theorem depths_e {par : List Int} (hn : par.length ≤ 200) (hF : Fo par) : etree_Depths par = some ((List.range par.length).map fun j => (D par j : Int), 0) := by
  unfold etree_Depths
  have hc : etree_Check par = some 0 := by
    rcases check_e par hn with h | h
    · exact h.1
    · exact absurd hF h.2
  rw [bindS hc, if_pos rfl, bindS (mkL_nat 0 par.length (by omega))]
  obtain ⟨o, h1, h2⟩ := whileG (step := etree_Depths_l3 par) (s := (List.replicate par.length 0, ws .i64 (par.length : Int) 1))
      (fun s => ∃ k : Nat, s.2 = (k : Int) - 1 ∧ k ≤ par.length ∧ s.1.length = par.length ∧ ∀ j, j < par.length → s.1[j]? = some (if k ≤ j then (D par j : Int) else 0))
      (fun o => o = (List.range par.length).map fun j => (D par j : Int)) (fun s => (s.2 + 1).toNat)
      ⟨par.length, by rw [ws_in (by constructor <;> omega)], Nat.le_refl _, by simp, fun j hj => by rw [if_neg (by omega)]; simp [hj]⟩ (by
        rw [ws_in (by constructor <;> omega)]; simp; omega) (by
      rintro ⟨out, i⟩ ⟨k, hi, hk, hl, hg⟩
      simp only at hi hl hg
      subst hi
      unfold etree_Depths_l3
      simp only
      cases k with
      | zero =>
        rw [if_neg (by omega)]
        refine .inr ⟨_, rfl, ?_⟩
        apply List.ext_getElem?
        intro j
        by_cases hj : j < par.length
        · rw [hg j hj]; simp [hj]
        · rw [List.getElem?_eq_none (by omega), List.getElem?_eq_none (by simp; omega)]
      | succ k =>
        have e1 : ((k + 1 : Nat) : Int) - 1 = (k : Int) := by omega
        rw [e1, if_pos (by omega)]
        have hkl : k < par.length := by omega
        rw [bindS (getI_lt hkl)]
        have hgk : par[k]? = some par[k] := by simp [hkl]
        by_cases h0 : par[k] = -1
        · rw [if_pos h0]
          unfold etree_Depths_j4
          rw [ws_in (by constructor <;> omega)]
          refine .inl ⟨_, rfl, ⟨k, rfl, by omega, hl, fun j hj => ?_⟩, by simp only; omega⟩
          rw [hg j hj]
          by_cases hjk : j = k
          · subst hjk
            rw [if_neg (by omega), if_pos (by omega), D_root (by rw [hgk, h0])]; rfl
          · by_cases hkj : k + 1 ≤ j
            · rw [if_pos hkj, if_pos (by omega)]
            · rw [if_neg hkj, if_neg (by omega)]
        · rw [if_neg h0]
          have hjp := (hF k hkl _ hgk).resolve_left h0
          have hp : par[k].toNat < par.length := by omega
          have ep : par[k] = ((par[k].toNat : Nat) : Int) := by omega
          have hgp := hg par[k].toNat hp
          rw [if_pos (by omega)] at hgp
          have hD := D_lt hF (par.length - par[k].toNat) par[k].toNat (by omega)
          have hgI : getI out par[k] = some (D par par[k].toNat : Int) := getI_of (by omega) hgp
          rw [bindS hgI, wa_in (by constructor <;> omega), bindS (setI_lt (by omega))]
          unfold etree_Depths_j4
          rw [ws_in (by constructor <;> omega)]
          refine .inl ⟨_, rfl, ⟨k, rfl, by omega, by simp [hl], fun j hj => ?_⟩, by simp only; omega⟩
          simp only [List.getElem?_set]
          by_cases hjk : k = j
          · subst hjk
            rw [if_pos rfl, if_pos (by omega), if_pos (by omega), D_next hF hgk h0]; rfl
          · rw [if_neg hjk, hg j hj]
            by_cases hkj : k + 1 ≤ j
            · rw [if_pos hkj, if_pos (by omega)]
            · rw [if_neg hkj, if_neg (by omega)])
  rw [bindS h1, h2]

theorem climb_d {par : List Int} (hn : par.length ≤ 200) (hF : Fo par) {v : Nat} {p : Int} (hv : par[v]? = some p) : loop (sparseref19_Depths_l4 par) (0, p) = some (D par v : Int) := by
  have hvl : v < par.length := (List.getElem?_eq_some_iff.1 hv).1
  have hDv := D_lt hF (par.length - v) v (by omega)
  obtain ⟨o, h1, h2⟩ := whileG (step := sparseref19_Depths_l4 par) (s := (0, p))
      (fun s => 0 ≤ s.1 ∧ ((s.2 = -1 ∧ s.1 = D par v) ∨ (0 ≤ s.2 ∧ s.2 < par.length ∧ s.1 + D par s.2.toNat + 1 = D par v))) (fun o => o = (D par v : Int)) (fun s => if s.2 < 0 then 0 else par.length - s.2.toNat)
      (by
        refine ⟨by simp, ?_⟩
        rcases hF v hvl p hv with h | h
        · subst h; exact .inl ⟨rfl, by rw [D_root hv]; rfl⟩
        · refine .inr ⟨by simp only; omega, h.2, ?_⟩
          rw [D_next hF hv (by omega)]; simp) (by simp only; split <;> omega) (by
      rintro ⟨d, q⟩ ⟨hd, h⟩
      simp only at h hd
      unfold sparseref19_Depths_l4
      simp only
      rcases h with ⟨rfl, h⟩ | ⟨hq0, hq1, h⟩
      · rw [if_neg (by omega)]
        exact .inr ⟨_, rfl, h⟩
      · rw [if_pos hq0]
        have eq : q = ((q.toNat : Nat) : Int) := by omega
        have hql : q.toNat < par.length := by omega
        have hgq : par[q.toNat]? = some par[q.toNat] := by simp [hql]
        have hgI : getI par q = some par[q.toNat] := getI_of hq0 hgq
        rw [bindS hgI, wa_in (by constructor <;> omega)]
        refine .inl ⟨_, rfl, ⟨by simp only; omega, ?_⟩, ?_⟩
        · rcases hF _ hql _ hgq with h3 | h3
          · refine .inl ⟨h3, ?_⟩
            have := D_root (par := par) (j := q.toNat) (by rw [hgq, h3])
            simp only; omega
          · refine .inr ⟨by simp only; omega, h3.2, ?_⟩
            have := D_next hF hgq (by omega)
            simp only; omega
        · simp only
          rcases hF _ hql _ hgq with h3 | h3
          · rw [if_pos (by omega), if_neg (by omega)]; omega
          · rw [if_neg (by omega), if_neg (by omega)]; omega)
  rw [h1, h2]

theorem depths_r {par : List Int} (hn : par.length ≤ 200) (hF : Fo par) : sparseref19_Depths par = some ((List.range par.length).map fun j => (D par j : Int), 0) := by
  unfold sparseref19_Depths
  have hc : sparseref19_Check par = some 0 := by
    rcases check_r par hn with h | h
    · exact h.1
    · exact absurd hF h.2
  rw [bindS hc, if_pos rfl]
  obtain ⟨o, h1, h2⟩ := forG (step := sparseref19_Depths_l3 par) (fun k (s : List Int) => (s, (k : Int))) par.length (by omega) (fun k s => s = (List.range k).map fun j => (D par j : Int))
      (fun o => o = (List.range par.length).map fun j => (D par j : Int)) (s0 := []) (by simp) (by
        intro k s hk hI
        subst hI
        have hgk : par[k]? = some par[k] := by simp [hk]
        unfold sparseref19_Depths_l3
        simp only
        rw [if_pos (by omega), bindS (getI_lt hk), bindS (climb_d hn hF hgk), bindS (app_small (by simp; omega)), wa1 (by omega)]
        exact .inl ⟨_, rfl, by rw [List.range_succ]; simp⟩) (by
        intro s hI
        subst hI
        unfold sparseref19_Depths_l3
        simp only
        rw [if_neg (by omega)]
        exact ⟨_, rfl, rfl⟩)
  have h1' : loop (sparseref19_Depths_l3 par) ([], 0) = some o := h1
  rw [bindS h1', h2]
end Pl
