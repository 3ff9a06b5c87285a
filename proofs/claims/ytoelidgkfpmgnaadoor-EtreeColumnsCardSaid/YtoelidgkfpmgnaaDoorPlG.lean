/- Postorder of a forest: the program and the document give the same list; the law of the lists. -/
import Derived.Test.YtoelidgkfpmgnaaDoorPlF
import Derived.KernelRfl
namespace Pl
open Sx Go M

/-- the nodes below m whose link is t, in order -/
def kidsL (par : List Int) : Nat → Int → List Int
  | 0, _ => []
  | m + 1, t => kidsL par m t ++ (if par[m]? = some t then [(m : Int)] else [])
def POk (par : List Int) (g : Nat → List Int) : Nat → Int → List Int
  | 0, _ => []
  | k + 1, t => POk par g k t ++ (if par[k]? = some t then g k else [])
def PO (par : List Int) : Nat → Nat → List Int
  | 0, _ => []
  | f + 1, v => POk par (PO par f) v (v : Int) ++ [(v : Int)]

theorem kids_mem {par : List Int} {t : Int} : ∀ m c, c ∈ kidsL par m t → 0 ≤ c ∧ c.toNat < m ∧ par[c.toNat]? = some t := by
  intro m
  induction m with
  | zero => intro c hc; simp [kidsL] at hc
  | succ m ih =>
    intro c hc
    rw [kidsL, List.mem_append] at hc
    rcases hc with hc | hc
    · have := ih c hc
      exact ⟨this.1, by omega, this.2.2⟩
    · split at hc
      · rename_i h
        simp at hc; subst hc
        exact ⟨by omega, by omega, by simpa using h⟩
      · simp at hc
theorem kids_flat {par : List Int} {t : Int} (g : Nat → List Int) : ∀ m, (kidsL par m t).flatMap (fun c => g c.toNat) = POk par g m t := by
  intro m
  induction m with
  | zero => rfl
  | succ m ih =>
    rw [kidsL, POk, List.flatMap_append, ih]
    congr 1
    split <;> simp
theorem kids_len {par : List Int} {t : Int} : ∀ m, (kidsL par m t).length ≤ m := by
  intro m
  induction m with
  | zero => simp [kidsL]
  | succ m ih => rw [kidsL, List.length_append]; split <;> simp <;> omega
theorem POk_stop {par : List Int} (hF : Fo par) (g : Nat → List Int) {v : Nat} : ∀ d, POk par g (v + d) (v : Int) = POk par g v (v : Int) := by
  intro d
  induction d with
  | zero => rfl
  | succ d ih =>
    show POk par g (v + d) (v : Int) ++ _ = _
    rw [ih, if_neg, List.append_nil]
    intro h
    have := hF (v + d) (List.getElem?_eq_some_iff.1 h).1 _ h
    omega
theorem PO_len {par : List Int} : ∀ f v, (PO par f v).length ≤ 2 ^ v := by
  intro f
  induction f with
  | zero => intro v; simp [PO]
  | succ f ih =>
    intro v
    have key : ∀ k t, (POk par (PO par f) k t).length + 1 ≤ 2 ^ k := by
      intro k
      induction k with
      | zero => intro t; simp [POk]
      | succ k ihk =>
        intro t
        have h1 := ihk t
        have h2 := ih k
        rw [POk, List.length_append, Nat.pow_succ]
        split
        · omega
        · simp; omega
    have := key v (v : Int)
    rw [PO, List.length_append]; simp; omega
theorem POk_len {par : List Int} (f : Nat) : ∀ k t, (POk par (PO par f) k t).length + 1 ≤ 2 ^ k := by
  intro k
  induction k with
  | zero => intro t; simp [POk]
  | succ k ihk =>
    intro t
    have h1 := ihk t
    have h2 := PO_len (par := par) f k
    rw [POk, List.length_append, Nat.pow_succ]
    split
    · omega
    · simp; omega
theorem pow20 {k : Nat} (h : k ≤ 20) : 2 ^ k ≤ 1048576 := Nat.pow_le_pow_right (n := 2) (by omega) h

/-! ### the children -/
theorem children_e {par : List Int} (hn : par.length ≤ 20) (hF : Fo par) : etree_Children par = some ((List.range par.length).map fun (v : Nat) => kidsL par par.length (v : Int), kidsL par par.length (-1)) := by
  unfold etree_Children
  rw [bindS (mkL_nat [] par.length (by omega))]
  obtain ⟨o, h1, h2⟩ := forG (step := etree_Children_l3 par) (fun k (s : List (List Int) × List Int) => (s.1, s.2, (k : Int))) par.length (by omega)
      (fun k s => s.1.length = par.length ∧ (∀ v, v < par.length → s.1[v]? = some (kidsL par k (v : Int))) ∧ s.2 = kidsL par k (-1))
      (fun o => o = ((List.range par.length).map fun (v : Nat) => kidsL par par.length (v : Int), kidsL par par.length (-1))) (s0 := (List.replicate par.length [], [])) ⟨by simp, fun p hp => by simp [hp, kidsL], rfl⟩ (by
        rintro k ⟨s, r⟩ hk ⟨hl, hg, hr⟩
        simp only at hl hg hr
        subst hr
        have hgk : par[k]? = some par[k] := by simp [hk]
        unfold etree_Children_l3
        simp only
        rw [if_pos (by omega), bindS (getI_lt hk)]
        by_cases h0 : par[k] = -1
        · rw [if_pos h0, bindS (app_small (by have := kids_len (par := par) (t := -1) k; simp; omega))]
          unfold etree_Children_j4
          rw [wa1 (by omega)]
          refine .inl ⟨(s, kidsL par k (-1) ++ [(k : Int)]), rfl, hl, fun v hv => ?_, ?_⟩
          · rw [kidsL, hg v hv, if_neg (by rw [hgk, h0]; simp)]; simp
          · rw [kidsL, if_pos (by rw [hgk, h0])]
        · rw [if_neg h0]
          have hjp := (hF k hk _ hgk).resolve_left h0
          have hq : par[k].toNat < par.length := by omega
          have hgq : getI s par[k] = some (kidsL par k ((par[k].toNat : Nat) : Int)) := getI_of (by omega) (hg _ hq)
          rw [bindS hgq, bindS (app_small (by have := kids_len (par := par) (t := ((par[k].toNat : Nat) : Int)) k; rw [List.length_singleton]; omega)), bindS (setI_of (by omega) (by omega))]
          unfold etree_Children_j4
          rw [wa1 (by omega)]
          refine .inl ⟨(s.set par[k].toNat (kidsL par k ((par[k].toNat : Nat) : Int) ++ [(k : Int)]), kidsL par k (-1)), rfl, by simp [hl], fun v hv => ?_, ?_⟩
          · simp only [List.getElem?_set]
            by_cases hqv : par[k].toNat = v
            · subst hqv
              rw [if_pos rfl, if_pos (by omega), kidsL, if_pos (by rw [hgk]; congr 1; omega)]
            · rw [if_neg hqv, hg v hv, kidsL, if_neg (by rw [hgk]; simp; omega)]; simp
          · simp only
            rw [kidsL, if_neg (by rw [hgk]; simp; exact h0)]; simp) (by
        rintro ⟨s, r⟩ ⟨hl, hg, hr⟩
        simp only at hl hg hr
        subst hr
        unfold etree_Children_l3
        simp only
        rw [if_neg (by omega)]
        refine ⟨_, rfl, ?_⟩
        rw [Prod.mk.injEq]
        refine ⟨?_, rfl⟩
        apply List.ext_getElem?
        intro j
        by_cases hj : j < par.length
        · rw [hg j hj]; simp [hj]
        · rw [List.getElem?_eq_none (by omega), List.getElem?_eq_none (by simp; omega)])
  have h1' : loop (etree_Children_l3 par) (List.replicate par.length [], [], 0) = some o := h1
  rw [bindS h1', h2]

/-! ### the walks -/
theorem take_flat_len {α β : Type} (l : List α) (g : α → List β) (i : Nat) : ((l.take i).flatMap g).length ≤ (l.flatMap g).length := by
  conv => rhs; rw [← List.take_append_drop i l]
  rw [List.flatMap_append, List.length_append]; omega

theorem visit_e {par : List Int} (hn : par.length ≤ 20) (hF : Fo par) {ch : List (List Int)} (hch : ∀ v, v < par.length → ch[v]? = some (kidsL par par.length (v : Int))) : ∀ f v out, v < f → v < par.length → out.length + 2 ^ (v + 1) ≤ 2 ^ 30 →
    etree_Postorder_1 f (v : Int) ch out = some (out ++ PO par f v) := by
  intro f
  induction f with
  | zero => intro v out h; omega
  | succ f ih =>
    intro v out hf hv hb
    unfold etree_Postorder_1 etree_Postorder_1_body
    rw [bindS (show getI ch (v : Int) = some (kidsL par par.length (v : Int)) from hch v hv)]
    have hstop : POk par (PO par f) par.length (v : Int) = POk par (PO par f) v (v : Int) := by
      have := POk_stop hF (PO par f) (v := v) (par.length - v)
      rwa [show v + (par.length - v) = par.length by omega] at this
    have hfl := kids_flat (par := par) (t := (v : Int)) (PO par f) par.length
    have hkl := kids_len (par := par) (t := (v : Int)) par.length
    have h3 := POk_len (par := par) f v (v : Int)
    rw [Nat.pow_succ] at hb
    obtain ⟨o, h1, h2⟩ := forG (step := etree_Postorder_1_l1 (etree_Postorder_1 f) (kidsL par par.length (v : Int)) ch) (fun k (s : List Int) => (s, (k : Int))) (kidsL par par.length (v : Int)).length (by omega)
      (fun k s => s = out ++ ((kidsL par par.length (v : Int)).take k).flatMap fun c => PO par f c.toNat)
      (fun o => o = out ++ POk par (PO par f) v (v : Int)) (s0 := out) (by simp) (by
        intro k s hk hI
        subst hI
        have hm := kids_mem (par := par) (t := (v : Int)) par.length _ (List.getElem_mem hk)
        have hlt : ((kidsL par par.length (v : Int))[k]).toNat < v := by
          have := hF _ hm.2.1 _ hm.2.2
          omega
        have e : (kidsL par par.length (v : Int))[k] = (((kidsL par par.length (v : Int))[k].toNat : Nat) : Int) := by omega
        have h4 : 2 ^ ((kidsL par par.length (v : Int))[k].toNat + 1) ≤ 2 ^ v := Nat.pow_le_pow_right (n := 2) (by omega) (by omega)
        have h5 := take_flat_len (kidsL par par.length (v : Int)) (fun c => PO par f c.toNat) k
        rw [hfl, hstop] at h5
        have hrec := ih (kidsL par par.length (v : Int))[k].toNat (out ++ ((kidsL par par.length (v : Int)).take k).flatMap fun c => PO par f c.toNat) (by omega) (by omega) (by rw [List.length_append]; omega)
        rw [← e] at hrec
        unfold etree_Postorder_1_l1
        simp only
        rw [if_pos (by omega), bindS (getI_lt hk), bindS hrec, wa1 (by omega)]
        refine .inl ⟨_, rfl, ?_⟩
        rw [take_succ' hk, List.flatMap_append]; simp) (by
        intro s hI
        subst hI
        unfold etree_Postorder_1_l1
        simp only
        rw [if_neg (by omega)]
        refine ⟨_, rfl, ?_⟩
        rw [List.take_of_length_le (Nat.le_refl _), hfl, hstop])
    have h1' : loop (etree_Postorder_1_l1 (etree_Postorder_1 f) (kidsL par par.length (v : Int)) ch) (out, 0) = some o := h1
    rw [bindS h1', h2, bindS (app_small (by simp; omega)), PO]; simp

theorem post_e {par : List Int} (hn : par.length ≤ 20) (hF : Fo par) : etree_Postorder par = some (POk par (PO par FUEL) par.length (-1), 0) := by
  unfold etree_Postorder
  have hc : etree_Check par = some 0 := by
    rcases check_e par (by omega) with h | h
    · exact h.1
    · exact absurd hF h.2
  rw [bindS hc, if_pos rfl, bindS (children_e hn hF)]
  have hfl := kids_flat (par := par) (t := -1) (PO par FUEL) par.length
  have hkl := kids_len (par := par) (t := -1) par.length
  have h3 := POk_len (par := par) FUEL par.length (-1)
  have h6 := pow20 hn
  have hch : ∀ v, v < par.length → ((List.range par.length).map fun (v : Nat) => kidsL par par.length (v : Int))[v]? = some (kidsL par par.length (v : Int)) := by
    intro v hv; simp [hv]
  obtain ⟨o, h1, h2⟩ := forG (step := etree_Postorder_l1 ((List.range par.length).map fun (v : Nat) => kidsL par par.length (v : Int), kidsL par par.length (-1))) (fun k (s : List Int) => (s, (k : Int))) (kidsL par par.length (-1)).length (by omega)
      (fun k s => s = ((kidsL par par.length (-1)).take k).flatMap fun c => PO par FUEL c.toNat)
      (fun o => o = POk par (PO par FUEL) par.length (-1)) (s0 := []) (by simp) (by
        intro k s hk hI
        subst hI
        have hm := kids_mem (par := par) (t := -1) par.length _ (List.getElem_mem hk)
        have e : (kidsL par par.length (-1))[k] = (((kidsL par par.length (-1))[k].toNat : Nat) : Int) := by omega
        have h4 := pow20 (k := (kidsL par par.length (-1))[k].toNat) (by omega)
        have h5 := take_flat_len (kidsL par par.length (-1)) (fun c => PO par FUEL c.toNat) k
        rw [hfl] at h5
        have hrec := visit_e hn hF hch FUEL (kidsL par par.length (-1))[k].toNat (((kidsL par par.length (-1)).take k).flatMap fun c => PO par FUEL c.toNat) (by unfold FUEL; omega) (by omega) (by rw [Nat.pow_succ]; omega)
        rw [← e] at hrec
        unfold etree_Postorder_l1
        simp only
        rw [if_pos (by omega), bindS (getI_lt hk), bindS hrec, wa1 (by omega)]
        refine .inl ⟨_, rfl, ?_⟩
        rw [take_succ' hk, List.flatMap_append]; simp) (by
        intro s hI
        subst hI
        unfold etree_Postorder_l1
        simp only
        rw [if_neg (by omega)]
        refine ⟨_, rfl, ?_⟩
        rw [List.take_of_length_le (Nat.le_refl _), hfl])
  have h1' : loop (etree_Postorder_l1 ((List.range par.length).map fun (v : Nat) => kidsL par par.length (v : Int), kidsL par par.length (-1))) ([], 0) = some o := h1
  rw [bindS h1', h2]

/-! ### the law -/
end Pl
