/- The postorder as a relabelling: ancestors and elder siblings stand later; the relabelled forest's postorder is the natural one. -/
import Derived.Test.YtoelidgkfpmgnaaPvA
set_option linter.unusedSimpArgs false
set_option linter.unusedVariables false
namespace Pv
open Pl Sx Go M Vc

theorem asc_unique : ∀ {l m : List Int}, l.Pairwise (· < ·) → m.Pairwise (· < ·) → (∀ x, x ∈ l ↔ x ∈ m) → l = m := by
  intro l
  induction l with
  | nil =>
    intro m _ _ h
    cases m with
    | nil => rfl
    | cons y m => exact absurd ((h y).2 (by simp)) (by simp)
  | cons x l ih =>
    intro m hl hm h
    cases m with
    | nil => exact absurd ((h x).1 (by simp)) (by simp)
    | cons y m =>
      rw [List.pairwise_cons] at hl hm
      have hxy : x = y := by
        have h1 := (h x).1 (by simp)
        have h2 := (h y).2 (by simp)
        rw [List.mem_cons] at h1 h2
        rcases h1 with h1 | h1
        · exact h1
        · rcases h2 with h2 | h2
          · exact h2.symm
          · have := hl.1 y h2
            have := hm.1 x h1
            omega
      subst hxy
      congr 1
      refine ih hl.2 hm.2 fun z => ?_
      constructor
      · intro hz
        have h1 := (h z).1 (by simp [hz])
        rw [List.mem_cons] at h1
        rcases h1 with h1 | h1
        · have := hl.1 z hz; omega
        · exact h1
      · intro hz
        have h1 := (h z).2 (by simp [hz])
        rw [List.mem_cons] at h1
        rcases h1 with h1 | h1
        · have := hm.1 z hz; omega
        · exact h1

/-! ### the places -/
theorem lab_of {L inv : List Int} {n : Nat} (h : PermN L n) (hl : inv.length = n) (hi : ∀ (i : Nat) (x : Int), L[i]? = some x → inv[x.toNat]? = some (i : Int)) :
    ∃ O A : Nat → Nat, Lab n O A ∧ (∀ i, i < n → L[i]? = some (O i : Int)) ∧ ∀ v, v < n → inv[v]? = some (A v : Int) := by
  have hlen := h.len
  have hO : ∀ i, i < n → L[i]? = some (((L[i]?.getD 0).toNat : Nat) : Int) ∧ (L[i]?.getD 0).toNat < n := by
    intro i hi'
    obtain ⟨x, hx⟩ : ∃ x, L[i]? = some x := ⟨L[i]'(by omega), by simp [show i < L.length by omega]⟩
    have := h.1 x (mem_get hx)
    rw [hx]
    simp only [Option.getD_some]
    exact ⟨by congr 1; omega, by omega⟩
  have hA : ∀ i, i < n → inv[(L[i]?.getD 0).toNat]? = some (i : Int) := by
    intro i hi'
    have := hi i _ (hO i hi').1
    rwa [Int.toNat_natCast] at this
  have hmem : ∀ v, v < n → ∃ i, i < n ∧ (L[i]?.getD 0).toNat = v := by
    intro v hv
    have h1 := h.2 v hv
    have h2 : (v : Int) ∈ L := List.count_pos_iff.1 (by omega)
    obtain ⟨i, hi'⟩ := List.mem_iff_getElem?.1 h2
    have := (List.getElem?_eq_some_iff.1 hi').1
    exact ⟨i, by omega, by rw [hi']; simp⟩
  refine ⟨fun i => (L[i]?.getD 0).toNat, fun v => (inv[v]?.getD 0).toNat, ⟨fun i hi' => (hO i hi').2, fun v hv => ?_, fun i hi' => ?_, fun v hv => ?_⟩, fun i hi' => (hO i hi').1, fun v hv => ?_⟩
  · obtain ⟨i, h1, rfl⟩ := hmem v hv
    simp only [hA i h1]; simpa using h1
  · simp only [hA i hi']; simp
  · obtain ⟨i, h1, rfl⟩ := hmem v hv
    simp only [hA i h1]; simp
  · obtain ⟨i, h1, rfl⟩ := hmem v hv
    simp only [hA i h1]; simp

/-- two blocks of one list -/
theorem POk_part2 {par : List Int} (g : Nat → List Int) {c1 c2 : Nat} {t : Int} (h1 : par[c1]? = some t) (h2 : par[c2]? = some t) (hc : c1 < c2) : ∀ k, c2 < k → ∃ X Y Z, POk par g k t = X ++ g c1 ++ Y ++ g c2 ++ Z := by
  intro k
  induction k with
  | zero => intro h; omega
  | succ k ih =>
    intro h
    by_cases hck : c2 = k
    · subst hck
      obtain ⟨X, Y, h3⟩ := POk_part g h1 c2 hc
      exact ⟨X, Y, [], by rw [POk, if_pos h2, h3, List.append_nil]⟩
    · obtain ⟨X, Y, Z, h3⟩ := ih (by omega)
      exact ⟨X, Y, Z ++ (if par[k]? = some t then g k else []), by rw [POk, h3]; simp [List.append_assoc]⟩

theorem at_two {par L : List Int} {n : Nat} {A : Nat → Nat} (hinv : ∀ v s, v < n → At par L v s → A v = s + (PO par FUEL v).length - 1) {c1 c2 : Nat} {X Y Z : List Int} (h1 : c1 < n) (h2 : c2 < n) (h : L = X ++ PO par FUEL c1 ++ Y ++ PO par FUEL c2 ++ Z) : A c1 < A c2 := by
  have a1 : At par L c1 X.length := ⟨X, Y ++ PO par FUEL c2 ++ Z, by rw [h]; simp [List.append_assoc], rfl⟩
  have a2 : At par L c2 (X ++ PO par FUEL c1 ++ Y).length := ⟨X ++ PO par FUEL c1 ++ Y, Z, by rw [h], rfl⟩
  have p1 := (at_pos a1).1
  have p2 := (at_pos a2).1
  rw [hinv c1 _ h1 a1, hinv c2 _ h2 a2]
  simp only [List.length_append]
  omega

/-- what the postorder gives -/
structure Ps (par : List Int) (n : Nat) (O A : Nat → Nat) : Prop where
  lab : Lab n O A
  up : ∀ (v m : Nat), par[v]? = some (m : Int) → A v < A m
  sib : ∀ (c1 c2 : Nat) (t : Int), par[c1]? = some t → par[c2]? = some t → c1 < c2 → A c1 < A c2

theorem ps_of {par inv : List Int} (hF : Fo par) (hn : par.length ≤ 20) (hl : inv.length = par.length) (hi : ∀ (i : Nat) (x : Int), (POk par (PO par FUEL) par.length (-1))[i]? = some x → inv[x.toNat]? = some (i : Int)) :
    ∃ O A : Nat → Nat, Ps par par.length O A ∧ (∀ i, i < par.length → (POk par (PO par FUEL) par.length (-1))[i]? = some (O i : Int)) ∧ ∀ v, v < par.length → inv[v]? = some (A v : Int) := by
  obtain ⟨O, A, hL, h1, h2⟩ := lab_of (post_perm hF hn) hl hi
  have hinv : ∀ v s, v < par.length → At par (POk par (PO par FUEL) par.length (-1)) v s → A v = s + (PO par FUEL v).length - 1 := by
    intro v s hv h
    have h3 := at_pos h
    have h4 := hi _ _ h3.2
    rw [Int.toNat_natCast, h2 v hv] at h4
    have := Option.some.inj h4
    omega
  refine ⟨O, A, ⟨hL, fun v m hv => ?_, fun c1 c2 t g1 g2 hc => ?_⟩, h1, h2⟩
  · have hvl : v < par.length := (List.getElem?_eq_some_iff.1 hv).1
    have hm : m < par.length := by have := hF v hvl _ hv; omega
    obtain ⟨s', hs'⟩ := at_all hF hn _ m rfl hm
    obtain ⟨s, hs, h4, h5⟩ := at_child hF hn hv hs'
    have p1 := (at_pos hs).1
    have p2 := (at_pos hs').1
    rw [hinv v s hvl hs, hinv m s' hm hs']
    omega
  · have l1 : c1 < par.length := (List.getElem?_eq_some_iff.1 g1).1
    have l2 : c2 < par.length := (List.getElem?_eq_some_iff.1 g2).1
    rcases hF c2 l2 _ g2 with rfl | ht
    · obtain ⟨X, Y, Z, h3⟩ := POk_part2 (PO par FUEL) g1 g2 hc par.length l2
      exact at_two hinv l1 l2 h3
    · obtain ⟨p, rfl⟩ := Int.eq_ofNat_of_zero_le (show 0 ≤ t by omega)
      obtain ⟨s', X', Y', h4, _⟩ := at_all hF hn _ p rfl (by omega)
      obtain ⟨F, hFu, hbig⟩ := fuel_succ
      obtain ⟨X, Y, Z, h3⟩ := POk_part2 (PO par F) g1 g2 hc p (by omega)
      have st1 : PO par F c1 = PO par FUEL c1 := by rw [hFu, PO_stable F c1 (by omega)]
      have st2 : PO par F c2 = PO par FUEL c2 := by rw [hFu, PO_stable F c2 (by omega)]
      have h5 : PO par FUEL p = X ++ PO par FUEL c1 ++ Y ++ PO par FUEL c2 ++ Z ++ [(p : Int)] := by
        conv => lhs; rw [hFu]
        rw [PO, h3, st1, st2]
      refine at_two (X := X' ++ X) (Y := Y) (Z := Z ++ [(p : Int)] ++ Y') hinv l1 l2 ?_
      rw [h4, h5]
      simp [List.append_assoc]

/-- the forest relabelled -/
def relq (par : List Int) (n : Nat) (O A : Nat → Nat) : List Int := (List.range n).map fun i => if 0 ≤ par[O i]?.getD (-1) then (A (par[O i]?.getD (-1)).toNat : Int) else -1
theorem rl_of {par : List Int} {O A : Nat → Nat} (hF : Fo par) (h : Ps par par.length O A) : Rl par (relq par par.length O A) par.length O A := by
  have key : ∀ v x, par[v]? = some x → (relq par par.length O A)[A v]? = some (if 0 ≤ x then (A x.toNat : Int) else -1) := by
    intro v x hv
    have hvl : v < par.length := (List.getElem?_eq_some_iff.1 hv).1
    unfold relq
    rw [List.getElem?_map, List.getElem?_range (h.lab.al v hvl)]
    simp only [Option.map_some, h.lab.oa v hvl, hv, Option.getD_some]
  refine ⟨rfl, by simp [relq], fun v m hv => ?_, fun v hv => ?_, h.up⟩
  · rw [key v _ hv, if_pos (by omega)]; simp
  · rw [key v _ hv, if_neg (by omega)]

/-! ### its postorder -/
theorem kids_asc {par : List Int} {t : Int} : ∀ m, (kidsL par m t).Pairwise (· < ·) := by
  intro m
  induction m with
  | zero => simp [kidsL]
  | succ m ih =>
    rw [kidsL, List.pairwise_append]
    refine ⟨ih, ?_, ?_⟩
    · split <;> simp
    · intro x hx y hy
      have := kids_mem m x hx
      split at hy
      · simp at hy; omega
      · simp at hy
theorem kids_mem2 {par : List Int} {t : Int} {c : Nat} (h : par[c]? = some t) : ∀ m, c < m → (c : Int) ∈ kidsL par m t := by
  intro m
  induction m with
  | zero => intro h; omega
  | succ m ih =>
    intro hc
    rw [kidsL, List.mem_append]
    by_cases hcm : c = m
    · subst hcm; rw [if_pos h]; right; simp
    · left; exact ih (by omega)

def mA (A : Nat → Nat) (x : Int) : Int := (A x.toNat : Int)
theorem kids_map {par q : List Int} {O A : Nat → Nat} (hF : Fo par) (h : Ps par par.length O A) (hR : Rl par q par.length O A) {t t' : Int} (ht : ∀ v x, par[v]? = some x → (q[A v]? = some t' ↔ x = t)) :
    kidsL q par.length t' = (kidsL par par.length t).map (mA A) := by
  refine asc_unique (kids_asc _) ?_ ?_
  · rw [List.pairwise_map]
    refine List.Pairwise.imp_of_mem ?_ (kids_asc par.length)
    intro a b ha hb hab
    have h1 := kids_mem _ a ha
    have h2 := kids_mem _ b hb
    have := h.sib a.toNat b.toNat t h1.2.2 h2.2.2 (by omega)
    unfold mA; omega
  · intro x
    rw [List.mem_map]
    constructor
    · intro hx
      obtain ⟨h1, h2, h3⟩ := kids_mem _ x hx
      have ho := h.lab.ol _ h2
      obtain ⟨y, hy⟩ : ∃ y, par[O x.toNat]? = some y := ⟨par[O x.toNat], by simp [ho]⟩
      have h4 := ht _ _ hy
      rw [h.lab.ao _ h2] at h4
      have := h4.1 h3
      subst this
      exact ⟨(O x.toNat : Int), kids_mem2 hy _ ho, by unfold mA; rw [Int.toNat_natCast, h.lab.ao _ h2]; omega⟩
    · rintro ⟨c, hc, rfl⟩
      obtain ⟨h1, h2, h3⟩ := kids_mem _ c hc
      exact kids_mem2 ((ht _ _ h3).2 rfl) _ (h.lab.al _ h2)

theorem kids_node {par q : List Int} {O A : Nat → Nat} (hF : Fo par) (h : Ps par par.length O A) (hR : Rl par q par.length O A) {p : Nat} (hp : p < par.length) : kidsL q par.length (A p : Int) = (kidsL par par.length (p : Int)).map (mA A) := by
  refine kids_map hF h hR fun v x hv => ?_
  have hf := hF v (List.getElem?_eq_some_iff.1 hv).1 x hv
  by_cases h0 : x = -1
  · subst h0
    rw [hR.no v hv]
    constructor
    · intro e; have := Option.some.inj e; omega
    · intro e; omega
  · obtain ⟨m, rfl⟩ := Int.eq_ofNat_of_zero_le (show 0 ≤ x by omega)
    rw [hR.go v m hv]
    constructor
    · intro e
      have e1 := Option.some.inj e
      have e2 : A m = A p := by omega
      have e3 := h.lab.oa m (by omega)
      rw [e2, h.lab.oa p hp] at e3
      omega
    · intro e
      have : m = p := by omega
      rw [this]
theorem kids_root {par q : List Int} {O A : Nat → Nat} (hF : Fo par) (h : Ps par par.length O A) (hR : Rl par q par.length O A) : kidsL q par.length (-1) = (kidsL par par.length (-1)).map (mA A) := by
  refine kids_map hF h hR fun v x hv => ?_
  have hf := hF v (List.getElem?_eq_some_iff.1 hv).1 x hv
  by_cases h0 : x = -1
  · subst h0
    rw [hR.no v hv]; simp
  · obtain ⟨m, rfl⟩ := Int.eq_ofNat_of_zero_le (show 0 ≤ x by omega)
    rw [hR.go v m hv]
    constructor
    · intro e; have := Option.some.inj e; omega
    · intro e; omega

theorem po_stop {par : List Int} (hF : Fo par) (g : Nat → List Int) {v : Nat} (hv : v < par.length) : POk par g v (v : Int) = (kidsL par par.length (v : Int)).flatMap fun c => g c.toNat := by
  have := POk_stop hF g (v := v) (par.length - v)
  rw [show v + (par.length - v) = par.length by omega] at this
  rw [kids_flat, this]

theorem po_map {par q : List Int} {O A : Nat → Nat} (hF : Fo par) (h : Ps par par.length O A) (hR : Rl par q par.length O A) : ∀ f v f', v < f → v < par.length → A v < f' → (PO par f v).map (mA A) = PO q f' (A v) := by
  have hq := hR.fo h.lab hF
  intro f
  induction f with
  | zero => intro v f' h; omega
  | succ f ih =>
    intro v f' hv hvl hf'
    cases f' with
    | zero => omega
    | succ f' =>
      have hAv := h.lab.al v hvl
      have hqs := po_stop hq (PO q f') (v := A v) (by rw [hR.lq]; exact hAv)
      rw [hR.lq] at hqs
      rw [PO, PO, po_stop hF _ hvl, hqs, kids_node hF h hR hvl, List.map_append, List.map_flatMap, List.flatMap_map]
      congr 1
      · have key : ∀ l : List Int, (∀ c, c ∈ l → c ∈ kidsL par par.length (v : Int)) → (l.flatMap fun a => (PO par f a.toNat).map (mA A)) = l.flatMap fun a => PO q f' (mA A a).toNat := by
          intro l
          induction l with
          | nil => intro _; rfl
          | cons c l ihl =>
            intro hl
            obtain ⟨h1, h2, h3⟩ := kids_mem _ c (hl c (by simp))
            have hcv := hF _ h2 _ h3
            have hup := h.up _ _ h3
            rw [List.flatMap_cons, List.flatMap_cons, ihl (fun c' hc' => hl c' (by simp [hc'])), ih c.toNat f' (by omega) h2 (by omega)]
            simp [mA]
        exact key _ (fun c hc => hc)

/-- the relabelled forest's postorder is natural -/
theorem post_nat {par q : List Int} {O A : Nat → Nat} (hF : Fo par) (h : Ps par par.length O A) (hR : Rl par q par.length O A) (hn : par.length ≤ 20) (hO : ∀ i, i < par.length → (POk par (PO par FUEL) par.length (-1))[i]? = some (O i : Int)) :
    etree_Postorder q = some ((List.range par.length).map fun (i : Nat) => (i : Int), 0) := by
  have hq := hR.fo h.lab hF
  rw [post_e (by rw [hR.lq]; exact hn) hq, hR.lq]
  have h1 : POk q (PO q FUEL) par.length (-1) = (POk par (PO par FUEL) par.length (-1)).map (mA A) := by
    rw [← kids_flat, ← kids_flat, kids_root hF h hR, List.map_flatMap, List.flatMap_map]
    have key : ∀ l : List Int, (∀ c, c ∈ l → c ∈ kidsL par par.length (-1)) → (l.flatMap fun a => PO q FUEL (mA A a).toNat) = l.flatMap fun a => (PO par FUEL a.toNat).map (mA A) := by
      intro l
      induction l with
      | nil => intro _; rfl
      | cons c l ihl =>
        intro hl
        obtain ⟨h1, h2, h3⟩ := kids_mem _ c (hl c (by simp))
        have hAc := h.lab.al _ h2
        rw [List.flatMap_cons, List.flatMap_cons, ihl (fun c' hc' => hl c' (by simp [hc'])), po_map hF h hR FUEL c.toNat FUEL (by unfold FUEL; omega) h2 (by unfold FUEL; omega)]
        simp [mA]
    exact key _ (fun c hc => hc)
  rw [h1]
  congr 2
  have hlen := (post_perm hF hn).len
  apply List.ext_getElem?
  intro i
  by_cases hi : i < par.length
  · rw [List.getElem?_map, hO i hi, List.getElem?_map, List.getElem?_range hi]
    simp [mA, h.lab.ao i hi]
  · rw [List.getElem?_eq_none (by simp; omega), List.getElem?_eq_none (by simp; omega)]
end Pv
