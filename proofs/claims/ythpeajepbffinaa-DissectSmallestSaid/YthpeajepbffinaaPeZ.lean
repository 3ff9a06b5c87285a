/- Kuhn's algorithm: what a try does, and the matching it ends with. -/
import Derived.Test.YthpeajepbffinaaPtA
import Derived.Test.YthpeajepbffinaaPsF
import Derived.Test.YthpeajepbffinaaPdY
import Derived.Test.YthpeajepbffinaaPdZ
namespace Km
open Pl Sx Go M Vc
set_option linter.unusedVariables false
set_option linter.unusedSimpArgs false
set_option maxHeartbeats 4000000

structure KB (R C : Nat) (E : List (List Int)) : Prop where
 len : E.length = C
 rng : ∀ (j : Nat) l, E[j]? = some l → ∀ i, i ∈ l → 0 ≤ i ∧ i < (R : Int)
 sz : ∀ (j : Nat) l, E[j]? = some l → l.length ≤ 100000
def inE (E : List (List Int)) (c i : Nat) : Prop := ∃ l, E[c]? = some l ∧ (i : Int) ∈ l
def mkd (m : List Bool) (i : Nat) : Prop := m[i]? = some true
/-- a matching, but for what is told of the row x -/
structure Cs (R C : Nat) (E : List (List Int)) (a b : List Int) (x : Int) : Prop where
 al : a.length = C
 bl : b.length = R
 cr : ∀ (i : Nat) c, b[i]? = some c → c ≠ -1 → 0 ≤ c ∧ c < (C : Int)
 col : ∀ (i : Nat) c, b[i]? = some c → c ≠ -1 → (i : Int) ≠ x → a[c.toNat]? = some (i : Int) ∧ inE E c.toNat i
 row : ∀ (c : Nat) i, a[c]? = some i → i ≠ -1 → 0 ≤ i ∧ i < (R : Int) ∧ b[i.toNat]? = some (c : Int) ∧ i ≠ x
def Dead (E : List (List Int)) (b : List Int) (D : Nat → Prop) : Prop := ∀ i, D i → ∃ c : Nat, b[i]? = some (c : Int) ∧ ∀ i', inE E c i' → D i'
structure TryF (R : Nat) (E : List (List Int)) (a b : List Int) (m : List Bool) (a' b' : List Int) (m' : List Bool) : Prop where
 ea : a' = a
 eb : b' = b
 new : ∀ i, mkd m' i → ¬ mkd m i → ∃ c : Nat, b[i]? = some (c : Int) ∧ ∀ i', inE E c i' → mkd m' i'
structure TryT (R C : Nat) (E : List (List Int)) (a b : List Int) (m : List Bool) (j : Nat) (x : Int) (a' b' : List Int) : Prop where
 cs : Cs R C E a' b' x
 at_ : ∃ i : Nat, a'[j]? = some (i : Int)
 ca : ∀ c : Nat, c ≠ j → a'[c]? ≠ a[c]? → ∃ i, ¬ mkd m i ∧ b[i]? = some (c : Int)
 cb : ∀ i, mkd m i → b'[i]? = b[i]?
 kb : ∀ (i : Nat) c, b[i]? = some c → c ≠ -1 → ∃ c', b'[i]? = some c' ∧ c' ≠ -1
 ka : ∀ (c : Nat) i, a[c]? = some i → i ≠ -1 → ∃ i', a'[c]? = some i' ∧ i' ≠ -1
structure TryO (R C : Nat) (E : List (List Int)) (a b : List Int) (m : List Bool) (j : Nat) (x : Int) (o : List Int × List Int × List Bool × Bool) : Prop where
 ml : o.2.2.1.length = R
 mono : ∀ i, mkd m i → mkd o.2.2.1 i
 all : o.2.2.2 = false → ∀ i, inE E j i → mkd o.2.2.1 i
 f : o.2.2.2 = false → TryF R E a b m o.1 o.2.1 o.2.2.1
 t : o.2.2.2 = true → TryT R C E a b m j x o.1 o.2.1
 dead : ∀ D : Nat → Prop, Dead E b D → ((∀ i, inE E j i → D i) → o.2.2.2 = false) ∧ ∀ i, D i → o.2.1[i]? = b[i]?

theorem mkd_set {m : List Bool} {i k : Nat} (hi : i < m.length) : mkd (m.set i true) k ↔ k = i ∨ mkd m k := by
 unfold mkd
 rw [List.getElem?_set]
 by_cases h : i = k
 ·subst h; simp [hi]
 ·rw [if_neg h]
  constructor
  ·exact .inr
  ·rintro (rfl | h')
   ·exact absurd rfl h
   ·exact h'
theorem count_set : ∀ {m : List Bool} {i : Nat}, m[i]? = some false → (m.set i true).count false + 1 = m.count false
 | [], i, h => by simp at h
 | x :: m, 0, h => by
  have : x = false := by simpa using h
  subst this
  simp
 | x :: m, i + 1, h => by
  have := count_set (m := m) (i := i) (by simpa using h)
  rw [List.set_cons_succ, List.count_cons, List.count_cons]
  omega
theorem count_mono : ∀ {m m' : List Bool}, m'.length = m.length → (∀ i : Nat, mkd m i → mkd m' i) → m'.count false ≤ m.count false
 | [], m', h, _ => by
  have : m' = [] := List.eq_nil_of_length_eq_zero (by simpa using h)
  subst this; simp
 | x :: m, m', h, hm => by
  cases m' with
  | nil => simp at h
  | cons y m' =>
   have h1 := count_mono (m := m) (m' := m') (by simpa using h) (fun i hi => by
    have := hm (i + 1) (by simpa [mkd] using hi)
    simpa [mkd] using this)
   have h2 := hm 0
   simp only [mkd, List.getElem?_cons_zero, Option.some.injEq] at h2
   rw [List.count_cons, List.count_cons]
   cases x <;> cases y <;> simp_all <;> omega

/-- the caller takes the row i, whose column has been served in another way (or i was free) -/
theorem take_row {R C : Nat} {E : List (List Int)} {a b : List Int} {m : List Bool} {j i : Nat} {x : Int} (hCs : Cs R C E a b (-1)) (hj : j < C) (hi : i < R) (hx : a[j]? = some x) (hxm : x = -1 ∨ mkd m x.toNat) (him : ¬ mkd m i) (hie : inE E j i)
  {a' b' : List Int} (hb : Cs R C E a' b' (if b[i]? = some (-1) then -1 else (i : Int))) (haj : a'[j]? = a[j]?) (hbi : b'[i]? = b[i]?)
  (hca : ∀ c : Nat, a'[c]? ≠ a[c]? → ∃ i, ¬ mkd m i ∧ b[i]? = some (c : Int)) (hcb : ∀ i, mkd m i → b'[i]? = b[i]?)
  (hkb : ∀ (i : Nat) c, b[i]? = some c → c ≠ -1 → ∃ c', b'[i]? = some c' ∧ c' ≠ -1) (hka : ∀ (c : Nat) i, a[c]? = some i → i ≠ -1 → ∃ i', a'[c]? = some i' ∧ i' ≠ -1) :
  TryT R C E a b m j x (a'.set j (i : Int)) (b'.set i (j : Int)) := by
 have hal := hb.al
 have hbl := hb.bl
 have hxi : x ≠ (i : Int) := by
  rintro rfl
  rcases hxm with h | h
  ·omega
  ·exact him (by simpa using h)
 have hold : ∀ r : Nat, b'[r]? = some (j : Int) → r ≠ i → (r : Int) = x := by
  intro r hr hri
  have h1 : (r : Int) ≠ (if b[i]? = some (-1) then -1 else (i : Int)) := by split <;> omega
  have h2 := (hb.col r j hr (by omega) h1).1
  simp only [Int.toNat_natCast] at h2
  rw [haj, hx] at h2
  exact (Option.some.inj h2).symm
 have hkeep : ∀ (c : Nat) r, a'[c]? = some r → r ≠ -1 → r = (i : Int) → False := by
  intro c r hr hr1 hri
  obtain ⟨h1, h2, h3, h4⟩ := hb.row c r hr hr1
  subst hri
  by_cases hf : b[i]? = some (-1)
  ·simp only [Int.toNat_natCast] at h3
   rw [hbi, hf] at h3
   have := Option.some.inj h3
   omega
  ·rw [if_neg hf] at h4
   exact h4 rfl
 refine ⟨⟨by simp [hal], by simp [hbl], fun r c hr hc => ?_, fun r c hr hc hrx => ?_, fun c r hr hr1 => ?_⟩, ⟨i, by simp [hal, hj]⟩, fun c hc hne => ?_, fun r hr => ?_, fun r c hr hc => ?_, fun c r hr hr1 => ?_⟩
 ·rw [List.getElem?_set] at hr
  split at hr
  ·split at hr
   ·have := Option.some.inj hr; omega
   ·cases hr
  ·exact hb.cr r c hr hc
 ·rw [List.getElem?_set] at hr
  by_cases hri : i = r
  ·subst hri
   rw [if_pos rfl, if_pos (by omega)] at hr
   have := Option.some.inj hr
   subst this
   exact ⟨by simp [hal, hj], by simpa using hie⟩
  ·rw [if_neg hri] at hr
   have h1 : (r : Int) ≠ (if b[i]? = some (-1) then -1 else (i : Int)) := by split <;> omega
   obtain ⟨h2, h3⟩ := hb.col r c hr hc h1
   obtain ⟨h4, h5⟩ := hb.cr r c hr hc
   refine ⟨?_, h3⟩
   rw [List.getElem?_set]
   by_cases hcj : j = c.toNat
   ·exfalso
    apply hrx
    refine hold r ?_ (fun e => hri e.symm)
    rw [hr]
    congr 1
    omega
   ·rw [if_neg hcj]; exact h2
 ·rw [List.getElem?_set] at hr
  by_cases hcj : j = c
  ·subst hcj
   rw [if_pos rfl, if_pos (by omega)] at hr
   have := Option.some.inj hr
   subst this
   exact ⟨by omega, by omega, by simp [hbl, hi], fun e => hxi e.symm⟩
  ·rw [if_neg hcj] at hr
   obtain ⟨h1, h2, h3, h4⟩ := hb.row c r hr hr1
   have hri : r ≠ (i : Int) := fun e => hkeep c r hr hr1 e
   refine ⟨h1, h2, ?_, ?_⟩
   ·rw [List.getElem?_set, if_neg (by omega)]; exact h3
   ·rintro rfl
    have h5 := (hCs.row j r hx hr1).2.2.1
    rcases hxm with h | h
    ·exact hr1 h
    ·rw [← hcb _ h, h3] at h5
     have := Option.some.inj h5
     omega
 ·refine hca c ?_
  rw [List.getElem?_set, if_neg (fun e => hc e.symm)] at hne
  exact hne
 ·rw [List.getElem?_set, if_neg]
  ·exact hcb r hr
  ·rintro rfl; exact him hr
 ·rw [List.getElem?_set]
  by_cases hri : i = r
  ·subst hri
   exact ⟨j, by rw [if_pos rfl, if_pos (by omega)], by omega⟩
  ·rw [if_neg hri]; exact hkb r c hr hc
 ·rw [List.getElem?_set]
  by_cases hcj : j = c
  ·subst hcj
   exact ⟨i, by rw [if_pos rfl, if_pos (by omega)], by omega⟩
  ·rw [if_neg hcj]; exact hka c r hr hr1

theorem try_succ (k : Nat) : matching_kuhn_try (k + 1) = matching_kuhn_try_body (matching_kuhn_try k) := by simp only [matching_kuhn_try]

theorem try_ok {R C : Nat} {E : List (List Int)} (hE : KB R C E) : ∀ (k : Nat) {a b : List Int} {m : List Bool} {j : Nat} {x : Int}, Cs R C E a b (-1) → m.length = R → j < C → a[j]? = some x → (x = -1 ∨ mkd m x.toNat) → m.count false < k →
  Ret (matching_kuhn_try k E a b m (j : Int)) (TryO R C E a b m j x) := by
 intro k
 induction k with
 | zero => intros; omega
 | succ k ih =>
  intro a b m j x hCs hml hj hx hxm hk
  rw [try_succ]
  unfold matching_kuhn_try_body
  obtain ⟨l, hl⟩ : ∃ l, E[j]? = some l := ⟨E[j]'(by rw [hE.len]; exact hj), by simp [hE.len, hj]⟩
  have hl0 : getI E (j : Int) = some l := hl
  have hlr := hE.rng j l hl
  have hll := hE.sz j l hl
  have hal := hCs.al
  have hbl := hCs.bl
  rw [bindS hl0, ret_bind]
  refine ret_call (P := fun o => match o with
   | .inl s => TryO R C E a b m j x (s.1, s.2.1, s.2.2, false)
   | .inr s => TryO R C E a b m j x (s.1, s.2.1, s.2.2, true)) ?_ ?_
  ·refine ret_loop l.length (fun t (s : List Int × List Int × List Bool × Int) => s.1 = a ∧ s.2.1 = b ∧ s.2.2.2 = (t : Int) ∧ s.2.2.1.length = R ∧ (∀ i, mkd m i → mkd s.2.2.1 i) ∧ (∀ i : Nat, (i : Int) ∈ l.take t → mkd s.2.2.1 i) ∧ TryF R E a b m s.1 s.2.1 s.2.2.1)
    ⟨rfl, rfl, rfl, hml, fun _ h => h, fun i hi => by simp at hi, rfl, rfl, fun i h1 h2 => absurd h1 h2⟩ ?_
   rintro t ⟨a', b', m', t'⟩ ht ⟨e1, e2, e3, hm1, hm2, hm3, hF⟩
   simp only at e1 e2 e3 hm1 hm2 hm3 hF
   subst e1; subst e2; subst e3
   unfold matching_kuhn_try_l9 matching_kuhn_try_j12
   simp only
   by_cases htl : t < l.length
   ·have hw : wa .i64 (t : Int) 1 = ((t + 1 : Nat) : Int) := wa1 (by omega)
    obtain ⟨i, hi⟩ : ∃ i : Nat, l[t]? = some (i : Int) := by
     have := hlr _ (List.getElem_mem htl)
     exact ⟨l[t].toNat, by rw [List.getElem?_eq_getElem htl]; congr 1; omega⟩
    have hi0 : getI l (t : Int) = some (i : Int) := hi
    have hiR : i < R := by have := hlr _ (mem_get hi); omega
    have hie : inE E j i := ⟨l, hl, mem_get hi⟩
    rw [if_pos (by omega), bindS hi0, hw]
    obtain ⟨q, hq⟩ : ∃ q, m'[i]? = some q := ⟨m'[i]'(by omega), by simp [hm1, hiR]⟩
    have hq0 : getI m' (i : Int) = some q := hq
    rw [bindS hq0]
    cases q with
    | true =>
     rw [if_pos rfl, ret_some, vq_l]
     refine ⟨htl, rfl, rfl, rfl, hm1, hm2, fun r hr => ?_, hF⟩
     rcases (mts hi).1 hr with h | h
     ·exact hm3 r h
     ·have : r = i := by omega
      subst this; exact hq
    | false =>
     have hnm' : ¬ mkd m' i := by unfold mkd; rw [hq]; simp
     have hnm : ¬ mkd m i := fun h => hnm' (hm2 i h)
     obtain ⟨c, hc⟩ : ∃ c, b'[i]? = some c := ⟨b'[i]'(by omega), by simp [hbl, hiR]⟩
     have hc0 : getI b' (i : Int) = some c := hc
     rw [if_neg (by simp), bindS (setI_lt (by omega)), bindS hc0]
     have hms : ∀ r, mkd (m'.set i true) r ↔ r = i ∨ mkd m' r := fun r => mkd_set (by omega)
     have hcnt := count_set hq
     have hcm := count_mono (m := m) (m' := m') (by omega) hm2
     by_cases hf : c = -1
     ·subst hf
      rw [if_pos rfl]
      rw [obs]
      simp only [if_true]
      rw [bindS (setI_lt (by omega)), bindS (setI_lt (by omega)), ret_some, vq_r]
      have hT := take_row (a' := a') (b' := b') hCs hj hiR hx hxm hnm hie (by rw [if_pos hc]; exact hCs) rfl rfl (fun c h => absurd rfl h) (fun _ _ => rfl) (fun i c h1 h2 => ⟨c, h1, h2⟩) (fun c i h1 h2 => ⟨i, h1, h2⟩)
      refine ⟨by simp [hm1], fun r hr => (hms r).2 (.inr (hm2 r hr)), fun h => (by cases h), fun h => (by cases h), fun _ => hT, fun D hD => ?_⟩
      have hnD : ¬ D i := by
       intro h
       obtain ⟨c, c1, _⟩ := hD i h
       rw [hc] at c1
       have := Option.some.inj c1
       omega
      refine ⟨fun h => absurd (h i hie) hnD, fun r hr => ?_⟩
      simp only
      rw [List.getElem?_set, if_neg]
      rintro rfl; exact hnD hr
     ·obtain ⟨hc1, hc2⟩ := hCs.cr i c hc hf
      obtain ⟨c, rfl⟩ : ∃ c' : Nat, c = (c' : Int) := ⟨c.toNat, by omega⟩
      obtain ⟨hac, hice⟩ := hCs.col i c hc hf (by omega)
      simp only [Int.toNat_natCast] at hac hice
      rw [if_neg hf, bindS hc0, ret_bind, ret_bind]
      refine ret_call (ih (a := a') (b := b') (m := m'.set i true) (j := c) (x := (i : Int)) hCs (by simp [hm1]) (by omega) hac (.inr (by simpa using (hms i).2 (.inl rfl))) (by omega)) ?_
      rintro ⟨a2, b2, m2, ok⟩ hO
      have o1 := hO.ml; have o2 := hO.mono; have o3 := hO.all; have o4 := hO.f; have o5 := hO.t; have o6 := hO.dead
      simp only at o1 o2 o3 o4 o5 o6
      simp only [ret_some]
      cases ok with
      | true =>
       have hT := o5 rfl
       simp only [if_true]
       have h2l := hT.cs.al
       have h2b := hT.cs.bl
       have hjc : j ≠ c := by
        rintro rfl
        rw [hac] at hx
        have := Option.some.inj hx
        rcases hxm with h | h
        ·omega
        ·rw [← this] at h; exact hnm (by simpa using h)
       have haj : a2[j]? = a'[j]? := by
        by_cases he : a2[j]? = a'[j]?
        ·exact he
        ·exfalso
         obtain ⟨r, r1, r2⟩ := hT.ca j hjc he
         have h3 := (hCs.col r j r2 (by omega) (by omega)).1
         simp only [Int.toNat_natCast] at h3
         rw [hx] at h3
         have := Option.some.inj h3
         rcases hxm with h | h
         ·omega
         ·rw [this] at h
          exact r1 ((hms r).2 (.inr (hm2 r (by simpa using h))))
       rw [bindS (setI_lt (by omega)), bindS (setI_lt (by omega)), ret_some, vq_r]
       have hT2 := take_row (a' := a2) (b' := b2) hCs hj hiR hx hxm hnm hie (by rw [if_neg (by rw [hc]; intro h; have := Option.some.inj h; omega)]; exact hT.cs) haj (hT.cb i ((hms i).2 (.inl rfl)))
        (fun c' h => by
         by_cases hcc : c' = c
         ·subst hcc; exact ⟨i, hnm, hc⟩
         ·obtain ⟨r, r1, r2⟩ := hT.ca c' hcc h
          exact ⟨r, fun hr => r1 ((hms r).2 (.inr (hm2 r hr))), r2⟩)
        (fun r hr => hT.cb r ((hms r).2 (.inr (hm2 r hr)))) hT.kb hT.ka
       refine ⟨o1, fun r hr => o2 r ((hms r).2 (.inr (hm2 r hr))), fun h => (by cases h), fun h => (by cases h), fun _ => hT2, fun D hD => ?_⟩
       obtain ⟨d1, d2⟩ := o6 D hD
       have hnD : ¬ D i := by
        intro h
        obtain ⟨c', c1, c3⟩ := hD i h
        rw [hc] at c1
        have := Option.some.inj c1
        have : c' = c := by omega
        subst this
        have := d1 c3
        cases this
       refine ⟨fun h => absurd (h i hie) hnD, fun r hr => ?_⟩
       simp only
       rw [List.getElem?_set, if_neg]
       ·exact d2 r hr
       ·rintro rfl; exact hnD hr
      | false =>
       have hf2 := o4 rfl
       obtain ⟨f1, f2, f3⟩ := hf2
       subst f1; subst f2
       simp only [if_false, Bool.false_eq_true]
       rw [ret_some, vq_l]
       refine ⟨htl, rfl, rfl, rfl, o1, fun r hr => o2 r ((hms r).2 (.inr (hm2 r hr))), fun r hr => ?_, rfl, rfl, fun r r1 r2 => ?_⟩
       ·rcases (mts hi).1 hr with h | h
        ·exact o2 r ((hms r).2 (.inr (hm3 r h)))
        ·have : r = i := by omega
         subst this; exact o2 r ((hms r).2 (.inl rfl))
       ·by_cases hri : r = i
        ·subst hri
         exact ⟨c, hc, o3 rfl⟩
        ·by_cases hrm : mkd m' r
         ·obtain ⟨c', c1, c2⟩ := hF.new r hrm r2
          exact ⟨c', c1, fun i' h => o2 i' ((hms i').2 (.inr (c2 i' h)))⟩
         ·exact f3 r r1 (fun h => ((hms r).1 h).elim hri hrm)
   ·rw [if_neg (by omega), ret_some, vq_r]
    rw [take_all (by omega)] at hm3
    refine ⟨hm1, hm2, fun _ i hi => ?_, fun _ => hF, fun h => (by cases h), fun D hD => ⟨fun _ => rfl, fun _ _ => rfl⟩⟩
    obtain ⟨l', h1, h2⟩ := hi
    rw [hl] at h1
    cases h1
    exact hm3 i h2
  ·rintro (⟨a', b', m'⟩ | ⟨a', b', m'⟩) h
   ·simp only [ret_some]; exact h
   ·simp only [ret_some]; exact h

/-- the table of the columns' rows -/
def Fin (R C : Nat) (E : List (List Int)) (a b : List Int) (D : Nat → Prop) : Prop := Cs R C E a b (-1) ∧ Dead E b D ∧ ∀ c, c < C → a[c]? = some (-1) → ∀ i, inE E c i → D i

theorem full_ok {n : Nat} (hn : n ≤ 100000) (x : Int) : matching_full (n : Int) x = some (List.replicate n x) := by
 unfold matching_full
 have h1 : loop (matching_full_l1 (List.replicate n 0) x) (List.replicate n 0, 0) = some (List.replicate n x) := by
  refine Ret.eq ?_
  refine ret_loop n (fun k (t : List Int × Int) => t = (List.replicate k x ++ List.replicate (n - k) 0, (k : Int))) (by simp) ?_
  rintro k _ hk rfl
  unfold matching_full_l1
  simp only
  by_cases hkn : k < n
  ·have hw : wa .i64 (k : Int) 1 = ((k + 1 : Nat) : Int) := wa1 (by omega)
   rw [if_pos (by simp; omega), bindS (setI_lt (by simp; omega)), hw, ret_some, vq_l]
   refine ⟨hkn, ?_⟩
   congr 1
   rw [List.set_append_right _ _ (by simp), List.length_replicate, Nat.sub_self, show n - k = (n - (k + 1)) + 1 by omega, List.replicate_succ, List.set_cons_zero, List.replicate_succ', List.append_assoc]
   rfl
  ·rw [if_neg (by simp; omega), ret_some, vq_r, show k = n by omega]
   simp
 rw [bindS (mkL_nat 0 n (by omega)), bindS h1]

theorem count_none (n : Nat) : (List.replicate n false).count false = n := by simp

structure Mx (R C : Nat) (E : List (List Int)) (k : Nat) (a b : List Int) (m : List Bool) (D : Nat → Prop) : Prop where
 cs : Cs R C E a b (-1)
 dd : Dead E b D
 dn : ∀ c, c < k → a[c]? = some (-1) → ∀ i, inE E c i → D i
 td : ∀ c, k ≤ c → c < C → a[c]? = some (-1)

/-- the matching at the end -/
theorem rounds_ok {R C : Nat} {E : List (List Int)} (hE : KB R C E) (hR : R ≤ 100000) (hC : C ≤ 100000) :
  Ret (loop (matching_matched_l1 (C : Int) (R : Int) E) (List.replicate C (-1), List.replicate R (-1), [], 0)) (fun o => ∃ D, Fin R C E o.1 o.2.1 D) := by
 obtain ⟨f, hf⟩ : ∃ f, FUEL = f + 100001 := ⟨FUEL - 100001, by unfold FUEL; omega⟩
 refine ret_loop C (fun k (t : List Int × List Int × List Bool × Int) => t.2.2.2 = (k : Int) ∧ ∃ D, Mx R C E k t.1 t.2.1 t.2.2.1 D)
  ⟨rfl, fun _ => False, ⟨by simp, by simp, fun i c h1 h2 => absurd (List.eq_of_mem_replicate (mem_get h1)) h2, fun i c h1 h2 => absurd (List.eq_of_mem_replicate (mem_get h1)) h2, fun i c h1 h2 => absurd (List.eq_of_mem_replicate (mem_get h1)) h2⟩, fun i h => h.elim, fun c h => by omega, fun c h1 h2 => by simp [h2]⟩ ?_
 rintro k ⟨a, b, m, t⟩ hk ⟨e1, D, hM⟩
 simp only at e1 hM
 subst e1
 unfold matching_matched_l1
 simp only
 have hCs := hM.cs
 by_cases hkn : k < C
 ·have hw : wa .i64 (k : Int) 1 = ((k + 1 : Nat) : Int) := wa1 (by omega)
  rw [if_pos (by omega), bindS (mkL_nat false R (by omega)), ret_bind]
  refine ret_call (try_ok hE FUEL hCs (by simp) hkn (hM.td k (by omega) hkn) (.inl rfl) (by rw [count_none]; omega)) ?_
  rintro ⟨a', b', m', ok⟩ hO
  have o3 := hO.all; have o4 := hO.f; have o5 := hO.t; have o6 := hO.dead
  simp only at o3 o4 o5 o6
  rw [ret_some, hw, vq_l]
  refine ⟨hkn, rfl, ?_⟩
  have hno : ∀ i, ¬ mkd (List.replicate R false) i := by
   intro i h
   have := List.eq_of_mem_replicate (mem_get h)
   cases this
  cases ok with
  | true =>
   obtain ⟨t1, t2, t3, t4, t5, t6⟩ := o5 rfl
   obtain ⟨_, d2⟩ := o6 D hM.dd
   simp only
   refine ⟨D, t1, fun i hi => ?_, fun c hc hac i hi => ?_, fun c h1 h2 => ?_⟩
   ·obtain ⟨c, c1, c2⟩ := hM.dd i hi
    exact ⟨c, by rw [d2 i hi]; exact c1, c2⟩
   ·by_cases hck : c = k
    ·subst hck
     obtain ⟨r, r1⟩ := t2
     rw [hac] at r1
     have := Option.some.inj r1
     omega
    ·obtain ⟨q, hq⟩ : ∃ q, a[c]? = some q := ⟨a[c]'(by rw [hCs.al]; omega), by simp [hCs.al, show c < C by omega]⟩
     by_cases hq1 : q = -1
     ·subst hq1
      exact hM.dn c (by omega) hq i hi
     ·obtain ⟨q', h1, h2⟩ := t6 c q hq hq1
      rw [hac] at h1
      exact absurd (Option.some.inj h1).symm h2
   ·have h3 := hM.td c (by omega) h2
    by_cases he : a'[c]? = a[c]?
    ·rw [he]; exact h3
    ·obtain ⟨r, r1, r2⟩ := t3 c (by omega) he
     have := (hCs.col r c r2 (by omega) (by omega)).1
     simp only [Int.toNat_natCast] at this
     rw [h3] at this
     have := Option.some.inj this
     omega
  | false =>
   obtain ⟨f1, f2, f3⟩ := o4 rfl
   have f4 := o3 rfl
   subst f1; subst f2
   simp only
   refine ⟨fun i => D i ∨ mkd m' i, hCs, fun i hi => ?_, fun c hc hac i hi => ?_, fun c h1 h2 => hM.td c (by omega) h2⟩
   ·rcases hi with h | h
    ·obtain ⟨c, c1, c2⟩ := hM.dd i h
     exact ⟨c, c1, fun i' h' => .inl (c2 i' h')⟩
    ·obtain ⟨c, c1, c2⟩ := f3 i h (hno i)
     exact ⟨c, c1, fun i' h' => .inr (c2 i' h')⟩
   ·by_cases hck : c = k
    ·subst hck; exact .inr (f4 i hi)
    ·exact .inl (hM.dn c (by omega) hac i hi)
 ·rw [if_neg (by omega), ret_some, vq_r]
  have : k = C := by omega
  subst this
  exact ⟨D, hCs, hM.dd, hM.dn⟩
end Km
/- What is reachable from the columns that are not matched: the least closed set. -/
namespace Km
open Pl Sx Go M Vc
set_option linter.unusedVariables false
set_option linter.unusedSimpArgs false
set_option maxHeartbeats 4000000

def tr (l : List Bool) (i : Nat) : Prop := l[i]? = some true
structure Clo (E : List (List Int)) (a b : List Int) (C : Nat) (X Y : Nat → Prop) : Prop where
 s : ∀ c, c < C → a[c]? = some (-1) → X c
 r : ∀ c i, X c → inE E c i → Y i
 c : ∀ (i c : Nat), Y i → b[i]? = some (c : Int) → X c
/-- the rows and the columns that are told are the least that are closed -/
structure Rch (R C : Nat) (E : List (List Int)) (a b : List Int) (rows cols : List Bool) : Prop where
 rl : rows.length = R
 cl : cols.length = C
 clo : Clo E a b C (tr cols) (tr rows)
 lst : ∀ X Y : Nat → Prop, Clo E a b C X Y → (∀ c, tr cols c → X c) ∧ ∀ i, tr rows i → Y i
theorem tr_set {l : List Bool} {i k : Nat} (hi : i < l.length) : tr (l.set i true) k ↔ k = i ∨ tr l k := mkd_set hi
/-- the search on its way: `todo` are columns whose rows are still to be told -/
structure Rw (R C : Nat) (E : List (List Int)) (a b : List Int) (rows cols : List Bool) (todo : List Int) : Prop where
 rl : rows.length = R
 cl : cols.length = C
 td : ∀ c, c ∈ todo → 0 ≤ c ∧ c < (C : Int)
 s : ∀ c, c < C → a[c]? = some (-1) → tr cols c
 r : ∀ c i, tr cols c → (c : Int) ∉ todo → inE E c i → tr rows i
 c : ∀ (i c : Nat), tr rows i → b[i]? = some (c : Int) → tr cols c
 lst : ∀ X Y : Nat → Prop, Clo E a b C X Y → (∀ c, tr cols c → X c) ∧ (∀ i, tr rows i → Y i)
 tc : ∀ c : Nat, (c : Int) ∈ todo → tr cols c
 bd : todo.length + cols.count false ≤ C

theorem Rw.done {R C : Nat} {E : List (List Int)} {a b : List Int} {rows cols : List Bool} (h : Rw R C E a b rows cols []) : Rch R C E a b rows cols :=
 ⟨h.rl, h.cl, ⟨h.s, fun c i h1 h2 => h.r c i h1 (by simp) h2, h.c⟩, h.lst⟩

/-- the search within one column's rows -/
structure Ri (R C : Nat) (E : List (List Int)) (a b : List Int) (j : Nat) (p : List Int) (rows cols : List Bool) (todo : List Int) (B : Nat) : Prop where
 rl : rows.length = R
 cl : cols.length = C
 td : ∀ c, c ∈ todo → 0 ≤ c ∧ c < (C : Int)
 s : ∀ c, c < C → a[c]? = some (-1) → tr cols c
 r : ∀ c i, tr cols c → (c : Int) ∉ todo → c ≠ j → inE E c i → tr rows i
 rj : ∀ i : Nat, (i : Int) ∈ p → tr rows i
 c : ∀ (i c : Nat), tr rows i → b[i]? = some (c : Int) → tr cols c
 lst : ∀ X Y : Nat → Prop, Clo E a b C X Y → (∀ c, tr cols c → X c) ∧ (∀ i, tr rows i → Y i)
 tc : ∀ c : Nat, (c : Int) ∈ todo → tr cols c
 bd : todo.length + cols.count false ≤ B
 cj : tr cols j

theorem Ri.step {R C : Nat} {E : List (List Int)} {a b : List Int} (hCs : Cs R C E a b (-1)) {j : Nat} {p : List Int} {rows cols : List Bool} {todo : List Int} {B : Nat} (h : Ri R C E a b j p rows cols todo B) {i : Nat} (hi : i < R) (hie : inE E j i) {c : Int} (hc : b[i]? = some c) :
  (c = -1 ∨ (∃ d : Nat, c = (d : Int) ∧ tr cols d) → Ri R C E a b j (p ++ [(i : Int)]) (rows.set i true) cols todo B) ∧ (∀ d : Nat, c = (d : Int) → d < C → cols[d]? = some false → ∀ todo' : List Int, todo'.length = todo.length + 1 → (∀ x, x ∈ todo' ↔ x ∈ todo ∨ x = (d : Int)) → Ri R C E a b j (p ++ [(i : Int)]) (rows.set i true) (cols.set d true) todo' B) := by
 have hrl := h.rl
 have hcl := h.cl
 have hR : ∀ k, tr (rows.set i true) k ↔ k = i ∨ tr rows k := fun k => tr_set (by omega)
 constructor
 ·intro hcc
  refine ⟨by simp [hrl], hcl, h.td, h.s, fun c' i' h1 h2 h3 h4 => (hR i').2 (.inr (h.r c' i' h1 h2 h3 h4)), fun k hk => (hR k).2 ?_, fun k c' h1 h2 => ?_, fun X Y hXY => ?_, h.tc, h.bd, h.cj⟩
  ·rcases List.mem_append.1 hk with hk | hk
   ·exact .inr (h.rj k hk)
   ·simp at hk; exact .inl (by omega)
  ·rcases (hR k).1 h1 with rfl | h1
   ·rw [hc] at h2
    have := Option.some.inj h2
    rcases hcc with h5 | ⟨d, h5, h6⟩
    ·omega
    ·have : d = c' := by omega
     subst this; exact h6
   ·exact h.c k c' h1 h2
  ·obtain ⟨l1, l2⟩ := h.lst X Y hXY
   refine ⟨l1, fun k hk => ?_⟩
   rcases (hR k).1 hk with rfl | hk
   ·exact hXY.r j k (l1 j h.cj) hie
   ·exact l2 k hk
 ·intro d hd hdC hdf todo' htl htm
  subst hd
  have hT : ∀ k, tr (cols.set d true) k ↔ k = d ∨ tr cols k := fun k => tr_set (by omega)
  refine ⟨by simp [hrl], by simp [hcl], fun x hx => ?_, fun c' h1 h2 => (hT c').2 (.inr (h.s c' h1 h2)), fun c' i' h1 h2 h3 h4 => (hR i').2 (.inr ?_), fun k hk => (hR k).2 ?_, fun k c' h1 h2 => (hT c').2 ?_, fun X Y hXY => ?_, fun c' hc' => (hT c').2 ?_, ?_, (hT j).2 (.inr h.cj)⟩
  ·rcases (htm x).1 hx with hx | rfl
   ·exact h.td x hx
   ·omega
  ·have h5 : c' ≠ d := by
    rintro rfl
    exact h2 ((htm _).2 (.inr rfl))
   rcases (hT c').1 h1 with h6 | h6
   ·exact absurd h6 h5
   ·exact h.r c' i' h6 (fun h7 => h2 ((htm _).2 (.inl h7))) h3 h4
  ·rcases List.mem_append.1 hk with hk | hk
   ·exact .inr (h.rj k hk)
   ·simp at hk; exact .inl (by omega)
  ·rcases (hR k).1 h1 with rfl | h1
   ·rw [hc] at h2
    have := Option.some.inj h2
    exact .inl (by omega)
   ·exact .inr (h.c k c' h1 h2)
  ·obtain ⟨l1, l2⟩ := h.lst X Y hXY
   have hYi := hXY.r j i (l1 j h.cj) hie
   refine ⟨fun k hk => ?_, fun k hk => ?_⟩
   ·rcases (hT k).1 hk with rfl | hk
    ·exact hXY.c i k hYi hc
    ·exact l1 k hk
   ·rcases (hR k).1 hk with rfl | hk
    ·exact hYi
    ·exact l2 k hk
  ·rcases (htm _).1 hc' with h5 | h5
   ·exact .inr (h.tc c' h5)
   ·exact .inl (by omega)
  ·have := count_set hdf
   have := h.bd
   omega

theorem reach_in {R C : Nat} {E : List (List Int)} {a b : List Int} {mm : List Bool} (hCs : Cs R C E a b (-1)) (hE : KB R C E) (hC : C ≤ 100000) {j : Nat} {l : List Int} (hl : E[j]? = some l) {rows cols : List Bool} {todo : List Int} {B : Nat} (hB : B ≤ 1000000) (h : Ri R C E a b j [] rows cols todo B) :
  Ret (loop (matching_Reachable_l24 l (E, a, b, mm)) (rows, cols, todo, 0)) (fun o => Ri R C E a b j l o.1 o.2.1 o.2.2 B) := by
 have hll := hE.sz j l hl
 refine ret_loop l.length (fun k (t : List Bool × List Bool × List Int × Int) => t.2.2.2 = (k : Int) ∧ Ri R C E a b j (l.take k) t.1 t.2.1 t.2.2.1 B) ⟨rfl, by simpa using h⟩ ?_
 rintro k ⟨r, c, q, t⟩ hk ⟨e1, hI⟩
 simp only at e1 hI
 subst e1
 unfold matching_Reachable_l24 matching_Reachable_j26
 simp only
 by_cases hkl : k < l.length
 ·have hw : wa .i64 (k : Int) 1 = ((k + 1 : Nat) : Int) := wa1 (by omega)
  obtain ⟨i, hi⟩ : ∃ i : Nat, l[k]? = some (i : Int) := by
   have := hE.rng j l hl _ (List.getElem_mem hkl)
   exact ⟨l[k].toNat, by rw [List.getElem?_eq_getElem hkl]; congr 1; omega⟩
  have hi0 : getI l (k : Int) = some (i : Int) := hi
  have hiR : i < R := by have := hE.rng j l hl _ (mem_get hi); omega
  have hie : inE E j i := ⟨l, hl, mem_get hi⟩
  have hrl := hI.rl
  have hcl := hI.cl
  have hbl := hCs.bl
  have hq := hI.bd
  obtain ⟨d, hd⟩ : ∃ d, b[i]? = some d := ⟨b[i]'(by omega), by simp [hbl, hiR]⟩
  have hd0 : getI b (i : Int) = some d := hd
  obtain ⟨s1, s2⟩ := hI.step hCs hiR hie hd
  rw [← tks hi] at s1 s2
  rw [if_pos (by omega), bindS hi0, bindS (setI_lt (by omega)), bindS hd0, hw]
  by_cases hd1 : d = -1
  ·rw [if_pos hd1, obs, if_neg (by simp), ret_some, vq_l]
   exact ⟨hkl, rfl, s1 (.inl hd1)⟩
  ·obtain ⟨d1, d2⟩ := hCs.cr i d hd hd1
   obtain ⟨d, rfl⟩ : ∃ d' : Nat, d = (d' : Int) := ⟨d.toNat, by omega⟩
   rw [if_neg hd1]
   obtain ⟨z, hz⟩ : ∃ z, c[d]? = some z := ⟨c[d]'(by omega), by simp [show d < c.length by omega]⟩
   have hz0 : getI c (d : Int) = some z := hz
   rw [bindS hz0, obs]
   cases z with
   | true =>
    rw [if_neg (by simp), ret_some, vq_l]
    exact ⟨hkl, rfl, s1 (.inr ⟨d, rfl, hz⟩)⟩
   | false =>
    have hc0 := count_set hz
    rw [if_pos (by simp), bindS (setI_lt (by omega)), bindS (app_small (by simp; omega)), ret_some, vq_l]
    exact ⟨hkl, rfl, s2 d rfl (by omega) hz _ (by simp) (fun x => by simp)⟩
 ·rw [if_neg (by omega), ret_some, vq_r]
  rw [take_all (by omega)] at hI
  exact hI

theorem Rw.enter {R C : Nat} {E : List (List Int)} {a b : List Int} {rows cols : List Bool} {todo todo' : List Int} {j : Nat} (h : Rw R C E a b rows cols todo) (hj : (j : Int) ∈ todo) (hm : ∀ x, x ∈ todo ↔ x ∈ todo' ∨ x = (j : Int)) (hl : todo'.length + 1 = todo.length) :
  Ri R C E a b j [] rows cols todo' (C - 1) := by
 have := h.bd
 refine ⟨h.rl, h.cl, fun c hc => h.td c ((hm c).2 (.inl hc)), h.s, fun c i h1 h2 h3 h4 => h.r c i h1 (fun h5 => ?_) h4, fun i hi => by simp at hi, h.c, h.lst, fun c hc => h.tc c ((hm _).2 (.inl hc)), by omega, h.tc j hj⟩
 rcases (hm _).1 h5 with h6 | h6
 ·exact h2 h6
 ·exact h3 (by omega)
theorem Ri.leave {R C : Nat} {E : List (List Int)} {a b : List Int} {rows cols : List Bool} {todo : List Int} {j : Nat} {l : List Int} (hl : E[j]? = some l) {B : Nat} (hB : B + 1 ≤ C) (h : Ri R C E a b j l rows cols todo B) : Rw R C E a b rows cols todo := by
 have := h.bd
 refine ⟨h.rl, h.cl, h.td, h.s, fun c i h1 h2 h4 => ?_, h.c, h.lst, h.tc, by omega⟩
 by_cases hcj : c = j
 ·subst hcj
  obtain ⟨l', e1, e2⟩ := h4
  rw [hl] at e1
  cases e1
  exact h.rj i e2
 ·exact h.r c i h1 h2 hcj h4

theorem reach_out {R C : Nat} {E : List (List Int)} {a b : List Int} {mm : List Bool} (hCs : Cs R C E a b (-1)) (hE : KB R C E) (hC : C ≤ 100000) {rows cols : List Bool} {todo : List Int} (h : Rw R C E a b rows cols todo) :
  Ret (loop (matching_Reachable_l19 (E, a, b, mm)) (rows, cols, todo)) (fun o => Rch R C E a b o.1 o.2) := by
 refine ret_loop C (fun k (t : List Bool × List Bool × List Int) => Rw R C E a b t.1 t.2.1 t.2.2 ∧ t.2.2.length + t.2.1.count false + k ≤ C) ⟨h, by have := h.bd; simpa using this⟩ ?_
 rintro k ⟨r, c, q⟩ hk ⟨hI, hb⟩
 simp only at hI hb
 unfold matching_Reachable_l19
 simp only
 cases q with
 | nil =>
  rw [if_neg (by simp), ret_some, vq_r]
  exact hI.done
 | cons x q =>
  have hx := hI.td x (by simp)
  obtain ⟨j, rfl⟩ : ∃ j : Nat, x = (j : Int) := ⟨x.toNat, by omega⟩
  have hbl := hI.bd
  simp only [List.length_cons] at hb hbl
  obtain ⟨l, hl⟩ : ∃ l, E[j]? = some l := ⟨E[j]'(by rw [hE.len]; omega), by simp [hE.len, show j < C by omega]⟩
  have hl0 : getI E (j : Int) = some l := hl
  have hsl : sli ((j : Int) :: q) 1 ((((j : Int) :: q).length : Nat) : Int) = some q := by
   unfold sli subL
   rw [if_pos (by simp; omega)]
   simp
  have hg : getI ((j : Int) :: q) 0 = some (j : Int) := rfl
  rw [if_pos (by simp), bindS hg, bindS hsl, bindS hl0, ret_bind]
  have hE1 := hI.enter (todo' := q) (j := j) (by simp) (fun x => by simp [or_comm]) (by simp)
  have hE2 : Ri R C E a b j [] r c q (C - 1 - k) := ⟨hE1.rl, hE1.cl, hE1.td, hE1.s, hE1.r, hE1.rj, hE1.c, hE1.lst, hE1.tc, by omega, hE1.cj⟩
  refine ret_call (reach_in hCs hE hC hl (by omega) hE2) ?_
  rintro ⟨r2, c2, q2⟩ h2
  simp only at h2
  rw [ret_some, vq_l]
  have := h2.bd
  exact ⟨by omega, h2.leave hl (by omega), by simp only; omega⟩

theorem reach_start {R C : Nat} {E : List (List Int)} {a b : List Int} {mm : List Bool} (hCs : Cs R C E a b (-1)) (hC : C ≤ 100000) :
  Ret (loop (matching_Reachable_l4 (E, a, b, mm)) (List.replicate C false, [], 0)) (fun o => Rw R C E a b (List.replicate R false) o.1 o.2) := by
 have hal := hCs.al
 have hno : ∀ (n i : Nat), ¬ tr (List.replicate n false) i := by
  intro n i h
  have := List.eq_of_mem_replicate (mem_get h)
  cases this
 refine ret_loop C (fun k (t : List Bool × List Int × Int) => t.2.2 = (k : Int) ∧ t.1.length = C ∧ (∀ c, tr t.1 c ↔ c < k ∧ a[c]? = some (-1)) ∧ (∀ x, x ∈ t.2.1 ↔ ∃ c : Nat, x = (c : Int) ∧ c < k ∧ a[c]? = some (-1)) ∧ t.2.1.length + t.1.count false ≤ C)
  ⟨rfl, by simp, fun c => ⟨fun h => absurd h (hno _ _), fun h => by omega⟩, fun x => ⟨fun h => by simp at h, fun ⟨c, _, h, _⟩ => by omega⟩, by simp⟩ ?_
 rintro k ⟨c, q, t⟩ hk ⟨e1, e2, e3, e4, e5⟩
 simp only at e1 e2 e3 e4 e5
 subst e1
 unfold matching_Reachable_l4 matching_Reachable_j27
 simp only
 by_cases hkn : k < C
 ·have hw : wa .i64 (k : Int) 1 = ((k + 1 : Nat) : Int) := wa1 (by omega)
  obtain ⟨z, hz⟩ : ∃ z, a[k]? = some z := ⟨a[k]'(by omega), by simp [hal, hkn]⟩
  have hz0 : getI a (k : Int) = some z := hz
  rw [if_pos (by omega), bindS hz0, hw]
  by_cases hz1 : z = -1
  ·subst hz1
   have hkf : c[k]? = some false := by
    have h1 : ¬ tr c k := fun h => by have := (e3 k).1 h; omega
    unfold tr at h1
    rw [List.getElem?_eq_getElem (by omega)] at h1 ⊢
    congr 1
    cases h2 : c[k] <;> simp_all
   have hcs := count_set hkf
   rw [if_pos rfl, bindS (setI_lt (by omega)), bindS (app_small (by simp; omega)), ret_some, vq_l]
   refine ⟨hkn, rfl, by simp [e2], fun c' => ?_, fun x => ?_, by simp; omega⟩
   ·rw [tr_set (by omega), e3]
    constructor
    ·rintro (rfl | h)
     ·exact ⟨by omega, hz⟩
     ·exact ⟨by omega, h.2⟩
    ·rintro ⟨h1, h2⟩
     by_cases h3 : c' = k
     ·exact .inl h3
     ·exact .inr ⟨by omega, h2⟩
   ·rw [List.mem_append, e4, List.mem_singleton]
    constructor
    ·rintro (⟨c', h1, h2, h3⟩ | rfl)
     ·exact ⟨c', h1, by omega, h3⟩
     ·exact ⟨k, rfl, by omega, hz⟩
    ·rintro ⟨c', h1, h2, h3⟩
     by_cases h4 : c' = k
     ·subst h4; exact .inr h1
     ·exact .inl ⟨c', h1, by omega, h3⟩
  ·rw [if_neg hz1, ret_some, vq_l]
   refine ⟨hkn, rfl, e2, fun c' => ?_, fun x => ?_, e5⟩
   ·simp only
    rw [e3]
    constructor
    ·rintro ⟨h1, h2⟩; exact ⟨by omega, h2⟩
    ·rintro ⟨h1, h2⟩
     refine ⟨?_, h2⟩
     by_cases h3 : c' = k
     ·subst h3; rw [hz] at h2; exact absurd (Option.some.inj h2) hz1
     ·omega
   ·simp only
    rw [e4]
    constructor
    ·rintro ⟨c', h1, h2, h3⟩; exact ⟨c', h1, by omega, h3⟩
    ·rintro ⟨c', h1, h2, h3⟩
     refine ⟨c', h1, ?_, h3⟩
     by_cases h4 : c' = k
     ·subst h4; rw [hz] at h3; exact absurd (Option.some.inj h3) hz1
     ·omega
 ·rw [if_neg (by omega), ret_some, vq_r]
  have : k = C := by omega
  subst this
  refine ⟨by simp, e2, fun x hx => ?_, fun c' h1 h2 => (e3 c').2 ⟨h1, h2⟩, fun c' i h1 h2 h3 => ?_, fun i c' h1 h2 => absurd h1 (hno _ _), fun X Y hXY => ⟨fun c' h => ?_, fun i h => absurd h (hno _ _)⟩, fun c' h => ?_, e5⟩
  ·obtain ⟨c', h1, h2, h3⟩ := (e4 x).1 hx
   omega
  ·exact absurd ((e4 _).2 ⟨c', rfl, (e3 c').1 h1⟩) h2
  ·exact hXY.s c' ((e3 c').1 h).1 ((e3 c').1 h).2
  ·obtain ⟨c'', h1, h2⟩ := (e4 _).1 h
   have : c'' = c' := by omega
   subst this
   exact (e3 c'').2 h2

/-- a maximum matching, and what is reachable in it -/
structure Mat (R C : Nat) (E : List (List Int)) (a b : List Int) (rows cols : List Bool) : Prop where
 fin : ∃ D, Fin R C E a b D
 rch : Rch R C E a b rows cols

theorem reachable_of {x1 x2 : Int} {x3 x5 x7 : List Int} {R C : Nat} {E : List (List Int)} (hE : KB R C E) (hR : R ≤ 100000) (hC : C ≤ 100000) (h1 : x1 = (R : Int)) (h2 : x2 = (C : Int)) (hEd : matching_Edges x1 x2 x3 x5 x7 = some E) :
  Ret (matching_Reachable x1 x2 x3 x5 x7) (fun o => ∃ a b mm, matching_matched x1 x2 x3 x5 x7 = some (E, a, b, mm) ∧ Mat R C E a b o.1 o.2) := by
 subst h1; subst h2
 obtain ⟨⟨a, b, mm⟩, r1, D, r2⟩ := rounds_ok hE hR hC
 simp only at r2
 have hm : matching_matched (R : Int) (C : Int) x3 x5 x7 = some (E, a, b, mm) := by
  unfold matching_matched
  rw [bindS hEd, bindS (full_ok hC _), bindS (full_ok hR _), bindS r1]
 obtain ⟨⟨c, q⟩, s1, s2⟩ := reach_start (mm := mm) (E := E) r2.1 hC
 obtain ⟨⟨r', c'⟩, t1, t2⟩ := reach_out (mm := mm) r2.1 hE hC s2
 refine ⟨(r', c'), ?_, a, b, mm, hm, ⟨D, r2⟩, t2⟩
 unfold matching_Reachable
 rw [bindS hm, bindS (mkL_nat false R (by omega)), bindS (mkL_nat false C (by omega)), bindS s1]
 simp only at t1 ⊢
 rw [bindS t1]

theorem list_b {l : List Bool} {v : Bool} (hl : l.length ≤ 100000) : matching_List l v = some (coll (fun i => l[i]? = some v) l.length) := by
 unfold matching_List
 have h1 : loop (matching_List_l3 l v) ([], 0) = some (coll (fun i => l[i]? = some v) l.length) := by
  refine Ret.eq ?_
  refine ret_loop l.length (fun k (t : List Int × Int) => t = (coll (fun i => l[i]? = some v) k, (k : Int))) rfl ?_
  rintro k _ hk rfl
  unfold matching_List_l3 matching_List_j4
  simp only
  by_cases hkn : k < l.length
  ·have hw : wa .i64 (k : Int) 1 = ((k + 1 : Nat) : Int) := wa1 (by omega)
   have hcl := coll_len (tm := fun i => l[i]? = some v) k
   rw [if_pos (by omega), bindS (getI_lt hkn), hw]
   by_cases hv : l[k] = v
   ·rw [if_pos (by simpa using hv), bindS (app_small (by simp; omega)), ret_some, vq_l]
    refine ⟨hkn, ?_⟩
    rw [coll, if_pos (by rw [List.getElem?_eq_getElem hkn, hv])]
   ·rw [if_neg (by simpa using hv), ret_some, vq_l]
    refine ⟨hkn, ?_⟩
    rw [coll, if_neg (by rw [List.getElem?_eq_getElem hkn]; simpa using hv), List.append_nil]
  ·rw [if_neg (by omega), ret_some, vq_r, show k = l.length by omega]
 rw [bindS h1]
end Km
/- Konig: the rows that are reachable and the columns that are not are as many as the matching has edges; no matching is greater than a cover. -/
namespace Km
open Pl Sx Go M Vc
set_option linter.unusedVariables false
set_option linter.unusedSimpArgs false
set_option maxHeartbeats 4000000

theorem subG {α : Type} [DecidableEq α] : ∀ {a b : List α}, a.Nodup → (∀ x, x ∈ a → x ∈ b) → a.length ≤ b.length
 | [], b, _, _ => by simp
 | x :: a, b, hd, hs => by
  rw [List.nodup_cons] at hd
  have hx := hs x (by simp)
  have := subG (a := a) (b := b.erase x) hd.2 (fun y hy => by
   have : y ≠ x := by rintro rfl; exact hd.1 hy
   exact (List.mem_erase_of_ne this).2 (hs y (by simp [hy])))
  rw [List.length_erase_of_mem hx] at this
  have := List.length_pos_of_mem hx
  simp
  omega
theorem nodup_map {α β : Type} {l : List α} {f : α → β} (hd : l.Nodup) (hf : ∀ x y, x ∈ l → y ∈ l → f x = f y → x = y) : (l.map f).Nodup := by
 rw [List.nodup_iff_pairwise_ne, List.pairwise_map]
 have h1 := List.nodup_iff_pairwise_ne.1 hd
 have h2 : l.Pairwise fun x y => x ∈ l ∧ y ∈ l := List.Pairwise.and_mem.1 (List.pairwise_of_forall (l := l) (R := fun _ _ => True) (fun _ _ => trivial)) |>.imp fun h => ⟨h.1, h.2.1⟩
 exact (h1.and h2).imp fun ⟨h, hx, hy⟩ e => h (hf _ _ hx hy e)

/-- no matching is greater than a cover -/
theorem weak {P : List (Int × Int)} (h1 : ∀ p q, p ∈ P → q ∈ P → p.1 = q.1 → p = q) (h2 : ∀ p q, p ∈ P → q ∈ P → p.2 = q.2 → p = q) (hd : P.Nodup) {KR KC : List Int} (hc : ∀ p, p ∈ P → p.1 ∈ KR ∨ p.2 ∈ KC) : P.length ≤ KR.length + KC.length := by
 let f : Int × Int → Bool × Int := fun p => if p.1 ∈ KR then (true, p.1) else (false, p.2)
 have hn : (P.map f).Nodup := by
  refine nodup_map hd fun p q hp hq he => ?_
  by_cases a : p.1 ∈ KR <;> by_cases b : q.1 ∈ KR <;> simp only [f, a, b, if_true, if_false, Prod.mk.injEq, true_and, reduceCtorEq, false_and] at he
  ·exact h1 p q hp hq he
  ·exact h2 p q hp hq he
 have hs : ∀ x, x ∈ P.map f → x ∈ (KR.map fun r => (true, r)) ++ (KC.map fun c => (false, c)) := by
  intro x hx
  obtain ⟨p, hp, rfl⟩ := List.mem_map.1 hx
  rw [List.mem_append]
  by_cases a : p.1 ∈ KR
  ·left
   simp only [f, a, if_true]
   exact List.mem_map.2 ⟨_, a, rfl⟩
  ·right
   simp only [f, a, if_false]
   exact List.mem_map.2 ⟨_, (hc p hp).resolve_left a, rfl⟩
 have := subG hn hs
 simpa using this

open Classical in
/-- the columns that are matched -/
noncomputable def mcl (a : List Int) (C : Nat) : List Int := coll (fun c => a[c]? ≠ some (-1)) C
open Classical in
noncomputable def rowsL (rows : List Bool) : List Int := coll (fun i => tr rows i) rows.length
open Classical in
noncomputable def colsL (cols : List Bool) : List Int := coll (fun c => ¬ tr cols c) cols.length
theorem mcl_mem {a : List Int} {C : Nat} {x : Int} : x ∈ mcl a C ↔ 0 ≤ x ∧ x.toNat < C ∧ a[x.toNat]? ≠ some (-1) := by classical exact coll_mem _
theorem rowsL_mem {rows : List Bool} {x : Int} : x ∈ rowsL rows ↔ 0 ≤ x ∧ x.toNat < rows.length ∧ tr rows x.toNat := by classical exact coll_mem _
theorem colsL_mem {cols : List Bool} {x : Int} : x ∈ colsL cols ↔ 0 ≤ x ∧ x.toNat < cols.length ∧ ¬ tr cols x.toNat := by classical exact coll_mem _
theorem mcl_nd (a : List Int) (C : Nat) : (mcl a C).Nodup := by classical exact asc_nodup (coll_asc _)
theorem rowsL_nd (rows : List Bool) : (rowsL rows).Nodup := by classical exact asc_nodup (coll_asc _)
theorem colsL_nd (cols : List Bool) : (colsL cols).Nodup := by classical exact asc_nodup (coll_asc _)

section
variable {R C : Nat} {E : List (List Int)} {a b : List Int} {rows cols : List Bool}
/-- every reachable row is matched -/
theorem Mat.row (h : Mat R C E a b rows cols) {i : Nat} (hi : tr rows i) : ∃ c : Nat, b[i]? = some (c : Int) ∧ c < C ∧ a[c]? = some (i : Int) ∧ inE E c i ∧ tr cols c := by
 obtain ⟨D, hCs, hD, hF⟩ := h.fin
 have hcl : Clo E a b C (fun c => c < C ∧ (a[c]? = some (-1) ∨ ∃ i, D i ∧ b[i]? = some (c : Int))) D := by
  refine ⟨fun c h1 h2 => ⟨h1, .inl h2⟩, fun c i ⟨h1, h2⟩ h3 => ?_, fun i c h1 h2 => ?_⟩
  ·rcases h2 with h2 | ⟨i', h4, h5⟩
   ·exact hF c h1 h2 i h3
   ·obtain ⟨c', h6, h7⟩ := hD i' h4
    rw [h5] at h6
    have : c = c' := by have := Option.some.inj h6; omega
    subst this
    exact h7 i h3
  ·have := hCs.cr i c h2 (by omega)
   exact ⟨by omega, .inr ⟨i, h1, h2⟩⟩
 obtain ⟨_, hY⟩ := h.rch.lst _ _ hcl
 obtain ⟨c, h1, _⟩ := hD i (hY i hi)
 have h2 := hCs.cr i c h1 (by omega)
 obtain ⟨h3, h4⟩ := hCs.col i c h1 (by omega) (by omega)
 simp only [Int.toNat_natCast] at h3 h4
 exact ⟨c, h1, by omega, h3, h4, h.rch.clo.c i c hi h1⟩
theorem Mat.cs (h : Mat R C E a b rows cols) : Cs R C E a b (-1) := by obtain ⟨D, hCs, _⟩ := h.fin; exact hCs
/-- a column that is matched: its row -/
theorem Mat.col (h : Mat R C E a b rows cols) {c : Nat} (hc : c < C) (hm : a[c]? ≠ some (-1)) : ∃ i : Nat, i < R ∧ a[c]? = some (i : Int) ∧ b[i]? = some (c : Int) ∧ inE E c i := by
 have hCs := h.cs
 have hal := hCs.al
 obtain ⟨x, hx⟩ : ∃ x, a[c]? = some x := ⟨a[c]'(by omega), by simp [hal, hc]⟩
 have hx1 : x ≠ -1 := by rintro rfl; exact hm hx
 obtain ⟨h1, h2, h3, h4⟩ := hCs.row c x hx hx1
 have h5 := (hCs.col x.toNat c h3 (by omega) (by omega)).2
 simp only [Int.toNat_natCast] at h5
 exact ⟨x.toNat, by omega, by rw [hx]; congr 1; omega, h3, h5⟩
/-- the matching covers as many columns as the cover has rows and columns -/
theorem Mat.size (h : Mat R C E a b rows cols) : (mcl a C).length = (rowsL rows).length + (colsL cols).length := by
 have hcl := h.rch.cl
 have hrl := h.rch.rl
 let f : Int → Int := fun i => b[i.toNat]?.getD (-1)
 have hf : ∀ x, x ∈ rowsL rows → ∃ c : Nat, f x = (c : Int) ∧ b[x.toNat]? = some (c : Int) ∧ c < C ∧ a[c]? = some x ∧ tr cols c := by
  intro x hx
  obtain ⟨h1, h2, h3⟩ := rowsL_mem.1 hx
  obtain ⟨c, c1, c2, c3, c4, c5⟩ := h.row h3
  exact ⟨c, by simp only [f]; rw [c1]; rfl, c1, c2, by rw [c3]; congr 1; omega, c5⟩
 have hn : ((rowsL rows).map f).Nodup := by
  refine nodup_map (rowsL_nd rows) fun x y hx hy he => ?_
  obtain ⟨c, c1, c2, c3, c4, c5⟩ := hf x hx
  obtain ⟨d, d1, d2, d3, d4, d5⟩ := hf y hy
  have : c = d := by omega
  subst this
  rw [c4] at d4
  exact Option.some.inj d4
 have h1 : (mcl a C).length ≤ ((rowsL rows).map f ++ colsL cols).length := by
  refine subG (mcl_nd a C) fun x hx => ?_
  obtain ⟨x1, x2, x3⟩ := mcl_mem.1 hx
  rw [List.mem_append]
  by_cases ht : tr cols x.toNat
  ·left
   obtain ⟨i, i1, i2, i3, i4⟩ := h.col x2 x3
   have hti := h.rch.clo.r _ _ ht i4
   refine List.mem_map.2 ⟨(i : Int), rowsL_mem.2 ⟨by omega, by simpa [hrl] using i1, by simpa using hti⟩, ?_⟩
   simp only [f, Int.toNat_natCast]
   rw [i3]
   simp only [Option.getD_some]
   omega
  ·exact .inr (colsL_mem.2 ⟨x1, by omega, ht⟩)
 have h2 : ((rowsL rows).map f ++ colsL cols).length ≤ (mcl a C).length := by
  refine subG ?_ fun x hx => ?_
  ·rw [List.nodup_append]
   refine ⟨hn, colsL_nd cols, fun x hx y hy e => ?_⟩
   subst e
   obtain ⟨z, hz, rfl⟩ := List.mem_map.1 hx
   obtain ⟨c, c1, c2, c3, c4, c5⟩ := hf z hz
   have := (colsL_mem.1 hy).2.2
   rw [c1] at this
   exact this (by simpa using c5)
  ·rcases List.mem_append.1 hx with hx | hx
   ·obtain ⟨z, hz, rfl⟩ := List.mem_map.1 hx
    obtain ⟨c, c1, c2, c3, c4, c5⟩ := hf z hz
    have hz0 := (rowsL_mem.1 hz).1
    rw [c1]
    refine mcl_mem.2 ⟨by omega, by simpa using c3, ?_⟩
    simp only [Int.toNat_natCast]
    rw [c4]
    intro e
    have := Option.some.inj e
    omega
   ·obtain ⟨x1, x2, x3⟩ := colsL_mem.1 hx
    exact mcl_mem.2 ⟨x1, by omega, fun e => x3 (h.rch.clo.s _ (by omega) e)⟩
 simp only [List.length_append, List.length_map] at h1 h2
 omega
/-- every edge is covered -/
theorem Mat.covers (h : Mat R C E a b rows cols) {c i : Nat} (he : inE E c i) : tr rows i ∨ ¬ tr cols c := by
 by_cases ht : tr cols c
 ·exact .inl (h.rch.clo.r c i ht he)
 ·exact .inr ht
/-- the matching as pairs of a row and a column -/
noncomputable def prs (a : List Int) (C : Nat) : List (Int × Int) := (mcl a C).map fun c => (a[c.toNat]?.getD (-1), c)
theorem prs_len (a : List Int) (C : Nat) : (prs a C).length = (mcl a C).length := by simp [prs]
theorem Mat.prs_mem (h : Mat R C E a b rows cols) {p : Int × Int} (hp : p ∈ prs a C) : ∃ i c : Nat, p = ((i : Int), (c : Int)) ∧ i < R ∧ c < C ∧ a[c]? = some (i : Int) ∧ b[i]? = some (c : Int) ∧ inE E c i := by
 obtain ⟨x, hx, rfl⟩ := List.mem_map.1 hp
 obtain ⟨x1, x2, x3⟩ := mcl_mem.1 hx
 obtain ⟨i, i1, i2, i3, i4⟩ := h.col x2 x3
 refine ⟨i, x.toNat, ?_, i1, x2, i2, i3, i4⟩
 rw [i2]
 simp only [Option.getD_some, Prod.mk.injEq, true_and]
 omega
theorem Mat.prs_inj (h : Mat R C E a b rows cols) : (∀ p q, p ∈ prs a C → q ∈ prs a C → p.1 = q.1 → p = q) ∧ (∀ p q, p ∈ prs a C → q ∈ prs a C → p.2 = q.2 → p = q) ∧ (prs a C).Nodup := by
 refine ⟨fun p q hp hq he => ?_, fun p q hp hq he => ?_, ?_⟩
 ·obtain ⟨i, c, rfl, _, _, h1, h2, _⟩ := h.prs_mem hp
  obtain ⟨i', c', rfl, _, _, h3, h4, _⟩ := h.prs_mem hq
  simp only at he
  have : i = i' := by omega
  subst this
  rw [h2] at h4
  rw [Option.some.inj h4]
 ·obtain ⟨i, c, rfl, _, _, h1, h2, _⟩ := h.prs_mem hp
  obtain ⟨i', c', rfl, _, _, h3, h4, _⟩ := h.prs_mem hq
  simp only at he
  have : c = c' := by omega
  subst this
  rw [h1] at h3
  rw [Option.some.inj h3]
 ·exact nodup_map (mcl_nd a C) fun x y _ _ he => by simpa using (Prod.mk.inj he).2
end
end Km
/- Matrices as lists of the columns' rows: they are valid, and their edges are these lists. -/
namespace Km
open Pl Sx Go M Vc
set_option linter.unusedVariables false
set_option linter.unusedSimpArgs false
set_option maxHeartbeats 4000000

def off (E : List (List Int)) (j : Nat) : Nat := (E.take j).flatten.length
structure Mv (R C : Nat) (E : List (List Int)) (st ix vl : List Int) : Prop where
 len : E.length = C
 asc : ∀ l, l ∈ E → l.Pairwise (· < ·)
 rng : ∀ l, l ∈ E → ∀ i, i ∈ l → 0 ≤ i ∧ i < (R : Int)
 ixe : ix = E.flatten
 sl : st.length = C + 1
 ste : ∀ j, j ≤ C → st[j]? = some (off E j : Int)
 vle : vl.length = ix.length
 fin : ∀ v, v ∈ vl → matrix_Check_1 v = some false
theorem off_succ {E : List (List Int)} {j : Nat} {l : List Int} (h : E[j]? = some l) : off E (j + 1) = off E j + l.length := by
 unfold off
 rw [tks h, List.flatten_append, List.length_append]
 simp
theorem off_le {E : List (List Int)} {i j : Nat} (h : i ≤ j) : off E i ≤ off E j := by
 unfold off
 have : E.take i <+: E.take j := by
  rw [show i = min i j by omega, ← List.take_take]
  exact List.take_prefix _ _
 obtain ⟨t, ht⟩ := this
 rw [← ht, List.flatten_append, List.length_append]
 omega
theorem off_top (E : List (List Int)) {j : Nat} : off E j ≤ E.flatten.length := by
 have h := off_le (E := E) (i := j) (j := max j E.length) (by omega)
 unfold off at h ⊢
 rw [List.take_of_length_le (l := E) (i := max j E.length) (by omega)] at h
 exact h
theorem off_all (E : List (List Int)) : off E E.length = E.flatten.length := by
 unfold off; rw [List.take_length]
theorem slice_at : ∀ {E : List (List Int)} {j : Nat} {l : List Int}, E[j]? = some l → (E.flatten.take (off E (j + 1))).drop (off E j) = l
 | [], j, l, h => by simp at h
 | x :: E, 0, l, h => by
  have : x = l := by simpa using h
  subst this
  simp [off]
 | x :: E, j + 1, l, h => by
  have h1 := slice_at (E := E) (j := j) (l := l) (by simpa using h)
  have e1 : ∀ j, off (x :: E) (j + 1) = x.length + off E j := fun j => by simp [off]
  rw [e1, e1, List.flatten_cons, List.take_length_add_append, List.drop_length_add_append]
  exact h1

theorem Mv.kb {R C : Nat} {E : List (List Int)} {st ix vl : List Int} (h : Mv R C E st ix vl) (hR : R ≤ 100000) : KB R C E :=
 ⟨h.len, fun j l hl i hi => h.rng l (mem_get hl) i hi, fun j l hl => by
  have := asc_len (h.asc l (mem_get hl)) (h.rng l (mem_get hl))
  omega⟩
theorem edges_ok {R C : Nat} {E : List (List Int)} {st ix vl : List Int} (h : Mv R C E st ix vl) (hC : C ≤ 100000) (hix : ix.length ≤ 100000) (x1 : Int) : matching_Edges x1 (C : Int) st ix vl = some E := by
 have hlen := h.len
 have h1 : loop (matching_Edges_l1 (List.replicate C []) st ix) (List.replicate C [], 0) = some E := by
  refine Ret.eq ?_
  refine ret_loop C (fun k (t : List (List Int) × Int) => t = (E.take k ++ List.replicate (C - k) [], (k : Int))) (by simp) ?_
  rintro k _ hk rfl
  unfold matching_Edges_l1
  simp only
  by_cases hkn : k < C
  ·have hw : wa .i64 (k : Int) 1 = ((k + 1 : Nat) : Int) := wa1 (by omega)
   have g1 : getI st (k : Int) = some (off E k : Int) := h.ste k (by omega)
   have g2 : getI st ((k + 1 : Nat) : Int) = some (off E (k + 1) : Int) := h.ste (k + 1) (by omega)
   have hl : E[k]? = some E[k] := by simp [hlen, hkn]
   have o1 := off_le (E := E) (i := k) (j := k + 1) (by omega)
   have o2 := off_top E (j := k + 1)
   have hsl : sli ix (off E k : Int) (off E (k + 1) : Int) = some E[k] := by
    unfold sli subL
    rw [if_pos (by rw [h.ixe]; omega), h.ixe]
    simp only [Int.toNat_natCast]
    rw [slice_at hl]
   rw [if_pos (by simp; omega), bindS g1, hw, bindS g2, bindS hsl, bindS (setI_lt (by simp; omega)), ret_some, vq_l]
   refine ⟨hkn, ?_⟩
   congr 1
   have : (E.take k).length = k := by simp; omega
   rw [List.set_append_right _ _ (by omega), this, Nat.sub_self, show C - k = (C - (k + 1)) + 1 by omega, List.replicate_succ, List.set_cons_zero, tks hl, List.append_assoc]
   rfl
  ·rw [if_neg (by simp; omega), ret_some, vq_r, take_all (by omega), show C - k = 0 by omega]
   simp
 unfold matching_Edges
 rw [bindS (mkL_nat ([] : List Int) C (by omega)), bindS h1]

theorem sorted_ok {st : List Int} (hl : st.length ≤ 100000) (h : ∀ k, ∀ hk : k + 1 < st.length, st[k] ≤ st[k + 1]) : slices_IsSorted_int st = some true := by
 unfold slices_IsSorted_int
 cases st with
 | nil =>
  have h1 : loop (slices_IsSorted_int_l1 []) (ws .i64 (([] : List Int).length : Int) 1) = some (.inl ()) := by
   refine Ret.eq ?_
   refine ret_loop 0 (fun k (t : Int) => t = -1) (by rw [ws_in (by constructor <;> simp)]; rfl) ?_
   rintro k _ hk rfl
   unfold slices_IsSorted_int_l1
   rw [if_neg (by omega), ret_some, vq_r]
  rw [bindS h1]
 | cons x r =>
  have e0 : ws .i64 (((x :: r).length : Nat) : Int) 1 = (r.length : Int) := by
   simp only [List.length_cons] at hl ⊢
   rw [ws_in (by constructor <;> omega)]
   omega
  have hrl : r.length ≤ 100000 := by simp at hl; omega
  have h1 : loop (slices_IsSorted_int_l1 (x :: r)) (ws .i64 (((x :: r).length : Nat) : Int) 1) = some (.inl ()) := by
   refine Ret.eq ?_
   refine ret_loop r.length (fun k (t : Int) => t = ((r.length - k : Nat) : Int)) (by rw [e0]; simp) ?_
   rintro k _ hk rfl
   unfold slices_IsSorted_int_l1
   simp only [List.length_cons] at hl
   by_cases hkn : k < r.length
   ·have e1 : ws .i64 ((r.length - k : Nat) : Int) 1 = ((r.length - (k + 1) : Nat) : Int) := by
     rw [ws_in (by constructor <;> omega)]
     omega
    have i1 : r.length - k < (x :: r).length := by simp; omega
    have i2 : r.length - (k + 1) < (x :: r).length := by simp; omega
    have h2 := h (r.length - (k + 1)) (by simp; omega)
    have h3 : ¬ (x :: r)[r.length - k] < (x :: r)[r.length - (k + 1)] := by
     have : (x :: r)[r.length - (k + 1) + 1]'(by simp; omega) = (x :: r)[r.length - k] := by congr 1; omega
     rw [this] at h2
     omega
    rw [if_pos (by omega), bindS (getI_lt i1), e1, bindS (getI_lt i2), bindS (less_ok _ _), if_neg (by simpa using h3), ret_some, vq_l]
    exact ⟨hkn, rfl⟩
   ·rw [if_neg (by omega), ret_some, vq_r]
  rw [bindS h1]

theorem col_ok {l : List Int} {R : Nat} (h : l.Pairwise (· < ·)) (hr : ∀ x, x ∈ l → 0 ≤ x ∧ x < (R : Int)) (hl : l.length ≤ 100000) : loop (matrix_columns_l27 l (R : Int)) (-1, 0) = some (.inl ()) := by
 refine Ret.eq ?_
 refine ret_loop l.length (fun k (t : Int × Int) => t.2 = (k : Int) ∧ (t.1 = -1 ∨ (0 < k ∧ l[k - 1]? = some t.1)) ∧ (k = 0 → t.1 = -1)) ⟨rfl, .inl rfl, fun _ => rfl⟩ ?_
 rintro k ⟨a, b⟩ hk ⟨e1, e2, e3⟩
 simp only at e1 e2 e3
 subst e1
 unfold matrix_columns_l27
 simp only
 by_cases hkn : k < l.length
 ·have hw : wa .i64 (k : Int) 1 = ((k + 1 : Nat) : Int) := wa1 (by omega)
  have hx := hr _ (List.getElem_mem hkn)
  have hlt : a < l[k] := by
   rcases e2 with h1 | ⟨h1, h2⟩
   ·omega
   ·rw [List.getElem?_eq_getElem (by omega)] at h2
    have := asc_get h (i := k - 1) (j := k) hkn (by omega)
    have := Option.some.inj h2
    omega
  have hc : ¬ ((decide (l[k] ≤ a)) || (decide ((R : Int) ≤ l[k]))) = true := by
   simp only [Bool.or_eq_true, decide_eq_true_eq]
   omega
  rw [if_pos (by omega), bindS (getI_lt hkn), if_neg hc, hw, ret_some, vq_l]
  exact ⟨hkn, rfl, .inr ⟨by omega, by simp⟩, fun h => by omega⟩
 ·rw [if_neg (by omega), ret_some, vq_r]

theorem nonan_ok {vl : List Int} (h : ∀ v, v ∈ vl → matrix_Check_1 v = some false) (hl : vl.length ≤ 100000) : slices_ContainsFunc_apiFloat vl = some false := by
 have h1 : loop (slices_IndexFunc_apiFloat_l1 vl) 0 = some (.inl ()) := by
  refine Ret.eq ?_
  refine ret_loop vl.length (fun k (t : Int) => t = (k : Int)) rfl ?_
  rintro k _ hk rfl
  unfold slices_IndexFunc_apiFloat_l1
  by_cases hkn : k < vl.length
  ·have hw : wa .i64 (k : Int) 1 = ((k + 1 : Nat) : Int) := wa1 (by omega)
   rw [if_pos (by omega), bindS (getI_lt hkn), bindS (h _ (List.getElem_mem hkn)), if_neg (by simp), hw, ret_some, vq_l]
   exact ⟨hkn, rfl⟩
  ·rw [if_neg (by omega), ret_some, vq_r]
 unfold slices_ContainsFunc_apiFloat slices_IndexFunc_apiFloat
 rw [bindS h1]
 rfl

theorem matrixCheck_ok {R C : Nat} {E : List (List Int)} {st ix vl : List Int} (h : Mv R C E st ix vl) (hR : R ≤ 200) (hC : C ≤ 200) (hix : ix.length ≤ 10000) : matrix_Check (R : Int) (C : Int) st ix vl = some 0 := by
 have hlen := h.len
 have hsl := h.sl
 have w1 : matrix_within (R : Int) 0 200 = some true := by
  unfold matrix_within
  have a1 : decide ((0 : Int) ≤ (R : Int)) = true := by simp
  have a2 : decide ((R : Int) ≤ 200) = true := by simp; omega
  rw [a1, a2]; rfl
 have w2 : matrix_within (C : Int) 0 200 = some true := by
  unfold matrix_within
  have a1 : decide ((0 : Int) ≤ (C : Int)) = true := by simp
  have a2 : decide ((C : Int) ≤ 200) = true := by simp; omega
  rw [a1, a2]; rfl
 have hcols : loop (matrix_columns_l24 (C : Int) st ix (R : Int)) 0 = some (.inl ()) := by
  refine Ret.eq ?_
  refine ret_loop C (fun k (t : Int) => t = (k : Int)) rfl ?_
  rintro k _ hk rfl
  unfold matrix_columns_l24
  by_cases hkn : k < C
  ·have hw : wa .i64 (k : Int) 1 = ((k + 1 : Nat) : Int) := wa1 (by omega)
   have g1 : getI st (k : Int) = some (off E k : Int) := h.ste k (by omega)
   have g2 : getI st ((k + 1 : Nat) : Int) = some (off E (k + 1) : Int) := h.ste (k + 1) (by omega)
   have hl : E[k]? = some E[k] := by simp [hlen, hkn]
   have o1 := off_le (E := E) (i := k) (j := k + 1) (by omega)
   have o2 := off_top E (j := k + 1)
   have hsl : sli ix (off E k : Int) (off E (k + 1) : Int) = some E[k] := by
    unfold sli subL
    rw [if_pos (by rw [h.ixe]; omega), h.ixe]
    simp only [Int.toNat_natCast]
    rw [slice_at hl]
   have hm := List.getElem_mem (l := E) (n := k) (by omega)
   have := asc_len (h.asc _ hm) (h.rng _ hm)
   rw [if_pos (by omega), bindS g1, hw, bindS g2, bindS hsl, bindS (col_ok (h.asc _ hm) (h.rng _ hm) (by omega)), ret_some, vq_l]
   exact ⟨hkn, rfl⟩
  ·rw [if_neg (by omega), ret_some, vq_r]
 have g0 : getI st 0 = some 0 := by
  have := h.ste 0 (by omega)
  exact this
 have gC : getI st (C : Int) = some (ix.length : Int) := by
  have := h.ste C (by omega)
  rw [← hlen, off_all, ← h.ixe] at this
  rw [← hlen]
  exact this
 have hsrt : slices_IsSorted_int st = some true := by
  refine sorted_ok (by omega) fun k hk => ?_
  have a1 := h.ste k (by omega)
  have a2 := h.ste (k + 1) (by omega)
  rw [List.getElem?_eq_getElem (by omega)] at a1 a2
  have := Option.some.inj a1
  have := Option.some.inj a2
  have := off_le (E := E) (i := k) (j := k + 1) (by omega)
  omega
 have hmc : matrix_columns (R : Int) (C : Int) st ix vl = some true := by
  unfold matrix_columns
  have hw : wa .i64 (C : Int) 1 = ((C + 1 : Nat) : Int) := wa1 (by omega)
  rw [hw, if_pos (by omega), bindS g0, obs]
  simp only [decide_true, Bool.not_true]
  rw [if_neg (by simp), bindS hsrt, obs]
  simp only [Bool.not_true]
  rw [if_neg (by simp), bindS gC, obs]
  simp only [decide_true, Bool.not_true]
  rw [if_neg (by simp), obs, h.vle]
  simp only [decide_true, Bool.not_true]
  rw [if_neg (by simp), bindS hcols]
 unfold matrix_Check
 rw [bindS w1, if_pos rfl, bindS w2, obs]
 have hc : ¬ ((!true) || (decide ((10000 : Int) < (ix.length : Int)))) = true := by
  simp only [Bool.or_eq_true, decide_eq_true_eq, Bool.not_true]
  rintro (h | h)
  ·cases h
  ·omega
 rw [if_neg hc, bindS hmc, if_pos rfl, bindS (nonan_ok h.fin (by have := h.vle; omega)), if_neg (by simp)]

theorem one_fin : matrix_Check_1 4607182418800017408 = some false := by kernel_rfl
end Km
/- The matrix that is packed from entries. -/
namespace Km
open Pl Sx Go M Vc
set_option linter.unusedVariables false
set_option linter.unusedSimpArgs false
set_option maxHeartbeats 4000000

def hasE (L : List (Int × Int × Int)) (u v : Nat) : Prop := ∃ x, ((v : Int), (u : Int), x) ∈ L
open Classical in
noncomputable def pcol (R : Nat) (L : List (Int × Int × Int)) (u : Nat) : List Int := coll (fun v => hasE L u v) R
noncomputable def packE (R C : Nat) (L : List (Int × Int × Int)) : List (List Int) := (List.range C).map (pcol R L)
structure En (R C : Nat) (L : List (Int × Int × Int)) : Prop where
 r : ∀ e, e ∈ L → 0 ≤ e.1 ∧ e.1 < (R : Int)
 c : ∀ e, e ∈ L → 0 ≤ e.2.1 ∧ e.2.1 < (C : Int)
 f : ∀ e, e ∈ L → matrix_Check_1 e.2.2 = some false
theorem cell_inj {R u v u' v' : Nat} (h : v < R) (h' : v' < R) (he : u * R + v = u' * R + v') : u = u' ∧ v = v' := by
 have h1 : (u * R + v) / R = u := by rw [Nat.mul_comm, Nat.mul_add_div (by omega), Nat.div_eq_of_lt h]; omega
 have h2 : (u' * R + v') / R = u' := by rw [Nat.mul_comm, Nat.mul_add_div (by omega), Nat.div_eq_of_lt h']; omega
 have : u = u' := by rw [← h1, ← h2, he]
 subst this
 exact ⟨rfl, by omega⟩
theorem cell_lt {R C u v : Nat} (hu : u < C) (hv : v < R) : u * R + v < R * C := by
 have : (u + 1) * R ≤ C * R := Nat.mul_le_mul_right _ hu
 rw [Nat.succ_mul] at this
 rw [Nat.mul_comm R C]
 omega
/-- what the table tells after the entries of L -/
structure Ft (R C : Nat) (L : List (Int × Int × Int)) (k : Nat) (T : List Int) : Prop where
 len : T.length = R * C
 at_ : ∀ u v, u < C → v < R → ∃ t, T[u * R + v]? = some t ∧ ((t = 0 ∧ ¬ hasE (L.take k) u v) ∨ (∃ i : Nat, t = ((i + 1 : Nat) : Int) ∧ i < k ∧ ∃ x, L[i]? = some ((v : Int), (u : Int), x)))
theorem fill_ok {R C : Nat} (hR : R ≤ 200) (hC : C ≤ 200) {L : List (Int × Int × Int)} (hL : L.length ≤ 100000) (hE : En R C L) : Ret (loop (sparseref09_Pack_l1 L (R : Int)) (List.replicate (R * C) 0, 0)) (Ft R C L L.length) := by
 have hm : R * C ≤ 200 * 200 := Nat.mul_le_mul hR hC
 refine ret_loop L.length (fun k (t : List Int × Int) => t.2 = (k : Int) ∧ Ft R C L k t.1) ⟨rfl, by simp, fun u v hu hv => ⟨0, by rw [List.getElem?_replicate, if_pos (cell_lt hu hv)], .inl ⟨rfl, fun ⟨x, hx⟩ => by simp at hx⟩⟩⟩ ?_
 rintro k ⟨T, t⟩ hk ⟨e1, hT⟩
 simp only at e1 hT
 subst e1
 unfold sparseref09_Pack_l1
 simp only
 by_cases hkn : k < L.length
 ·have hw : wa .i64 (k : Int) 1 = ((k + 1 : Nat) : Int) := wa1 (by omega)
  obtain ⟨⟨a, b, x⟩, hx⟩ : ∃ e, L[k]? = some e := ⟨L[k], by simp [hkn]⟩
  have hx0 : getI L (k : Int) = some (a, b, x) := hx
  have h1 := hE.r _ (mem_get hx)
  have h2 := hE.c _ (mem_get hx)
  simp only at h1 h2
  obtain ⟨v, rfl⟩ : ∃ v : Nat, a = (v : Int) := ⟨a.toNat, by omega⟩
  obtain ⟨u, rfl⟩ : ∃ u : Nat, b = (u : Int) := ⟨b.toNat, by omega⟩
  have hv : v < R := by omega
  have hu : u < C := by omega
  have hlt := cell_lt hu hv
  have e2 : wm .i64 (u : Int) (R : Int) = ((u * R : Nat) : Int) := by
   have : (u : Int) * (R : Int) = ((u * R : Nat) : Int) := by simp
   rw [wm_in (by rw [this]; constructor <;> omega), this]
  have e3 : wa .i64 ((u * R : Nat) : Int) (v : Int) = ((u * R + v : Nat) : Int) := by rw [wa_in (by constructor <;> omega)]; omega
  have hTl := hT.len
  rw [if_pos (by omega), bindS hx0, bindS hx0]
  simp only
  rw [e2, e3, hw, bindS (setI_lt (by omega)), ret_some, vq_l]
  refine ⟨hkn, rfl, by simp [hTl], fun u' v' hu' hv' => ?_⟩
  simp only
  rw [List.getElem?_set]
  by_cases hc : u * R + v = u' * R + v'
  ·obtain ⟨rfl, rfl⟩ := cell_inj hv hv' hc
   rw [if_pos rfl, if_pos (by omega)]
   exact ⟨_, rfl, .inr ⟨k, rfl, by omega, x, hx⟩⟩
  ·rw [if_neg hc]
   obtain ⟨t, t1, t2⟩ := hT.at_ u' v' hu' hv'
   refine ⟨t, t1, ?_⟩
   rcases t2 with ⟨h3, h4⟩ | ⟨i, h3, h4, h5⟩
   ·refine .inl ⟨h3, ?_⟩
    rintro ⟨y, hy⟩
    rcases (mts hx).1 hy with hy | hy
    ·exact h4 ⟨y, hy⟩
    ·simp only [Prod.mk.injEq] at hy
     have : v' = v := by omega
     have : u' = u := by omega
     subst_vars
     exact hc rfl
   ·exact .inr ⟨i, h3, by omega, h5⟩
 ·rw [if_neg (by omega), ret_some, vq_r]
  rw [show L.length = k by omega]
  exact hT

theorem pcol_len (R : Nat) (L : List (Int × Int × Int)) (u : Nat) : (pcol R L u).length ≤ R := by classical exact coll_len _
theorem flat_pack (R : Nat) (L : List (Int × Int × Int)) (C : Nat) : (packE R C L).flatten.length ≤ C * R := by
 unfold packE
 induction C with
 | zero => simp
 | succ C ih =>
  rw [List.range_succ, List.map_append, List.flatten_append, List.length_append, Nat.succ_mul]
  have := pcol_len R L C
  simp at ih ⊢
  omega
open Classical in
theorem pcol_ok {R C : Nat} (hR : R ≤ 200) (hC : C ≤ 200) {L : List (Int × Int × Int)} (hL : L.length ≤ 100000) (hE : En R C L) {T : List Int} (hT : Ft R C L L.length T) {u : Nat} (hu : u < C) {ix vl : List Int} (h1 : ix.length ≤ 100000) (h2 : vl.length = ix.length) (h3 : ∀ x, x ∈ vl → matrix_Check_1 x = some false) :
  Ret (loop (sparseref09_Pack_l13 (R : Int) T (u : Int) L) (ix, vl, 0)) (fun o => o.1 = ix ++ pcol R L u ∧ o.2.length = o.1.length ∧ ∀ x, x ∈ o.2 → matrix_Check_1 x = some false) := by
 refine ret_loop R (fun k (t : List Int × List Int × Int) => t.2.2 = (k : Int) ∧ t.1 = ix ++ coll (fun v => hasE L u v) k ∧ t.2.1.length = t.1.length ∧ ∀ x, x ∈ t.2.1 → matrix_Check_1 x = some false) ⟨rfl, by simp [coll], h2, h3⟩ ?_
 rintro k ⟨x, y, t⟩ hk ⟨e1, e2, e3, e4⟩
 simp only at e1 e2 e3 e4
 subst e1
 unfold sparseref09_Pack_l13 sparseref09_Pack_j14
 simp only
 by_cases hkn : k < R
 ·have hw : wa .i64 (k : Int) 1 = ((k + 1 : Nat) : Int) := wa1 (by omega)
  have hlt := cell_lt hu hkn
  have hm : R * C ≤ 200 * 200 := Nat.mul_le_mul hR hC
  have e5 : wm .i64 (u : Int) (R : Int) = ((u * R : Nat) : Int) := by
   have : (u : Int) * (R : Int) = ((u * R : Nat) : Int) := by simp
   rw [wm_in (by rw [this]; constructor <;> omega), this]
  have e6 : wa .i64 ((u * R : Nat) : Int) (k : Int) = ((u * R + k : Nat) : Int) := by rw [wa_in (by constructor <;> omega)]; omega
  obtain ⟨z, t1, t2⟩ := hT.at_ u k hu hkn
  have t1' : getI T ((u * R + k : Nat) : Int) = some z := t1
  have hcl := coll_len (tm := fun v => hasE L u v) k
  rw [if_pos (by omega), e5, e6, bindS t1', hw]
  have hxl : x.length = ix.length + (coll (fun v => hasE L u v) k).length := by rw [e2, List.length_append]
  rcases t2 with ⟨rfl, hno⟩ | ⟨i, rfl, hi, w, hw2⟩
  ·rw [if_neg (by omega), ret_some, vq_l]
   rw [List.take_length] at hno
   exact ⟨hkn, rfl, by rw [e2, coll, if_neg hno, List.append_nil], e3, e4⟩
  ·have e7 : ws .i64 ((i + 1 : Nat) : Int) 1 = (i : Int) := by rw [ws_in (by constructor <;> omega)]; omega
   have hw2' : getI L (i : Int) = some ((k : Int), (u : Int), w) := hw2
   have hyl : y.length + 1 ≤ 1099511627776 := by omega
   rw [if_pos (by omega), bindS (app_small (by simp; omega)), e7, bindS hw2', bindS (app_small (by simp; omega)), ret_some, vq_l]
   refine ⟨hkn, rfl, ?_, by simp [e3], fun q hq => ?_⟩
   ·simp only
    rw [e2, coll, if_pos ⟨w, mem_get hw2⟩, List.append_assoc]
   ·simp only at hq
    rcases List.mem_append.1 hq with hq | hq
    ·exact e4 q hq
    ·simp only [List.mem_singleton] at hq
     have h9 := hE.f ((k : Int), (u : Int), w) (mem_get hw2)
     rw [hq]
     exact h9
 ·rw [if_neg (by omega), ret_some, vq_r]
  have hk2 : R = k := by omega
  rw [hk2] 
  unfold pcol
  exact ⟨e2, e3, e4⟩
theorem pack_ok {R C : Nat} (hR : R ≤ 200) (hC : C ≤ 200) {L : List (Int × Int × Int)} (hL : L.length ≤ 100000) (hE : En R C L) :
  ∃ st ix vl, sparseref09_Pack (R : Int) (C : Int) L = some ((R : Int), (C : Int), st, ix, vl) ∧ Mv R C (packE R C L) st ix vl := by
 have hm : R * C ≤ 200 * 200 := Nat.mul_le_mul hR hC
 obtain ⟨T, f1, hT⟩ := fill_ok hR hC hL hE
 have hlo : Ret (loop (sparseref09_Pack_l10 (C : Int) (R : Int) T L) ([0], [], [], 0)) (fun o => Mv R C (packE R C L) o.1 o.2.1 o.2.2) := by
  refine ret_loop C (fun k (t : List Int × List Int × List Int × Int) => t.2.2.2 = (k : Int) ∧ t.1.length = k + 1 ∧ (∀ j, j ≤ k → t.1[j]? = some (off (packE R C L) j : Int)) ∧ t.2.1 = ((packE R C L).take k).flatten ∧ t.2.2.1.length = t.2.1.length ∧ ∀ x, x ∈ t.2.2.1 → matrix_Check_1 x = some false)
   ⟨rfl, rfl, fun j hj => (by have h : j = 0 := (by omega); subst h; simp [off]), by simp, rfl, fun x hx => by simp at hx⟩ ?_
  rintro k ⟨st, ix, vl, t⟩ hk ⟨e1, e2, e3, e4, e5, e6⟩
  simp only at e1 e2 e3 e4 e5 e6
  subst e1
  unfold sparseref09_Pack_l10
  simp only
  have hfl := flat_pack R L C
  have hot := off_top (packE R C L) (j := k)
  have hixl : ix.length = off (packE R C L) k := by rw [e4]; rfl
  have hcr : C * R ≤ 200 * 200 := by rw [Nat.mul_comm]; exact hm
  have hlen : (packE R C L).length = C := by simp [packE]
  by_cases hkn : k < C
  ·have hw : wa .i64 (k : Int) 1 = ((k + 1 : Nat) : Int) := wa1 (by omega)
   have hEk : (packE R C L)[k]? = some (pcol R L k) := by simp [packE, hkn]
   have hos := off_succ hEk
   have hcle := pcol_len R L k
   rw [if_pos (by omega), ret_bind]
   refine ret_call (pcol_ok hR hC hL hE hT hkn (by omega) e5 e6) ?_
   rintro ⟨ix', vl'⟩ ⟨p1, p2, p3⟩
   simp only at p1 p2 p3
   subst p1
   rw [bindS (app_small (by simp; omega)), hw, ret_some, vq_l]
   refine ⟨hkn, rfl, by simp [e2], fun j hj => ?_, ?_, p2, p3⟩
   ·simp only
    by_cases hjk : j ≤ k
    ·rw [List.getElem?_append_left (by omega)]; exact e3 j hjk
    ·have : j = k + 1 := by omega
     subst this
     rw [List.getElem?_append_right (by omega), e2, Nat.sub_self]
     simp only [List.getElem?_cons_zero, List.length_append]
     congr 1
     omega
   ·simp only
    rw [tks hEk, List.flatten_append, e4]
    simp
  ·rw [if_neg (by omega), ret_some, vq_r]
   have : k = C := by omega
   subst this
   refine ⟨hlen, fun l hl => ?_, fun l hl i hi => ?_, ?_, e2, e3, e5, e6⟩
   ·simp only [packE, List.mem_map] at hl
    obtain ⟨v, _, rfl⟩ := hl
    classical exact coll_asc _
   ·simp only [packE, List.mem_map] at hl
    obtain ⟨v, _, rfl⟩ := hl
    have : 0 ≤ i ∧ i.toNat < R ∧ _ := (by classical exact (coll_mem _).1 hi)
    omega
   ·simp only
    rw [e4, List.take_of_length_le (by omega)]
 obtain ⟨⟨st, ix, vl⟩, l1, l2⟩ := hlo
 refine ⟨st, ix, vl, ?_, l2⟩
 have e2 : wm .i64 (R : Int) (C : Int) = ((R * C : Nat) : Int) := by
  have : (R : Int) * (C : Int) = ((R * C : Nat) : Int) := by simp
  rw [wm_in (by rw [this]; constructor <;> omega), this]
 unfold sparseref09_Pack
 rw [e2, bindS (mkL_nat 0 (R * C) (by omega)), bindS f1, bindS l1]
theorem packE_in {R C : Nat} {L : List (Int × Int × Int)} {u v : Nat} : inE (packE R C L) u v ↔ u < C ∧ v < R ∧ hasE L u v := by
 classical
 constructor
 ·rintro ⟨l, l1, l2⟩
  have hu : u < C := by have := (List.getElem?_eq_some_iff.1 l1).1; simpa [packE] using this
  simp only [packE, List.getElem?_map, List.getElem?_range hu, Option.map_some, Option.some.injEq] at l1
  subst l1
  have := (coll_mem _).1 l2
  exact ⟨hu, by omega, by simpa using this.2.2⟩
 ·rintro ⟨h1, h2, h3⟩
  refine ⟨pcol R L u, by simp [packE, h1], (coll_mem _).2 ⟨by omega, by simpa using h2, by simpa using h3⟩⟩
end Km
/- The separator: the border, its matrix, the cover and the three lists. -/
namespace Km
open Pl Sx Go M Vc Pd
set_option linter.unusedVariables false
set_option linter.unusedSimpArgs false
set_option maxHeartbeats 4000000

theorem other_ok {n : Nat} {side : List Int} (hs : side.length = n) (s : Int) {l : List Int} (hr : ∀ x, x ∈ l → 0 ≤ x ∧ x < (n : Int)) (hl : l.length ≤ 100000) : ∃ b, slices_ContainsFunc_int_v2 l side s = some b ∧ (b = true ↔ ∃ x, x ∈ l ∧ sd side x.toNat ≠ s) := by
 have h1 : Ret (loop (slices_IndexFunc_int_v2_l1 l side s) 0) (fun o => match o with | .inl () => ∀ x, x ∈ l → sd side x.toNat = s | .inr i => 0 ≤ i ∧ ∃ x, x ∈ l ∧ sd side x.toNat ≠ s) := by
  refine ret_loop l.length (fun k (t : Int) => t = (k : Int) ∧ ∀ x, x ∈ l.take k → sd side x.toNat = s) ⟨rfl, fun x hx => by simp at hx⟩ ?_
  rintro k t hk ⟨rfl, hI⟩
  unfold slices_IndexFunc_int_v2_l1 dissect_border_1
  by_cases hkn : k < l.length
  ·have hw : wa .i64 (k : Int) 1 = ((k + 1 : Nat) : Int) := wa1 (by omega)
   have hx := hr _ (List.getElem_mem hkn)
   have hg : getI side l[k] = some (sd side l[k].toNat) := getI_of hx.1 (sd_at hs (by omega))
   rw [if_pos (by omega), bindS (getI_lt hkn), bindS hg, obs]
   by_cases he : sd side l[k].toNat = s
   ·rw [if_neg (by simp [he]), hw, ret_some, vq_l]
    refine ⟨hkn, rfl, fun x hx => ?_⟩
    rcases (mts (List.getElem?_eq_getElem hkn)).1 hx with h | rfl
    ·exact hI x h
    ·exact he
   ·rw [if_pos (by simp [he]), ret_some, vq_r]
    exact ⟨by omega, _, List.getElem_mem hkn, he⟩
  ·rw [if_neg (by omega), ret_some, vq_r]
   rw [take_all (by omega)] at hI
   exact hI
 obtain ⟨o, o1, o2⟩ := h1
 unfold slices_ContainsFunc_int_v2 slices_IndexFunc_int_v2
 rw [bindS o1]
 rcases o with ⟨⟩ | i
 ·simp only at o2
  refine ⟨_, rfl, ?_⟩
  constructor
  ·intro h; simp at h
  ·rintro ⟨x, hx, h⟩; exact absurd (o2 x hx) h
 ·simp only at o2
  refine ⟨_, rfl, ?_⟩
  constructor
  ·intro _; exact o2.2
  ·intro _; simpa using o2.1

/-- v is of side s and has a neighbour of another side -/
def Bd (adj : List (List Int)) (side : List Int) (s : Int) (v : Nat) : Prop := sd side v = s ∧ ∃ u, nbp adj v u ∧ sd side u ≠ s
open Classical in
noncomputable def bor (adj : List (List Int)) (side : List Int) (s : Int) : List Int := coll (fun v => Bd adj side s v) adj.length
open Classical in
theorem border_ok {adj : List (List Int)} (hG : Gr adj) (hn : adj.length ≤ 1000) {side : List Int} (hs : side.length = adj.length) (s : Int) : dissect_border adj side s = some (bor adj side s) := by
 unfold dissect_border
 have h1 : loop (dissect_border_l9 adj side s) ([], 0) = some (bor adj side s) := by
  refine Ret.eq ?_
  refine ret_loop adj.length (fun k (t : List Int × Int) => t = (coll (fun v => Bd adj side s v) k, (k : Int))) rfl ?_
  rintro k _ hk rfl
  unfold dissect_border_l9 dissect_border_j13
  simp only
  by_cases hkn : k < adj.length
  ·have hw : wa .i64 (k : Int) 1 = ((k + 1 : Nat) : Int) := wa1 (by omega)
   have hl : adj[k]? = some adj[k] := List.getElem?_eq_getElem hkn
   have hsd : getI side (k : Int) = some (sd side k) := sd_at hs hkn
   obtain ⟨b, b1, b2⟩ := other_ok hs s (l := adj[k]) (fun x hx => by have := hG.rng k _ x hl hx; omega) (by have := hG.len hl; omega)
   have hcl := coll_len (tm := fun v => Bd adj side s v) k
   rw [if_pos (by omega), bindS (getI_lt hkn), bindS hsd, hw]
   have hb : ∀ (c : Prop) [Decidable c], (c ↔ Bd adj side s k) → Ret (if c then (app (coll (fun v => Bd adj side s v) k) [(k : Int)]).bind fun x70 => some (Sum.inl (x70, ((k + 1 : Nat) : Int))) else some (Sum.inl (coll (fun v => Bd adj side s v) k, ((k + 1 : Nat) : Int)))) (VQ (fun t' => k < adj.length ∧ t' = (coll (fun v => Bd adj side s v) (k + 1), ((k + 1 : Nat) : Int))) fun y => y = bor adj side s) := by
    intro c _ hc
    by_cases h : c
    ·rw [if_pos h, bindS (app_small (by simp; omega)), ret_some, vq_l]
     refine ⟨hkn, ?_⟩
     rw [coll, if_pos (hc.1 h)]
    ·rw [if_neg h, ret_some, vq_l]
     refine ⟨hkn, ?_⟩
     rw [coll, if_neg (fun h' => h (hc.2 h')), List.append_nil]
   by_cases hsk : sd side k = s
   ·rw [if_pos hsk, bindS b1, obs]
    refine hb (b = true) ?_
    rw [b2]
    constructor
    ·rintro ⟨x, hx, h⟩
     have := hG.rng k _ x hl hx
     exact ⟨hsk, x.toNat, ⟨_, hl, by rw [Int.toNat_of_nonneg this.1]; exact hx⟩, h⟩
    ·rintro ⟨_, u, ⟨l, l1, l2⟩, h⟩
     rw [hl] at l1
     cases l1
     exact ⟨u, l2, by simpa using h⟩
   ·rw [if_neg hsk, obs]
    refine hb (false = true) ?_
    exact ⟨fun h => (by cases h), fun h => absurd h.1 hsk⟩
  ·rw [if_neg (by omega), ret_some, vq_r, show k = adj.length by omega]
   rfl
 rw [bindS h1]

theorem bor_asc (adj : List (List Int)) (side : List Int) (s : Int) : (bor adj side s).Pairwise (· < ·) := by classical exact coll_asc _
theorem bor_mem {adj : List (List Int)} {side : List Int} {s x : Int} : x ∈ bor adj side s ↔ 0 ≤ x ∧ x.toNat < adj.length ∧ Bd adj side s x.toNat := by classical exact coll_mem _
theorem bor_len (adj : List (List Int)) (side : List Int) (s : Int) : (bor adj side s).length ≤ adj.length := by classical exact coll_len _

/-- the rows that the column v meets -/
def rowP (adj : List (List Int)) (rs : List Int) (v : Int) (i : Nat) : Prop := ∃ u : Nat, rs[i]? = some (u : Int) ∧ nbp adj v.toNat u
open Classical in
noncomputable def colE (adj : List (List Int)) (rs : List Int) (v : Int) : List Int := coll (fun i => rowP adj rs v i) rs.length
noncomputable def tabE (adj : List (List Int)) (rs cs : List Int) : List (List Int) := cs.map (colE adj rs)
def ONE : Int := 4607182418800017408
theorem colE_len (adj : List (List Int)) (rs : List Int) (v : Int) : (colE adj rs v).length ≤ rs.length := by classical exact coll_len _
theorem colE_mem {adj : List (List Int)} {rs : List Int} {v x : Int} : x ∈ colE adj rs v ↔ 0 ≤ x ∧ x.toNat < rs.length ∧ rowP adj rs v x.toNat := by classical exact coll_mem _
theorem flat_cols (adj : List (List Int)) (rs : List Int) : ∀ cs : List Int, (tabE adj rs cs).flatten.length ≤ cs.length * rs.length
 | [] => by simp [tabE]
 | v :: cs => by
  have h1 := flat_cols adj rs cs
  have h2 := colE_len adj rs v
  simp only [tabE, List.map_cons, List.flatten_cons, List.length_append, List.length_cons] at h1 ⊢
  rw [Nat.succ_mul]
  omega

open Classical in
theorem column_ok {adj : List (List Int)} (hG : Gr adj) (hn : adj.length ≤ 200) {rs : List Int} (hrl : rs.length ≤ 200) (hr : ∀ x, x ∈ rs → 0 ≤ x ∧ x < (adj.length : Int)) {v : Int} (hv : 0 ≤ v ∧ v < (adj.length : Int)) {ix vl : List Int} (h1 : ix.length ≤ 100000) (h2 : vl.length ≤ 100000) :
  loop (dissect_cover_l30 rs adj v) (ix, vl, 0) = some (ix ++ colE adj rs v, vl ++ List.replicate (colE adj rs v).length ONE) := by
 refine Ret.eq ?_
 refine ret_loop rs.length (fun k (t : List Int × List Int × Int) => t = (ix ++ coll (fun i => rowP adj rs v i) k, vl ++ List.replicate (coll (fun i => rowP adj rs v i) k).length ONE, (k : Int))) (by simp [coll]) ?_
 rintro k _ hk rfl
 unfold dissect_cover_l30 dissect_cover_j32
 simp only
 by_cases hkn : k < rs.length
 ·have hw : wa .i64 (k : Int) 1 = ((k + 1 : Nat) : Int) := wa1 (by omega)
  have hx := hr _ (List.getElem_mem hkn)
  obtain ⟨l, hl⟩ : ∃ l, adj[v.toNat]? = some l := ⟨adj[v.toNat]'(by omega), by simp [show v.toNat < adj.length by omega]⟩
  have hl0 : getI adj v = some l := getI_of hv.1 hl
  have hll := hG.len hl
  obtain ⟨i, hi⟩ := search_ok (hG.asc _ _ hl) (by omega) rs[k]
  have hcl := coll_len (tm := fun i => rowP adj rs v i) k
  have hiff : rs[k] ∈ l ↔ rowP adj rs v k := by
   constructor
   ·intro h
    exact ⟨rs[k].toNat, by rw [List.getElem?_eq_getElem hkn]; congr 1; omega, l, hl, by rw [Int.toNat_of_nonneg hx.1]; exact h⟩
   ·rintro ⟨u, u1, l', l1, l2⟩
    rw [List.getElem?_eq_getElem hkn] at u1
    rw [hl] at l1
    cases l1
    rw [Option.some.inj u1]
    exact l2
  rw [if_pos (by omega), bindS (getI_lt hkn), bindS hl0, bindS hi, hw]
  simp only
  by_cases hm : rs[k] ∈ l
  ·rw [decide_eq_true hm, if_pos rfl, bindS (app_small (by simp; omega)), bindS (app_small (by simp; omega)), ret_some, vq_l]
   refine ⟨hkn, ?_⟩
   rw [coll, if_pos (hiff.1 hm)]
   simp [List.replicate_succ', List.append_assoc, ONE]
  ·rw [decide_eq_false hm, if_neg (by simp), ret_some, vq_l]
   refine ⟨hkn, ?_⟩
   rw [coll, if_neg (fun h => hm (hiff.2 h)), List.append_nil]
 ·rw [if_neg (by omega), ret_some, vq_r, show k = rs.length by omega]
  rfl

theorem matrix_made {adj : List (List Int)} (hG : Gr adj) (hn : adj.length ≤ 200) {rs cs : List Int} (hrl : rs.length ≤ 200) (hcl : cs.length ≤ 200) (hr : ∀ x, x ∈ rs → 0 ≤ x ∧ x < (adj.length : Int)) (hc : ∀ x, x ∈ cs → 0 ≤ x ∧ x < (adj.length : Int)) :
  Ret (loop (dissect_cover_l21 cs rs adj) ([0], [], [], 0)) (fun o => Mv rs.length cs.length (tabE adj rs cs) o.1 o.2.1 o.2.2 ∧ o.2.2 = List.replicate o.2.1.length ONE) := by
 refine ret_loop cs.length (fun k (t : List Int × List Int × List Int × Int) => t.2.2.2 = (k : Int) ∧ t.1.length = k + 1 ∧ (∀ j, j ≤ k → t.1[j]? = some (off (tabE adj rs cs) j : Int)) ∧ t.2.1 = ((tabE adj rs cs).take k).flatten ∧ t.2.2.1 = List.replicate t.2.1.length ONE)
  ⟨rfl, rfl, fun j hj => (by have h : j = 0 := (by omega); subst h; simp [off]), by simp, by simp⟩ ?_
 rintro k ⟨st, ix, vl, t⟩ hk ⟨e1, e2, e3, e4, e5⟩
 simp only at e1 e2 e3 e4 e5
 subst e1
 unfold dissect_cover_l21
 simp only
 have hfl := flat_cols adj rs cs
 have hm : cs.length * rs.length ≤ 200 * 200 := Nat.mul_le_mul hcl hrl
 have hot := off_top (tabE adj rs cs) (j := k)
 have hixl : ix.length = off (tabE adj rs cs) k := by rw [e4]; rfl
 by_cases hkn : k < cs.length
 ·have hw : wa .i64 (k : Int) 1 = ((k + 1 : Nat) : Int) := wa1 (by omega)
  have hx := hc _ (List.getElem_mem hkn)
  have hE : (tabE adj rs cs)[k]? = some (colE adj rs cs[k]) := by simp [tabE, hkn]
  have hos := off_succ hE
  have hcle := colE_len adj rs cs[k]
  rw [if_pos (by omega), bindS (getI_lt hkn), bindS (column_ok hG hn hrl hr hx (by omega) (by rw [e5]; simp; omega))]
  simp only
  rw [bindS (app_small (by simp; omega)), hw, ret_some, vq_l]
  refine ⟨hkn, rfl, by simp [e2], fun j hj => ?_, ?_, ?_⟩
  ·simp only
   by_cases hjk : j ≤ k
   ·rw [List.getElem?_append_left (by omega)]; exact e3 j hjk
   ·have : j = k + 1 := by omega
    subst this
    rw [List.getElem?_append_right (by omega), e2, Nat.sub_self]
    simp only [List.getElem?_cons_zero, List.length_append]
    congr 1
    omega
  ·simp only
   rw [tks hE, List.flatten_append, e4]
   simp
  ·simp only
   rw [List.length_append, e5, List.replicate_append_replicate]
 ·rw [if_neg (by omega), ret_some, vq_r]
  have : k = cs.length := by omega
  subst this
  have hlen : (tabE adj rs cs).length = cs.length := by simp [tabE]
  refine ⟨⟨hlen, fun l hl => ?_, fun l hl i hi => ?_, ?_, e2, e3, by rw [e5]; simp, fun v hv => ?_⟩, e5⟩
  ·simp only [tabE, List.mem_map] at hl
   obtain ⟨v, _, rfl⟩ := hl
   classical exact coll_asc _
  ·simp only [tabE, List.mem_map] at hl
   obtain ⟨v, _, rfl⟩ := hl
   have := colE_mem.1 hi
   omega
  ·simp only
   rw [e4, List.take_of_length_le (by omega)]
  ·rw [e5] at hv
   rw [List.eq_of_mem_replicate hv]
   exact one_fin

/-- the marks at the vertices that two lists name -/
theorem mark_rows {r : List Int × List Int × Int} {rs : List Int} {n : Nat} (hc : r.1.length ≤ 100000) (h1 : ∀ x, x ∈ r.1 → 0 ≤ x ∧ x < (rs.length : Int)) (h2 : ∀ x, x ∈ rs → 0 ≤ x ∧ x < (n : Int)) {ch : List Bool} (hl : ch.length = n) :
  Ret (loop (dissect_cover_l22 r rs) (ch, 0)) (fun o => o.length = n ∧ ∀ v : Nat, tr o v ↔ tr ch v ∨ ∃ i, i ∈ r.1 ∧ rs[i.toNat]? = some (v : Int)) := by
 refine ret_loop r.1.length (fun k (t : List Bool × Int) => t.2 = (k : Int) ∧ t.1.length = n ∧ ∀ v : Nat, tr t.1 v ↔ tr ch v ∨ ∃ i, i ∈ r.1.take k ∧ rs[i.toNat]? = some (v : Int)) ⟨rfl, hl, fun v => by simp⟩ ?_
 rintro k ⟨c, t⟩ hk ⟨e1, e2, e3⟩
 simp only at e1 e2 e3
 subst e1
 unfold dissect_cover_l22
 simp only
 by_cases hkn : k < r.1.length
 ·have hw : wa .i64 (k : Int) 1 = ((k + 1 : Nat) : Int) := wa1 (by omega)
  have hx := h1 _ (List.getElem_mem hkn)
  have hi : r.1[k]? = some r.1[k] := List.getElem?_eq_getElem hkn
  obtain ⟨u, hu⟩ : ∃ u : Nat, rs[r.1[k].toNat]? = some (u : Int) := by
   have h3 := h2 _ (List.getElem_mem (l := rs) (n := r.1[k].toNat) (by omega))
   exact ⟨rs[r.1[k].toNat].toNat, by rw [List.getElem?_eq_getElem (by omega)]; congr 1; omega⟩
  have hun := h2 _ (mem_get hu)
  rw [if_pos (by omega), bindS (getI_lt hkn), bindS (getI_of hx.1 hu), bindS (setI_lt (by omega)), hw, ret_some, vq_l]
  refine ⟨hkn, rfl, by simp [e2], fun v => ?_⟩
  simp only
  rw [tr_set (by omega), e3]
  constructor
  ·rintro (rfl | h | ⟨i, i1, i2⟩)
   ·exact .inr ⟨_, (mts hi).2 (.inr rfl), hu⟩
   ·exact .inl h
   ·exact .inr ⟨i, (mts hi).2 (.inl i1), i2⟩
  ·rintro (h | ⟨i, i1, i2⟩)
   ·exact .inr (.inl h)
   ·rcases (mts hi).1 i1 with i1 | rfl
    ·exact .inr (.inr ⟨i, i1, i2⟩)
    ·rw [hu] at i2
     exact .inl (by have := Option.some.inj i2; omega)
 ·rw [if_neg (by omega), ret_some, vq_r]
  rw [take_all (by omega)] at e3
  exact ⟨e2, e3⟩
theorem mark_cols {r : List Int × List Int × Int} {rs : List Int} {n : Nat} (hc : r.2.1.length ≤ 100000) (h1 : ∀ x, x ∈ r.2.1 → 0 ≤ x ∧ x < (rs.length : Int)) (h2 : ∀ x, x ∈ rs → 0 ≤ x ∧ x < (n : Int)) {ch : List Bool} (hl : ch.length = n) :
  Ret (loop (dissect_cover_l23 r rs) (ch, 0)) (fun o => o.length = n ∧ ∀ v : Nat, tr o v ↔ tr ch v ∨ ∃ i, i ∈ r.2.1 ∧ rs[i.toNat]? = some (v : Int)) :=
 mark_rows (r := (r.2.1, [], 0)) hc h1 h2 hl

/-- a cover of the border: from a matching and what is reachable in it -/
structure Cov (adj : List (List Int)) (side : List Int) (ch : List Bool) : Prop where
 len : ch.length = adj.length
 ex : ∃ a b rows cols, Mat (bor adj side 0).length (bor adj side 1).length (tabE adj (bor adj side 0) (bor adj side 1)) a b rows cols ∧
  ∀ v : Nat, tr ch v ↔ (∃ i : Nat, tr rows i ∧ (bor adj side 0)[i]? = some (v : Int)) ∨ ∃ j : Nat, cols[j]? = some false ∧ (bor adj side 1)[j]? = some (v : Int)

theorem cover_ok {adj : List (List Int)} (hG : Gr adj) (hn : adj.length ≤ 100) {side : List Int} (hs : side.length = adj.length) : Ret (dissect_cover adj side) (Cov adj side) := by
 unfold dissect_cover
 have l1 := bor_len adj side 0
 have l2 := bor_len adj side 1
 have r1 : ∀ s x, x ∈ bor adj side s → 0 ≤ x ∧ x < (adj.length : Int) := fun s x hx => by have := bor_mem.1 hx; omega
 obtain ⟨⟨st, ix, vl⟩, m1, m2, m3⟩ := matrix_made hG (by omega) (by omega) (by omega) (r1 0) (r1 1)
 simp only at m2 m3
 have hixl : ix.length ≤ 10000 := by
  rw [m2.ixe]
  have h1 := flat_cols adj (bor adj side 0) (bor adj side 1)
  have h2 : (bor adj side 1).length * (bor adj side 0).length ≤ 100 * 100 := Nat.mul_le_mul (by omega) (by omega)
  omega
 have hE := edges_ok m2 (by omega) (by omega) ((bor adj side 0).length : Int)
 have hck := matrixCheck_ok m2 (by omega) (by omega) hixl
 obtain ⟨⟨rows, cols⟩, q1, a, b, mm, q2, q3⟩ := reachable_of (m2.kb (by omega)) (by omega) (by omega) rfl rfl hE
 simp only at q3
 have hrl := q3.rch.rl
 have hcl := q3.rch.cl
 have hcov : matching_Cover ((bor adj side 0).length : Int) ((bor adj side 1).length : Int) st ix vl = some (coll (fun i => rows[i]? = some true) rows.length, coll (fun i => cols[i]? = some false) cols.length, 0) := by
  unfold matching_Cover
  rw [bindS hck, if_pos rfl, bindS q1]
  simp only
  rw [bindS (list_b (by omega)), bindS (list_b (by omega))]
 have k1 := coll_len (tm := fun i => rows[i]? = some true) rows.length
 have k2 := coll_len (tm := fun i => cols[i]? = some false) cols.length
 obtain ⟨c1, p1, p2, p3⟩ := mark_rows (r := (coll (fun i => rows[i]? = some true) rows.length, coll (fun i => cols[i]? = some false) cols.length, 0)) (rs := bor adj side 0) (n := adj.length) (by simp only; omega) (fun x hx => by have := (coll_mem _).1 hx; omega) (r1 0) (ch := List.replicate adj.length false) (by simp)
 obtain ⟨c2, s1, s2, s3⟩ := mark_cols (r := (coll (fun i => rows[i]? = some true) rows.length, coll (fun i => cols[i]? = some false) cols.length, 0)) (rs := bor adj side 1) (n := adj.length) (by simp only; omega) (fun x hx => by have := (coll_mem _).1 hx; omega) (r1 1) (ch := c1) p2
 rw [bindS (border_ok hG (by omega) hs 0), bindS (border_ok hG (by omega) hs 1), bindS m1]
 simp only
 rw [bindS (mkL_nat false adj.length (by omega)), bindS hcov]
 simp only [if_true]
 rw [bindS p1, bindS s1, ret_some]
 refine ⟨s2, a, b, rows, cols, q3, fun v => ?_⟩
 rw [s3, p3]
 constructor
 ·rintro ((h | ⟨i, i1, i2⟩) | ⟨j, j1, j2⟩)
  ·have := List.eq_of_mem_replicate (mem_get h)
   cases this
  ·obtain ⟨h1, h2, h3⟩ := (coll_mem _).1 i1
   exact .inl ⟨i.toNat, h3, i2⟩
  ·obtain ⟨h1, h2, h3⟩ := (coll_mem _).1 j1
   exact .inr ⟨j.toNat, h3, j2⟩
 ·rintro (⟨i, i1, i2⟩ | ⟨j, j1, j2⟩)
  ·have := (List.getElem?_eq_some_iff.1 i1).1
   exact .inl (.inr ⟨i, (coll_mem _).2 ⟨by omega, by simpa using this, i1⟩, by simpa using i2⟩)
  ·have := (List.getElem?_eq_some_iff.1 j1).1
   exact .inr ⟨j, (coll_mem _).2 ⟨by omega, by simpa using this, j1⟩, by simpa using j2⟩
end Km
/- The three lists of a separator; the graph that a list induces. -/
namespace Km
open Pl Sx Go M Vc Pd
set_option linter.unusedVariables false
set_option linter.unusedSimpArgs false
set_option maxHeartbeats 4000000

def isS (ch : List Bool) (v : Nat) : Prop := tr ch v
def isA (ch : List Bool) (side : List Int) (v : Nat) : Prop := ¬ tr ch v ∧ sd side v = 0
def isB (ch : List Bool) (side : List Int) (v : Nat) : Prop := ¬ tr ch v ∧ sd side v ≠ 0
open Classical in
noncomputable def lS (n : Nat) (ch : List Bool) : List Int := coll (isS ch) n
open Classical in
noncomputable def lA (n : Nat) (ch : List Bool) (side : List Int) : List Int := coll (isA ch side) n
open Classical in
noncomputable def lB (n : Nat) (ch : List Bool) (side : List Int) : List Int := coll (isB ch side) n
open Classical in
theorem coll_t {p : Nat → Prop} [DecidablePred p] {k : Nat} (h : p k) : coll p (k + 1) = coll p k ++ [(k : Int)] := by rw [coll, if_pos h]
open Classical in
theorem coll_f {p : Nat → Prop} [DecidablePred p] {k : Nat} (h : ¬ p k) : coll p (k + 1) = coll p k := by rw [coll, if_neg h, List.append_nil]

structure Sep (adj : List (List Int)) (side : List Int) (ch : List Bool) : Prop where
 sl : side.length = adj.length
 s01 : S01 side
 bs : dissect_bisect FUEL adj (List.replicate adj.length 1) (onesE adj) = some (side, true)
 cv : Cov adj side ch

open Classical in
theorem separate_ok {adj : List (List Int)} (hG : Gr adj) (hn : adj.length ≤ 30) : ∃ side ch, Sep adj side ch ∧ dissect_separate adj = some (lA adj.length ch side, lB adj.length ch side, lS adj.length ch) := by
 obtain ⟨side, s1, s2, s3⟩ := side_ok hG hn
 obtain ⟨ch, c1, c2⟩ := cover_ok hG (by omega) s2
 refine ⟨side, ch, ⟨s2, s3, s1, c2⟩, ?_⟩
 have hcl := c2.len
 unfold dissect_separate
 have h1 : loop (dissect_separate_l7 adj ch (side, true)) ([], [], [], 0) = some (lA adj.length ch side, lB adj.length ch side, lS adj.length ch) := by
  refine Ret.eq ?_
  refine ret_loop adj.length (fun k (t : List Int × List Int × List Int × Int) => t = (coll (isA ch side) k, coll (isB ch side) k, coll (isS ch) k, (k : Int))) rfl ?_
  rintro k _ hk rfl
  unfold dissect_separate_l7 dissect_separate_j10 dissect_separate_j9
  simp only
  by_cases hkn : k < adj.length
  ·have hw : wa .i64 (k : Int) 1 = ((k + 1 : Nat) : Int) := wa1 (by omega)
   have hsd : getI side (k : Int) = some (sd side k) := sd_at s2 hkn
   have ca := coll_len (tm := isA ch side) k
   have cb := coll_len (tm := isB ch side) k
   have cs := coll_len (tm := isS ch) k
   have ck : ch[k]? = some ch[k] := List.getElem?_eq_getElem (by omega)
   rw [if_pos (by omega), bindS (getI_lt (by omega)), hw]
   by_cases hc : ch[k] = true
   ·have ht : tr ch k := by unfold tr; rw [ck, hc]
    rw [if_pos hc, bindS (app_small (by simp; omega)), ret_some, vq_l]
    refine ⟨hkn, ?_⟩
    rw [coll_t (p := isS ch) ht, coll_f (p := isA ch side) (fun h => h.1 ht), coll_f (p := isB ch side) (fun h => h.1 ht)]
   ·have ht : ¬ tr ch k := by unfold tr; rw [ck]; intro h; exact hc (Option.some.inj h)
    rw [if_neg hc, bindS hsd]
    by_cases h0 : sd side k = 0
    ·rw [if_pos h0, bindS (app_small (by simp; omega)), ret_some, vq_l]
     refine ⟨hkn, ?_⟩
     rw [coll_f (p := isS ch) ht, coll_t (p := isA ch side) ⟨ht, h0⟩, coll_f (p := isB ch side) (fun h => h.2 h0)]
    ·rw [if_neg h0, bindS (app_small (by simp; omega)), ret_some, vq_l]
     refine ⟨hkn, ?_⟩
     rw [coll_f (p := isS ch) ht, coll_f (p := isA ch side) (fun h => h0 h.2), coll_t (p := isB ch side) ⟨ht, h0⟩]
  ·rw [if_neg (by omega), ret_some, vq_r, show k = adj.length by omega]
   rfl
 rw [bindS (units_ok hG (by omega)), bindS s1, bindS c1, bindS h1]

/-- lists of vertices, ascending -/
structure Vl (n : Nat) (l : List Int) : Prop where
 asc : l.Pairwise (· < ·)
 rng : ∀ x, x ∈ l → 0 ≤ x ∧ x < (n : Int)
theorem Vl.len {n : Nat} {l : List Int} (h : Vl n l) : l.length ≤ n := asc_len h.asc h.rng
open Classical in
theorem coll_vl (p : Nat → Prop) (n : Nat) : Vl n (coll p n) := ⟨coll_asc _, fun x hx => by have := (coll_mem _).1 hx; omega⟩
theorem lA_vl (n : Nat) (ch : List Bool) (side : List Int) : Vl n (lA n ch side) := coll_vl _ n
theorem lB_vl (n : Nat) (ch : List Bool) (side : List Int) : Vl n (lB n ch side) := coll_vl _ n
theorem lS_vl (n : Nat) (ch : List Bool) : Vl n (lS n ch) := coll_vl _ n
theorem lA_mem {n : Nat} {ch : List Bool} {side : List Int} {x : Int} : x ∈ lA n ch side ↔ 0 ≤ x ∧ x.toNat < n ∧ isA ch side x.toNat := by classical exact coll_mem _
theorem lB_mem {n : Nat} {ch : List Bool} {side : List Int} {x : Int} : x ∈ lB n ch side ↔ 0 ≤ x ∧ x.toNat < n ∧ isB ch side x.toNat := by classical exact coll_mem _
theorem lS_mem {n : Nat} {ch : List Bool} {x : Int} : x ∈ lS n ch ↔ 0 ≤ x ∧ x.toNat < n ∧ isS ch x.toNat := by classical exact coll_mem _

/-- the three lists part the vertices -/
structure P3 (n : Nat) (A B S : List Int) : Prop where
 a : Vl n A
 b : Vl n B
 s : Vl n S
 nd : (A ++ B ++ S).Nodup
 all : ∀ v : Nat, v < n → (v : Int) ∈ A ++ B ++ S
theorem sep_parts (n : Nat) (ch : List Bool) (side : List Int) : P3 n (lA n ch side) (lB n ch side) (lS n ch) := by
 refine ⟨lA_vl _ _ _, lB_vl _ _ _, lS_vl _ _, ?_, fun v hv => ?_⟩
 ·rw [List.nodup_append, List.nodup_append]
  refine ⟨⟨asc_nodup (lA_vl _ _ _).asc, asc_nodup (lB_vl _ _ _).asc, ?_⟩, asc_nodup (lS_vl _ _).asc, ?_⟩
  ·rintro x hx y hy rfl
   exact (lB_mem.1 hy).2.2.2 (lA_mem.1 hx).2.2.2
  ·rintro x hx y hy rfl
   have hs := (lS_mem.1 hy).2.2
   rcases List.mem_append.1 hx with h | h
   ·exact (lA_mem.1 h).2.2.1 hs
   ·exact (lB_mem.1 h).2.2.1 hs
 ·rw [List.mem_append, List.mem_append]
  by_cases ht : tr ch v
  ·exact .inr (lS_mem.2 ⟨by omega, by simpa using hv, by simpa [isS] using ht⟩)
  ·by_cases h0 : sd side v = 0
   ·exact .inl (.inl (lA_mem.2 ⟨by omega, by simpa using hv, by simpa [isA] using ⟨ht, h0⟩⟩))
   ·exact .inl (.inr (lB_mem.2 ⟨by omega, by simpa using hv, by simpa [isB] using ⟨ht, h0⟩⟩))
theorem nodup_sub : ∀ {a b : List Int}, a.Nodup → (∀ x, x ∈ a → x ∈ b) → a.length ≤ b.length
 | [], b, _, _ => by simp
 | x :: a, b, hd, hs => by
  rw [List.nodup_cons] at hd
  have hx := hs x (by simp)
  have := nodup_sub (a := a) (b := b.erase x) hd.2 (fun y hy => by
   have : y ≠ x := by rintro rfl; exact hd.1 hy
   exact (List.mem_erase_of_ne this).2 (hs y (by simp [hy])))
  rw [List.length_erase_of_mem hx] at this
  have := List.length_pos_of_mem hx
  simp
  omega
theorem nodup_full {n : Nat} {l : List Int} (hd : l.Nodup) (hr : ∀ x, x ∈ l → 0 ≤ x ∧ x < (n : Int)) (ha : ∀ v : Nat, v < n → (v : Int) ∈ l) : l.length = n := by
 have h1 := nodup_len n l hd hr
 have h2 : ((List.range n).map Int.ofNat).length ≤ l.length := by
  have hs : ∀ x, x ∈ (List.range n).map Int.ofNat → x ∈ l := by
   intro x hx
   obtain ⟨v, hv, rfl⟩ := List.mem_map.1 hx
   exact ha v (List.mem_range.1 hv)
  have hn2 : ((List.range n).map Int.ofNat).Nodup := by
   rw [List.nodup_iff_pairwise_ne, List.pairwise_map]
   exact (List.nodup_iff_pairwise_ne.1 (List.nodup_range (n := n))).imp fun h e => h (Int.ofNat.inj e)
  exact nodup_sub hn2 hs
 simp at h2
 omega
theorem P3.len {n : Nat} {A B S : List Int} (h : P3 n A B S) : A.length + B.length + S.length = n := by
 have := nodup_full h.nd (fun x hx => by
  rcases List.mem_append.1 hx with hx | hx
  ·rcases List.mem_append.1 hx with hx | hx
   ·exact h.a.rng x hx
   ·exact h.b.rng x hx
  ·exact h.s.rng x hx) h.all
 simpa [Nat.add_assoc] using this

open Classical in
/-- the graph that a list of vertices induces -/
noncomputable def ind (adj : List (List Int)) (l : List Int) : List (List Int) := (List.range l.length).map fun i => coll (fun j => IJ adj l i j) l.length
end Km
/- DissectSmallest: the separator is a smallest cover of the cut. -/
namespace Km
open Pl Sx Go M Vc Pd
set_option linter.unusedVariables false
set_option linter.unusedSimpArgs false
set_option maxHeartbeats 4000000

theorem rones_ok {adj : List (List Int)} (hG : Gr adj) (hn : adj.length ≤ 200) : sparseref18_Ones adj = some (adj, List.replicate adj.length 1, onesE adj) := by
 have hrow : ∀ k, ∀ hk : k < adj.length, loop (sparseref18_Ones_l4 adj (k : Int)) ([], 0) = some (List.replicate adj[k].length 1) := by
  intro k hk
  have hl := hG.len (List.getElem?_eq_getElem hk)
  refine Ret.eq ?_
  refine ret_loop adj[k].length (fun m (t : List Int × Int) => t = (List.replicate m 1, (m : Int))) rfl ?_
  rintro m _ hm rfl
  unfold sparseref18_Ones_l4
  simp only
  rw [bindS (getI_lt hk)]
  by_cases hml : m < adj[k].length
  ·have hw : wa .i64 (m : Int) 1 = ((m + 1 : Nat) : Int) := wa1 (by omega)
   rw [if_pos (by omega), bindS (app_small (by simp; omega)), hw, ret_some, vq_l]
   exact ⟨hml, by rw [← List.replicate_succ']⟩
  ·rw [if_neg (by omega), ret_some, vq_r, show m = adj[k].length by omega]
 have h1 : loop (sparseref18_Ones_l3 adj) ([], [], 0) = some (List.replicate adj.length 1, onesE adj) := by
  refine Ret.eq ?_
  refine ret_loop adj.length (fun k (t : List Int × List (List Int) × Int) => t = (List.replicate k 1, (adj.take k).map (fun l => List.replicate l.length 1), (k : Int))) (by simp) ?_
  rintro k _ hk rfl
  unfold sparseref18_Ones_l3
  simp only
  by_cases hkn : k < adj.length
  ·have hw : wa .i64 (k : Int) 1 = ((k + 1 : Nat) : Int) := wa1 (by omega)
   rw [if_pos (by omega), bindS (hrow k hkn), bindS (app_small (by simp; omega)), bindS (app_small (by simp; omega)), hw, ret_some, vq_l]
   refine ⟨hkn, ?_⟩
   rw [take_succ' hkn, List.map_append, ← List.replicate_succ']
   rfl
  ·rw [if_neg (by omega), ret_some, vq_r, take_all (by omega), show k = adj.length by omega]
   rfl
 unfold sparseref18_Ones
 rw [bindS h1]

theorem twinI_ok {l : List Int} (hl : l.length ≤ 100000) : sparsekit_TwinInts l = some l := by
 unfold sparsekit_TwinInts
 have h1 : loop (sparsekit_TwinInts_l1 l) ([], 0) = some l := by
  refine Ret.eq ?_
  refine ret_loop l.length (fun k (t : List Int × Int) => t = (l.take k, (k : Int))) (by simp) ?_
  rintro k _ hk rfl
  unfold sparsekit_TwinInts_l1
  simp only
  by_cases hkn : k < l.length
  ·have hw : wa .i64 (k : Int) 1 = ((k + 1 : Nat) : Int) := wa1 (by omega)
   rw [if_pos (by omega), bindS (getI_lt hkn), bindS (app_small (by simp; omega)), hw, ret_some, vq_l]
   exact ⟨hkn, by rw [take_succ' hkn]⟩
  ·rw [if_neg (by omega), ret_some, vq_r, take_all (by omega)]
 rw [bindS h1]

/-- an edge of the cut -/
def Ct (adj : List (List Int)) (side : List Int) (v u : Nat) : Prop := nbp adj v u ∧ sd side v = 0 ∧ sd side u = 1

section
variable {adj : List (List Int)} {side : List Int} {ch : List Bool}
theorem ct_bor (hG : Gr adj) {v u : Nat} (h : Ct adj side v u) : (v : Int) ∈ bor adj side 0 ∧ (u : Int) ∈ bor adj side 1 := by
 obtain ⟨h1, h2, h3⟩ := h
 obtain ⟨a1, a2⟩ := nbp_lt hG h1
 exact ⟨bor_mem.2 ⟨by omega, by simpa using a1, by simpa using h2, u, by simpa using h1, by omega⟩, bor_mem.2 ⟨by omega, by simpa using a2, by simpa using h3, v, by simpa using nbp_sym hG h1, by omega⟩⟩
/-- the edges of the border's matrix are those of the cut -/
theorem tab_in (hG : Gr adj) {j i : Nat} (h : inE (tabE adj (bor adj side 0) (bor adj side 1)) j i) : ∃ v u : Nat, (bor adj side 0)[i]? = some (v : Int) ∧ (bor adj side 1)[j]? = some (u : Int) ∧ Ct adj side v u := by
 obtain ⟨l, l1, l2⟩ := h
 simp only [tabE, List.getElem?_map, Option.map_eq_some_iff] at l1
 obtain ⟨y, y1, rfl⟩ := l1
 obtain ⟨_, _, v, v1, v2⟩ := colE_mem.1 l2
 simp only [Int.toNat_natCast] at v1
 have hy := bor_mem.1 (mem_get y1)
 have hv := bor_mem.1 (mem_get v1)
 obtain ⟨_, _, hv3, _⟩ := hv
 obtain ⟨hy1, hy2, hy3, _⟩ := hy
 simp only [Int.toNat_natCast] at hv3
 exact ⟨v, y.toNat, v1, by rw [y1]; congr 1; omega, nbp_sym hG v2, hv3, hy3⟩
theorem in_tab (hG : Gr adj) {v u i j : Nat} (h : Ct adj side v u) (hi : (bor adj side 0)[i]? = some (v : Int)) (hj : (bor adj side 1)[j]? = some (u : Int)) : inE (tabE adj (bor adj side 0) (bor adj side 1)) j i := by
 refine ⟨colE adj (bor adj side 0) (u : Int), by simp [tabE, hj], colE_mem.2 ⟨by omega, ?_, v, by simpa using hi, by simpa using nbp_sym hG h.1⟩⟩
 have := (List.getElem?_eq_some_iff.1 hi).1
 simpa using this
theorem at_idx {l : List Int} {x : Int} (h : x ∈ l) : ∃ i : Nat, l[i]? = some x := by
 obtain ⟨i, hi⟩ := List.mem_iff_getElem?.1 h
 exact ⟨i, hi⟩
/-- every edge of the cut meets the separator -/
theorem cov_cut (hG : Gr adj) (hc : Cov adj side ch) {v u : Nat} (h : Ct adj side v u) : tr ch v ∨ tr ch u := by
 obtain ⟨a, b, rows, cols, hM, hch⟩ := hc.ex
 obtain ⟨h1, h2⟩ := ct_bor hG h
 obtain ⟨i, hi⟩ := at_idx h1
 obtain ⟨j, hj⟩ := at_idx h2
 rcases hM.covers (in_tab hG h hi hj) with h3 | h3
 ·exact .inl ((hch v).2 (.inl ⟨i, h3, hi⟩))
 ·refine .inr ((hch u).2 (.inr ⟨j, ?_, hj⟩))
  have hl := (List.getElem?_eq_some_iff.1 hj).1
  have hcl := hM.rch.cl
  unfold tr at h3
  rw [List.getElem?_eq_getElem (by omega)] at h3 ⊢
  congr 1
  cases h4 : cols[j]'(by omega) <;> simp_all

/-- a matrix whose edges are those of the cut: its greatest matching is as great as the separator -/
theorem sizes (hG : Gr adj) (hc : Cov adj side ch) {n : Nat} (hn : adj.length = n) {E : List (List Int)} (hE : ∀ u v, inE E u v ↔ Ct adj side v u) {a b : List Int} {rows cols : List Bool} (hM : Mat n n E a b rows cols) : (mcl a n).length = (lS n ch).length := by
 obtain ⟨a1, b1, r1, c1, hM1, hch⟩ := hc.ex
 have hr1 := hM1.rch.rl
 have hc1 := hM1.rch.cl
 have hrl := hM.rch.rl
 have hcl := hM.rch.cl
 have hchl := hc.len
 let p0 : Int → Int := fun i => (bor adj side 0)[i.toNat]?.getD (-1)
 let p1 : Int → Int := fun j => (bor adj side 1)[j.toNat]?.getD (-1)
 have hp0 : ∀ i : Nat, i < (bor adj side 0).length → ∃ v : Nat, (bor adj side 0)[i]? = some (v : Int) ∧ p0 (i : Int) = (v : Int) ∧ v < adj.length ∧ sd side v = 0 := by
  intro i hi
  have hm := List.getElem_mem hi
  obtain ⟨h1, h2, h3, _⟩ := bor_mem.1 hm
  refine ⟨(bor adj side 0)[i].toNat, by rw [List.getElem?_eq_getElem hi]; congr 1; omega, ?_, h2, h3⟩
  simp only [p0, Int.toNat_natCast]
  rw [List.getElem?_eq_getElem hi]
  simp only [Option.getD_some]
  omega
 have hp1 : ∀ j : Nat, j < (bor adj side 1).length → ∃ v : Nat, (bor adj side 1)[j]? = some (v : Int) ∧ p1 (j : Int) = (v : Int) ∧ v < adj.length ∧ sd side v = 1 := by
  intro i hi
  have hm := List.getElem_mem hi
  obtain ⟨h1, h2, h3, _⟩ := bor_mem.1 hm
  refine ⟨(bor adj side 1)[i].toNat, by rw [List.getElem?_eq_getElem hi]; congr 1; omega, ?_, h2, h3⟩
  simp only [p1, Int.toNat_natCast]
  rw [List.getElem?_eq_getElem hi]
  simp only [Option.getD_some]
  omega
 have inj0 : ∀ i i' : Nat, ∀ x, (bor adj side 0)[i]? = some x → (bor adj side 0)[i']? = some x → i = i' := by
  intro i i' x h1 h2
  obtain ⟨k1, k2⟩ := List.getElem?_eq_some_iff.1 h1
  obtain ⟨k3, k4⟩ := List.getElem?_eq_some_iff.1 h2
  exact nodup_inj (asc_nodup (bor_asc adj side 0)) (k2.trans k4.symm)
 have inj1 : ∀ i i' : Nat, ∀ x, (bor adj side 1)[i]? = some x → (bor adj side 1)[i']? = some x → i = i' := by
  intro i i' x h1 h2
  obtain ⟨k1, k2⟩ := List.getElem?_eq_some_iff.1 h1
  obtain ⟨k3, k4⟩ := List.getElem?_eq_some_iff.1 h2
  exact nodup_inj (asc_nodup (bor_asc adj side 1)) (k2.trans k4.symm)
 -- the separator is as great as the cover
 have hrm : ∀ x, x ∈ rowsL r1 → ∃ i v : Nat, x = (i : Int) ∧ tr r1 i ∧ (bor adj side 0)[i]? = some (v : Int) ∧ p0 x = (v : Int) ∧ v < adj.length ∧ sd side v = 0 := by
  intro x hx
  obtain ⟨x1, x2, x3⟩ := rowsL_mem.1 hx
  obtain ⟨v, v1, v2, v3, v4⟩ := hp0 x.toNat (by omega)
  exact ⟨x.toNat, v, by omega, x3, v1, by rw [← v2]; congr 1; omega, v3, v4⟩
 have hcm : ∀ x, x ∈ colsL c1 → ∃ j v : Nat, x = (j : Int) ∧ c1[j]? = some false ∧ (bor adj side 1)[j]? = some (v : Int) ∧ p1 x = (v : Int) ∧ v < adj.length ∧ sd side v = 1 := by
  intro x hx
  obtain ⟨x1, x2, x3⟩ := colsL_mem.1 hx
  obtain ⟨v, v1, v2, v3, v4⟩ := hp1 x.toNat (by omega)
  refine ⟨x.toNat, v, by omega, ?_, v1, by rw [← v2]; congr 1; omega, v3, v4⟩
  unfold tr at x3
  rw [List.getElem?_eq_getElem x2] at x3 ⊢
  congr 1
  cases h4 : c1[x.toNat] <;> simp_all
 have hS1 : (lS n ch).length ≤ ((rowsL r1).map p0 ++ (colsL c1).map p1).length := by
  refine subG (asc_nodup (lS_vl n ch).asc) fun x hx => ?_
  obtain ⟨x1, x2, x3⟩ := lS_mem.1 hx
  rw [List.mem_append]
  rcases (hch _).1 x3 with ⟨i, i1, i2⟩ | ⟨j, j1, j2⟩
  ·left
   have hil := (List.getElem?_eq_some_iff.1 i1).1
   refine List.mem_map.2 ⟨(i : Int), rowsL_mem.2 ⟨by omega, by simpa using hil, by simpa using i1⟩, ?_⟩
   simp only [p0, Int.toNat_natCast, i2, Option.getD_some]
   omega
  ·right
   have hjl := (List.getElem?_eq_some_iff.1 j1).1
   refine List.mem_map.2 ⟨(j : Int), colsL_mem.2 ⟨by omega, by simpa using hjl, ?_⟩, ?_⟩
   ·simp only [Int.toNat_natCast, tr]; rw [j1]; simp
   ·simp only [p1, Int.toNat_natCast, j2, Option.getD_some]
    omega
 have hS2 : ((rowsL r1).map p0 ++ (colsL c1).map p1).length ≤ (lS n ch).length := by
  refine subG ?_ fun x hx => ?_
  ·rw [List.nodup_append]
   refine ⟨nodup_map (rowsL_nd r1) fun x y hx hy he => ?_, nodup_map (colsL_nd c1) fun x y hx hy he => ?_, fun x hx y hy e => ?_⟩
   ·obtain ⟨i, v, rfl, _, i1, i2, _⟩ := hrm x hx
    obtain ⟨i', v', rfl, _, i3, i4, _⟩ := hrm y hy
    have : v = v' := by omega
    subst this
    rw [inj0 i i' _ i1 i3]
   ·obtain ⟨i, v, rfl, _, i1, i2, _⟩ := hcm x hx
    obtain ⟨i', v', rfl, _, i3, i4, _⟩ := hcm y hy
    have : v = v' := by omega
    subst this
    rw [inj1 i i' _ i1 i3]
   ·subst e
    obtain ⟨z, hz, rfl⟩ := List.mem_map.1 hx
    obtain ⟨z', hz', he⟩ := List.mem_map.1 hy
    obtain ⟨i, v, _, _, _, i2, _, i4⟩ := hrm z hz
    obtain ⟨i', v', _, _, _, i6, _, i8⟩ := hcm z' hz'
    have : v = v' := by omega
    subst this
    omega
  ·rcases List.mem_append.1 hx with hx | hx
   ·obtain ⟨z, hz, rfl⟩ := List.mem_map.1 hx
    obtain ⟨i, v, _, h1, h2, i2, i3, i4⟩ := hrm z hz
    rw [i2]
    exact lS_mem.2 ⟨by omega, by simp; omega, by simpa [isS] using (hch v).2 (.inl ⟨i, h1, h2⟩)⟩
   ·obtain ⟨z, hz, rfl⟩ := List.mem_map.1 hx
    obtain ⟨i, v, _, h1, h2, i2, i3, i4⟩ := hcm z hz
    rw [i2]
    exact lS_mem.2 ⟨by omega, by simp; omega, by simpa [isS] using (hch v).2 (.inr ⟨i, h1, h2⟩)⟩
 simp only [List.length_append, List.length_map] at hS1 hS2
 have s1 := hM1.size
 have s2 := hM.size
 -- no matching of the cut is greater than the separator
 have w1 : (prs a n).length ≤ ((rowsL r1).map p0).length + ((colsL c1).map p1).length := by
  obtain ⟨q1, q2, q3⟩ := hM.prs_inj
  refine weak q1 q2 q3 fun p hp => ?_
  obtain ⟨v, u, rfl, hv, hu, _, _, h3⟩ := hM.prs_mem hp
  have h4 := (hE u v).1 h3
  obtain ⟨h5, h6⟩ := ct_bor hG h4
  obtain ⟨i, hi⟩ := at_idx h5
  obtain ⟨j, hj⟩ := at_idx h6
  rcases hM1.covers (in_tab hG h4 hi hj) with h7 | h7
  ·left
   have hil := (List.getElem?_eq_some_iff.1 h7).1
   refine List.mem_map.2 ⟨(i : Int), rowsL_mem.2 ⟨by omega, by simpa using hil, by simpa using h7⟩, ?_⟩
   simp only [p0, Int.toNat_natCast, hi, Option.getD_some]
  ·right
   have hjl := (List.getElem?_eq_some_iff.1 hj).1
   refine List.mem_map.2 ⟨(j : Int), colsL_mem.2 ⟨by omega, by simp; omega, by simpa using h7⟩, ?_⟩
   simp only [p1, Int.toNat_natCast, hj, Option.getD_some]
 -- nor is any of the border greater than the cut's cover
 have w2 : ((prs a1 (bor adj side 1).length).map fun p => (p0 p.1, p1 p.2)).length ≤ (rowsL rows).length + (colsL cols).length := by
  obtain ⟨q1, q2, q3⟩ := hM1.prs_inj
  have hmem : ∀ p, p ∈ prs a1 (bor adj side 1).length → ∃ i j v u : Nat, p = ((i : Int), (j : Int)) ∧ (bor adj side 0)[i]? = some (v : Int) ∧ (bor adj side 1)[j]? = some (u : Int) ∧ p0 p.1 = (v : Int) ∧ p1 p.2 = (u : Int) ∧ Ct adj side v u := by
   intro p hp
   obtain ⟨i, j, rfl, hi, hj, _, _, h3⟩ := hM1.prs_mem hp
   obtain ⟨v, u, h4, h5, h6⟩ := tab_in hG h3
   exact ⟨i, j, v, u, rfl, h4, h5, by simp only [p0, Int.toNat_natCast, h4, Option.getD_some], by simp only [p1, Int.toNat_natCast, h5, Option.getD_some], h6⟩
  refine weak ?_ ?_ ?_ ?_
  ·intro p q hp hq he
   obtain ⟨x, hx, rfl⟩ := List.mem_map.1 hp
   obtain ⟨y, hy, rfl⟩ := List.mem_map.1 hq
   obtain ⟨i, j, v, u, rfl, h1, h2, h3, h4, _⟩ := hmem x hx
   obtain ⟨i', j', v', u', rfl, h5, h6, h7, h8, _⟩ := hmem y hy
   simp only at he h3 h7
   have : v = v' := by omega
   subst this
   have := inj0 i i' _ h1 h5
   subst this
   rw [q1 _ _ hx hy rfl]
  ·intro p q hp hq he
   obtain ⟨x, hx, rfl⟩ := List.mem_map.1 hp
   obtain ⟨y, hy, rfl⟩ := List.mem_map.1 hq
   obtain ⟨i, j, v, u, rfl, h1, h2, h3, h4, _⟩ := hmem x hx
   obtain ⟨i', j', v', u', rfl, h5, h6, h7, h8, _⟩ := hmem y hy
   simp only at he h4 h8
   have : u = u' := by omega
   subst this
   have := inj1 j j' _ h2 h6
   subst this
   rw [q2 _ _ hx hy rfl]
  ·refine nodup_map q3 fun x y hx hy he => ?_
   obtain ⟨i, j, v, u, rfl, h1, h2, h3, h4, _⟩ := hmem x hx
   obtain ⟨i', j', v', u', rfl, h5, h6, h7, h8, _⟩ := hmem y hy
   simp only [Prod.mk.injEq] at he h3 h7
   have : v = v' := by omega
   subst this
   have := inj0 i i' _ h1 h5
   subst this
   exact q1 _ _ hx hy rfl
  ·intro p hp
   obtain ⟨x, hx, rfl⟩ := List.mem_map.1 hp
   obtain ⟨i, j, v, u, rfl, h1, h2, h3, h4, h5⟩ := hmem x hx
   simp only at h3 h4
   obtain ⟨l1, l2⟩ := nbp_lt hG h5.1
   simp only [h3, h4]
   rcases hM.covers ((hE u v).2 h5) with h7 | h7
   ·exact .inl (rowsL_mem.2 ⟨by omega, by simp; omega, by simpa using h7⟩)
   ·exact .inr (colsL_mem.2 ⟨by omega, by simp; omega, by simpa using h7⟩)
 simp only [List.length_map, prs_len] at w1 w2
 omega
end

theorem in_dec {l : List Int} {v : Int} (hl : l.length < 1000000) : sparsekit_In l v = some (decide (v ∈ l)) := by
 refine Ret.eq ?_
 rw [kin_ok hl]
/-- the entries of the first rows of the cut -/
structure Ce (adj : List (List Int)) (side : List Int) (n : Nat) (Q : Nat → Nat → Prop) (L : List (Int × Int × Int)) : Prop where
 m : ∀ e, e ∈ L → ∃ v u : Nat, e = ((v : Int), (u : Int), 0) ∧ v < n ∧ u < n
 q : ∀ v u : Nat, ((v : Int), (u : Int), (0 : Int)) ∈ L ↔ (Ct adj side v u ∧ Q v u)

theorem cut_in {adj : List (List Int)} (hG : Gr adj) (hn : adj.length ≤ 30) {side : List Int} {ch : List Bool} (hs : side.length = adj.length) (h01 : S01 side) (hc : Cov adj side ch) {S : List Int} (hS : S = lS adj.length ch) {A B : List Int} {k : Nat} (hk : k < adj.length) {L : List (Int × Int × Int)} (hL : L.length ≤ 40 * k) (hCe : Ce adj side adj.length (fun v _ => v < k) L) :
  Ret (loop (sparselaw18_DissectSmallest_l77 adj (k : Int) (side, 0) (A, B, S, 0)) (L, 0)) (fun o => ∃ L', o = .inl L' ∧ L'.length ≤ 40 * (k + 1) ∧ Ce adj side adj.length (fun v _ => v < k + 1) L') := by
 have hl : adj[k]? = some adj[k] := List.getElem?_eq_getElem hk
 have hll := hG.len hl
 have hasc := hG.asc k _ hl
 have hrng : ∀ x, x ∈ adj[k] → 0 ≤ x ∧ x < (adj.length : Int) ∧ x ≠ (k : Int) := fun x hx => hG.rng k _ x hl hx
 have hSl : S.length ≤ adj.length := by rw [hS]; exact (lS_vl _ _).len
 have hmem : ∀ u : Nat, nbp adj k u ↔ (u : Int) ∈ adj[k] := fun u => ⟨fun ⟨l, l1, l2⟩ => by rw [hl] at l1; cases l1; exact l2, fun h => ⟨_, hl, h⟩⟩
 refine ret_loop adj[k].length (fun (m : Nat) (t : List (Int × Int × Int) × Int) => t.2 = (m : Int) ∧ t.1.length ≤ 40 * k + m ∧ Ce adj side adj.length (fun v u => v < k ∨ (v = k ∧ (u : Int) ∈ adj[k].take m)) t.1) ⟨rfl, by simpa using hL, hCe.m, fun v u => by rw [hCe.q]; simp⟩ ?_
 rintro m ⟨X, t⟩ hm ⟨e1, e2, hX⟩
 simp only at e1 e2 hX
 subst e1
 unfold sparselaw18_DissectSmallest_l77 sparselaw18_DissectSmallest_j82
 simp only
 rw [bindS (getI_lt hk)]
 by_cases hml : m < adj[k].length
 ·have hw : wa .i64 (m : Int) 1 = ((m + 1 : Nat) : Int) := wa1 (by omega)
  have hx := hrng _ (List.getElem_mem hml)
  obtain ⟨u, hu⟩ : ∃ u : Nat, adj[k][m] = (u : Int) := ⟨adj[k][m].toNat, by omega⟩
  have hmu : adj[k][m]? = some (u : Int) := by rw [List.getElem?_eq_getElem hml, hu]
  have hul : u < adj.length := by omega
  have hnb : nbp adj k u := ⟨_, hl, mem_get hmu⟩
  have hsk : getI side (k : Int) = some (sd side k) := sd_at hs hk
  have hsu : getI side (u : Int) = some (sd side u) := sd_at hs hul
  have hno : ∀ v w : Nat, (v < k ∨ (v = k ∧ (w : Int) ∈ adj[k].take m)) ∨ (v = k ∧ w = u) ↔ (v < k ∨ (v = k ∧ (w : Int) ∈ adj[k].take (m + 1))) := by
   intro v w
   rw [mts hmu]
   constructor
   ·rintro ((h | ⟨h1, h2⟩) | ⟨h1, h2⟩)
    ·exact .inl h
    ·exact .inr ⟨h1, .inl h2⟩
    ·exact .inr ⟨h1, .inr (by omega)⟩
   ·rintro (h | ⟨h1, h2 | h2⟩)
    ·exact .inl (.inl h)
    ·exact .inl (.inr ⟨h1, h2⟩)
    ·exact .inr ⟨h1, by omega⟩
  rw [if_pos (by omega), bindS (getI_lt hk), bindS (getI_lt hml), hu, bindS hsk, hw]
  have hskip : ¬ Ct adj side k u → VQ (fun t' => m < adj[k].length ∧ (fun (m : Nat) (t : List (Int × Int × Int) × Int) => t.2 = (m : Int) ∧ t.1.length ≤ 40 * k + m ∧ Ce adj side adj.length (fun v u => v < k ∨ (v = k ∧ (u : Int) ∈ adj[k].take m)) t.1) (m + 1) t') (fun o => ∃ L', o = .inl L' ∧ L'.length ≤ 40 * (k + 1) ∧ Ce adj side adj.length (fun v _ => v < k + 1) L') (.inl (X, ((m + 1 : Nat) : Int)) : (List (Int × Int × Int) × Int) ⊕ (List (Int × Int × Int) ⊕ Unit)) := by
   intro hct
   rw [vq_l]
   refine ⟨hml, rfl, by simp only; omega, hX.m, fun v w => ?_⟩
   rw [hX.q, ← hno]
   constructor
   ·rintro ⟨h1, h2⟩; exact ⟨h1, .inl h2⟩
   ·rintro ⟨h1, h2 | ⟨rfl, rfl⟩⟩
    ·exact ⟨h1, h2⟩
    ·exact absurd h1 hct
  have h1k := sd01 hs h01 k hk
  have h1u := sd01 hs h01 u hul
  by_cases hk0 : sd side k = 0
  ·rw [if_pos hk0, bindS hsu, obs]
   by_cases hu1 : sd side u = 1
   ·have hct : Ct adj side k u := ⟨hnb, hk0, hu1⟩
    have hcv := cov_cut hG hc hct
    rw [if_neg (by simp [hu1]), bindS (app_small (by simp; omega)), bindS (in_dec (by omega))]
    have hfin : VQ (fun t' => m < adj[k].length ∧ (fun (m : Nat) (t : List (Int × Int × Int) × Int) => t.2 = (m : Int) ∧ t.1.length ≤ 40 * k + m ∧ Ce adj side adj.length (fun v u => v < k ∨ (v = k ∧ (u : Int) ∈ adj[k].take m)) t.1) (m + 1) t') (fun o => ∃ L', o = .inl L' ∧ L'.length ≤ 40 * (k + 1) ∧ Ce adj side adj.length (fun v _ => v < k + 1) L') (.inl (X ++ [((k : Int), (u : Int), (0 : Int))], ((m + 1 : Nat) : Int)) : (List (Int × Int × Int) × Int) ⊕ (List (Int × Int × Int) ⊕ Unit)) := by
     rw [vq_l]
     refine ⟨hml, rfl, by simp only [List.length_append, List.length_singleton]; omega, fun e he => ?_, fun v w => ?_⟩
     ·rcases List.mem_append.1 he with he | he
      ·exact hX.m e he
      ·simp only [List.mem_singleton] at he
       exact ⟨k, u, he, hk, hul⟩
     ·rw [List.mem_append, hX.q, ← hno, List.mem_singleton, Prod.mk.injEq, Prod.mk.injEq]
      constructor
      ·rintro (⟨h1, h2⟩ | ⟨h1, h2, _⟩)
       ·exact ⟨h1, .inl h2⟩
       ·have : v = k := by omega
        have : w = u := by omega
        subst_vars
        exact ⟨hct, .inr ⟨rfl, rfl⟩⟩
      ·rintro ⟨h1, h2 | ⟨rfl, rfl⟩⟩
       ·exact .inl ⟨h1, h2⟩
       ·exact .inr ⟨rfl, rfl, rfl⟩
    by_cases hkS : (k : Int) ∈ S
    ·rw [if_pos (by simpa using hkS), obs, if_neg (by simp), ret_some]
     exact hfin
    ·have huS : (u : Int) ∈ S := by
      rw [hS] at hkS ⊢
      rcases hcv with h | h
      ·exact absurd (lS_mem.2 ⟨by omega, by simpa using hk, by simpa [isS] using h⟩) hkS
      ·exact lS_mem.2 ⟨by omega, by simpa using hul, by simpa [isS] using h⟩
     rw [if_neg (by simpa using hkS), bindS (in_dec (by omega)), obs, if_neg (by simpa using huS), ret_some]
     exact hfin
   ·rw [if_pos (by simp [hu1]), ret_some]
    exact hskip fun h => hu1 h.2.2
  ·rw [if_neg hk0, obs, if_pos rfl, ret_some]
   exact hskip fun h => hk0 h.2.1
 ·rw [if_neg (by omega), ret_some, vq_r]
  refine ⟨X, rfl, by omega, hX.m, fun v w => ?_⟩
  rw [hX.q, take_all (by omega)]
  constructor
  ·rintro ⟨h1, h2 | ⟨h2, h3⟩⟩
   ·exact ⟨h1, by omega⟩
   ·exact ⟨h1, by omega⟩
  ·rintro ⟨h1, h2⟩
   refine ⟨h1, ?_⟩
   by_cases h3 : v = k
   ·subst h3; exact .inr ⟨rfl, (hmem w).1 h1.1⟩
   ·exact .inl (by omega)
theorem cut_out {adj : List (List Int)} (hG : Gr adj) (hn : adj.length ≤ 30) {side : List Int} {ch : List Bool} (hs : side.length = adj.length) (h01 : S01 side) (hc : Cov adj side ch) {S : List Int} (hS : S = lS adj.length ch) {A B : List Int} :
  ∃ L, loop (sparselaw18_DissectSmallest_l55 (adj.length : Int) adj (side, 0) (A, B, S, 0)) ([], 0) = some (.inl L) ∧ L.length ≤ 100000 ∧ Ce adj side adj.length (fun _ _ => True) L := by
 have h1 : Ret (loop (sparselaw18_DissectSmallest_l55 (adj.length : Int) adj (side, 0) (A, B, S, 0)) ([], 0)) (fun o => ∃ L, o = .inl L ∧ L.length ≤ 100000 ∧ Ce adj side adj.length (fun _ _ => True) L) := by
  refine ret_loop adj.length (fun k (t : List (Int × Int × Int) × Int) => t.2 = (k : Int) ∧ t.1.length ≤ 40 * k ∧ Ce adj side adj.length (fun v _ => v < k) t.1) ⟨rfl, by simp, fun e he => by simp at he, fun v u => by simp⟩ ?_
  rintro k ⟨X, t⟩ hk ⟨e1, e2, hX⟩
  simp only at e1 e2 hX
  subst e1
  unfold sparselaw18_DissectSmallest_l55
  simp only
  by_cases hkn : k < adj.length
  ·have hw : wa .i64 (k : Int) 1 = ((k + 1 : Nat) : Int) := wa1 (by omega)
   rw [if_pos (by omega), ret_bind]
   refine ret_call (cut_in hG hn hs h01 hc hS hkn e2 hX) ?_
   rintro o ⟨L', rfl, l1, l2⟩
   simp only
   rw [hw, ret_some, vq_l]
   exact ⟨hkn, rfl, l1, l2⟩
  ·rw [if_neg (by omega), ret_some, vq_r]
   refine ⟨X, rfl, by omega, hX.m, fun v u => ?_⟩
   rw [hX.q]
   constructor
   ·rintro ⟨h1, _⟩; exact ⟨h1, trivial⟩
   ·rintro ⟨h1, _⟩; exact ⟨h1, by have := nbp_lt hG h1.1; omega⟩
 obtain ⟨o, o1, L, rfl, l1, l2⟩ := h1
 exact ⟨L, o1, l1, l2⟩
open Classical in
theorem count_ok {a : List Int} {n : Nat} (hl : a.length = n) (hn : n ≤ 1000) (hr : ∀ (c : Nat) x, a[c]? = some x → x ≠ -1 → 0 ≤ x) (e : Int) : loop (sparselaw18_DissectSmallest_l58 (a, e)) (0, 0) = some ((mcl a n).length : Int) := by
 refine Ret.eq ?_
 refine ret_loop n (fun k (t : Int × Int) => t = (((coll (fun c => a[c]? ≠ some (-1)) k).length : Int), (k : Int))) rfl ?_
 rintro k _ hk rfl
 unfold sparselaw18_DissectSmallest_l58 sparselaw18_DissectSmallest_j62
 simp only
 by_cases hkn : k < n
 ·have hw : wa .i64 (k : Int) 1 = ((k + 1 : Nat) : Int) := wa1 (by omega)
  have hak : a[k]? = some (a[k]'(by omega)) := List.getElem?_eq_getElem (by omega)
  have hcl := coll_len (tm := fun c => a[c]? ≠ some (-1)) k
  have hr1 := hr k _ hak
  rw [if_pos (by omega), bindS (getI_lt (by omega)), hw]
  by_cases h0 : 0 ≤ a[k]'(by omega)
  ·have hw2 : wa .i64 ((coll (fun c => a[c]? ≠ some (-1)) k).length : Int) 1 = (((coll (fun c => a[c]? ≠ some (-1)) k).length + 1 : Nat) : Int) := wa1 (by omega)
   rw [if_pos h0, hw2, ret_some, vq_l]
   refine ⟨hkn, ?_⟩
   rw [coll, if_pos (by rw [hak]; intro h; have := Option.some.inj h; omega), List.length_append]
   rfl
  ·rw [if_neg h0, ret_some, vq_l]
   refine ⟨hkn, ?_⟩
   rw [coll, if_neg, List.append_nil]
   intro h
   exact h0 (hr1 fun h2 => h (by rw [hak, h2]))
 ·rw [if_neg (by omega), ret_some, vq_r, show k = n by omega]
  rfl
theorem zero_fin : matrix_Check_1 0 = some false := by kernel_rfl
theorem dissectSmallest_true (x1 : Int) (x2 : List Int) : sparselaw18_DissectSmallest x1 x2 = some true := by
 unfold sparselaw18_DissectSmallest
 by_cases hc : (90 : Int) < (x2.length : Int)
 ·rw [if_pos hc, awake18]; rfl
 ·rw [if_neg hc]
  obtain ⟨n, q1, q2⟩ := place_ok x1 19 (by omega) (by omega)
  have q1' : sparsekit_Place x1 19 = some (n : Int) := q1
  obtain ⟨b, g1⟩ := graph_ok (n := n) (by omega) x2 (by omega)
  have hG := nbr_gr b n
  have hlen : ((List.range n).map fun k => nbr b k n).length = n := by simp
  generalize ((List.range n).map fun k => nbr b k n) = adj at g1 hG hlen
  subst hlen
  obtain ⟨side, ch, s1, s2⟩ := separate_ok hG (by omega)
  have hP := sep_parts adj.length ch side
  have hl3 := hP.len
  have hS : dissect_Separate adj = some (lA adj.length ch side, lB adj.length ch side, lS adj.length ch, 0) := by
   unfold dissect_Separate
   rw [bindS (graphCheck_ok hG (by omega)), if_pos rfl, bindS s2]
  have hBs : dissect_Bisect adj (List.replicate adj.length 1) (onesE adj) = some (side, 0) := by
   unfold dissect_Bisect
   rw [bindS (checkW_ok (ones_wt hG) (by omega)), if_pos rfl, bindS s1.bs]
   rfl
  have hsl := s1.sl
  obtain ⟨L, c1, c2, c3⟩ := cut_out hG (by omega) hsl s1.s01 s1.cv rfl (A := lA adj.length ch side) (B := lB adj.length ch side)
  have hEn : En adj.length adj.length L := ⟨fun e he => by obtain ⟨v, u, rfl, _, _⟩ := c3.m e he; simp only; omega, fun e he => by obtain ⟨v, u, rfl, _, _⟩ := c3.m e he; simp only; omega, fun e he => by obtain ⟨v, u, rfl, _, _⟩ := c3.m e he; exact zero_fin⟩
  obtain ⟨st, ix, vl, p1, hMv⟩ := pack_ok (by omega) (by omega) c2 hEn
  have hfl := flat_pack adj.length L adj.length
  have hmm : adj.length * adj.length ≤ 30 * 30 := Nat.mul_le_mul (by omega) (by omega)
  have hixl : ix.length ≤ 10000 := by rw [hMv.ixe]; omega
  have hck := matrixCheck_ok hMv (by omega) (by omega) hixl
  have hEd := edges_ok hMv (by omega) (by omega) (adj.length : Int)
  obtain ⟨_, _, a, b', mm, m1, hM⟩ := reachable_of (hMv.kb (by omega)) (by omega) (by omega) rfl rfl hEd
  have hMax : matching_Maximum (adj.length : Int) (adj.length : Int) st ix vl = some (a, 0) := by
   unfold matching_Maximum
   rw [bindS hck, if_pos rfl, bindS m1]
  have hE : ∀ u v, inE (packE adj.length adj.length L) u v ↔ Ct adj side v u := by
   intro u v
   rw [packE_in]
   constructor
   ·rintro ⟨_, _, x, hx⟩
    obtain ⟨v', u', he, _, _⟩ := c3.m _ hx
    simp only [Prod.mk.injEq] at he
    have : v' = v := by omega
    have : u' = u := by omega
    subst_vars
    rw [he.2.2] at hx
    exact ((c3.q v' u').1 hx).1
   ·intro h
    have := nbp_lt hG h.1
    exact ⟨by omega, by omega, 0, (c3.q v u).2 ⟨h, trivial⟩⟩
  have hsz := sizes hG s1.cv rfl hE hM
  have hal := hM.cs.al
  have hcnt := count_ok hal (by omega) (fun c x h1 h2 => (hM.cs.row c x h1 h2).1) (0 : Int)
  have hPm : sparsekit_Perm (lA adj.length ch side ++ lB adj.length ch side ++ lS adj.length ch) (adj.length : Int) = some true := by
   refine perm_true (by omega) (by simp; omega) hP.nd fun x hx => ?_
   rcases List.mem_append.1 hx with hx | hx
   ·rcases List.mem_append.1 hx with hx | hx
    ·exact hP.a.rng x hx
    ·exact hP.b.rng x hx
   ·exact hP.s.rng x hx
  rw [bindS q1', bindS g1, bindS hS, bindS (rones_ok hG (by omega))]
  simp only
  rw [bindS hBs]
  simp only [if_true, decide_true, Bool.not_true]
  rw [obs, if_neg (by simp), obs, hsl]
  simp only [decide_true, Bool.not_true, Bool.false_eq_true, if_false]
  rw [bindS (twinI_ok (by omega)), bindS (app_small (by omega)), bindS (app_small (by simp; omega)), bindS hPm, obs]
  simp only [Bool.not_true, Bool.false_eq_true, if_false]
  rw [bindS c1]
  simp only
  rw [bindS p1]
  simp only
  rw [bindS hMax, bindS hcnt, hsz]
  simp only [decide_true, hal, Bool.and_self, if_true]
  rw [awake18]
  rfl
end Km
