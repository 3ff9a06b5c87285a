/- A small calculus of weakest preconditions for the printed models: what a call returns, rules for each step, one rule for loops. It holds over any program. -/
import Derived.Test.YtcknmegldjnjjaaGreatDoorTm
import Derived.Test.YtcknmegldjnjjaaGreatDoorM8
set_option linter.unusedSimpArgs false
set_option linter.unusedVariables false
namespace Vc
open Sx Go

/-- it returns, and the result is as Q says -/
def Ret {α : Type} (m : Option α) (Q : α → Prop) : Prop := ∃ x, m = some x ∧ Q x
def VQ {τ ρ : Type} (P : τ → Prop) (Q : ρ → Prop) : τ ⊕ ρ → Prop
  | .inl t => P t
  | .inr o => Q o
theorem vq_l {τ ρ : Type} {P : τ → Prop} {Q : ρ → Prop} {t : τ} : VQ P Q (.inl t) = P t := rfl
theorem vq_r {τ ρ : Type} {P : τ → Prop} {Q : ρ → Prop} {t : ρ} : VQ P Q (.inr t) = Q t := rfl
/-- (no unfolding in its proof: the kernel is spared the loops behind it) -/
theorem obs {α β : Type} {x : α} {f : α → Option β} : (some x).bind f = f x := by
  have h : ∀ e : Option α, e = some x → e.bind f = f x := by rintro _ rfl; rfl
  exact h _ rfl
theorem ret_some {α : Type} {x : α} {Q : α → Prop} : Ret (some x) Q = Q x := by simp [Ret]
theorem ret_none {α : Type} {Q : α → Prop} : Ret none Q = False := by simp [Ret]
theorem ret_bind {α β : Type} {m : Option α} {f : α → Option β} {Q : β → Prop} : Ret (m.bind f) Q = Ret m (fun x => Ret (f x) Q) := by
  cases m <;> simp [Ret]
theorem ret_if {α : Type} {c : Prop} [Decidable c] {a b : Option α} {Q : α → Prop} : Ret (if c then a else b) Q = ((c → Ret a Q) ∧ (¬ c → Ret b Q)) := by
  split <;> simp_all
theorem ret_get {α : Type} {l : List α} {i : Int} {Q : α → Prop} : Ret (getI l i) Q = (0 ≤ i ∧ i < l.length ∧ ∀ x, l[i.toNat]? = some x → Q x) := by
  cases i with
  | ofNat k =>
    simp only [Ret, getI]
    apply propext
    constructor
    · rintro ⟨x, h1, h2⟩
      have := (List.getElem?_eq_some_iff.1 h1).1
      refine ⟨Int.natCast_nonneg k, by simpa using this, fun y hy => ?_⟩
      have : l[k]? = some y := hy
      rw [h1] at this; cases this; exact h2
    · rintro ⟨_, h1, h2⟩
      have h1' : k < l.length := by simpa using h1
      exact ⟨l[k], by simp [h1'], h2 _ (by simp [h1'])⟩
  | negSucc k => simp only [Ret, getI]; apply propext; constructor; rintro ⟨x, h, _⟩; cases h; rintro ⟨h, _⟩; omega
theorem ret_set {α : Type} {l : List α} {i : Int} {z : α} {Q : List α → Prop} : Ret (setI l i z) Q = (0 ≤ i ∧ i < l.length ∧ Q (l.set i.toNat z)) := by
  cases i with
  | ofNat k =>
    simp only [Ret, setI]
    by_cases h : k < l.length
    · simp [h]
    · simp [h]
  | negSucc k => simp only [Ret, setI]; apply propext; constructor; rintro ⟨x, h, _⟩; cases h; rintro ⟨h, _⟩; omega
theorem ret_app {α : Type} {l m : List α} {Q : List α → Prop} : Ret (app l m) Q = (l.length + m.length ≤ 1099511627776 ∧ Q (l ++ m)) := by
  unfold app BIG Ret
  by_cases h : ((l.length + m.length : Nat) : Int) ≤ 1099511627776
  · rw [if_pos h]; simp; omega
  · rw [if_neg h]; simp; omega
theorem ret_mkL {α : Type} {z : α} {n : Int} {Q : List α → Prop} : Ret (mkL z n) Q = (0 ≤ n ∧ n ≤ 1099511627776 ∧ Q (List.replicate n.toNat z)) := by
  unfold mkL BIG Ret
  by_cases h : 0 ≤ n ∧ n ≤ 1099511627776
  · rw [if_pos h]; simp [h]
  · rw [if_neg h]; simp; omega
theorem ret_sli {α : Type} {l : List α} {lo hi : Int} {Q : List α → Prop} : Ret (sli l lo hi) Q = (0 ≤ lo ∧ lo ≤ hi ∧ hi ≤ l.length ∧ Q ((l.take hi.toNat).drop lo.toNat)) := by
  unfold sli subL Ret
  by_cases h : 0 ≤ lo ∧ lo ≤ hi ∧ hi ≤ l.length
  · rw [if_pos h]; simp [h]
  · rw [if_neg h]; simp; omega
theorem ret_wr {x y : Int} {Q : Int → Prop} : Ret (wr x y) Q = (y ≠ 0 ∧ Q (x.tmod y)) := by
  unfold wr Ret
  by_cases h : y = 0
  · simp [h]
  · simp [h]
theorem ret_wq {k : IntKind} {x y : Int} {Q : Int → Prop} : Ret (wq k x y) Q = (y ≠ 0 ∧ Q (k.wrap (x.tdiv y))) := by
  unfold wq Ret
  by_cases h : y = 0
  · simp [h]
  · simp [h]

theorem Ret.mono {α : Type} {m : Option α} {P Q : α → Prop} (h : Ret m P) (h' : ∀ x, P x → Q x) : Ret m Q := by
  obtain ⟨x, h1, h2⟩ := h; exact ⟨x, h1, h' x h2⟩
theorem ret_of {α : Type} {m : Option α} {x : α} (h : m = some x) {Q : α → Prop} : Ret m Q = Q x := by rw [h, ret_some]
theorem Ret.eq {α : Type} {m : Option α} {x : α} (h : Ret m (fun y => y = x)) : m = some x := by
  obtain ⟨y, h1, h2⟩ := h; rw [h1, h2]
/-- a call, by its contract -/
theorem ret_call {α : Type} {m : Option α} {P Q : α → Prop} (h : Ret m P) (h' : ∀ x, P x → Q x) : Ret m Q := h.mono h'

/-- a loop: k counts the rounds -/
theorem ret_loop {τ ρ : Type} {step : τ → Option (τ ⊕ ρ)} {Post : ρ → Prop} (n : Nat) (I : Nat → τ → Prop) {s : τ} (h0 : I 0 s)
    (h : ∀ k t, k ≤ n → I k t → Ret (step t) (VQ (fun t' => k < n ∧ I (k + 1) t') Post)) (hn : n < 1000000000 := by omega) : Ret (loop step s) Post := by
  have key : ∀ (m k : Nat) (t : τ) (fuel : Nat), k + m = n → m < fuel → I k t → Ret (loopN step fuel t) Post := by
    intro m
    induction m with
    | zero =>
      intro k t fuel hk hf hI
      obtain ⟨r, h1, h2⟩ := h k t (by omega) hI
      cases fuel with
      | zero => omega
      | succ fuel =>
        cases r with
        | inl t' => exact absurd h2.1 (by omega)
        | inr o => exact ⟨o, by simp [loopN, h1], h2⟩
    | succ m ih =>
      intro k t fuel hk hf hI
      obtain ⟨r, h1, h2⟩ := h k t (by omega) hI
      cases fuel with
      | zero => omega
      | succ fuel =>
        cases r with
        | inl t' =>
          obtain ⟨o, h3, h4⟩ := ih (k + 1) t' fuel (by omega) (by omega) h2.2
          exact ⟨o, by simp [loopN, h1, h3], h4⟩
        | inr o => exact ⟨o, by simp [loopN, h1], h2⟩
  exact key n 0 s FUEL (by omega) (by unfold FUEL; omega) h0

theorem wa_i {x y : Int} (h1 : -9223372036854775808 ≤ x + y) (h2 : x + y ≤ 9223372036854775807) : wa .i64 x y = x + y := IntWalk.i64_in _ ⟨h1, h2⟩
theorem ws_i {x y : Int} (h1 : -9223372036854775808 ≤ x - y) (h2 : x - y ≤ 9223372036854775807) : ws .i64 x y = x - y := IntWalk.i64_in _ ⟨h1, h2⟩
theorem wm_i {x y : Int} (h1 : -9223372036854775808 ≤ x * y) (h2 : x * y ≤ 9223372036854775807) : wm .i64 x y = x * y := IntWalk.i64_in _ ⟨h1, h2⟩
attribute [grind =] wa_i ws_i

theorem mts {α : Type} {l : List α} {k : Nat} {x y : α} (h : l[k]? = some x) : y ∈ l.take (k + 1) ↔ y ∈ l.take k ∨ y = x := by
  simp [List.take_add_one, h]
theorem mts2 {α : Type} {l : List α} {k : Nat} {y : α} : y ∈ l.take (k + 1) ↔ y ∈ l.take k ∨ l[k]? = some y := by
  cases h : l[k]? with
  | none => simp [List.take_add_one, h]
  | some x => simp [List.take_add_one, h, eq_comm]
attribute [grind =] mts2
theorem tn_cast {w : Int} : 0 ≤ w → (w.toNat : Int) = w := fun h => Int.toNat_of_nonneg h
attribute [grind! .] tn_cast
theorem tks {α : Type} {l : List α} {k : Nat} {x : α} (h : l[k]? = some x) : l.take (k + 1) = l.take k ++ [x] := by
  simp [List.take_add_one, h]
theorem mem_get {α : Type} {l : List α} {k : Nat} {x : α} (h : l[k]? = some x) : x ∈ l := List.mem_of_getElem? h
attribute [grind →] mem_get
theorem take_all {α : Type} {l : List α} {k : Nat} (h : l.length ≤ k) : l.take k = l := List.take_of_length_le h
end Vc
/- Plain facts on loops, lists and bounded integers, for laws over models. -/
namespace Pl
open Sx Go

theorem getI_cast {α : Type} (l : List α) (k : Nat) : getI l (k : Int) = l[k]? := rfl
theorem setI_cast {α : Type} (l : List α) (k : Nat) (z : α) : setI l (k : Int) z = if k < l.length then some (l.set k z) else none := rfl
theorem setI_lt {α : Type} {l : List α} {k : Nat} {z : α} (h : k < l.length) : setI l (k : Int) z = some (l.set k z) := by rw [setI_cast, if_pos h]
theorem getI_lt {α : Type} {l : List α} {k : Nat} (h : k < l.length) : getI l (k : Int) = some l[k] := by rw [getI_cast]; simp [h]
theorem getI_of {α : Type} {l : List α} {q : Int} {z : α} (hq : 0 ≤ q) (h : l[q.toNat]? = some z) : getI l q = some z := by
  obtain ⟨k, rfl⟩ := Int.eq_ofNat_of_zero_le hq
  rw [getI_cast]; simpa using h
theorem setI_of {α : Type} {l : List α} {q : Int} {z : α} (hq : 0 ≤ q) (h : q.toNat < l.length) : setI l q z = some (l.set q.toNat z) := by
  obtain ⟨k, rfl⟩ := Int.eq_ofNat_of_zero_le hq
  rw [setI_lt (by simpa using h)]; simp
theorem app_small {α : Type} {l m : List α} (h : l.length + m.length ≤ 1099511627776) : app l m = some (l ++ m) := by
  unfold app BIG; rw [if_pos (by omega)]
theorem mkL_nat {α : Type} (z : α) (n : Nat) (h : n ≤ 1099511627776) : mkL z (n : Int) = some (List.replicate n z) := by
  unfold mkL BIG; rw [if_pos (by omega)]; simp
def InW (n : Int) : Prop := -9223372036854775808 ≤ n ∧ n ≤ 9223372036854775807
theorem wa_in {x y : Int} (h : InW (x + y)) : wa .i64 x y = x + y := IntWalk.i64_in _ h
theorem ws_in {x y : Int} (h : InW (x - y)) : ws .i64 x y = x - y := IntWalk.i64_in _ h
theorem wm_in {x y : Int} (h : InW (x * y)) : wm .i64 x y = x * y := IntWalk.i64_in _ h
theorem wa1 {k : Nat} (h : k < 4611686018427387904) : wa .i64 (k : Int) 1 = ((k + 1 : Nat) : Int) := by rw [wa_in (by constructor <;> omega)]; rfl

/-- a loop that counts -/
theorem forG {τ σ ρ : Type} {step : τ → Option (τ ⊕ ρ)} (mk : Nat → σ → τ) (n : Nat) (hn : n < 1000000000) (I : Nat → σ → Prop) (Post : ρ → Prop) {s0 : σ} (h0 : I 0 s0)
    (hstep : ∀ k s, k < n → I k s → (∃ s', step (mk k s) = some (.inl (mk (k + 1) s')) ∧ I (k + 1) s') ∨ (∃ o, step (mk k s) = some (.inr o) ∧ Post o))
    (hend : ∀ s, I n s → ∃ o, step (mk n s) = some (.inr o) ∧ Post o) : ∃ o, loop step (mk 0 s0) = some o ∧ Post o := by
  have key : ∀ (m k : Nat) (s : σ) (fuel : Nat), k + m = n → m < fuel → I k s → ∃ o, loopN step fuel (mk k s) = some o ∧ Post o := by
    intro m
    induction m with
    | zero =>
      intro k s fuel hk hf hI
      obtain rfl : k = n := by omega
      obtain ⟨o, h1, h2⟩ := hend s hI
      cases fuel with
      | zero => omega
      | succ fuel => exact ⟨o, by simp [loopN, h1], h2⟩
    | succ m ih =>
      intro k s fuel hk hf hI
      cases fuel with
      | zero => omega
      | succ fuel =>
        rcases hstep k s (by omega) hI with ⟨s', h1, h2⟩ | ⟨o, h1, h2⟩
        · obtain ⟨o, h3, h4⟩ := ih (k + 1) s' fuel (by omega) (by omega) h2
          exact ⟨o, by simp [loopN, h1, h3], h4⟩
        · exact ⟨o, by simp [loopN, h1], h2⟩
  exact key n 0 s0 FUEL (by omega) (by unfold FUEL; omega) h0

/-- a loop with a measure -/
theorem whileG {τ ρ : Type} {step : τ → Option (τ ⊕ ρ)} (I : τ → Prop) (Post : ρ → Prop) (μ : τ → Nat) {s : τ} (hs : I s) (hμ : μ s < 1000000000)
    (h : ∀ s, I s → (∃ s', step s = some (.inl s') ∧ I s' ∧ μ s' < μ s) ∨ (∃ o, step s = some (.inr o) ∧ Post o)) : ∃ o, loop step s = some o ∧ Post o := by
  refine loop_inv I Post μ hs (by unfold FUEL; omega) fun s hI => ?_
  rcases h s hI with ⟨s', h1, h2, h3⟩ | ⟨o, h1, h2⟩
  · exact ⟨_, h1, h2, h3⟩
  · exact ⟨_, h1, h2⟩

theorem bindS {α β : Type} {e : Option α} {f : α → Option β} {x : α} (h : e = some x) : e.bind f = f x := by rw [h]; rfl
theorem take_succ' {α : Type} {l : List α} {k : Nat} (h : k < l.length) : l.take (k + 1) = l.take k ++ [l[k]] := by
  rw [List.take_succ_eq_append_getElem h]
end Pl
/- Place: a number below a bound; lists without repeats. (For seats without the texts of the forests.) -/
namespace Pl
open Sx Go M

theorem place_ok (x : Int) (m : Nat) (h0 : 0 < m) (h1 : m < 1000000) : ∃ z : Nat, sparsekit_Place x (m : Int) = some (z : Int) ∧ z < m := by
  have hx : 0 ≤ wc .u64 x ∧ wc .u64 x < 18446744073709551616 := by unfold wc; rw [IntKind.wrap_u64]; omega
  have hm : wc .u64 (m : Int) = (m : Int) := IntWalk.u64_in _ (by omega)
  have h2 : (wc .u64 x).tmod (m : Int) = (wc .u64 x) % (m : Int) := Int.tmod_eq_emod_of_nonneg hx.1
  have h3 := Int.emod_nonneg (wc .u64 x) (show (m : Int) ≠ 0 by omega)
  have h4 := Int.emod_lt_of_pos (wc .u64 x) (show (0 : Int) < m by omega)
  unfold sparsekit_Place wr
  rw [hm, if_neg (by omega), h2]
  refine ⟨((wc .u64 x) % (m : Int)).toNat, ?_, by omega⟩
  show some (wc .i64 _) = _
  have h5 : wc .i64 ((wc .u64 x) % (m : Int)) = (wc .u64 x) % (m : Int) := IntWalk.i64_in _ (by omega)
  rw [h5]; congr 1; omega

theorem place_r (x m : Int) (h0 : 0 < m) (h1 : m < 1000000) : ∃ z : Int, sparsekit_Place x m = some z ∧ 0 ≤ z ∧ z < m := by
  obtain ⟨z, h2, h3⟩ := place_ok x m.toNat (by omega) (by omega)
  rw [show ((m.toNat : Nat) : Int) = m by omega] at h2
  exact ⟨z, h2, by omega, by omega⟩

theorem nodup_inj {L : List Int} (h : L.Nodup) {i j : Nat} {hi : i < L.length} {hj : j < L.length} (he : L[i] = L[j]) : i = j := by
  have h1 := List.pairwise_iff_getElem.1 h
  by_cases hij : i = j
  · exact hij
  · rcases Nat.lt_or_gt_of_ne hij with h2 | h2
    · exact absurd he (h1 i j hi hj h2)
    · exact absurd he.symm (h1 j i hj hi h2)
theorem nodup_take {L : List Int} (h : L.Nodup) {k : Nat} (hk : k < L.length) : L[k] ∉ L.take k := by
  intro hm
  rw [List.mem_iff_getElem] at hm
  obtain ⟨i, hi, he⟩ := hm
  rw [List.getElem_take] at he
  have := nodup_inj h he
  simp at hi
  omega

end Pl
/- Graphs that the laws make: the lists of a symmetric table; the program's check and search. -/
namespace Pl
open Sx Go M

/-- neighbour lists of a graph with n nodes -/
structure Gr (adj : List (List Int)) : Prop where
  asc : ∀ (v : Nat) l, adj[v]? = some l → l.Pairwise (· < ·)
  rng : ∀ (v : Nat) l x, adj[v]? = some l → x ∈ l → 0 ≤ x ∧ x < adj.length ∧ x ≠ (v : Int)
  sym : ∀ (v : Nat) l x, adj[v]? = some l → x ∈ l → ∃ m, adj[x.toNat]? = some m ∧ (v : Int) ∈ m

def nbr (b : Nat → Nat → Bool) (k : Nat) : Nat → List Int
  | 0 => []
  | m + 1 => nbr b k m ++ (if k ≠ m ∧ (b k m = true ∨ b m k = true) then [(m : Int)] else [])
theorem nbr_mem {b : Nat → Nat → Bool} {k : Nat} {x : Int} : ∀ m, x ∈ nbr b k m ↔ 0 ≤ x ∧ x.toNat < m ∧ k ≠ x.toNat ∧ (b k x.toNat = true ∨ b x.toNat k = true) := by
  intro m
  induction m with
  | zero => simp [nbr]
  | succ m ih =>
    rw [nbr, List.mem_append, ih]
    constructor
    · rintro (h | h)
      · exact ⟨h.1, by omega, h.2.2⟩
      · split at h
        · rename_i hc
          simp at h; subst h
          exact ⟨by omega, by omega, by simpa using hc⟩
        · simp at h
    · rintro ⟨h1, h2, h3⟩
      by_cases hx : x.toNat = m
      · right
        rw [hx] at h3
        rw [if_pos h3]
        simp; omega
      · exact .inl ⟨h1, by omega, h3⟩
theorem nbr_asc {b : Nat → Nat → Bool} {k : Nat} : ∀ m, (nbr b k m).Pairwise (· < ·) := by
  intro m
  induction m with
  | zero => exact .nil
  | succ m ih =>
    rw [nbr, List.pairwise_append]
    refine ⟨ih, ?_, ?_⟩
    · split <;> simp
    · intro x hx y hy
      have := (nbr_mem m).1 hx
      split at hy
      · simp at hy; omega
      · simp at hy
theorem nbr_len {b : Nat → Nat → Bool} {k : Nat} : ∀ m, (nbr b k m).length ≤ m := by
  intro m
  induction m with
  | zero => simp [nbr]
  | succ m ih => rw [nbr, List.length_append]; split <;> simp <;> omega

/-- a table as a function -/
def Tb (T : List (List Bool)) (n : Nat) (b : Nat → Nat → Bool) : Prop := T.length = n ∧ ∀ i, i < n → ∃ r, T[i]? = some r ∧ r.length = n ∧ ∀ j, j < n → r[j]? = some (b i j)
theorem Tb.get {T : List (List Bool)} {n : Nat} {b : Nat → Nat → Bool} (h : Tb T n b) {i : Nat} (hi : i < n) : ∃ r, getI T (i : Int) = some r ∧ T[i]? = some r ∧ r.length = n ∧ (∀ j : Nat, j < n → getI r (j : Int) = some (b i j)) := by
  obtain ⟨r, h1, h2, h3⟩ := h.2 i hi
  exact ⟨r, h1, h1, h2, fun j hj => h3 j hj⟩
theorem Tb.set {T : List (List Bool)} {n : Nat} {b : Nat → Nat → Bool} (h : Tb T n b) {i j : Nat} (hi : i < n) {r : List Bool} (hr : T[i]? = some r) : Tb (T.set i (r.set j true)) n (fun a c => if a = i ∧ c = j then true else b a c) := by
  refine ⟨by simp [h.1], fun a ha => ?_⟩
  by_cases hai : a = i
  · subst hai
    obtain ⟨r', h1, h2, h3⟩ := h.2 a ha
    rw [hr] at h1; cases h1
    refine ⟨r.set j true, by rw [List.getElem?_set, if_pos rfl, if_pos (by rw [h.1]; exact ha)], by simp [h2], fun c hc => ?_⟩
    show _ = some (if a = a ∧ c = j then true else b a c)
    rw [List.getElem?_set]
    by_cases hcj : j = c
    · subst hcj
      rw [if_pos rfl, if_pos (by omega), if_pos ⟨rfl, rfl⟩]
    · rw [if_neg hcj, if_neg (by omega), h3 c hc]
  · obtain ⟨r', h1, h2, h3⟩ := h.2 a ha
    refine ⟨r', by rw [List.getElem?_set, if_neg (by omega), h1], h2, fun c hc => ?_⟩
    show _ = some (if a = i ∧ c = j then true else b a c)
    rw [if_neg (by omega), h3 c hc]

theorem nbr_gr (b : Nat → Nat → Bool) (n : Nat) : Gr ((List.range n).map fun k => nbr b k n) := by
  have hg : ∀ (v : Nat) l, ((List.range n).map fun k => nbr b k n)[v]? = some l → v < n ∧ l = nbr b v n := by
    intro v l h
    have hv : v < n := by have := (List.getElem?_eq_some_iff.1 h).1; simpa using this
    refine ⟨hv, ?_⟩
    simp [hv] at h; exact h.symm
  refine ⟨?_, ?_, ?_⟩
  · intro v l h
    obtain ⟨_, rfl⟩ := hg v l h
    exact nbr_asc n
  · intro v l x h hx
    obtain ⟨hv, rfl⟩ := hg v l h
    have := (nbr_mem n).1 hx
    simp only [List.length_map, List.length_range]
    omega
  · intro v l x h hx
    obtain ⟨hv, rfl⟩ := hg v l h
    have hm := (nbr_mem n).1 hx
    refine ⟨nbr b x.toNat n, by simp [hm.2.1], (nbr_mem n).2 ⟨by omega, by simpa using hv, by simp; omega, ?_⟩⟩
    simp only [Int.toNat_natCast]
    exact hm.2.2.2.symm

theorem blank (n : Nat) : Tb (List.replicate n (List.replicate n false)) n (fun _ _ => false) :=
  ⟨by simp, fun i hi => ⟨List.replicate n false, by simp [hi], by simp, fun j hj => by simp [hj]⟩⟩

end Pl
/- The search in an ascending list; the program's check of a graph holds for a graph. -/
namespace Pl
open Sx Go M

theorem isNaN_f (x : Int) : slices_isNaN_int x = some false := by unfold slices_isNaN_int; simp
theorem less_ok (x y : Int) : cmp_Less_int x y = some (decide (x < y)) := by
  unfold cmp_Less_int cmp_isNaN_int; simp

theorem asc_get {l : List Int} (h : l.Pairwise (· < ·)) {i j : Nat} (hj : j < l.length) (hij : i < j) : l[i] < l[j] :=
  List.pairwise_iff_getElem.1 h i j (by omega) hj hij

theorem mid_ok (a b : Nat) (h : a < b) (hb : b < 1000000) : wc .i64 (wsrc .u64 (wc .u64 (wa .i64 (a : Int) (b : Int))) 1) = (((a + b) / 2 : Nat) : Int) := by
  rw [wa_in (by constructor <;> omega)]
  have h1 : wc .u64 ((a : Int) + (b : Int)) = (a : Int) + (b : Int) := IntWalk.u64_in _ (by omega)
  rw [h1]
  have h2 : wsrc .u64 ((a : Int) + (b : Int)) 1 = (((a + b) / 2 : Nat) : Int) := by
    unfold wsrc
    have : (2 : Int) ^ min 1 IntKind.u64.bits = 2 := by rfl
    rw [this, Int.fdiv_eq_ediv_of_nonneg _ (by omega)]
    omega
  rw [h2]
  exact IntWalk.i64_in _ (by omega)

theorem search_ok {l : List Int} (h : l.Pairwise (· < ·)) (hl : l.length < 1000000) (x : Int) : ∃ i, slices_BinarySearch_int l x = some (i, decide (x ∈ l)) := by
  unfold slices_BinarySearch_int
  obtain ⟨o, h1, h2⟩ := whileG (step := slices_BinarySearch_int_l3 l x) (s := (0, (l.length : Int)))
      (fun s => ∃ a b : Nat, s = ((a : Int), (b : Int)) ∧ a ≤ b ∧ b ≤ l.length ∧ (∀ i, ∀ hi : i < l.length, i < a → l[i] < x) ∧ (∀ i, ∀ hi : i < l.length, b ≤ i → x ≤ l[i]))
      (fun o => ∃ a : Nat, o = (a : Int) ∧ a ≤ l.length ∧ (∀ i, ∀ hi : i < l.length, i < a → l[i] < x) ∧ (∀ i, ∀ hi : i < l.length, a ≤ i → x ≤ l[i])) (fun s => (s.2 - s.1).toNat)
      ⟨0, l.length, rfl, by omega, by omega, fun i _ h => by omega, fun i _ h => by omega⟩ (by simp only; omega) (by
      rintro s ⟨a, b, rfl, hab, hb, ha1, hb1⟩
      unfold slices_BinarySearch_int_l3
      simp only
      by_cases hc : a < b
      · have hm : (a + b) / 2 < l.length := by omega
        rw [if_pos (by omega), mid_ok a b hc (by omega), bindS (getI_lt hm), bindS (less_ok _ _)]
        unfold slices_BinarySearch_int_j11
        by_cases hlt : l[(a + b) / 2] < x
        · rw [if_pos (by simpa using hlt), wa1 (by omega)]
          refine .inl ⟨_, rfl, ⟨(a + b) / 2 + 1, b, rfl, by omega, hb, fun i hi hia => ?_, hb1⟩, by simp only; omega⟩
          by_cases he : i = (a + b) / 2
          · subst he; exact hlt
          · have := asc_get h hm (i := i) (by omega)
            omega
        · rw [if_neg (by simpa using hlt)]
          refine .inl ⟨_, rfl, ⟨a, (a + b) / 2, rfl, by omega, by omega, ha1, fun i hi hia => ?_⟩, by simp only; omega⟩
          by_cases he : i = (a + b) / 2
          · subst he; omega
          · have := asc_get h hi (i := (a + b) / 2) (by omega)
            omega
      · rw [if_neg (by omega)]
        exact .inr ⟨_, rfl, a, rfl, by omega, ha1, fun i hi hia => hb1 i hi (by omega)⟩)
  rw [bindS h1]
  obtain ⟨a, rfl, hal, ha1, ha2⟩ := h2
  by_cases hc : a < l.length
  · rw [if_pos (by omega), bindS (getI_lt hc)]
    by_cases he : l[a] = x
    · rw [if_pos he]
      refine ⟨(a : Int), ?_⟩
      have : x ∈ l := he ▸ List.getElem_mem hc
      simp [this]
    · rw [if_neg he, bindS (getI_lt hc), bindS (isNaN_f _)]
      refine ⟨(a : Int), ?_⟩
      have : x ∉ l := by
        intro hm
        rw [List.mem_iff_getElem] at hm
        obtain ⟨i, hi, hx⟩ := hm
        rcases Nat.lt_trichotomy i a with h3 | h3 | h3
        · have := ha1 i hi h3; omega
        · subst h3; exact he hx
        · have := asc_get h hi h3
          have := ha2 a hc (Nat.le_refl _)
          omega
      simp [this]
  · rw [if_neg (by omega)]
    refine ⟨(a : Int), ?_⟩
    have : x ∉ l := by
      intro hm
      rw [List.mem_iff_getElem] at hm
      obtain ⟨i, hi, hx⟩ := hm
      have := ha1 i hi (by omega); omega
    simp [this]

theorem joined_ok {adj : List (List Int)} (hG : Gr adj) {v : Int} {l : List Int} (hv : getI adj v = some l) (hv0 : 0 ≤ v) (hl : l.length < 1000000) (x : Int) : graph_joined adj v x = some (decide (x ∈ l)) := by
  unfold graph_joined
  rw [bindS hv]
  have hv' : adj[v.toNat]? = some l := by
    obtain ⟨k, rfl⟩ := Int.eq_ofNat_of_zero_le hv0
    exact hv
  obtain ⟨i, h⟩ := search_ok (hG.asc _ _ hv') hl x
  rw [bindS h]

theorem ascending_ok {l : List Int} {n : Nat} (h : l.Pairwise (· < ·)) (hr : ∀ x, x ∈ l → 0 ≤ x ∧ x < n) (hl : l.length < 1000000) : graph_ascending l (n : Int) = some true := by
  unfold graph_ascending
  obtain ⟨o, h1, h2⟩ := forG (step := graph_ascending_l3 l (n : Int)) (fun k (s : Int) => (s, (k : Int))) l.length (by omega) (fun k s => ∀ i, ∀ hi : i < l.length, k ≤ i → s < l[i])
      (fun o => o = .inl ()) (s0 := -1) (fun i hi _ => by have := hr _ (List.getElem_mem hi); omega) (by
        intro k s hk hI
        have h3 := hr _ (List.getElem_mem hk)
        have h4 := hI k hk (Nat.le_refl _)
        unfold graph_ascending_l3
        simp only
        rw [if_pos (by omega), bindS (getI_lt hk), if_neg (by simp; omega), wa1 (by omega)]
        exact .inl ⟨_, rfl, fun i hi hki => asc_get h hi (by omega)⟩) (by
        intro s hI
        unfold graph_ascending_l3
        simp only
        rw [if_neg (by omega)]
        exact ⟨_, rfl, rfl⟩)
  have h1' : loop (graph_ascending_l3 l (n : Int)) (-1, 0) = some o := h1
  rw [bindS h1', h2]

theorem asc_len {l : List Int} {n : Nat} (h : l.Pairwise (· < ·)) (hr : ∀ x, x ∈ l → 0 ≤ x ∧ x < n) : l.length ≤ n := by
  have key : ∀ i, ∀ hi : i < l.length, (i : Int) ≤ l[i] := by
    intro i
    induction i with
    | zero => intro hi; have := hr _ (List.getElem_mem hi); omega
    | succ i ih =>
      intro hi
      have h1 := ih (by omega)
      have h2 := asc_get h hi (i := i) (by omega)
      omega
  by_cases h0 : l.length = 0
  · omega
  · have h1 := key (l.length - 1) (by omega)
    have h2 := hr _ (List.getElem_mem (show l.length - 1 < l.length by omega))
    omega
theorem Gr.len {adj : List (List Int)} (hG : Gr adj) {v : Nat} {l : List Int} (h : adj[v]? = some l) : l.length ≤ adj.length :=
  asc_len (hG.asc v l h) (fun x hx => ⟨(hG.rng v l x h hx).1, (hG.rng v l x h hx).2.1⟩)

theorem graphCheck_ok {adj : List (List Int)} (hG : Gr adj) (hn : adj.length ≤ 200) : graph_Check adj = some 0 := by
  unfold graph_Check
  rw [if_neg (by omega)]
  obtain ⟨o, h1, h2⟩ := forG (step := graph_Check_l3 adj) (fun k (_ : Unit) => (k : Int)) adj.length (by omega) (fun k _ => True)
      (fun o => o = .inl ()) (s0 := ()) trivial (by
        intro k _ hk _
        have hg : adj[k]? = some adj[k] := by simp [hk]
        have hlen := hG.len hg
        have h3 := ascending_ok (n := adj.length) (hG.asc k _ hg) (fun x hx => ⟨(hG.rng k _ x hg hx).1, (hG.rng k _ x hg hx).2.1⟩) (by omega)
        have h4 := joined_ok hG (getI_lt hk) (by omega) (by omega) (k : Int)
        have h5 : (k : Int) ∉ adj[k] := fun hm => (hG.rng k _ _ hg hm).2.2 rfl
        unfold graph_Check_l3
        rw [if_pos (by omega), bindS (getI_lt hk), bindS h3, if_pos rfl, bindS h4]
        simp only [h5, decide_false, Option.bind_some, Bool.false_eq_true, if_false]
        rw [wa1 (by omega)]
        exact .inl ⟨(), rfl, trivial⟩) (by
        intro _ _
        unfold graph_Check_l3
        rw [if_neg (by omega)]
        exact ⟨_, rfl, rfl⟩)
  have h1' : loop (graph_Check_l3 adj) 0 = some o := h1
  rw [bindS h1', h2]
  simp only
  obtain ⟨o, h1, h2⟩ := forG (step := graph_Check_l6 adj) (fun k (_ : Unit) => (k : Int)) adj.length (by omega) (fun k _ => True)
      (fun o => o = .inl ()) (s0 := ()) trivial (by
        intro k _ hk _
        have hg : adj[k]? = some adj[k] := by simp [hk]
        have hlen := hG.len hg
        obtain ⟨o, h1, h2⟩ := forG (step := graph_Check_l7 adj[k] adj (k : Int)) (fun j (_ : Unit) => (j : Int)) adj[k].length (by omega) (fun j _ => True)
          (fun o => o = .inl ()) (s0 := ()) trivial (by
            intro j _ hj _
            have hr := hG.rng k _ _ hg (List.getElem_mem hj)
            obtain ⟨m, hm1, hm2⟩ := hG.sym k _ _ hg (List.getElem_mem hj)
            have hml := hG.len hm1
            have h4 := joined_ok hG (getI_of hr.1 hm1) hr.1 (by omega) (k : Int)
            unfold graph_Check_l7
            rw [if_pos (by omega), bindS (getI_lt hj), bindS h4, if_pos (by simpa using hm2), wa1 (by omega)]
            exact .inl ⟨(), rfl, trivial⟩) (by
            intro _ _
            unfold graph_Check_l7
            rw [if_neg (by omega)]
            exact ⟨_, rfl, rfl⟩)
        have h1' : loop (graph_Check_l7 adj[k] adj (k : Int)) 0 = some o := h1
        unfold graph_Check_l6
        rw [if_pos (by omega), bindS (getI_lt hk), bindS h1', h2]
        simp only
        rw [wa1 (by omega)]
        exact .inl ⟨(), rfl, trivial⟩) (by
        intro _ _
        unfold graph_Check_l6
        rw [if_neg (by omega)]
        exact ⟨_, rfl, rfl⟩)
  have h1' : loop (graph_Check_l6 adj) 0 = some o := h1
  rw [bindS h1', h2]
end Pl
/- Tables and comparisons (copied from PtD, PtE, PtF into a name space of their own, for the etree seat). -/
set_option linter.unusedSimpArgs false
set_option linter.unusedVariables false
namespace Pu
open Pl Sx Go M Vc
def Tr (T : List (List Bool)) (n : Nat) (R : Nat → Nat → Prop) : Prop := T.length = n ∧ ∀ i, i < n → ∃ r, T[i]? = some r ∧ r.length = n ∧ ∀ j, j < n → ∃ b : Bool, r[j]? = some b ∧ (b = true ↔ R i j)
theorem Tr.congr {T : List (List Bool)} {n : Nat} {R R' : Nat → Nat → Prop} (h : ∀ i j, i < n → j < n → (R i j ↔ R' i j)) (hT : Tr T n R) : Tr T n R' := by
  refine ⟨hT.1, fun i hi => ?_⟩
  obtain ⟨r, h1, h2, h3⟩ := hT.2 i hi
  exact ⟨r, h1, h2, fun j hj => by obtain ⟨b, h4, h5⟩ := h3 j hj; exact ⟨b, h4, by rw [h5, h i j hi hj]⟩⟩
theorem Tr.blank (n : Nat) : Tr (List.replicate n (List.replicate n false)) n (fun _ _ => False) :=
  ⟨by simp, fun i hi => ⟨List.replicate n false, by simp [hi], by simp, fun j hj => ⟨false, by simp [hj], by simp⟩⟩⟩
theorem Tr.row {T : List (List Bool)} {n : Nat} {R : Nat → Nat → Prop} (hT : Tr T n R) {i : Nat} (hi : i < n) : ∃ r, getI T (i : Int) = some r ∧ T[i]? = some r ∧ r.length = n ∧ ∀ j : Nat, j < n → ∃ b : Bool, getI r (j : Int) = some b ∧ (b = true ↔ R i j) := by
  obtain ⟨r, h1, h2, h3⟩ := hT.2 i hi
  exact ⟨r, h1, h1, h2, fun j hj => h3 j hj⟩
theorem Tr.put {T : List (List Bool)} {n : Nat} {R : Nat → Nat → Prop} (hT : Tr T n R) {i j : Nat} (hi : i < n) {r : List Bool} (hr : T[i]? = some r) {z : Bool} {p : Prop} (hz : z = true ↔ p) : Tr (T.set i (r.set j z)) n (fun a c => (a = i ∧ c = j ∧ p) ∨ (¬ (a = i ∧ c = j) ∧ R a c)) := by
  refine ⟨by simp [hT.1], fun a ha => ?_⟩
  obtain ⟨r', h1, h2, h3⟩ := hT.2 a ha
  by_cases hai : i = a
  · subst hai
    rw [hr] at h1
    obtain rfl := Option.some.inj h1
    refine ⟨r.set j z, by rw [List.getElem?_set, if_pos rfl, if_pos (by rw [hT.1]; exact ha)], by simp [h2], fun c hc => ?_⟩
    obtain ⟨b, h4, h5⟩ := h3 c hc
    rw [List.getElem?_set]
    by_cases hcj : j = c
    · subst hcj
      exact ⟨z, by rw [if_pos rfl, if_pos (by omega)], by rw [hz]; simp⟩
    · exact ⟨b, by rw [if_neg hcj, h4], by rw [h5]; simp [show ¬ c = j from fun h => hcj h.symm]⟩
  · refine ⟨r', by rw [List.getElem?_set, if_neg hai, h1], h2, fun c hc => ?_⟩
    obtain ⟨b, h4, h5⟩ := h3 c hc
    exact ⟨b, h4, by rw [h5]; simp [show ¬ a = i from fun h => hai h.symm]⟩
theorem Tr.on {T : List (List Bool)} {n : Nat} {R : Nat → Nat → Prop} (hT : Tr T n R) {i j : Nat} (hi : i < n) {r : List Bool} (hr : T[i]? = some r) : Tr (T.set i (r.set j true)) n (fun a c => (a = i ∧ c = j) ∨ R a c) := by
  refine Tr.congr (fun a c _ _ => ?_) (hT.put (j := j) hi hr (z := true) (p := True) (by simp))
  by_cases h : a = i ∧ c = j
  · simp [h]
  · simp [h]
open Classical in
theorem Tr.tb {T : List (List Bool)} {n : Nat} {R : Nat → Nat → Prop} (hT : Tr T n R) : Tb T n (fun i j => decide (R i j)) := by
  refine ⟨hT.1, fun i hi => ?_⟩
  obtain ⟨r, h1, h2, h3⟩ := hT.2 i hi
  refine ⟨r, h1, h2, fun j hj => ?_⟩
  obtain ⟨b, h4, h5⟩ := h3 j hj
  rw [h4]
  congr 1
  cases b with
  | true => symm; rw [decide_eq_true_iff]; exact h5.1 rfl
  | false => symm; rw [decide_eq_false_iff_not]; intro h; have := h5.2 h; cases this

theorem kints_ok {l m : List Int} (hl : l.length ≤ 100000) : sparsekit_Ints l m = some (decide (l = m)) := by
  unfold sparsekit_Ints
  by_cases hlen : l.length = m.length
  · rw [if_pos (by omega)]
    refine Ret.eq ?_
    rw [ret_bind]
    refine ret_call (P := fun o => (o = .inl () ∧ l = m) ∨ (o = .inr () ∧ l ≠ m)) ?_ ?_
    · refine ret_loop l.length (fun k (t : Int) => t = (k : Int) ∧ l.take k = m.take k) ⟨rfl, by simp⟩ ?_
      rintro k t hk ⟨rfl, hI⟩
      unfold sparsekit_Ints_l1
      by_cases hkl : k < l.length
      · have e1 : getI l (k : Int) = some l[k] := getI_lt hkl
        have e2 : getI m (k : Int) = some (m[k]'(by omega)) := getI_lt (by omega)
        have e5 : (k : Int) < (l.length : Int) := by omega
        have hw : wa .i64 (k : Int) 1 = ((k + 1 : Nat) : Int) := wa1 (by omega)
        simp only [ret_bind, ret_if, ret_get, ret_set, ret_app, ret_mkL, ret_sli, ret_wr, ret_wq, ret_some, vq_l, vq_r, Int.toNat_natCast, if_true, if_false, obs, decide_false, decide_true, Bool.false_eq_true, Bool.not_true, Bool.not_false, not_true_eq_false, not_false_eq_true, true_implies, false_implies, reduceCtorEq, e1, e2, e5, hw]
        refine ⟨fun h => ⟨hkl, trivial, ?_⟩, fun h => .inr ⟨trivial, fun he => h (by subst he; rfl)⟩⟩
        rw [tks (x := l[k]) (by simp [hkl]), tks (x := m[k]'(by omega)) (by simp [show k < m.length by omega]), hI, h]
      · have e5 : ¬ (k : Int) < (l.length : Int) := by omega
        simp only [ret_bind, ret_if, ret_get, ret_set, ret_app, ret_mkL, ret_sli, ret_wr, ret_wq, ret_some, vq_l, vq_r, Int.toNat_natCast, if_true, if_false, obs, decide_false, decide_true, Bool.false_eq_true, Bool.not_true, Bool.not_false, not_true_eq_false, not_false_eq_true, true_implies, false_implies, reduceCtorEq, e5]
        refine .inl ⟨trivial, ?_⟩
        rwa [take_all (by omega), take_all (by omega)] at hI
    · rintro o (⟨rfl, h⟩ | ⟨rfl, h⟩)
      · rw [ret_some, decide_eq_true h]
      · rw [ret_some, decide_eq_false h]
  · rw [if_neg (by omega), decide_eq_false (fun h => hlen (by rw [h]))]
theorem klists_ok {l m : List (List Int)} (hl : l.length ≤ 100000) (hs : ∀ x, x ∈ l → x.length ≤ 100000) : sparsekit_Lists l m = some (decide (l = m)) := by
  unfold sparsekit_Lists
  by_cases hlen : l.length = m.length
  · rw [if_pos (by omega)]
    refine Ret.eq ?_
    rw [ret_bind]
    refine ret_call (P := fun o => (o = .inl () ∧ l = m) ∨ (o = .inr () ∧ l ≠ m)) ?_ ?_
    · refine ret_loop l.length (fun k (t : Int) => t = (k : Int) ∧ l.take k = m.take k) ⟨rfl, by simp⟩ ?_
      rintro k t hk ⟨rfl, hI⟩
      unfold sparsekit_Lists_l1
      by_cases hkl : k < l.length
      · have e1 : getI l (k : Int) = some l[k] := getI_lt hkl
        have e2 : getI m (k : Int) = some (m[k]'(by omega)) := getI_lt (by omega)
        have e3 := kints_ok (l := l[k]) (m := m[k]'(by omega)) (hs _ (List.getElem_mem hkl))
        have e5 : (k : Int) < (l.length : Int) := by omega
        have hw : wa .i64 (k : Int) 1 = ((k + 1 : Nat) : Int) := wa1 (by omega)
        simp only [ret_bind, ret_if, ret_get, ret_set, ret_app, ret_mkL, ret_sli, ret_wr, ret_wq, ret_some, vq_l, vq_r, Int.toNat_natCast, if_true, if_false, obs, decide_false, decide_true, Bool.false_eq_true, Bool.not_true, Bool.not_false, not_true_eq_false, not_false_eq_true, true_implies, false_implies, reduceCtorEq, e1, e2, e3, e5, hw, decide_eq_true_eq]
        refine ⟨fun h => ⟨hkl, trivial, ?_⟩, fun h => .inr ⟨trivial, fun he => h (by subst he; rfl)⟩⟩
        rw [tks (x := l[k]) (by simp [hkl]), tks (x := m[k]'(by omega)) (by simp [show k < m.length by omega]), hI, h]
      · have e5 : ¬ (k : Int) < (l.length : Int) := by omega
        simp only [ret_bind, ret_if, ret_get, ret_set, ret_app, ret_mkL, ret_sli, ret_wr, ret_wq, ret_some, vq_l, vq_r, Int.toNat_natCast, if_true, if_false, obs, decide_false, decide_true, Bool.false_eq_true, Bool.not_true, Bool.not_false, not_true_eq_false, not_false_eq_true, true_implies, false_implies, reduceCtorEq, e5]
        refine .inl ⟨trivial, ?_⟩
        rwa [take_all (by omega), take_all (by omega)] at hI
    · rintro o (⟨rfl, h⟩ | ⟨rfl, h⟩)
      · rw [ret_some, decide_eq_true h]
      · rw [ret_some, decide_eq_false h]
  · rw [if_neg (by omega), decide_eq_false (fun h => hlen (by rw [h]))]

end Pu
/- Matrices: the check, the entries, and the graphs made from them, by the program and by the document. -/
set_option linter.unusedSimpArgs false
set_option linter.unusedVariables false
namespace Pu
open Pl Sx Go M Vc

/-! ### what a valid matrix is -/
def Sz (x1 x2 : Int) (x5 : List Int) : Prop := (0 ≤ x1 ∧ x1 ≤ 200) ∧ (0 ≤ x2 ∧ x2 ≤ 200) ∧ x5.length ≤ 10000
structure Hd (x1 x2 : Int) (x3 x5 x7 : List Int) : Prop where
  lv : x7.length = x5.length
  ls : (x3.length : Int) = x2 + 1
  s0 : x3[0]? = some 0
  sn : x3[x2.toNat]? = some (x5.length : Int)
def Mo (x3 : List Int) : Prop := ∀ (j : Nat) (a b : Int), x3[j]? = some a → x3[j + 1]? = some b → a ≤ b
def Cl (x1 : Int) (x3 x5 : List Int) : Prop := ∀ (j : Nat) (a b : Int), x3[j]? = some a → x3[j + 1]? = some b → ∀ (k : Nat) (i : Int), a ≤ (k : Int) → (k : Int) < b → x5[k]? = some i → 0 ≤ i ∧ i < x1 ∧ (a < (k : Int) → ∀ i', x5[k - 1]? = some i' → i' < i)
def Fn (f : Int) : Bool := !(decide (wand .u64 (wsrc .u64 f 52) 2047 = 2047))
def Ff (x7 : List Int) : Prop := ∀ f, f ∈ x7 → Fn f = true

theorem mo_le {x3 : List Int} (h : Mo x3) {i j : Nat} (hij : i ≤ j) : ∀ {a b : Int}, x3[i]? = some a → x3[j]? = some b → a ≤ b := by
  induction j with
  | zero =>
    intro a b ha hb
    obtain rfl : i = 0 := by omega
    rw [ha] at hb; have := Option.some.inj hb; omega
  | succ j ih =>
    intro a b ha hb
    by_cases hi : i = j + 1
    · subst hi; rw [ha] at hb; have := Option.some.inj hb; omega
    · have hj : j < x3.length := by have := (List.getElem?_eq_some_iff.1 hb).1; omega
      have hc : x3[j]? = some x3[j] := by simp [hj]
      have h1 := ih (by omega) ha hc
      have h2 := h j _ _ hc hb
      omega

/-- the outcomes of a check -/
def Ot (x1 x2 : Int) (x3 x5 x7 : List Int) (e : Int) : Prop :=
  (e = 6 ∧ ¬ Sz x1 x2 x5) ∨ (e = 1 ∧ Sz x1 x2 x5 ∧ ¬ (Hd x1 x2 x3 x5 x7 ∧ Mo x3 ∧ Cl x1 x3 x5)) ∨
  (e = 4 ∧ Sz x1 x2 x5 ∧ (Hd x1 x2 x3 x5 x7 ∧ Mo x3 ∧ Cl x1 x3 x5) ∧ ¬ Ff x7) ∨ (e = 0 ∧ Sz x1 x2 x5 ∧ (Hd x1 x2 x3 x5 x7 ∧ Mo x3 ∧ Cl x1 x3 x5) ∧ Ff x7)
theorem Ot.uniq {x1 x2 : Int} {x3 x5 x7 : List Int} {e e' : Int} (h : Ot x1 x2 x3 x5 x7 e) (h' : Ot x1 x2 x3 x5 x7 e') : e = e' := by
  rcases h with ⟨rfl, h⟩ | ⟨rfl, h, h1⟩ | ⟨rfl, h, h1, h2⟩ | ⟨rfl, h, h1, h2⟩ <;>
  rcases h' with ⟨rfl, k⟩ | ⟨rfl, k, k1⟩ | ⟨rfl, k, k1, k2⟩ | ⟨rfl, k, k1, k2⟩ <;>
  first | rfl | exact absurd h k | exact absurd k h | exact absurd h1 k1 | exact absurd k1 h1 | exact absurd h2 k2 | exact absurd k2 h2

/-! ### the program's check -/
theorem sorted_p {l : List Int} (hl : l.length ≤ 100000) (hp : 0 < l.length) : Ret (slices_IsSorted_int l) (fun b => (b = true ∧ Mo l) ∨ (b = false ∧ ¬ Mo l)) := by
  unfold slices_IsSorted_int
  have e : ws .i64 (l.length : Int) 1 = ((l.length - 1 : Nat) : Int) := by rw [ws_i (by omega) (by omega)]; omega
  rw [ret_bind, e]
  refine ret_call (P := fun o => (o = .inl () ∧ Mo l) ∨ (o = .inr () ∧ ¬ Mo l)) ?_ ?_
  · refine ret_loop (l.length - 1) (fun k (t : Int) => t = ((l.length - 1 - k : Nat) : Int) ∧ ∀ (j : Nat) (a b : Int), l.length - 1 - k ≤ j → l[j]? = some a → l[j + 1]? = some b → a ≤ b) ⟨rfl, fun j a b h h1 h2 => by have := (List.getElem?_eq_some_iff.1 h2).1; omega⟩ ?_
    rintro k t hk ⟨rfl, hI⟩
    unfold slices_IsSorted_int_l1
    by_cases hkl : k < l.length - 1
    · obtain ⟨m, hm⟩ : ∃ m, l.length - 1 - k = m + 1 := ⟨l.length - 2 - k, by omega⟩
      rw [hm] at hI ⊢
      have e1 : getI l ((m + 1 : Nat) : Int) = some (l[m + 1]'(by omega)) := getI_lt (by omega)
      have e2 : ws .i64 ((m + 1 : Nat) : Int) 1 = (m : Int) := by rw [ws_i (by omega) (by omega)]; omega
      have e3 : getI l (m : Int) = some (l[m]'(by omega)) := getI_lt (by omega)
      have e5 : (0 : Int) < ((m + 1 : Nat) : Int) := by omega
      have hm2 : l.length - 1 - (k + 1) = m := by omega
      simp only [ret_bind, ret_if, ret_get, ret_set, ret_app, ret_mkL, ret_sli, ret_wr, ret_wq, ret_some, vq_l, vq_r, Int.toNat_natCast, if_true, if_false, obs, decide_false, decide_true, Bool.false_eq_true, Bool.not_true, Bool.not_false, not_true_eq_false, not_false_eq_true, true_implies, false_implies, reduceCtorEq, e1, e2, e3, e5, less_ok, decide_eq_true_eq, hm2]
      refine ⟨fun h => .inr ⟨trivial, fun hM => ?_⟩, fun h => ⟨hkl, trivial, fun j a b hj ha hb => ?_⟩⟩
      · have := hM m (l[m]'(by omega)) (l[m + 1]'(by omega)) (by simp [show m < l.length by omega]) (by simp [show m + 1 < l.length by omega])
        omega
      · by_cases hjm : j = m
        · subst hjm
          obtain ⟨h1, rfl⟩ := List.getElem?_eq_some_iff.1 ha
          obtain ⟨h2, rfl⟩ := List.getElem?_eq_some_iff.1 hb
          omega
        · exact hI j a b (by omega) ha hb
    · have e5 : ¬ (0 : Int) < ((l.length - 1 - k : Nat) : Int) := by omega
      simp only [ret_bind, ret_if, ret_get, ret_set, ret_app, ret_mkL, ret_sli, ret_wr, ret_wq, ret_some, vq_l, vq_r, Int.toNat_natCast, if_true, if_false, obs, decide_false, decide_true, Bool.false_eq_true, Bool.not_true, Bool.not_false, not_true_eq_false, not_false_eq_true, true_implies, false_implies, reduceCtorEq, e5]
      exact .inl ⟨trivial, fun j a b ha hb => hI j a b (by omega) ha hb⟩
  · rintro o (⟨rfl, h⟩ | ⟨rfl, h⟩)
    · rw [ret_some]; exact .inl ⟨rfl, h⟩
    · rw [ret_some]; exact .inr ⟨rfl, h⟩

/-- one column, as the program checks it -/
def ColOk (x1 : Int) (c : List Int) : Prop := ∀ (k : Nat) (i : Int), c[k]? = some i → 0 ≤ i ∧ i < x1 ∧ (0 < k → ∀ i', c[k - 1]? = some i' → i' < i)
theorem col_p {x1 : Int} {c : List Int} (hc : c.length ≤ 100000) : Ret (loop (matrix_columns_l27 c x1) (-1, 0)) (fun o => (o = .inl () ∧ ColOk x1 c) ∨ (o = .inr () ∧ ¬ ColOk x1 c)) := by
  refine ret_loop c.length (fun k (t : Int × Int) => t.2 = k ∧ -1 ≤ t.1 ∧ (k = 0 → t.1 = -1) ∧ (0 < k → c[k - 1]? = some t.1) ∧ ∀ (j : Nat) (i : Int), j < k → c[j]? = some i → 0 ≤ i ∧ i < x1 ∧ (0 < j → ∀ i', c[j - 1]? = some i' → i' < i)) ⟨rfl, by simp, fun _ => rfl, fun h => by omega, fun j i h => by omega⟩ ?_
  rintro k ⟨last, i⟩ hk ⟨rfl, h0, h1, h2, h3⟩
  simp only at h0 h1 h2 h3
  unfold matrix_columns_l27
  by_cases hkl : k < c.length
  · obtain ⟨x, hx⟩ : ∃ x, c[k]? = some x := ⟨c[k], by simp [hkl]⟩
    have e1 : getI c (k : Int) = some x := hx
    have e5 : (k : Int) < (c.length : Int) := by omega
    have hw : wa .i64 (k : Int) 1 = ((k + 1 : Nat) : Int) := wa1 (by omega)
    simp only [ret_bind, ret_if, ret_get, ret_set, ret_app, ret_mkL, ret_sli, ret_wr, ret_wq, ret_some, vq_l, vq_r, Int.toNat_natCast, if_true, if_false, obs, decide_false, decide_true, Bool.false_eq_true, Bool.not_true, Bool.not_false, not_true_eq_false, not_false_eq_true, true_implies, false_implies, reduceCtorEq, e1, e5, hw, Bool.or_eq_true, decide_eq_true_eq]
    refine ⟨fun h => .inr ⟨trivial, fun hC => ?_⟩, fun h => ⟨hkl, trivial, by omega, trivial, fun _ => by simpa using hx, fun j i hj hi => ?_⟩⟩
    · have hh := hC k x hx
      rcases h with h | h
      · by_cases hk0 : k = 0
        · have := h1 hk0; omega
        · have := hh.2.2 (by omega) last (h2 (by omega)); omega
      · omega
    · by_cases hjk : j = k
      · subst hjk
        rw [hx] at hi
        obtain rfl := Option.some.inj hi
        refine ⟨?_, by omega, fun hj0 i' hi' => ?_⟩
        · omega
        · rw [h2 hj0] at hi'
          have := Option.some.inj hi'
          omega
      · exact h3 j i (by omega) hi
  · have e5 : ¬ (k : Int) < (c.length : Int) := by omega
    simp only [ret_bind, ret_if, ret_get, ret_set, ret_app, ret_mkL, ret_sli, ret_wr, ret_wq, ret_some, vq_l, vq_r, Int.toNat_natCast, if_true, if_false, obs, decide_false, decide_true, Bool.false_eq_true, Bool.not_true, Bool.not_false, not_true_eq_false, not_false_eq_true, true_implies, false_implies, reduceCtorEq, e5]
    exact .inl ⟨trivial, fun j i hi => h3 j i (by have := (List.getElem?_eq_some_iff.1 hi).1; omega) hi⟩

theorem col_cut {x1 : Int} {x5 : List Int} {a b : Nat} (hab : a ≤ b) (hb : b ≤ x5.length) : ColOk x1 ((x5.take b).drop a) ↔ ∀ (k : Nat) (i : Int), (a : Int) ≤ (k : Int) → (k : Int) < (b : Int) → x5[k]? = some i → 0 ≤ i ∧ i < x1 ∧ ((a : Int) < (k : Int) → ∀ i', x5[k - 1]? = some i' → i' < i) := by
  have hg : ∀ m : Nat, m + a < b → ((x5.take b).drop a)[m]? = x5[m + a]? := by
    intro m hm
    rw [List.getElem?_drop, List.getElem?_take, if_pos (by omega), Nat.add_comm]
  constructor
  · intro h k i h1 h2 hi
    obtain ⟨m, rfl⟩ : ∃ m, k = m + a := ⟨k - a, by omega⟩
    have := h m i (by rw [hg m (by omega)]; exact hi)
    refine ⟨this.1, this.2.1, fun h3 i' hi' => this.2.2 (by omega) i' ?_⟩
    rw [hg (m - 1) (by omega), ← hi']
    congr 1; omega
  · intro h m i hi
    have hm : m + a < b := by
      have := (List.getElem?_eq_some_iff.1 hi).1
      simp at this; omega
    rw [hg m hm] at hi
    have := h (m + a) i (by omega) (by omega) hi
    refine ⟨this.1, this.2.1, fun h3 i' hi' => this.2.2 (by omega) i' ?_⟩
    rw [hg (m - 1) (by omega)] at hi'
    rw [← hi']
    congr 1; omega

theorem columns_p {x1 x2 : Int} {x3 x5 x7 : List Int} (hs : Sz x1 x2 x5) (h3 : x3.length ≤ 100000) (h5 : x5.length ≤ 100000) : Ret (matrix_columns x1 x2 x3 x5 x7) (fun b => (b = true ∧ Hd x1 x2 x3 x5 x7 ∧ Mo x3 ∧ Cl x1 x3 x5) ∨ (b = false ∧ ¬ (Hd x1 x2 x3 x5 x7 ∧ Mo x3 ∧ Cl x1 x3 x5))) := by
  obtain ⟨hs1, hs2, hs3⟩ := hs
  obtain ⟨n, rfl⟩ := Int.eq_ofNat_of_zero_le hs2.1
  have hw : wa .i64 (n : Int) 1 = ((n + 1 : Nat) : Int) := wa1 (by omega)
  unfold matrix_columns
  rw [hw]
  by_cases hl : x3.length = n + 1
  · rw [if_pos (by omega)]
    have hg0 : getI x3 0 = some (x3[0]'(by omega)) := getI_lt (k := 0) (by omega)
    have hgn : getI x3 (n : Int) = some (x3[n]'(by omega)) := getI_lt (by omega)
    rw [bindS hg0]
    by_cases h0 : (x3[0]'(by omega)) = 0
    · rw [decide_eq_true h0]
      simp only [Bool.not_true, Option.bind_some, Bool.false_eq_true, if_false]
      simp only [ret_bind]
      refine ret_call (sorted_p h3 (by omega)) ?_
      rintro b (⟨rfl, hM⟩ | ⟨rfl, hM⟩)
      · simp only [ret_bind, ret_if, ret_get, ret_set, ret_app, ret_mkL, ret_sli, ret_wr, ret_wq, ret_some, vq_l, vq_r, Int.toNat_natCast, if_true, if_false, obs, decide_false, decide_true, Bool.false_eq_true, Bool.not_true, Bool.not_false, not_true_eq_false, not_false_eq_true, true_implies, false_implies, reduceCtorEq, true_and, and_true, false_and, or_false, false_or, implies_true, hgn]
        by_cases hn : (x3[n]'(by omega)) = (x5.length : Int)
        · rw [decide_eq_true hn]
          simp only [ret_bind, ret_if, ret_get, ret_set, ret_app, ret_mkL, ret_sli, ret_wr, ret_wq, ret_some, vq_l, vq_r, Int.toNat_natCast, if_true, if_false, obs, decide_false, decide_true, Bool.false_eq_true, Bool.not_true, Bool.not_false, not_true_eq_false, not_false_eq_true, true_implies, false_implies, reduceCtorEq, true_and, and_true, false_and, or_false, false_or, implies_true]
          by_cases hv : x5.length = x7.length
          · rw [decide_eq_true (show (x5.length : Int) = (x7.length : Int) by omega)]
            simp only [ret_bind, ret_if, ret_get, ret_set, ret_app, ret_mkL, ret_sli, ret_wr, ret_wq, ret_some, vq_l, vq_r, Int.toNat_natCast, if_true, if_false, obs, decide_false, decide_true, Bool.false_eq_true, Bool.not_true, Bool.not_false, not_true_eq_false, not_false_eq_true, true_implies, false_implies, reduceCtorEq, true_and, and_true, false_and, or_false, false_or, implies_true]
            have hH : Hd x1 (n : Int) x3 x5 x7 := ⟨hv.symm, by omega, by simp [h0, show 0 < x3.length by omega], by simp [hn, show n < x3.length by omega]⟩
            refine ret_call (P := fun o => (o = .inl () ∧ Cl x1 x3 x5) ∨ (o = .inr () ∧ ¬ Cl x1 x3 x5)) ?_ ?_
            · refine ret_loop n (fun k (t : Int) => t = (k : Int) ∧ ∀ (j : Nat) (a b : Int), j < k → x3[j]? = some a → x3[j + 1]? = some b → ∀ (k : Nat) (i : Int), a ≤ (k : Int) → (k : Int) < b → x5[k]? = some i → 0 ≤ i ∧ i < x1 ∧ (a < (k : Int) → ∀ i', x5[k - 1]? = some i' → i' < i)) ⟨rfl, fun j a b h => by omega⟩ ?_
              rintro k t hk ⟨rfl, hI⟩
              unfold matrix_columns_l24
              by_cases hkn : k < n
              · have hwk : wa .i64 (k : Int) 1 = ((k + 1 : Nat) : Int) := wa1 (by omega)
                obtain ⟨a, ha⟩ : ∃ a, x3[k]? = some a := ⟨x3[k]'(by omega), by simp [show k < x3.length by omega]⟩
                obtain ⟨b, hb⟩ : ∃ b, x3[k + 1]? = some b := ⟨x3[k + 1]'(by omega), by simp [show k + 1 < x3.length by omega]⟩
                have hab := hM k a b ha hb
                have ha0 := mo_le hM (Nat.zero_le k) hH.s0 ha
                have hbn := mo_le hM (show k + 1 ≤ n by omega) hb (by simpa using hH.sn)
                obtain ⟨a, rfl⟩ := Int.eq_ofNat_of_zero_le ha0
                obtain ⟨b, rfl⟩ := Int.eq_ofNat_of_zero_le (show 0 ≤ b by omega)
                have e1 : getI x3 (k : Int) = some (a : Int) := ha
                have e2 : getI x3 ((k + 1 : Nat) : Int) = some (b : Int) := hb
                have e5 : (k : Int) < (n : Int) := by omega
                simp only [ret_bind, ret_if, ret_get, ret_set, ret_app, ret_mkL, ret_sli, ret_wr, ret_wq, ret_some, vq_l, vq_r, Int.toNat_natCast, if_true, if_false, obs, decide_false, decide_true, Bool.false_eq_true, Bool.not_true, Bool.not_false, not_true_eq_false, not_false_eq_true, true_implies, false_implies, reduceCtorEq, hwk, e1, e2, e5]
                refine ⟨by omega, by omega, by omega, ?_⟩
                refine ret_call (col_p (by simp; omega)) ?_
                rintro o (⟨rfl, hc⟩ | ⟨rfl, hc⟩)
                · simp only [ret_bind, ret_if, ret_get, ret_set, ret_app, ret_mkL, ret_sli, ret_wr, ret_wq, ret_some, vq_l, vq_r, Int.toNat_natCast, if_true, if_false, obs, decide_false, decide_true, Bool.false_eq_true, Bool.not_true, Bool.not_false, not_true_eq_false, not_false_eq_true, true_implies, false_implies, reduceCtorEq]
                  refine ⟨hkn, trivial, fun j a' b' hj ha' hb' => ?_⟩
                  by_cases hjk : j = k
                  · subst hjk
                    rw [ha] at ha'; rw [hb] at hb'
                    obtain rfl := Option.some.inj ha'
                    obtain rfl := Option.some.inj hb'
                    exact (col_cut (by omega) (by omega)).1 hc
                  · exact hI j a' b' (by omega) ha' hb'
                · simp only [ret_bind, ret_if, ret_get, ret_set, ret_app, ret_mkL, ret_sli, ret_wr, ret_wq, ret_some, vq_l, vq_r, Int.toNat_natCast, if_true, if_false, obs, decide_false, decide_true, Bool.false_eq_true, Bool.not_true, Bool.not_false, not_true_eq_false, not_false_eq_true, true_implies, false_implies, reduceCtorEq]
                  exact .inr ⟨trivial, fun hC => hc ((col_cut (by omega) (by omega)).2 (hC k _ _ ha hb))⟩
              · have e5 : ¬ (k : Int) < (n : Int) := by omega
                simp only [ret_bind, ret_if, ret_get, ret_set, ret_app, ret_mkL, ret_sli, ret_wr, ret_wq, ret_some, vq_l, vq_r, Int.toNat_natCast, if_true, if_false, obs, decide_false, decide_true, Bool.false_eq_true, Bool.not_true, Bool.not_false, not_true_eq_false, not_false_eq_true, true_implies, false_implies, reduceCtorEq, e5]
                exact .inl ⟨trivial, fun j a b ha hb => hI j a b (by have := (List.getElem?_eq_some_iff.1 hb).1; omega) ha hb⟩
            · rintro o (⟨rfl, h⟩ | ⟨rfl, h⟩)
              · rw [ret_some]; exact .inl ⟨rfl, hH, hM, h⟩
              · rw [ret_some]; exact .inr ⟨rfl, fun hh => h hh.2.2⟩
          · rw [decide_eq_false (show ¬ (x5.length : Int) = (x7.length : Int) by omega)]
            simp only [ret_bind, ret_if, ret_get, ret_set, ret_app, ret_mkL, ret_sli, ret_wr, ret_wq, ret_some, vq_l, vq_r, Int.toNat_natCast, if_true, if_false, obs, decide_false, decide_true, Bool.false_eq_true, Bool.not_true, Bool.not_false, not_true_eq_false, not_false_eq_true, true_implies, false_implies, reduceCtorEq, true_and, and_true, false_and, or_false, false_or, implies_true]
            exact fun hh => hv hh.1.lv.symm
        · rw [decide_eq_false hn]
          simp only [ret_bind, ret_if, ret_get, ret_set, ret_app, ret_mkL, ret_sli, ret_wr, ret_wq, ret_some, vq_l, vq_r, Int.toNat_natCast, if_true, if_false, obs, decide_false, decide_true, Bool.false_eq_true, Bool.not_true, Bool.not_false, not_true_eq_false, not_false_eq_true, true_implies, false_implies, reduceCtorEq, true_and, and_true, false_and, or_false, false_or, implies_true]
          refine fun hh => hn ?_
          have := hh.1.sn
          simp only [Int.toNat_natCast] at this
          rw [List.getElem?_eq_getElem (by omega)] at this
          exact Option.some.inj this
      · simp only [ret_bind, ret_if, ret_get, ret_set, ret_app, ret_mkL, ret_sli, ret_wr, ret_wq, ret_some, vq_l, vq_r, Int.toNat_natCast, if_true, if_false, obs, decide_false, decide_true, Bool.false_eq_true, Bool.not_true, Bool.not_false, not_true_eq_false, not_false_eq_true, true_implies, false_implies, reduceCtorEq, true_and, and_true, false_and, or_false, false_or, implies_true]
        exact fun hh => hM hh.2.1
    · rw [decide_eq_false h0]
      simp only [ret_bind, ret_if, ret_get, ret_set, ret_app, ret_mkL, ret_sli, ret_wr, ret_wq, ret_some, vq_l, vq_r, Int.toNat_natCast, if_true, if_false, obs, decide_false, decide_true, Bool.false_eq_true, Bool.not_true, Bool.not_false, not_true_eq_false, not_false_eq_true, true_implies, false_implies, reduceCtorEq, true_and, and_true, false_and, or_false, false_or, implies_true]
      refine fun hh => h0 ?_
      have := hh.1.s0
      rw [List.getElem?_eq_getElem (by omega)] at this
      exact Option.some.inj this
  · rw [if_neg (by omega)]
    simp only [ret_bind, ret_if, ret_get, ret_set, ret_app, ret_mkL, ret_sli, ret_wr, ret_wq, ret_some, vq_l, vq_r, Int.toNat_natCast, if_true, if_false, obs, decide_false, decide_true, Bool.false_eq_true, Bool.not_true, Bool.not_false, not_true_eq_false, not_false_eq_true, true_implies, false_implies, reduceCtorEq, true_and, and_true, false_and, or_false, false_or, implies_true]
    exact fun hh => hl (by have := hh.1.ls; omega)

theorem fin_p (f : Int) : float_IsFinite f = some (Fn f) := by
  unfold float_IsFinite float_parts Fn
  have h2 : 0 ≤ wand .u64 (wsrc .u64 f 52) 2047 ∧ wand .u64 (wsrc .u64 f 52) 2047 ≤ 2047 := by
    unfold wand
    have hb : (BitVec.ofInt IntKind.u64.bits (wsrc .u64 f 52) &&& BitVec.ofInt IntKind.u64.bits 2047).toNat ≤ 2047 := by
      rw [BitVec.toNat_and]
      have : (BitVec.ofInt IntKind.u64.bits 2047).toNat = 2047 := by decide
      rw [this]
      exact Nat.and_le_right
    rw [IntKind.wrap_u64]
    omega
  have h3 : wc .i64 (wand .u64 (wsrc .u64 f 52) 2047) = wand .u64 (wsrc .u64 f 52) 2047 := IntWalk.i64_in _ ⟨by omega, by omega⟩
  simp only [Option.bind_some, h3]

theorem contains_p {l : List Int} (hl : l.length ≤ 100000) : Ret (slices_ContainsFunc_apiFloat l) (fun b => (b = true ∧ ¬ Ff l) ∨ (b = false ∧ Ff l)) := by
  unfold slices_ContainsFunc_apiFloat
  rw [ret_bind]
  refine ret_call (P := fun r => (0 ≤ r ∧ ¬ Ff l) ∨ (r = -1 ∧ Ff l)) ?_ ?_
  · unfold slices_IndexFunc_apiFloat
    rw [ret_bind]
    refine ret_call (P := fun o => (o = .inl () ∧ Ff l) ∨ (∃ k : Nat, o = .inr (k : Int) ∧ ¬ Ff l)) ?_ ?_
    · refine ret_loop l.length (fun k (t : Int) => t = (k : Int) ∧ ∀ f, f ∈ l.take k → Fn f = true) ⟨rfl, fun f h => by simp at h⟩ ?_
      rintro k t hk ⟨rfl, hI⟩
      unfold slices_IndexFunc_apiFloat_l1 matrix_Check_1
      by_cases hkl : k < l.length
      · obtain ⟨x, hx⟩ : ∃ x, l[k]? = some x := ⟨l[k], by simp [hkl]⟩
        have e1 : getI l (k : Int) = some x := hx
        have e5 : (k : Int) < (l.length : Int) := by omega
        have hw : wa .i64 (k : Int) 1 = ((k + 1 : Nat) : Int) := wa1 (by omega)
        simp only [ret_bind, ret_if, ret_get, ret_set, ret_app, ret_mkL, ret_sli, ret_wr, ret_wq, ret_some, vq_l, vq_r, Int.toNat_natCast, if_true, if_false, obs, decide_false, decide_true, Bool.false_eq_true, Bool.not_true, Bool.not_false, not_true_eq_false, not_false_eq_true, true_implies, false_implies, reduceCtorEq, e1, e5, hw, fin_p, Bool.not_eq_true']
        refine ⟨fun h => .inr ⟨k, rfl, fun hF => ?_⟩, fun h => ⟨hkl, trivial, fun f hf => ?_⟩⟩
        · have := hF x (mem_get hx); rw [h] at this; cases this
        · rw [mts hx] at hf
          rcases hf with hf | rfl
          · exact hI f hf
          · simpa using h
      · have e5 : ¬ (k : Int) < (l.length : Int) := by omega
        simp only [ret_bind, ret_if, ret_get, ret_set, ret_app, ret_mkL, ret_sli, ret_wr, ret_wq, ret_some, vq_l, vq_r, Int.toNat_natCast, if_true, if_false, obs, decide_false, decide_true, Bool.false_eq_true, Bool.not_true, Bool.not_false, not_true_eq_false, not_false_eq_true, true_implies, false_implies, reduceCtorEq, e5]
        refine .inl ⟨trivial, ?_⟩
        rwa [take_all (by omega)] at hI
    · rintro o (⟨rfl, h⟩ | ⟨k, rfl, h⟩)
      · rw [ret_some]; exact .inr ⟨rfl, h⟩
      · rw [ret_some]; exact .inl ⟨by omega, h⟩
  · rintro r (⟨h, h1⟩ | ⟨rfl, h1⟩)
    · rw [ret_some]; exact .inl ⟨decide_eq_true h, h1⟩
    · rw [ret_some]; exact .inr ⟨rfl, h1⟩

theorem check_p {x1 x2 : Int} {x3 x5 x7 : List Int} (h3 : x3.length ≤ 100000) (h5 : x5.length ≤ 100000) (h7 : x7.length ≤ 100000) : Ret (matrix_Check x1 x2 x3 x5 x7) (Ot x1 x2 x3 x5 x7) := by
  unfold matrix_Check matrix_within
  simp only [Option.bind_some]
  by_cases hs : Sz x1 x2 x5
  · obtain ⟨hs1, hs2, hs3⟩ := id hs
    have a1 : (decide (0 ≤ x1) && decide (x1 ≤ 200)) = true := by simp; omega
    have a2 : (decide (0 ≤ x2) && decide (x2 ≤ 200)) = true := by simp; omega
    have a3 : decide ((10000 : Int) < (x5.length : Int)) = false := decide_eq_false (by omega)
    rw [a1, a2, a3]
    simp only [ret_bind, ret_if, ret_get, ret_set, ret_app, ret_mkL, ret_sli, ret_wr, ret_wq, ret_some, vq_l, vq_r, Int.toNat_natCast, if_true, if_false, obs, decide_false, decide_true, Bool.false_eq_true, Bool.not_true, Bool.not_false, not_true_eq_false, not_false_eq_true, true_implies, false_implies, reduceCtorEq, true_and, and_true, false_and, or_false, false_or, implies_true, Bool.or_self]
    refine ret_call (columns_p hs h3 h5) ?_
    rintro b (⟨rfl, hc⟩ | ⟨rfl, hc⟩)
    · simp only [ret_bind, ret_if, ret_get, ret_set, ret_app, ret_mkL, ret_sli, ret_wr, ret_wq, ret_some, vq_l, vq_r, Int.toNat_natCast, if_true, if_false, obs, decide_false, decide_true, Bool.false_eq_true, Bool.not_true, Bool.not_false, not_true_eq_false, not_false_eq_true, true_implies, false_implies, reduceCtorEq, true_and, and_true, false_and, or_false, false_or, implies_true]
      refine ret_call (contains_p h7) ?_
      rintro b (⟨rfl, hf⟩ | ⟨rfl, hf⟩)
      · simp only [ret_bind, ret_if, ret_get, ret_set, ret_app, ret_mkL, ret_sli, ret_wr, ret_wq, ret_some, vq_l, vq_r, Int.toNat_natCast, if_true, if_false, obs, decide_false, decide_true, Bool.false_eq_true, Bool.not_true, Bool.not_false, not_true_eq_false, not_false_eq_true, true_implies, false_implies, reduceCtorEq, true_and, and_true, false_and, or_false, false_or, implies_true]; exact Or.inr (Or.inr (Or.inl ⟨rfl, hs, hc, hf⟩))
      · simp only [ret_bind, ret_if, ret_get, ret_set, ret_app, ret_mkL, ret_sli, ret_wr, ret_wq, ret_some, vq_l, vq_r, Int.toNat_natCast, if_true, if_false, obs, decide_false, decide_true, Bool.false_eq_true, Bool.not_true, Bool.not_false, not_true_eq_false, not_false_eq_true, true_implies, false_implies, reduceCtorEq, true_and, and_true, false_and, or_false, false_or, implies_true]; exact Or.inr (Or.inr (Or.inr ⟨rfl, hs, hc, hf⟩))
    · simp only [ret_bind, ret_if, ret_get, ret_set, ret_app, ret_mkL, ret_sli, ret_wr, ret_wq, ret_some, vq_l, vq_r, Int.toNat_natCast, if_true, if_false, obs, decide_false, decide_true, Bool.false_eq_true, Bool.not_true, Bool.not_false, not_true_eq_false, not_false_eq_true, true_implies, false_implies, reduceCtorEq, true_and, and_true, false_and, or_false, false_or, implies_true]; exact Or.inr (Or.inl ⟨rfl, hs, hc⟩)
  · have : ∃ b, (if (decide (0 ≤ x1) && decide (x1 ≤ 200)) = true then some (!(decide (0 ≤ x2) && decide (x2 ≤ 200))) else some true) = some b ∧ (b || decide ((10000 : Int) < (x5.length : Int))) = true := by
      by_cases a1 : 0 ≤ x1 ∧ x1 ≤ 200
      · by_cases a2 : 0 ≤ x2 ∧ x2 ≤ 200
        · by_cases a3 : x5.length ≤ 10000
          · exact absurd ⟨a1, a2, a3⟩ hs
          · refine ⟨false, ?_, by simp; omega⟩
            rw [if_pos (by simp; omega)]
            simp; omega
        · refine ⟨true, ?_, rfl⟩
          rw [if_pos (by simp; omega)]
          simp; omega
      · refine ⟨true, ?_, rfl⟩
        rw [if_neg (by simp; omega)]
    obtain ⟨b, h1, h2⟩ := this
    rw [h1]
    simp only [Option.bind_some]
    rw [if_pos h2, ret_some]
    exact Or.inl ⟨rfl, hs⟩

/-! ### the document's check -/
end Pu
/- The document's check of a matrix; the entries by columns; the rows; the table of the normal graph (from PtH, told more of). -/
set_option linter.unusedSimpArgs false
set_option linter.unusedVariables false
namespace Pu
open Pl Sx Go M Vc

/-- a valid matrix -/
structure Va (x1 x2 : Int) (x3 x5 x7 : List Int) : Prop where
  sz : Sz x1 x2 x5
  hd : Hd x1 x2 x3 x5 x7
  mo : Mo x3
  cl : Cl x1 x3 x5
theorem Ot.va {x1 x2 : Int} {x3 x5 x7 : List Int} (h : Ot x1 x2 x3 x5 x7 0) : Va x1 x2 x3 x5 x7 := by
  rcases h with ⟨h, _⟩ | ⟨h, _⟩ | ⟨h, _⟩ | ⟨_, h1, ⟨h2, h3, h4⟩, _⟩
  · cases h
  · cases h
  · cases h
  · exact ⟨h1, h2, h3, h4⟩

/-- by columns, and in a column by rows -/
def LT (e e' : Int × Int × Int) : Prop := e.2.1 < e'.2.1 ∨ (e.2.1 = e'.2.1 ∧ e.1 < e'.1)
def Bd (x1 x2 : Int) (e : Int × Int × Int) : Prop := (0 ≤ e.1 ∧ e.1 < x1) ∧ (0 ≤ e.2.1 ∧ e.2.1 < x2)
theorem lt_snoc {l : List (Int × Int × Int)} {x : Int × Int × Int} (h : l.Pairwise LT) (h2 : ∀ e, e ∈ l → LT e x) : (l ++ [x]).Pairwise LT := by
  rw [List.pairwise_append]
  exact ⟨h, List.pairwise_singleton _ _, fun y hy z hz => by rw [List.mem_singleton] at hz; subst hz; exact h2 y hy⟩

def PR (c : List Int) (m : Nat) (i j : Nat) : Prop := ∃ a b : Nat, b < a ∧ a < m ∧ c[a]? = some (i : Int) ∧ c[b]? = some (j : Int)
def PB (c : List Int) (a q : Nat) (i j : Nat) : Prop := ∃ b : Nat, b < q ∧ c[a]? = some (i : Int) ∧ c[b]? = some (j : Int)
theorem PR.succ {c : List Int} {m i j : Nat} : PR c (m + 1) i j ↔ PR c m i j ∨ PB c m m i j := by
  constructor
  · rintro ⟨a, b, h1, h2, h3, h4⟩
    by_cases ha : a = m
    · subst ha; exact .inr ⟨b, h1, h3, h4⟩
    · exact .inl ⟨a, b, h1, by omega, h3, h4⟩
  · rintro (⟨a, b, h1, h2, h3, h4⟩ | ⟨b, h1, h2, h3⟩)
    · exact ⟨a, b, h1, by omega, h3, h4⟩
    · exact ⟨m, b, h1, by omega, h2, h3⟩
theorem PB.succ {c : List Int} {a q : Nat} {v w : Nat} (ha : c[a]? = some (v : Int)) (hq : c[q]? = some (w : Int)) {i j : Nat} : PB c a (q + 1) i j ↔ PB c a q i j ∨ (i = v ∧ j = w) := by
  constructor
  · rintro ⟨b, h1, h2, h3⟩
    by_cases hb : b = q
    · subst hb
      rw [ha] at h2; rw [hq] at h3
      have := Option.some.inj h2
      have := Option.some.inj h3
      exact .inr ⟨by omega, by omega⟩
    · exact .inl ⟨b, by omega, h2, h3⟩
  · rintro (⟨b, h1, h2, h3⟩ | ⟨rfl, rfl⟩)
    · exact ⟨b, by omega, h2, h3⟩
    · exact ⟨q, by omega, ha, hq⟩

def RR (rows : List (List Int)) (i j : Nat) : Prop := ∃ c, c ∈ rows ∧ PR c c.length i j
theorem RR.succ {rows : List (List Int)} {k : Nat} {c : List Int} (h : rows[k]? = some c) {i j : Nat} : RR (rows.take (k + 1)) i j ↔ RR (rows.take k) i j ∨ PR c c.length i j := by
  unfold RR
  constructor
  · rintro ⟨x, hx, h1⟩
    rw [mts h] at hx
    rcases hx with hx | rfl
    · exact .inl ⟨x, hx, h1⟩
    · exact .inr h1
  · rintro (⟨x, hx, h1⟩ | h1)
    · exact ⟨x, (mts h).2 (.inl hx), h1⟩
    · exact ⟨c, (mts h).2 (.inr rfl), h1⟩

/-- a row's columns -/
def cols (l : List (Int × Int × Int)) (r : Nat) : List Int := (l.filter fun e => decide (e.1 = (r : Int))).map (·.2.1)
def En (l : List (Int × Int × Int)) (r c : Nat) : Prop := ∃ e, e ∈ l ∧ e.1 = (r : Int) ∧ e.2.1 = (c : Int)
theorem cols_mem {l : List (Int × Int × Int)} {r : Nat} {x : Int} : x ∈ cols l r ↔ ∃ e, e ∈ l ∧ e.1 = (r : Int) ∧ e.2.1 = x := by
  simp [cols, and_assoc]
theorem cols_snoc {l : List (Int × Int × Int)} {e : Int × Int × Int} {r : Nat} : cols (l ++ [e]) r = if e.1 = (r : Int) then cols l r ++ [e.2.1] else cols l r := by
  unfold cols
  rw [List.filter_append, List.map_append]
  by_cases h : e.1 = (r : Int)
  · simp [h]
  · simp [h]
theorem cols_len {l : List (Int × Int × Int)} {r : Nat} : (cols l r).length ≤ l.length := by
  unfold cols; rw [List.length_map]; exact List.length_filter_le _ _

/-- who is joined to whom in the normal graph -/
def Nb (l : List (Int × Int × Int)) (i j : Nat) : Prop := i ≠ j ∧ ∃ r, En l r i ∧ En l r j
theorem nb_rows {l : List (Int × Int × Int)} {m n : Nat} (hr : ∀ e, e ∈ l → Bd m n e) {rows : List (List Int)} (h1 : rows.length = m) (h2 : ∀ r, r < m → rows[r]? = some (cols l r)) {i j : Nat} (hij : i ≠ j) : (RR rows i j ∨ RR rows j i) ↔ ∃ r, En l r i ∧ En l r j := by
  have half : ∀ {i j : Nat}, RR rows i j → ∃ r, En l r i ∧ En l r j := by
    rintro i j ⟨c, hc, a, b, hba, ha, hi, hj⟩
    obtain ⟨r, hr', hc'⟩ := List.mem_iff_getElem.1 hc
    have hrm : r < m := by omega
    have := h2 r hrm
    rw [List.getElem?_eq_getElem (by omega), hc'] at this
    obtain rfl := Option.some.inj this
    exact ⟨r, cols_mem.1 (mem_get hi), cols_mem.1 (mem_get hj)⟩
  constructor
  · rintro (h | h)
    · exact half h
    · obtain ⟨r, h3, h4⟩ := half h
      exact ⟨r, h4, h3⟩
  · rintro ⟨r, hi, hj⟩
    have hrm : r < m := by
      obtain ⟨e, he, h3, _⟩ := hi
      have := (hr e he).1
      omega
    have hmem := List.mem_of_getElem? (h2 r hrm)
    obtain ⟨a, ha⟩ := List.mem_iff_getElem?.1 (cols_mem.2 hi)
    obtain ⟨b, hb⟩ := List.mem_iff_getElem?.1 (cols_mem.2 hj)
    have hal := (List.getElem?_eq_some_iff.1 ha).1
    have hbl := (List.getElem?_eq_some_iff.1 hb).1
    by_cases hab : a < b
    · exact .inr ⟨_, hmem, b, a, hab, hbl, hb, ha⟩
    · by_cases hba : b < a
      · exact .inl ⟨_, hmem, a, b, hba, hal, ha, hb⟩
      · obtain rfl : a = b := by omega
        rw [ha] at hb
        have := Option.some.inj hb
        omega

end Pu
/- What a graph of common rows is (as in PuC, for seats without forests). -/
namespace Pu
open Pl Sx Go M Vc

/-- the graph that l tells of -/
structure Ng (adj : List (List Int)) (l : List (Int × Int × Int)) (n : Nat) : Prop where
  gr : Gr adj
  len : adj.length = n
  nb : ∀ (v w : Nat), v < n → w < n → ∀ ll, adj[v]? = some ll → ((w : Int) ∈ ll ↔ Nb l v w)
end Pu
namespace Pu
theorem pw_snoc {α : Type} {R : α → α → Prop} {l : List α} {x : α} : (l ++ [x]).Pairwise R ↔ l.Pairwise R ∧ ∀ y, y ∈ l → R y x := by
  rw [List.pairwise_append]
  simp
end Pu
