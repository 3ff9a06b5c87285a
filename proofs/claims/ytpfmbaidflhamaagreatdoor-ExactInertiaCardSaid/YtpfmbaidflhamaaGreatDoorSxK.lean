/- An append of one part of a row to an earlier part of it. It holds over any program. -/
import Derived.Test.YtpfmbaidflhamaaGreatDoorSxJ
import Derived.Lib.SlicesCompact
import Derived.Lib.TrailingZeros
import Derived.Lib.SliceRun
namespace Sx
open Go

theorem rAp2 {α : Type} {E : Rp α} {q : α} {P : Program} {a : Act} {w w0 : World} {ros : List Fact} {rs : List Res} {d : Option Tmp} {t : TypeId} {p : String} {af : Array Edge} {g : Option (Nat × Bool)} {x y : Operand} {T e : TypeId} {h : Hdr} {l l1 l2 k : List α} {hi1 lo hi : Int}
    (hst : St w0 ros (row e E h.v l :: rs) w) (hS : SlT P T e E q) (hx : a.eval x = (subH h E.s 0 hi1).v) (hy : a.eval y = (subH h E.s lo hi).v) (g1 : sli l 0 hi1 = some l1) (g2 : sli l lo hi = some l2) (hk : app l1 l2 = some k) :
    ∃ (h' : Hdr) (w' : World), (execOp a.eval ⟨d, .call ⟨.builtin .append, #[x, y], #[T, T]⟩, t, p, af, g⟩).run P w = .ok (.value h'.v) w' ∧ St w0 ros (row e E h'.v k :: rs) w' := by
  obtain ⟨X, hX⟩ := hst
  have hsee : Sees w X E h.v l := by
    obtain ⟨F, hr, _⟩ := hX.own
    exact row_sees hr
  have hX' : StX w0 X ros (row e E (subH h E.s 0 hi1).v l1 :: rs) w := hX.upd fun F hF _ => ⟨F, fun _ => row_cut g1 X F hF, fun _ hb => .inl hb, Chg.refl _ _⟩
  obtain ⟨rfl, h0, h1, h2⟩ := sli_some g2
  obtain ⟨v', w', k1, k2⟩ := r_appX (d := d) (t := t) (p := p) (af := af) (g := g) hX' hS hx hy (sees_sub hsee h0 h1 h2) hk
  obtain ⟨h', rfl⟩ := (rdO (.head _) : Rd ros (row e E v' k :: rs) E v' k).hdr k2
  exact ⟨h', w', k1, k2⟩
section
variable {P : Program} {α β : Type} {E : Rp α} {q : α} {a : Act} {w0 w : World} {ros : List Fact} {rs : List Res} {d : Option Tmp} {t : TypeId} {p : String} {af : Array Edge} {g : Option (Nat × Bool)} {x y : Operand} {T U e : TypeId} {h : Hdr} {l : List α}
/-- a slice against nil -/
theorem yenil (hS : SlT P T e E q) (hx : a.eval x = h.v) (hy : a.eval y = hnil.v) : Yi P a w ⟨d, .binOp .eql T x y U, t, p, af, g⟩ (.bool h.a.isNone) := by
  have := Go.Lib.run_eql_slice_nil (P := P) w T e h.a h.n h.c 0 0 hS.und
  simp [Yi, execOp, hx, hy, eqGuard, Hdr.v, hnil, this]
theorem nilS (h : Hdr) : h.a.isNone = true ∨ h.a.isNone = false := by cases h.a <;> simp
theorem nilE (hn : h.a.isNone = true) (hm : imm E h.v l ∈ ros) (hst : St w0 ros rs w) : l = [] := by
  obtain ⟨X, hX⟩ := hst
  obtain ⟨⟨b, cap, hv, hc, _, hx⟩, _⟩ := hX.ro _ hm
  cases l with
  | nil => rfl
  | cons z l =>
    obtain ⟨hb, _⟩ := hx 0 z rfl
    have h1 : h.a = b := by injection hv
    rw [h1, hb] at hn
    cases hn
theorem nilM {f : List α → Option β} {r : Option β} (h : (app [] []).bind f = r) : f [] = r := by
  have : app ([] : List α) [] = some [] := by unfold app BIG; simp
  rw [this] at h
  exact h
end
/-- how many zero bits trail -/
def tz32 (x : Int) : Option Int := if 0 ≤ x ∧ x < 4294967296 then some (Go.Lib.ctz 32 x.toNat : Int) else none
/-- what slices.Sort makes of a list -/
def insI (x : Int) : List Int → List Int
  | [] => [x]
  | y :: l => if x ≤ y then x :: y :: l else y :: insI x l
def isortI : List Int → List Int
  | [] => []
  | x :: l => insI x (isortI l)
def sortI (l : List Int) : Option (List Int) := if (l.length : Int) ≤ BIG then some (isortI l) else none
/-- what slices.Compact makes of a list -/
def compactI (l : List Int) : Option (List Int) := if (l.length : Int) ≤ BIG then some (Go.Lib.compact l) else none
theorem insI_perm (x : Int) : ∀ l, (insI x l).Perm (x :: l) := by
  intro l
  induction l with
  | nil => exact .refl _
  | cons y l ih =>
    rw [insI]
    split
    · exact .refl _
    · exact (List.Perm.cons y ih).trans (List.Perm.swap x y l)
theorem isortI_perm : ∀ l, (isortI l).Perm l := by
  intro l
  induction l with
  | nil => exact .refl _
  | cons x l ih => exact (insI_perm x _).trans (List.Perm.cons x ih)
theorem insI_sorted (x : Int) : ∀ l, l.Pairwise (· ≤ ·) → (insI x l).Pairwise (· ≤ ·) := by
  intro l
  induction l with
  | nil => intro _; rw [insI]; exact List.pairwise_singleton _ _
  | cons y l ih =>
    intro h
    rw [List.pairwise_cons] at h
    rw [insI]
    split
    · rename_i hxy
      refine List.pairwise_cons.2 ⟨fun z hz => ?_, List.pairwise_cons.2 h⟩
      rw [List.mem_cons] at hz
      rcases hz with rfl | hz
      · exact hxy
      · have := h.1 z hz; omega
    · refine List.pairwise_cons.2 ⟨fun z hz => ?_, ih h.2⟩
      have := (insI_perm x l).mem_iff.1 hz
      rw [List.mem_cons] at this
      rcases this with rfl | this
      · omega
      · exact h.1 z this
theorem isortI_sorted : ∀ l, (isortI l).Pairwise (· ≤ ·) := by
  intro l
  induction l with
  | nil => exact .nil
  | cons x l ih => exact insI_sorted x _ ih
theorem isortI_merge (l : List Int) : (l.mergeSort fun x y => decide (x ≤ y)) = isortI l := by
  refine List.Perm.eq_of_pairwise (le := fun a b : Int => a ≤ b) (fun a b _ _ h1 h2 => by omega) ?_ (isortI_sorted l) ((List.mergeSort_perm l _).trans (isortI_perm l).symm)
  refine (List.pairwise_mergeSort (le := fun x y : Int => decide (x ≤ y)) ?_ ?_ l).imp ?_
  · intro a b c h1 h2
    simp only [decide_eq_true_eq] at h1 h2 ⊢
    omega
  · intro a b
    simp only [Bool.or_eq_true, decide_eq_true_eq]
    omega
  · intro a b h
    simpa using h
theorem bp0 {a : Act} : ((#[] : Array (Nat × Operand)).map fun (i, x) => (i, a.eval x)) = ([] : List (Nat × Value)).toArray := by simp
end Sx
