/- An append of one part of a row to an earlier part of it. It holds over any program. -/
import Derived.Test.YtoelidgkfpmgnaaSxJ
namespace Sx
open Go

theorem rAp2 {α : Type} {E : Rp α} {q : α} {P : Program} {a : Act} {w w0 : World} {ros : List Fact} {rs : List Res} {d : Option Tmp} {t : TypeId} {p : String} {af : Array Edge} {g : Option (Nat × Bool)} {x y : Operand} {T e : TypeId} {h : Hdr} {l l1 l2 k : List α} {hi1 lo hi : Int}
    (hst : St w0 ros (row e E h.v l :: rs) w) (hS : SlT P T e E q) (hx : a.eval x = (subH h E.s 0 hi1).v) (hy : a.eval y = (subH h E.s lo hi).v) (g1 : sli l 0 hi1 = some l1) (g2 : sli l lo hi = some l2) (hk : app l1 l2 = some k) :
    ∃ (h' : Hdr) (w' : World), (execOp a.eval ⟨d, .call ⟨.builtin .append, #[x, y], #[T, T]⟩, t, p, af, g⟩).run P w = .ok (.value h'.v) w' ∧ St w0 ros (row e E h'.v k :: rs) w' := by
  obtain ⟨X, hX⟩ := hst
  have hsee : Sees w X E h.v l := by
    obtain ⟨F, hr, _⟩ := hX.own
    exact row_sees hr
  have hX' : StX w0 X ros (row e E (subH h E.s 0 hi1).v l1 :: rs) w := hX.upd fun F hF _ => ⟨F, fun _ => row_cut g1 X F hF, fun _ hb => .inl hb, Chg.refl _ _⟩
  obtain ⟨rfl, h0, h1, h2⟩ := sli_some g2
  obtain ⟨v', w', k1, k2⟩ := r_appX (d := d) (t := t) (p := p) (af := af) (g := g) hX' hS hx hy (sees_sub hsee h0 h1 h2) hk
  obtain ⟨h', rfl⟩ := (rdO (.head _) : Rd ros (row e E v' k :: rs) E v' k).hdr k2
  exact ⟨h', w', k1, k2⟩
theorem bp0 {a : Act} : ((#[] : Array (Nat × Operand)).map fun (i, x) => (i, a.eval x)) = ([] : List (Nat × Value)).toArray := by simp
end Sx
