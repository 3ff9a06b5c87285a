/- An append of zeros to the empty slice: the step of Grow. It holds over any program. -/
import Derived.Test.YtpfmbaidflhamaaGreatDoorSxI
import Derived.Lib.AppendZeros
namespace Sx
open Go

/-- what slices.Collect makes of a list -/
def colV (x : List Int) : Option (List Int) := if (x.length : Int) ≤ BIG then some x else none
def mkLp {β : Type} (z : β) (n : Int) : Option (List β) := if 0 < n then mkL z n else none
theorem zeros_list {s : Nat} {c : CS s} {zv : Value} (hp : 0 < s) (hz : zv.cells = c.1.toArray) (n : Nat) : (Builtin.zeroCells zv.cells n).toList = cellsOf (List.replicate n c) := by
  rw [← toList_made hp hz n]
  have : zv.cells.size = s := by rw [hz]; simpa using c.2.1
  unfold Builtin.zeroCells madeCells
  rw [this]
section
variable {P : Program} {α : Type} {E : Rp α} {q : α} {l : List α} {a : Act} {w0 w : World} {ros : List Fact} {rs : List Res} {d : Option Tmp} {t : TypeId} {p : String} {af : Array Edge} {g : Option (Nat × Bool)} {x y : Operand} {T tn e : TypeId} {ik kn : IntKind} {n : Int}
theorem rZn (hst : St w0 ros rs w) (hS : SlT P T e E q) (htn : P.underlying tn = some (.int kn)) (hx : a.eval x = hnil.v) (hy : a.eval y = .int ik n) (hk : mkLp q n = some l) :
    ∃ (h : Hdr) (w' : World), (execOp a.eval ⟨d, .call ⟨.builtin .append, #[x, y], #[T, tn]⟩, t, p, af, g⟩).run P w = .ok (.value h.v) w' ∧ St w0 ros (row e E h.v l :: rs) w' := by
  unfold mkLp at hk
  split at hk
  · rename_i hpos
    obtain ⟨ti, zv, hi, hsz, hby, hz, hzc⟩ := hS.inf
    obtain ⟨k, rfl, hb, rfl⟩ := mkL_some hk
    unfold BIG at hb
    have hbytes : k * ti.bytes ≤ 281474976710656 := by
      have : k * ti.bytes ≤ 1099511627776 * 256 := Nat.mul_le_mul (by omega) (by omega)
      omega
    have hr := Go.Lib.run_append_nil_zeros (P := P) w T tn t e ti zv ik kn hS.und htn hi hz k (by omega) (by rw [hsz]; exact E.pos) (by omega) hbytes
    have hml : k ≤ maxLen := by simp only [maxLen]; omega
    have hzr := hzc w fun _ => True
    let c : CS E.s := ⟨zv.cells.toList, E.len hzr, E.one hzr⟩
    have hc : zv.cells = c.1.toArray := by simp [c]
    have hge := grownCap_ge w k 0 e
    refine ⟨⟨some ⟨w.heap.size, 0, none⟩, k, grownCap w k 0 e⟩, _, ?_, (hst.drew).new (r1 := row e E _ _) (Chg.alloc _ _ (.cells (Builtin.zeroCells zv.cells k ++ Builtin.zeroCells zv.cells (grownCap w k 0 e - k)) e)) fun X _ _ => ⟨fun b => b = w.heap.size, ?_, fun b hb => by simp only at hb; subst hb; exact Nat.le_refl _⟩⟩
    · simp [execOp, resolve, invoke, builtin, hx, hy, hnil, Hdr.v, hr]
    · refine ⟨by simpa using hml, List.replicate k c, All2.rep k (hzc _ X), ?_, fun b => by simp [Value.ownBlock, Hdr.v]; exact eq_comm⟩
      refine ⟨by rw [cellsOf_length]; simp, .inr ⟨w.heap.size, grownCap w k 0 e, Builtin.zeroCells zv.cells k ++ Builtin.zeroCells zv.cells (grownCap w k 0 e - k), by simp [Hdr.v], Nat.zero_le _, by simp [World.alloc], by simpa using hge, grownCap_le_maxLen w k 0 e hml, ?_, ?_⟩⟩
      · have hzs : zv.cells.size = E.s := by rw [hc]; simpa using c.2.1
        rw [Array.size_append, size_zeroCells, size_zeroCells, hzs, ← Nat.add_mul, Nat.add_sub_cancel' hge]
      · rw [Array.toList_append, zeros_list E.pos hc, List.take_left']
        rw [cellsOf_length]; simp
  · cases hk
end
end Sx
