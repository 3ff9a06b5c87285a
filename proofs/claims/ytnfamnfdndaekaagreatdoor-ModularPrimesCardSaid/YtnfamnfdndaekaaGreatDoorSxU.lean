/- Strings as elements and values: they are told by their bytes. -/
import Derived.Test.YtnfamnfdndaekaaGreatDoorSxO
import Derived.Laws.Strings
namespace Sx
open Go
section
variable {P : Program} {a : Act} {w w0 : World} {d : Option Tmp} {T U t : TypeId} {p : String} {af : Array Edge} {g : Option (Nat × Bool)} {ros : List Fact} {rs : List Res} {x y : Operand} {v : Value} {i : Int}
def rG : Rp ByteArray := rF 1 (fun n => [.string n]) (by omega) (fun _ => rfl) (fun _ v h => by simp at h; subst h; rfl)
theorem mkG {x : ByteArray} : Mk ros rG [.string x] x := fun _ _ _ => rfl
theorem ySt {l : List ByteArray} {z : ByteArray} (hO : OneT P T) (hx : a.eval x = eAddr v 1 i) (hst : St w0 ros rs w) (hr : Rd ros rs rG v l) (hz : getI l i = some z) : Yi P a w ⟨d, .load T x, t, p, af, g⟩ (.string z) := by
  obtain ⟨X, _, hs⟩ := hr.sees hst
  obtain ⟨cs, rfl, h2⟩ := sees_at hs hz
  exact yCe hO hx h2 rfl
theorem yegs {m n : ByteArray} (hx : a.eval x = .string m) (hy : a.eval y = .string n) : Yi P a w ⟨d, .binOp .eql T x y U, t, p, af, g⟩ (.bool (decide (m = n))) := by
  have h : (m.toList == n.toList) = decide (m = n) := by
    rw [ByteArray.toList_eq, ByteArray.toList_eq]
    by_cases h : m = n
    · subst h; simp
    · have h2 : m.data.toList ≠ n.data.toList := fun h2 => h (by cases m; cases n; simp at h2; simp [h2])
      rw [decide_eq_false h]
      exact beq_eq_false_iff_ne.2 h2
  simp [Yi, execOp, hx, hy, eqGuard, binOp, Op.stringOp, h]
end
/-- make with a capacity -/
def mkLc {β : Type} (z : β) (n c : Int) : Option (List β) := if 0 ≤ n ∧ n ≤ c ∧ c ≤ BIG then some (List.replicate n.toNat z) else none
section
variable {α : Type} {P : Program} {a : Act} {w w0 : World} {d : Option Tmp} {T e t : TypeId} {p : String} {af : Array Edge} {g : Option (Nat × Bool)} {ros : List Fact} {rs : List Res} {x y : Operand} {E : Rp α} {q : α} {l : List α}

theorem rMkc {n c : Int} {ik ik2 : IntKind} (hst : St w0 ros rs w) (hS : SlT P T e E q) (hx : a.eval x = .int ik n) (hy : a.eval y = .int ik2 c) (hk : mkLc q n c = some l) :
    ∃ (h : Hdr) (w' : World), (execOp a.eval ⟨d, .makeSlice T x y, t, p, af, g⟩).run P w = .ok (.value h.v) w' ∧ St w0 ros (row e E h.v l :: rs) w' := by
  obtain ⟨ti, zv, hi, hsz, hby, hz, hzc⟩ := hS.inf
  unfold mkLc BIG at hk
  split at hk
  · rename_i hb
    obtain rfl := Option.some.inj hk
    obtain ⟨k, rfl⟩ := Int.eq_ofNat_of_zero_le hb.1
    obtain ⟨kc, rfl⟩ := Int.eq_ofNat_of_zero_le (show 0 ≤ c by omega)
    have hkc : k ≤ kc := by omega
    have hbig : kc ≤ 1099511627776 := by omega
    have hbytes : (ti.bytes : Int) * (kc : Int) ≤ 281474976710656 := by
      have h2 : ((ti.bytes * kc : Nat) : Int) ≤ ((256 * 1099511627776 : Nat) : Int) := by
        have : ti.bytes * kc ≤ 256 * 1099511627776 := Nat.mul_le_mul (by omega) (by omega)
        omega
      rw [Int.natCast_mul] at h2
      omega
    have hr := run_make (P := P) w T e ti zv hS.und hi hz ik ik2 (k : Int) (kc : Int) (by omega) (by omega) hbytes (by omega)
    have hml : kc ≤ maxLen := by simp only [maxLen]; omega
    simp only [Int.toNat_natCast] at hr
    have hzr := hzc w fun _ => True
    let cc : CS E.s := ⟨zv.cells.toList, E.len hzr, E.one hzr⟩
    refine ⟨⟨some ⟨w.heap.size, 0, none⟩, k, kc⟩, _, ?_, hst.new (r1 := row e E _ _) (Chg.alloc _ _ (.cells (madeCells zv.cells (kc * ti.size)) e)) fun X _ _ => ⟨fun b => b = w.heap.size, ?_, fun b hb => by omega⟩⟩
    · simp [execOp, hx, hy, hr, Hdr.v]
    · refine ⟨by simp; omega, List.replicate k cc, All2.rep k (hzc _ X), ?_, fun b => by simp [Value.ownBlock, Hdr.v]; exact eq_comm⟩
      have hm := toList_made (c := cc) (zv := zv) E.pos (by simp [cc]) kc
      rw [hsz] 
      have key : (w.alloc (.cells (madeCells zv.cells (kc * E.s)) e)).ownsRow 0 e E.s (.slice (some ⟨w.heap.size, 0, none⟩) k kc) k (cellsOf (List.replicate k cc)) := by
        refine ⟨by rw [cellsOf_length]; simp, .inr ⟨w.heap.size, kc, madeCells zv.cells (kc * E.s), rfl, Nat.zero_le _, heap_alloc_new w _, hkc, hml, by rw [size_madeCells], ?_⟩⟩
        have hsplit : List.replicate kc cc = List.replicate k cc ++ List.replicate (kc - k) cc := by rw [List.replicate_append_replicate, Nat.add_sub_cancel' hkc]
        rw [hm, hsplit, cellsOf_append, List.take_left']
        rw [cellsOf_length]
        simp
      simpa [Hdr.v] using key
  · cases hk
end
/-- one digit -/
def itoaG (x : Int) : Option ByteArray := if 0 ≤ x ∧ x < 10 then some ⟨#[UInt8.ofNat (48 + x.toNat)]⟩ else none
def joinB (l : List ByteArray) (s : ByteArray) : List UInt8 := s.data.toList.intercalate (l.map (·.data.toList))
def joinG (l : List ByteArray) (s : ByteArray) : Option ByteArray := if l.length ≤ 1000 ∧ (joinB l s).length ≤ 1000000 then some ⟨(joinB l s).toArray⟩ else none
section
variable {α : Type} {P : Program} {a : Act} {w w0 w' : World} {ros ros1 : List Fact} {rs : List Res} {T U To e : TypeId} {E : Rp α} {b : Nat} {vals vals' : List Value} {d : Option Tmp} {t : TypeId} {p : String} {af : Array Edge} {g : Option (Nat × Bool)} {x : Operand} {h q : Hdr} {hs : List Hdr} {ls m : List (List α)} {lo hi : Int}
/-- a part of a slice of slices of the call's own, to be read -/
theorem ySlF {lo' hi' : Option Operand} {k1 k2 : IntKind} (hS : SlT P U e rH q) (hx : a.eval x = h.v) (hst : St w0 ros rs w) (hr : Rd ros rs rH h.v hs) (hf : fam T E hs ls ∈ rs) (hlo : lo'.map a.eval = some (.int k1 lo) ∨ (lo' = none ∧ lo = 0)) (hhi : hi'.map a.eval = some (.int k2 hi) ∨ (hi' = none ∧ hi = ls.length)) (hm : sli ls lo hi = some m) :
    Yi P a w ⟨d, .slice U x lo' hi' none, t, p, af, g⟩ (subH h 1 lo hi).v := by
  have hl := hst.famL hf
  obtain ⟨_, h0, h1, h2⟩ := sli_some hm
  have hm' : sli hs lo hi = some (subL hs lo hi) := by unfold sli; rw [if_pos ⟨h0, h1, by rw [hl]; exact h2⟩]
  rw [← hl] at hhi
  exact ySl hS hx hst hr hlo hhi hm'

/-- the world without its memory -/
def wE (w : World) : World := { w with heap := #[] }
/-- all that lies in w but in block b is as it was -/
def frz (b : Nat) (w : World) : Fact where
  h := fun w' X => ∀ c, c < w.heap.size → c ≠ b → X c ∧ w'.heap[c]? = w.heap[c]?
  mono := fun h hX hs c h1 h2 => ⟨hs c (h c h1 h2).1, (hX c (h c h1 h2).1).trans (h c h1 h2).2⟩
/-- a call that reads what lies there, and has one variable -/
theorem St.guestB (hst : St w0 ros (box b T vals :: rs) w) : St (wE w) (frz b w :: ros) [box b T vals] w := by
  obtain ⟨X, hX⟩ := hst
  obtain ⟨F, ⟨hF, hFb⟩, hd, _⟩ := hX.own
  refine ⟨fun c => c < w.heap.size ∧ c ≠ b, ⟨rfl, rfl, rfl, Nat.zero_le _, fun c hc => absurd hc (Nat.not_lt_zero c)⟩, fun c hc => absurd hc (Nat.not_lt_zero c), fun c hc => hc.1, fun r hr => ?_, F, ⟨hF, hFb⟩, fun c hc hx => hx.2 ((hFb c).1 hc), trivial⟩
  rcases List.mem_cons.1 hr with rfl | hr
  · exact fun c h1 h2 => ⟨⟨h1, h2⟩, rfl⟩
  · exact r.mono (hX.ro r hr) (Same.refl _ _) fun c hc => ⟨hX.xlt c hc, fun e => hd c ((hFb c).2 e) hc⟩
theorem St.backB (hst : St w0 ros (box b T vals :: rs) w) (h1 : St (wE w) (frz b w :: ros1) [box b T vals'] w') : St w0 ros (box b T vals' :: rs) w' := by
  obtain ⟨Y, hY⟩ := h1
  obtain ⟨F, ⟨hF, hFb⟩, _, _⟩ := hY.own
  have hz := hY.ro _ (.head _)
  refine hst.upd fun X G _ hG => ⟨G, fun _ => ⟨hF, hG.2⟩, fun _ h => .inl h, hY.ext.os, hY.ext.tape, hY.ext.output, ?_, fun c hc hn => (hz c hc fun e => hn ((hG.2 c).2 e)).2⟩
  have hbl : b < w'.heap.size := (Array.getElem?_eq_some_iff.1 hF).1
  rcases Nat.lt_or_ge w'.heap.size w.heap.size with hlt | hge
  · by_cases hb : w.heap.size - 1 = b
    · omega
    · have := (hz (w.heap.size - 1) (by omega) hb).2
      have h3 : (w.heap.size - 1) < w'.heap.size := by
        have h4 : w.heap[w.heap.size - 1]? = some (w.heap[w.heap.size - 1]'(by omega)) := by simp
        rw [h4] at this
        exact (Array.getElem?_eq_some_iff.1 this).1
      omega
  · exact hge
end
end Sx
