/- Queues: a slice of the call's own whose head is cut off, and that is appended to. It holds over any program. -/
import Derived.Test.YtpfmbaidflhamaaGreatDoorSxL
namespace Sx
open Go

/-- a slice that is the call's own, from some place of its block on -/
def rowS {α : Type} (T : TypeId) (E : Rp α) (v : Value) (l : List α) : Res where
  holds w X F := l.length ≤ maxLen ∧ ∃ cs : List (CS E.s), All2 w X E cs l ∧ ((v = .slice none 0 0 ∧ l = []) ∨ ∃ g o cap cur, v = .slice (some ⟨g, o, none⟩) l.length cap ∧ w.heap[g]? = some (.cells cur T (0, 0)) ∧ l.length ≤ cap ∧ cap ≤ maxLen ∧ o + cap * E.s ≤ cur.size ∧ (cur.toList.drop o).take (l.length * E.s) = cellsOf cs) ∧ ∀ b, F b ↔ v.ownBlock = some b
  loc := fun ⟨hm, cs, ha, h, he⟩ hX hs hF => by
    refine ⟨hm, cs, ha.mono hX hs, ?_, he⟩
    rcases h with h | ⟨g, o, cap, cur, hv, hg, r⟩
    · exact .inl h
    · exact .inr ⟨g, o, cap, cur, hv, by rw [hF g ((he g).2 (by rw [hv]; rfl))]; exact hg, r⟩
  lt := fun {w X F b} ⟨hm, cs, ha, h, he⟩ hb => by
    have h1 := (he _).1 hb
    rcases h with ⟨rfl, _⟩ | ⟨g, o, cap, cur, rfl, hg, _⟩
    · simp [Value.ownBlock] at h1
    · simp [Value.ownBlock] at h1
      subst h1
      exact (Array.getElem?_eq_some_iff.1 hg).1

section
variable {P : Program} {α : Type} {E : Rp α} {q : α} {l m k : List α} {a : Act} {w0 w : World} {ros : List Fact} {rs : List Res} {d : Option Tmp} {t : TypeId} {p : String} {af : Array Edge} {g : Option (Nat × Bool)} {x y : Operand} {v u : Value} {T U e : TypeId} {h : Hdr}

theorem St.toQ (hst : St w0 ros (row T E v l :: rs) w) : St w0 ros (rowS T E v l :: rs) w := by
  refine hst.conv fun X F ⟨hm, cs, ha, ⟨hl, hh⟩, he⟩ => ⟨hm, cs, ha, ?_, he⟩
  rcases hh with ⟨rfl, hn⟩ | ⟨g, cap, cur, rfl, hg0, hg, hcap, hmax, hsz, htake⟩
  · exact .inl ⟨rfl, List.eq_nil_of_length_eq_zero hn⟩
  · exact .inr ⟨g, 0, cap, cur, rfl, hg, hcap, hmax, by omega, by rw [List.drop_zero]; exact htake⟩

theorem rowS_sees {X F : Nat → Prop} (h : (rowS T E v l).holds w X F) : Sees w X E v l := by
  obtain ⟨hm, cs, ha, h, he⟩ := h
  rcases h with ⟨rfl, rfl⟩ | ⟨g, o, cap, cur, rfl, hg, hcap, hmax, hsz, htake⟩
  · exact ⟨none, 0, rfl, by simp, by simp, fun i x hi => by simp at hi⟩
  · refine ⟨_, cap, rfl, hcap, hm, fun i x hi => ⟨rfl, ?_⟩⟩
    have hi2 : i < cs.length := by rw [ha.1]; exact (List.getElem?_eq_some_iff.1 hi).1
    have hc : cs[i]? = some cs[i] := by simp [hi2]
    refine ⟨cs[i].1, ha.2 i _ x hc hi, fun j u hu => ?_⟩
    have h1 := cellsOf_get hc hu
    rw [← htake, List.getElem?_take] at h1
    split at h1
    · simp only [sAddr]
      rw [add_row, cell_of_row w g _ cur T (0, 0) hg]
      rw [List.getElem?_drop] at h1
      simpa using h1
    · cases h1
theorem rdQ (h : rowS T E v l ∈ rs) : Rd ros rs E v l := fun _ _ _ hst => by obtain ⟨F, hF⟩ := hst.own.get h; exact rowS_sees hF
theorem St.fzq (hst : St w0 ros (rowS T E v l :: rs) w) : St w0 (imm E v l :: ros) rs w := hst.freeze fun X F h => by
  refine ⟨(rowS_sees h).mono (Same.refl _ _) (fun b hb => .inl hb) (fun _ _ _ => rfl), fun _ b hb => .inr ?_⟩
  obtain ⟨hm, cs, ha, hr, he⟩ := h
  rw [he]
  revert hb
  unfold sBlk Value.ownBlock
  split <;> simp

/-- the head is cut off -/
theorem St.qcut {lo hi : Int} (hst : St w0 ros (rowS T E h.v l :: rs) w) (hk : sli l lo hi = some m) (hh : hi = l.length) : St w0 ros (rowS T E (subH h E.s lo hi).v m :: rs) w := by
  obtain ⟨rfl, h0, h1, _⟩ := sli_some hk
  subst hh
  have hsub : subL l lo (l.length : Int) = l.drop lo.toNat := by unfold subL; rw [Int.toNat_natCast, List.take_length]
  rw [hsub]
  refine hst.upd fun X F hro ⟨hm, cs, ha, hr, he⟩ => ?_
  rcases hr with ⟨hv, rfl⟩ | ⟨g, o, cap, cur, hv, hg, hcap, hmax, hsz, htake⟩
  · have hv' : h.a = none ∧ h.n = 0 ∧ h.c = 0 := by simpa [Hdr.v] using hv
    obtain ⟨e1, e2, e3⟩ := hv'
    simp only [List.length_nil] at h1
    have h00 : lo.toNat = 0 := by omega
    have hs : (subH h E.s lo ((([] : List α).length : Nat) : Int)).v = .slice none 0 0 := by
      simp [subH, Hdr.v, e1, e3, h00]
    refine ⟨fun _ => False, fun _ => ⟨by simp, [], ⟨by simp, fun i c x hc => by simp at hc⟩, .inl ⟨hs, by simp⟩, fun b => by rw [hs]; simp [Value.ownBlock]⟩, fun b hb => hb.elim, Chg.refl _ _⟩
  · have hv' : h.a = some ⟨g, o, none⟩ ∧ h.n = l.length ∧ h.c = cap := by simpa [Hdr.v] using hv
    obtain ⟨e1, e2, e3⟩ := hv'
    have hlo : lo.toNat ≤ l.length := by omega
    have hE : ∀ c : List (CS E.s), True := fun _ => trivial
    have hcells : cellsOf (cs.drop lo.toNat) = (cur.toList.drop (o + lo.toNat * E.s)).take ((l.drop lo.toNat).length * E.s) := by
      rw [cellsOf_drop, ← htake, List.drop_take, List.drop_drop, List.length_drop, Nat.sub_mul]
    refine ⟨fun b => b = g, fun hs => ⟨by simp only [List.length_drop]; omega, cs.drop lo.toNat, (ha.mono hs (fun _ h => h)).drop _, ?_, ?_⟩, fun b hb => .inl ((he b).2 (by rw [hv]; simp [Value.ownBlock]; exact hb.symm)), Chg.refl _ _⟩
    · right
      by_cases hc : cap = lo.toNat
      · refine ⟨g, o, 0, cur, ?_, hg, ?_, by simp, by omega, ?_⟩
        · simp [subH, Hdr.v, e1, e3, hc]
        · simp only [List.length_drop]; omega
        · rw [hcells]
          have : (l.drop lo.toNat).length = 0 := by simp only [List.length_drop]; omega
          rw [this]; simp
      · refine ⟨g, o + lo.toNat * E.s, cap - lo.toNat, cur, ?_, hg, ?_, by omega, ?_, hcells.symm⟩
        · simp [subH, Hdr.v, e1, e3, hc, add_row]
        · simp only [List.length_drop]; omega
        · rw [Nat.sub_mul]
          have : lo.toNat * E.s ≤ cap * E.s := Nat.mul_le_mul_right _ (by omega)
          omega
    · intro b
      have : (subH h E.s lo (l.length : Int)).v.ownBlock = some g := by
        by_cases hc : cap = lo.toNat
        · simp [subH, Hdr.v, e1, e3, hc, Value.ownBlock]
        · simp [subH, Hdr.v, e1, e3, hc, Value.ownBlock, add_row]
      rw [this]
      simp [eq_comm]

theorem rQAp (hst : St w0 ros (rowS e E h.v l :: rs) w) (hS : SlT P T e E q) (hx : a.eval x = h.v) (hy : a.eval y = u) (hu : Rd ros (rowS e E h.v l :: rs) E u m) (hne : m ≠ []) (hk : app l m = some k) :
    ∃ (h' : Hdr) (w' : World), (execOp a.eval ⟨d, .call ⟨.builtin .append, #[x, y], #[T, T]⟩, t, p, af, g⟩).run P w = .ok (.value h'.v) w' ∧ St w0 ros (rowS e E h'.v k :: rs) w' := by
  obtain ⟨X, hX⟩ := hst
  have hsee : Sees w X E u m := hu _ _ _ hX
  obtain ⟨ti, zv, hi, hsz, hby, hz, hzc⟩ := hS.inf
  obtain ⟨rfl, hb⟩ := app_some hk
  unfold BIG at hb
  have hzs : zv.cells.size = E.s := by have := E.len (hzc w X); simpa using this
  have h63 : l.length + m.length ≤ maxLen := by simp only [maxLen]; omega
  have hbytes : (l.length + m.length) * ti.bytes ≤ 140737488355328 := by
    have : (l.length + m.length) * ti.bytes ≤ 1099511627776 * 128 := Nat.mul_le_mul (by omega) hby
    omega
  have hmpos : 0 < m.length := by cases m with | nil => exact absurd rfl hne | cons => simp
  obtain ⟨ad, mcap, rfl, hmcap⟩ : ∃ ad mcap, u = .slice (some ad) m.length mcap ∧ m.length ≤ mcap := by
    obtain ⟨a', cap, rfl, hc, _, hx⟩ := hsee
    obtain ⟨z, m', rfl⟩ := List.exists_cons_of_ne_nil hne
    cases a' with
    | none => have := (hx 0 z rfl).1; cases this
    | some ad => exact ⟨ad, cap, rfl, hc⟩
  obtain ⟨c2, hA2, hnews⟩ := sees_cells hsee
  have hl2 := hA2.1
  obtain ⟨F0, ⟨hm, cs, ha, hr, he⟩, _⟩ := hX.own
  rcases hr with ⟨hv, rfl⟩ | ⟨gb, o, cap, cur, hv, hg, hcap, hmax, hszc, htake⟩
  · -- it was nil
    have hX2 : StX w0 X ros (row e E h.v ([] : List α) :: rs) w := hX.upd (w' := w) (r1 := row e E h.v []) fun F hF _ => ⟨F, fun _ => by
      obtain ⟨_, _, _, _, hF2⟩ := hF
      exact ⟨by simp, [], All2.nil, by rw [hv]; exact World.ownsRow_nil w 0 e E.s, hF2⟩, fun _ h => .inl h, Chg.refl _ _⟩
    obtain ⟨v', w', k1, k2⟩ := r_appX (P := P) (d := d) (t := t) (p := p) (af := af) (g := g) hX2 hS hx hy hsee hk
    obtain ⟨h', rfl⟩ := (rdO (.head _) : Rd ros (row e E v' _ :: rs) E v' _).hdr k2
    exact ⟨h', w', k1, k2.toQ⟩
  · have holds : ∀ j u, (cellsOf cs)[j]? = some u → w.cell? ((⟨gb, o, none⟩ : Addr).add j) = some u := by
      intro j u hj
      rw [← htake, List.getElem?_take] at hj
      split at hj
      · rw [add_row, cell_of_row w gb _ cur e (0, 0) hg]
        rw [List.getElem?_drop] at hj
        simpa using hj
      · cases hj
    have hml : l.length * E.s ≤ cap * E.s := Nat.mul_le_mul_right _ hcap
    have hclen : (cellsOf cs).length = l.length * E.s := by rw [cellsOf_length, ha.1]
    have hc2len : (cellsOf c2).length = m.length * E.s := by rw [cellsOf_length, hl2]
    by_cases hroom : l.length + m.length ≤ cap
    · have hfit : o + l.length * E.s + (cellsOf c2).length ≤ cur.size := by
        rw [hc2len]
        have : (l.length + m.length) * E.s ≤ cap * E.s := Nat.mul_le_mul_right _ hroom
        rw [Nat.add_mul] at this
        omega
      have hf := run_firstCells_some (P := P) w ti.size m.length ad m.length mcap (cellsOf c2) (by rw [hc2len, hsz]) hnews
      have hs := run_storeCells_at (P := P) gb (o + l.length * E.s) e (cellsOf c2) 0 cur w hg (by simpa using hfit) (fun u hu => cellsOf_one u hu)
      simp only [Nat.add_zero] at hs
      have hrun : (Builtin.append_ #[T, T] t #[h.v, .slice (some ad) m.length mcap]).run P w = .ok (.slice (some ⟨gb, o, none⟩) (l.length + m.length) cap) (w.setRow gb (cur.toList.take (o + l.length * E.s) ++ cellsOf c2 ++ cur.toList.drop (o + l.length * E.s + (cellsOf c2).length)).toArray) := by
        rw [hv]
        rw [hsz] at hf
        simp [Builtin.append_, run_underlying hS.und, Go.sizeOf, typeInfo, hi, hsz, Builtin.lenOf, hroom, hf, add_row, hs]
      refine ⟨⟨some ⟨gb, o, none⟩, l.length + m.length, cap⟩, _, by have e0 := hrun; simp [execOp, resolve, invoke, builtin, hx, hy, e0]; exact ⟨rfl, rfl⟩, X, hX.upd fun F hF _ => ⟨F, fun hsame => ?_, fun _ h => .inl h, Chg.setRow (b := gb) ?_⟩⟩
      · obtain ⟨_, _, _, _, hF2⟩ := hF
        have hAll := (ha.app hA2).mono hsame (fun _ h => h)
        refine ⟨by simpa using h63, cs ++ c2, hAll, .inr ⟨gb, o, cap, _, by simp [Hdr.v], setRow_heap w gb cur _ e (0, 0) hg, by simpa using hroom, hmax, ?_, ?_⟩, fun b => by rw [hF2 b, hv]; simp [Hdr.v, Value.ownBlock]⟩
        · simp only [List.size_toArray, List.length_append, List.length_take, List.length_drop, Array.length_toList]
          omega
        · rw [cellsOf_append, ← htake]
          simp only [List.length_append, Nat.add_mul]
          have hcs : cur.toList.length = cur.size := Array.length_toList
          apply List.ext_getElem?
          intro j
          simp only [List.getElem?_take, List.getElem?_append, List.getElem?_drop, List.length_append, List.length_take, List.length_drop, hcs, hc2len, List.toList_toArray]
          have f1 : min (o + l.length * E.s) cur.size = o + l.length * E.s := by omega
          have f2 : min (l.length * E.s) (cur.size - o) = l.length * E.s := by omega
          rw [f1, f2]
          by_cases hj : j < l.length * E.s + m.length * E.s
          · rw [if_pos hj]
            by_cases hj1 : j < l.length * E.s
            · rw [if_pos (show o + j < o + l.length * E.s by omega)]
              simp [hj1]
            · rw [if_neg (show ¬ o + j < o + l.length * E.s by omega), show o + j - (o + l.length * E.s) = j - l.length * E.s by omega, if_pos (show j - l.length * E.s < m.length * E.s by omega)]
              simp [hj1]
          · rw [if_neg hj, if_neg (show ¬ j < l.length * E.s by omega), List.getElem?_eq_none (by rw [hc2len]; omega)]
      · obtain ⟨_, _, _, _, hF2⟩ := hF
        exact (hF2 gb).2 (by rw [hv]; rfl)
    · have hrun := run_append_grow (P := P) w T t e ti zv hS.und hi hz ⟨gb, o, none⟩ l.length cap (cellsOf cs) (by rw [hclen, hsz]) holds ad m.length mcap (cellsOf c2) (by rw [hc2len, hsz]) hnews (by omega) (by omega) (growslice_fits (by omega) hbytes)
      have hge := grownCap_ge w (l.length + m.length) cap e
      have hle := grownCap_le_maxLen w (l.length + m.length) cap e h63
      refine ⟨⟨some ⟨w.heap.size, 0, none⟩, l.length + m.length, grownCap w (l.length + m.length) cap e⟩, _, by have e0 := hrun; rw [← hv] at e0; simp [execOp, resolve, invoke, builtin, hx, hy, e0]; exact ⟨rfl, rfl⟩, X, hX.upd fun F hF _ => ⟨fun b => b = w.heap.size, fun hsame => ?_, fun b hb => .inr (by omega), (Chg.drew F w).trans (Chg.alloc F _ _)⟩⟩
      have hAll := (ha.app hA2).mono hsame (fun _ h => h)
      refine ⟨by simpa using h63, cs ++ c2, hAll, .inr ⟨w.heap.size, 0, grownCap w (l.length + m.length) cap e, _, by simp [Hdr.v], heap_alloc_new (World.drew w) _, by simpa using hge, hle, ?_, ?_⟩, fun b => by simp [Hdr.v, Value.ownBlock]; exact eq_comm⟩
      · rw [Array.size_append, size_zeroCells, hzs, List.size_toArray, List.length_append, hclen, hc2len]
        rw [Nat.zero_add, ← Nat.add_mul, ← Nat.add_mul, Nat.add_sub_cancel' hge]
        exact Nat.le_refl _
      · rw [cellsOf_append, List.drop_zero, Array.toList_append, List.take_left']
        simp only [List.length_append, hclen, hc2len, Nat.add_mul]
end
theorem chT {p : Prop} [Decidable p] {A : Option Bool} {r : Bool} (h : (if p then A else some false) = some r) (e : r = true) : p ∧ A = some r := by
  by_cases hp : p
  · rw [if_pos hp] at h; exact ⟨hp, h⟩
  · rw [if_neg hp] at h; cases h; cases e
theorem chTn {p : Prop} [Decidable p] {A : Option Bool} {r : Bool} (h : (if p then some false else A) = some r) (e : r = true) : ¬ p ∧ A = some r := by
  by_cases hp : p
  · rw [if_pos hp] at h; cases h; cases e
  · rw [if_neg hp] at h; exact ⟨hp, h⟩
end Sx
