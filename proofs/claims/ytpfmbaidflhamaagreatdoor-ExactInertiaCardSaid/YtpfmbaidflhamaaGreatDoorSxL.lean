/- Stores into a field of an element; arrays; copy. It holds over any program. -/
import Derived.Test.YtpfmbaidflhamaaGreatDoorSxK
import Derived.Laws.CopyRow
import Derived.Laws.IdiomCopy
namespace Sx
open Go

section
variable {P : Program} {ops : Array Oper} {Q : Exit → Act → World → Prop} {n : Nat} {f : Nat → Value} {w : World} {rest : List Oper} {o : Oper} {d : Nat} {v : Value}
theorem YV {S : World → Prop} (hg : Wn ops n f o.guard) (hd : o.dst = some d) (hy : ∃ (w' : World), (execOp (fr n f).eval o).run P w = .ok (.value v) w' ∧ S w') (k : ∀ (w' : World), S w' → wpList P ops Q rest (fr n (upd f d v)) w') : wpList P ops Q (o :: rest) (fr n f) w := by
  obtain ⟨w', h1, h2⟩ := hy
  exact Yw hg hd h1 (k w' h2)
variable {os : List Oper} {G1 : Value → World → Prop}
theorem LV {S : World → Prop} (hw : Wn os.toArray n f o.guard) (hy : ∃ (w' : World), (execOp (fr n f).eval o).run P w = .ok (.value v) w' ∧ S w') (k : ∀ (w' : World), S w' → G1 v w') : LS P os n f w o G1 := by
  obtain ⟨w', h1, h2⟩ := hy
  exact Lw hw h1 (k w' h2)
end

theorem cellsOf_setf {s : Nat} : ∀ {l : List (CS s)} {i : Nat} {x : CS s}, l[i]? = some x → ∀ (y : CS s) {o : Nat} {u : Value}, y.1 = x.1.set o u → o < s → cellsOf (l.set i y) = (cellsOf l).set (i * s + o) u := by
  intro l
  induction l with
  | nil => intro i x h; simp at h
  | cons z l ih =>
    intro i x h y o u hy ho
    cases i with
    | zero =>
      simp at h; subst h
      simp only [cellsOf, List.set_cons_zero, List.flatMap_cons, Nat.zero_mul, Nat.zero_add]
      rw [hy, List.set_append_left _ _ (by rw [z.2.1]; exact ho)]
    | succ i =>
      simp only [List.getElem?_cons_succ] at h
      have := ih h y hy ho
      simp only [cellsOf, List.set_cons_succ, List.flatMap_cons] at *
      have e1 : (i + 1) * s + o = z.1.length + (i * s + o) := by rw [z.2.1, Nat.add_mul]; omega
      rw [this, e1, List.set_append_right _ _ (by omega)]
      congr 2
      omega
theorem cellsOf_take2 {s : Nat} (l : List (CS s)) (k : Nat) : cellsOf (l.take k) = (cellsOf l).take (k * s) := by
  by_cases hk : k ≤ l.length
  · exact cellsOf_take l k hk
  · rw [List.take_of_length_le (by omega), List.take_of_length_le]
    rw [cellsOf_length]; exact Nat.mul_le_mul_right _ (by omega)
theorem cellsOf_drop {s : Nat} (l : List (CS s)) (k : Nat) : cellsOf (l.drop k) = (cellsOf l).drop (k * s) := by
  by_cases hk : k ≤ l.length
  · have h : cellsOf l = cellsOf (l.take k) ++ cellsOf (l.drop k) := by rw [← cellsOf_append, List.take_append_drop]
    rw [h, List.drop_left']
    rw [cellsOf_length, List.length_take, Nat.min_eq_left hk]
  · rw [List.drop_eq_nil_of_le (by omega), List.drop_eq_nil_of_le]
    · rfl
    · rw [cellsOf_length]; exact Nat.mul_le_mul_right _ (by omega)
theorem All2.take {α : Type} {w : World} {X : Nat → Prop} {E : Rp α} {cs : List (CS E.s)} {l : List α} (h : All2 w X E cs l) (k : Nat) : All2 w X E (cs.take k) (l.take k) := by
  refine ⟨by simp [h.1], fun i c x hc hx => ?_⟩
  rw [List.getElem?_take] at hc hx
  split at hc
  · rename_i hi; rw [if_pos hi] at hx; exact h.2 i c x hc hx
  · cases hc
theorem All2.drop {α : Type} {w : World} {X : Nat → Prop} {E : Rp α} {cs : List (CS E.s)} {l : List α} (h : All2 w X E cs l) (k : Nat) : All2 w X E (cs.drop k) (l.drop k) := by
  refine ⟨by simp [h.1], fun i c x hc hx => ?_⟩
  rw [List.getElem?_drop] at hc hx
  exact h.2 _ c x hc hx

section
variable {P : Program} {α : Type} {E : Rp α} {q : α} {l m : List α} {a : Act} {w0 w : World} {ros : List Fact} {rs : List Res} {d : Option Tmp} {t : TypeId} {p : String} {af : Array Edge} {g : Option (Nat × Bool)} {x y : Operand} {v u : Value} {T T2 U e : TypeId} {h : Hdr}

/-- a store into one cell of an element -/
theorem r_stfG {i : Int} {z z' : α} {l' : List α} {o : Nat} (hst : St w0 ros (row U E v l :: rs) w) (hO : OneT P T) (hx : a.eval x = fAddr v E.s i o) (hy : a.eval y = u) (hc : u.cells = #[u]) (h1 : u.oneCell' = true) (ho : o < E.s)
    (gc : getI l i = some z) (hq : setI l i z' = some l') (hm : ∀ w X cs, (∀ q, q ∈ ros → q.h w X) → E.r w X cs z → E.r w X (cs.set o u) z') :
    ∃ w', (execOp a.eval ⟨d, .store T x y, t, p, af, g⟩).run P w = .ok .skip w' ∧ St w0 ros (row U E v l' :: rs) w' := by
  obtain ⟨ti, hi, hn⟩ := hO.inf
  obtain ⟨h0, h2, rfl⟩ := setI_some hq
  obtain ⟨_, _, hz⟩ := getI_some gc
  have hlt : i.toNat < l.length := by omega
  have raw : ∀ X F, (row U E v l).holds w X F → ∃ b cap cur, v = .slice (some ⟨b, 0, none⟩) l.length cap ∧ w.heap[b]? = some (.cells cur U (0, 0)) ∧ l.length ≤ cap ∧ cap ≤ maxLen ∧ cur.size = cap * E.s := by
    rintro X F ⟨hm, c, ha, ⟨_, h⟩, hF⟩
    rcases h with ⟨_, h0⟩ | ⟨g, cap, cur, rfl, _, hg, hcap, hmax, hsz, htake⟩
    · omega
    · exact ⟨g, cap, cur, rfl, hg, hcap, hmax, hsz⟩
  obtain ⟨b, cap, cur, rfl, hb, hcap, hmax, hsz⟩ : ∃ b cap cur, v = .slice (some ⟨b, 0, none⟩) l.length cap ∧ w.heap[b]? = some (.cells cur U (0, 0)) ∧ l.length ≤ cap ∧ cap ≤ maxLen ∧ cur.size = cap * E.s := by
    obtain ⟨X, hst⟩ := hst
    obtain ⟨F, hF, _⟩ := hst.own
    exact raw X F hF
  have hmul : i.toNat * E.s + E.s ≤ l.length * E.s := by
    have h2 : (i.toNat + 1) * E.s ≤ l.length * E.s := Nat.mul_le_mul_right _ (by omega)
    rw [Nat.add_mul] at h2; omega
  have hmul2 : l.length * E.s ≤ cap * E.s := Nat.mul_le_mul_right _ hcap
  have hs := run_storeCells_at (P := P) b (i.toNat * E.s + o) U [u] 0 cur w hb (by simp; omega) (by simpa using h1)
  simp only [Nat.add_zero, List.length_singleton] at hs
  have hadd : (⟨b, 0, none⟩ : Addr).add (i.toNat * E.s + o) = ⟨b, i.toNat * E.s + o, none⟩ := by rw [add_row, Nat.zero_add]
  have hset : cur.toList.take (i.toNat * E.s + o) ++ [u] ++ cur.toList.drop (i.toNat * E.s + o + 1) = cur.toList.set (i.toNat * E.s + o) u := by
    rw [List.set_eq_take_append_cons_drop, if_pos (by simp; omega)]; simp
  rw [hset] at hs
  refine ⟨w.setRow b (cur.toList.set (i.toNat * E.s + o) u).toArray, ?_, hst.upd fun X F hfs hF => ?_⟩
  · simp only [execOp, Instr.storeAt, hx, hy, fAddr, sAddr, Instr.sureAddr, Sem.run_bind, Sem.run_pure, Result.andThen_ok, storeVar, Go.sizeOf, typeInfo, hc, run_program, hi, hadd]
    simp [hn, hs]
  · obtain ⟨hmx, c, ha, ⟨hl2, h⟩, hFb⟩ := hF
    rcases h with ⟨hv, _⟩ | ⟨b', cap', cur', hv, hb0, hg', hcap', hmax', hsz', htake'⟩
    · cases hv
    · simp at hv
      obtain ⟨rfl, rfl⟩ := hv
      have : cur' = cur := by rw [hg'] at hb; simpa using hb
      subst this
      have hFF : F b := (hFb b).2 (by simp [Value.ownBlock])
      obtain ⟨q0, hq0⟩ : ∃ q0, c[i.toNat]? = some q0 := ⟨c[i.toNat]'(by rw [ha.1]; exact hlt), by simp [ha.1, hlt]⟩
      have hr0 := hm w X q0.1 hfs (ha.2 _ _ _ hq0 hz)
      let c1 : CS E.s := ⟨q0.1.set o u, E.len hr0, E.one hr0⟩
      refine ⟨F, fun hsame => ⟨by simpa using hmx, c.set i.toNat c1, (ha.mono hsame (fun _ h => h)).set (E.mono hr0 hsame (fun _ h => h)), ⟨by rw [cellsOf_length]; simp [ha.1], .inr ⟨b, cap, _, by simp, hb0, setRow_heap w b cur' _ U (0, 0) hb, by simpa using hcap, hmax, ?_, ?_⟩⟩, hFb⟩, fun _ h => .inl h, Chg.setRow hFF⟩
      · simp; omega
      · rw [cellsOf_setf hq0 c1 rfl ho, ← htake']
        simp only [List.length_set]
        rw [List.take_set]
theorem r_stf {i : Int} {z z' : α} {l' : List α} {s o : Nat} {e' : α → List Value} {hp : 0 < s} {hl : ∀ x, (e' x).length = s} {ho : ∀ x v, v ∈ e' x → v.oneCell' = true} (hst : St w0 ros (row U (rF s e' hp hl ho) v l :: rs) w) (hO : OneT P T) (hx : a.eval x = fAddr v s i o) (hy : a.eval y = u) (hc : u.cells = #[u]) (h1 : u.oneCell' = true) (hs : Nat.blt o s = true) (he : (e' z).set o u = e' z')
    (gc : getI l i = some z) (hq : setI l i z' = some l') :
    ∃ w', (execOp a.eval ⟨d, .store T x y, t, p, af, g⟩).run P w = .ok .skip w' ∧ St w0 ros (row U (rF s e' hp hl ho) v l' :: rs) w' := by
  refine r_stfG hst hO hx hy hc h1 (show o < s by simpa [Nat.blt_eq] using hs) gc hq ?_
  intro w X cs _ hcs
  have h2 : cs = e' z := hcs
  show cs.set o u = e' z'
  rw [h2, he]

/-! ### a call that only reads, as a guest: what lies there now is old to it -/
theorem St.guest0 (hst : St w0 ros rs w) : St w ros [] w := by
  obtain ⟨X, hX⟩ := hst
  exact ⟨fun b => b < w.heap.size, Chg.refl _ _, fun b hb => hb, fun b hb => hb, fun r hr => r.mono (hX.ro r hr) (Same.refl _ _) hX.xlt, trivial⟩
theorem imm_all {X0 : Nat → Prop} (hs : Sees w X0 E v l) (hX : ∀ b, X0 b → b < w.heap.size) : Imm w (fun b => b < w.heap.size) E v l := by
  refine ⟨hs.mono (Same.refl _ _) hX (fun _ _ _ => rfl), fun hne b hb => ?_⟩
  obtain ⟨z, l', rfl⟩ := List.exists_cons_of_ne_nil hne
  obtain ⟨a', cap, rfl, _, _, hx⟩ := hs
  obtain ⟨ha, cs, hr, hc⟩ := hx 0 z rfl
  have hp := E.pos
  have hlen := E.len hr
  have h0 := hc 0 cs[0] (by simp [show 0 < cs.length by omega])
  cases a' with
  | none => cases ha
  | some ad =>
    simp only [sAddr, Nat.zero_mul, Nat.zero_add] at h0
    have hb' : ad.block = b := by simpa [sBlk] using hb
    unfold World.cell? at h0
    have hadd : (ad.add 0).block = b := by rw [add_block]; exact hb'
    split at h0
    · rename_i hh
      rw [hadd] at hh
      exact (Array.getElem?_eq_some_iff.1 hh).1
    · cases h0
theorem St.guest1 (hst : St w0 ros rs w) (hr : Rd ros rs E v l) : St w (imm E v l :: ros) [] w := by
  obtain ⟨X, hX⟩ := hst
  refine ⟨fun b => b < w.heap.size, Chg.refl _ _, fun b hb => hb, fun b hb => hb, fun r hr' => ?_, trivial⟩
  rcases List.mem_cons.1 hr' with rfl | hr'
  · exact imm_all (hr _ _ _ hX) hX.xlt
  · exact r.mono (hX.ro r hr') (Same.refl _ _) hX.xlt
theorem St.guest2 {β : Type} {B : Rp β} {v2 : Value} {l2 : List β} (hst : St w0 ros rs w) (hr : Rd ros rs E v l) (hr2 : Rd ros rs B v2 l2) : St w (imm E v l :: imm B v2 l2 :: ros) [] w := by
  obtain ⟨X, hX⟩ := hst
  refine ⟨fun b => b < w.heap.size, Chg.refl _ _, fun b hb => hb, fun b hb => hb, fun r hr' => ?_, trivial⟩
  rcases List.mem_cons.1 hr' with rfl | hr'
  · exact imm_all (hr _ _ _ hX) hX.xlt
  · rcases List.mem_cons.1 hr' with rfl | hr'
    · exact imm_all (hr2 _ _ _ hX) hX.xlt
    · exact r.mono (hX.ro r hr') (Same.refl _ _) hX.xlt
theorem St.back {w' : World} {ros1 : List Fact} {rs1 : List Res} (hst : St w0 ros rs w) (h1 : St w ros1 rs1 w') : St w0 ros rs w' := by
  obtain ⟨Y, hY⟩ := h1
  exact hst.grow hY.ext

/-- .. and what it made -/
theorem St.back1 {w' : World} {ros1 : List Fact} {s : Nat} {e' : α → List Value} {hp : 0 < s} {hl : ∀ x, (e' x).length = s} {ho : ∀ x v, v ∈ e' x → v.oneCell' = true} (hst : St w0 ros rs w) (h1 : St w ros1 [row T (rF s e' hp hl ho) v l] w') : St w0 ros (row T (rF s e' hp hl ho) v l :: rs) w' := by
  obtain ⟨Y, hY⟩ := h1
  obtain ⟨F, ⟨hm, cs, ha, hr, he⟩, hd, _⟩ := hY.own
  refine hst.new hY.ext fun X _ _ => ⟨F, ⟨hm, cs, ⟨ha.1, fun i c x hc hx => ha.2 i c x hc hx⟩, hr, he⟩, fun b hb => ?_⟩
  by_cases hlt : b < w.heap.size
  · exact absurd (hY.old b hlt) (hd b hb)
  · omega

/-! ### arrays -/
def arrH (b n : Nat) : Hdr := ⟨some ⟨b, 0, none⟩, n, n⟩
/-- a variable that is an array is a row of its own -/
theorem St.boxRow {b n s : Nat} {vals : List Value} {e' : α → List Value} {hp : 0 < s} {hl : ∀ x, (e' x).length = s} {ho : ∀ x v, v ∈ e' x → v.oneCell' = true} (hst : St w0 ros (box b T vals :: rs) w) (hn : l.length = n) (hv : vals = l.flatMap e') (hb : Nat.ble n 1000000 = true) :
    St w0 ros (row T (rF s e' hp hl ho) (arrH b n).v l :: rs) w := by
  subst hn
  refine hst.conv fun X F ⟨h1, h2⟩ => ?_
  have hlen : (l.flatMap e').length = l.length * s := by
    clear hv hb
    induction l with
    | nil => simp
    | cons x l ih => simp only [List.flatMap_cons, List.length_append, List.length_cons, ih, hl x, Nat.add_mul]; omega
  have hb' : l.length ≤ 1000000 := by simpa [Nat.ble_eq] using hb
  have hmx : l.length ≤ maxLen := by simp only [maxLen]; omega
  obtain ⟨f, hf⟩ : ∃ f : α → CS (rF s e' hp hl ho).s, ∀ x, (f x).1 = e' x := ⟨fun x => ⟨e' x, hl x, ho x⟩, fun _ => rfl⟩
  have e1 : cellsOf (l.map f) = vals := by
    rw [hv]
    unfold cellsOf
    rw [List.flatMap_map]
    congr 1
    funext x
    exact hf x
  refine ⟨hmx, l.map f, ⟨List.length_map .., fun i c x hc hx => ?_⟩, ⟨by rw [cellsOf_length, List.length_map], .inr ⟨b, l.length, vals.toArray, rfl, Nat.zero_le _, h1, Nat.le_refl _, hmx, ?_, ?_⟩⟩, fun b' => by rw [h2]; simp [Value.ownBlock, Hdr.v, arrH]; exact eq_comm⟩
  · rw [List.getElem?_map, hx] at hc
    have := Option.some.inj hc
    subst this
    exact hf x
  · show vals.length = l.length * s
    rw [hv]; exact hlen
  · rw [e1]
    show vals.take (l.length * s) = vals
    rw [List.take_of_length_le]
    rw [hv, hlen]; exact Nat.le_refl _
structure ArrT (P : Program) (T e : TypeId) (n : Nat) {α : Type} (E : Rp α) : Prop where
  und : P.underlying T = some (.array n e)
  inf : ∃ ti, P.info? e = some ti ∧ ti.size = E.s
theorem mkArr {n : Nat} (hu : P.underlying T = some (.array n e)) (hi : (P.info? e).map (fun i => i.size) = some E.s) : ArrT P T e n E := by
  refine ⟨hu, ?_⟩
  cases h : P.info? e with
  | none => simp [h] at hi
  | some ti => simp [h] at hi; exact ⟨ti, rfl, hi⟩
theorem yia_arr {X : Nat → Prop} {ik : IntKind} {i : Int} {n : Nat} (hS : ArrT P T e n E) (hx : a.eval x = .pointer h.a) (hy : a.eval y = .int ik i) (hs : Sees w X E h.v l) (hn : h.n = n) (h0 : 0 ≤ i) (h1 : i < l.length) : Yi P a w ⟨d, .indexAddr T x y, t, p, af, g⟩ (eAddr h.v E.s i) := by
  obtain ⟨ti, hi, hsz⟩ := hS.inf
  obtain ⟨b, cap, hv, hc, hm, hx'⟩ := hs
  have hlt : i.toNat < l.length := by omega
  obtain ⟨ha, _⟩ := hx' i.toNat l[i.toNat] (by simp [hlt])
  have hv' : h.a = b ∧ h.n = l.length ∧ h.c = cap := by simpa [Hdr.v] using hv
  obtain ⟨e1, e2, e3⟩ := hv'
  have hlen : (n : Int) = (l.length : Int) := by omega
  have e4 : (Instr.indexAt T (.pointer h.a) (.int ik i)).run P w = .ok (eAddr h.v E.s i) w := by
    rw [e1, ha]
    simp [Instr.indexAt, asIntOf, run_underlying hS.und, Instr.sureAddr, h0, hlen, h1, Go.sizeOf, typeInfo, hi, hsz, eAddr]
  simp [Yi, execOp, hx, hy, e4]
theorem yIaA {ik : IntKind} {i : Int} {z : α} {n : Nat} (hS : ArrT P T e n E) (hx : a.eval x = .pointer h.a) (hy : a.eval y = .int ik i) (hst : St w0 ros rs w) (hr : Rd ros rs E h.v l) (hn : h.n = n) (hz : getI l i = some z) : Yi P a w ⟨d, .indexAddr T x y, t, p, af, g⟩ (eAddr h.v E.s i) := by
  obtain ⟨X, _, hs⟩ := hr.sees hst
  obtain ⟨h0, h1, _⟩ := getI_some hz
  exact yia_arr hS hx hy hs hn h0 h1
theorem yIsA {ik : IntKind} {i : Int} {z : α} {l' : List α} {n : Nat} (hS : ArrT P T e n E) (hx : a.eval x = .pointer h.a) (hy : a.eval y = .int ik i) (hst : St w0 ros rs w) (hr : Rd ros rs E h.v l) (hn : h.n = n) (hz : setI l i z = some l') : Yi P a w ⟨d, .indexAddr T x y, t, p, af, g⟩ (eAddr h.v E.s i) := by
  obtain ⟨X, _, hs⟩ := hr.sees hst
  obtain ⟨h0, h1, _⟩ := setI_some hz
  exact yia_arr hS hx hy hs hn h0 h1

/-! ### copy -/
/-- copy m over the part of l from lo to hi: what l becomes, how many are copied -/
def cpI {β : Type} (l : List β) (lo hi : Int) (m : List β) : Option (List β × Int) :=
  if 0 ≤ lo ∧ lo ≤ hi ∧ hi ≤ l.length then some (l.take lo.toNat ++ m.take (hi.toNat - lo.toNat) ++ l.drop (lo.toNat + min m.length (hi.toNat - lo.toNat)), ((min m.length (hi.toNat - lo.toNat) : Nat) : Int)) else none
theorem cpI_some {β : Type} {l m l' : List β} {lo hi n : Int} (h : cpI l lo hi m = some (l', n)) : 0 ≤ lo ∧ lo ≤ hi ∧ hi ≤ l.length ∧ l' = l.take lo.toNat ++ m.take (hi.toNat - lo.toNat) ++ l.drop (lo.toNat + min m.length (hi.toNat - lo.toNat)) ∧ n = ((min m.length (hi.toNat - lo.toNat) : Nat) : Int) := by
  unfold cpI at h
  split at h
  · rename_i hc
    simp only [Option.some.injEq, Prod.mk.injEq] at h
    exact ⟨hc.1, hc.2.1, hc.2.2, h.1.symm, h.2.symm⟩
  · cases h

theorem sees_cells {X : Nat → Prop} {ad : Addr} {cap : Nat} (hsee : Sees w X E (.slice (some ad) m.length cap) m) : ∃ c2 : List (CS E.s), All2 w X E c2 m ∧ ∀ j u, (cellsOf c2)[j]? = some u → w.cell? (ad.add j) = some u := by
  obtain ⟨a', cap', hv, hcap, hmm, hsee⟩ := hsee
  simp only [Value.slice.injEq] at hv
  obtain ⟨rfl, _, rfl⟩ := hv
  have hex : ∀ i (h : i < m.length), ∃ c : CS E.s, E.r w X c.1 m[i] ∧ ∀ j u, c.1[j]? = some u → w.cell? (ad.add (i * E.s + j)) = some u := by
    intro i h
    obtain ⟨_, cs, h1, h2⟩ := hsee i m[i] (by simp [h])
    exact ⟨⟨cs, E.len h1, E.one h1⟩, h1, h2⟩
  have hc2 : ∃ c2 : List (CS E.s), c2.length = m.length ∧ ∀ i c x, c2[i]? = some c → m[i]? = some x → E.r w X c.1 x ∧ ∀ j u, c.1[j]? = some u → w.cell? (ad.add (i * E.s + j)) = some u := by
    refine ⟨List.ofFn fun i : Fin m.length => Classical.choose (hex i.1 i.2), by simp, fun i c x hc hx => ?_⟩
    have hi' : i < m.length := (List.getElem?_eq_some_iff.1 hx).1
    have hsp := Classical.choose_spec (hex i hi')
    simp only [List.getElem?_ofFn, hi', dite_true, Option.some.injEq] at hc
    have hx' : m[i] = x := (List.getElem?_eq_some_iff.1 hx).2
    rw [← hc, ← hx']
    exact hsp
  obtain ⟨c2, hl2, hc2⟩ := hc2
  refine ⟨c2, ⟨hl2, fun i c x h1 h2 => (hc2 i c x h1 h2).1⟩, ?_⟩
  intro j u' hj
  have hlt : j < m.length * E.s := by have := (List.getElem?_eq_some_iff.1 hj).1; rwa [cellsOf_length, hl2] at this
  have hp := E.pos
  have hq : j / E.s < m.length := Nat.div_lt_of_lt_mul (by rw [Nat.mul_comm]; exact hlt)
  have hmd : j % E.s < E.s := Nat.mod_lt _ hp
  have hq2 : j / E.s < c2.length := by omega
  obtain ⟨_, h2⟩ := hc2 (j / E.s) c2[j / E.s] m[j / E.s] (by simp [hq2]) (by simp [hq])
  have h4 : j / E.s * E.s + j % E.s = j := by rw [Nat.mul_comm]; exact Nat.div_add_mod j E.s
  have h5 : (c2[j / E.s]).1[j % E.s]? = some ((c2[j / E.s]).1[j % E.s]'(by rw [(c2[j / E.s]).2.1]; exact hmd)) := by simp [(c2[j / E.s]).2.1, hmd]
  have h6 := h2 _ _ h5
  have h7 := cellsOf_get (l := c2) (i := j / E.s) (by simp [hq2]) h5
  rw [h4] at h6 h7
  rw [h7] at hj
  simp only [Option.some.injEq] at hj
  subst hj
  exact h6

theorem r_cp {X : Nat → Prop} {lo hi n : Int} {l' : List α} {dv : Value} (hX : StX w0 X ros (row U E h.v l :: rs) w) (hS : SlT P T e E q) (hE : E.s = 1) (hx : a.eval x = dv) (hd : dv = (subH h E.s lo hi).v ∨ (dv = h.v ∧ lo = 0 ∧ hi = l.length)) (hy : a.eval y = u) (hsee : Sees w X E u m) (hk : cpI l lo hi m = some (l', n)) :
    ∃ w', (execOp a.eval ⟨d, .call ⟨.builtin .copy, #[x, y], #[T, T2]⟩, t, p, af, g⟩).run P w = .ok (.value (.int .i64 n)) w' ∧ St w0 ros (row U E h.v l' :: rs) w' := by
  obtain ⟨h0, h1, h2, rfl, rfl⟩ := cpI_some hk
  obtain ⟨ti, zv, hi1, hsz, _⟩ := hS.inf
  have hs1 : (P.info? e).map (fun i => i.size) = some 1 := by rw [hi1]; simp [hsz, hE]
  obtain ⟨F0, hF0, _⟩ := hX.own
  have hsee0 := hsee
  obtain ⟨sa, scap, rfl, hscap, hsm, hsx⟩ := hsee
  have hhn : h.n = l.length := by
    obtain ⟨hm, c, ha, ⟨_, hh⟩, hF⟩ := hF0
    rcases hh with ⟨hv, hn0⟩ | ⟨g, cap, cur, hv, _⟩
    · simp [Hdr.v] at hv; omega
    · simp [Hdr.v] at hv; exact hv.2.1
  obtain ⟨da, dcap, hdv⟩ : ∃ da dcap, dv = .slice da (hi.toNat - lo.toNat) dcap := by
    rcases hd with rfl | ⟨rfl, rfl, rfl⟩
    · exact ⟨_, _, rfl⟩
    · exact ⟨h.a, h.c, by simp [Hdr.v, hhn]⟩
  by_cases hz : min m.length (hi.toNat - lo.toNat) = 0
  · have hm0 : m.take (hi.toNat - lo.toNat) = [] := by
      apply List.eq_nil_of_length_eq_zero
      rw [List.length_take]; omega
    rw [hz, hm0, Nat.add_zero, List.append_nil, List.take_append_drop]
    refine ⟨w, ?_, X, hX⟩
    have hr := run_copy_none (P := P) w T T2 t e da sa (hi.toNat - lo.toNat) dcap m.length scap hS.und hs1 hz
    subst hdv
    simp [execOp, resolve, invoke, builtin, hx, hy, hr, goInt]
  · cases sa with
    | none =>
      exfalso
      have : m ≠ [] := by rintro rfl; simp at hz
      obtain ⟨z, m', rfl⟩ := List.exists_cons_of_ne_nil this
      have := (hsx 0 z rfl).1
      cases this
    | some ad =>
    obtain ⟨c2, hA2, hnews⟩ := sees_cells hsee0
    have hl2 := hA2.1
    obtain ⟨hm, c, ha, ⟨hcl, hh⟩, hF⟩ := hF0
    rcases hh with ⟨hv, hn0⟩ | ⟨gb, cap, cur, hv, hg0, hg, hcap, hmax, hcs, htk⟩
    · omega
    have hv' : h.a = some ⟨gb, 0, none⟩ ∧ h.n = l.length ∧ h.c = cap := by simpa [Hdr.v] using hv
    obtain ⟨k1, k2, k3⟩ := hv'
    have hda : da = some ⟨gb, lo.toNat, none⟩ := by
      rcases hd with rfl | ⟨rfl, rfl, rfl⟩
      · simp only [Hdr.v, subH, Value.slice.injEq] at hdv
        rw [← hdv.1, if_neg (by omega), k1, hE]
        simp [add_row]
      · simp only [Hdr.v, Value.slice.injEq] at hdv
        rw [← hdv.1, k1]; rfl
    let nn := min m.length (hi.toNat - lo.toNat)
    let cs := (cellsOf c2).take nn
    have hcslen : cs.length = nn := by
      show ((cellsOf c2).take nn).length = nn
      rw [List.length_take, cellsOf_length, hl2, hE]; omega
    have hr := run_copy_row (P := P) w T T2 t e gb lo.toNat (hi.toNat - lo.toNat) dcap ad m.length scap cur U cs hS.und hs1 hg (by rw [hcslen]) (fun j v hj => by
      have : ((cellsOf c2).take nn)[j]? = some v := hj
      rw [List.getElem?_take] at this
      split at this
      · exact hnews j v this
      · cases this) (by rw [hcslen, hcs, hE]; omega) (fun v hv => cellsOf_one v (List.mem_of_mem_take hv))
    rw [hcslen] at hr
    refine ⟨w.setRow gb (cur.toList.take lo.toNat ++ cs ++ cur.toList.drop (lo.toNat + nn)).toArray, ?_, X, hX.upd fun F hF' _ => ⟨F, fun hsame => ?_, fun _ h => .inl h, Chg.setRow (b := gb) ?_⟩⟩
    · subst hdv
      subst hda
      simp [execOp, resolve, invoke, builtin, hx, hy, hr, goInt]
      rfl
    · obtain ⟨hm', c', ha', ⟨hcl', hh'⟩, hF2⟩ := hF'
      rcases hh' with ⟨hv2, hn0⟩ | ⟨gb', cap', cur', hv2, hg0', hg', hcap', hmax', hcs', htk'⟩
      · omega
      have : gb' = gb ∧ cap' = cap := by rw [hv] at hv2; simp at hv2; exact ⟨hv2.1.symm, hv2.2.symm⟩
      obtain ⟨rfl, rfl⟩ := this
      obtain rfl : cur' = cur := by rw [hg'] at hg; simpa using hg
      have hAll : All2 (w.setRow gb' (cur'.toList.take lo.toNat ++ cs ++ cur'.toList.drop (lo.toNat + nn)).toArray) X E (c'.take lo.toNat ++ c2.take (hi.toNat - lo.toNat) ++ c'.drop (lo.toNat + nn)) (l.take lo.toNat ++ m.take (hi.toNat - lo.toNat) ++ l.drop (lo.toNat + nn)) :=
        ((((ha'.take _).app (hA2.take _)).app (ha'.drop _)).mono hsame (fun _ h => h))
      have hlen' : (l.take lo.toNat ++ m.take (hi.toNat - lo.toNat) ++ l.drop (lo.toNat + nn)).length = l.length := by
        simp only [List.length_append, List.length_take, List.length_drop]
        show _ + min (hi.toNat - lo.toNat) m.length + (l.length - (lo.toNat + min m.length (hi.toNat - lo.toNat))) = _
        omega
      refine ⟨by rw [hlen']; exact hm', _, hAll, ⟨by rw [cellsOf_length, hAll.1], .inr ⟨gb', cap', _, by rw [hlen']; exact hv, hg0', setRow_heap w gb' cur' _ U (0, 0) hg, by rw [hlen']; exact hcap', hmax', ?_, ?_⟩⟩, hF2⟩
      · simp only [List.size_toArray, List.length_append, List.length_take, List.length_drop, Array.length_toList, hcslen, hcs', hE]
        show min lo.toNat (cap' * 1) + min m.length (hi.toNat - lo.toNat) + (cap' * 1 - (lo.toNat + min m.length (hi.toNat - lo.toNat))) = cap' * 1
        omega
      · have hE1 : ∀ k : Nat, k * E.s = k := fun k => by rw [hE, Nat.mul_one]
        rw [hlen', cellsOf_append, cellsOf_append, cellsOf_take2, cellsOf_take2, cellsOf_drop, ← htk']
        simp only [hE1]
        have hcs2 : (cellsOf c2).take (hi.toNat - lo.toNat) = cs := by
          show _ = (cellsOf c2).take nn
          apply List.ext_getElem?
          intro j
          rw [List.getElem?_take, List.getElem?_take]
          have hl3 : (cellsOf c2).length = m.length := by rw [cellsOf_length, hl2, hE, Nat.mul_one]
          show (if j < hi.toNat - lo.toNat then _ else _) = if j < min m.length (hi.toNat - lo.toNat) then _ else _
          by_cases hj : j < m.length
          · by_cases hj2 : j < hi.toNat - lo.toNat
            · rw [if_pos hj2, if_pos (by omega)]
            · rw [if_neg hj2, if_neg (by omega)]
          · rw [List.getElem?_eq_none (show (cellsOf c2).length ≤ j by omega)]
            simp
        rw [hcs2]
        have hcsz : cur'.toList.length = cap' := by rw [Array.length_toList, hcs', hE, Nat.mul_one]
        apply List.ext_getElem?
        intro j
        simp only [List.getElem?_take, List.getElem?_append, List.length_append, List.length_take, List.getElem?_drop, hcslen, hcsz, List.toList_toArray]
        have hnn : nn ≤ hi.toNat - lo.toNat := Nat.min_le_right _ _
        have f1 : min lo.toNat cap' = lo.toNat := by omega
        have f2 : min lo.toNat (min l.length cap') = lo.toNat := by omega
        rw [f1, f2]
        by_cases hj : j < l.length
        · rw [if_pos hj]
          by_cases hj1 : j < lo.toNat + nn
          · rw [if_pos hj1, if_pos hj1]
            by_cases hj2 : j < lo.toNat
            · simp [hj2, hj]
            · simp [hj2]
          · rw [if_neg hj1, if_neg hj1, if_pos (by omega)]
        · rw [if_neg hj, if_neg (by omega), if_neg (by omega)]
    · obtain ⟨_, _, _, _, hF2⟩ := hF'
      exact (hF2 gb).2 (by rw [hv]; rfl)

theorem rCp {lo hi : Int} {k : List α × Int} {dv : Value} (hst : St w0 ros (row U E h.v l :: rs) w) (hS : SlT P T e E q) (hE : E.s = 1) (hx : a.eval x = dv) (hd : dv = (subH h E.s lo hi).v ∨ (dv = h.v ∧ lo = 0 ∧ hi = l.length)) (hy : a.eval y = u) (hu : Rd ros (row U E h.v l :: rs) E u m) (hk : cpI l lo hi m = some k) :
    ∃ w', (execOp a.eval ⟨d, .call ⟨.builtin .copy, #[x, y], #[T, T2]⟩, t, p, af, g⟩).run P w = .ok (.value (.int .i64 k.2)) w' ∧ St w0 ros (row U E h.v k.1 :: rs) w' := by
  obtain ⟨X, hX⟩ := hst
  exact r_cp hX hS hE hx hd hy (hu _ _ _ hX) hk
/-- what a part of a row of its own reads as -/
theorem rdSub {lo hi : Int} (hr : Rd ros rs E h.v l) (hk : sli l lo hi = some m) : Rd ros rs E (subH h E.s lo hi).v m := fun w0 X w hX => by
  obtain ⟨rfl, h0, h1, h2⟩ := sli_some hk
  exact sees_sub (hr w0 X w hX) h0 h1 h2
end
end Sx
