/- The library's Sort and Compact at ints. -/
import Derived.KernelRfl
import Derived.Shelf.Sort.Plain
import Derived.Shelf.Slices.In.SortNone
import Derived.Shelf.Slices.CompactI
import Derived.Sort.OwnSortedInts
import Derived.Test.YtnfamnfdndaekaaGreatDoorTy
namespace Go.Proofs.YtnfamnfdndaekaaGreatDoor
open Go Go.RowKit Go.Shelf
set_option maxRecDepth 100000
set_option linter.unusedVariables false
def Tryz.lays189_r : Ren := ⟨(fun x => match x with | 189 => 105 | 125 => 134 | 257 => 133 | 128 => 157 | 129 => 158 | 294 => 148 | 295 => 149 | 296 => 150 | 297 => 151 | 298 => 152 | 299 => 153 | 216 => 154 | 300 => 155 | 301 => 156 | 328 => 169 | 329 => 170 | 330 => 171 | 331 => 172 | 332 => 173 | 215 => 159 | 343 => 179 | _ => 0), (fun x => match x with | 28 => 22 | 3 => 3 | 46 => 85 | 0 => 0 | 51 => 88 | 53 => 90 | 4 => 4 | 183 => 149 | 182 => 148 | 131 => 59 | 5 => 5 | 9 => 9 | 218 => 165 | 222 => 169 | 228 => 175 | 229 => 176 | _ => 0), (fun x => x)⟩
theorem Tryz.lays189 : Lays.n189 Tryz.prog Tryz.lays189_r where
  mixed := by kernel_rfl
  f125 := by kernel_rfl
  f128 := by kernel_rfl
  f129 := by kernel_rfl
  f189 := by kernel_rfl
  f215 := by kernel_rfl
  f216 := by kernel_rfl
  f257 := by kernel_rfl
  f294 := by kernel_rfl
  f295 := by kernel_rfl
  f296 := by kernel_rfl
  f297 := by kernel_rfl
  f298 := by kernel_rfl
  f299 := by kernel_rfl
  f300 := by kernel_rfl
  f301 := by kernel_rfl
  f328 := by kernel_rfl
  f329 := by kernel_rfl
  f330 := by kernel_rfl
  f331 := by kernel_rfl
  f332 := by kernel_rfl
  f343 := by kernel_rfl
  t0 := by kernel_rfl
  a0 := fun w => by kernel_rfl
  z0 := fun w => by kernel_rfl
  v0 := fun w => by kernel_rfl
  t3 := by kernel_rfl
  a3 := fun w => by kernel_rfl
  z3 := fun w => by kernel_rfl
  v3 := fun w => by kernel_rfl
  t4 := by kernel_rfl
  a4 := fun w => by kernel_rfl
  z4 := fun w => by kernel_rfl
  v4 := fun w => by kernel_rfl
  t5 := by kernel_rfl
  a5 := fun w => by kernel_rfl
  z5 := fun w => by kernel_rfl
  v5 := fun w => by kernel_rfl
  t9 := by kernel_rfl
  a9 := fun w => by kernel_rfl
  z9 := fun w => by kernel_rfl
  v9 := fun w => by kernel_rfl
  t28 := by kernel_rfl
  a28 := fun w => by kernel_rfl
  z28 := fun w => by kernel_rfl
  v28 := fun w => by kernel_rfl
  t46 := by kernel_rfl
  a46 := fun w => by kernel_rfl
  z46 := fun w => by kernel_rfl
  v46 := fun w => by kernel_rfl
  t51 := by kernel_rfl
  a51 := fun w => by kernel_rfl
  z51 := fun w => by kernel_rfl
  v51 := fun w => by kernel_rfl
  t53 := by kernel_rfl
  a53 := fun w => by kernel_rfl
  z53 := fun w => by kernel_rfl
  v53 := fun w => by kernel_rfl
  t131 := by kernel_rfl
  a131 := fun w => by kernel_rfl
  z131 := fun w => by kernel_rfl
  v131 := fun w => by kernel_rfl
  t182 := by kernel_rfl
  a182 := fun w => by kernel_rfl
  z182 := fun w => by kernel_rfl
  v182 := fun w => by kernel_rfl
  t183 := by kernel_rfl
  a183 := fun w => by kernel_rfl
  z183 := fun w => by kernel_rfl
  v183 := fun w => by kernel_rfl
  t218 := by kernel_rfl
  a218 := fun w => by kernel_rfl
  z218 := fun w => by kernel_rfl
  v218 := fun w => by kernel_rfl
  t222 := by kernel_rfl
  a222 := fun w => by kernel_rfl
  z222 := fun w => by kernel_rfl
  v222 := fun w => by kernel_rfl
  t228 := by kernel_rfl
  a228 := fun w => by kernel_rfl
  z228 := fun w => by kernel_rfl
  v228 := fun w => by kernel_rfl
  t229 := by kernel_rfl
  a229 := fun w => by kernel_rfl
  z229 := fun w => by kernel_rfl
  v229 := fun w => by kernel_rfl
def Tryz.lays2_20_r : Ren := ⟨(fun x => match x with | 20 => 61 | _ => 0), (fun x => match x with | 22 => 22 | 3 => 3 | 4 => 4 | 0 => 0 | _ => 0), (fun x => x)⟩
theorem Tryz.lays2_20 : Lays2.n20 Tryz.prog Tryz.lays2_20_r where
  mixed := by kernel_rfl
  f20 := by kernel_rfl
  t0 := by kernel_rfl
  a0 := fun w => by kernel_rfl
  z0 := fun w => by kernel_rfl
  v0 := fun w => by kernel_rfl
  t3 := by kernel_rfl
  a3 := fun w => by kernel_rfl
  z3 := fun w => by kernel_rfl
  v3 := fun w => by kernel_rfl
  t4 := by kernel_rfl
  a4 := fun w => by kernel_rfl
  z4 := fun w => by kernel_rfl
  v4 := fun w => by kernel_rfl
  t22 := by kernel_rfl
  a22 := fun w => by kernel_rfl
  z22 := fun w => by kernel_rfl
  v22 := fun w => by kernel_rfl
  i3 := by kernel_rfl

def cI2 (n : Int) : Sx.CS (Sx.rI .i64).s := ⟨[.int .i64 n], show [Value.int .i64 n].length = 1 from rfl, fun v h => by rw [List.mem_singleton] at h; subst h; rfl⟩
open Sx in
theorem cI2_cells (x : List Int) : cellsOf (x.map cI2) = x.map (Value.int .i64) := by
  induction x with
  | nil => rfl
  | cons z l ih =>
    rw [List.map_cons, List.map_cons, ← ih]
    rfl
open Sx in
theorem cI2_all (w : World) (X : Nat → Prop) (x : List Int) : All2 w X (rI .i64) (x.map cI2) x := by
  refine ⟨List.length_map _, fun i c y hc hy => ?_⟩
  rw [List.getElem?_map, hy] at hc
  obtain rfl := Option.some.inj hc
  exact rfl
open Sx in
theorem all2_cI2 {w : World} {X : Nat → Prop} {cs : List (CS (rI .i64).s)} {x : List Int} (h : All2 w X (rI .i64) cs x) : cs = x.map cI2 := by
  apply List.ext_getElem?
  intro i
  by_cases hi : i < x.length
  · have hc : i < cs.length := by rw [h.1]; exact hi
    have h1 : cs[i]? = some cs[i] := by simp [hc]
    have h2 : x[i]? = some x[i] := by simp [hi]
    have h3 := h.2 i _ _ h1 h2
    rw [h1, List.getElem?_map, h2]
    congr 1
    exact Subtype.ext h3
  · rw [List.getElem?_eq_none (by rw [h.1]; omega), List.getElem?_eq_none (by rw [List.length_map]; omega)]

open Sx Go.Sort in
theorem sortI_ok {w0 : World} {ros : List Fact} {rs : List Res} {w : World} {x1 : List Int} {h1 : Hdr} {out : List Int} (hM : sortI x1 = some out) (hst : St w0 ros (row 3 (rI .i64) h1.v x1 :: rs) w) :
    Calls Tryz.prog 105 #[h1.v] w (fun e w => e = .returned (.tuple #[]) ∧ St w0 ros (row 3 (rI .i64) h1.v out :: rs) w) := by
  unfold sortI at hM
  split at hM
  · rename_i hlen
    obtain rfl := Option.some.inj hM
    unfold BIG at hlen
    have hol : (isortI x1).length = x1.length := (isortI_perm x1).length_eq
    have hsee : ∃ X F, (row 3 (rI .i64) h1.v x1).holds w X F := by
      obtain ⟨X, hX⟩ := hst
      obtain ⟨F, hr, _⟩ := hX.own
      exact ⟨X, F, hr⟩
    obtain ⟨X, F, hm, cs, ha, hown, he⟩ := hsee
    have hcs := all2_cI2 ha
    subst hcs
    rw [cI2_cells] at hown
    rcases hown.2 with ⟨hv, hn⟩ | ⟨g, cap, cur, hv, hg, hh, hc1, hc2, hc3, hc4⟩
    · have hx : x1 = [] := List.eq_nil_of_length_eq_zero hn
      subst hx
      rw [hv]
      refine (Any.slices_Sort_int_none Tryz.lays189 none 0 w).mono ?_
      rintro e w' ⟨rfl, rfl⟩
      exact ⟨rfl, by rw [hv] at hst; exact hst⟩
    · rw [hv]
      have hh1 : (rI IntKind.i64).s = 1 := rfl
      rw [hh1] at hc3
      have hc4' : cur.toList.take x1.length = x1.map (Value.int .i64) := by rw [← hc4]; show _ = cur.toList.take (x1.length * 1); rw [Nat.mul_one]
      refine (Any.slices_Sort_int Tryz.lays189 g 0 cap x1 w (holds_of_blockI hh hc4') (Array.getElem?_eq_some_iff.1 hh).1 (by omega)).mono ?_
      rintro e w' ⟨rfl, n, os, rfl⟩
      refine ⟨rfl, ?_⟩
      rw [isortI_merge]
      have hgb := grownBy_sortedI (w := w) (g := g) (n := n) (os := os) (isortI x1).toArray
      rw [hv] at hst
      refine hst.upd fun X F _ hF => ⟨F, fun _ => ?_, fun b hb => .inl hb, ?_⟩
      · refine ⟨by rw [hol]; exact hm, (isortI x1).map cI2, cI2_all _ _ _, ?_, hF.2.choose_spec.2.2⟩
        have := ownsRow_sortedI (n := n) (os := os) hol (Nat.zero_le g) hh hc1 hc2 hc3
        rw [cI2_cells, hol]
        exact this
      · obtain ⟨q1, q2, q3, q4, q5⟩ := hgb
        have hFg : F g := (hF.2.choose_spec.2.2 g).2 rfl
        exact ⟨q1, q2, q3, q4, fun b hb hn => q5 b hb (fun e => hn (by have e' := Option.some.inj e; rw [e']; exact hFg))⟩
  · cases hM

theorem compact_len (zs : List Int) : (Go.Lib.compact zs).length ≤ zs.length := by
  unfold Go.Lib.compact Go.Lib.compactUpTo
  rw [List.length_map]
  have := List.length_filter_le (Go.Lib.keeps zs.toArray) (List.range zs.length)
  simpa using this

open Sx Go.Sort in
theorem compactI_ok {w0 : World} {ros : List Fact} {rs : List Res} {w : World} {x1 : List Int} {h1 : Hdr} {out : List Int} (hM : compactI x1 = some out) (hst : St w0 ros (row 3 (rI .i64) h1.v x1 :: rs) w) :
    Calls Tryz.prog 61 #[h1.v] w (fun e w => ∃ (h2 : Hdr), e = .returned (h2.v) ∧ St w0 ros (row 3 (rI .i64) h2.v out :: rs) w) := by
  unfold compactI at hM
  split at hM
  · rename_i hlen
    obtain rfl := Option.some.inj hM
    unfold BIG at hlen
    have hcl := compact_len x1
    have hsee : ∃ X F, (row 3 (rI .i64) h1.v x1).holds w X F := by
      obtain ⟨X, hX⟩ := hst
      obtain ⟨F, hr, _⟩ := hX.own
      exact ⟨X, F, hr⟩
    obtain ⟨X, F, hm, cs, ha, hown, he⟩ := hsee
    have hcs := all2_cI2 ha
    subst hcs
    rw [cI2_cells] at hown
    rcases hown.2 with ⟨hv, hn⟩ | ⟨g, cap, cur, hv, hg, hh, hc1, hc2, hc3, hc4⟩
    · have hx : x1 = [] := List.eq_nil_of_length_eq_zero hn
      subst hx
      rw [hv]
      refine (Any.slices_Compact_int_empty Tryz.lays2_20 none 0 w).mono ?_
      rintro e w' ⟨rfl, rfl⟩
      exact ⟨hnil, rfl, by rw [hv] at hst; exact hst⟩
    · rw [hv]
      have hh1 : (rI IntKind.i64).s = 1 := rfl
      rw [hh1] at hc3
      have hc4' : cur.toList.take x1.length = x1.map (Value.int .i64) := by rw [← hc4]; show _ = cur.toList.take (x1.length * 1); rw [Nat.mul_one]
      refine (Any.slices_Compact_int Tryz.lays2_20 g 0 cap x1 w (holds_of_blockI hh hc4') (by omega) hc1).mono ?_
      rintro e w' ⟨rfl, n, hw'⟩
      rw [← grow_empty (putRow _ _ _ _ _)] at hw'
      subst hw'
      refine ⟨⟨some ⟨g, 0, none⟩, (Go.Lib.compact x1).length, cap⟩, rfl, ?_⟩
      generalize hd : (Go.Lib.compact x1 ++ List.replicate (x1.length - (Go.Lib.compact x1).length) 0) = d
      have hdl : d.length = x1.length := by rw [← hd, List.length_append, List.length_replicate]; omega
      have hgb := grownBy_sortedI (w := w) (g := g) (n := n) (os := #[]) d.toArray
      rw [hv] at hst
      refine hst.upd fun X F _ hF => ⟨F, fun _ => ?_, fun b hb => .inl hb, ?_⟩
      · have how := hF.2.choose_spec.2.2
        refine ⟨by omega, (Go.Lib.compact x1).map cI2, cI2_all _ _ _, ?_, fun b => (how b).trans ⟨fun h => h, fun h => h⟩⟩
        rw [cI2_cells]
        refine ⟨by simp [hh1], .inr ⟨g, cap, _, rfl, Nat.zero_le g, heap_sortedI _ hh, by omega, hc2, by simp [putCells, hc3, hh1], ?_⟩⟩
        have ht := take_putCellsI cur d (by rw [hdl]; omega)
        have h2 := congrArg (List.take (Go.Lib.compact x1).length) ht
        rw [List.take_take, Nat.min_eq_left (by omega), ← List.map_take, ← hd, List.take_left] at h2
        rw [hh1, Nat.mul_one, hd] at *
        exact h2
      · obtain ⟨q1, q2, q3, q4, q5⟩ := hgb
        have hFg : F g := (hF.2.choose_spec.2.2 g).2 rfl
        exact ⟨q1, q2, q3, q4, fun b hb hn => q5 b hb (fun e => hn (by have e' := Option.some.inj e; rw [e']; exact hFg))⟩
  · cases hM
end Go.Proofs.YtnfamnfdndaekaaGreatDoor
