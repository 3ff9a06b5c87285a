/- The library's iterator over a slice of ints, and what collects it. -/
import Derived.RangeFuncBox
import Derived.RangeFuncBound
import Derived.RangeFuncLeaves
import Derived.Shelf.SlIterI.Collect
import Derived.Shelf.Abstract
import Derived.WalkKit
import Derived.OwnWalkIn
import Derived.TacticsInMore
import Derived.LoopNIn
import Derived.LoopIn
import Derived.Test.YtnfamnfdndaekaaGreatDoorTy
namespace Go.Proofs.YtnfamnfdndaekaaGreatDoor
open Go Go.RowKit Go.Shelf
set_option linter.unusedVariables false

attribute [local go_sem] Oper.semAt_some

def upto (zs : List Int) (k : Nat) : List Int := (List.range k).map (fun j => zs[j]?.getD 0)
theorem upto_succ (zs : List Int) (k : Nat) : upto zs (k + 1) = upto zs k ++ [zs[k]?.getD 0] := by simp [upto, List.range_succ]
theorem upto_length (zs : List Int) (k : Nat) : (upto zs k).length = k := by simp [upto]
theorem upto_all (zs : List Int) : upto zs zs.length = zs := by
  apply List.ext_getElem
  · simp [upto]
  · intro i h1 h2
    simp [upto, h2]

set_option maxRecDepth 100000 in
set_option maxHeartbeats 2000000 in
/-- the closure of slices.Values, for rounds that keep what lay below n₀ -/
theorem values1_in (F : Fence) (n : Nat) (h7 : F.fn 106) (hro : F.round = none) (hn : 1 ≤ n) (l Bs b off len cap : Nat) (zs : List Int) (hreach : len * 8 ≤ 140737488351232) (J : List Int → World → Prop) (W : World)
    (hY : ∀ pre x W, J pre W → pre.length < len → YieldAt F (n - 1) Tryz.prog l #[.int .i64 x] W fun e W' => e = .returned (.bool true) ∧ J (pre ++ [x]) W')
    (hBs : W.cell? ⟨Bs, 0, none⟩ = some (.slice (some ⟨b, off, none⟩) len cap)) (hc : ∀ pre W', J pre W' → ∀ j, j < len → W'.cell? ⟨b, off + j, none⟩ = some (.int .i64 (zs[j]?.getD 0))) (h0 : J [] W) :
    CallsIn F n Tryz.prog 106 #[.func (.yield l) #[] #[], .pointer (some ⟨Bs, 0, none⟩)] W fun e W' => (∃ v, e = .returned v) ∧ J (upto zs len) W' := by
  refine callsIn_of_wp Tryz.func106 rfl h7 ?_ hro
  simp only [Tryz.ntmps106, List.size_toArray, List.length_cons, List.length_nil, Nat.reduceAdd, Nat.reduceSub, Array.replicate_succ, Array.replicate_zero, List.push_toArray, List.append_toArray, List.nil_append, List.cons_append]
  gi_wp2
  gi_loopw [7] (fun i wr => ∃ k : Nat, k ≤ len ∧ i = .int .i64 k ∧ J (upto zs k) wr)
    (fun i _ => len - (Go.RowKit.intOf i).toNat)
  case atStart => exact ⟨0, Nat.zero_le _, rfl, h0⟩
  case round =>
    obtain ⟨k, hk, rfl, hJs⟩ := hrel
    have hcx : k < len → wr.cell? ⟨b, off + k, none⟩ = some (.int .i64 (zs[k]?.getD 0)) := fun h => hc _ _ hJs k h
    by_cases hlt : k < len
    · obtain ⟨fn, tmps, assign, body, hy, hR⟩ := hY _ (zs[k]?.getD 0) wr hJs (by rw [upto_length]; exact hlt)
      have hcx' := hcx hlt
      gi_wp2
      refine hR.mono ?_
      rintro e W3 ⟨rfl, hJ3⟩
      gi_wp2
      go_roundw
      case rel => exact ⟨k + 1, by omega, by simp, by rw [upto_succ]; exact hJ3⟩
      case measure => simp [Go.RowKit.intOf]; omega
    · obtain rfl : k = len := by omega
      gi_wp2
      go_end0
      exact ⟨⟨_, rfl⟩, hJs⟩

set_option maxRecDepth 100000 in
set_option maxHeartbeats 1000000 in
/-- .. at the nil slice: no round -/
theorem values1_nil_in (F : Fence) (n : Nat) (h7 : F.fn 106) (hro : F.round = none) (l Bs cap : Nat) (a : Option Addr) (J : List Int → World → Prop) (W : World) (hBs : W.cell? ⟨Bs, 0, none⟩ = some (.slice a 0 cap)) (h0 : J [] W) :
    CallsIn F n Tryz.prog 106 #[.func (.yield l) #[] #[], .pointer (some ⟨Bs, 0, none⟩)] W fun e W' => (∃ v, e = .returned v) ∧ J [] W' := by
  refine callsIn_of_wp Tryz.func106 rfl h7 ?_ hro
  simp only [Tryz.ntmps106, List.size_toArray, List.length_cons, List.length_nil, Nat.reduceAdd, Nat.reduceSub, Array.replicate_succ, Array.replicate_zero, List.push_toArray, List.append_toArray, List.nil_append, List.cons_append]
  gi_wp2
  gi_loopw [7] (fun i wr => i = .int .i64 0 ∧ J [] wr) (fun _ _ => 0)
  case atStart => exact ⟨rfl, h0⟩
  case round =>
    obtain ⟨rfl, hJs⟩ := hrel
    gi_wp2
    go_end0
    exact ⟨⟨_, rfl⟩, hJs⟩

def renV : Ren := ⟨fun _ => 132, fun t => match t with | 0 => 0 | 24 => 22 | 26 => 3 | 28 => 80 | 33 => 24 | _ => 0, fun g => g⟩
theorem laysV : SlLaysZI.n11 Tryz.prog renV where
  mixed := by kernel_rfl
  f11 := ⟨Tryz.f132.name, by kernel_rfl, by kernel_rfl⟩
  t0 := by kernel_rfl
  a0 := fun w => by kernel_rfl
  z0 := fun w => by kernel_rfl
  v0 := fun w => by kernel_rfl
  t24 := by kernel_rfl
  a24 := fun w => by kernel_rfl
  z24 := fun w => by kernel_rfl
  v24 := fun w => by kernel_rfl
  t26 := by kernel_rfl
  a26 := fun w => by kernel_rfl
  z26 := fun w => by kernel_rfl
  v26 := fun w => by kernel_rfl
  t28 := by kernel_rfl
  a28 := fun w => by kernel_rfl
  z28 := fun w => by kernel_rfl
  v28 := fun w => by kernel_rfl
  i26 := by kernel_rfl

open Go.Maps Go.Sort in
set_option maxRecDepth 100000 in
set_option maxHeartbeats 2000000 in
/-- slices.AppendSeq(nil, ..) over the closure of slices.Values -/
theorem appendSeq_in (F : Fence) (n : Nat) (hA : F.fn 132) (hV : F.fn 106) (hro : F.round = none) (hn : 2 ≤ n) (Bs : Nat) (a : Option Addr) (len cap : Nat) (zs : List Int) (hN : len ≤ maxLen) (hNb : len * 8 ≤ 140737488351232) (hz : zs.length = len) (w : World)
    (hBs : w.cell? ⟨Bs, 0, none⟩ = some (.slice a len cap)) (hlt : Bs < w.heap.size)
    (hc : 0 < len → ∃ b off, a = some ⟨b, off, none⟩ ∧ b < w.heap.size ∧ ∀ j, j < len → w.cell? ⟨b, off + j, none⟩ = some (.int .i64 (zs[j]?.getD 0))) :
    CallsIn F n Tryz.prog 132 #[.slice none 0 0, .func (.func 106) #[] #[.pointer (some ⟨Bs, 0, none⟩)]] w fun e w' => ∃ v : Value, e = .returned v ∧ w'.ownsRow w.heap.size 3 1 v zs.length (zs.map encZ) ∧ Below w.heap.size w w' := by
  have h1 : 1 ≤ n := by omega
  have L := laysV
  have mixed := L.mixed; have t0 := L.t0; have a0 := L.a0; have z0 := L.z0; have v0 := L.v0; have t24 := L.t24; have a24 := L.a24; have z24 := L.z24; have v24 := L.v24; have t26 := L.t26; have a26 := L.a26; have z26 := L.z26; have v26 := L.v26; have t28 := L.t28; have a28 := L.a28; have z28 := L.z28; have v28 := L.v28
  have hne : renV.t 24 ≠ renV.t 26 := fun e => by have h := L.t24; rw [e, L.t26] at h; cases h
  have u0 := run_underlying L.t0; have u24 := run_underlying L.t24; have u26 := run_underlying L.t26; have u28 := run_underlying L.t28
  obtain ⟨_, _, FG⟩ := L.f11
  refine callsIn_of_wp_marks (f := renV.f 11) FG rfl hA ?_ hro
  simp only [SlBodyZ.n11_ntmps renV, List.size_toArray, List.length_cons, List.length_nil, Nat.reduceAdd, Nat.reduceSub, Array.replicate_succ, Array.replicate_zero, List.push_toArray, List.append_toArray, List.nil_append, List.cons_append]
  gi_wp2
  refine wpIn_rangeFunc ?_
  intro fn hfn
  rw [hro]
  obtain ⟨W0, hW0⟩ : ∃ W0, w.alloc (.cells #[.slice none 0 0] (renV.t 24)) = W0 := ⟨_, rfl⟩
  have hs0 : W0.heap.size = w.heap.size + 1 := by rw [← hW0]; simp
  have hv0 : W0.heap[w.heap.size]? = some (.cells #[.slice none 0 0] (renV.t 24) (0, 0)) := by rw [← hW0]; exact World.alloc_heap_new w _
  have hb0 : Below w.heap.size w W0 := by rw [← hW0]; exact (Below.refl _ w).alloc (Nat.le_refl _) _
  rw [hW0]
  obtain ⟨sv, hsv⟩ : ∃ sv : Value, sv = .func (.func 106) #[] #[.pointer (some ⟨Bs, 0, none⟩)] := ⟨_, rfl⟩
  rw [← hsv]
  obtain ⟨W1, hW1⟩ : ∃ W1, (W0.alloc (.deferred (some []))).alloc (.loop (AnyZI.apRec renV fn sv w.heap.size W0.heap.size .ready none)) = W1 := ⟨_, rfl⟩
  have hold : ∀ k, k < W0.heap.size → W1.heap[k]? = W0.heap[k]? := fun k hk => by
    rw [← hW1]; exact (Below.heap_alloc _ _ k (by simp; omega)).trans (Below.heap_alloc _ _ k hk)
  have hb1 : Below w.heap.size w W1 := by rw [← hW1]; exact (hb0.alloc hb0.size _).alloc (by have := hb0.size; simp; omega) _
  have hs1 : W1.heap.size = W0.heap.size + 2 := by rw [← hW1]; simp
  have hM : AnyZI.ApAt renV w fn sv w.heap.size (W0.heap.size + 1) W0.heap.size [] W1 :=
    ⟨⟨_, (hold w.heap.size (by omega)).trans hv0, ⟨rfl, .inl ⟨rfl, rfl⟩⟩, by simp⟩,
     by rw [← hW1]; have := World.alloc_heap_new (W0.alloc (.deferred (some []))) (.loop (AnyZI.apRec renV fn sv w.heap.size W0.heap.size .ready none)); rwa [World.size_alloc] at this,
     by rw [← hW1]; exact (Below.heap_alloc _ _ _ (by simp)).trans (World.alloc_heap_new W0 _), hb1⟩
  have hcalls : CallsIn F (n - 1) Tryz.prog 106 #[.func (.yield (W0.heap.size + 1)) #[] #[], .pointer (some ⟨Bs, 0, none⟩)] W1 fun e W' => (∃ v, e = .returned v) ∧ AnyZI.ApAt renV w fn sv w.heap.size (W0.heap.size + 1) W0.heap.size zs W' := by
    have hBs1 : W1.cell? ⟨Bs, 0, none⟩ = some (.slice a len cap) := (hb1.cell (p := ⟨Bs, 0, none⟩) hlt).trans hBs
    by_cases h0 : len = 0
    · have hz0 : zs = [] := List.eq_nil_of_length_eq_zero (by omega)
      subst h0; rw [hz0]
      exact values1_nil_in F (n - 1) hV hro _ Bs cap a _ W1 hBs1 hM
    · obtain ⟨b, off, rfl, hb, hcs⟩ := hc (by omega)
      have := values1_in F (n - 1) hV hro (by omega) (W0.heap.size + 1) Bs b off len cap zs (by omega) (AnyZI.ApAt renV w fn sv w.heap.size (W0.heap.size + 1) W0.heap.size) W1
        (fun pre x W hJ hl => YieldAt.mono (AnyZI.apYield L F (n - 1 - 1) w fn hfn sv w.heap.size (W0.heap.size + 1) W0.heap.size (by omega) (by omega) (by omega) (Nat.le_refl _) (by omega) len hN (by omega) pre x W hJ hl) (fun e W' h => ⟨h.1, h.2.1⟩))
        hBs1 (fun pre W' hJ j hj => (hJ.below.cell (p := ⟨b, off + j, none⟩) hb).trans (hcs j hj)) hM
      rwa [← hz, upto_all] at this
  refine ⟨W0.heap.size + 1, [{ target := .collected W0.heap.size, args := #[] }], W1, { target := .fn (.func 106) #[.pointer (some ⟨Bs, 0, none⟩)], args := #[.func (.yield (W0.heap.size + 1)) #[] #[]] }, W1, 106,
    #[.func (.yield (W0.heap.size + 1)) #[] #[], .pointer (some ⟨Bs, 0, none⟩)], W1, ?_, ?_, ?_, ?_, fun _ => h1, ?_⟩
  · rw [← hW1]; exact run_enterLoop_outer _ _ _ _ _
  · subst hsv; simp [resolve, go_sem]
  · intro f' hf'; simp [Target.leads] at hf'; subst hf'; exact hV
  · have eg : ∀ args w, (callFunc 106 args).run Tryz.prog w = .ok (.enter 106 args) w := enters_of Tryz.func106 (by kernel_rfl) rfl
    simp [invoke, go_sem, eg]
  · refine hcalls.mono ?_
    rintro e W2 ⟨⟨v0, rfl⟩, h2⟩
    obtain ⟨v, hv, hrow, hnil⟩ := h2.box
    have hend := run_endLoop (P := Tryz.prog) h2.L (by simp [AnyZI.apRec])
    obtain ⟨W3, hW3⟩ : ∃ W3, W2.putObj (W0.heap.size + 1) (.loop { AnyZI.apRec renV fn sv w.heap.size W0.heap.size .ready none with state := .exhausted }) = W3 := ⟨_, rfl⟩
    rw [hW3] at hend
    have hg3 : W2.grownBy W3 (some (W0.heap.size + 1)) := by rw [← hW3]; exact grownBy_putObj_a _ _ _
    have hv3 : W3.heap[w.heap.size]? = some (.cells #[v] (renV.t 24) (0, 0)) := by rw [← hW3]; exact (World.putObj_heap_other (by omega)).trans hv
    have hK3 : W3.heap[W0.heap.size]? = some (.deferred (some [])) := by rw [← hW3]; exact (World.putObj_heap_other (by omega)).trans h2.K
    have hrow3 := hrow.kept hg3 (ownsRow_ne_a hrow h2.L (fun cur e => by first | cases e | exact hne (Obj.cells.inj e).2.1))
    have hb3 : Below w.heap.size w W3 := h2.below.grown hg3 h2.below.size (fun k e => by cases e; omega)
    obtain ⟨hc3, hf3⟩ := cell_of_box_a hv3
    clear hW3
    refine ⟨none, W3, hend, ?_⟩
    gi_wp2
    rw [← hs0]
    refine ⟨by simp, .inl ⟨_, _, rfl, run_takeDeferred hK3, ?_⟩⟩
    exact ⟨_, results_tmp rfl _ _ _, v, rfl, hrow3.kept (grownBy_putObj_a _ _ _) (ownsRow_ne_a hrow3 hK3 (fun cur e => by first | cases e | exact hne (Obj.cells.inj e).2.1)), hb3.grown (grownBy_putObj_a _ _ _) hb3.size (fun k e => by cases e; omega)⟩

open Sx in
def cI (n : Int) : CS (rI .i64).s := ⟨[.int .i64 n], show [Value.int .i64 n].length = 1 from rfl, fun v h => by rw [List.mem_singleton] at h; subst h; rfl⟩
open Sx Go.Maps Go.Sort in
theorem cI_cells (x : List Int) : cellsOf (x.map cI) = x.map encZ := by
  induction x with
  | nil => rfl
  | cons z l ih =>
    rw [List.map_cons, List.map_cons, ← ih]
    rfl
open Sx in
theorem cI_all (w : World) (X : Nat → Prop) (x : List Int) : All2 w X (rI .i64) (x.map cI) x := by
  refine ⟨List.length_map _, fun i c y hc hy => ?_⟩
  rw [List.getElem?_map, hy] at hc
  obtain rfl := Option.some.inj hc
  exact rfl
open Sx Go.Maps Go.Sort in
theorem colV_ok {w0 : World} {ros : List Fact} {rs : List Res} {w : World} {x1 : List Int} {h1 : Hdr} {b : Nat} {out : List Int} (hM : colV x1 = some out) (q1 : imm (rI .i64) h1.v x1 ∈ ros) (hst : St w0 ros (box b 22 [h1.v] :: rs) w) :
    Calls Tryz.prog 132 #[hnil.v, .func (.func 106) #[] #[.pointer (some ⟨b, 0, none⟩)]] w (fun e w => ∃ (h2 : Hdr), e = .returned (h2.v) ∧ St w0 ros (row 3 (rI .i64) h2.v out :: box b 22 [h1.v] :: rs) w) := by
  unfold colV at hM
  split at hM
  · rename_i hlen
    obtain rfl := Option.some.inj hM
    unfold BIG at hlen
    have hbox := hst.box_h (.head _)
    obtain ⟨hcb, _⟩ := cell_of_box_a hbox
    have hlt : b < w.heap.size := (Array.getElem?_eq_some_iff.1 hbox).1
    have hsee : ∃ a cap, h1.v = .slice a x1.length cap ∧ x1.length ≤ maxLen ∧ (0 < x1.length → ∃ b off, a = some ⟨b, off, none⟩ ∧ b < w.heap.size ∧ ∀ j, j < x1.length → w.cell? ⟨b, off + j, none⟩ = some (.int .i64 (x1[j]?.getD 0))) := by
      obtain ⟨X, hX⟩ := hst
      obtain ⟨⟨a, cap, hv, hc, hm, hx⟩, _⟩ := hX.ro _ q1
      refine ⟨a, cap, hv, hm, fun hpos => ?_⟩
      have hget : ∀ j, j < x1.length → a = some (sAddr h1.v) ∧ w.cell? ((sAddr h1.v).add j) = some (.int .i64 (x1[j]?.getD 0)) := by
        intro j hj
        obtain ⟨ha, cs, hr, hcs⟩ := hx j x1[j] (by simp [hj])
        obtain rfl : cs = [Value.int .i64 x1[j]] := hr
        have := hcs 0 (.int .i64 x1[j]) rfl
        refine ⟨ha, ?_⟩
        rw [show j * (rI IntKind.i64).s + 0 = j from by show j * 1 + 0 = j; omega] at this
        rw [this]; simp [hj]
      obtain ⟨ha, h0⟩ := hget 0 hpos
      have hspot : (sAddr h1.v).spot = none := by
        have h00 : w.cell? (sAddr h1.v) = some (.int .i64 (x1[0]?.getD 0)) := h0
        unfold World.cell? at h00
        split at h00
        · split at h00
          · cases h00
          · rename_i h; simpa using h
        · cases h00
      obtain ⟨bb, off, hbo⟩ : ∃ bb off, sAddr h1.v = ⟨bb, off, none⟩ := ⟨_, _, by rw [← hspot]⟩
      rw [hbo] at hget ha
      refine ⟨bb, off, ha, ?_, fun j hj => ?_⟩
      · have := (hget 0 hpos).2
        have := World.block_lt_of_cell? w _ this
        exact this
      · have := (hget j hj).2
        rwa [add_row] at this
    obtain ⟨a, cap, hv, hml, hcs⟩ := hsee
    refine callsIn_wide.1 ((appendSeq_in Fence.wide 2 trivial trivial rfl (by omega) b a x1.length cap x1 hml (by omega) rfl w (by rw [← hv]; exact hcb) hlt hcs).mono ?_)
    rintro e w' ⟨v, rfl, hrow, hB⟩
    have hvh : ∃ h2 : Hdr, v = h2.v := by
      rcases hrow.2 with ⟨rfl, _⟩ | ⟨g, c, cur, rfl, _⟩
      · exact ⟨hnil, rfl⟩
      · exact ⟨⟨_, _, _⟩, rfl⟩
    obtain ⟨h2, rfl⟩ := hvh
    refine ⟨h2, rfl, hst.new ⟨hB.os, hB.tape, hB.output, hB.size, fun k hk _ => hB.block k hk⟩ fun X _ _ => ⟨fun k => h2.v.ownBlock = some k, ?_, fun k hk => (hrow.lt k hk).1⟩⟩
    refine ⟨hml, x1.map cI, cI_all _ _ _, ?_, fun _ => Iff.rfl⟩
    · rw [cI_cells]
      refine ⟨hrow.1, ?_⟩
      rcases hrow.2 with h | ⟨g, c, cur, e1, e2, e3⟩
      · exact .inl h
      · exact .inr ⟨g, c, cur, e1, Nat.zero_le _, e3⟩
  · cases hM
end Go.Proofs.YtnfamnfdndaekaaGreatDoor
