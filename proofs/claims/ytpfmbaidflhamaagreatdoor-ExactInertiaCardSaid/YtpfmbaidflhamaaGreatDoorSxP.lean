/- Short forms of the steps: what is plain from the program's text is left out. It holds over any program. -/
import Derived.Test.YtpfmbaidflhamaaGreatDoorSxO
namespace Sx
open Go
section
variable {P : Program} {ops : Array Oper} {Q : Exit → Act → World → Prop} {n : Nat} {f : Nat → Value} {w : World} {rest : List Oper} {a : Act} {d d' : Nat} {t : TypeId} {p : String} {af : Array Edge} {ins : Op} {v : Value} {D : Option Tmp} {g : Option (Nat × Bool)}
theorem e0 {i : Nat} (ht : Nat.blt i n = true := by exact rfl) : (fr n f).eval (.tmp i) = f i := et ht rfl
theorem eh {i : Nat} (h : f i = v) (ht : Nat.blt i n = true := by exact rfl) : (fr n f).eval (.tmp i) = v := et ht h
theorem m_ {x : Operand} (v : Value) (hx : a.eval x = v) : Yi P a w ⟨D, .move x, t, p, af, g⟩ v := ym hx
theorem a_ {x : Operand} (v : Value) (hx : a.eval x = v) : Yi P a w ⟨D, .assign x, t, p, af, g⟩ v := ya hx
theorem pt_ {c x y : Operand} (v : Value) {b : Bool} (hc : a.eval c = .bool b) (hb : b = true) (hx : a.eval x = v) : Yi P a w ⟨D, .pick c x y, t, p, af, g⟩ v := ypt hc hb hx
theorem pf_ {c x y : Operand} (v : Value) {b : Bool} (hc : a.eval c = .bool b) (hb : b = false) (hx : a.eval y = v) : Yi P a w ⟨D, .pick c x y, t, p, af, g⟩ v := ypf hc hb hx
theorem x_ {x : Operand} {i : Nat} {vs : Array Value} (v : Value) (hx : a.eval x = .tuple vs) (hv : vs[i]? = some v := by exact rfl) : Yi P a w ⟨D, .extract x i, t, p, af, g⟩ v := yx hx hv
theorem Ym {x : Operand} (v : Value) (hx : (fr n f).eval x = v) (k : wpList P ops Q rest (fr n (upd f d v)) w) : wpList P ops Q (⟨some d, .move x, t, p, af, none⟩ :: rest) (fr n f) w := Y wn rfl (ym hx) k
theorem Ya {x : Operand} (v : Value) (hx : (fr n f).eval x = v) (k : wpList P ops Q rest (fr n (upd f d v)) w) : wpList P ops Q (⟨some d, .assign x, t, p, af, none⟩ :: rest) (fr n f) w := Y wn rfl (ya hx) k
theorem yY (hy : Yi P (fr n f) w ⟨some d, ins, t, p, af, none⟩ v) (k : wpList P ops Q rest (fr n (upd f d v)) w) : wpList P ops Q (⟨some d, ins, t, p, af, none⟩ :: rest) (fr n f) w := Y wn rfl hy k
theorem yH {S : Hdr → World → Prop} (hy : ∃ (h : Hdr) (w' : World), (execOp (fr n f).eval ⟨some d, ins, t, p, af, none⟩).run P w = .ok (.value h.v) w' ∧ S h w') (k : ∀ (h : Hdr) (w' : World), S h w' → wpList P ops Q rest (fr n (upd f d h.v)) w') : wpList P ops Q (⟨some d, ins, t, p, af, none⟩ :: rest) (fr n f) w := YH wn rfl hy k
theorem yBb {S : Nat → World → Prop} (hy : ∃ (b : Nat) (w' : World), (execOp (fr n f).eval ⟨some d, ins, t, p, af, none⟩).run P w = .ok (.value (.pointer (some ⟨b, 0, none⟩))) w' ∧ S b w') (k : ∀ (b : Nat) (w' : World), S b w' → wpList P ops Q rest (fr n (upd f d (.pointer (some ⟨b, 0, none⟩)))) w') : wpList P ops Q (⟨some d, ins, t, p, af, none⟩ :: rest) (fr n f) w := YB wn rfl hy k
theorem yT {S : World → Prop} (hy : ∃ (w' : World), (execOp (fr n f).eval ⟨none, ins, t, p, af, none⟩).run P w = .ok .skip w' ∧ S w') (k : ∀ (w' : World), S w' → wpList P ops Q rest (fr n f) w') : wpList P ops Q (⟨none, ins, t, p, af, none⟩ :: rest) (fr n f) w := YT wn rfl hy k
theorem yC {g : FuncId} {args : Array Value} {R : Ending → World → Prop} (hy : (execOp (fr n f).eval ⟨some d, ins, t, p, af, none⟩).run P w = .ok (.enter g args) w) (hc : Calls P g args w R) (k : ∀ e w', R e w' → ∃ v, e = .returned v ∧ wpList P ops Q rest (fr n (upd f d v)) w') : wpList P ops Q (⟨some d, ins, t, p, af, none⟩ :: rest) (fr n f) w := Yc wn rfl hy hc k
theorem wG {j : Nat} {b c : Bool} (hc : c = b) (hd : ((ops[j]?).bind (·.dst)) = some d := by exact rfl) (ht : Nat.blt d n = true := by exact rfl) (h : f d = .bool c := by exact rfl) : Wn ops n f (some (j, b)) := wg hd ht h hc
theorem wX {j : Nat} {b c : Bool} (hc : c = !b) (hd : ((ops[j]?).bind (·.dst)) = some d := by exact rfl) (ht : Nat.blt d n = true := by exact rfl) (h : f d = .bool c := by exact rfl) : Wx ops n f (some (j, b)) := wx hd ht h hc
theorem yG {j : Nat} {b c : Bool} (hc : c = b) (hy : Yi P (fr n f) w ⟨some d, ins, t, p, af, some (j, b)⟩ v) (k : wpList P ops Q rest (fr n (upd f d v)) w) (hd : ((ops[j]?).bind (·.dst)) = some d' := by exact rfl) (ht : Nat.blt d' n = true := by exact rfl) (h : f d' = .bool c := by exact rfl) : wpList P ops Q (⟨some d, ins, t, p, af, some (j, b)⟩ :: rest) (fr n f) w := Y (wg hd ht h hc) rfl hy k
theorem gN {j : Nat} {b c : Bool} (hc : c = !b) (k : wpList P ops Q rest (fr n (upd f d undef)) w) (hd : ((ops[j]?).bind (·.dst)) = some d' := by exact rfl) (ht : Nat.blt d' n = true := by exact rfl) (h : f d' = .bool c := by exact rfl) : wpList P ops Q (⟨some d, ins, t, p, af, some (j, b)⟩ :: rest) (fr n f) w := Gn (wx hd ht h hc) rfl k
end
section
variable {P : Program} {os : List Oper} {tb lo D l1 l2 lc : List Nat} {n : Nat} {f : Nat → Value} {w : World} {Q : Exit → Act → World → Prop} {m : Nat} {v : Value} {d i : Nat} {ins : Op} {t : TypeId} {p : String} {af : Array Edge} {r : List Nat} {K : (Nat → Value) → Prop}
theorem yR (ho : os[i]? = some ⟨some d, ins, t, p, af, none⟩) (hy : Yi P (fr n f) w ⟨some d, ins, t, p, af, none⟩ v) (k : QR P os n w K r (upd f d v)) : QR P os n w K (i :: r) f := Ry ho rfl wn hy k
theorem yS (ho : os[i]? = some ⟨some d, ins, t, p, af, none⟩) (hy : Yi P (fr n f) w ⟨some d, ins, t, p, af, none⟩ v) (k : QS P os n w f r) (hv : f d = v := by exact rfl) : QS P os n w f (i :: r) := Sy ho rfl wn hy hv k
theorem Dz (l1 l2 : List Nat) (h : QR P os n w (fun f => QS P os n w f l2 ∧ Q .normal (fr n f) w) l1 f) (h1 : newQ os.length tb lo D = l1 := by kernel_rfl) (h2 : oldQ os.length tb lo D = l2 := by kernel_rfl) : DR P os tb lo n Q 0 D f w := DRz h1 h2 h
theorem Dn (l1 l2 lc : List Nat) (h : QR P os n w (fun f => QS P os n w f l2 ∧ LA P os n f w (fun e o v w' => DR P os tb lo n Q m (e :: D) (updO f o.dst v) w') lc) l1 f) (h1 : newQ os.length tb lo D = l1 := by kernel_rfl) (h2 : oldQ os.length tb lo D = l2 := by kernel_rfl) (h3 : candL tb lo D = lc := by kernel_rfl) : DR P os tb lo n Q (m + 1) D f w := DRn h1 h2 h3 h
theorem Lc1 {o : Oper} {e : Nat} {G : Nat → Oper → Value → World → Prop} (ho : os[e]? = some o) (h : LS P os n f w o (G e o)) : LA P os n f w G [e] := Lc ho h LAn
end
section
variable {P : Program} {Q : Exit → Act → World → Prop} {a : Act} {w : World} {x y : Code} {ops : Array Oper} {l : List Oper} {id : Nat}
theorem wR (h : wpList P l.toArray Q l a w) : (Code.region id l.toArray false).wp P Q a w := wp_region_lit h
theorem wN (h : Q .normal a w) : wpList P ops Q [] a w := wpList_nil h
theorem wK {Q' : Exit → Act → World → Prop} (k : ∀ a w, y.wp P Q a w → Q' .normal a w) (h : y.wp P Q a w) : wpList P ops Q' [] a w := wpList_nil (k _ _ h)
theorem sQ (h : ∀ Q' : Exit → Act → World → Prop, (∀ a w, y.wp P Q a w → Q' .normal a w) → x.wp P Q' a w) : (Code.seq x y).wp P Q a w := seqQ fun Q' k _ => h Q' k
theorem sR (h : ∀ Q' : Exit → Act → World → Prop, (∀ a w, y.wp P Q a w → Q' .normal a w) → wpList P l.toArray Q' l a w) : (Code.seq (Code.region id l.toArray false) y).wp P Q a w := seqQ fun Q' k _ => wp_region_lit (h Q' k)
theorem sRz (h : ∀ Q' : Exit → Act → World → Prop, (∀ a w, y.wp P Q a w → Q' .normal a w) → (∀ e a w, nn e = true → Q e a w → Q' e a w) → wpList P l.toArray Q' l a w) : (Code.seq (Code.region id l.toArray false) y).wp P Q a w := seqQ fun Q' k z => wp_region_lit (h Q' k z)
theorem dR {os : List Oper} {n : Nat} {f : Nat → Value} (tb lo : List Nat) (m : Nat) (hm : P.follows .mixedOrders = true) (h : DR P os tb lo n Q m [] f { w with drawn := w.drawn + 1 }) (hc : allOK os tb lo = true := by kernel_rfl) (hlo : lo.all (fun k => Nat.blt k os.length) = true := by kernel_rfl) (hml : Nat.beq lo.length m = true := by kernel_rfl) : (Code.region id os.toArray true).wp P Q (fr n f) w := wp_drawR tb lo m hm hc hlo hml h
theorem sQz (h : ∀ Q' : Exit → Act → World → Prop, (∀ a w, y.wp P Q a w → Q' .normal a w) → (∀ e a w, nn e = true → Q e a w → Q' e a w) → x.wp P Q' a w) : (Code.seq x y).wp P Q a w := seqQ h
end
theorem bE {α β : Type} {e : Option α} {g : α → Option β} {r : β} {G : Prop} (h : e.bind g = some r) (k : ∀ x, e = some x → g x = some r → G) : G := by
  obtain ⟨x, h1, h2⟩ := bs h
  exact k x h1 h2
theorem cIf {P : Program} {Q : Exit → Act → World → Prop} {a : Act} {w : World} {c : Operand} {x y : Code} {p : Prop} [Decidable p] {α : Type} {A B : Option α} {r : α} (hc : a.eval c = .bool (decide p)) (hM : (if p then A else B) = some r) (h1 : p → A = some r → x.wp P Q a w) (h2 : ¬ p → B = some r → y.wp P Q a w) : (Code.cond c x y).wp P Q a w := by
  rcases iteS hM with ⟨h, hM⟩ | ⟨h, hM⟩
  · exact condT hc (decide_eq_true h) (h1 h hM)
  · exact condF hc (decide_eq_false h) (h2 h hM)
theorem cB {P : Program} {Q : Exit → Act → World → Prop} {a : Act} {w : World} {c : Operand} {x y : Code} {b : Bool} {α : Type} {A B : Option α} {r : α} (hc : a.eval c = .bool b) (hM : (if b = true then A else B) = some r) (h1 : b = true → A = some r → x.wp P Q a w) (h2 : ¬ b = true → B = some r → y.wp P Q a w) : (Code.cond c x y).wp P Q a w := by
  rcases iteS hM with ⟨h, hM⟩ | ⟨h, hM⟩
  · exact condT hc h (h1 h hM)
  · exact condF hc (by simpa using h) (h2 h hM)
theorem dT {p : Prop} [Decidable p] (h : p) : decide p = true := decide_eq_true h
theorem dF {p : Prop} [Decidable p] (h : ¬ p) : decide p = false := decide_eq_false h
theorem cT {P : Program} {Q : Exit → Act → World → Prop} {a : Act} {w : World} {c : Operand} {x y : Code} {p : Prop} [Decidable p] (hc : a.eval c = .bool (decide p)) (hb : p) (h : x.wp P Q a w) : (Code.cond c x y).wp P Q a w := condT hc (decide_eq_true hb) h
theorem cF {P : Program} {Q : Exit → Act → World → Prop} {a : Act} {w : World} {c : Operand} {x y : Code} {p : Prop} [Decidable p] (hc : a.eval c = .bool (decide p)) (hb : ¬ p) (h : y.wp P Q a w) : (Code.cond c x y).wp P Q a w := condF hc (decide_eq_false hb) h
section
variable {P : Program} {f : Nat → Value} {a : Act} {w w0 : World} {d : Option Tmp} {t : TypeId} {p : String} {af : Array Edge} {g : Option (Nat × Bool)} {ros : List Fact} {rs : List Res} {T : TypeId} {x : Operand}
theorem lb_ {b o : Nat} {vals : List Value} {bt : TypeId} (u : Value) (hO : OneT P T) (hx : a.eval x = .pointer (some ⟨b, o, none⟩)) (hst : St w0 ros rs w) (hm : box b bt vals ∈ rs) (hu : vals[o]? = some u := by exact rfl) : Yi P a w ⟨d, .load T x, t, p, af, g⟩ u := yLb hO hx hst hm hu
theorem lbs_ {b o n : Nat} {vals : List Value} {bt : TypeId} (us : List Value) (hT : StT P T n) (hx : a.eval x = .pointer (some ⟨b, o, none⟩)) (hst : St w0 ros rs w) (hm : box b bt vals ∈ rs) (hu : (vals.drop o).take n = us := by exact rfl) (hl : us.length = n := by exact rfl) : Yi P a w ⟨d, .load T x, t, p, af, g⟩ (.agg us.toArray) := yLbs hT hx hst hm hu hl
end
abbrev iV (n : Int) : Value := .int .i64 n
abbrev pB (b : Nat) : Value := .pointer (some ⟨b, 0, none⟩)
abbrev I1 := rI .i64
abbrev S1 := rS (rI .i64)
abbrev S2 := rS (rS (rI .i64))
abbrev SB := rS rB
theorem R0 {q : Res} {l : List Res} : q ∈ q :: l := .head _
theorem F0 {q : Fact} {l : List Fact} : q ∈ q :: l := .head _
theorem R1 {x1 q : Res} {l : List Res} : q ∈ x1 :: q :: l := mtR R0
theorem F1 {x1 q : Fact} {l : List Fact} : q ∈ x1 :: q :: l := mtF F0
theorem R2 {x1 x2 q : Res} {l : List Res} : q ∈ x1 :: x2 :: q :: l := mtR R1
theorem F2 {x1 x2 q : Fact} {l : List Fact} : q ∈ x1 :: x2 :: q :: l := mtF F1
theorem R_2 {x1 x2 q : Res} {l : List Res} (h : q ∈ l) : q ∈ x1 :: x2 :: l := mtR (mtR h)
theorem F_2 {x1 x2 q : Fact} {l : List Fact} (h : q ∈ l) : q ∈ x1 :: x2 :: l := mtF (mtF h)
theorem R3 {x1 x2 x3 q : Res} {l : List Res} : q ∈ x1 :: x2 :: x3 :: q :: l := mtR R2
theorem F3 {x1 x2 x3 q : Fact} {l : List Fact} : q ∈ x1 :: x2 :: x3 :: q :: l := mtF F2
theorem R_3 {x1 x2 x3 q : Res} {l : List Res} (h : q ∈ l) : q ∈ x1 :: x2 :: x3 :: l := mtR (R_2 h)
theorem F_3 {x1 x2 x3 q : Fact} {l : List Fact} (h : q ∈ l) : q ∈ x1 :: x2 :: x3 :: l := mtF (F_2 h)
theorem R4 {x1 x2 x3 x4 q : Res} {l : List Res} : q ∈ x1 :: x2 :: x3 :: x4 :: q :: l := mtR R3
theorem F4 {x1 x2 x3 x4 q : Fact} {l : List Fact} : q ∈ x1 :: x2 :: x3 :: x4 :: q :: l := mtF F3
theorem R_4 {x1 x2 x3 x4 q : Res} {l : List Res} (h : q ∈ l) : q ∈ x1 :: x2 :: x3 :: x4 :: l := mtR (R_3 h)
theorem F_4 {x1 x2 x3 x4 q : Fact} {l : List Fact} (h : q ∈ l) : q ∈ x1 :: x2 :: x3 :: x4 :: l := mtF (F_3 h)
theorem R5 {x1 x2 x3 x4 x5 q : Res} {l : List Res} : q ∈ x1 :: x2 :: x3 :: x4 :: x5 :: q :: l := mtR R4
theorem F5 {x1 x2 x3 x4 x5 q : Fact} {l : List Fact} : q ∈ x1 :: x2 :: x3 :: x4 :: x5 :: q :: l := mtF F4
theorem R_5 {x1 x2 x3 x4 x5 q : Res} {l : List Res} (h : q ∈ l) : q ∈ x1 :: x2 :: x3 :: x4 :: x5 :: l := mtR (R_4 h)
theorem F_5 {x1 x2 x3 x4 x5 q : Fact} {l : List Fact} (h : q ∈ l) : q ∈ x1 :: x2 :: x3 :: x4 :: x5 :: l := mtF (F_4 h)
theorem R6 {x1 x2 x3 x4 x5 x6 q : Res} {l : List Res} : q ∈ x1 :: x2 :: x3 :: x4 :: x5 :: x6 :: q :: l := mtR R5
theorem F6 {x1 x2 x3 x4 x5 x6 q : Fact} {l : List Fact} : q ∈ x1 :: x2 :: x3 :: x4 :: x5 :: x6 :: q :: l := mtF F5
theorem R_6 {x1 x2 x3 x4 x5 x6 q : Res} {l : List Res} (h : q ∈ l) : q ∈ x1 :: x2 :: x3 :: x4 :: x5 :: x6 :: l := mtR (R_5 h)
theorem F_6 {x1 x2 x3 x4 x5 x6 q : Fact} {l : List Fact} (h : q ∈ l) : q ∈ x1 :: x2 :: x3 :: x4 :: x5 :: x6 :: l := mtF (F_5 h)
theorem R7 {x1 x2 x3 x4 x5 x6 x7 q : Res} {l : List Res} : q ∈ x1 :: x2 :: x3 :: x4 :: x5 :: x6 :: x7 :: q :: l := mtR R6
theorem F7 {x1 x2 x3 x4 x5 x6 x7 q : Fact} {l : List Fact} : q ∈ x1 :: x2 :: x3 :: x4 :: x5 :: x6 :: x7 :: q :: l := mtF F6
theorem R_7 {x1 x2 x3 x4 x5 x6 x7 q : Res} {l : List Res} (h : q ∈ l) : q ∈ x1 :: x2 :: x3 :: x4 :: x5 :: x6 :: x7 :: l := mtR (R_6 h)
theorem F_7 {x1 x2 x3 x4 x5 x6 x7 q : Fact} {l : List Fact} (h : q ∈ l) : q ∈ x1 :: x2 :: x3 :: x4 :: x5 :: x6 :: x7 :: l := mtF (F_6 h)
theorem R8 {x1 x2 x3 x4 x5 x6 x7 x8 q : Res} {l : List Res} : q ∈ x1 :: x2 :: x3 :: x4 :: x5 :: x6 :: x7 :: x8 :: q :: l := mtR R7
theorem F8 {x1 x2 x3 x4 x5 x6 x7 x8 q : Fact} {l : List Fact} : q ∈ x1 :: x2 :: x3 :: x4 :: x5 :: x6 :: x7 :: x8 :: q :: l := mtF F7
theorem R_8 {x1 x2 x3 x4 x5 x6 x7 x8 q : Res} {l : List Res} (h : q ∈ l) : q ∈ x1 :: x2 :: x3 :: x4 :: x5 :: x6 :: x7 :: x8 :: l := mtR (R_7 h)
theorem F_8 {x1 x2 x3 x4 x5 x6 x7 x8 q : Fact} {l : List Fact} (h : q ∈ l) : q ∈ x1 :: x2 :: x3 :: x4 :: x5 :: x6 :: x7 :: x8 :: l := mtF (F_7 h)
theorem R9 {x1 x2 x3 x4 x5 x6 x7 x8 x9 q : Res} {l : List Res} : q ∈ x1 :: x2 :: x3 :: x4 :: x5 :: x6 :: x7 :: x8 :: x9 :: q :: l := mtR R8
theorem F9 {x1 x2 x3 x4 x5 x6 x7 x8 x9 q : Fact} {l : List Fact} : q ∈ x1 :: x2 :: x3 :: x4 :: x5 :: x6 :: x7 :: x8 :: x9 :: q :: l := mtF F8
theorem R_9 {x1 x2 x3 x4 x5 x6 x7 x8 x9 q : Res} {l : List Res} (h : q ∈ l) : q ∈ x1 :: x2 :: x3 :: x4 :: x5 :: x6 :: x7 :: x8 :: x9 :: l := mtR (R_8 h)
theorem F_9 {x1 x2 x3 x4 x5 x6 x7 x8 x9 q : Fact} {l : List Fact} (h : q ∈ l) : q ∈ x1 :: x2 :: x3 :: x4 :: x5 :: x6 :: x7 :: x8 :: x9 :: l := mtF (F_8 h)
theorem R10 {x1 x2 x3 x4 x5 x6 x7 x8 x9 x10 q : Res} {l : List Res} : q ∈ x1 :: x2 :: x3 :: x4 :: x5 :: x6 :: x7 :: x8 :: x9 :: x10 :: q :: l := mtR R9
theorem F10 {x1 x2 x3 x4 x5 x6 x7 x8 x9 x10 q : Fact} {l : List Fact} : q ∈ x1 :: x2 :: x3 :: x4 :: x5 :: x6 :: x7 :: x8 :: x9 :: x10 :: q :: l := mtF F9
theorem R_10 {x1 x2 x3 x4 x5 x6 x7 x8 x9 x10 q : Res} {l : List Res} (h : q ∈ l) : q ∈ x1 :: x2 :: x3 :: x4 :: x5 :: x6 :: x7 :: x8 :: x9 :: x10 :: l := mtR (R_9 h)
theorem F_10 {x1 x2 x3 x4 x5 x6 x7 x8 x9 x10 q : Fact} {l : List Fact} (h : q ∈ l) : q ∈ x1 :: x2 :: x3 :: x4 :: x5 :: x6 :: x7 :: x8 :: x9 :: x10 :: l := mtF (F_9 h)
theorem R11 {x1 x2 x3 x4 x5 x6 x7 x8 x9 x10 x11 q : Res} {l : List Res} : q ∈ x1 :: x2 :: x3 :: x4 :: x5 :: x6 :: x7 :: x8 :: x9 :: x10 :: x11 :: q :: l := mtR R10
theorem F11 {x1 x2 x3 x4 x5 x6 x7 x8 x9 x10 x11 q : Fact} {l : List Fact} : q ∈ x1 :: x2 :: x3 :: x4 :: x5 :: x6 :: x7 :: x8 :: x9 :: x10 :: x11 :: q :: l := mtF F10
theorem R_11 {x1 x2 x3 x4 x5 x6 x7 x8 x9 x10 x11 q : Res} {l : List Res} (h : q ∈ l) : q ∈ x1 :: x2 :: x3 :: x4 :: x5 :: x6 :: x7 :: x8 :: x9 :: x10 :: x11 :: l := mtR (R_10 h)
theorem F_11 {x1 x2 x3 x4 x5 x6 x7 x8 x9 x10 x11 q : Fact} {l : List Fact} (h : q ∈ l) : q ∈ x1 :: x2 :: x3 :: x4 :: x5 :: x6 :: x7 :: x8 :: x9 :: x10 :: x11 :: l := mtF (F_10 h)
theorem R12 {x1 x2 x3 x4 x5 x6 x7 x8 x9 x10 x11 x12 q : Res} {l : List Res} : q ∈ x1 :: x2 :: x3 :: x4 :: x5 :: x6 :: x7 :: x8 :: x9 :: x10 :: x11 :: x12 :: q :: l := mtR R11
theorem F12 {x1 x2 x3 x4 x5 x6 x7 x8 x9 x10 x11 x12 q : Fact} {l : List Fact} : q ∈ x1 :: x2 :: x3 :: x4 :: x5 :: x6 :: x7 :: x8 :: x9 :: x10 :: x11 :: x12 :: q :: l := mtF F11
theorem R_12 {x1 x2 x3 x4 x5 x6 x7 x8 x9 x10 x11 x12 q : Res} {l : List Res} (h : q ∈ l) : q ∈ x1 :: x2 :: x3 :: x4 :: x5 :: x6 :: x7 :: x8 :: x9 :: x10 :: x11 :: x12 :: l := mtR (R_11 h)
theorem F_12 {x1 x2 x3 x4 x5 x6 x7 x8 x9 x10 x11 x12 q : Fact} {l : List Fact} (h : q ∈ l) : q ∈ x1 :: x2 :: x3 :: x4 :: x5 :: x6 :: x7 :: x8 :: x9 :: x10 :: x11 :: x12 :: l := mtF (F_11 h)
theorem R13 {x1 x2 x3 x4 x5 x6 x7 x8 x9 x10 x11 x12 x13 q : Res} {l : List Res} : q ∈ x1 :: x2 :: x3 :: x4 :: x5 :: x6 :: x7 :: x8 :: x9 :: x10 :: x11 :: x12 :: x13 :: q :: l := mtR R12
theorem F13 {x1 x2 x3 x4 x5 x6 x7 x8 x9 x10 x11 x12 x13 q : Fact} {l : List Fact} : q ∈ x1 :: x2 :: x3 :: x4 :: x5 :: x6 :: x7 :: x8 :: x9 :: x10 :: x11 :: x12 :: x13 :: q :: l := mtF F12
theorem R_13 {x1 x2 x3 x4 x5 x6 x7 x8 x9 x10 x11 x12 x13 q : Res} {l : List Res} (h : q ∈ l) : q ∈ x1 :: x2 :: x3 :: x4 :: x5 :: x6 :: x7 :: x8 :: x9 :: x10 :: x11 :: x12 :: x13 :: l := mtR (R_12 h)
theorem F_13 {x1 x2 x3 x4 x5 x6 x7 x8 x9 x10 x11 x12 x13 q : Fact} {l : List Fact} (h : q ∈ l) : q ∈ x1 :: x2 :: x3 :: x4 :: x5 :: x6 :: x7 :: x8 :: x9 :: x10 :: x11 :: x12 :: x13 :: l := mtF (F_12 h)
theorem R14 {x1 x2 x3 x4 x5 x6 x7 x8 x9 x10 x11 x12 x13 x14 q : Res} {l : List Res} : q ∈ x1 :: x2 :: x3 :: x4 :: x5 :: x6 :: x7 :: x8 :: x9 :: x10 :: x11 :: x12 :: x13 :: x14 :: q :: l := mtR R13
theorem F14 {x1 x2 x3 x4 x5 x6 x7 x8 x9 x10 x11 x12 x13 x14 q : Fact} {l : List Fact} : q ∈ x1 :: x2 :: x3 :: x4 :: x5 :: x6 :: x7 :: x8 :: x9 :: x10 :: x11 :: x12 :: x13 :: x14 :: q :: l := mtF F13
theorem R_14 {x1 x2 x3 x4 x5 x6 x7 x8 x9 x10 x11 x12 x13 x14 q : Res} {l : List Res} (h : q ∈ l) : q ∈ x1 :: x2 :: x3 :: x4 :: x5 :: x6 :: x7 :: x8 :: x9 :: x10 :: x11 :: x12 :: x13 :: x14 :: l := mtR (R_13 h)
theorem F_14 {x1 x2 x3 x4 x5 x6 x7 x8 x9 x10 x11 x12 x13 x14 q : Fact} {l : List Fact} (h : q ∈ l) : q ∈ x1 :: x2 :: x3 :: x4 :: x5 :: x6 :: x7 :: x8 :: x9 :: x10 :: x11 :: x12 :: x13 :: x14 :: l := mtF (F_13 h)
theorem R15 {x1 x2 x3 x4 x5 x6 x7 x8 x9 x10 x11 x12 x13 x14 x15 q : Res} {l : List Res} : q ∈ x1 :: x2 :: x3 :: x4 :: x5 :: x6 :: x7 :: x8 :: x9 :: x10 :: x11 :: x12 :: x13 :: x14 :: x15 :: q :: l := mtR R14
theorem F15 {x1 x2 x3 x4 x5 x6 x7 x8 x9 x10 x11 x12 x13 x14 x15 q : Fact} {l : List Fact} : q ∈ x1 :: x2 :: x3 :: x4 :: x5 :: x6 :: x7 :: x8 :: x9 :: x10 :: x11 :: x12 :: x13 :: x14 :: x15 :: q :: l := mtF F14
theorem R_15 {x1 x2 x3 x4 x5 x6 x7 x8 x9 x10 x11 x12 x13 x14 x15 q : Res} {l : List Res} (h : q ∈ l) : q ∈ x1 :: x2 :: x3 :: x4 :: x5 :: x6 :: x7 :: x8 :: x9 :: x10 :: x11 :: x12 :: x13 :: x14 :: x15 :: l := mtR (R_14 h)
theorem F_15 {x1 x2 x3 x4 x5 x6 x7 x8 x9 x10 x11 x12 x13 x14 x15 q : Fact} {l : List Fact} (h : q ∈ l) : q ∈ x1 :: x2 :: x3 :: x4 :: x5 :: x6 :: x7 :: x8 :: x9 :: x10 :: x11 :: x12 :: x13 :: x14 :: x15 :: l := mtF (F_14 h)
theorem R16 {x1 x2 x3 x4 x5 x6 x7 x8 x9 x10 x11 x12 x13 x14 x15 x16 q : Res} {l : List Res} : q ∈ x1 :: x2 :: x3 :: x4 :: x5 :: x6 :: x7 :: x8 :: x9 :: x10 :: x11 :: x12 :: x13 :: x14 :: x15 :: x16 :: q :: l := mtR R15
theorem F16 {x1 x2 x3 x4 x5 x6 x7 x8 x9 x10 x11 x12 x13 x14 x15 x16 q : Fact} {l : List Fact} : q ∈ x1 :: x2 :: x3 :: x4 :: x5 :: x6 :: x7 :: x8 :: x9 :: x10 :: x11 :: x12 :: x13 :: x14 :: x15 :: x16 :: q :: l := mtF F15
theorem R_16 {x1 x2 x3 x4 x5 x6 x7 x8 x9 x10 x11 x12 x13 x14 x15 x16 q : Res} {l : List Res} (h : q ∈ l) : q ∈ x1 :: x2 :: x3 :: x4 :: x5 :: x6 :: x7 :: x8 :: x9 :: x10 :: x11 :: x12 :: x13 :: x14 :: x15 :: x16 :: l := mtR (R_15 h)
theorem F_16 {x1 x2 x3 x4 x5 x6 x7 x8 x9 x10 x11 x12 x13 x14 x15 x16 q : Fact} {l : List Fact} (h : q ∈ l) : q ∈ x1 :: x2 :: x3 :: x4 :: x5 :: x6 :: x7 :: x8 :: x9 :: x10 :: x11 :: x12 :: x13 :: x14 :: x15 :: x16 :: l := mtF (F_15 h)
theorem R17 {x1 x2 x3 x4 x5 x6 x7 x8 x9 x10 x11 x12 x13 x14 x15 x16 x17 q : Res} {l : List Res} : q ∈ x1 :: x2 :: x3 :: x4 :: x5 :: x6 :: x7 :: x8 :: x9 :: x10 :: x11 :: x12 :: x13 :: x14 :: x15 :: x16 :: x17 :: q :: l := mtR R16
theorem F17 {x1 x2 x3 x4 x5 x6 x7 x8 x9 x10 x11 x12 x13 x14 x15 x16 x17 q : Fact} {l : List Fact} : q ∈ x1 :: x2 :: x3 :: x4 :: x5 :: x6 :: x7 :: x8 :: x9 :: x10 :: x11 :: x12 :: x13 :: x14 :: x15 :: x16 :: x17 :: q :: l := mtF F16
theorem R_17 {x1 x2 x3 x4 x5 x6 x7 x8 x9 x10 x11 x12 x13 x14 x15 x16 x17 q : Res} {l : List Res} (h : q ∈ l) : q ∈ x1 :: x2 :: x3 :: x4 :: x5 :: x6 :: x7 :: x8 :: x9 :: x10 :: x11 :: x12 :: x13 :: x14 :: x15 :: x16 :: x17 :: l := mtR (R_16 h)
theorem F_17 {x1 x2 x3 x4 x5 x6 x7 x8 x9 x10 x11 x12 x13 x14 x15 x16 x17 q : Fact} {l : List Fact} (h : q ∈ l) : q ∈ x1 :: x2 :: x3 :: x4 :: x5 :: x6 :: x7 :: x8 :: x9 :: x10 :: x11 :: x12 :: x13 :: x14 :: x15 :: x16 :: x17 :: l := mtF (F_16 h)
theorem R18 {x1 x2 x3 x4 x5 x6 x7 x8 x9 x10 x11 x12 x13 x14 x15 x16 x17 x18 q : Res} {l : List Res} : q ∈ x1 :: x2 :: x3 :: x4 :: x5 :: x6 :: x7 :: x8 :: x9 :: x10 :: x11 :: x12 :: x13 :: x14 :: x15 :: x16 :: x17 :: x18 :: q :: l := mtR R17
theorem F18 {x1 x2 x3 x4 x5 x6 x7 x8 x9 x10 x11 x12 x13 x14 x15 x16 x17 x18 q : Fact} {l : List Fact} : q ∈ x1 :: x2 :: x3 :: x4 :: x5 :: x6 :: x7 :: x8 :: x9 :: x10 :: x11 :: x12 :: x13 :: x14 :: x15 :: x16 :: x17 :: x18 :: q :: l := mtF F17
theorem R_18 {x1 x2 x3 x4 x5 x6 x7 x8 x9 x10 x11 x12 x13 x14 x15 x16 x17 x18 q : Res} {l : List Res} (h : q ∈ l) : q ∈ x1 :: x2 :: x3 :: x4 :: x5 :: x6 :: x7 :: x8 :: x9 :: x10 :: x11 :: x12 :: x13 :: x14 :: x15 :: x16 :: x17 :: x18 :: l := mtR (R_17 h)
theorem F_18 {x1 x2 x3 x4 x5 x6 x7 x8 x9 x10 x11 x12 x13 x14 x15 x16 x17 x18 q : Fact} {l : List Fact} (h : q ∈ l) : q ∈ x1 :: x2 :: x3 :: x4 :: x5 :: x6 :: x7 :: x8 :: x9 :: x10 :: x11 :: x12 :: x13 :: x14 :: x15 :: x16 :: x17 :: x18 :: l := mtF (F_17 h)
theorem R19 {x1 x2 x3 x4 x5 x6 x7 x8 x9 x10 x11 x12 x13 x14 x15 x16 x17 x18 x19 q : Res} {l : List Res} : q ∈ x1 :: x2 :: x3 :: x4 :: x5 :: x6 :: x7 :: x8 :: x9 :: x10 :: x11 :: x12 :: x13 :: x14 :: x15 :: x16 :: x17 :: x18 :: x19 :: q :: l := mtR R18
theorem F19 {x1 x2 x3 x4 x5 x6 x7 x8 x9 x10 x11 x12 x13 x14 x15 x16 x17 x18 x19 q : Fact} {l : List Fact} : q ∈ x1 :: x2 :: x3 :: x4 :: x5 :: x6 :: x7 :: x8 :: x9 :: x10 :: x11 :: x12 :: x13 :: x14 :: x15 :: x16 :: x17 :: x18 :: x19 :: q :: l := mtF F18
theorem R_19 {x1 x2 x3 x4 x5 x6 x7 x8 x9 x10 x11 x12 x13 x14 x15 x16 x17 x18 x19 q : Res} {l : List Res} (h : q ∈ l) : q ∈ x1 :: x2 :: x3 :: x4 :: x5 :: x6 :: x7 :: x8 :: x9 :: x10 :: x11 :: x12 :: x13 :: x14 :: x15 :: x16 :: x17 :: x18 :: x19 :: l := mtR (R_18 h)
theorem F_19 {x1 x2 x3 x4 x5 x6 x7 x8 x9 x10 x11 x12 x13 x14 x15 x16 x17 x18 x19 q : Fact} {l : List Fact} (h : q ∈ l) : q ∈ x1 :: x2 :: x3 :: x4 :: x5 :: x6 :: x7 :: x8 :: x9 :: x10 :: x11 :: x12 :: x13 :: x14 :: x15 :: x16 :: x17 :: x18 :: x19 :: l := mtF (F_18 h)
theorem R20 {x1 x2 x3 x4 x5 x6 x7 x8 x9 x10 x11 x12 x13 x14 x15 x16 x17 x18 x19 x20 q : Res} {l : List Res} : q ∈ x1 :: x2 :: x3 :: x4 :: x5 :: x6 :: x7 :: x8 :: x9 :: x10 :: x11 :: x12 :: x13 :: x14 :: x15 :: x16 :: x17 :: x18 :: x19 :: x20 :: q :: l := mtR R19
theorem F20 {x1 x2 x3 x4 x5 x6 x7 x8 x9 x10 x11 x12 x13 x14 x15 x16 x17 x18 x19 x20 q : Fact} {l : List Fact} : q ∈ x1 :: x2 :: x3 :: x4 :: x5 :: x6 :: x7 :: x8 :: x9 :: x10 :: x11 :: x12 :: x13 :: x14 :: x15 :: x16 :: x17 :: x18 :: x19 :: x20 :: q :: l := mtF F19
theorem R_20 {x1 x2 x3 x4 x5 x6 x7 x8 x9 x10 x11 x12 x13 x14 x15 x16 x17 x18 x19 x20 q : Res} {l : List Res} (h : q ∈ l) : q ∈ x1 :: x2 :: x3 :: x4 :: x5 :: x6 :: x7 :: x8 :: x9 :: x10 :: x11 :: x12 :: x13 :: x14 :: x15 :: x16 :: x17 :: x18 :: x19 :: x20 :: l := mtR (R_19 h)
theorem F_20 {x1 x2 x3 x4 x5 x6 x7 x8 x9 x10 x11 x12 x13 x14 x15 x16 x17 x18 x19 x20 q : Fact} {l : List Fact} (h : q ∈ l) : q ∈ x1 :: x2 :: x3 :: x4 :: x5 :: x6 :: x7 :: x8 :: x9 :: x10 :: x11 :: x12 :: x13 :: x14 :: x15 :: x16 :: x17 :: x18 :: x19 :: x20 :: l := mtF (F_19 h)
theorem R21 {x1 x2 x3 x4 x5 x6 x7 x8 x9 x10 x11 x12 x13 x14 x15 x16 x17 x18 x19 x20 x21 q : Res} {l : List Res} : q ∈ x1 :: x2 :: x3 :: x4 :: x5 :: x6 :: x7 :: x8 :: x9 :: x10 :: x11 :: x12 :: x13 :: x14 :: x15 :: x16 :: x17 :: x18 :: x19 :: x20 :: x21 :: q :: l := mtR R20
theorem F21 {x1 x2 x3 x4 x5 x6 x7 x8 x9 x10 x11 x12 x13 x14 x15 x16 x17 x18 x19 x20 x21 q : Fact} {l : List Fact} : q ∈ x1 :: x2 :: x3 :: x4 :: x5 :: x6 :: x7 :: x8 :: x9 :: x10 :: x11 :: x12 :: x13 :: x14 :: x15 :: x16 :: x17 :: x18 :: x19 :: x20 :: x21 :: q :: l := mtF F20
theorem R_21 {x1 x2 x3 x4 x5 x6 x7 x8 x9 x10 x11 x12 x13 x14 x15 x16 x17 x18 x19 x20 x21 q : Res} {l : List Res} (h : q ∈ l) : q ∈ x1 :: x2 :: x3 :: x4 :: x5 :: x6 :: x7 :: x8 :: x9 :: x10 :: x11 :: x12 :: x13 :: x14 :: x15 :: x16 :: x17 :: x18 :: x19 :: x20 :: x21 :: l := mtR (R_20 h)
theorem F_21 {x1 x2 x3 x4 x5 x6 x7 x8 x9 x10 x11 x12 x13 x14 x15 x16 x17 x18 x19 x20 x21 q : Fact} {l : List Fact} (h : q ∈ l) : q ∈ x1 :: x2 :: x3 :: x4 :: x5 :: x6 :: x7 :: x8 :: x9 :: x10 :: x11 :: x12 :: x13 :: x14 :: x15 :: x16 :: x17 :: x18 :: x19 :: x20 :: x21 :: l := mtF (F_20 h)
theorem R22 {x1 x2 x3 x4 x5 x6 x7 x8 x9 x10 x11 x12 x13 x14 x15 x16 x17 x18 x19 x20 x21 x22 q : Res} {l : List Res} : q ∈ x1 :: x2 :: x3 :: x4 :: x5 :: x6 :: x7 :: x8 :: x9 :: x10 :: x11 :: x12 :: x13 :: x14 :: x15 :: x16 :: x17 :: x18 :: x19 :: x20 :: x21 :: x22 :: q :: l := mtR R21
theorem F22 {x1 x2 x3 x4 x5 x6 x7 x8 x9 x10 x11 x12 x13 x14 x15 x16 x17 x18 x19 x20 x21 x22 q : Fact} {l : List Fact} : q ∈ x1 :: x2 :: x3 :: x4 :: x5 :: x6 :: x7 :: x8 :: x9 :: x10 :: x11 :: x12 :: x13 :: x14 :: x15 :: x16 :: x17 :: x18 :: x19 :: x20 :: x21 :: x22 :: q :: l := mtF F21
theorem R_22 {x1 x2 x3 x4 x5 x6 x7 x8 x9 x10 x11 x12 x13 x14 x15 x16 x17 x18 x19 x20 x21 x22 q : Res} {l : List Res} (h : q ∈ l) : q ∈ x1 :: x2 :: x3 :: x4 :: x5 :: x6 :: x7 :: x8 :: x9 :: x10 :: x11 :: x12 :: x13 :: x14 :: x15 :: x16 :: x17 :: x18 :: x19 :: x20 :: x21 :: x22 :: l := mtR (R_21 h)
theorem F_22 {x1 x2 x3 x4 x5 x6 x7 x8 x9 x10 x11 x12 x13 x14 x15 x16 x17 x18 x19 x20 x21 x22 q : Fact} {l : List Fact} (h : q ∈ l) : q ∈ x1 :: x2 :: x3 :: x4 :: x5 :: x6 :: x7 :: x8 :: x9 :: x10 :: x11 :: x12 :: x13 :: x14 :: x15 :: x16 :: x17 :: x18 :: x19 :: x20 :: x21 :: x22 :: l := mtF (F_21 h)
theorem R23 {x1 x2 x3 x4 x5 x6 x7 x8 x9 x10 x11 x12 x13 x14 x15 x16 x17 x18 x19 x20 x21 x22 x23 q : Res} {l : List Res} : q ∈ x1 :: x2 :: x3 :: x4 :: x5 :: x6 :: x7 :: x8 :: x9 :: x10 :: x11 :: x12 :: x13 :: x14 :: x15 :: x16 :: x17 :: x18 :: x19 :: x20 :: x21 :: x22 :: x23 :: q :: l := mtR R22
theorem F23 {x1 x2 x3 x4 x5 x6 x7 x8 x9 x10 x11 x12 x13 x14 x15 x16 x17 x18 x19 x20 x21 x22 x23 q : Fact} {l : List Fact} : q ∈ x1 :: x2 :: x3 :: x4 :: x5 :: x6 :: x7 :: x8 :: x9 :: x10 :: x11 :: x12 :: x13 :: x14 :: x15 :: x16 :: x17 :: x18 :: x19 :: x20 :: x21 :: x22 :: x23 :: q :: l := mtF F22
theorem R_23 {x1 x2 x3 x4 x5 x6 x7 x8 x9 x10 x11 x12 x13 x14 x15 x16 x17 x18 x19 x20 x21 x22 x23 q : Res} {l : List Res} (h : q ∈ l) : q ∈ x1 :: x2 :: x3 :: x4 :: x5 :: x6 :: x7 :: x8 :: x9 :: x10 :: x11 :: x12 :: x13 :: x14 :: x15 :: x16 :: x17 :: x18 :: x19 :: x20 :: x21 :: x22 :: x23 :: l := mtR (R_22 h)
theorem F_23 {x1 x2 x3 x4 x5 x6 x7 x8 x9 x10 x11 x12 x13 x14 x15 x16 x17 x18 x19 x20 x21 x22 x23 q : Fact} {l : List Fact} (h : q ∈ l) : q ∈ x1 :: x2 :: x3 :: x4 :: x5 :: x6 :: x7 :: x8 :: x9 :: x10 :: x11 :: x12 :: x13 :: x14 :: x15 :: x16 :: x17 :: x18 :: x19 :: x20 :: x21 :: x22 :: x23 :: l := mtF (F_22 h)
theorem R24 {x1 x2 x3 x4 x5 x6 x7 x8 x9 x10 x11 x12 x13 x14 x15 x16 x17 x18 x19 x20 x21 x22 x23 x24 q : Res} {l : List Res} : q ∈ x1 :: x2 :: x3 :: x4 :: x5 :: x6 :: x7 :: x8 :: x9 :: x10 :: x11 :: x12 :: x13 :: x14 :: x15 :: x16 :: x17 :: x18 :: x19 :: x20 :: x21 :: x22 :: x23 :: x24 :: q :: l := mtR R23
theorem F24 {x1 x2 x3 x4 x5 x6 x7 x8 x9 x10 x11 x12 x13 x14 x15 x16 x17 x18 x19 x20 x21 x22 x23 x24 q : Fact} {l : List Fact} : q ∈ x1 :: x2 :: x3 :: x4 :: x5 :: x6 :: x7 :: x8 :: x9 :: x10 :: x11 :: x12 :: x13 :: x14 :: x15 :: x16 :: x17 :: x18 :: x19 :: x20 :: x21 :: x22 :: x23 :: x24 :: q :: l := mtF F23
theorem R_24 {x1 x2 x3 x4 x5 x6 x7 x8 x9 x10 x11 x12 x13 x14 x15 x16 x17 x18 x19 x20 x21 x22 x23 x24 q : Res} {l : List Res} (h : q ∈ l) : q ∈ x1 :: x2 :: x3 :: x4 :: x5 :: x6 :: x7 :: x8 :: x9 :: x10 :: x11 :: x12 :: x13 :: x14 :: x15 :: x16 :: x17 :: x18 :: x19 :: x20 :: x21 :: x22 :: x23 :: x24 :: l := mtR (R_23 h)
theorem F_24 {x1 x2 x3 x4 x5 x6 x7 x8 x9 x10 x11 x12 x13 x14 x15 x16 x17 x18 x19 x20 x21 x22 x23 x24 q : Fact} {l : List Fact} (h : q ∈ l) : q ∈ x1 :: x2 :: x3 :: x4 :: x5 :: x6 :: x7 :: x8 :: x9 :: x10 :: x11 :: x12 :: x13 :: x14 :: x15 :: x16 :: x17 :: x18 :: x19 :: x20 :: x21 :: x22 :: x23 :: x24 :: l := mtF (F_23 h)
section
variable {α : Type} {E : Rp α} {T : TypeId} {v : Value} {l : List α} {ros : List Fact}
theorem rO0 {rs : List Res} : Rd ros (row T E v l :: rs) E v l := rdO R0
theorem rO1 {rs : List Res} {x1 : Res} : Rd ros (x1 :: row T E v l :: rs) E v l := rdO R1
theorem rO2 {rs : List Res} {x1 x2 : Res} : Rd ros (x1 :: x2 :: row T E v l :: rs) E v l := rdO R2
theorem rO3 {rs : List Res} {x1 x2 x3 : Res} : Rd ros (x1 :: x2 :: x3 :: row T E v l :: rs) E v l := rdO R3
theorem rO4 {rs : List Res} {x1 x2 x3 x4 : Res} : Rd ros (x1 :: x2 :: x3 :: x4 :: row T E v l :: rs) E v l := rdO R4
theorem rO5 {rs : List Res} {x1 x2 x3 x4 x5 : Res} : Rd ros (x1 :: x2 :: x3 :: x4 :: x5 :: row T E v l :: rs) E v l := rdO R5
theorem rO6 {rs : List Res} {x1 x2 x3 x4 x5 x6 : Res} : Rd ros (x1 :: x2 :: x3 :: x4 :: x5 :: x6 :: row T E v l :: rs) E v l := rdO R6
theorem rO7 {rs : List Res} {x1 x2 x3 x4 x5 x6 x7 : Res} : Rd ros (x1 :: x2 :: x3 :: x4 :: x5 :: x6 :: x7 :: row T E v l :: rs) E v l := rdO R7
theorem rO8 {rs : List Res} {x1 x2 x3 x4 x5 x6 x7 x8 : Res} : Rd ros (x1 :: x2 :: x3 :: x4 :: x5 :: x6 :: x7 :: x8 :: row T E v l :: rs) E v l := rdO R8
theorem rO9 {rs : List Res} {x1 x2 x3 x4 x5 x6 x7 x8 x9 : Res} : Rd ros (x1 :: x2 :: x3 :: x4 :: x5 :: x6 :: x7 :: x8 :: x9 :: row T E v l :: rs) E v l := rdO R9
theorem rO10 {rs : List Res} {x1 x2 x3 x4 x5 x6 x7 x8 x9 x10 : Res} : Rd ros (x1 :: x2 :: x3 :: x4 :: x5 :: x6 :: x7 :: x8 :: x9 :: x10 :: row T E v l :: rs) E v l := rdO R10
theorem rO11 {rs : List Res} {x1 x2 x3 x4 x5 x6 x7 x8 x9 x10 x11 : Res} : Rd ros (x1 :: x2 :: x3 :: x4 :: x5 :: x6 :: x7 :: x8 :: x9 :: x10 :: x11 :: row T E v l :: rs) E v l := rdO R11
theorem rO12 {rs : List Res} {x1 x2 x3 x4 x5 x6 x7 x8 x9 x10 x11 x12 : Res} : Rd ros (x1 :: x2 :: x3 :: x4 :: x5 :: x6 :: x7 :: x8 :: x9 :: x10 :: x11 :: x12 :: row T E v l :: rs) E v l := rdO R12
theorem rO13 {rs : List Res} {x1 x2 x3 x4 x5 x6 x7 x8 x9 x10 x11 x12 x13 : Res} : Rd ros (x1 :: x2 :: x3 :: x4 :: x5 :: x6 :: x7 :: x8 :: x9 :: x10 :: x11 :: x12 :: x13 :: row T E v l :: rs) E v l := rdO R13
theorem rO14 {rs : List Res} {x1 x2 x3 x4 x5 x6 x7 x8 x9 x10 x11 x12 x13 x14 : Res} : Rd ros (x1 :: x2 :: x3 :: x4 :: x5 :: x6 :: x7 :: x8 :: x9 :: x10 :: x11 :: x12 :: x13 :: x14 :: row T E v l :: rs) E v l := rdO R14
theorem rO15 {rs : List Res} {x1 x2 x3 x4 x5 x6 x7 x8 x9 x10 x11 x12 x13 x14 x15 : Res} : Rd ros (x1 :: x2 :: x3 :: x4 :: x5 :: x6 :: x7 :: x8 :: x9 :: x10 :: x11 :: x12 :: x13 :: x14 :: x15 :: row T E v l :: rs) E v l := rdO R15
theorem rO16 {rs : List Res} {x1 x2 x3 x4 x5 x6 x7 x8 x9 x10 x11 x12 x13 x14 x15 x16 : Res} : Rd ros (x1 :: x2 :: x3 :: x4 :: x5 :: x6 :: x7 :: x8 :: x9 :: x10 :: x11 :: x12 :: x13 :: x14 :: x15 :: x16 :: row T E v l :: rs) E v l := rdO R16
theorem rO17 {rs : List Res} {x1 x2 x3 x4 x5 x6 x7 x8 x9 x10 x11 x12 x13 x14 x15 x16 x17 : Res} : Rd ros (x1 :: x2 :: x3 :: x4 :: x5 :: x6 :: x7 :: x8 :: x9 :: x10 :: x11 :: x12 :: x13 :: x14 :: x15 :: x16 :: x17 :: row T E v l :: rs) E v l := rdO R17
theorem rO18 {rs : List Res} {x1 x2 x3 x4 x5 x6 x7 x8 x9 x10 x11 x12 x13 x14 x15 x16 x17 x18 : Res} : Rd ros (x1 :: x2 :: x3 :: x4 :: x5 :: x6 :: x7 :: x8 :: x9 :: x10 :: x11 :: x12 :: x13 :: x14 :: x15 :: x16 :: x17 :: x18 :: row T E v l :: rs) E v l := rdO R18
theorem rO19 {rs : List Res} {x1 x2 x3 x4 x5 x6 x7 x8 x9 x10 x11 x12 x13 x14 x15 x16 x17 x18 x19 : Res} : Rd ros (x1 :: x2 :: x3 :: x4 :: x5 :: x6 :: x7 :: x8 :: x9 :: x10 :: x11 :: x12 :: x13 :: x14 :: x15 :: x16 :: x17 :: x18 :: x19 :: row T E v l :: rs) E v l := rdO R19
theorem rO20 {rs : List Res} {x1 x2 x3 x4 x5 x6 x7 x8 x9 x10 x11 x12 x13 x14 x15 x16 x17 x18 x19 x20 : Res} : Rd ros (x1 :: x2 :: x3 :: x4 :: x5 :: x6 :: x7 :: x8 :: x9 :: x10 :: x11 :: x12 :: x13 :: x14 :: x15 :: x16 :: x17 :: x18 :: x19 :: x20 :: row T E v l :: rs) E v l := rdO R20
theorem rO21 {rs : List Res} {x1 x2 x3 x4 x5 x6 x7 x8 x9 x10 x11 x12 x13 x14 x15 x16 x17 x18 x19 x20 x21 : Res} : Rd ros (x1 :: x2 :: x3 :: x4 :: x5 :: x6 :: x7 :: x8 :: x9 :: x10 :: x11 :: x12 :: x13 :: x14 :: x15 :: x16 :: x17 :: x18 :: x19 :: x20 :: x21 :: row T E v l :: rs) E v l := rdO R21
theorem rO22 {rs : List Res} {x1 x2 x3 x4 x5 x6 x7 x8 x9 x10 x11 x12 x13 x14 x15 x16 x17 x18 x19 x20 x21 x22 : Res} : Rd ros (x1 :: x2 :: x3 :: x4 :: x5 :: x6 :: x7 :: x8 :: x9 :: x10 :: x11 :: x12 :: x13 :: x14 :: x15 :: x16 :: x17 :: x18 :: x19 :: x20 :: x21 :: x22 :: row T E v l :: rs) E v l := rdO R22
theorem rO23 {rs : List Res} {x1 x2 x3 x4 x5 x6 x7 x8 x9 x10 x11 x12 x13 x14 x15 x16 x17 x18 x19 x20 x21 x22 x23 : Res} : Rd ros (x1 :: x2 :: x3 :: x4 :: x5 :: x6 :: x7 :: x8 :: x9 :: x10 :: x11 :: x12 :: x13 :: x14 :: x15 :: x16 :: x17 :: x18 :: x19 :: x20 :: x21 :: x22 :: x23 :: row T E v l :: rs) E v l := rdO R23
theorem rO24 {rs : List Res} {x1 x2 x3 x4 x5 x6 x7 x8 x9 x10 x11 x12 x13 x14 x15 x16 x17 x18 x19 x20 x21 x22 x23 x24 : Res} : Rd ros (x1 :: x2 :: x3 :: x4 :: x5 :: x6 :: x7 :: x8 :: x9 :: x10 :: x11 :: x12 :: x13 :: x14 :: x15 :: x16 :: x17 :: x18 :: x19 :: x20 :: x21 :: x22 :: x23 :: x24 :: row T E v l :: rs) E v l := rdO R24
end
abbrev FV := Nat → Value
end Sx
