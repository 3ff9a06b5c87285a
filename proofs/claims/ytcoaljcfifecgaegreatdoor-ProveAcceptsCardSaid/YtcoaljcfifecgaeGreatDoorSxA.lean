/- Frames as functions, one step an operation, loops with fuel, regions that draw their order: the ground on which the walks of this claim stand. It holds over any program. -/
import Derived.WalkKit
namespace Sx
open Go
def upd (f:Nat→Value) (d:Nat) (v:Value):Nat→Value:=fun t=>bif Nat.beq t d then v else f t
def fr (n:Nat) (f:Nat→Value):Act:=⟨Array.ofFn (n:=n) (fun i=>f i.val),[]⟩
theorem beq_ne {d t:Nat} (h:t≠d):Nat.beq t d=false:=by
 cases hb:Nat.beq t d
 ·rfl
 ·exact absurd (Nat.eq_of_beq_eq_true hb) h
theorem upd_same (f:Nat→Value) (d:Nat) (v:Value):upd f d v d=v:=by simp [upd]
theorem upd_ne (f:Nat→Value) {d t:Nat} (v:Value) (h:t≠d):upd f d v t=f t:=by simp [upd,beq_ne h]
theorem fr_getD (n:Nat) (f:Nat→Value) (t:Nat) (h:t < n):(fr n f).tmps.getD t undef=f t:=by
 simp [fr,Array.getD,h]
theorem fr_put (n:Nat) (f:Nat→Value) (d:Nat) (v:Value):(fr n f).put (some d) v=fr n (upd f d v):=by
 unfold Act.put fr
 simp only [Act.mk.injEq,and_true]
 apply Array.ext
 ·simp
 ·intro i h1 h2
  simp only [Array.size_setIfInBounds,Array.size_ofFn] at h1
  rw [Array.getElem_setIfInBounds]
  ·by_cases h:d=i
   ·subst h; simp [upd]
   ·have h':i≠d:=fun e=>h e.symm
    rw [if_neg h,Array.getElem_ofFn,Array.getElem_ofFn,upd_ne _ _ h']
  ·simpa using h1
theorem fr_put_none (n:Nat) (f:Nat→Value) (v:Value):(fr n f).put none v=fr n f:=rfl
theorem et {n t:Nat} {f:Nat→Value} {v:Value} (ht:Nat.blt t n=true) (h:f t=v):(fr n f).eval (.tmp t)=v:=by
 unfold Act.eval
 simp only
 rw [fr_getD _ _ _ (by simpa [Nat.blt_eq] using ht),h]
theorem yielded_fr {n:Nat} {f:Nat→Value} {ops:Array Oper} {j d:Nat} {b:Bool} (hd:((ops[j]?).bind (·.dst))=some d) (ht:Nat.blt d n=true) (h:f d=.bool b):
  yielded ops (fr n f).tmps j=some b:=by
 have h2:(fr n f).tmps[d]?=some (.bool b):=by
  have:d < n:=by simpa [Nat.blt_eq] using ht
  simp [fr,this,h]
 simp [yielded,hd,h2]
def initF (args:List Value):Nat→Value:=fun t=>args.getD t undef
theorem init_fr (args:List Value) (n:Nat) (h:args.length≤n):
  ({tmps:=args.toArray++Array.replicate (n - args.toArray.size) undef,defers:=[] }:Act)=fr n (initF args):=by
 unfold fr
 simp only [Act.mk.injEq,and_true]
 apply Array.ext
 ·simp; omega
 ·intro i h1 h2
  simp only [Array.size_ofFn] at h2
  by_cases hi:i < args.length
  ·rw [Array.getElem_append_left (by simpa using hi)]
   simp [initF,hi]
  ·rw [Array.getElem_append_right (by simpa using hi)]
   simp [initF,hi]
theorem enter {P:Program} {f:FuncId} {fn:Func} {c:Code} {args:List Value} {w:World} {R:Ending→World→Prop} {n:Nat}
  (hf:P.funcs[f]?=some fn) (hb:fn.body=some c) (hn:fn.ntmps=n) (hl:Nat.ble args.length n=true)
  (h:c.wp P (bodyPost P fn R) (fr n (initF args)) w):Calls P f args.toArray w R:=by
 refine calls_of_wp hf hb ?_
 rw [hn,init_fr args n (by simpa using hl)]
 exact h
abbrev Yi (P:Program) (a:Act) (w:World) (o:Oper) (v:Value):Prop:=(execOp a.eval o).run P w=.ok (.value v) w
def Wn (ops:Array Oper) (n:Nat) (f:Nat→Value):Option (Nat×Bool)→Prop
 | none=>True
 | some (j,b)=>∃ d,((ops[j]?).bind (·.dst))=some d∧Nat.blt d n=true∧f d=.bool b
def Wx (ops:Array Oper) (n:Nat) (f:Nat→Value):Option (Nat×Bool)→Prop
 | none=>False
 | some (j,b)=>∃ d,((ops[j]?).bind (·.dst))=some d∧Nat.blt d n=true∧(f d=.bool (!b)∨f d=undef)
theorem wn {ops:Array Oper} {n:Nat} {f:Nat→Value}:Wn ops n f none:=trivial
theorem yielded_undef {n:Nat} {f:Nat→Value} {ops:Array Oper} {j d:Nat} (hd:((ops[j]?).bind (·.dst))=some d) (ht:Nat.blt d n=true) (h:f d=undef):
  yielded ops (fr n f).tmps j=none:=by
 have h2:(fr n f).tmps[d]?=some undef:=by
  have:d < n:=by simpa [Nat.blt_eq] using ht
  simp [fr,this,h]
 simp [yielded,hd,h2,undef]
theorem Wn.wanted {ops:Array Oper} {n:Nat} {f:Nat→Value} {o:Oper} (h:Wn ops n f o.guard):Region.wanted o (yielded ops (fr n f).tmps)=true:=by
 unfold Region.wanted
 cases hg:o.guard with
 | none=>rfl
 | some jb=>
  obtain ⟨j,b⟩:=jb
  rw [hg] at h
  obtain ⟨d,h1,h2,h3⟩:=h
  simp [yielded_fr h1 h2 h3]
theorem Wx.wanted {ops:Array Oper} {n:Nat} {f:Nat→Value} {o:Oper} (h:Wx ops n f o.guard):Region.wanted o (yielded ops (fr n f).tmps)=false:=by
 unfold Region.wanted
 cases hg:o.guard with
 | none=>rw [hg] at h; exact h.elim
 | some jb=>
  obtain ⟨j,b⟩:=jb
  rw [hg] at h
  obtain ⟨d,h1,h2,h3 | h3⟩:=h
  ·simp only [yielded_fr h1 h2 h3]
   cases b<;>rfl
  ·simp only [yielded_undef h1 h2 h3]
   cases b<;>rfl
section
variable {P:Program} {ops:Array Oper} {Q:Exit→Act→World→Prop} {n:Nat} {f:Nat→Value} {w:World} {rest:List Oper}
theorem Y0 {o:Oper} (hg:Wn ops n f o.guard) (k:∀ K:Act→World→Prop,(∀ a w,wpList P ops Q rest a w→K a w)→o.wp P (fr n f) w K Q):wpList P ops Q (o::rest) (fr n f) w:=by
 refine wpList_step fun K hK=>?_
 rw [hg.wanted]
 exact k K hK
theorem Y {o:Oper} {d:Nat} {v:Value} (hg:Wn ops n f o.guard) (hd:o.dst=some d) (hy:Yi P (fr n f) w o v)
  (k:wpList P ops Q rest (fr n (upd f d v)) w):wpList P ops Q (o::rest) (fr n f) w:=by
 refine Y0 hg fun K hK=>?_
 unfold Oper.wp
 rw [hy,Oper.upon_value,hd,fr_put]
 exact hK _ _ k
theorem Yw {o:Oper} {d:Nat} {v:Value} {w':World} (hg:Wn ops n f o.guard) (hd:o.dst=some d) (hy:(execOp (fr n f).eval o).run P w=.ok (.value v) w')
  (k:wpList P ops Q rest (fr n (upd f d v)) w'):wpList P ops Q (o::rest) (fr n f) w:=by
 refine Y0 hg fun K hK=>?_
 unfold Oper.wp
 rw [hy,Oper.upon_value,hd,fr_put]
 exact hK _ _ k
theorem Ys {o:Oper} {w':World} (hg:Wn ops n f o.guard) (hd:o.dst=none) (hy:(execOp (fr n f).eval o).run P w=.ok .skip w')
  (k:wpList P ops Q rest (fr n f) w'):wpList P ops Q (o::rest) (fr n f) w:=by
 refine Y0 hg fun K hK=>?_
 unfold Oper.wp
 rw [hy,Oper.upon_skip,hd,fr_put_none]
 exact hK _ _ k
theorem Yc {o:Oper} {d:Nat} {g:FuncId} {args:Array Value} {R:Ending→World→Prop} (hg:Wn ops n f o.guard) (hd:o.dst=some d)
  (hy:(execOp (fr n f).eval o).run P w=.ok (.enter g args) w) (hc:Calls P g args w R)
  (k:∀ e w',R e w'→∃ v,e=.returned v∧wpList P ops Q rest (fr n (upd f d v)) w'):wpList P ops Q (o::rest) (fr n f) w:=by
 refine Y0 hg fun K hK=>?_
 unfold Oper.wp
 rw [hy,Oper.upon_enter]
 refine hc.mono ?_
 intro e w' hR
 obtain ⟨v,rfl,hk⟩:=k e w' hR
 show K ((fr n f).put o.dst v) w'
 rw [hd,fr_put]
 exact hK _ _ hk
theorem Gn {o:Oper} {d:Nat} (hg:Wx ops n f o.guard) (hd:o.dst=some d)
  (k:wpList P ops Q rest (fr n (upd f d undef)) w):wpList P ops Q (o::rest) (fr n f) w:=by
 refine wpList_step fun K hK=>?_
 rw [hg.wanted]
 simp only [Bool.false_eq_true,if_false]
 rw [hd,fr_put]
 exact hK _ _ k
end
def loopN {σ ρ:Type} (step:σ→Option (σ⊕ρ)):Nat→σ→Option ρ
 | 0,_=>none
 | k+1,s=>match step s with
  | none=>none
  | some (.inl s')=>loopN step k s'
  | some (.inr r)=>some r
def FUEL:Nat:=9223372036854775808
def loop {σ ρ:Type} (step:σ→Option (σ⊕ρ)) (s:σ):Option ρ:=loopN step FUEL s
def LQ {σ ρ:Type} (Inv:σ→Act→World→Prop) (Q:Exit→Act→World→Prop):σ⊕ρ→Exit→Act→World→Prop
 | .inl s,.normal,a,w=>Inv s a w
 | .inl _,_,_,_=>False
 | .inr _,.normal,_,_=>False
 | .inr _,e,a,w=>Q e a w
theorem wp_loopN {P:Program} {c:Code} {Q:Exit→Act→World→Prop} {σ ρ:Type} {step:σ→Option (σ⊕ρ)} (Inv:σ→Act→World→Prop) {out:ρ}
  (hb:∀ s a w r,Inv s a w→step s=some r→(∀ o,r=.inr o→o=out)→c.wp P (LQ Inv Q r) a w):
  ∀ (k:Nat) (s:σ) (a:Act) (w:World),loopN step k s=some out→Inv s a w→Code.rounds P c Q k a w:=by
 intro k
 induction k with
 | zero=>intro s a w h; simp [loopN] at h
 | succ k ih=>
  intro s a w h hI
  rw [rounds_succ]
  simp only [loopN] at h
  cases hs:step s with
  | none=>simp [hs] at h
  | some r=>
   cases r with
   | inl s'=>
    simp only [hs] at h
    refine Code.wp_mono ?_ (hb s a w _ hI hs (by simp))
    intro e a' w' hq
    cases e<;>simp only [LQ] at hq
    exact ih s' a' w' h hq
   | inr o=>
    simp only [hs] at h
    have ho:o=out:=by simpa using h
    refine Code.wp_mono ?_ (hb s a w _ hI hs (by intro o' h'; cases h'; exact ho))
    intro e a' w' hq
    cases e<;>simp only [LQ] at hq<;>exact hq
theorem wp_loop {P:Program} {c:Code} {Q:Exit→Act→World→Prop} {σ ρ:Type} {step:σ→Option (σ⊕ρ)} (Inv:σ→Act→World→Prop) {s:σ} {a:Act} {w:World} {out:ρ}
  (h:loop step s=some out) (hI:Inv s a w)
  (hb:∀ s a w r,Inv s a w→step s=some r→(∀ o,r=.inr o→o=out)→c.wp P (LQ Inv Q r) a w):(Code.loop c).wp P Q a w:=
 wp_loop_rounds FUEL (wp_loopN Inv hb FUEL s a w h hI)
theorem bs {α β:Type} {e:Option α} {g:α→Option β} {r:β} (h:e.bind g=some r):∃ x,e=some x∧g x=some r:=by
 cases e with
 | none=>simp at h
 | some x=>exact ⟨x,rfl,h⟩
end Sx
