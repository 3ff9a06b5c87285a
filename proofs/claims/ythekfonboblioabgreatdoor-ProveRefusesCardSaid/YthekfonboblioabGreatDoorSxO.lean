/- Queues: a slice of the call's own whose head is cut off, and that is appended to. It holds over any program. -/
import Derived.Test.YthekfonboblioabGreatDoorSxL
namespace Sx
open Go
def rowS {α:Type} (T:TypeId) (E:Rp α) (v:Value) (l:List α):Res where
 holds w X F:=l.length≤maxLen∧∃ cs:List (CS E.s),All2 w X E cs l∧((v=.slice none 0 0∧l=[])∨∃ g o cap cur,v=.slice (some ⟨g,o,none⟩) l.length cap∧w.heap[g]?=some (.cells cur T (0,0))∧l.length≤cap∧cap≤maxLen∧o+cap*E.s≤cur.size∧(cur.toList.drop o).take (l.length*E.s)=cellsOf cs)∧∀ b,F b↔v.ownBlock=some b
 loc:=fun ⟨hm,cs,ha,h,he⟩ hX hs hF=>by
  refine ⟨hm,cs,ha.mono hX hs,?_,he⟩
  rcases h with h | ⟨g,o,cap,cur,hv,hg,r⟩
  ·exact .inl h
  ·exact .inr ⟨g,o,cap,cur,hv,by rw [hF g ((he g).2 (by rw [hv]; rfl))]; exact hg,r⟩
 lt:=fun {w X F b} ⟨hm,cs,ha,h,he⟩ hb=>by
  have h1:=(he _).1 hb
  rcases h with ⟨rfl,_⟩ | ⟨g,o,cap,cur,rfl,hg,_⟩
  ·simp [Value.ownBlock] at h1
  ·simp [Value.ownBlock] at h1
   subst h1
   exact (Uh.1 hg).1
section
variable {P:Program} {α:Type} {E:Rp α} {q:α} {l m k:List α} {a:Act} {w0 w:World} {ax:List Fact} {rs:List Res} {d:Option Tmp} {t:TypeId} {p:String} {af:Array Edge} {g:Option (Nat×Bool)} {x y:Operand} {v u:Value} {T U e:TypeId} {h:Hdr}
end
theorem chT {p:Prop} [Decidable p] {A:Option Bool} {r:Bool} (h:(if p then A else some false)=some r) (e:r=true):p∧A=some r:=by
 by_cases hp:p
 ·rw [M0 hp] at h; exact ⟨hp,h⟩
 ·rw [K0 hp] at h; cases h; cases e
end Sx
