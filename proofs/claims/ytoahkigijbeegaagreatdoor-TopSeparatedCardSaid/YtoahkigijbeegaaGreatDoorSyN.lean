/- Operations whose value is told by what they make, in the dense form. It holds over any program. -/
import Derived.Test.YtoahkigijbeegaaGreatDoorSyB
import Derived.Test.YtoahkigijbeegaaGreatDoorSyM
namespace Sx
open Go
section
variable {Z:List Kn} {P:Program} {ops:Array Oper} {os rest:List Oper} {Q:Exit→Act→World→Prop} {n:Nat} {g' f:Nat→Value} {w:World} {L:List (Nat×Value)} {d:Nat} {ins:Op} {t:TypeId} {p:String} {af:Array Edge} {g:Option (Nat×Bool)} {G1:Value→World→Prop} {o:Oper}
theorem yg {A:Type} {V:A→Value} {S:A→World→Prop} (hy:∃ (x:A) (w':World),(execOp (fr n (ups L g')).eval ⟨some d,ins,t,p,af,g⟩).run P w=.ok (.value (V x)) w'∧S x w') (k:∀ (x:A) (w':World),S x w'→Md P Q n g' Z (.l ops rest) ((d,V x)::L) w') (hg:wqg ops n L g=some true:=by exact rfl):Md P Q n g' Z (.l ops (⟨some d,ins,t,p,af,g⟩::rest)) L w:=by
 obtain ⟨x,w',h1,h2⟩:=hy
 exact Yw (N3.1 hg) rfl h1 (k x w' h2)
theorem LG {A:Type} {V:A→Value} {S:A→World→Prop} (hw:Wn os.toArray n f o.guard) (hy:∃ (x:A) (w':World),(execOp (fr n f).eval o).run P w=.ok (.value (V x)) w'∧S x w') (k:∀ (x:A) (w':World),S x w'→G1 (V x) w'):LS P os n f w o G1:=by
 obtain ⟨x,w',h1,h2⟩:=hy
 exact Lw hw h1 (k x w' h2)
end
end Sx
