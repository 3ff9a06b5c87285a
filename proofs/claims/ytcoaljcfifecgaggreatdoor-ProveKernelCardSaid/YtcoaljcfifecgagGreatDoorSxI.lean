/- More steps that printed walks name: the byte of a constant string. It holds over any program. -/
import Derived.Test.YtcoaljcfifecgagGreatDoorSxH
namespace Sx
open Go
theorem yixs {P:Program} {a:Act} {w:World} {d:Option Tmp} {t:TypeId} {p:String} {af:Array Edge} {g:Option (Nat×Bool)} {x y:Operand} {T:TypeId} {k:IntKind} {n c:Int} {s:ByteArray} {l:List Int} (hT:P.underlying T=some .string) (hx:a.eval x=.string s) (hy:a.eval y=.int k n)
    (hl:s.data.toList.map (fun b=>(b.toNat:Int))=l) (h:getI l n=some c):Yi P a w ⟨d,.index T x y,t,p,af,g⟩ (.int .u8 c):=by
  subst hl
  obtain ⟨h0,_,h⟩:=getI_some h
  · have h1:∃ b:UInt8,s[n.toNat]?=some b∧c=(b.toNat:Int):=by
      rw [List.getElem?_map] at h
      cases hb:s.data.toList[n.toNat]? with
      | none=>rw [hb] at h; cases h
      | some b=>
        rw [hb] at h
        refine ⟨b,?_,(Option.some.inj h).symm⟩
        have hlt:n.toNat < s.data.toList.length:=(List.getElem?_eq_some_iff.1 hb).1
        have hlt2:n.toNat < s.size:=by simpa using hlt
        rw [getElem?_pos s n.toNat hlt2]
        have:=(List.getElem?_eq_some_iff.1 hb).2
        congr 1
    obtain ⟨b,hb,rfl⟩:=h1
    simp [Yi,execOp,hx,hy,Instr.index,asIntOf,run_underlying hT,hb,h0]
theorem cellsOf_take {s:Nat} (l:List (CS s)) (k:Nat) (hk:k≤l.length):cellsOf (l.take k)=(cellsOf l).take (k*s):=by
  have h:cellsOf l=cellsOf (l.take k)++cellsOf (l.drop k):=by rw [← cellsOf_append,List.take_append_drop]
  have hl:(cellsOf (l.take k)).length=k*s:=by rw [cellsOf_length,List.length_take,Nat.min_eq_left hk]
  rw [h,← hl,List.take_left]
end Sx
