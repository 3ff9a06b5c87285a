/- More steps that printed walks name: the byte of a constant string. It holds over any program. -/
import Derived.Test.YtpfmbaidflhamaaDoorSxH
namespace Sx
open Go
theorem yixs {P:Program} {a:Act} {w:World} {d:Option Tmp} {t:TypeId} {p:String} {af:Array Edge} {g:Option (Nat×Bool)} {x y:Operand} {T:TypeId} {k:IntKind} {n c:Int} {s:ByteArray} {l:List Int} (hT:P.underlying T=some .string) (hx:a.eval x=.string s) (hy:a.eval y=.int k n)
    (hl:s.data.toList.map (fun b=>(b.toNat:Int))=l) (h:getI l n=some c):Yi P a w ⟨d,.index T x y,t,p,af,g⟩ (.int .u8 c):=by
  subst hl
  obtain ⟨h0,_,h⟩:=getI_some h
  · have h1:∃ b:UInt8,s[n.toNat]?=some b∧c=(b.toNat:Int):=by
      rw [List.getElem?_map] at h
      cases hb:s.data.toList[n.toNat]? with
      | none=>rw [hb] at h; cases h
      | some b=>
        rw [hb] at h
        refine ⟨b,?_,(Option.some.inj h).symm⟩
        have hlt:n.toNat < s.data.toList.length:=(List.getElem?_eq_some_iff.1 hb).1
        have hlt2:n.toNat < s.size:=by simpa using hlt
        rw [getElem?_pos s n.toNat hlt2]
        have:=(List.getElem?_eq_some_iff.1 hb).2
        congr 1
    obtain ⟨b,hb,rfl⟩:=h1
    simp [Yi,execOp,hx,hy,Instr.index,asIntOf,run_underlying hT,hb,h0]
theorem cellsOf_take {s:Nat} (l:List (CS s)) (k:Nat) (hk:k≤l.length):cellsOf (l.take k)=(cellsOf l).take (k*s):=by
  have h:cellsOf l=cellsOf (l.take k)++cellsOf (l.drop k):=by rw [← cellsOf_append,List.take_append_drop]
  have hl:(cellsOf (l.take k)).length=k*s:=by rw [cellsOf_length,List.length_take,Nat.min_eq_left hk]
  rw [h,← hl,List.take_left]
theorem row_cut {α:Type} {T:TypeId} {E:Rp α} {h:Hdr} {l m:List α} {hi:Int} {w:World} (hk:sli l 0 hi=some m):∀ X F:Nat→Prop,(row T E h.v l).holds w X F→(row T E (subH h E.s 0 hi).v m).holds w X F:=by
  intro X F hh
  obtain ⟨rfl,_,h1,h2⟩:=sli_some hk
  obtain ⟨hm,cs,ha,⟨hl,hd⟩,he⟩:=hh
  have hz:(0:Int).toNat=0:=rfl
  have hlen:(subL l 0 hi).length=hi.toNat:=by rw [subL_length (Int.le_refl 0) h1 h2,hz,Nat.sub_zero]
  have hkl:hi.toNat≤l.length:=by omega
  have hs:subL l 0 hi=l.take hi.toNat:=by simp [subL]
  have hv:(subH h E.s 0 hi).v=.slice h.a hi.toNat h.c:=by
    simp only [subH,Hdr.v,hz,Nat.sub_zero,Nat.zero_mul]
    congr 1
    split
    · rfl
    · cases h.a with
      | none=>rfl
      | some a=>simp [Addr.add]
  refine ⟨by rw [hlen]; omega,cs.take hi.toNat,?_,?_,?_⟩
  · refine ⟨by rw [hlen,List.length_take,ha.1]; omega,fun i c x hc hx=>?_⟩
    rw [hs] at hx
    rw [List.getElem?_take] at hc hx
    split at hc
    · rename_i hik
      rw [if_pos hik] at hx
      exact ha.2 i c x hc hx
    · cases hc
  · rw [hlen,hv,cellsOf_take cs _ (by rw [ha.1]; exact hkl)]
    refine ⟨by rw [List.length_take,hl,Nat.min_eq_left (Nat.mul_le_mul_right _ hkl)],?_⟩
    rcases hd with ⟨h3,h4⟩ | ⟨g,cap,cur,h3,h4,h5,h6,h7,h8,h9⟩
    · left
      obtain ⟨ha',hn',hc'⟩:h.a=none∧h.n=0∧h.c=0:=by simpa [Hdr.v] using h3
      have:hi.toNat=0:=by omega
      exact ⟨by rw [ha',hc',this],this⟩
    · right
      obtain ⟨ha',hn',hc'⟩:h.a=some ⟨g,0,Option.none⟩∧h.n=l.length∧h.c=cap:=by simpa [Hdr.v] using h3
      refine ⟨g,cap,cur,by rw [ha',hc'],h4,h5,by omega,h7,h8,?_⟩
      rw [← h9,List.take_take,Nat.min_eq_left (Nat.mul_le_mul_right _ hkl)]
  · intro b
    rw [he b,hv]
    obtain ⟨ad,n,c⟩:=h
    cases ad<;>exact Iff.rfl
end Sx
