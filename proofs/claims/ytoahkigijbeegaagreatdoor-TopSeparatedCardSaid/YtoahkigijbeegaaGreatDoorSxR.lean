/- From the row's reading of the arguments to the walk's facts, and from the walk's end to the row's post. It holds over any program. -/
import Derived.Test.YtoahkigijbeegaaGreatDoorSxK
import Derived.ProofKit
import Derived.Deep.Slices
namespace Sx
open Go Go.ChangeShapes Go.WideShapes Go.RowKit Go.Deep
def Rdg (P:Program) (t:TypeId) {α:Type} (E:Rp α) (ok:α→Prop):Prop:=
 ∀ (H:Type) (enc:TypeId×Value→H) (w:World) (fuel:Nat) (cs:List Value) (x:DataW H×List MemPlace),DataW.trod enc P w 0 (fun _=>true) true fuel t cs=some x→∃ a:α,E.r w (fun b=>b < w.heap.size) cs a∧ok a
def Wf (k:IntKind) (n:Int):Prop:=(Lit.int k n).wf=true
def okL {α:Type} (ok:α→Prop) (l:List α):Prop:=l.length≤maxLen∧∀ x,x∈l→ok x
theorem cy {P:Program} {t:TypeId} {k:IntKind} (ht:P.underlying t=some (.int k)):Rdg P t (rI k) (Wf k):=by
 intro H enc w fuel cs x h
 obtain ⟨n,rfl,_,hw⟩:=DataW.trod_int ht h
 exact ⟨n,rfl,hw⟩
theorem ay {P:Program} {t e:TypeId} {α:Type} {E:Rp α} {ok:α→Prop} (ht:P.underlying t=some (.slice e)) (hc:P.cellsOf e=E.s) (he:Rdg P e E ok):Rdg P t (rS E) (okL ok):=by
 intro H enc w fuel cs x h
 rcases open_slice ht h with ⟨rfl,rfl⟩ | ⟨a,len,cap,m,n,D,Pl,rfl,hb,hl,hm,ZD,rfl,hx⟩
 ·exact ⟨[],⟨_,rfl,Imm.nil _ _ _⟩,by simp [maxLen],fun _ h=>by cases h⟩
 ·have hex:∀ i,i < len→∃ z:α,(∃ cs,E.r w (fun b=>b < w.heap.size) cs z∧∀ j u,cs[j]?=some u→w.cell? (a.add (i*E.s+j))=some u)∧ok z:=by
   intro i hi
   obtain ⟨cs',h1,h2⟩:=hx i (by rw [ZD]; simp; omega)
   obtain ⟨z,hz,qF⟩:=he H enc w n cs' _ h2
   obtain ⟨_,hlen,ly⟩:=World.cells?_some h1
   refine ⟨z,⟨cs',hz,fun j u hu=>?_⟩,qF⟩
   have hj:j < P.cellsOf e:=by have:=(C2.1 hu).1; omega
   have:=ly j hj
   rw [Ec,hc] at this
   rw [this]; exact hu
  let l:List α:=List.ofFn fun i:Fin len=>Classical.choose (hex i.1 i.2)
  have ax:l.length=len:=by simp [l]
  have Av:∀ i z,l[i]?=some z→(∃ cs,E.r w (fun b=>b < w.heap.size) cs z∧∀ j u,cs[j]?=some u→w.cell? (a.add (i*E.s+j))=some u)∧ok z:=by
   intro i z hz
   have hi:i < len:=by have:=(C2.1 hz).1; omega
   have EH:=vd (hex i hi)
   simp only [l,Ht,hi,dite_true,w6] at hz
   rw [← hz]; exact EH
  refine ⟨l,⟨_,rfl,⟨some a,cap,by rw [ax],by rw [ax]; exact hl,by rw [ax]; omega,fun i z hz=>⟨rfl,(Av i z hz).1⟩⟩,fun Bu b OE=>?_⟩,by rw [ax]; omega,fun z hz=>?_⟩
  ·simp only [sBlk,w6] at OE
   subst OE
   obtain ⟨z,hz⟩:∃ z,l[0]?=some z:=by
    cases tF:l with
    | nil=>exact absurd tF Bu
    | cons z r=>exact ⟨z,rfl⟩
   obtain ⟨⟨cs,hr,ly⟩,_⟩:=Av 0 z hz
   have h0:0 < cs.length:=by rw [E.len hr]; exact E.pos
   have:=World.block_lt_of_cell? w _ (ly 0 cs[0] (by simp [h0]))
   rwa [Af] at this
  ·obtain ⟨i,hi⟩:=D9.1 hz
   exact (Av i z hi).2
theorem az {P:Program} {w:World} {r:Reach} {b0:Nat} {t e:TypeId} {v:Value} (ht:P.underlying t=some (.slice e)) (h:Value.okWide P w r b0 t v):v.cells=#[v]:=by
 unfold Value.okWide at h
 rw [ht] at h
 simp only [Cell.okWide,ht] at h
 cases v<;>first | rfl | (simp [Cell.ok,ht] at h)
section
variable {H:Type} {enc:TypeId×Value→H} {P:Program} {w:World} {r:Reach} {b0:Nat} {d:DataW H} {ps:List MemPlace} {v:Value}
theorem LC {t e:TypeId} {α:Type} {E:Rp α} {ok:List α→Prop} (ht:P.underlying t=some (.slice e)) (hr:Rdg P t (rS E) ok) (xy:Value.okWide P w r b0 t v) (hd:DataW.Trod enc P w 0 (fun _=>true) true t v d ps):
  ∃ (h:Hdr) (l:List α),v=h.v∧(imm E h.v l).h w (fun b=>b < w.heap.size)∧ok l:=by
 obtain ⟨fuel,hf⟩:=hd
 obtain ⟨l,⟨u,hu,hi⟩,qF⟩:=hr H enc w fuel _ _ hf
 rw [az ht xy] at hu
 have:v=u:=by simpa using hu
 subst this
 obtain ⟨h,rfl⟩:=hi.1.hdr
 exact ⟨h,l,rfl,hi,qF⟩
theorem Es {t:TypeId} {k:IntKind} (ht:P.underlying t=some (.int k)) (xy:Value.okWide P w r b0 t v) (hd:DataW.Trod enc P w 0 (fun _=>true) true t v d ps):∃ n,v=.int k n∧Wf k n:=by
 obtain ⟨n,h1,_,_,h2⟩:=open_int ht xy hd
 exact ⟨n,h1,h2⟩
end
theorem Xv {W:World} {mu:List Fact} (h:∀ q,q∈mu→q.h W (fun b=>b < W.heap.size)):St W mu [] W:=
 ⟨fun b=>b < W.heap.size,Chg.refl _ _,fun _ h=>h,fun _ h=>h,h,trivial⟩
theorem St.below {w0 w:World} {mu:List Fact} {rs:List Res} (h:St w0 mu rs w):Below w0.heap.size w0 w:=by
 obtain ⟨X,h⟩:=h
 exact ⟨h.ext.os,h.ext.tape,h.ext.output,h.ext.size,fun b hb=>h.ext.same b hb id⟩
section
variable {H:Type} {enc:TypeId×Value→H} {P:Program}
theorem Uv (hl:laidOutB P=true) {W W':World} (hb:Below W.heap.size W W'):∀ {ts:List TypeId} {vs:List Value} {ds:List (DataW H)} {ps:List MemPlace},(∀ t∈ts,P.readableRec t=true∧t < P.types.size)→
  DataW.TrodAll enc P W 0 (fun _=>true) true ts vs ds ps→(∀ x∈ps,x.block < W.heap.size)→DataW.TrodAll enc P W' 0 (fun b=>decide (b < W.heap.size)) true ts vs ds ps:=by
 intro ts
 induction ts with
 | nil=>
  intro vs ds ps _ h _
  cases vs<;>cases ds<;>first | exact h | exact h.elim
 | cons t ts ih=>
  intro vs ds ps PD h hlt
  cases vs with
  | nil=>cases ds<;>exact h.elim
  | cons v vs=>cases ds with
   | nil=>exact h.elim
   | cons d ds=>
    obtain ⟨p,q,h1,h2,rfl⟩:=h
    obtain ⟨hr,TA⟩:=PD t G0
    exact ⟨p,q,Below.trod hl hr TA h1 hb (fun x hx=>hlt x (by simp [hx])),ih (fun t ht=>PD t (by simp [ht])) h2 (fun x hx=>hlt x (by simp [hx])),rfl⟩
theorem Xz {f:Func} {s:ChangeSpec} {xf fresh handsOn:Bool} {W W':World} {args:Array Value} {ds:List (DataW H)} {before:List MemPlace} {tb:TypeId} (hl:laidOutB P=true) (hv:s.vars=[])
  (PD:∀ t∈f.params.toList,P.readableRec t=true∧t < P.types.size) (YJ:f.resultTypes=#[tb]) (VJ:P.underlying tb=some .bool)
  (hs:s.fn H ds={results:=[.lit (.bool true)],args:=ds })
  (hA:DataW.TrodAll enc P W 0 (fun _=>true) true f.params.toList args.toList ds before) (hW:DataW.Whole enc P f.params.toList s.vars xf W args.toList ds [] before) (hb:Below W.heap.size W W'):
  s.post enc P f xf fresh handsOn false W args (.bool true) W':=by
 have hlt:∀ p∈before,p.block < W.heap.size:=fun p hp=>hW.lt p hp
 refine ⟨ds,[],before,[],before,[],hW,?_,?_,?_,World.keptBut_mono (fun p hp=>⟨hp,?_⟩) (hb.frame (·∈before)),fun h=>by cases h⟩
 ·rw [I7,hs,YJ]
  have bJ:∀ base sp hd,DataW.Trod enc P W' base sp hd tb (.bool true) (.lit (.bool true)) []:=fun base sp hd=>⟨1,by simp [DataW.trod,Value.cells,VJ]⟩
  exact trodAll_mk1 (bJ _ _ _)
 ·rw [I7,hs]
  exact Uv hl hb PD hA hlt
 ·rw [I7,hs,hv]; rfl
 ·exact .inr (.inl hp)
end
end Sx
