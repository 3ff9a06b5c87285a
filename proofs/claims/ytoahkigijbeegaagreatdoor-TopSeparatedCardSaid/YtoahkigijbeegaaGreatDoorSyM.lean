/- Maps with integer keys that the call itself has made: what an entry reads as, looking up, writing, many maps behind one slice. It holds over any program. -/
import Derived.Test.YtoahkigijbeegaaGreatDoorSxU
import Derived.MapKept
namespace Sx
open Go
def vOf:List Value→Value
 | [v]=>v
 | cs=>.agg cs.toArray
section
variable {α:Type} {E:Rp α} {ik:IntKind} {w w':World} {X X':Nat→Prop}
def Ent (w:World) (X:Nat→Prop) (E:Rp α) (ik:IntKind) (e:MapEntry) (x:Int×α):Prop:=e.key=.int ik x.1∧∃ cs,e.val=vOf cs∧E.r w X cs x.2
def Ents (w:World) (X:Nat→Prop) (E:Rp α) (ik:IntKind):List MapEntry→List (Int×α)→Prop
 | [],[]=>True
 | e::es,x::l=>Ent w X E ik e x∧Ents w X E ik es l
 | _,_=>False
theorem Ents.mono (hs:Same X w w') (hx:∀ b,X b→X' b):∀ {es:List MapEntry} {l:List (Int×α)},Ents w X E ik es l→Ents w' X' E ik es l
 | [],[],_=>trivial
 | [],_::_,h=>h
 | _::_,[],h=>h
 | _::_,_::_,⟨⟨h1,cs,h2,h3⟩,h⟩=>⟨⟨h1,cs,h2,E.mono h3 hs hx⟩,h.mono hs hx⟩
def mget:List (Int×α)→Int→Option α
 | [],_=>none
 | (j,x)::l,k=>if j=k then some x else mget l k
def mput:List (Int×α)→Int→α→List (Int×α)
 | [],k,z=>[(k,z)]
 | (j,x)::l,k,z=>if j=k then (k,z)::l else (j,x)::mput l k z
theorem qc {k:Int}:∀ {es:List MapEntry} {l:List (Int×α)} {n:Nat},Ents w X E ik es l→mget l k=none→Instr.findNow (.int ik) (.int ik k) es n=some none
 | [],[],_,_,_=>rfl
 | [],_::_,_,h,_=>h.elim
 | _::_,[],_,h,_=>h.elim
 | e::es,(j,x)::l,n,⟨⟨h1,_⟩,h⟩,hg=>by
  unfold mget at hg
  by_cases e:j=k
  ·rw [I0 e] at hg; cases hg
  ·rw [J0 e] at hg
   simp only [Instr.findNow,Instr.sameNow,h1,if_true]
   have hb:(k == j)=false:=beq_eq_false_iff_ne.2 (fun h=>e h.symm)
   simp only [hb]
   exact qc h hg
theorem mb {k:Int} {z:α}:∀ {es:List MapEntry} {l:List (Int×α)} {n:Nat},Ents w X E ik es l→mget l k=some z→∃ (i:Nat) (e:MapEntry) (cs:List Value),Instr.findNow (.int ik) (.int ik k) es n=some (some (n+i,e.val))∧es[i]?=some e∧e.key=.int ik k∧e.val=vOf cs∧E.r w X cs z∧∀ (v:Value) (cs':List Value) (y:α),v=vOf cs'→E.r w X cs' y→Ents w X E ik (es.set i {e with key:=.int ik k,val:=v }) (mput l k y)
 | [],[],_,_,hg=>by cases hg
 | [],_::_,_,h,_=>h.elim
 | _::_,[],_,h,_=>h.elim
 | e::es,(j,x)::l,n,⟨⟨h1,cs,h2,h3⟩,h⟩,hg=>by
  unfold mget at hg
  by_cases ej:j=k
  ·rw [I0 ej] at hg
   cases hg
   subst ej
   refine ⟨0,e,cs,?_,rfl,h1,h2,h3,fun v cs' y hv hy=>?_⟩
   ·simp only [Instr.findNow,Instr.sameNow,h1,if_true,BEq.rfl,l7]
   ·unfold mput
    rw [I0 rfl]
    exact ⟨⟨rfl,cs',hv,hy⟩,h⟩
  ·rw [J0 ej] at hg
   obtain ⟨i,e',cs',f1,f2,f3,f4,f5,f6⟩:=mb (n:=n+1) h hg
   refine ⟨i+1,e',cs',?_,f2,f3,f4,f5,fun v c y hv hy=>?_⟩
   ·have hb:(k == j)=false:=beq_eq_false_iff_ne.2 (fun h=>ej h.symm)
    simp only [Instr.findNow,Instr.sameNow,h1,if_true,hb]
    rw [f1,show n+1+i=n+(i+1) by omega]
   ·unfold mput
    rw [J0 ej]
    exact ⟨⟨h1,cs,h2,h3⟩,f6 v c y hv hy⟩
theorem Ai {k:Int} {v:Value} {cs:List Value} {y:α} {born:Nat} (hv:v=vOf cs) (hy:E.r w X cs y):∀ {es:List MapEntry} {l:List (Int×α)},Ents w X E ik es l→mget l k=none→Ents w X E ik (es++[{key:=.int ik k,val:=v,born:=born }]) (mput l k y)
 | [],[],_,_=>⟨⟨rfl,cs,hv,hy⟩,trivial⟩
 | [],_::_,h,_=>h.elim
 | _::_,[],h,_=>h.elim
 | e::es,(j,x)::l,⟨h1,h⟩,hg=>by
  unfold mget at hg
  by_cases ej:j=k
  ·rw [I0 ej] at hg; cases hg
  ·rw [J0 ej] at hg
   unfold mput
   rw [J0 ej]
   exact ⟨h1,Ai hv hy h hg⟩
def Brn (es:List MapEntry) (cl:Nat):Prop:=(es.map (·.born)).Nodup∧∀ n,n∈es.map (·.born)→n < cl
def mp {α:Type} (b:Nat) (ik:IntKind) (E:Rp α) (l:List (Int×α)):Res where
 holds w X F:=(∃ es clock,w.heap[b]?=some (.map es clock)∧Ents w X E ik es.toList l∧Brn es.toList clock)∧∀ x,F x↔x=b
 loc:=fun ⟨⟨es,c,h,he,hb⟩,hF⟩ hX hs hS=>⟨⟨es,c,by rw [hS b ((hF b).2 rfl)]; exact h,he.mono hX hs,hb⟩,hF⟩
 lt:=fun ⟨⟨es,c,h,_⟩,hF⟩ hb=>by have:=(hF _).1 hb; subst this; exact (yd.1 h).1
end
section
variable {α:Type} {E:Rp α} {ik:IntKind} {P:Program} {w0 w:World} {mu:List Fact} {rs:List Res} {a:Act} {d:Option Tmp} {t:TypeId} {p:String} {af:Array Edge} {g:Option (Nat×Bool)} {x y:Operand} {T kt et b:Nat} {l:List (Int×α)} {k:Int} {z:α} {zv:Value} {c:Bool}
theorem St.mp_h (nu:St w0 mu rs w) (hm:mp b ik E l∈rs):∃ X es clock,StX w0 X mu rs w∧w.heap[b]?=some (.map es clock)∧Ents w X E ik es.toList l:=by
 obtain ⟨X,hX⟩:=nu
 obtain ⟨F,⟨es,c,h1,h2,_⟩,_⟩:=hX.own.get hm
 exact ⟨X,es,c,hX,h1,h2⟩
def MRd {α:Type} (mu:List Fact) (rs:List Res) (b:Nat) (ik:IntKind) (E:Rp α) (l:List (Int×α)):Prop:=∀ w0 X w,StX w0 X mu rs w→∃ es clock,w.heap[b]?=some (.map es clock)∧Ents w X E ik es.toList l
theorem MRd.get (hm:MRd mu rs b ik E l) (nu:St w0 mu rs w):∃ X es clock,StX w0 X mu rs w∧w.heap[b]?=some (.map es clock)∧Ents w X E ik es.toList l:=by
 obtain ⟨X,hX⟩:=nu
 obtain ⟨es,c,h1,h2⟩:=hm _ _ _ hX
 exact ⟨X,es,c,hX,h1,h2⟩
theorem Chg.obj {F:Nat→Prop} {w:World} {b:Nat} {o:Obj} (h:F b):Chg F w {w with heap:=w.heap.setIfInBounds b o }:=
 ⟨rfl,rfl,rfl,G0,fun c hc hn=>by
  have:b≠c:=fun e=>hn (e▸h)
  simp [this]⟩
theorem nc {w:World} {b:Nat} {o o':Obj} (h:w.heap[b]?=some o):({w with heap:=w.heap.setIfInBounds b o' }:World).heap[b]?=some o':=(MapKept.heap_set h).1
theorem rMm {α:Type} {E:Rp α} {ik:IntKind} (nu:St w0 mu rs w):∃ b w',(execOp a.eval ⟨d,.makeMap T none,t,p,af,g⟩).run P w=.ok (.value (.map (some b))) w'∧St w0 mu (mp b ik E []::rs) w':=by
 refine ⟨w.heap.size,w.alloc (.map #[] 0),?_,?_⟩
 ·simp [execOp,Instr.makeMap]
 ·exact nu.new (Chg.alloc _ _ _) fun X _ _=>⟨fun b=>b=w.heap.size,⟨⟨#[],0,heap_alloc_new w _,trivial,List.nodup_nil,fun n h=>by simp at h⟩,fun _=>U8⟩,fun b hb=>n0⟩
theorem Zr {es:List MapEntry} {i:Nat} {e e':MapEntry} (h:es[i]?=some e) (hb:e'.born=e.born):(es.set i e').map (·.born)=es.map (·.born):=by
 rw [List.map_set,hb]
 refine C6 fun j=>?_
 by_cases hj:i=j
 ·subst hj
  have hi:i < (es.map (·.born)).length:=by rw [L8]; exact (C2.1 h).1
  rw [N6 hi,H7,h]; rfl
 ·rw [Sf hj]
theorem rMu {u:Value} {cs:List Value} {ins:Bool} {yv:Operand} (nu:St w0 mu (mp b ik E l::rs) w) (ht:P.underlying T=some (.map kt et)) (hk:P.underlying kt=some (.int ik)) (hx:a.eval x=.map (some b)) (hy:a.eval y=.int ik k) (hv:a.eval yv=vOf cs) (hm:Mk mu E cs z):
  ∃ w',(execOp a.eval ⟨d,if ins=true then .insert T x y yv else .mapUpdate T x y yv,t,p,af,g⟩).run P w=.ok .skip w'∧St w0 mu (mp b ik E (mput l k z)::rs) w':=by
 obtain ⟨X0,es,cl,kG,h1,h2⟩:=nu.mp_h (.head _)
 have hc:(Instr.checkKey false 10000 kt (.int ik k)).run P w=.ok () w:=MapKept.run_checkKey (k:=.int ik k) hk (by simp [MapKept.IsKey]) _ 9999
 cases hg:mget l k with
 | none=>
  have hf:=qc (n:=0) h2 hg
  refine ⟨{w with heap:=w.heap.setIfInBounds b (.map (es.push {key:=.int ik k,val:=vOf cs,born:=cl }) (cl+1)) },?_,nu.upd fun X F hq hF=>?_⟩
  ·cases ins<;>simp [execOp,hx,hy,hv,Instr.mapUpdate,run_underlying ht,MapKept.run_getObj_map h1,hc,MapKept.run_findKey hk hf,MapKept.run_setObj_map _ h1,Result.andThen]
  ·obtain ⟨⟨es',cl',g1,g2,g3,g4⟩,gF⟩:=hF
   rw [h1] at g1
   cases g1
   refine ⟨F,fun hs=>⟨⟨_,_,nc h1,?_,?_,?_⟩,gF⟩,fun _ h=>.inl h,Chg.obj ((gF b).2 rfl)⟩
   ·rw [Ha]
    exact Ai rfl (E.mono (hm w X hq) hs fun _ h=>h) (g2.mono hs fun _ h=>h) hg
   ·rw [Ha,o7,K8]
    refine ⟨g3,G0,fun n hn m SD=>?_⟩
    have:=g4 n hn
    simp at SD
    omega
   ·intro n hn
    rw [Ha,o7,I2] at hn
    rcases hn with hn | hn
    ·have:=g4 n hn; omega
    ·simp at hn; omega
 | some z0=>
  obtain ⟨i,e,cs0,f1,f2,f3,f4,f5,f6⟩:=mb (n:=0) h2 hg
  have hi:i < es.size:=by have:=(C2.1 f2).1; simpa using this
  have f2':es[i]?=some e:=by rw [← V8]; exact f2
  refine ⟨{w with heap:=w.heap.setIfInBounds b (.map (es.modify i fun e=>{e with key:=.int ik k,val:=vOf cs }) cl) },?_,nu.upd fun X F hq hF=>?_⟩
  ·have lK:(Instr.keyThatStays (.int ik k) (.int ik k)).run P w=.ok (.int ik k) w:=MapKept.run_keyThatStays (d:=.int ik) (by simp [MapKept.IsKey])
   cases ins<;>simp [execOp,hx,hy,hv,Instr.mapUpdate,run_underlying ht,MapKept.run_getObj_map h1,hc,MapKept.run_findKey hk f1,MapKept.run_setObj_map _ h1,Result.andThen,f2',f3,lK]
  ·obtain ⟨⟨es',cl',g1,g2,g3,g4⟩,gF⟩:=hF
   rw [h1] at g1
   cases g1
   have JD:(es.modify i fun e=>{e with key:=.int ik k,val:=vOf cs }).toList=es.toList.set i {e with key:=.int ik k,val:=vOf cs }:=by
    apply C6
    intro j
    rw [V8,Ej]
    by_cases hj:i=j
    ·subst hj
     rw [I0 rfl,f2',N6 (by simpa using hi)]; rfl
    ·rw [J0 hj,Sf hj,V8]
   refine ⟨F,fun hs=>⟨⟨_,_,nc h1,?_,?_⟩,gF⟩,fun _ h=>.inl h,Chg.obj ((gF b).2 rfl)⟩
   ·rw [JD]
    obtain ⟨i',e',cs',k1,k2,k3,k4,k5,k6⟩:=mb (n:=0) (g2.mono hs fun _ h=>h) hg
    rw [f1] at k1
    have xK:i=i':=by simpa using (Prod.mk.inj (P1 (P1 k1))).1
    subst xK
    rw [f2] at k2
    cases k2
    exact k6 _ _ _ rfl (E.mono (hm w X hq) hs fun _ h=>h)
   ·unfold Brn
    rw [JD,Zr (e':={e with key:=.int ik k,val:=vOf cs }) f2 rfl]
    exact ⟨g3,g4⟩
def mpS {α:Type} (b:Nat) (ik:IntKind) (E:Rp α) (l:List (Int×α)) (k:Int) (st:Nat):Res where
 holds w X F:=(∃ es clock,w.heap[b]?=some (.map es clock)∧Ents w X E ik es.toList l∧Brn es.toList clock∧∃ (i:Nat) (e:MapEntry),Instr.findNow (.int ik) (.int ik k) es.toList 0=some (some (i,e.val))∧es.toList[i]?=some e∧e.born=st)∧∀ x,F x↔x=b
 loc:=fun ⟨⟨es,c,h,he,hb⟩,hF⟩ hX hs hS=>⟨⟨es,c,by rw [hS b ((hF b).2 rfl)]; exact h,he.mono hX hs,hb⟩,hF⟩
 lt:=fun ⟨⟨es,c,h,_⟩,hF⟩ hb=>by have:=(hF _).1 hb; subst this; exact (yd.1 h).1
theorem Hq {k:Int} {v:Value} {n:Nat} {cl:Nat}:∀ {es:List MapEntry},Instr.findNow (.int ik) (.int ik k) es n=some none→Instr.findNow (.int ik) (.int ik k) (es++[{key:=.int ik k,val:=v,born:=cl }]) n=some (some (n+es.length,v))
 | [],_=>by simp [Instr.findNow,Instr.sameNow]
 | e::es,h=>by
  simp only [Instr.findNow,Da] at h ⊢
  cases hs:Instr.sameNow (.int ik) (.int ik k) e.key with
  | none=>rw [hs] at h; cases h
  | some c=>
   cases c with
   | true=>rw [hs] at h; cases h
   | false=>
    rw [hs] at h
    rw [Hq (n:=n+1) h,B4,show n+1+es.length=n+(es.length+1) by omega]
theorem Lp {q:α}:∀ (l:List (Int×α)),mput (mput l k q) k z=mput l k z
 | []=>by simp [mput]
 | (j,x)::l=>by
  by_cases e:j=k
  ·simp [mput,e]
  ·simp [mput,e,Lp l]
def mpE {α:Type} (b:Nat) (ik:IntKind) (E:Rp α) (l:List (Int×α)) (k:Int) (st:Nat):Res where
 holds w X F:=∃ l',(∀ z,mput l' k z=mput l k z)∧(mpS b ik E l' k st).holds w X F
 loc:=fun ⟨l',h,hl⟩ hX hs hS=>⟨l',h,(mpS b ik E l' k st).loc hl hX hs hS⟩
 lt:=fun ⟨l',_,hl⟩ hb=>(mpS b ik E l' k st).lt hl hb
theorem St.mpE {l':List (Int×α)} {st:Nat} (h:∀ z,mput l' k z=mput l k z) (nu:St w0 mu (mpS b ik E l' k st::rs) w):St w0 mu (mpE b ik E l k st::rs) w:=nu.conv fun _ _ hF=>⟨l',h,hF⟩
theorem rMe {zs:List Value} {q:α} (nu:St w0 mu (mp b ik E l::rs) w) (ht:P.underlying T=some (.map kt et)) (hk:P.underlying kt=some (.int ik)) (hx:a.eval x=.map (some b)) (hy:a.eval y=.int ik k) (hz:∀ w,(zeroValue et).run P w=.ok (vOf zs) w) (hm:Mk mu E zs q):
  ∃ (q:Nat×Value) (w':World),(execOp a.eval ⟨d,.mapEntry T x y,t,p,af,g⟩).run P w=.ok (.value (.tuple #[q.2,.int .i64 (q.1:Nat)])) w'∧St w0 mu (mpE b ik E l k q.1::rs) w':=by
 suffices h:∃ (st:Nat) (v:Value) (w':World),(execOp a.eval ⟨d,.mapEntry T x y,t,p,af,g⟩).run P w=.ok (.value (.tuple #[v,.int .i64 (st:Nat)])) w'∧St w0 mu (mpS b ik E (if (mget l k).isNone then mput l k q else l) k st::rs) w' by
  obtain ⟨st,v,w',h1,h2⟩:=h
  exact ⟨(st,v),w',h1,h2.mpE fun z=>by
   cases e:mget l k with
   | none=>simp [Lp]
   | some z0=>simp⟩
 obtain ⟨X0,es,cl,kG,h1,h2⟩:=nu.mp_h (.head _)
 have hc:(Instr.checkKey false 10000 kt (.int ik k)).run P w=.ok () w:=MapKept.run_checkKey (k:=.int ik k) hk (by simp [MapKept.IsKey]) _ 9999
 cases hg:mget l k with
 | none=>
  have hf:=qc (n:=0) h2 hg
  refine ⟨cl,vOf zs,{w with heap:=w.heap.setIfInBounds b (.map (es.push {key:=.int ik k,val:=vOf zs,born:=cl }) (cl+1)) },?_,nu.upd fun X F hq hF=>?_⟩
  ·simp [execOp,hx,hy,Instr.mapEntry,run_underlying ht,MapKept.run_getObj_map h1,hc,MapKept.run_findKey hk hf,MapKept.run_setObj_map _ h1,Result.andThen,hz,goInt]
  ·obtain ⟨⟨es',cl',g1,g2,g3,g4⟩,gF⟩:=hF
   rw [h1] at g1
   cases g1
   refine ⟨F,fun hs=>⟨⟨_,_,nc h1,?_,⟨?_,?_⟩,es.size,{key:=.int ik k,val:=vOf zs,born:=cl },?_,?_,rfl⟩,gF⟩,fun _ h=>.inl h,Chg.obj ((gF b).2 rfl)⟩
   ·rw [Ha]
    exact Ai rfl (E.mono (hm w X hq) hs fun _ h=>h) (g2.mono hs fun _ h=>h) hg
   ·rw [Ha,o7,K8]
    refine ⟨g3,G0,fun n hn m SD=>?_⟩
    have:=g4 n hn
    simp at SD
    omega
   ·intro n hn
    rw [Ha,o7,I2] at hn
    rcases hn with hn | hn
    ·have:=g4 n hn; omega
    ·simp at hn; omega
   ·rw [Ha,Hq hf,o8,J9]
   ·rw [Ha,F9 G0]
    simp
 | some z0=>
  obtain ⟨i,e,cs0,f1,f2,f3,f4,f5,f6⟩:=mb (n:=0) h2 hg
  have hi:i < es.size:=by have:=(C2.1 f2).1; simpa using this
  have f2':es[i]?=some e:=by rw [← V8]; exact f2
  have lK:(Instr.keyThatStays (.int ik k) (.int ik k)).run P w=.ok (.int ik k) w:=MapKept.run_keyThatStays (d:=.int ik) (by simp [MapKept.IsKey])
  have JD:(es.modify i fun e=>{e with key:=.int ik k })=es:=by
   apply Array.ext_getElem?
   intro j
   rw [Ej]
   by_cases hj:i=j
   ·subst hj
    rw [I0 rfl,f2',← f3]; rfl
   ·rw [J0 hj]
  refine ⟨e.born,e.val,{w with heap:=w.heap.setIfInBounds b (.map es cl) },?_,nu.upd fun X F hq hF=>?_⟩
  ·have PI:(es.modify i fun e=>{key:=.int ik k,val:=e.val,born:=e.born })=es:=JD
   simp [execOp,hx,hy,Instr.mapEntry,run_underlying ht,MapKept.run_getObj_map h1,hc,MapKept.run_findKey hk f1,MapKept.run_setObj_map _ h1,Result.andThen,f2',f3,lK,goInt,PI]
  ·obtain ⟨⟨es',cl',g1,g2,g3⟩,gF⟩:=hF
   rw [h1] at g1
   cases g1
   exact ⟨F,fun hs=>⟨⟨_,_,nc h1,g2.mono hs fun _ h=>h,g3,i,e,by rw [f1,o8],f2,rfl⟩,gF⟩,fun _ h=>.inl h,Chg.obj ((gF b).2 rfl)⟩
theorem js {st:Nat}:∀ {es:List MapEntry} {i:Nat} {e:MapEntry},(es.map (·.born)).Nodup→es[i]?=some e→e.born=st→es.findIdx? (fun e=>(e.born:Int) == (st:Int))=some i
 | [],_,_,_,h,_=>by simp at h
 | f::es,i,e,hn,h,hb=>by
  rw [List.findIdx?_cons]
  cases i with
  | zero=>simp at h; subst h; simp [hb]
  | succ i=>
   simp only [Sc] at h
   rw [F7,xt] at hn
   have Bu:f.born≠st:=fun e'=>hn.1 (by rw [e',← hb]; exact Z5.2 ⟨e,Qf h,rfl⟩)
   have hf:((f.born:Int) == (st:Int))=false:=beq_eq_false_iff_ne.2 n0
   rw [hf,js hn.2 h hb]
   simp
theorem rEs0 {st:Nat} {cs:List Value} {yv:Operand} (nu:St w0 mu (mpS b ik E l k st::rs) w) (hx:a.eval x=.map (some b)) (hy:a.eval y=.int .i64 (st:Nat)) (hv:a.eval yv=vOf cs) (hm:Mk mu E cs z):
  ∃ w',(execOp a.eval ⟨d,.entryStore T x y yv,t,p,af,g⟩).run P w=.ok .skip w'∧St w0 mu (mp b ik E (mput l k z)::rs) w':=by
 obtain ⟨es,cl,i,e,h1,f1,f2,hb,hn⟩:∃ (es:Array MapEntry) (cl i:Nat) (e:MapEntry),w.heap[b]?=some (.map es cl)∧Instr.findNow (.int ik) (.int ik k) es.toList 0=some (some (i,e.val))∧es.toList[i]?=some e∧e.born=st∧(es.toList.map (·.born)).Nodup:=by
  obtain ⟨X,hX⟩:=nu
  obtain ⟨F,⟨es,c,h1,_,hb,i,e,f1,f2,f3⟩,_⟩:=hX.own.get (.head _)
  exact ⟨es,c,i,e,h1,f1,f2,f3,hb.1⟩
 have hi:i < es.size:=by have:=(C2.1 f2).1; simpa using this
 have f2':es[i]?=some e:=by rw [← V8]; exact f2
 have vJ:es.findIdx? (fun e=>(e.born:Int) == (st:Int))=some i:=by
  have h:=js hn f2 hb
  cases es with
  | mk L=>simpa using h
 refine ⟨{w with heap:=w.heap.setIfInBounds b (.map (es.modify i fun e=>{e with val:=vOf cs }) cl) },?_,nu.upd fun X F hq hF=>?_⟩
 ·simp [execOp,hx,hy,hv,Instr.entryStore,MapKept.run_getObj_map h1,MapKept.run_setObj_map _ h1,Result.andThen,asInt,asIntOf,vJ]
 ·obtain ⟨⟨es',cl',g1,g2,⟨g3,g4⟩,_⟩,gF⟩:=hF
  rw [h1] at g1
  cases g1
  refine ⟨F,fun hs=>⟨⟨_,_,nc h1,?_,?_⟩,gF⟩,fun _ h=>.inl h,Chg.obj ((gF b).2 rfl)⟩
  ·have NI:∃ z0,mget l k=some z0:=by
    cases hg:mget l k with
    | none=>rw [qc (n:=0) g2 hg] at f1; cases f1
    | some z0=>exact ⟨z0,rfl⟩
   obtain ⟨z0,hg⟩:=NI
   obtain ⟨i',e',cs',k1,k2,k3,k4,k5,k6⟩:=mb (n:=0) (g2.mono hs fun _ h=>h) hg
   rw [f1] at k1
   have xK:i=i':=by simpa using (Prod.mk.inj (P1 (P1 k1))).1
   subst xK
   rw [f2] at k2
   cases k2
   have JD:(es.modify i fun e=>{e with val:=vOf cs }).toList=es.toList.set i {e with key:=.int ik k,val:=vOf cs }:=by
    apply C6
    intro j
    rw [V8,Ej]
    by_cases hj:i=j
    ·subst hj
     rw [I0 rfl,f2',N6 (by simpa using hi),← k3]; rfl
    ·rw [J0 hj,Sf hj,V8]
   rw [JD]
   exact k6 _ _ _ rfl (E.mono (hm w X hq) hs fun _ h=>h)
  ·have JD:(es.modify i fun e=>{e with val:=vOf cs }).toList=es.toList.set i {e with val:=vOf cs }:=by
    apply C6
    intro j
    rw [V8,Ej]
    by_cases hj:i=j
    ·subst hj
     rw [I0 rfl,f2',N6 (by simpa using hi)]; rfl
    ·rw [J0 hj,Sf hj,V8]
   unfold Brn
   rw [JD,Zr (e':={e with val:=vOf cs }) f2 rfl]
   exact ⟨g3,g4⟩
theorem rEs {st:Nat} {cs:List Value} {yv:Operand} (nu:St w0 mu (mpE b ik E l k st::rs) w) (hx:a.eval x=.map (some b)) (hy:a.eval y=.int .i64 (st:Nat)) (hv:a.eval yv=vOf cs) (hm:Mk mu E cs z):
  ∃ w',(execOp a.eval ⟨d,.entryStore T x y yv,t,p,af,g⟩).run P w=.ok .skip w'∧St w0 mu (mp b ik E (mput l k z)::rs) w':=by
 obtain ⟨l',h,gL⟩:∃ l',(∀ z,mput l' k z=mput l k z)∧St w0 mu (mpS b ik E l' k st::rs) w:=by
  obtain ⟨X,hX⟩:=nu
  obtain ⟨F,⟨l',h,hF⟩,hr⟩:=hX.own
  exact ⟨l',h,X,hX.ext,hX.old,hX.xlt,hX.ro,F,hF,hr⟩
 rw [← h z]
 exact rEs0 gL hx hy hv hm
end
abbrev MH:=List (Option Nat)
abbrev MpL (α:Type):=List (Option (List (Int×α)))
def getM {α:Type} (l:MpL α) (i:Int):Option (List (Int×α)):=(getI l i).bind id
abbrev setM {α:Type} (l:MpL α) (i:Int) (z:List (Int×α)):Option (MpL α):=setI l i (some z)
theorem Wh {α:Type} {l:MpL α} {i:Int} {z:List (Int×α)} (h:getM l i=some z):getI l i=some (some z):=by
 unfold getM at h
 cases e:getI l i with
 | none=>rw [e] at h; cases h
 | some u=>rw [e] at h; exact S0 some h
def mlkD {α:Type} (l:List (Int×α)) (k:Int) (q:α):Option α:=some ((mget l k).getD q)
section
variable {α:Type} {E:Rp α} {ik:IntKind} {P:Program} {w0 w:World} {mu:List Fact} {rs:List Res} {a:Act} {d:Option Tmp} {t:TypeId} {p:String} {af:Array Edge} {g:Option (Nat×Bool)} {x y:Operand} {T kt et b:Nat} {l:List (Int×α)} {k:Int} {z:α} {zv:Value} {c:Bool}
structure MapT (P:Program) (T:TypeId) (ik:IntKind) (zv:Value):Prop where
 h:∃ kt et,P.underlying T=some (.map kt et)∧P.underlying kt=some (.int ik)∧∀ w,(zeroValue et).run P w=.ok zv w
theorem yz {P:Program} {T kt et:TypeId} {ik:IntKind} {zv:Value} (h1:P.underlying T=some (.map kt et)) (h2:P.underlying kt=some (.int ik)) (h3:(P.info? et).map (fun i=>i.zero)=some (some zv)):MapT P T ik zv:=by
 refine ⟨kt,et,h1,h2,fun w=>?_⟩
 cases h:P.info? et with
 | none=>simp [h] at h3
 | some ti=>
  simp [h] at h3
  simp [zeroValue,typeInfo,h,h3]
structure LkA (w:World) (b:Nat) (ik:IntKind) (k:Int) (zv u:Value) (c:Bool):Prop where
 h:∃ es cl,w.heap[b]?=some (.map es cl)∧((Instr.findNow (.int ik) (.int ik k) es.toList 0=some none∧u=zv∧c=false)∨∃ i,Instr.findNow (.int ik) (.int ik k) es.toList 0=some (some (i,u))∧c=true)
theorem St.mlk {q:α} {zs:List Value} (nu:St w0 mu rs w) (hm:MRd mu rs b ik E l) (hg:mlkD l k q=some z) (hq:Mk mu E zs q):∃ cs,LkA w b ik k (vOf zs) (vOf cs) (mget l k).isSome∧St w0 (elt E cs z::mu) rs w:=by
 obtain ⟨X,es,cl,hX,h1,h2⟩:=hm.get nu
 have hz:=P1 hg
 cases e:mget l k with
 | none=>
  rw [e] at hz
  refine ⟨zs,⟨es,cl,h1,.inl ⟨qc h2 e,rfl,rfl⟩⟩,X,hX.ext,hX.old,hX.xlt,fun r hr=>?_,hX.own⟩
  rcases G3.1 hr with rfl | hr
  ·rw [← hz]; exact hq w X hX.ro
  ·exact hX.ro r hr
 | some u=>
  rw [e] at hz
  obtain ⟨i,f,cs,f1,f2,f3,f4,f5,_⟩:=mb (n:=0) h2 e
  refine ⟨cs,⟨es,cl,h1,.inr ⟨0+i,by rw [f1,f4],rfl⟩⟩,X,hX.ext,hX.old,hX.xlt,fun r hr=>?_,hX.own⟩
  rcases G3.1 hr with rfl | hr
  ·rw [← hz]; exact f5
  ·exact hX.ro r hr
theorem LkA.yi {u:Value} {s:Bool} (hl:LkA w b ik k zv u s) (M:MapT P T ik zv) (hx:a.eval x=.map (some b)) (hy:a.eval y=.int ik k):Yi P a w ⟨d,.lookup T x y c,t,p,af,g⟩ (if c=true then .tuple #[u,.bool s] else u):=by
 obtain ⟨kt,et,ht,hk,hz⟩:=M.h
 obtain ⟨es,cl,h1,h2⟩:=hl.h
 have hc:(Instr.checkKey es.isEmpty 10000 kt (.int ik k)).run P w=.ok () w:=MapKept.run_checkKey (k:=.int ik k) hk (by simp [MapKept.IsKey]) _ 9999
 unfold Yi
 rcases h2 with ⟨hf,rfl,rfl⟩ | ⟨i,hf,rfl⟩<;>cases c<;>simp [execOp,hx,hy,Instr.lookup,run_underlying ht,MapKept.run_getObj_map h1,hc,MapKept.run_findKey hk hf,hz,Result.andThen]
theorem yMl {u:Value} {s:Bool} (hl:LkA w b ik k zv u s) (M:MapT P T ik zv) (hx:a.eval x=.map (some b)) (hy:a.eval y=.int ik k):Yi P a w ⟨d,.lookup T x y false,t,p,af,g⟩ u:=hl.yi M hx hy
theorem yMlc {u:Value} {s:Bool} (hl:LkA w b ik k zv u s) (M:MapT P T ik zv) (hx:a.eval x=.map (some b)) (hy:a.eval y=.int ik k):Yi P a w ⟨d,.lookup T x y true,t,p,af,g⟩ (.tuple #[u,.bool s]):=hl.yi M hx hy
theorem rMup {cs:List Value} {yv:Operand} (nu:St w0 mu (mp b ik E l::rs) w) (M:MapT P T ik zv) (hx:a.eval x=.map (some b)) (hy:a.eval y=.int ik k) (hv:a.eval yv=vOf cs) (hm:Mk mu E cs z):
  ∃ w',(execOp a.eval ⟨d,.mapUpdate T x y yv,t,p,af,g⟩).run P w=.ok .skip w'∧St w0 mu (mp b ik E (mput l k z)::rs) w':=by
 obtain ⟨kt,et,ht,hk,hz⟩:=M.h
 exact rMu (u:=zv) (ins:=false) nu ht hk hx hy hv hm
theorem Be {cs:List Value} {yv:Operand} (nu:St w0 mu (mp b ik E l::rs) w) (M:MapT P T ik zv) (hx:a.eval x=.map (some b)) (hy:a.eval y=.int ik k) (hv:a.eval yv=vOf cs) (hm:Mk mu E cs z):
  ∃ w',(execOp a.eval ⟨d,.insert T x y yv,t,p,af,g⟩).run P w=.ok .skip w'∧St w0 mu (mp b ik E (mput l k z)::rs) w':=by
 obtain ⟨kt,et,ht,hk,hz⟩:=M.h
 exact rMu (u:=zv) (ins:=true) nu ht hk hx hy hv hm
theorem rMen {zs:List Value} {q:α} (nu:St w0 mu (mp b ik E l::rs) w) (M:MapT P T ik (vOf zs)) (hx:a.eval x=.map (some b)) (hy:a.eval y=.int ik k) (hm:Mk mu E zs q):
  ∃ (q:Nat×Value) (w':World),(execOp a.eval ⟨d,.mapEntry T x y,t,p,af,g⟩).run P w=.ok (.value (.tuple #[q.2,.int .i64 (q.1:Nat)])) w'∧St w0 mu (mpE b ik E l k q.1::rs) w':=by
 obtain ⟨kt,et,ht,hk,hz⟩:=M.h
 exact rMe nu ht hk hx hy hz hm
end
def emp:Res where
 holds _ _ F:=∀ b,¬ F b
 loc:=fun h _ _ _=>h
 lt:=fun h hb=>absurd hb (h _)
def nores:Res where
 holds _ _ _:=False
 loc:=fun h _ _ _=>h
 lt:=fun h _=>h.elim
def mr {α:Type} (ik:IntKind) (E:Rp α):Option Nat→Option (List (Int×α))→Res
 | some b,some l=>mp b ik E l
 | none,none=>emp
 | _,_=>nores
def zmap {α:Type} (ik:IntKind) (E:Rp α) (hs:List (Option Nat)) (ls:List (Option (List (Int×α)))):List Res:=List.zipWith (mr ik E) hs ls
def famM {α:Type} (ik:IntKind) (E:Rp α) (hs:List (Option Nat)) (ls:List (Option (List (Int×α)))):Res where
 holds w X F:=hs.length=ls.length∧bigH w X (zmap ik E hs ls) F
 loc:=fun ⟨hl,h⟩ hX hs hF=>⟨hl,tf h hX hs hF⟩
 lt:=fun ⟨_,h⟩ hb=>sf h hb
def famMx {α:Type} (ik:IntKind) (E:Rp α) (i:Nat) (hs:List (Option Nat)) (ls:List (Option (List (Int×α)))):Res where
 holds w X F:=hs.length=ls.length∧bigH w X ((zmap ik E hs ls).eraseIdx i) F
 loc:=fun ⟨hl,h⟩ hX hs hF=>⟨hl,tf h hX hs hF⟩
 lt:=fun ⟨_,h⟩ hb=>sf h hb
def rM:Rp (Option Nat):=rF 1 (fun h=>[.map h]) n0 (fun _=>rfl) (fun _ v h=>by simp at h; subst h; rfl)
section
variable {α:Type} {E:Rp α} {ik:IntKind} {w0 w:World} {mu:List Fact} {rs:List Res} {hs:List (Option Nat)} {ls ls':List (Option (List (Int×α)))} {l:List (Int×α)} {i:Int} {b:Nat} {h:Option Nat} {m:Option (List (Int×α))}
theorem Ia {i:Nat} (h1:hs[i]?=some h) (h2:ls[i]?=some m):(zmap ik E hs ls)[i]?=some (mr ik E h m):=by
 simp [zmap,List.getElem?_zipWith,h1,h2]
theorem Fj {i:Nat}:(zmap ik E (hs.set i h) (ls.set i m)).eraseIdx i=(zmap ik E hs ls).eraseIdx i:=by
 induction hs generalizing ls i with
 | nil=>simp [zmap]
 | cons a hs ih=>cases ls with
  | nil=>cases i<;>simp [zmap]
  | cons b ls=>cases i with
   | zero=>simp [zmap]
   | succ i=>simp only [zmap] at ih; simp [zmap,ih]
theorem St.mfL (nu:St w0 mu rs w) (hm:famM ik E hs ls∈rs):hs.length=ls.length:=by
 obtain ⟨X,nu⟩:=nu; obtain ⟨F,hF⟩:=nu.own.get hm; exact hF.1
theorem St.mfI (nu:St w0 mu rs w) (hm:famM ik E hs ls∈rs) (hz:getM ls i=some l):∃ b,getI hs i=some (some b):=by
 replace hz:=Wh hz
 have hl:=nu.mfL hm
 obtain ⟨h0,h1,h2⟩:=m9 hz
 have hi:i.toNat < hs.length:=n0
 have hh:getI hs i=some hs[i.toNat]:=by
  cases i with
  | ofNat k=>simp only [getI]; simp
  | negSucc k=>simp at h0
 obtain ⟨X,hX⟩:=nu
 obtain ⟨F,_,hF⟩:=hX.own.get hm
 obtain ⟨G,_,hG⟩:=uf hF (Ia (X5 hh) (X5 hz))
 cases e:hs[i.toNat] with
 | none=>rw [e] at hG; exact hG.elim
 | some b=>exact ⟨b,by rw [hh,e]⟩
theorem St.mfoc (nu:St w0 mu (famM ik E hs ls::rs) w) (h1:getI hs i=some (some b)) (h2:getM ls i=some l):St w0 mu (mp b ik E l::famMx ik E i.toNat hs ls::rs) w:=by
 replace h2:=Wh h2
 refine St.part (nu.conv fun X F hF=>?_)
 obtain ⟨F1,F2,g1,g2,gd,ge⟩:=(u9 i.toNat (Ia (X5 h1) (X5 h2))).1 hF.2
 exact ⟨F1,F2,g1,⟨hF.1,g2⟩,gd,ge⟩
theorem St.munf {l':List (Int×α)} (h1:getI hs i=some (some b)) (h2:setM ls i l'=some ls') (nu:St w0 mu (mp b ik E l'::famMx ik E i.toNat hs ls::rs) w):St w0 mu (famM ik E hs ls'::rs) w:=by
 obtain ⟨h3,h4,rfl⟩:=y7 h2
 refine St.conv (St.join nu) fun X F hF=>?_
 obtain ⟨F1,F2,g1,⟨hl,g2⟩,gd,ge⟩:=hF
 have hi:=X5 h1
 refine ⟨by simpa using hl,(u9 i.toNat (Ia (h:=some b) (m:=some l') hi ?_)).2 ⟨F1,F2,g1,?_,gd,ge⟩⟩
 ·rw [N6 n0]
 ·have:=Fj (ik:=ik) (E:=E) (hs:=hs) (ls:=ls) (i:=i.toNat) (h:=some b) (m:=some l')
  rw [se hi] at this
  rw [this]; exact g2
theorem St.mfput {CF:List (Option Nat)} (h1:setI hs i (some b)=some CF) (h2:setM ls i l=some ls') (nu:St w0 mu (mp b ik E l::famM ik E hs ls::rs) w):St w0 mu (famM ik E CF ls'::rs) w:=by
 obtain ⟨h3,h4,rfl⟩:=y7 h1
 obtain ⟨_,h6,rfl⟩:=y7 h2
 refine (St.join nu).upd fun X F _ hF=>?_
 obtain ⟨F1,F2,g1,⟨hl,g2⟩,gd,ge⟩:=hF
 have e1:hs[i.toNat]?=some (hs[i.toNat]'(n0)):=J2 n0
 have e2:ls[i.toNat]?=some (ls[i.toNat]'(n0)):=J2 n0
 obtain ⟨G1,G2,k1,k2,kd,ke⟩:=(u9 i.toNat (Ia e1 e2)).1 g2
 refine ⟨fun c=>F1 c∨G2 c,fun _=>⟨by simpa using hl,(u9 i.toNat (Ia (h:=some b) (m:=some l) ?_ ?_)).2 ⟨F1,G2,g1,?_,fun c hc uv=>gd c hc ((ke c).2 (.inr uv)),fun c=>U8⟩⟩,fun c hc=>.inl ((ge c).2 (hc.imp id fun h=>(ke c).2 (.inr h))),Chg.refl _ _⟩
 ·rw [N6 n0]
 ·rw [N6 n0]
 ·rw [Fj]; exact k2
theorem Gh (hm:famM ik E hs ls∈rs) (h1:getI hs i=some (some b)) (h2:getM ls i=some l):MRd mu rs b ik E l:=fun _ X _ hX=>by
 replace h2:=Wh h2
 obtain ⟨F,_,hF⟩:=hX.own.get hm
 obtain ⟨G,_,⟨es,c,g1,g2,_⟩,_⟩:=uf hF (Ia (X5 h1) (X5 h2))
 exact ⟨es,c,g1,g2⟩
theorem AC {X:Nat→Prop} (k:Nat):bigH w X (zmap ik E (List.replicate k none) (List.replicate k none)) (fun _=>False):=by
 induction k with
 | zero=>exact fun _ h=>h
 | succ k ih=>exact ⟨fun _=>False,fun _=>False,fun _ h=>h,ih,fun _ h=>h.elim,fun _=>⟨fun h=>h.elim,fun h=>h.elim id id⟩⟩
theorem St.mfReps (nu:St w0 mu rs w) (ik:IntKind) (E:Rp α) (k:Nat):St w0 mu (famM ik E (List.replicate k none) (List.replicate k none)::rs) w:=
 nu.new (Chg.refl _ _) fun X _ _=>⟨fun _=>False,⟨by rw [T5,T5],AC k⟩,fun _ h=>h.elim⟩
theorem Ou {P:Program} {a:Act} {d:Option Tmp} {t:TypeId} {p:String} {af:Array Edge} {g:Option (Nat×Bool)} {x:Operand} {v:Value} {U e:TypeId} {q:Option Nat} (hS:SlT P U e rM q) (hx:a.eval x=v) (nu:St w0 mu rs w) (hr:Rd mu rs rM v hs) (hm:famM ik E hs ls∈rs):
  Yi P a w ⟨d,.call ⟨.builtin .len,#[x],#[U]⟩,t,p,af,g⟩ (.int .i64 ls.length):=by
 rw [← nu.mfL hm]; exact T1 hS hx nu hr
end
end Sx
