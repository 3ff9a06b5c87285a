/- What the walks know of memory: how values lie in cells, facts on what is never written again, resources with their blocks, and a state that lists them. It holds over any program. -/
import Derived.Test.YtoahkigijbeegaaGreatDoorSxA
namespace Sx
open Go
def Same (X:Nat→Prop) (w w':World):Prop:=∀ b,X b→w'.heap[b]?=w.heap[b]?
theorem Same.refl (X:Nat→Prop) (w:World):Same X w w:=fun _ _=>rfl
theorem Same.sub {X Y:Nat→Prop} {w w':World} (h:Same X w w') (hs:∀ b,Y b→X b):Same Y w w':=fun b hb=>h b (hs b hb)
structure Chg (F:Nat→Prop) (w w':World):Prop where
 os:w'.os=w.os
 tape:w'.tape=w.tape
 output:w'.output=w.output
 size:w.heap.size≤w'.heap.size
 same:∀ b,b < w.heap.size→¬ F b→w'.heap[b]?=w.heap[b]?
theorem Chg.refl (F:Nat→Prop) (w:World):Chg F w w:=⟨rfl,rfl,rfl,O4 _,fun _ _ _=>rfl⟩
theorem Chg.mono {F G:Nat→Prop} {w w':World} (h:Chg F w w') (hs:∀ b,F b→G b):Chg G w w':=⟨h.os,h.tape,h.output,h.size,fun b hb hn=>h.same b hb fun hf=>hn (hs b hf)⟩
theorem Chg.alloc (F:Nat→Prop) (w:World) (o:Obj):Chg F w (w.alloc o):=⟨rfl,rfl,rfl,G0,fun b hb _=>heap_alloc_old w o hb⟩
theorem Chg.drew (F:Nat→Prop) (w:World):Chg F w {w with drawn:=w.drawn+1 }:=⟨rfl,rfl,rfl,O4 _,fun _ _ _=>rfl⟩
theorem Chg.grown {w w':World} {k:Option Nat} (h:w.grownBy w' k):Chg (fun b=>k=some b) w w':=
 ⟨h.os,h.tape,h.output,h.size,fun b hb hn=>h.block b hb (fun e=>hn e.symm)⟩
theorem Chg.setRow {F:Nat→Prop} {w:World} {b:Nat} {cs:Array Value} (h:F b):Chg F w (w.setRow b cs):=
 ⟨rfl,rfl,rfl,G0,fun k _ hn=>setRow_other w b k cs (fun e=>hn (e▸h))⟩
theorem Chg.trans {F:Nat→Prop} {a b c:World} (h:Chg F a b) (k:Chg F b c):Chg F a c:=
 ⟨k.os.trans h.os,k.tape.trans h.tape,k.output.trans h.output,Q5 h.size k.size,fun x hx hn=>(k.same x (Xs hx h.size) hn).trans (h.same x hx hn)⟩
structure Rp (α:Type) where
 s:Nat
 r:World→(Nat→Prop)→List Value→α→Prop
 pos:0 < s
 len:∀ {w X cs x},r w X cs x→cs.length=s
 one:∀ {w X cs x},r w X cs x→∀ v,v∈cs→v.oneCell'=true
 mono:∀ {w w' X X' cs x},r w X cs x→Same X w w'→(∀ b,X b→X' b)→r w' X' cs x
def rF {α:Type} (s:Nat) (e:α→List Value) (hp:0 < s) (hl:∀ x,(e x).length=s) (ho:∀ x v,v∈e x→v.oneCell'=true):Rp α where
 s:=s
 r _ _ cs x:=cs=e x
 pos:=hp
 len:=by rintro _ _ _ _ rfl; exact hl _
 one:=by rintro _ _ _ _ rfl; exact ho _
 mono h _ _:=h
def rI (k:IntKind):Rp Int:=rF 1 (fun n=>[.int k n]) n0 (fun _=>rfl) (fun _ v h=>by simp at h; subst h; rfl)
def rB:Rp Bool:=rF 1 (fun b=>[.bool b]) n0 (fun _=>rfl) (fun _ v h=>by simp at h; subst h; rfl)
def sAddr:Value→Addr | .slice (some a) _ _=>a | _=>⟨0,0,none⟩
def sBlk:Value→Option Nat | .slice (some a) _ _=>some a.block | _=>none
theorem Af (a:Addr) (n:Nat):(a.add n).block=a.block:=by unfold Addr.add; split<;>rfl
theorem Ec (ad:Addr) (i j:Nat):(ad.add i).add j=ad.add (i+j):=by
 by_cases hi:i=0
 ·subst hi; rw [o8]; rfl
 ·by_cases hj:j=0
  ·subst hj; rfl
  ·have h3:i+j≠0:=n0
   unfold Addr.add
   rw [J0 hj,J0 hi,J0 h3,Of]
theorem M7 (g o j:Nat):(⟨g,o,none⟩:Addr).add j=⟨g,o+j,none⟩:=by unfold Addr.add; split<;>simp_all
def Sees {α:Type} (w:World) (X:Nat→Prop) (E:Rp α) (v:Value) (l:List α):Prop:=
 ∃ a cap,v=.slice a l.length cap∧l.length≤cap∧l.length≤maxLen∧∀ i x,l[i]?=some x→a=some (sAddr v)∧
  ∃ cs,E.r w X cs x∧∀ j u,cs[j]?=some u→w.cell? ((sAddr v).add (i*E.s+j))=some u
theorem Sees.mono {α:Type} {w w':World} {X X':Nat→Prop} {E:Rp α} {v:Value} {l:List α} (h:Sees w X E v l) (hX:Same X w w') (hs:∀ b,X b→X' b)
  (hb:l≠[]→∀ b,sBlk v=some b→w'.heap[b]?=w.heap[b]?):Sees w' X' E v l:=by
 obtain ⟨a,cap,rfl,hc,hm,hx⟩:=h
 refine ⟨a,cap,rfl,hc,hm,fun i x hi=>?_⟩
 obtain ⟨ha,cs,hr,hj⟩:=hx i x hi
 refine ⟨ha,cs,E.mono hr hX hs,fun j u hu=>?_⟩
 rw [← hj j u hu]
 refine World.cell?_of_block ?_
 rw [Af]
 refine hb (by intro e; subst e; simp at hi) _ ?_
 rw [ha]; rfl
def Imm {α:Type} (w:World) (X:Nat→Prop) (E:Rp α) (v:Value) (l:List α):Prop:=Sees w X E v l∧(l≠[]→∀ b,sBlk v=some b→X b)
theorem Imm.mono {α:Type} {w w':World} {X X':Nat→Prop} {E:Rp α} {v:Value} {l:List α} (h:Imm w X E v l) (hX:Same X w w') (hs:∀ b,X b→X' b):Imm w' X' E v l:=
 ⟨h.1.mono hX hs fun hn b hb=>hX b (h.2 hn b hb),fun hn b hb=>hs b (h.2 hn b hb)⟩
theorem Sees.slice {α:Type} {w:World} {X:Nat→Prop} {E:Rp α} {v:Value} {l:List α} (h:Sees w X E v l):v.oneCell'=true:=by obtain ⟨a,cap,rfl,_⟩:=h; rfl
def rS {α:Type} (E:Rp α):Rp (List α) where
 s:=1
 r w X cs l:=∃ v,cs=[v]∧Imm w X E v l
 pos:=n0
 len:=by rintro _ _ _ _ ⟨v,rfl,_⟩; rfl
 one:=by rintro _ _ _ _ ⟨v,rfl,h⟩ u hu; simp at hu; subst hu; exact h.1.slice
 mono:=by rintro _ _ _ _ _ _ ⟨v,rfl,h⟩ hX hs; exact ⟨v,rfl,h.mono hX hs⟩
def rP {α β:Type} (A:Rp α) (B:Rp β):Rp (α×β) where
 s:=A.s+B.s
 r w X cs x:=∃ c1 c2,cs=c1++c2∧A.r w X c1 x.1∧B.r w X c2 x.2
 pos:=by have:=A.pos; omega
 len:=by rintro _ _ _ _ ⟨c1,c2,rfl,h1,h2⟩; simp [A.len h1,B.len h2]
 one:=by
  rintro _ _ _ _ ⟨c1,c2,rfl,h1,h2⟩ v hv
  rcases I2.1 hv with hv | hv
  ·exact A.one h1 v hv
  ·exact B.one h2 v hv
 mono:=by rintro _ _ _ _ _ _ ⟨c1,c2,rfl,h1,h2⟩ hX hs; exact ⟨c1,c2,rfl,A.mono h1 hX hs,B.mono h2 hX hs⟩
structure Fact where
 h:World→(Nat→Prop)→Prop
 mono:∀ {w w' X X'},h w X→Same X w w'→(∀ b,X b→X' b)→h w' X'
def imm {α:Type} (E:Rp α) (v:Value) (l:List α):Fact:=⟨fun w X=>Imm w X E v l,fun h=>h.mono⟩
def elt {α:Type} (E:Rp α) (cs:List Value) (x:α):Fact:=⟨fun w X=>E.r w X cs x,fun h=>E.mono h⟩
structure Res where
 holds:World→(Nat→Prop)→(Nat→Prop)→Prop
 loc:∀ {w w' X X' F},holds w X F→Same X w w'→(∀ b,X b→X' b)→Same F w w'→holds w' X' F
 lt:∀ {w X F b},holds w X F→F b→b < w.heap.size
def SLd (w:World) (X:Nat→Prop):List Res→(Nat→Prop)→Prop
 | [],_=>True
 | r::rs,Y=>∃ F,r.holds w X F∧(∀ b,F b→¬ Y b)∧SLd w X rs (fun b=>Y b∨F b)
theorem SLd.shift {w w':World} {X X':Nat→Prop} (hX:Same X w w') (hs:∀ b,X b→X' b):∀ {rs:List Res} {Y Y':Nat→Prop},SLd w X rs Y→(∀ b,¬ Y b→b < w.heap.size→w'.heap[b]?=w.heap[b]?)→
  (∀ b,Y' b→Y b∨w.heap.size≤b)→SLd w' X' rs Y':=by
 intro rs
 induction rs with
 | nil=>intro Y Y' _ _ _; trivial
 | cons r rs ih=>
  intro Y Y' ⟨F,hr,hd,Du⟩ Fu hY
  refine ⟨F,r.loc hr hX hs (fun b hb=>Fu b (hd b hb) (r.lt hr hb)),fun b hb hy=>?_,?_⟩
  ·rcases hY b hy with h | h
   ·exact hd b hb h
   ·have:=r.lt hr hb; omega
  ·refine ih Du (fun b hn hb=>Fu b (fun h=>hn (.inl h)) hb) (fun b hb=>?_)
   rcases hb with hb | hb
   ·rcases hY b hb with h | h
    ·exact .inl (.inl h)
    ·exact .inr h
   ·exact .inl (.inr hb)
theorem SLd.weaken {w:World} {X:Nat→Prop} {rs:List Res} {Y Y':Nat→Prop} (h:SLd w X rs Y) (hs:∀ b,Y' b→Y b):SLd w X rs Y':=
 h.shift (Same.refl _ _) (fun _ h=>h) (fun _ _ _=>rfl) (fun b hb=>.inl (hs b hb))
theorem SLd.grow {w:World} {X X':Nat→Prop} {rs:List Res} {Y:Nat→Prop} (h:SLd w X rs Y) (hs:∀ b,X b→X' b):SLd w X' rs Y:=
 h.shift (Same.refl _ _) hs (fun _ _ _=>rfl) (fun _ hb=>.inl hb)
theorem SLd.get {w:World} {X:Nat→Prop} {r:Res}:∀ {rs:List Res} {Y:Nat→Prop},SLd w X rs Y→r∈rs→∃ F,r.holds w X F:=by
 intro rs
 induction rs with
 | nil=>intro Y _ h; cases h
 | cons s rs ih=>
  intro Y ⟨F,hr,_,Du⟩ h
  rcases G3.1 h with rfl | h
  ·exact ⟨F,hr⟩
  ·exact ih Du h
structure StX (w0:World) (X:Nat→Prop) (mu:List Fact) (rs:List Res) (w:World):Prop where
 ext:Chg (fun _=>False) w0 w
 old:∀ b,b < w0.heap.size→X b
 xlt:∀ b,X b→b < w.heap.size
 ro:∀ r,r∈mu→r.h w X
 own:SLd w X rs X
def St (w0:World) (mu:List Fact) (rs:List Res) (w:World):Prop:=∃ X,StX w0 X mu rs w
section
variable {X:Nat→Prop} {w0 w w':World} {mu GD:List Fact} {rs su:List Res} {r r1 r2:Res} {q:Fact}
theorem StX.chg0 {F:Nat→Prop} (h:StX w0 X mu rs w) (hc:Chg F w w') (hd:∀ b,F b→¬ X b):Same X w w'∧Chg (fun _=>False) w0 w'∧(∀ b,X b→b < w'.heap.size)∧∀ r,r∈mu→r.h w' X:=by
 have he:Same X w w':=fun b hb=>hc.same b (h.xlt b hb) fun hf=>hd b hf hb
 refine ⟨he,⟨hc.os.trans h.ext.os,hc.tape.trans h.ext.tape,hc.output.trans h.ext.output,Q5 h.ext.size hc.size,fun b hb hn=>?_⟩,fun b hb=>Xs (h.xlt b hb) hc.size,fun r hr=>r.mono (h.ro r hr) he fun _ h=>h⟩
 rw [he b (h.old b hb)]
 exact h.ext.same b hb hn
theorem StX.upd (h:StX w0 X mu (r::rs) w) (hc:∀ F:Nat→Prop,r.holds w X F→(∀ b,F b→¬ X b)→∃ F':Nat→Prop,(Same X w w'→r1.holds w' X F')∧(∀ b,F' b→F b∨w.heap.size≤b)∧Chg F w w'):StX w0 X mu (r1::rs) w':=by
 obtain ⟨F,hr,hd,Du⟩:=h.own
 obtain ⟨F',eH,pE,zM⟩:=hc F hr hd
 obtain ⟨e0,e1,e2,e3⟩:=StX.chg0 h zM hd
 refine ⟨e1,h.old,e2,e3,F',eH e0,fun b hb hx=>?_,?_⟩
 ·rcases pE b hb with h1 | h1
  ·exact hd b h1 hx
  ·have:=h.xlt b hx; omega
 ·refine Du.shift e0 (fun _ h=>h) (fun b hn hb=>zM.same b hb (fun hf=>hn (.inr hf))) (fun b hb=>?_)
  rcases hb with hb | hb
  ·exact .inl (.inl hb)
  ·rcases pE b hb with h1 | h1
   ·exact .inl (.inr h1)
   ·exact .inr h1
theorem St.upd (h:St w0 mu (r::rs) w) (hc:∀ (X F:Nat→Prop),(∀ q,q∈mu→q.h w X)→r.holds w X F→∃ F':Nat→Prop,(Same X w w'→r1.holds w' X F')∧(∀ b,F' b→F b∨w.heap.size≤b)∧Chg F w w'):St w0 mu (r1::rs) w':=by
 obtain ⟨X,h⟩:=h
 exact ⟨X,h.upd fun F hF _=>hc X F h.ro hF⟩
theorem St.new (h:St w0 mu rs w) (hc:Chg (fun _=>False) w w') (hr:∀ X:Nat→Prop,Same X w w'→(∀ q,q∈mu→q.h w X)→∃ F':Nat→Prop,r1.holds w' X F'∧∀ b,F' b→w.heap.size≤b):St w0 mu (r1::rs) w':=by
 obtain ⟨X,h⟩:=h
 obtain ⟨e0,e1,e2,e3⟩:=StX.chg0 h hc (fun _ h=>h.elim)
 obtain ⟨F',eH,pE⟩:=hr X e0 h.ro
 refine ⟨X,e1,h.old,e2,e3,F',eH,fun b hb hx=>?_,?_⟩
 ·have:=pE b hb; have:=h.xlt b hx; omega
 ·refine h.own.shift e0 (fun _ h=>h) (fun b _ hb=>hc.same b hb id) (fun b hb=>?_)
  rcases hb with hb | hb
  ·exact .inl hb
  ·exact .inr (pE b hb)
theorem St.grow (h:St w0 mu rs w) (hc:Chg (fun _=>False) w w'):St w0 mu rs w':=by
 obtain ⟨X,h⟩:=h
 obtain ⟨e0,e1,e2,e3⟩:=StX.chg0 h hc (fun _ h=>h.elim)
 exact ⟨X,e1,h.old,e2,e3,h.own.shift e0 (fun _ h=>h) (fun b _ hb=>hc.same b hb id) (fun b hb=>.inl hb)⟩
theorem St.drew (h:St w0 mu rs w):St w0 mu rs {w with drawn:=w.drawn+1 }:=h.grow (Chg.drew _ _)
theorem St.drop (h:St w0 mu (r::rs) w):St w0 mu rs w:=by
 obtain ⟨X,h⟩:=h
 obtain ⟨F,_,_,Du⟩:=h.own
 exact ⟨X,h.ext,h.old,h.xlt,h.ro,Du.weaken (fun b hb=>.inl hb)⟩
theorem St.freeze (h:St w0 mu (r::rs) w) (hc:∀ X F:Nat→Prop,r.holds w X F→q.h w (fun b=>X b∨F b)):St w0 (q::mu) rs w:=by
 obtain ⟨X,h⟩:=h
 obtain ⟨F,hr,hd,Du⟩:=h.own
 refine ⟨fun b=>X b∨F b,h.ext,fun b hb=>.inl (h.old b hb),fun b hb=>?_,fun s hs=>?_,?_⟩
 ·rcases hb with hb | hb
  ·exact h.xlt b hb
  ·exact r.lt hr hb
 ·rcases G3.1 hs with rfl | hs
  ·exact hc X F hr
  ·exact s.mono (h.ro s hs) (Same.refl _ _) (fun b hb=>.inl hb)
 ·exact Du.grow (fun b hb=>.inl hb)
theorem St.addf (h:St w0 mu rs w) (hc:∀ X:Nat→Prop,(∀ q,q∈mu→q.h w X)→q.h w X):St w0 (q::mu) rs w:=by
 obtain ⟨X,h⟩:=h
 refine ⟨X,h.ext,h.old,h.xlt,fun s hs=>?_,h.own⟩
 rcases G3.1 hs with rfl | hs
 ·exact hc X h.ro
 ·exact h.ro s hs
theorem St.use (h:St w0 mu rs w):∃ X:Nat→Prop,∀ q,q∈mu→q.h w X:=by obtain ⟨X,h⟩:=h; exact ⟨X,h.ro⟩
theorem St.facts (h:St w0 mu rs w) (hs:∀ q,q∈GD→q∈mu):St w0 GD rs w:=by
 obtain ⟨X,h⟩:=h
 exact ⟨X,h.ext,h.old,h.xlt,fun q hq=>h.ro q (hs q hq),h.own⟩
theorem St.un (h:St w0 (q::mu) rs w):St w0 mu rs w:=h.facts fun _ h=>.tail _ h
theorem SLd.swap {Y:Nat→Prop} (h:SLd w X (r1::r2::rs) Y):SLd w X (r2::r1::rs) Y:=by
 obtain ⟨F1,h1,d1,F2,h2,d2,Du⟩:=h
 refine ⟨F2,h2,fun b hb hx=>d2 b hb (.inl hx),F1,h1,fun b hb hx=>?_,Du.weaken ?_⟩
 ·rcases hx with hx | hx
  ·exact d1 b hb hx
  ·exact d2 b hx (.inr hb)
 ·intro b hb
  rcases hb with (hb | hb) | hb
  ·exact .inl (.inl hb)
  ·exact .inr hb
  ·exact .inl (.inr hb)
theorem SLd.cons {Y:Nat→Prop} (h:SLd w X (r::rs) Y) (hk:∀ Y,SLd w X rs Y→SLd w X su Y):SLd w X (r::su) Y:=by
 obtain ⟨F,h1,d1,Du⟩:=h
 exact ⟨F,h1,d1,hk _ Du⟩
theorem SLd.front:∀ (i:Nat) {rs:List Res} {r:Res} {Y:Nat→Prop},SLd w X rs Y→rs[i]?=some r→SLd w X (r::rs.eraseIdx i) Y:=by
 intro i
 induction i with
 | zero=>intro rs r Y h hr; cases rs with
  | nil=>simp at hr
  | cons s rs=>simp at hr; subst hr; simpa using h
 | succ i ih=>intro rs r Y h hr; cases rs with
  | nil=>simp at hr
  | cons s rs=>
   simp only [Sc] at hr
   simp only [lD]
   exact (h.cons (fun Y hY=>ih hY hr)).swap
def pickT:Nat→List Nat→List Res→Option (List Res)
 | n,[],L=>some (L.drop n)
 | n,i::is,L=>bif Nat.blt i n then (match L[i]? with | some r=>(pickT (n - 1) is (L.eraseIdx i)).map (r::·) | none=>none) else none
theorem SLd.dropN:∀ (n:Nat) {rs:List Res} {Y:Nat→Prop},SLd w X rs Y→SLd w X (rs.drop n) Y:=by
 intro n
 induction n with
 | zero=>intro rs Y h; exact h
 | succ n ih=>intro rs Y h; cases rs with
  | nil=>exact h
  | cons r rs=>obtain ⟨F,_,_,h⟩:=h; exact ih (h.weaken fun b hb=>.inl hb)
theorem SLd.pickT:∀ (is:List Nat) {n:Nat} {rs:List Res} {Y:Nat→Prop},SLd w X rs Y→∀ {out:List Res},pickT n is rs=some out→SLd w X out Y:=by
 intro is
 induction is with
 | nil=>intro n rs Y h out ho; simp [Sx.pickT] at ho; subst ho; exact h.dropN n
 | cons i is ih=>
  intro n rs Y h out ho
  unfold Sx.pickT at ho
  cases hb:Nat.blt i n with
  | false=>simp [hb] at ho
  | true=>
   simp only [hb,cond_true] at ho
   split at ho
   ·rename_i r hr
    cases hp:Sx.pickT (n - 1) is (rs.eraseIdx i) with
    | none=>simp [hp] at ho
    | some o=>
     simp [hp] at ho
     subst ho
     exact (h.front i hr).cons (fun Y hY=>ih hY hp)
   ·cases ho
theorem St.pk (n:Nat) (is:List Nat) (h:St w0 mu rs w) {out:List Res} (ho:pickT n is rs=some out):St w0 mu out w:=by
 obtain ⟨X,h⟩:=h
 exact ⟨X,h.ext,h.old,h.xlt,h.ro,h.own.pickT is ho⟩
theorem St.conv (h:St w0 mu (r::rs) w) (hc:∀ X F,r.holds w X F→r1.holds w X F):St w0 mu (r1::rs) w:=
 h.upd fun X F _ hF=>⟨F,fun _=>hc X F hF,fun _ hb=>.inl hb,Chg.refl _ _⟩
def star (r s:Res):Res where
 holds w X F:=∃ F1 F2,r.holds w X F1∧s.holds w X F2∧(∀ b,F1 b→¬ F2 b)∧∀ b,F b↔F1 b∨F2 b
 loc:=fun ⟨F1,F2,h1,h2,hd,he⟩ hX hs hF=>⟨F1,F2,r.loc h1 hX hs (fun b hb=>hF b ((he b).2 (.inl hb))),s.loc h2 hX hs (fun b hb=>hF b ((he b).2 (.inr hb))),hd,he⟩
 lt:=fun ⟨F1,F2,h1,h2,hd,he⟩ hb=>by rcases (he _).1 hb with h | h; exact r.lt h1 h; exact s.lt h2 h
theorem St.join (h:St w0 mu (r1::r2::rs) w):St w0 mu (star r1 r2::rs) w:=by
 obtain ⟨X,h⟩:=h
 obtain ⟨F1,h1,d1,F2,h2,d2,Du⟩:=h.own
 refine ⟨X,h.ext,h.old,h.xlt,h.ro,fun b=>F1 b∨F2 b,⟨F1,F2,h1,h2,fun b hb gG=>d2 b gG (.inr hb),fun b=>U8⟩,fun b hb hx=>?_,Du.weaken fun b hb=>?_⟩
 ·rcases hb with hb | hb
  ·exact d1 b hb hx
  ·exact d2 b hb (.inl hx)
 ·rcases hb with hb | hb | hb
  ·exact .inl (.inl hb)
  ·exact .inl (.inr hb)
  ·exact .inr hb
theorem St.part (h:St w0 mu (star r1 r2::rs) w):St w0 mu (r1::r2::rs) w:=by
 obtain ⟨X,h⟩:=h
 obtain ⟨F,⟨F1,F2,h1,h2,hd,he⟩,d1,Du⟩:=h.own
 refine ⟨X,h.ext,h.old,h.xlt,h.ro,F1,h1,fun b hb hx=>d1 b ((he b).2 (.inl hb)) hx,F2,h2,fun b hb hx=>?_,Du.weaken fun b hb=>?_⟩
 ·rcases hx with hx | hx
  ·exact d1 b ((he b).2 (.inr hb)) hx
  ·exact hd b hx hb
 ·rcases hb with (hb | hb) | hb
  ·exact .inl hb
  ·exact .inr ((he b).2 (.inl hb))
  ·exact .inr ((he b).2 (.inr hb))
end
def CS (s:Nat):Type:={cs:List Value // cs.length=s∧∀ v,v∈cs→v.oneCell'=true }
def cellsOf {s:Nat} (l:List (CS s)):List Value:=l.flatMap (·.1)
theorem K4 {s:Nat} (l:List (CS s)):(cellsOf l).length=l.length*s:=by
 induction l with
 | nil=>simp [cellsOf]
 | cons x l ih=>simp only [cellsOf,Tc,H2,x.2.1,B4] at *; rw [ih,S5]; omega
theorem s9 {s:Nat} (l m:List (CS s)):cellsOf (l++m)=cellsOf l++cellsOf m:=by simp [cellsOf]
theorem Cc {s:Nat} {l:List (CS s)}:∀ {i:Nat} {x:CS s},l[i]?=some x→∀ {j:Nat} {u:Value},x.1[j]?=some u→(cellsOf l)[i*s+j]?=some u:=by
 induction l with
 | nil=>intro i x h; simp at h
 | cons y l ih=>
  intro i x h j u hu
  have hj:j < s:=by have:=(C2.1 hu).1; rwa [x.2.1] at this
  cases i with
  | zero=>
   simp at h; subst h
   simp only [cellsOf,Tc,Qs,o8]
   rw [O6 (by rw [y.2.1]; exact hj)]
   exact hu
  | succ i=>
   simp only [Sc] at h
   simp only [cellsOf,Tc]
   rw [F9 (by rw [y.2.1,S5]; omega),y.2.1]
   have:(i+1)*s+j - s=i*s+j:=by rw [S5]; omega
   rw [this]
   exact ih h hu
theorem mf {s:Nat} {l:List (CS s)}:∀ v,v∈cellsOf l→v.oneCell'=true:=by
 intro v hv
 simp only [cellsOf,List.mem_flatMap] at hv
 obtain ⟨x,_,hx⟩:=hv
 exact x.2.2 v hx
theorem pC {s:Nat} {l:List (CS s)}:∀ {i:Nat} {x:CS s},l[i]?=some x→∀ (y:CS s),cellsOf (l.set i y)=(cellsOf l).take (i*s)++y.1++(cellsOf l).drop (i*s+s):=by
 induction l with
 | nil=>intro i x h; simp at h
 | cons z l ih=>
  intro i x h y
  cases i with
  | zero=>simp [cellsOf,z.2.1]
  | succ i=>
   simp only [Sc] at h
   have:=ih h y
   simp only [cellsOf,List.set_cons_succ,Tc] at*
   have e1:(i+1)*s=z.1.length+i*s:=by rw [z.2.1,S5]; omega
   rw [this,e1,fD,Of,mD]
   simp
def All2 {α:Type} (w:World) (X:Nat→Prop) (E:Rp α) (cs:List (CS E.s)) (l:List α):Prop:=cs.length=l.length∧∀ (i:Nat) (c:CS E.s) (x:α),cs[i]?=some c→l[i]?=some x→E.r w X c.1 x
theorem All2.mono {α:Type} {w w':World} {X X':Nat→Prop} {E:Rp α} {cs:List (CS E.s)} {l:List α} (h:All2 w X E cs l) (hX:Same X w w') (hs:∀ b,X b→X' b):All2 w' X' E cs l:=
 ⟨h.1,fun i c x hc hx=>E.mono (h.2 i c x hc hx) hX hs⟩
theorem All2.nil {α:Type} {w:World} {X:Nat→Prop} {E:Rp α}:All2 w X E [] ([]:List α):=⟨rfl,fun i c x hc=>by simp at hc⟩
theorem All2.app {α:Type} {w:World} {X:Nat→Prop} {E:Rp α} {c1 c2:List (CS E.s)} {l1 l2:List α} (h1:All2 w X E c1 l1) (h2:All2 w X E c2 l2):All2 w X E (c1++c2) (l1++l2):=by
 refine ⟨by simp [h1.1,h2.1],fun i c x hc hx=>?_⟩
 rw [qj] at hc hx
 rw [h1.1] at hc
 split at hc
 ·rename_i hi; rw [I0 hi] at hx; exact h1.2 i c x hc hx
 ·rename_i hi; rw [J0 hi] at hx; exact h2.2 _ c x hc hx
theorem All2.set {α:Type} {w:World} {X:Nat→Prop} {E:Rp α} {cs:List (CS E.s)} {l:List α} (h:All2 w X E cs l) {i:Nat} {c:CS E.s} {x:α} (hx:E.r w X c.1 x):All2 w X E (cs.set i c) (l.set i x):=by
 refine ⟨by simp [h.1],fun j c' x' Hu pv=>?_⟩
 rw [B3] at Hu pv
 by_cases cE:i=j
 ·subst cE
  by_cases hi:i < cs.length
  ·have wF:i < l.length:=by rw [← h.1]; exact hi
   simp only [if_true,I0 hi,I0 wF] at Hu pv
   cases Hu; cases pv; exact hx
  ·rw [I0 rfl,J0 hi] at Hu; cases Hu
 ·rw [J0 cE] at Hu pv
  exact h.2 j c' x' Hu pv
theorem All2.rep {α:Type} {w:World} {X:Nat→Prop} {E:Rp α} {c:CS E.s} {x:α} (n:Nat) (hx:E.r w X c.1 x):All2 w X E (List.replicate n c) (List.replicate n x):=by
 refine ⟨G0,fun i c' x' Hu pv=>?_⟩
 rw [E9] at Hu pv
 split at Hu
 ·rename_i hi; rw [I0 hi] at pv; cases Hu; cases pv; exact hx
 ·cases Hu
def row {α:Type} (T:TypeId) (E:Rp α) (v:Value) (l:List α):Res where
 holds w X F:=l.length≤maxLen∧∃ cs:List (CS E.s),All2 w X E cs l∧w.ownsRow 0 T E.s v l.length (cellsOf cs)∧∀ b,F b↔v.ownBlock=some b
 loc:=fun ⟨hm,cs,ha,h,he⟩ hX hs hF=>by
  refine ⟨hm,cs,ha.mono hX hs,⟨h.1,?_⟩,he⟩
  rcases h.2 with h2 | ⟨g,cap,cur,hv,hg,hh,r⟩
  ·exact .inl h2
  ·exact .inr ⟨g,cap,cur,hv,hg,by rw [hF g ((he g).2 (by rw [hv]; rfl))]; exact hh,r⟩
 lt:=fun ⟨hm,cs,ha,h,he⟩ hb=>(h.lt _ ((he _).1 hb)).2
theorem ze {α:Type} {T:TypeId} {E:Rp α} {v:Value} {l:List α} {w:World} {X F:Nat→Prop} (h:(row T E v l).holds w X F):Sees w X E v l:=by
 obtain ⟨hm,cs,ha,⟨hl,h⟩,he⟩:=h
 rcases h with ⟨rfl,hn⟩ | ⟨g,cap,cur,rfl,hg,hh,Bv,jy,Mu,vv⟩
 ·have:l=[]:=P6 hn
  subst this
  exact ⟨none,0,rfl,G0,G0,fun i x hi=>by simp at hi⟩
 ·refine ⟨_,cap,rfl,Bv,hm,fun i x hi=>⟨rfl,?_⟩⟩
  have wF:i < cs.length:=by rw [ha.1]; exact (C2.1 hi).1
  have hc:cs[i]?=some cs[i]:=by simp [wF]
  refine ⟨cs[i].1,ha.2 i _ x hc hi,fun j u hu=>?_⟩
  have h1:=Cc hc hu
  rw [← vv,K5] at h1
  split at h1
  ·simp only [sAddr]
   rw [M7,cell_of_row w g _ cur T (0,0) hh]
   simpa using h1
  ·cases h1
theorem sh {α:Type} {T:TypeId} {E:Rp α} {v:Value} {l:List α} {w:World}:∀ X F:Nat→Prop,(row T E v l).holds w X F→(imm E v l).h w (fun b=>X b∨F b):=by
 intro X F h
 refine ⟨(ze h).mono (Same.refl _ _) (fun b hb=>.inl hb) (fun _ _ _=>rfl),fun _ b hb=>.inr ?_⟩
 obtain ⟨hm,cs,ha,hr,he⟩:=h
 rw [he]
 revert hb
 unfold sBlk Value.ownBlock
 split<;>simp
def box (b:Nat) (T:TypeId) (vals:List Value):Res where
 holds w _ F:=w.heap[b]?=some (.cells vals.toArray T (0,0))∧∀ x,F x↔x=b
 loc:=fun ⟨h,he⟩ _ _ hF=>⟨by rw [hF b ((he b).2 rfl)]; exact h,he⟩
 lt:=fun ⟨h,he⟩ hb=>by have:=(he _).1 hb; subst this; exact (yd.1 h).1
section
variable {α:Type} {w0 w w':World} {mu:List Fact} {rs:List Res} {T:TypeId} {E:Rp α} {v:Value} {l:List α}
theorem St.fz (h:St w0 mu (row T E v l::rs) w):St w0 (imm E v l::mu) rs w:=h.freeze sh
theorem St.rowNil (h:St w0 mu rs w) (T:TypeId) (E:Rp α):St w0 mu (row T E (.slice none 0 0) []::rs) w:=
 h.new (Chg.refl _ _) fun X _ _=>⟨fun _=>False,⟨by simp [maxLen],[],All2.nil,World.ownsRow_nil w 0 T E.s,fun b=>by simp [Value.ownBlock]⟩,fun _ h=>h.elim⟩
theorem Imm.nil (w:World) (X:Nat→Prop) (E:Rp α):Imm w X E (.slice none 0 0) []:=⟨⟨none,0,rfl,G0,by simp [maxLen],fun i x hi=>by simp at hi⟩,fun h=>absurd rfl h⟩
theorem St.immNil (h:St w0 mu rs w) (E:Rp α):St w0 (imm E (.slice none 0 0) []::mu) rs w:=h.addf fun X _=>Imm.nil w X E
def Rd (mu:List Fact) (rs:List Res) (E:Rp α) (v:Value) (l:List α):Prop:=∀ w0 X w,StX w0 X mu rs w→Sees w X E v l
theorem rdI (h:imm E v l∈mu):Rd mu rs E v l:=fun _ _ _ nu=>(nu.ro _ h).1
theorem rdO (h:row T E v l∈rs):Rd mu rs E v l:=fun _ _ _ nu=>by obtain ⟨F,hF⟩:=nu.own.get h; exact ze hF
theorem Rd.sees (h:Rd mu rs E v l) (nu:St w0 mu rs w):∃ X:Nat→Prop,StX w0 X mu rs w∧Sees w X E v l:=by obtain ⟨X,nu⟩:=nu; exact ⟨X,nu,h _ _ _ nu⟩
theorem St.box_h {b:Nat} {U:TypeId} {vals:List Value} (nu:St w0 mu rs w) (hm:box b U vals∈rs):w.heap[b]?=some (.cells vals.toArray U (0,0)):=by
 obtain ⟨X,nu⟩:=nu; obtain ⟨F,h⟩:=nu.own.get hm; exact h.1
end
end Sx
