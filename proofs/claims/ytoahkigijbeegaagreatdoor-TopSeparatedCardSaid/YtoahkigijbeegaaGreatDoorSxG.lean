/- Slices under slices that are the call's own, small facts that the printed walks name: the last layer. It holds over any program. -/
import Derived.Test.YtoahkigijbeegaaGreatDoorSxF
namespace Sx
open Go
theorem Z4 {c:Prop} [Decidable c] {α:Type} {x y:Option α} {r:α} (h:(if c then x else y)=some r):(c∧x=some r)∨(¬ c∧y=some r):=by
 by_cases hc:c
 ·rw [I0 hc] at h; exact .inl ⟨hc,h⟩
 ·rw [J0 hc] at h; exact .inr ⟨hc,h⟩
theorem U2 {α:Type} {x y:α} (h:some x=some y):x=y:=P1 h
theorem U0 {q0:Fact} {l L:List Fact} (h:q0∈L) (t:∀ q,q∈l→q∈L):∀ q,q∈q0::l→q∈L:=fun q hq=>by
 rcases G3.1 hq with rfl | hq
 ·exact h
 ·exact t q hq
theorem mtF {q0 q:Fact} {l:List Fact} (h:q∈l):q∈q0::l:=.tail _ h
theorem mhF {q:Fact} {l:List Fact}:q∈q::l:=.head _
theorem mtR {q0 q:Res} {l:List Res} (h:q∈l):q∈q0::l:=.tail _ h
theorem mhR {q:Res} {l:List Res}:q∈q::l:=.head _
theorem M0 {q0:Fact} {l L:List Fact} (t:∀ q,q∈l→q∈L):∀ q,q∈l→q∈q0::L:=fun q hq=>.tail _ (t q hq)
theorem M1 {l:List Fact}:∀ q,q∈l→q∈l:=fun _ h=>h
theorem j5 {a b:Bool} (h:a=true):b=(a && b):=by simp [h]
theorem m5 {a b:Bool} (h:a=false):false=(a && b):=by simp [h]
theorem orT {a b:Bool} (h:a=true):true=(a || b):=by simp [h]
theorem orF {a b:Bool} (h:a=false):b=(a || b):=by simp [h]
def wc (k:IntKind) (m:Int):Int:=k.wrap m
section
variable {P:Program} {ops:Array Oper} {Q:Exit→Act→World→Prop} {n:Nat} {f:Nat→Value} {w:World} {rest:List Oper} {o:Oper} {d:Nat}
theorem YH {S:Hdr→World→Prop} (hg:Wn ops n f o.guard) (hd:o.dst=some d) (hy:∃ (h:Hdr) (w':World),(execOp (fr n f).eval o).run P w=.ok (.value h.v) w'∧S h w') (k:∀ (h:Hdr) (w':World),S h w'→wpList P ops Q rest (fr n (upd f d h.v)) w'):wpList P ops Q (o::rest) (fr n f) w:=by
 obtain ⟨h,w',h1,h2⟩:=hy
 exact Yw hg hd h1 (k h w' h2)
theorem YB {S:Nat→World→Prop} (hg:Wn ops n f o.guard) (hd:o.dst=some d) (hy:∃ (b:Nat) (w':World),(execOp (fr n f).eval o).run P w=.ok (.value (.pointer (some ⟨b,0,none⟩))) w'∧S b w') (k:∀ (b:Nat) (w':World),S b w'→wpList P ops Q rest (fr n (upd f d (.pointer (some ⟨b,0,none⟩)))) w'):wpList P ops Q (o::rest) (fr n f) w:=by
 obtain ⟨b,w',h1,h2⟩:=hy
 exact Yw hg hd h1 (k b w' h2)
theorem YT {S:World→Prop} (hg:Wn ops n f o.guard) (hd:o.dst=none) (hy:∃ (w':World),(execOp (fr n f).eval o).run P w=.ok .skip w'∧S w') (k:∀ (w':World),S w'→wpList P ops Q rest (fr n f) w'):wpList P ops Q (o::rest) (fr n f) w:=by
 obtain ⟨w',h1,h2⟩:=hy
 exact Ys hg hd h1 (k w' h2)
variable {os:List Oper} {G1:Value→World→Prop}
theorem LH {S:Hdr→World→Prop} (hw:Wn os.toArray n f o.guard) (hy:∃ (h:Hdr) (w':World),(execOp (fr n f).eval o).run P w=.ok (.value h.v) w'∧S h w') (k:∀ (h:Hdr) (w':World),S h w'→G1 h.v w'):LS P os n f w o G1:=by
 obtain ⟨h,w',h1,h2⟩:=hy
 exact Lw hw h1 (k h w' h2)
theorem LB {S:Nat→World→Prop} (hw:Wn os.toArray n f o.guard) (hy:∃ (b:Nat) (w':World),(execOp (fr n f).eval o).run P w=.ok (.value (.pointer (some ⟨b,0,none⟩))) w'∧S b w') (k:∀ (b:Nat) (w':World),S b w'→G1 (.pointer (some ⟨b,0,none⟩)) w'):LS P os n f w o G1:=by
 obtain ⟨b,w',h1,h2⟩:=hy
 exact Lw hw h1 (k b w' h2)
theorem LT {S:World→Prop} (hw:Wn os.toArray n f o.guard) (hy:∃ (w':World),(execOp (fr n f).eval o).run P w=.ok .skip w'∧S w') (k:∀ (w':World),S w'→G1 undef w'):LS P os n f w o G1:=by
 obtain ⟨w',h1,h2⟩:=hy
 exact Ls hw h1 (k w' h2)
end
theorem rdN {α:Type} {E:Rp α} {mu:List Fact} {rs:List Res}:Rd mu rs E hnil.v []:=fun _ X w _=>(Imm.nil w X E).1
def isSt (P:Program) (T n:Nat):Bool:=match P.underlying T with | some (.struct _)=>(match P.info? T with | some i=>Nat.beq i.size n | none=>false) | _=>false
theorem U7 {P:Program} {T n:Nat} (h:isSt P T n=true):StT P T n:=by
 unfold isSt at h
 split at h
 ·rename_i fs hu
  split at h
  ·rename_i i hi; exact ⟨⟨fs,hu⟩,i,hi,Y5 h⟩
  ·cases h
 ·cases h
def isFld (P:Program) (T i off:Nat):Bool:=match P.underlying T with
 | some (.struct fs)=>(match fs[i]? with
  | some fd=>Nat.beq fd.offset off && (match P.info? fd.type with | some t=>!Nat.beq t.size 0 | none=>false)
  | none=>false)
 | _=>false
theorem Ve {P:Program} {T i off:Nat} (h:isFld P T i off=true):FldT P T i off:=by
 unfold isFld at h
 split at h
 ·rename_i fs hu
  split at h
  ·rename_i fd hf
   rw [V4] at h
   obtain ⟨h1,h2⟩:=h
   split at h2
   ·rename_i t ht
    exact ⟨fs,fd,t,hu,hf,Y5 h1,ht,by intro e; rw [e] at h2; simp at h2⟩
   ·cases h2
  ·cases h
 ·cases h
def plOf (P:Program) (T:Nat):Option (List (Nat×Nat)):=match P.underlying T with
 | some (.struct fs)=>fs.toList.mapM (fun f=>(P.info? f.type).map fun i=>(f.offset,i.size))
 | _=>none
theorem n6 {P:Program} {T:TypeId} {zs:List Value} {pl:List (Nat×Nat)} (hz:(P.info? T).map (fun i=>i.zero)=some (some (.agg zs.toArray))) (hp:plOf P T=some pl):StructOf P T zs pl:=by
 unfold plOf at hp
 split at hp
 ·rename_i fs hu; exact xz hu hz hp
 ·cases hp
def cat (v:Value) (s:Nat) (i:Int) (cs:List Value):Fact:=
 ⟨fun w X=>∀ j u,cs[j]?=some u→X (sAddr v).block∧w.cell? ((sAddr v).add (i.toNat*s+j))=some u,fun h hX hs j u hu=>by
  obtain ⟨h1,h2⟩:=h j u hu
  refine ⟨hs _ h1,?_⟩
  rw [← h2]
  exact World.cell?_of_block (by rw [Af]; exact hX _ h1)⟩
section
variable {P:Program} {a:Act} {w:World} {d:Option Tmp} {t:TypeId} {p:String} {af:Array Edge} {g:Option (Nat×Bool)} {x:Operand} {T:TypeId}
variable {α β:Type} {w0:World} {mu:List Fact} {rs:List Res} {E:Rp α} {B:Rp β} {v u:Value} {i:Int}
theorem nq {X:Nat→Prop} {l:List α} {z:α} (h:Imm w X E v l) (hz:getI l i=some z):∃ cs,E.r w X cs z∧(cat v E.s i cs).h w X:=by
 obtain ⟨hs,hb⟩:=h
 obtain ⟨h0,h1,h2⟩:=m9 hz
 have CF:=hs
 obtain ⟨b,cap,hv,hc,hm,pv⟩:=hs
 obtain ⟨ha,cs,hr,hj⟩:=pv _ _ h2
 refine ⟨cs,hr,fun j u hu=>⟨hb (by rintro rfl; simp at h2) _ ?_,hj j u hu⟩⟩
 have e:b=some (sAddr v):=ha
 have WD:v=.slice (some (sAddr v)) l.length cap:=by rw [← e]; exact hv
 generalize sAddr v=ad at WD
 subst WD
 rfl
theorem iLs {l:List (List α)} {z:List α} (nu:St w0 mu rs w) (hm:imm (rS E) v l∈mu) (hz:getI l i=some z):∃ h:Hdr,St w0 (imm E h.v z::cat v 1 i [h.v]::mu) rs w:=by
 obtain ⟨X,hX⟩:=nu
 obtain ⟨cs,⟨u,rfl,hu⟩,hc⟩:=nq (hX.ro _ hm) hz
 obtain ⟨h,rfl⟩:=hu.1.hdr
 refine ⟨h,X,hX.ext,hX.old,hX.xlt,fun q hq=>?_,hX.own⟩
 rcases G3.1 hq with rfl | hq
 ·exact hu
 ·rcases G3.1 hq with rfl | hq
  ·exact hc
  ·exact hX.ro q hq
theorem iLd {l:List α} {z:α} (nu:St w0 mu rs w) (hm:imm E v l∈mu) (hz:getI l i=some z):∃ cs,cs.length=E.s∧St w0 (elt E cs z::cat v E.s i cs::mu) rs w:=by
 obtain ⟨X,hX⟩:=nu
 obtain ⟨cs,hu,hc⟩:=nq (hX.ro _ hm) hz
 refine ⟨cs,E.len hu,X,hX.ext,hX.old,hX.xlt,fun q hq=>?_,hX.own⟩
 rcases G3.1 hq with rfl | hq
 ·exact hu
 ·rcases G3.1 hq with rfl | hq
  ·exact hc
  ·exact hX.ro q hq
theorem St.cAt {s:Nat} {cs:List Value} (nu:St w0 mu rs w) (hm:cat v s i cs∈mu):CAt w v s i cs:=by
 obtain ⟨X,hX⟩:=nu
 exact fun j u hu=>(hX.ro _ hm j u hu).2
theorem yCt {s:Nat} {cs:List Value} (hO:OneT P T) (hx:a.eval x=eAddr v s i) (nu:St w0 mu rs w) (hm:cat v s i cs∈mu) (hu:cs[0]?=some u):Yi P a w ⟨d,.load T x,t,p,af,g⟩ u:=yCe hO hx (nu.cAt hm) hu
theorem jg {s:Nat} {cs:List Value} (hT:StT P T s) (hl:cs.length=s) (hx:a.eval x=eAddr v s i) (nu:St w0 mu rs w) (hm:cat v s i cs∈mu):Yi P a w ⟨d,.load T x,t,p,af,g⟩ (.agg cs.toArray):=yCn hT hl hx (nu.cAt hm)
theorem yF1 {e':α→List Value} {hp:0 < 1} {hl:∀ x,(e' x).length=1} {ho:∀ x v,v∈e' x→v.oneCell'=true} {l:List α} {z:α} (hO:OneT P T) (hx:a.eval x=eAddr v 1 i) (nu:St w0 mu rs w) (hr:Rd mu rs (rF 1 e' hp hl ho) v l) (hz:getI l i=some z) (hu:(e' z)[0]?=some u):Yi P a w ⟨d,.load T x,t,p,af,g⟩ u:=by
 obtain ⟨X,_,hs⟩:=hr.sees nu
 obtain ⟨cs,rfl,h2⟩:=O9 hs hz
 exact yCe hO hx h2 hu
variable {cs:List Value}
theorem St.eltP {z:α×β} (nu:St w0 (elt (rP E B) cs z::mu) rs w):∃ c1 c2,cs=c1++c2∧St w0 (elt E c1 z.1::elt B c2 z.2::mu) rs w:=by
 obtain ⟨X,hX⟩:=nu
 obtain ⟨c1,c2,h1,h2,h3⟩:=hX.ro _ (.head _)
 refine ⟨c1,c2,h1,X,hX.ext,hX.old,hX.xlt,fun q hq=>?_,hX.own⟩
 rcases G3.1 hq with rfl | hq
 ·exact h2
 ·rcases G3.1 hq with rfl | hq
  ·exact h3
  ·exact hX.ro q (.tail _ hq)
theorem St.eltI {k:IntKind} {z:Int} (nu:St w0 (elt (rI k) cs z::mu) rs w):cs=[.int k z]∧St w0 mu rs w:=by
 have h2:=nu.un
 obtain ⟨X,hX⟩:=nu
 exact ⟨hX.ro _ (.head _),h2⟩
theorem St.eltB {z:Bool} (nu:St w0 (elt rB cs z::mu) rs w):cs=[.bool z]∧St w0 mu rs w:=by
 have h2:=nu.un
 obtain ⟨X,hX⟩:=nu
 exact ⟨hX.ro _ (.head _),h2⟩
theorem St.eltS {z:List α} (nu:St w0 (elt (rS E) cs z::mu) rs w):∃ h:Hdr,cs=[h.v]∧St w0 (imm E h.v z::mu) rs w:=by
 obtain ⟨X,hX⟩:=nu
 obtain ⟨u,hc,hu⟩:=hX.ro _ (.head _)
 obtain ⟨h,rfl⟩:=hu.1.hdr
 refine ⟨h,hc,X,hX.ext,hX.old,hX.xlt,fun q hq=>?_,hX.own⟩
 rcases G3.1 hq with rfl | hq
 ·exact hu
 ·exact hX.ro q (.tail _ hq)
end
structure ZeroT (P:Program) (T:TypeId) (zs:List Value):Prop where
 z:∃ ti zv,P.info? T=some ti∧ti.zero=some zv∧zv.cells=zs.toArray
theorem mkZ {P:Program} {T:TypeId} {zs:List Value} {zv:Value} (hi:(P.info? T).map (fun i=>i.zero)=some (some zv)) (hz:zv.cells=zs.toArray):ZeroT P T zs:=by
 cases h:P.info? T with
 | none=>simp [h] at hi
 | some ti=>simp [h] at hi; exact ⟨ti,zv,h,hi,hz⟩
section
variable {P:Program} {w0 w:World} {mu:List Fact} {rs:List Res} {a:Act} {d:Option Tmp} {t:TypeId} {p:String} {af:Array Edge} {g:Option (Nat×Bool)} {T:TypeId}
theorem rAl {zs:List Value} (nu:St w0 mu rs w) (hz:ZeroT P T zs):
  ∃ b w',(execOp a.eval ⟨d,.alloc T,t,p,af,g⟩).run P w=.ok (.value (.pointer (some ⟨b,0,none⟩))) w'∧St w0 mu (box b T zs::rs) w':=by
 obtain ⟨ti,zv,h1,h2,h3⟩:=hz
 exact wy nu h1 h2 h3
end
def rH:Rp Hdr:=rF 1 (fun h=>[h.v]) n0 (fun _=>rfl) (fun _ v h=>by simp at h; subst h; rfl)
def bigH (w:World) (X:Nat→Prop):List Res→(Nat→Prop)→Prop
 | [],F=>∀ b,¬ F b
 | r::rs,F=>∃ F1 F2,r.holds w X F1∧bigH w X rs F2∧(∀ b,F1 b→¬ F2 b)∧∀ b,F b↔F1 b∨F2 b
theorem tf {w w':World} {X X':Nat→Prop}:∀ {rs:List Res} {F:Nat→Prop},bigH w X rs F→Same X w w'→(∀ b,X b→X' b)→Same F w w'→bigH w' X' rs F:=by
 intro rs
 induction rs with
 | nil=>intro F h _ _ _; exact h
 | cons r rs ih=>
  intro F ⟨F1,F2,h1,h2,hd,he⟩ hX hs hF
  exact ⟨F1,F2,r.loc h1 hX hs (fun b hb=>hF b ((he b).2 (.inl hb))),ih h2 hX hs (fun b hb=>hF b ((he b).2 (.inr hb))),hd,he⟩
theorem sf {w:World} {X:Nat→Prop}:∀ {rs:List Res} {F:Nat→Prop} {b:Nat},bigH w X rs F→F b→b < w.heap.size:=by
 intro rs
 induction rs with
 | nil=>intro F b h hb; exact absurd hb (h b)
 | cons r rs ih=>
  intro F b ⟨F1,F2,h1,h2,hd,he⟩ hb
  rcases (he b).1 hb with h | h
  ·exact r.lt h1 h
  ·exact ih h2 h
theorem u9 {w:World} {X:Nat→Prop}:∀ (i:Nat) {rs:List Res} {r:Res} {F:Nat→Prop},rs[i]?=some r→(bigH w X rs F↔bigH w X (r::rs.eraseIdx i) F):=by
 intro i
 induction i with
 | zero=>intro rs r F h; cases rs with
  | nil=>simp at h
  | cons s rs=>simp at h; subst h; simp
 | succ i ih=>intro rs r F h; cases rs with
  | nil=>simp at h
  | cons s rs=>
   simp only [Sc] at h
   simp only [lD]
   constructor
   ·rintro ⟨F1,F2,h1,h2,hd,he⟩
    obtain ⟨G1,G2,g1,g2,gd,ge⟩:=(ih h).1 h2
    refine ⟨G1,fun b=>F1 b∨G2 b,g1,⟨F1,G2,h1,g2,fun b hb hg=>hd b hb ((ge b).2 (.inr hg)),fun b=>U8⟩,fun b hb hx=>?_,fun b=>?_⟩
    ·rcases hx with hx | hx
     ·exact hd b hx ((ge b).2 (.inl hb))
     ·exact gd b hb hx
    ·rw [he,ge]
     constructor
     ·rintro (h | h | h)
      ·exact .inr (.inl h)
      ·exact .inl h
      ·exact .inr (.inr h)
     ·rintro (h | h | h)
      ·exact .inr (.inl h)
      ·exact .inl h
      ·exact .inr (.inr h)
   ·rintro ⟨G1,G2,g1,⟨F1,F2,f1,f2,fd,fe⟩,gd,ge⟩
    refine ⟨F1,fun b=>G1 b∨F2 b,f1,(ih h).2 ⟨G1,F2,g1,f2,fun b hb hf=>gd b hb ((fe b).2 (.inr hf)),fun b=>U8⟩,fun b hb hx=>?_,fun b=>?_⟩
    ·rcases hx with hx | hx
     ·exact gd b hx ((fe b).2 (.inl hb))
     ·exact fd b hb hx
    ·rw [ge,fe]
     constructor
     ·rintro (h | h | h)
      ·exact .inr (.inl h)
      ·exact .inl h
      ·exact .inr (.inr h)
     ·rintro (h | h | h)
      ·exact .inr (.inl h)
      ·exact .inl h
      ·exact .inr (.inr h)
def zrow {α:Type} (T:TypeId) (E:Rp α) (hs:List Hdr) (ls:List (List α)):List Res:=List.zipWith (fun h l=>row T E h.v l) hs ls
def fam {α:Type} (T:TypeId) (E:Rp α) (hs:List Hdr) (ls:List (List α)):Res where
 holds w X F:=hs.length=ls.length∧bigH w X (zrow T E hs ls) F
 loc:=fun ⟨hl,h⟩ hX hs hF=>⟨hl,tf h hX hs hF⟩
 lt:=fun ⟨_,h⟩ hb=>sf h hb
def famx {α:Type} (T:TypeId) (E:Rp α) (i:Nat) (hs:List Hdr) (ls:List (List α)):Res where
 holds w X F:=hs.length=ls.length∧bigH w X ((zrow T E hs ls).eraseIdx i) F
 loc:=fun ⟨hl,h⟩ hX hs hF=>⟨hl,tf h hX hs hF⟩
 lt:=fun ⟨_,h⟩ hb=>sf h hb
section
variable {α:Type} {w0 w w':World} {mu:List Fact} {rs:List Res} {T To:TypeId} {E:Rp α} {hs:List Hdr} {ls:List (List α)} {l l0:List α} {h h0:Hdr} {i:Int}
theorem uf {X:Nat→Prop}:∀ {rs:List Res} {F:Nat→Prop} {i:Nat} {r:Res},bigH w X rs F→rs[i]?=some r→∃ G,(∀ b,G b→F b)∧r.holds w X G:=by
 intro rs F i r h hr
 obtain ⟨F1,F2,h1,_,_,he⟩:=(u9 i hr).1 h
 exact ⟨F1,fun b hb=>(he b).2 (.inl hb),h1⟩
theorem zd {i:Nat} (h1:hs[i]?=some h) (h2:ls[i]?=some l):(zrow T E hs ls)[i]?=some (row T E h.v l):=by
 simp [zrow,List.getElem?_zipWith,h1,h2]
theorem X5 {β:Type} {l:List β} {z:β} (h:getI l i=some z):l[i.toNat]?=some z:=(m9 h).2.2
theorem St.famL (nu:St w0 mu rs w) (hm:fam T E hs ls∈rs):hs.length=ls.length:=by
 obtain ⟨X,nu⟩:=nu; obtain ⟨F,hF⟩:=nu.own.get hm; exact hF.1
theorem St.famI (nu:St w0 mu rs w) (hm:fam T E hs ls∈rs) (hz:getI ls i=some l):∃ h,getI hs i=some h:=by
 have hl:=nu.famL hm
 obtain ⟨h0,h1,h2⟩:=m9 hz
 cases i with
 | ofNat k=>exact ⟨hs[k]'(by rw [hl]; simpa using h1),by simp [getI]⟩
 | negSucc k=>simp at h0
theorem rdF (hm:fam T E hs ls∈rs) (h1:getI hs i=some h) (h2:getI ls i=some l):Rd mu rs E h.v l:=fun _ _ _ nu=>by
 obtain ⟨F,hF⟩:=nu.own.get hm
 obtain ⟨G,_,hg⟩:=uf hF.2 (zd (X5 h1) (X5 h2))
 exact ze hg
theorem Pu {P:Program} {a:Act} {d:Option Tmp} {t:TypeId} {p:String} {af:Array Edge} {g:Option (Nat×Bool)} {x:Operand} {v:Value} {U e:TypeId} {q:Hdr} (hS:SlT P U e rH q) (hx:a.eval x=v) (nu:St w0 mu rs w) (hr:Rd mu rs rH v hs) (hm:fam T E hs ls∈rs):
  Yi P a w ⟨d,.call ⟨.builtin .len,#[x],#[U]⟩,t,p,af,g⟩ (.int .i64 ls.length):=by
 rw [← nu.famL hm]; exact T1 hS hx nu hr
theorem Xt {i:Nat}:(zrow T E (hs.set i h) (ls.set i l)).eraseIdx i=(zrow T E hs ls).eraseIdx i:=by
 induction hs generalizing ls i with
 | nil=>simp [zrow]
 | cons a hs ih=>cases ls with
  | nil=>cases i<;>simp [zrow]
  | cons b ls=>cases i with
   | zero=>simp [zrow]
   | succ i=>simp only [zrow] at ih; simp [zrow,ih]
theorem St.foc (nu:St w0 mu (fam T E hs ls::rs) w) (h1:getI hs i=some h) (h2:getI ls i=some l):
  St w0 mu (row T E h.v l::famx T E i.toNat hs ls::rs) w:=by
 refine St.part (nu.conv fun X F hF=>?_)
 obtain ⟨F1,F2,g1,g2,gd,ge⟩:=(u9 i.toNat (zd (X5 h1) (X5 h2))).1 hF.2
 exact ⟨F1,F2,g1,⟨hF.1,g2⟩,gd,ge⟩
theorem St.unfoc (h1:getI hs i=some h0) (h2:getI ls i=some l0) (nu:St w0 mu (row T E h.v l::famx T E i.toNat hs ls::rs) w):
  St w0 mu (fam T E (hs.set i.toNat h) (ls.set i.toNat l)::rs) w:=by
 refine St.conv (St.join nu) fun X F hF=>?_
 obtain ⟨F1,F2,g1,⟨hl,g2⟩,gd,ge⟩:=hF
 have hi:i.toNat < hs.length:=(C2.1 (X5 h1)).1
 have wF:i.toNat < ls.length:=(C2.1 (X5 h2)).1
 refine ⟨by simpa using hl,(u9 i.toNat (zd (h:=h) (l:=l) ?_ ?_)).2 ⟨F1,F2,g1,?_,gd,ge⟩⟩
 ·simp [hi]
 ·simp [wF]
 ·rw [Xt]; exact g2
theorem se {β:Type} {l:List β} {i:Nat} {x:β} (h:l[i]?=some x):l.set i x=l:=by
 obtain ⟨hi,rfl⟩:=C2.1 h
 exact List.set_getElem_self hi
theorem St.unfoc' {ls':List (List α)} (h1:getI hs i=some h) (h2:setI ls i l=some ls') (nu:St w0 mu (row T E h.v l::famx T E i.toNat hs ls::rs) w):St w0 mu (fam T E hs ls'::rs) w:=by
 obtain ⟨h3,h4,rfl⟩:=y7 h2
 have h5:getI ls i=some (ls[i.toNat]'(n0)):=by
  cases i with
  | ofNat k=>simp only [getI]; simp
  | negSucc k=>simp at h3
 have:=St.unfoc h1 h5 nu
 rwa [se (X5 h1)] at this
theorem St.fput {ls':List (List α)} {CF:List Hdr} (h1:setI hs i h=some CF) (h2:setI ls i l=some ls') (nu:St w0 mu (row T E h.v l::fam T E hs ls::rs) w):St w0 mu (fam T E CF ls'::rs) w:=by
 obtain ⟨h3,h4,rfl⟩:=y7 h1
 obtain ⟨_,h6,rfl⟩:=y7 h2
 have e1:getI hs i=some (hs[i.toNat]'(n0)):=by
  cases i with
  | ofNat k=>simp only [getI]; simp
  | negSucc k=>simp at h3
 have e2:getI ls i=some (ls[i.toNat]'(n0)):=by
  cases i with
  | ofNat k=>simp only [getI]; simp
  | negSucc k=>simp at h3
 have h7:St w0 mu (fam T E hs ls::row T E h.v l::rs) w:=nu.pk 2 [1,0] rfl
 have h8:=(h7.foc e1 e2).drop
 exact (h8.pk 2 [1,0] rfl:St w0 mu (row T E h.v l::famx T E i.toNat hs ls::rs) w).unfoc e1 e2
theorem V5 {β γ:Type} {l:List β} {m:List γ} {z:β} {u:γ} {l':List β} (h:setI l i z=some l') (hl:m.length=l.length):∃ m',setI m i u=some m':=by
 obtain ⟨h0,h1,_⟩:=y7 h
 cases i with
 | ofNat k=>exact ⟨m.set k u,by simp only [setI]; rw [I0 (by rw [hl]; simpa using h1)]⟩
 | negSucc k=>simp at h0
theorem St.fNew (nu:St w0 mu rs w) (T:TypeId) (E:Rp α):St w0 mu (fam T E [] []::rs) w:=
 nu.new (Chg.refl _ _) fun _ _ _=>⟨fun _=>False,⟨rfl,fun _ h=>h⟩,fun _ h=>h.elim⟩
theorem St.fPush (nu:St w0 mu (row T E h.v l::fam T E hs ls::rs) w):St w0 mu (fam T E (hs++[h]) (ls++[l])::rs) w:=by
 refine St.conv (St.join nu) fun X F hF=>?_
 obtain ⟨F1,F2,g1,⟨hl,g2⟩,gd,ge⟩:=hF
 refine ⟨by simp [hl],?_⟩
 have hz:zrow T E (hs++[h]) (ls++[l])=zrow T E hs ls++[row T E h.v l]:=by
  unfold zrow
  rw [List.zipWith_append hl]; rfl
 rw [hz]
 refine (u9 (zrow T E hs ls).length (r:=row T E h.v l) ?_).2 ?_
 ·simp
 ·have:(zrow T E hs ls++[row T E h.v l]).eraseIdx (zrow T E hs ls).length=zrow T E hs ls:=by
   rw [List.eraseIdx_append_of_length_le (O4 _)]; simp
  rw [this]
  exact ⟨F1,F2,g1,g2,gd,ge⟩
theorem St.fReps (nu:St w0 mu rs w) (T:TypeId) (E:Rp α) (k:Nat):St w0 mu (fam T E (List.replicate k hnil) (List.replicate k [])::rs) w:=by
 induction k with
 | zero=>exact nu.fNew T E
 | succ k ih=>
  have h2:St w0 mu (row T E hnil.v ([]:List α)::fam T E (List.replicate k hnil) (List.replicate k [])::rs) w:=ih.rowNil T E
  have:=h2.fPush
  rwa [← Nc,← Nc] at this
theorem G5 {β γ:Type} {z:β} {n:Int} {l:List β} (h:mkL z n=some l) (u:γ):∃ k,l=List.replicate k z∧mkL u n=some (List.replicate k u):=by
 unfold mkL at h ⊢
 split at h
 ·rename_i hc; simp at h; exact ⟨n.toNat,h.symm,by rw [I0 hc]⟩
 ·cases h
theorem BC {X:Nat→Prop}:∀ {hs:List Hdr} {ls:List (List α)} {F:Nat→Prop},bigH w X (zrow T E hs ls) F→∀ (i:Nat) (h:Hdr) (l:List α),hs[i]?=some h→ls[i]?=some l→Imm w (fun b=>X b∨F b) E h.v l:=by
 intro hs ls F hb i h l h1 h2
 obtain ⟨G,hG,hg⟩:=uf hb (zd h1 h2)
 exact (sh X G hg).mono (Same.refl _ _) fun b hb=>hb.imp id (hG b)
theorem St.ffz {v:Value} (nu:St w0 mu (row To rH v hs::fam T E hs ls::rs) w):St w0 (imm (rS E) v ls::mu) rs w:=by
 refine St.freeze (St.join nu) fun X F hF=>?_
 obtain ⟨F1,F2,h1,⟨hl,h2⟩,hd,he⟩:=hF
 have ZF:=ze h1
 have AK:=sh X F1 h1
 obtain ⟨a,cap,hv,hc,hm,hx⟩:=ZF
 refine ⟨⟨a,cap,by rw [hv,hl],by rw [← hl]; exact hc,by rw [← hl]; exact hm,fun i l xE=>?_⟩,fun hn b hb=>?_⟩
 ·have hi:i < hs.length:=by rw [hl]; exact (C2.1 xE).1
  have hh:hs[i]?=some hs[i]:=by simp [hi]
  obtain ⟨ha,cs,oy,ly⟩:=hx i hs[i] hh
  subst oy
  refine ⟨ha,[hs[i].v],⟨_,rfl,?_⟩,ly⟩
  exact (BC h2 i hs[i] l hh xE).mono (Same.refl _ _) fun b hb=>hb.imp id fun h=>(he b).2 (.inr h)
 ·rcases AK.2 (by intro e; rw [e] at hl; exact hn (P6 hl.symm)) b hb with h | h
  ·exact .inl h
  ·exact .inr ((he b).2 (.inl h))
end
end Sx
