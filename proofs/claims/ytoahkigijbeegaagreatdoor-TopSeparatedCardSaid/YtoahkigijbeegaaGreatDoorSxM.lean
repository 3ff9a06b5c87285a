/- Dense steps: operations that only reckon are passed in runs, by computation; loops and joins tell only what turns. It holds over any program. -/
import Derived.Test.YtoahkigijbeegaaGreatDoorSxP
import Derived.Test.YtoahkigijbeegaaGreatDoorSxU
import Derived.KernelRfl
namespace Sx
open Go
def ups:List (Nat×Value)→(Nat→Value)→(Nat→Value)
 | [],g=>g
 | p::L,g=>upd (ups L g) p.1 p.2
def lk:List (Nat×Value)→Nat→Option Value
 | [],_=>none
 | (i,v)::L,t=>bif Nat.beq i t then some v else lk L t
def pks (L:List (Nat×Value)):List Nat→Option (List (Nat×Value))
 | []=>some []
 | t::K=>match lk L t,pks L K with
  | some v,some M=>some ((t,v)::M)
  | _,_=>none
class Fd (f:Nat→Value) (L:outParam (List (Nat×Value))) (g:outParam (Nat→Value)):Prop where
 eq:f=ups L g
instance (priority:=10) fdG {f:Nat→Value}:Fd f [] f:=⟨rfl⟩
instance fdU {L:List (Nat×Value)} {g:Nat→Value}:Fd (ups L g) L g:=⟨rfl⟩
instance fdP {f g:Nat→Value} {L:List (Nat×Value)} {d:Nat} {v:Value} [h:Fd f L g]:Fd (upd f d v) ((d,v)::L) g:=⟨by rw [h.eq]; rfl⟩
def zipF:Nat→List Value→List (Nat×Value)
 | _,[]=>[]
 | i,v::vs=>(i,v)::zipF (i+1) vs
theorem Y6:∀ {L:List (Nat×Value)} {g:Nat→Value} {t:Nat} {v:Value},lk L t=some v→ups L g t=v
 | [],_,_,_,h=>by cases h
 | (i,u)::L,g,t,v,h=>by
  simp only [lk] at h
  show upd (ups L g) i u t=v
  cases hb:Nat.beq i t
  ·rw [hb] at h
   rw [X6 _ _ (fun e=>by subst e; simp at hb)]
   exact Y6 h
  ·rw [hb] at h
   injection h with h
   rw [Y5 hb,Oa,h]
theorem Gj:∀ {vs:List Value} {k t:Nat} {v:Value},lk (zipF k vs) t=some v→k≤t∧vs.getD (t - k) undef=v
 | [],_,_,_,h=>by cases h
 | u::vs,k,t,v,h=>by
  simp only [zipF,lk] at h
  cases hb:Nat.beq k t
  ·rw [hb] at h
   obtain ⟨h1,h2⟩:=Gj h
   refine ⟨n0,?_⟩
   rw [show t - k=(t - (k+1))+1 by omega]
   exact h2
  ·rw [hb] at h
   injection h with h
   have:=Y5 hb
   subst this
   exact ⟨O4 _,by rw [Fb]; exact h⟩
theorem pA {f:Nat→Value}:∀ {L:List (Nat×Value)},(∀ t v,lk L t=some v→f t=v)→ups L f=f
 | [],_=>rfl
 | (i,u)::L,h=>by
  have hi:f i=u:=h i u (by simp [lk])
  funext t
  show upd (ups L f) i u t=f t
  by_cases e:t=i
  ·subst e; rw [Oa,hi]
  ·rw [X6 _ _ e]
   cases hl:lk L t with
   | some v=>rw [Y6 hl]; exact (h t v (by simp only [lk]; rw [Dc (fun e'=>e e'.symm)]; exact hl)).symm
   | none=>
    have key:∀ {M:List (Nat×Value)},lk M t=none→ups M f t=f t:=by
     intro M
     induction M with
     | nil=>exact fun _=>rfl
     | cons p M ih=>
      obtain ⟨j,x⟩:=p
      intro hm
      simp only [lk] at hm
      show upd (ups M f) j x t=f t
      cases hb:Nat.beq j t
      ·rw [hb] at hm
       rw [X6 _ _ (fun e=>by subst e; simp at hb)]
       exact ih hm
      ·rw [hb] at hm; cases hm
    exact key hl
instance fdI {vs:List Value}:Fd (initF vs) (zipF 0 vs) (initF vs):=⟨(pA (f:=initF vs) fun t v h=>by have:=(Gj h).2; rwa [p8] at this).symm⟩
theorem fp {L:List (Nat×Value)}:∀ {K:List Nat} {M:List (Nat×Value)},pks L K=some M→∀ p,p∈M→lk L p.1=some p.2
 | [],_,h,p,hp=>by cases h; cases hp
 | t::K,M,h,p,hp=>by
  simp only [pks] at h
  split at h
  ·rename_i h1 h2
   injection h with h
   subst h
   rcases G3.1 hp with rfl | hp
   ·exact h1
   ·exact fp h2 p hp
  ·cases h
def has (f:Nat→Value) (L:List (Nat×Value)):Prop:=L.map (fun p=>f p.1)=L.map (·.2)
theorem Z0 {f:Nat→Value} {t:Nat} {v:Value} {L:List (Nat×Value)} (h:f t=v) (k:has f L):has f ((t,v)::L):=by
 unfold has at*
 rw [F7,F7,k]
 exact S0 (·::_) h
theorem Ln {f:Nat→Value} {t:Nat} {v:Value} (h:f t=v):upd f t v=f:=by
 funext i
 by_cases e:i=t
 ·subst e; rw [Oa,h]
 ·rw [X6 _ _ e]
theorem db:∀ {L:List (Nat×Value)} {f:Nat→Value},has f L→ups L f=f
 | [],_,_=>rfl
 | p::L,f,h=>by
  unfold has at h
  rw [F7,F7] at h
  injection h with h1 h2
  show upd (ups L f) p.1 p.2=f
  rw [db (L:=L) h2]
  exact Ln h1
theorem sA {f:Nat→Value} {L M:List (Nat×Value)} (h:has f L) (k:has f M):has f (L++M):=by
 unfold has at*
 rw [o7,o7,h,k]
def isKI (P:Program) (T:TypeId) (k:IntKind):Bool:=match P.underlying T with
 | some (.int k')=>Nat.beq k.ctorIdx k'.ctorIdx
 | _=>false
abbrev Tb:=List (Nat×IntKind)×List (Nat×Nat×Nat)
class KT (P:Program) where
 tb:Tb
 ok:tb.1.all (fun p=>isKI P p.1 p.2)=true
 ok2:tb.2.all (fun p=>isFld P p.1 p.2.1 p.2.2)=true
def ft:List (Nat×Nat×Nat)→Nat→Nat→Option Nat
 | [],_,_=>none
 | p::L,T,i=>bif Nat.beq p.1 T && Nat.beq p.2.1 i then some p.2.2 else ft L T i
def nz:Int→Bool
 | .ofNat 0=>false
 | _=>true
theorem Cp {x:Int} (h:nz x=true):x≠0:=by rintro rfl; cases h
def kt:List (Nat×IntKind)→Nat→Option IntKind
 | [],_=>none
 | p::L,T=>bif Nat.beq p.1 T then some p.2 else kt L T
def ov (n:Nat) (f:List (Nat×Value)):Operand→Option Value
 | .tmp t=>bif Nat.blt t n then lk f t else none
 | .const v=>some v
 | .func g=>some (.func (.func g) #[] #[])
 | _=>none
def qb (k:IntKind) (m n:Int):BinOp→Option Value
 | .add=>some (.int k (wa k m n))
 | .sub=>some (.int k (ws k m n))
 | .mul=>some (.int k (wm k m n))
 | .lss=>some (.bool (decide (m < n)))
 | .leq=>some (.bool (decide (m≤n)))
 | .gtr=>some (.bool (decide (n < m)))
 | .geq=>some (.bool (decide (n≤m)))
 | .eql=>some (.bool (decide (m=n)))
 | .neq=>some (.bool (!decide (m=n)))
 | .and=>some (.int k (wand k m n))
 | .or=>some (.int k (wor k m n))
 | .xor=>some (.int k (wxor k m n))
 | _=>none
def qv (tb:Tb) (n:Nat) (f:List (Nat×Value)):Op→Option Value
 | .move x=>ov n f x
 | .assign x=>ov n f x
 | .binOp .shr _ x y _=>match ov n f x,ov n f y with
  | some (.int k m),some (.int _ (.ofNat l))=>some (.int k (wsrc k m l))
  | _,_=>none
 | .binOp .shl _ x y _=>match ov n f x,ov n f y with
  | some (.int k m),some (.int _ (.ofNat l))=>some (.int k (wslc k m l))
  | _,_=>none
 | .binOp .quo _ x y _=>match ov n f x,ov n f y with
  | some (.int k m),some (.int k' l)=>bif Nat.beq k.ctorIdx k'.ctorIdx && nz l then some (.int k (wqc k m l)) else none
  | _,_=>none
 | .binOp .rem _ x y _=>match ov n f x,ov n f y with
  | some (.int k m),some (.int k' l)=>bif Nat.beq k.ctorIdx k'.ctorIdx && nz l then some (.int k (wrc m l)) else none
  | _,_=>none
 | .fieldAddr T x i=>match ft tb.2 T i,ov n f x with
  | some off,some (.pointer (some ⟨b,o,none⟩))=>some (.pointer (some ⟨b,o+off,none⟩))
  | _,_=>none
 | .nilCheck x=>match ov n f x with
  | some (.pointer (some b))=>some (.pointer (some b))
  | _=>none
 | .binOp o _ x y _=>match ov n f x,ov n f y with
  | some (.int k m),some (.int k' l)=>bif Nat.beq k.ctorIdx k'.ctorIdx then qb k m l o else none
  | _,_=>none
 | .unOp .not _ x=>match ov n f x with
  | some (.bool b)=>some (.bool (!b))
  | _=>none
 | .unOp .neg _ x=>match ov n f x with
  | some (.int k m)=>some (.int k (wneg k m))
  | _=>none
 | .convert T U x=>match kt tb.1 T,kt tb.1 U,ov n f x with
  | some _,some k',some (.int _ m)=>some (.int k' (wc k' m))
  | _,_,_=>none
 | .extract x i=>match ov n f x with
  | some (.tuple vs)=>vs[i]?
  | _=>none
 | .pick c x y=>match ov n f c with
  | some (.bool true)=>ov n f x
  | some (.bool false)=>ov n f y
  | _=>none
 | .call ⟨.builtin .min,⟨[x,y]⟩,_⟩=>match ov n f x,ov n f y with
  | some (.int k m),some (.int k' l)=>bif Nat.beq k.ctorIdx k'.ctorIdx then some (.int k (imin m l)) else none
  | _,_=>none
 | .call ⟨.builtin .max,⟨[x,y]⟩,_⟩=>match ov n f x,ov n f y with
  | some (.int k m),some (.int k' l)=>bif Nat.beq k.ctorIdx k'.ctorIdx then some (.int k (imax m l)) else none
  | _,_=>none
 | _=>none
def wqg (ops:Array Oper) (n:Nat) (f:List (Nat×Value)):Option (Nat×Bool)→Option Bool
 | none=>some true
 | some (j,b)=>match (ops[j]?).bind (·.dst) with
  | some d=>bif Nat.blt d n then match lk f d with
   | some (.bool true)=>some b
   | some (.bool false)=>some (!b)
   | some (.tuple ⟨[]⟩)=>some false
   | _=>none
   else none
  | none=>none
def qs (tb:Tb) (ops:Array Oper) (n:Nat):Nat→List Oper→List (Nat×Value)→Option (List Oper×List (Nat×Value))
 | 0,l,f=>some (l,f)
 | k+1,l,f=>match l with
  | o::l=>match wqg ops n f o.guard,o.dst with
   | some true,some d=>match qv tb n f o.op with
    | some v=>qs tb ops n k l ((d,v)::f)
    | none=>none
   | some false,some d=>qs tb ops n k l ((d,undef)::f)
   | _,_=>none
  | _=>none
theorem O1 {n:Nat} {f:List (Nat×Value)} {g:Nat→Value} {x:Operand} {v:Value} (h:ov n f x=some v):(fr n (ups f g)).eval x=v:=by
 cases x with
 | tmp t=>
  simp only [ov] at h
  cases hb:Nat.blt t n
  ·rw [hb] at h; cases h
  ·rw [hb] at h; exact et hb (Y6 h)
 | const c=>simp only [ov] at h; injection h
 | global g=>cases h
 | func g=>simp only [ov] at h; injection h
theorem ab {k k':IntKind} (h:Nat.beq k.ctorIdx k'.ctorIdx=true):k=k':=by
 revert h
 cases k<;>cases k'<;>first | exact fun _=>rfl | (intro h; cases h)
theorem Sh {P:Program}:∀ {L:List (Nat×IntKind)} {T:Nat} {k:IntKind},L.all (fun p=>isKI P p.1 p.2)=true→kt L T=some k→P.underlying T=some (.int k)
 | [],_,_,_,h=>by cases h
 | p::L,T,k,ha,h=>by
  rw [List.all_cons,V4] at ha
  simp only [kt] at h
  cases hb:Nat.beq p.1 T
  ·rw [hb] at h; exact Sh ha.2 h
  ·rw [hb] at h
   injection h with h
   have h1:=ha.1
   rw [Y5 hb,h] at h1
   unfold isKI at h1
   split at h1
   ·rename_i h2; rw [h2,ab h1]
   ·cases h1
theorem xq {P:Program}:∀ {L:List (Nat×Nat×Nat)} {T i off:Nat},L.all (fun p=>isFld P p.1 p.2.1 p.2.2)=true→ft L T i=some off→FldT P T i off
 | [],_,_,_,_,h=>by cases h
 | p::L,T,i,off,ha,h=>by
  rw [List.all_cons,V4] at ha
  simp only [ft] at h
  cases hb:(Nat.beq p.1 T && Nat.beq p.2.1 i)
  ·rw [hb] at h; exact xq ha.2 h
  ·rw [hb] at h
   injection h with h
   rw [V4] at hb
   have h1:=ha.1
   rw [Y5 hb.1,Y5 hb.2,h] at h1
   exact Ve h1
theorem Dy {n:Nat} {f:Nat→Value} {P:Program} {w:World} {x y:Operand} {k:IntKind} {m l:Int} {o:BinOp} {v:Value} {D:Option Tmp} {T U t:TypeId} {p:String} {af:Array Edge} {g:Option (Nat×Bool)} (hx:(fr n f).eval x=.int k m) (hy:(fr n f).eval y=.int k l) (h:qb k m l o=some v):Yi P (fr n f) w ⟨D,.binOp o T x y U,t,p,af,g⟩ v:=by
 cases o<;>simp only [qb] at h<;>first | (cases h; done) | skip
 all_goals injection h with h; subst h
 all_goals first | exact yadd hx hy | exact ysub hx hy | exact ymul hx hy | exact ylss hx hy | exact yleq hx hy | exact ygtr hx hy | exact ygeq hx hy | exact yeql hx hy | exact yneq hx hy | exact yand hx hy | exact yor hx hy | exact yxor hx hy
theorem Ce {n:Nat} {f:List (Nat×Value)} {g':Nat→Value} {P:Program} [KT P] {w:World} {ins:Op} {v:Value} {D:Option Tmp} {t:TypeId} {p:String} {af:Array Edge} {g:Option (Nat×Bool)} (h:qv (KT.tb P) n f ins=some v):Yi P (fr n (ups f g')) w ⟨D,ins,t,p,af,g⟩ v:=by
 unfold qv at h
 split at h
 ·exact ym (O1 h)
 ·exact ya (O1 h)
 ·split at h
  ·rename_i h1 h2; injection h with h; subst h; exact bu (O1 h1) (O1 h2)
  ·cases h
 ·split at h
  ·rename_i h1 h2; injection h with h; subst h; exact cu (O1 h1) (O1 h2)
  ·cases h
 ·split at h
  ·rename_i h1 h2
   revert h
   cases hb:(Nat.beq _ _ && nz _)
   ·intro h; cases h
   ·intro h
    rw [V4] at hb
    have:=ab hb.1
    subst this
    injection h with h
    subst h
    exact gu (O1 h1) (O1 h2) (Cp hb.2)
  ·cases h
 ·split at h
  ·rename_i h1 h2
   revert h
   cases hb:(Nat.beq _ _ && nz _)
   ·intro h; cases h
   ·intro h
    rw [V4] at hb
    have:=ab hb.1
    subst this
    injection h with h
    subst h
    exact eu (O1 h1) (O1 h2) (Cp hb.2)
  ·cases h
 ·split at h
  ·rename_i h1 h2
   injection h with h
   subst h
   exact yFb (xq KT.ok2 h1) (O1 h2)
  ·cases h
 ·split at h
  ·rename_i h1
   injection h with h
   subst h
   exact yn (O1 h1)
  ·cases h
 ·split at h
  ·rename_i h1 h2
   revert h
   cases hb:Nat.beq _ _
   ·intro h; cases h
   ·intro h
    have:=ab hb
    subst this
    exact Dy (O1 h1) (O1 h2) h
  ·cases h
 ·split at h
  ·rename_i h1
   injection h with h
   subst h
   exact ynot (O1 h1)
  ·cases h
 ·split at h
  ·rename_i h1
   injection h with h
   subst h
   exact yneg (O1 h1)
  ·cases h
 ·split at h
  ·rename_i h1 h2 h3
   injection h with h
   subst h
   exact ycv (by rw [Sh KT.ok h1]; rfl) (Sh KT.ok h2) (O1 h3)
  ·cases h
 ·split at h
  ·rename_i h1
   exact yx (O1 h1) h
  ·cases h
 ·split at h
  ·rename_i h1; exact ypt (O1 h1) rfl (O1 h)
  ·rename_i h1; exact ypf (O1 h1) rfl (O1 h)
  ·cases h
 ·split at h
  ·rename_i h1 h2
   revert h
   cases hb:Nat.beq _ _
   ·intro h; cases h
   ·intro h
    have:=ab hb
    subst this
    injection h with h
    subst h
    exact ymin (O1 h1) (O1 h2)
  ·cases h
 ·split at h
  ·rename_i h1 h2
   revert h
   cases hb:Nat.beq _ _
   ·intro h; cases h
   ·intro h
    have:=ab hb
    subst this
    injection h with h
    subst h
    exact ymax (O1 h1) (O1 h2)
  ·cases h
 ·cases h
theorem N3 {ops:Array Oper} {n:Nat} {f:List (Nat×Value)} {g':Nat→Value} {g:Option (Nat×Bool)}:(wqg ops n f g=some true→Wn ops n (ups f g') g)∧(wqg ops n f g=some false→Wx ops n (ups f g') g):=by
 cases g with
 | none=>exact ⟨fun _=>trivial,fun h=>(by cases h)⟩
 | some jb=>
  obtain ⟨j,b⟩:=jb
  simp only [wqg]
  cases hd:(ops[j]?).bind (·.dst) with
  | none=>exact ⟨fun h=>(by cases h),fun h=>(by cases h)⟩
  | some d=>
   simp only
   cases ht:Nat.blt d n
   ·exact ⟨fun h=>(by cases h),fun h=>(by cases h)⟩
   ·simp only [cond_true]
    split
    ·rename_i h1
     refine ⟨fun h=>?_,fun h=>?_⟩
     ·injection h with h
      exact ⟨d,hd,ht,by rw [Y6 h1,h]⟩
     ·injection h with h
      exact ⟨d,hd,ht,.inl (by rw [Y6 h1,h]; rfl)⟩
    ·rename_i h1
     refine ⟨fun h=>?_,fun h=>?_⟩
     ·injection h with h
      refine ⟨d,hd,ht,?_⟩
      rw [Y6 h1]
      cases b
      ·rfl
      ·cases h
     ·injection h with h
      refine ⟨d,hd,ht,.inl ?_⟩
      rw [Y6 h1]
      cases b
      ·cases h
      ·rfl
    ·rename_i h1
     refine ⟨fun h=>?_,fun _=>⟨d,hd,ht,.inr (Y6 h1)⟩⟩
     injection h with h
     cases h
    ·exact ⟨fun h=>(by cases h),fun h=>(by cases h)⟩
inductive Kn where
 | sq (y:Code)
 | bl (id:Nat)
 | sc
 | jn (J:Act→World→Prop)
 | lb (B:Exit→Act→World→Prop)
def RK (P:Program) (Q:Exit→Act→World→Prop):List Kn→Exit→Act→World→Prop
 | [],e,a,w=>Q e a w
 | .sq y::S,e,a,w=>match e with
  | .normal=>y.wp P (RK P Q S) a w
  | e=>RK P Q S e a w
 | .bl id::S,e,a,w=>RK P Q S (bex id e) a w
 | .sc::S,e,a,w=>ng e=true∧RK P Q S e a w
 | .jn J::S,e,a,w=>match e with
  | .normal=>J a w
  | e=>RK P Q S e a w
 | .lb B::_,e,a,w=>B e a w
inductive Mo where
 | c (c:Code)
 | l (o:Array Oper) (l:List Oper)
 | x (e:Exit)
def Md (P:Program) (Q:Exit→Act→World→Prop) (n:Nat) (g':Nat→Value) (S:List Kn) (m:Mo) (L:List (Nat×Value)) (w:World):Prop:=match m with
 | .c c=>c.wp P (RK P Q S) (fr n (ups L g')) w
 | .l o l=>wpList P o (RK P Q S) l (fr n (ups L g')) w
 | .x e=>RK P Q S e (fr n (ups L g')) w
def st1 (tb:Tb) (n:Nat) (S:List Kn) (m:Mo) (L:List (Nat×Value)):Option (List Kn×Mo×List (Nat×Value)):=match m with
 | .c c=>match c with
  | .seq x y=>some (.sq y::S,.c x,L)
  | .block i c=>some (.bl i::S,.c c,L)
  | .scope c=>some (.sc::S,.c c,L)
  | .region _ ⟨l⟩ false=>some (S,.l ⟨l⟩ l,L)
  | .skip=>some (S,.x .normal,L)
  | .label _=>some (S,.x .normal,L)
  | .exit i=>some (S,.x (.exit i),L)
  | .ret=>some (S,.x .ret,L)
  | .cond o a b=>match ov n L o with
   | some (.bool true)=>some (S,.c a,L)
   | some (.bool false)=>some (S,.c b,L)
   | _=>none
  | _=>none
 | .l ops l=>match l with
  | []=>some (S,.x .normal,L)
  | o::l=>match wqg ops n L o.guard,o.dst with
   | some true,some d=>match qv tb n L o.op with
    | some v=>some (S,.l ops l,(d,v)::L)
    | none=>none
   | some false,some d=>some (S,.l ops l,(d,undef)::L)
   | _,_=>none
 | .x e=>match S with
  | .sq y::S=>match e with
   | .normal=>some (S,.c y,L)
   | .exit i=>some (S,.x (.exit i),L)
   | .ret=>some (S,.x .ret,L)
   | _=>none
  | .bl i::S=>some (S,.x (bex i e),L)
  | .sc::S=>bif ng e then some (S,.x e,L) else none
  | .jn _::S=>match e with
   | .exit i=>some (S,.x (.exit i),L)
   | .ret=>some (S,.x .ret,L)
   | _=>none
  | _=>none
def stp (tb:Tb) (n:Nat):Nat→List Kn→Mo→List (Nat×Value)→Option (List Kn×Mo×List (Nat×Value))
 | 0,S,m,L=>some (S,m,L)
 | k+1,S,m,L=>match st1 tb n S m L with
  | some (S',m',L')=>stp tb n k S' m' L'
  | none=>none
section
variable {P:Program} {Q:Exit→Act→World→Prop} {n:Nat} {g':Nat→Value} {w:World} {L L':List (Nat×Value)} {S S':List Kn} {m m':Mo}
theorem zw [KT P] (h:st1 (KT.tb P) n S m L=some (S',m',L')) (k:Md P Q n g' S' m' L' w):Md P Q n g' S m L w:=by
 have inj:∀ {A:List Kn} {B:Mo} {C:List (Nat×Value)},some (A,B,C)=some (S',m',L')→Md P Q n g' A B C w:=fun h=>by
  injection h with h; injection h with h1 h2; injection h2 with h2 h3; rw [h1,h2,h3]; exact k
 unfold st1 at h
 split at h
 ·split at h
  ·exact seqQ fun Q' k1 k2=>wp_mono (inj h) fun e a w q=>(by
    cases he:nn e
    ·cases e<;>first | exact k1 _ _ q | cases he
    ·exact k2 _ _ _ he (by cases e<;>first | exact q | cases he))
  ·exact wC fun Q' k1=>wp_mono (inj h) fun e a w q=>k1 _ _ _ q
  ·exact Ww fun Q' k1=>wp_mono (inj h) fun e a w q=>k1 _ _ _ q.1 q.2
  ·exact wp_region_lit (inj h)
  ·exact wp_skip (inj h)
  ·exact wp_label (inj h)
  ·exact wp_exit (inj h)
  ·exact wp_ret (inj h)
  ·split at h
   ·rename_i hc; exact wb (O1 hc) rfl (inj h)
   ·rename_i hc; exact xb (O1 hc) rfl (inj h)
   ·cases h
  ·cases h
 ·split at h
  ·have q:=inj h; exact q
  ·split at h
   ·rename_i hg hd
    split at h
    ·rename_i hv
     exact Y (N3.1 hg) hd (Ce hv) (inj h)
    ·cases h
   ·rename_i hg hd
    exact Gn (N3.2 hg) hd (inj h)
   ·cases h
 ·rename_i e
  split at h
  ·split at h
   ·have q:=inj h; exact q
   ·have q:=inj h; exact q
   ·have q:=inj h; exact q
   ·cases h
  ·have q:=inj h; exact q
  ·cases he:ng e
   ·rw [he] at h; cases h
   ·rw [he] at h; have q:=inj h; exact ⟨he,q⟩
  ·split at h
   ·have q:=inj h; exact q
   ·have q:=inj h; exact q
   ·cases h
  ·cases h
theorem Vb [KT P]:∀ (k:Nat) {S:List Kn} {m:Mo} {L:List (Nat×Value)},stp (KT.tb P) n k S m L=some (S',m',L')→Md P Q n g' S' m' L' w→Md P Q n g' S m L w
 | 0,S,m,L,h,kk=>by
  simp only [stp] at h
  injection h with h; injection h with h1 h2; injection h2 with h2 h3; rw [h1,h2,h3]; exact kk
 | k+1,S,m,L,h,kk=>by
  simp only [stp] at h
  split at h
  ·rename_i h1
   exact zw h1 (Vb k h kk)
  ·cases h
theorem qx [KT P] {e:Exit} (k:Nat) (h:stp (KT.tb P) n k S (.x e) L=some (S',m',L')) (kk:Md P Q n g' S' m' L' w):RK P Q S e (fr n (ups L g')) w:=Vb (m:=.x e) k h kk
theorem q [KT P] (k:Nat) (h:stp (KT.tb P) n k S m L=some (S',m',L')) (kk:Md P Q n g' S' m' L' w):Md P Q n g' S m L w:=Vb k h kk
end
section
variable {Z:List Kn} {P:Program} {ops:Array Oper} {Q:Exit→Act→World→Prop} {n:Nat} {f f':Nat→Value} {w:World} {l l' rest:List Oper} {d:Nat} {ins:Op} {t:TypeId} {p:String} {af:Array Edge} {g:Option (Nat×Bool)}
theorem nf {L:List (Nat×Value)} {g':Nat→Value} [F:Fd f L g'] (kk:Md P Q n g' Z (.l ops l) L w):wpList P ops (RK P Q Z) l (fr n f) w:=by rw [F.eq]; exact kk
theorem y {L:List (Nat×Value)} {g':Nat→Value} {v:Value} (hy:Yi P (fr n (ups L g')) w ⟨some d,ins,t,p,af,g⟩ v) (k:Md P Q n g' Z (.l ops rest) ((d,v)::L) w) (hg:wqg ops n L g=some true:=by exact rfl):Md P Q n g' Z (.l ops (⟨some d,ins,t,p,af,g⟩::rest)) L w:=Y (N3.1 hg) rfl hy k
theorem yh {L:List (Nat×Value)} {g':Nat→Value} {S:Hdr→World→Prop} (hy:∃ (h:Hdr) (w':World),(execOp (fr n (ups L g')).eval ⟨some d,ins,t,p,af,g⟩).run P w=.ok (.value h.v) w'∧S h w') (k:∀ (h:Hdr) (w':World),S h w'→Md P Q n g' Z (.l ops rest) ((d,h.v)::L) w') (hg:wqg ops n L g=some true:=by exact rfl):Md P Q n g' Z (.l ops (⟨some d,ins,t,p,af,g⟩::rest)) L w:=YH (N3.1 hg) rfl hy k
theorem yb {L:List (Nat×Value)} {g':Nat→Value} {S:Nat→World→Prop} (hy:∃ (b:Nat) (w':World),(execOp (fr n (ups L g')).eval ⟨some d,ins,t,p,af,g⟩).run P w=.ok (.value (.pointer (some ⟨b,0,none⟩))) w'∧S b w') (k:∀ (b:Nat) (w':World),S b w'→Md P Q n g' Z (.l ops rest) ((d,.pointer (some ⟨b,0,none⟩))::L) w') (hg:wqg ops n L g=some true:=by exact rfl):Md P Q n g' Z (.l ops (⟨some d,ins,t,p,af,g⟩::rest)) L w:=YB (N3.1 hg) rfl hy k
theorem yt {L:List (Nat×Value)} {g':Nat→Value} {S:World→Prop} (hy:∃ (w':World),(execOp (fr n (ups L g')).eval ⟨none,ins,t,p,af,g⟩).run P w=.ok .skip w'∧S w') (k:∀ (w':World),S w'→Md P Q n g' Z (.l ops rest) L w') (hg:wqg ops n L g=some true:=by exact rfl):Md P Q n g' Z (.l ops (⟨none,ins,t,p,af,g⟩::rest)) L w:=YT (N3.1 hg) rfl hy k
theorem Mn {L:List (Nat×Value)} {g':Nat→Value} {t:Nat} {v:Value} (h:lk L t=some v):ups ((t,v)::L) g'=ups L g':=Ln (Y6 h)
theorem X7 {m:Mo} {L:List (Nat×Value)} {g':Nat→Value} {t:Nat} {v:Value} (h:lk L t=some v):Md P Q n g' Z m ((t,v)::L) w=Md P Q n g' Z m L w:=by unfold Md; rw [Mn h]
theorem Cz {L:List (Nat×Value)} (h:has f L):Md P Q n f Z (.l ops l) L w=wpList P ops (RK P Q Z) l (fr n f) w:=by unfold Md; simp only; rw [db h]
theorem gB {b:Bool} {L:List (Nat×Value)} {g':Nat→Value} (t:Nat) (hf:lk L t=some (.bool b)) (h1:b=true→Md P Q n g' Z (.l ops l) ((t,.bool true)::L) w) (h2:b=false→Md P Q n g' Z (.l ops l) ((t,.bool false)::L) w):Md P Q n g' Z (.l ops l) L w:=by
 cases b
 ·have:=h2 rfl; rwa [X7 hf] at this
 ·have:=h1 rfl; rwa [X7 hf] at this
theorem gI {q:Prop} [Decidable q] {α:Type} {A B:Option α} {r:α} {L:List (Nat×Value)} {g':Nat→Value} (t:Nat) (hM:(if q then A else B)=some r) (hf:lk L t=some (.bool (decide q))) (h1:q→A=some r→Md P Q n g' Z (.l ops l) ((t,.bool true)::L) w) (h2:¬ q→B=some r→Md P Q n g' Z (.l ops l) ((t,.bool false)::L) w):Md P Q n g' Z (.l ops l) L w:=by
 by_cases hq:q
 ·rw [I0 hq] at hM
  have:=h1 hq hM
  rwa [X7 (hf.trans (by rw [decide_eq_true hq]))] at this
 ·rw [J0 hq] at hM
  have:=h2 hq hM
  rwa [X7 (hf.trans (by rw [decide_eq_false hq]))] at this
theorem gJ {b:Bool} {α:Type} {A B:Option α} {r:α} {L:List (Nat×Value)} {g':Nat→Value} (t:Nat) (hM:(if b=true then A else B)=some r) (hf:lk L t=some (.bool b)) (h1:b=true→A=some r→Md P Q n g' Z (.l ops l) ((t,.bool true)::L) w) (h2:¬ b=true→B=some r→Md P Q n g' Z (.l ops l) ((t,.bool false)::L) w):Md P Q n g' Z (.l ops l) L w:=by
 cases b
 ·have:=h2 G0 (by simpa using hM); rwa [X7 hf] at this
 ·have:=h1 rfl (by simpa using hM); rwa [X7 hf] at this
theorem gIn {q:Prop} [Decidable q] {α:Type} {A B:Option α} {r:α} {L:List (Nat×Value)} {g':Nat→Value} (t:Nat) (hM:(if q then A else B)=some r) (hf:lk L t=some (.bool (!decide q))) (h1:q→A=some r→Md P Q n g' Z (.l ops l) ((t,.bool false)::L) w) (h2:¬ q→B=some r→Md P Q n g' Z (.l ops l) ((t,.bool true)::L) w):Md P Q n g' Z (.l ops l) L w:=by
 by_cases hq:q
 ·rw [I0 hq] at hM
  have:=h1 hq hM
  rwa [X7 (hf.trans (by rw [decide_eq_true hq]; rfl))] at this
 ·rw [J0 hq] at hM
  have:=h2 hq hM
  rwa [X7 (hf.trans (by rw [decide_eq_false hq]; rfl))] at this
theorem gJn {b:Bool} {α:Type} {A B:Option α} {r:α} {L:List (Nat×Value)} {g':Nat→Value} (t:Nat) (hM:(if b=true then A else B)=some r) (hf:lk L t=some (.bool (!b))) (h1:b=true→A=some r→Md P Q n g' Z (.l ops l) ((t,.bool false)::L) w) (h2:¬ b=true→B=some r→Md P Q n g' Z (.l ops l) ((t,.bool true)::L) w):Md P Q n g' Z (.l ops l) L w:=by
 cases b
 ·have:=h2 G0 (by simpa using hM); rwa [X7 (v:=.bool true) hf] at this
 ·have:=h1 rfl (by simpa using hM); rwa [X7 (v:=.bool false) hf] at this
theorem iB {L M:List (Nat×Value)} {g':Nat→Value} {K:List Nat} (hK:pks L K=some M):∀ p,p∈M→ups L g' p.1=p.2:=fun p hp=>Y6 (fp hK p hp)
theorem qA {M:List (Nat×Value)} (h:∀ p,p∈M→f p.1=p.2):has f M:=by
 unfold has
 exact oj h
theorem jW {g':Nat→Value} {L0 M:List (Nat×Value)} {w0:World} (k:Nat) (K:List Nat) (L:List (Nat×Value)) (S:World→Prop) (hK:pks L0 K=some M)
  (h2:(∀ f w,S w→has f (L++M)→wpList P ops (RK P Q Z) (l.drop k) (fr n f) w)→Md P Q n g' Z (.l ops l) L0 w0) (h1:∀ g w,S w→Md P Q n g Z (.l ops (l.drop k)) (L++M) w):Md P Q n g' Z (.l ops l) L0 w0:=
 h2 fun f w hS hf=>by have:=h1 f w hS; rwa [Cz hf] at this
theorem cI {c:Operand} {x y:Code} {p:Prop} [Decidable p] {α:Type} {A B:Option α} {r:α} {L:List (Nat×Value)} {g':Nat→Value} (hM:(if p then A else B)=some r) (h1:p→A=some r→Md P Q n g' Z (.c x) L w) (h2:¬ p→B=some r→Md P Q n g' Z (.c y) L w) (hc:ov n L c=some (.bool (decide p)):=by exact rfl):Md P Q n g' Z (.c (.cond c x y)) L w:=cIf (O1 hc) hM h1 h2
theorem cJ {c:Operand} {x y:Code} {b:Bool} {α:Type} {A B:Option α} {r:α} {L:List (Nat×Value)} {g':Nat→Value} (hM:(if b=true then A else B)=some r) (h1:b=true→A=some r→Md P Q n g' Z (.c x) L w) (h2:¬ b=true→B=some r→Md P Q n g' Z (.c y) L w) (hc:ov n L c=some (.bool b):=by exact rfl):Md P Q n g' Z (.c (.cond c x y)) L w:=Sx.cB (O1 hc) hM h1 h2
theorem cIn {c:Operand} {x y:Code} {p:Prop} [Decidable p] {α:Type} {A B:Option α} {r:α} {L:List (Nat×Value)} {g':Nat→Value} (hM:(if p then A else B)=some r) (h1:p→A=some r→Md P Q n g' Z (.c y) L w) (h2:¬ p→B=some r→Md P Q n g' Z (.c x) L w) (hc:ov n L c=some (.bool (!decide p)):=by exact rfl):Md P Q n g' Z (.c (.cond c x y)) L w:=by
 by_cases hp:p
 ·rw [I0 hp] at hM; exact xb (O1 hc) (by simp [hp]) (h1 hp hM)
 ·rw [J0 hp] at hM; exact wb (O1 hc) (by simp [hp]) (h2 hp hM)
theorem cJn {c:Operand} {x y:Code} {b:Bool} {α:Type} {A B:Option α} {r:α} {L:List (Nat×Value)} {g':Nat→Value} (hM:(if b=true then A else B)=some r) (h1:b=true→A=some r→Md P Q n g' Z (.c y) L w) (h2:¬ b=true→B=some r→Md P Q n g' Z (.c x) L w) (hc:ov n L c=some (.bool (!b)):=by exact rfl):Md P Q n g' Z (.c (.cond c x y)) L w:=by
 cases b
 ·rw [J0 G0] at hM; exact wb (O1 hc) rfl (h2 G0 hM)
 ·rw [I0 rfl] at hM; exact xb (O1 hc) rfl (h1 rfl hM)
theorem kT {c:Operand} {x y:Code} {b:Bool} {L:List (Nat×Value)} {g':Nat→Value} (hb:b=true) (h:Md P Q n g' Z (.c x) L w) (hc:ov n L c=some (.bool b):=by exact rfl):Md P Q n g' Z (.c (.cond c x y)) L w:=wb (O1 hc) hb h
theorem kF {c:Operand} {x y:Code} {b:Bool} {L:List (Nat×Value)} {g':Nat→Value} (hb:b=false) (h:Md P Q n g' Z (.c y) L w) (hc:ov n L c=some (.bool b):=by exact rfl):Md P Q n g' Z (.c (.cond c x y)) L w:=xb (O1 hc) hb h
def JN {σ:Type} (n:Nat) (L:σ→List (Nat×Value)) (S:σ→World→Prop) (M:List (Nat×Value)):Act→World→Prop:=fun a w=>∃ s f,a=fr n f∧S s w∧has f (L s++M)
theorem jC {c:Code} (σ:Type) {g':Nat→Value} {L0 M:List (Nat×Value)} {w0:World} (K:List Nat) (L:σ→List (Nat×Value)) (S:σ→World→Prop) (hK:pks L0 K=some M)
  (h1:∀ s g w,S s w→Md P Q n g Z (.x .normal) (L s++M) w) (h2:Md P Q n g' (.jn (JN n L S M)::Z) (.c c) L0 w0):Md P Q n g' Z (.c c) L0 w0:=
 wp_mono (Q:=RK P Q (.jn (JN n L S M)::Z)) h2 fun e a w q=>by
  cases e with
  | normal=>
   obtain ⟨s,f,rfl,hS,hf⟩:=q
   have:RK P Q Z .normal (fr n (ups (L s++M) f)) w:=h1 s f w hS
   rwa [db hf] at this
  | _=>exact q
theorem jN {c:Code} (σ:Type) {g':Nat→Value} {L0 M:List (Nat×Value)} {w0:World} (K:List Nat) (L:σ→List (Nat×Value)) (S:σ→World→Prop) (hK:pks L0 K=some M)
  (h2:Md P Q n g' (.jn (JN n L S M)::Z) (.c c) L0 w0) (h1:∀ s g w,S s w→Md P Q n g Z (.x .normal) (L s++M) w):Md P Q n g' Z (.c c) L0 w0:=jC σ K L S hK h1 h2
theorem jx {σ:Type} {L:σ→List (Nat×Value)} {S:σ→World→Prop} {M L':List (Nat×Value)} {g':Nat→Value} (s:σ) (h:S s w) (hf:has (ups L' g') (L s++M):=by exact rfl):Md P Q n g' (.jn (JN n L S M)::Z) (.x .normal) L' w:=⟨s,_,rfl,h,hf⟩
theorem jr {σ:Type} {L:σ→List (Nat×Value)} {S:σ→World→Prop} {M L':List (Nat×Value)} {g':Nat→Value} (s:σ) (h:S s w) (hf:has (ups L' g') (L s++M):=by exact rfl):RK P Q (.jn (JN n L S M)::Z) .normal (fr n (ups L' g')) w:=⟨s,_,rfl,h,hf⟩
def LpB {σ ρ η ε:Type} (n:Nat) (L:σ→η→List (Nat×Value)) (S:σ→η→World→Prop) (X:ρ→ε→Exit×List (Nat×Value)×(World→Prop)) (M:List (Nat×Value)) (r:σ⊕ρ):Exit→Act→World→Prop:=fun e a w=>match r with
 | .inl s=>e=.normal∧∃ e' f,a=fr n f∧S s e' w∧has f (L s e'++M)
 | .inr o=>nn e=true∧∃ e' f,a=fr n f∧e=(X o e').1∧(X o e').2.2 w∧has f ((X o e').2.1++M)
theorem lpN {c:Code} {σ ρ:Type} (η ε:Type) {step:σ→Option (σ⊕ρ)} {s0:σ} {out:ρ} {L0 M:List (Nat×Value)} {g':Nat→Value} (h:loop step s0=some out) (K:List Nat) (L:σ→η→List (Nat×Value)) (S:σ→η→World→Prop) (X:ρ→ε→Exit×List (Nat×Value)×(World→Prop)) (hK:pks L0 K=some M)
  (e0:η) (hS:S s0 e0 w) (hF:has (ups L0 g') (L s0 e0))
  (ha:∀ e g w,(X out e).2.2 w→Md P Q n g Z (.x (X out e).1) ((X out e).2.1++M) w)
  (hb:∀ s e g w r,S s e w→step s=some r→Md P Q n g (.lb (LpB n L S X M r)::Z) (.c c) (L s e++M) w):Md P Q n g' Z (.c (.loop c)) L0 w:=by
 refine Oz (fun s a w=>∃ e g,a=fr n (ups (L s e++M) g)∧S s e w) h ⟨e0,ups L0 g',by rw [db (sA hF (qA (iB hK)))],hS⟩ ?_
 rintro s _ w r ⟨e,g,rfl,hI⟩ hs ho Q' hn hx
 refine wp_mono (Q:=RK P Q (.lb (LpB n L S X M r)::Z)) (hb s e g w r hI hs) fun e a w q=>?_
 cases r with
 | inl s'=>
  obtain ⟨rfl,e',f,rfl,eI,hf⟩:=q
  exact hn s' _ w rfl ⟨e',f,by rw [db hf],eI⟩
 | inr o=>
  obtain ⟨he,e',f,rfl,rfl,eI,hf⟩:=q
  refine hx o _ _ w rfl he ?_
  have:=ho o rfl
  subst this
  have:=ha e' f w eI
  show RK P Q Z (X o e').1 (fr n f) w
  have h2:RK P Q Z (X o e').1 (fr n (ups ((X o e').2.1++M) f)) w:=this
  rwa [db hf] at h2
theorem lp {c:Code} {σ ρ:Type} {step:σ→Option (σ⊕ρ)} {s0:σ} {out:ρ} {L0 M:List (Nat×Value)} {g':Nat→Value} (h:loop step s0=some out) (K:List Nat) (L:σ→List (Nat×Value)) (S:σ→World→Prop) (X:ρ→Exit×List (Nat×Value)×(World→Prop)) (hK:pks L0 K=some M)
  (hS:S s0 w) (hF:has (ups L0 g') (L s0))
  (ha:∀ g w,(X out).2.2 w→Md P Q n g Z (.x (X out).1) ((X out).2.1++M) w)
  (hb:∀ s g w r,S s w→step s=some r→Md P Q n g (.lb (LpB (η:=Unit) (ε:=Unit) n (fun s _=>L s) (fun s _=>S s) (fun o _=>X o) M r)::Z) (.c c) (L s++M) w):Md P Q n g' Z (.c (.loop c)) L0 w:=
 lpN Unit Unit h K (fun s _=>L s) (fun s _=>S s) (fun o _=>X o) hK () hS hF (fun _=>ha) fun s _ g w r hI hs=>hb s g w r hI hs
section
variable {σ ρ η ε:Type} {L:σ→η→List (Nat×Value)} {S:σ→η→World→Prop} {X:ρ→ε→Exit×List (Nat×Value)×(World→Prop)} {M L':List (Nat×Value)} {g':Nat→Value}
theorem ln {s:σ} (e:η) (h:S s e w) (hf:has (ups L' g') (L s e++M):=by exact rfl):Md P Q n g' (.lb (LpB n L S X M (.inl s))::Z) (.x .normal) L' w:=⟨rfl,e,_,rfl,h,hf⟩
theorem lx {o:ρ} (e:ε) (h:(X o e).2.2 w) (hf:has (ups L' g') ((X o e).2.1++M):=by exact rfl) (hn:nn (X o e).1=true:=by exact rfl):Md P Q n g' (.lb (LpB n L S X M (.inr o))::Z) (.x (X o e).1) L' w:=⟨hn,e,_,rfl,rfl,h,hf⟩
end
section
variable {σ ρ:Type} {L:σ→List (Nat×Value)} {S:σ→World→Prop} {X:ρ→Exit×List (Nat×Value)×(World→Prop)} {M L':List (Nat×Value)} {g':Nat→Value}
theorem lo {s:σ} (h:S s w) (hf:has (ups L' g') (L s++M):=by exact rfl):Md P Q n g' (.lb (LpB (η:=Unit) (ε:=Unit) n (fun s _=>L s) (fun s _=>S s) (fun o _=>X o) M (.inl s))::Z) (.x .normal) L' w:=⟨rfl,(),_,rfl,h,hf⟩
theorem xo {o:ρ} (h:(X o).2.2 w) (hf:has (ups L' g') ((X o).2.1++M):=by exact rfl) (hn:nn (X o).1=true:=by exact rfl):Md P Q n g' (.lb (LpB (η:=Unit) (ε:=Unit) n (fun s _=>L s) (fun s _=>S s) (fun o _=>X o) M (.inr o))::Z) (.x (X o).1) L' w:=⟨hn,(),_,rfl,rfl,h,hf⟩
end
def ovs (n:Nat) (f:List (Nat×Value)):List Operand→Option (List Value)
 | []=>some []
 | x::l=>match ov n f x,ovs n f l with
  | some v,some vs=>some (v::vs)
  | _,_=>none
theorem tp {L:List (Nat×Value)} {g':Nat→Value}:∀ {l:List Operand} {vs:List Value},ovs n L l=some vs→l.map (fr n (ups L g')).eval=vs
 | [],vs,h=>by cases h; rfl
 | x::l,vs,h=>by
  simp only [ovs] at h
  split at h
  ·rename_i h1 h2
   injection h with h
   subst h
   rw [F7,O1 h1,tp h2]
  ·cases h
class FnC (P:Program) (fid:FuncId):Prop where
 ok:∃ fn,FnT P fid fn
theorem yK {fid:FuncId} [F:FnC P fid] {L:List (Nat×Value)} {g':Nat→Value} {args:List Operand} {ats:Array TypeId} {vs:List Value} {D:Option Tmp} (h:ovs n L args=some vs):(execOp (fr n (ups L g')).eval ⟨D,.call ⟨.value (.func fid),args.toArray,ats⟩,t,p,af,g⟩).run P w=.ok (.enter fid vs.toArray) w:=
by
 obtain ⟨fn,hF⟩:=F.ok
 exact S7 hF (by rw [List.map_toArray,tp h])
theorem cZ {fid:FuncId} [FnC P fid] {L:List (Nat×Value)} {g':Nat→Value} {args:List Operand} {ats:Array TypeId} {vs:List Value} {V:Value} {S:World→Prop} (hc:Calls P fid vs.toArray w fun e w=>e=.returned V∧S w) (k:∀ w,S w→Md P Q n g' Z (.l ops rest) ((d,V)::L) w)
  (hg:wqg ops n L g=some true:=by exact rfl) (h:ovs n L args=some vs:=by exact rfl):Md P Q n g' Z (.l ops (⟨some d,.call ⟨.value (.func fid),args.toArray,ats⟩,t,p,af,g⟩::rest)) L w:=
 Yc (N3.1 hg) rfl (yK h) hc fun _ w hR=>⟨V,hR.1,k w hR.2⟩
theorem cO {fid:FuncId} [FnC P fid] {L:List (Nat×Value)} {g':Nat→Value} {args:List Operand} {ats:Array TypeId} {vs:List Value} {A:Type} {V:A→Value} {S:A→World→Prop} (hc:Calls P fid vs.toArray w fun e w=>∃ x,e=.returned (V x)∧S x w) (k:∀ x w,S x w→Md P Q n g' Z (.l ops rest) ((d,V x)::L) w)
  (hg:wqg ops n L g=some true:=by exact rfl) (h:ovs n L args=some vs:=by exact rfl):Md P Q n g' Z (.l ops (⟨some d,.call ⟨.value (.func fid),args.toArray,ats⟩,t,p,af,g⟩::rest)) L w:=
 Yc (N3.1 hg) rfl (yK h) hc fun _ w ⟨x,h1,h2⟩=>⟨V x,h1,k x w h2⟩
theorem cT_ {fid:FuncId} [FnC P fid] {L:List (Nat×Value)} {g':Nat→Value} {args:List Operand} {ats:Array TypeId} {vs:List Value} {A B:Type} {V:A→B→Value} {S:A→B→World→Prop} (hc:Calls P fid vs.toArray w fun e w=>∃ x y,e=.returned (V x y)∧S x y w) (k:∀ x y w,S x y w→Md P Q n g' Z (.l ops rest) ((d,V x y)::L) w)
  (hg:wqg ops n L g=some true:=by exact rfl) (h:ovs n L args=some vs:=by exact rfl):Md P Q n g' Z (.l ops (⟨some d,.call ⟨.value (.func fid),args.toArray,ats⟩,t,p,af,g⟩::rest)) L w:=
 Yc (N3.1 hg) rfl (yK h) hc fun _ w ⟨x,y,h1,h2⟩=>⟨V x y,h1,k x y w h2⟩
theorem cR_ {fid:FuncId} [FnC P fid] {L:List (Nat×Value)} {g':Nat→Value} {args:List Operand} {ats:Array TypeId} {vs:List Value} {A B C:Type} {V:A→B→C→Value} {S:A→B→C→World→Prop} (hc:Calls P fid vs.toArray w fun e w=>∃ x y z,e=.returned (V x y z)∧S x y z w) (k:∀ x y z w,S x y z w→Md P Q n g' Z (.l ops rest) ((d,V x y z)::L) w)
  (hg:wqg ops n L g=some true:=by exact rfl) (h:ovs n L args=some vs:=by exact rfl):Md P Q n g' Z (.l ops (⟨some d,.call ⟨.value (.func fid),args.toArray,ats⟩,t,p,af,g⟩::rest)) L w:=
 Yc (N3.1 hg) rfl (yK h) hc fun _ w ⟨x,y,z,h1,h2⟩=>⟨V x y z,h1,k x y z w h2⟩
section
variable {os:List Oper} {tb lo D r r' l1 l2 lc:List Nat} {m e:Nat} {v:Value} {K:(Nat→Value)→Prop} {L L':List (Nat×Value)} {g':Nat→Value} {G1:Value→World→Prop}
def qrs (tb:Tb) (os:List Oper) (n:Nat):Nat→List Nat→List (Nat×Value)→Option (List Nat×List (Nat×Value))
 | 0,l,f=>some (l,f)
 | k+1,l,f=>match l with
  | i::l=>match os[i]? with
   | some o=>match wqg os.toArray n f o.guard,o.dst with
    | some true,some d=>match qv tb n f o.op with
     | some v=>qrs tb os n k l ((d,v)::f)
     | none=>none
    | some false,some d=>qrs tb os n k l ((d,undef)::f)
    | _,_=>none
   | none=>none
  | _=>none
theorem qR0 [KT P]:∀ (k:Nat) {r:List Nat} {L:List (Nat×Value)},qrs (KT.tb P) os n k r L=some (r',L')→QR P os n w K r' (ups L' g')→QR P os n w K r (ups L g'):=by
 intro k
 induction k with
 | zero=>intro r L h kk; simp only [qrs] at h; injection h with h; injection h with h1 h2; subst h1; subst h2; exact kk
 | succ k ih=>
  intro r L h kk
  simp only [qrs] at h
  split at h
  ·split at h
   ·rename_i ho
    split at h
    ·rename_i hg hd
     split at h
     ·rename_i hv
      exact Ry ho hd (N3.1 hg) (Ce hv) (ih h kk)
     ·cases h
    ·rename_i hg hd
     exact Rx ho hd (N3.2 hg) (ih h kk)
    ·cases h
   ·cases h
  ·cases h
theorem qR [KT P] (k:Nat) (h:qrs (KT.tb P) os n k r L=some (r',L')) (kk:QR P os n w K r' (ups L' g')):QR P os n w K r (ups L g'):=qR0 k h kk
theorem rQ {i:Nat} (ho:os[i]?=some ⟨some d,ins,t,p,af,g⟩) (hy:Yi P (fr n (ups L g')) w ⟨some d,ins,t,p,af,g⟩ v) (k:QR P os n w K r (ups ((d,v)::L) g')) (hg:wqg os.toArray n L g=some true:=by exact rfl):QR P os n w K (i::r) (ups L g'):=Ry ho rfl (N3.1 hg) hy k
def qss (tb:Tb) (os:List Oper) (n:Nat) (f:List (Nat×Value)) (i:Nat):Option (Option Value×Option Value):=match os[i]? with
 | some o=>match wqg os.toArray n f o.guard,o.dst with
  | some true,some d=>some (qv tb n f o.op,lk f d)
  | some false,some d=>some (some undef,lk f d)
  | _,_=>none
 | none=>none
theorem sY {i:Nat} (ho:os[i]?=some ⟨some d,ins,t,p,af,g⟩) (hy:Yi P (fr n (ups L g')) w ⟨some d,ins,t,p,af,g⟩ v) (k:QS P os n w (ups L g') r) (hv:lk L d=some v:=by exact rfl) (hg:wqg os.toArray n L g=some true:=by exact rfl):QS P os n w (ups L g') (i::r):=Sy ho rfl (N3.1 hg) hy (Y6 hv) k
theorem rK {b c:Bool} (t:Nat) (hf:lk L t=some (.bool b)) (hb:b=c) (k:QR P os n w K r (ups ((t,.bool c)::L) g')):QR P os n w K r (ups L g'):=by
 subst hb; rwa [Mn hf] at k
theorem qS [KT P] {i:Nat} (h:qss (KT.tb P) os n L i=some (some v,some v)) (k:QS P os n w (ups L g') r):QS P os n w (ups L g') (i::r):=by
 unfold qss at h
 split at h
 ·rename_i ho
  split at h
  ·rename_i hg hd
   injection h with h; injection h with h1 h2
   exact Sy ho hd (N3.1 hg) (Ce h1) (Y6 h2) k
  ·rename_i hg hd
   injection h with h; injection h with h1 h2
   injection h1 with h1
   exact Sx_ ho hd (N3.2 hg) ((Y6 h2).trans h1.symm) k
  ·cases h
 ·cases h
def tbo (os:List Oper):List Nat:=os.foldl (fun acc o=>acc++[o.after.foldl (fun m e=>match e.ground with
 | .textOnly _=>m
 | .gcOnly _=>m
 | _=>m ||| (1 <<< e.on) ||| acc.getD e.on 0) 0]) []
theorem dS {id:Nat} {os:List Oper} {n:Nat} {f:Nat→Value} (lo:List Nat) (m:Nat) (hm:P.follows .mixedOrders=true) (h:DR P os (tbo os) lo n Q m [] f {w with drawn:=w.drawn+1 }) (hc:allOK os (tbo os) lo=true:=by kernel_rfl) (Nu:lo.all (fun k=>Nat.blt k os.length)=true:=by kernel_rfl) (Ev:Nat.beq lo.length m=true:=by kernel_rfl):(Code.region id os.toArray true).wp P Q (fr n f) w:=Wu (tbo os) lo m hm hc Nu Ev h
def bgo:Nat→Nat→Nat→List Nat
 | 0,_,_=>[]
 | k+1,i,m=>bif Nat.beq m 0 then [] else bif Nat.beq (m % 2) 1 then i::bgo k (i+1) (m / 2) else bgo k (i+1) (m / 2)
def bt_ (m:Nat):List Nat:=bgo 300 0 m
theorem Dw (m1 m2:Nat) (h:QR P os n w (fun f=>QS P os n w f (bt_ m2)∧Q .normal (fr n f) w) (bt_ m1) f) (h1:newQ os.length tb lo D=bt_ m1:=by kernel_rfl) (h2:oldQ os.length tb lo D=bt_ m2:=by kernel_rfl):DR P os tb lo n Q 0 D f w:=DRz h1 h2 h
theorem Dm (m1 m2:Nat) (lc:List Nat) (h:QR P os n w (fun f=>QS P os n w f (bt_ m2)∧LA P os n f w (fun e o v w'=>DR P os tb lo n Q m (e::D) (updO f o.dst v) w') lc) (bt_ m1) f) (h1:newQ os.length tb lo D=bt_ m1:=by kernel_rfl) (h2:oldQ os.length tb lo D=bt_ m2:=by kernel_rfl) (h3:candL tb lo D=lc:=by kernel_rfl):DR P os tb lo n Q (m+1) D f w:=DRn h1 h2 h3 h
theorem D1 (m1 m2:Nat) (e:Nat) (ho:os[e]?=some ⟨some d,ins,t,p,af,g⟩) (h:QR P os n w (fun f=>QS P os n w f (bt_ m2)∧LS P os n f w ⟨some d,ins,t,p,af,g⟩ (fun v w'=>DR P os tb lo n Q m (e::D) (upd f d v) w')) (bt_ m1) f) (h1:newQ os.length tb lo D=(bt_ m1):=by kernel_rfl) (h2:oldQ os.length tb lo D=(bt_ m2):=by kernel_rfl) (h3:candL tb lo D=[e]:=by kernel_rfl):DR P os tb lo n Q (m+1) D f w:=by
 refine DRn h1 h2 h3 ?_
 have e1:∀ f w,LA P os n f w (fun e o v w'=>DR P os tb lo n Q m (e::D) (updO f o.dst v) w') [e]=(LS P os n f w ⟨some d,ins,t,p,af,g⟩ (fun v w'=>DR P os tb lo n Q m (e::D) (upd f d v) w')∧True):=fun f w=>by
  show ((match os[e]? with | none=>False | some o=>LS P os n f w o _)∧True)=_
  rw [ho]; rfl
 simp only [e1,and_true]
 exact h
theorem D0 (m1 m2:Nat) (e:Nat) (ho:os[e]?=some ⟨none,ins,t,p,af,g⟩) (h:QR P os n w (fun f=>QS P os n w f (bt_ m2)∧LS P os n f w ⟨none,ins,t,p,af,g⟩ (fun v w'=>DR P os tb lo n Q m (e::D) f w')) (bt_ m1) f) (h1:newQ os.length tb lo D=(bt_ m1):=by kernel_rfl) (h2:oldQ os.length tb lo D=(bt_ m2):=by kernel_rfl) (h3:candL tb lo D=[e]:=by kernel_rfl):DR P os tb lo n Q (m+1) D f w:=by
 refine DRn h1 h2 h3 ?_
 have e1:∀ f w,LA P os n f w (fun e o v w'=>DR P os tb lo n Q m (e::D) (updO f o.dst v) w') [e]=(LS P os n f w ⟨none,ins,t,p,af,g⟩ (fun v w'=>DR P os tb lo n Q m (e::D) f w')∧True):=fun f w=>by
  show ((match os[e]? with | none=>False | some o=>LS P os n f w o _)∧True)=_
  rw [ho]; rfl
 simp only [e1,and_true]
 exact h
theorem dU (h:DR P os tb lo n Q m D (ups ((d,v)::L) g') w):DR P os tb lo n Q m D (upd (ups L g') d v) w:=h
theorem La1 {e:Nat} {r:List Nat} (ho:os[e]?=some ⟨some d,ins,t,p,af,g⟩) (h:LS P os n f w ⟨some d,ins,t,p,af,g⟩ (fun v w'=>DR P os tb lo n Q m (e::D) (upd f d v) w')) (k:LA P os n f w (fun e o v w'=>DR P os tb lo n Q m (e::D) (updO f o.dst v) w') r):LA P os n f w (fun e o v w'=>DR P os tb lo n Q m (e::D) (updO f o.dst v) w') (e::r):=Lc ho h k
theorem La0 {e:Nat} {r:List Nat} (ho:os[e]?=some ⟨none,ins,t,p,af,g⟩) (h:LS P os n f w ⟨none,ins,t,p,af,g⟩ (fun v w'=>DR P os tb lo n Q m (e::D) f w')) (k:LA P os n f w (fun e o v w'=>DR P os tb lo n Q m (e::D) (updO f o.dst v) w') r):LA P os n f w (fun e o v w'=>DR P os tb lo n Q m (e::D) (updO f o.dst v) w') (e::r):=Lc ho h k
theorem kZ {fid:FuncId} [FnC P fid] {args:List Operand} {ats:Array TypeId} {vs:List Value} {E:Option Tmp} {V:Value} {S:World→Prop} (hc:Calls P fid vs.toArray w fun e w=>e=.returned V∧S w) (k:∀ w,S w→G1 V w)
  (hg:wqg os.toArray n L g=some true:=by exact rfl) (h:ovs n L args=some vs:=by exact rfl):LS P os n (ups L g') w ⟨E,.call ⟨.value (.func fid),args.toArray,ats⟩,t,p,af,g⟩ G1:=
 Lk (N3.1 hg) (yK h) hc fun _ w hR=>⟨V,hR.1,k w hR.2⟩
theorem kO {fid:FuncId} [FnC P fid] {args:List Operand} {ats:Array TypeId} {vs:List Value} {E:Option Tmp} {A:Type} {V:A→Value} {S:A→World→Prop} (hc:Calls P fid vs.toArray w fun e w=>∃ x,e=.returned (V x)∧S x w) (k:∀ x w,S x w→G1 (V x) w)
  (hg:wqg os.toArray n L g=some true:=by exact rfl) (h:ovs n L args=some vs:=by exact rfl):LS P os n (ups L g') w ⟨E,.call ⟨.value (.func fid),args.toArray,ats⟩,t,p,af,g⟩ G1:=
 Lk (N3.1 hg) (yK h) hc fun _ w ⟨x,h1,h2⟩=>⟨V x,h1,k x w h2⟩
theorem kT_ {fid:FuncId} [FnC P fid] {args:List Operand} {ats:Array TypeId} {vs:List Value} {E:Option Tmp} {A B:Type} {V:A→B→Value} {S:A→B→World→Prop} (hc:Calls P fid vs.toArray w fun e w=>∃ x y,e=.returned (V x y)∧S x y w) (k:∀ x y w,S x y w→G1 (V x y) w)
  (hg:wqg os.toArray n L g=some true:=by exact rfl) (h:ovs n L args=some vs:=by exact rfl):LS P os n (ups L g') w ⟨E,.call ⟨.value (.func fid),args.toArray,ats⟩,t,p,af,g⟩ G1:=
 Lk (N3.1 hg) (yK h) hc fun _ w ⟨x,y,h1,h2⟩=>⟨V x y,h1,k x y w h2⟩
theorem kR_ {fid:FuncId} [FnC P fid] {args:List Operand} {ats:Array TypeId} {vs:List Value} {E:Option Tmp} {A B C:Type} {V:A→B→C→Value} {S:A→B→C→World→Prop} (hc:Calls P fid vs.toArray w fun e w=>∃ x y z,e=.returned (V x y z)∧S x y z w) (k:∀ x y z w,S x y z w→G1 (V x y z) w)
  (hg:wqg os.toArray n L g=some true:=by exact rfl) (h:ovs n L args=some vs:=by exact rfl):LS P os n (ups L g') w ⟨E,.call ⟨.value (.func fid),args.toArray,ats⟩,t,p,af,g⟩ G1:=
 Lk (N3.1 hg) (yK h) hc fun _ w ⟨x,y,z,h1,h2⟩=>⟨V x y z,h1,k x y z w h2⟩
end
theorem sB {w0:World} {mu:List Fact} {rs:List Res} {L:List (Nat×Value)} {g':Nat→Value} {x y:Operand} {b k:Nat} {U T:TypeId} {vals us:List Value} (hy:ov n L y=some (.agg ⟨us⟩)) (nu:St w0 mu (box b U vals::rs) w) (hT:StT P T k) (kk:∀ w',St w0 mu (box b U us::rs) w'→Md P Q n g' Z (.l ops rest) L w') (hx:ov n L x=some (.pointer (some ⟨b,0,none⟩)):=by exact rfl) (hl:us.length=k:=by exact rfl) (hv:vals.length=k:=by exact rfl) (h1:us.all (fun v=>v.oneCell')=true:=by exact rfl) (hg:wqg ops n L g=some true:=by exact rfl):Md P Q n g' Z (.l ops (⟨none,.store T x y,t,p,af,g⟩::rest)) L w:=
 yt (w5 (o:=0) (ru:=us) nu hT (O1 hx) (O1 hy) hl (by simp [hv]) (A5 h1) (by simp [hv])) kk hg
section
variable {fn:Func} {R:Ending→World→Prop} {L:List (Nat×Value)} {g':Nat→Value} {r1 r2 r3:ResultVar} {v1 v2 v3:Value}
theorem za (hQ:∀ e a w,bodyPost P fn R e a w→Q e a w) (hr:fn.results=#[r1]) (h:R (.returned v1) w) (h1:RV P (ups L g') w n r1 v1:=by exact ⟨rfl,rfl⟩):Md P Q n g' [] (.x .ret) L w:=hQ _ _ _ (X1 hr h1 h)
theorem zb (hQ:∀ e a w,bodyPost P fn R e a w→Q e a w) (hr:fn.results=#[r1,r2]) (h:R (.returned (.tuple #[v1,v2])) w) (h1:RV P (ups L g') w n r1 v1:=by exact ⟨rfl,rfl⟩) (h2:RV P (ups L g') w n r2 v2:=by exact ⟨rfl,rfl⟩):Md P Q n g' [] (.x .ret) L w:=hQ _ _ _ (M3 hr h1 h2 h)
theorem zc (hQ:∀ e a w,bodyPost P fn R e a w→Q e a w) (hr:fn.results=#[r1,r2,r3]) (h:R (.returned (.tuple #[v1,v2,v3])) w) (h1:RV P (ups L g') w n r1 v1:=by exact ⟨rfl,rfl⟩) (h2:RV P (ups L g') w n r2 v2:=by exact ⟨rfl,rfl⟩) (h3:RV P (ups L g') w n r3 v3:=by exact ⟨rfl,rfl⟩):Md P Q n g' [] (.x .ret) L w:=hQ _ _ _ (aa hr h1 h2 h3 h)
end
class InF (q:Fact) (L:List Fact):Prop where
 h:q∈L
instance inH {q:Fact} {L:List Fact}:InF q (q::L):=⟨.head _⟩
instance inT {q p:Fact} {L:List Fact} [h:InF q L]:InF q (p::L):=⟨.tail _ h.h⟩
class Sb (l L:List Fact):Prop where
 h:∀ q,q∈l→q∈L
instance (priority:=2000) sbI {l:List Fact}:Sb l l:=⟨fun _ h=>h⟩
instance sbT {p:Fact} {l L:List Fact} [h:Sb l L]:Sb l (p::L):=⟨M0 h.h⟩
instance (priority:=500) sbC {q:Fact} {l L:List Fact} [i:InF q L] [h:Sb l L]:Sb (q::l) L:=⟨U0 i.h h.h⟩
theorem St.fc {w0:World} {mu GD:List Fact} {rs:List Res} (h:St w0 mu rs w) [s:Sb GD mu]:St w0 GD rs w:=h.facts s.h
theorem en {fid:FuncId} {fn:Func} {c:Code} {args:List Value} {R:Ending→World→Prop} (hf:P.funcs[fid]?=some fn) (hb:fn.body=some c) (hn:fn.ntmps=n) (h:∀ Q:Exit→Act→World→Prop,(∀ e a w,bodyPost P fn R e a w→Q e a w)→Md P Q n (initF args) [] (.c c) (zipF 0 args) w) (hl:Nat.ble args.length n=true:=by exact rfl):Calls P fid args.toArray w R:=
 wB hf hb hn hl fun Q hQ=>by have:=h Q hQ; unfold Md at this; simp only at this; rwa [← (fdI (vs:=args)).eq] at this
end
end Sx
