/- What each operation comes to, over any program: the operations that only yield a value. -/
import Derived.Test.YtoahkigijbeegaaGreatDoorSxB
namespace Sx
open Go
def nonAgg:TypeDesc→Bool | .struct _ | .array _ _=>false | _=>true
structure SlT (P:Program) (T e:TypeId) {α:Type} (E:Rp α) (q:α):Prop where
 und:P.underlying T=some (.slice e)
 inf:∃ ti zv,P.info? e=some ti∧ti.size=E.s∧ti.bytes≤128∧ti.zero=some zv∧∀ w X,E.r w X zv.cells.toList q
structure OneT (P:Program) (T:TypeId):Prop where
 und:∃ du,P.underlying T=some du∧nonAgg du=true
 inf:∃ ti,P.info? T=some ti∧ti.size=1
structure StT (P:Program) (T:TypeId) (n:Nat):Prop where
 und:∃ fs,P.underlying T=some (.struct fs)
 inf:∃ ti,P.info? T=some ti∧ti.size=n
structure FldT (P:Program) (T:TypeId) (i off:Nat):Prop where
 fld:∃ fs fd ti,P.underlying T=some (.struct fs)∧fs[i]?=some fd∧fd.offset=off∧P.info? fd.type=some ti∧ti.size≠0
structure FnT (P:Program) (fid:FuncId) (fn:Func):Prop where
 at_:P.funcs[fid]?=some fn
 name:(fn.name == "runtime.NumGoroutine")=false
 body:fn.body.isNone=false
theorem I6 {P:Program} {T e:TypeId} {α:Type} {E:Rp α} {q:α} {zv:Value} {by_:Nat} (hu:P.underlying T=some (.slice e)) (hi:(P.info? e).map (fun i=>(i.zero,i.size,i.bytes))=some (some zv,E.s,by_)) (hb:by_≤128) (hz:∀ w X,E.r w X zv.cells.toList q):SlT P T e E q:=by
 refine ⟨hu,?_⟩
 cases h:P.info? e with
 | none=>simp [h] at hi
 | some ti=>simp [h] at hi; exact ⟨ti,zv,rfl,hi.2.1,n0,hi.1,hz⟩
theorem s6 {P:Program} {T:TypeId} {du:TypeDesc} (hu:P.underlying T=some du) (hd:nonAgg du=true) (hi:(P.info? T).map (fun i=>i.size)=some 1):OneT P T:=by
 refine ⟨⟨du,hu,hd⟩,?_⟩
 cases h:P.info? T with
 | none=>simp [h] at hi
 | some ti=>simp [h] at hi; exact ⟨ti,rfl,hi⟩
section
variable {P:Program} {n':Nat} {f:Nat→Value} {a:Act} {w:World} {d:Option Tmp} {t:TypeId} {p:String} {af:Array Edge} {g:Option (Nat×Bool)}
theorem ym {x:Operand} {v:Value} (hx:a.eval x=v):Yi P a w ⟨d,.move x,t,p,af,g⟩ v:=by simp [Yi,execOp,hx]
theorem ya {x:Operand} {v:Value} (hx:a.eval x=v):Yi P a w ⟨d,.assign x,t,p,af,g⟩ v:=by simp [Yi,execOp,hx]
theorem ypt {c x y:Operand} {v:Value} {b:Bool} (hc:a.eval c=.bool b) (hb:b=true) (hx:a.eval x=v):Yi P a w ⟨d,.pick c x y,t,p,af,g⟩ v:=by subst hb; simp [Yi,execOp,hx,hc,asBool]
theorem ypf {c x y:Operand} {v:Value} {b:Bool} (hc:a.eval c=.bool b) (hb:b=false) (hx:a.eval y=v):Yi P a w ⟨d,.pick c x y,t,p,af,g⟩ v:=by subst hb; simp [Yi,execOp,hx,hc,asBool]
theorem yx {x:Operand} {i:Nat} {vs:Array Value} {v:Value} (hx:a.eval x=.tuple vs) (hv:vs[i]?=some v):Yi P a w ⟨d,.extract x i,t,p,af,g⟩ v:=by simp [Yi,execOp,hx,Instr.extract,hv]
theorem yn {x:Operand} {b:Addr} (hx:a.eval x=.pointer (some b)):Yi P a w ⟨d,.nilCheck x,t,p,af,g⟩ (.pointer (some b)):=by simp [Yi,execOp,hx]
abbrev LI:=List Int
abbrev L2:=List (List Int)
abbrev BL:=List Bool
def wa (k:IntKind) (x y:Int):Int:=k.wrap (x+y)
def ws (k:IntKind) (x y:Int):Int:=k.wrap (x - y)
def wm (k:IntKind) (x y:Int):Int:=k.wrap (x*y)
def wneg (k:IntKind) (x:Int):Int:=k.wrap (-x)
def wq (k:IntKind) (x y:Int):Option Int:=if y=0 then none else some (k.wrap (x.tdiv y))
def wr (x y:Int):Option Int:=if y=0 then none else some (x.tmod y)
def wand (k:IntKind) (m n:Int):Int:=k.wrap (BitVec.ofInt k.bits m &&& BitVec.ofInt k.bits n).toNat
def wor (k:IntKind) (m n:Int):Int:=k.wrap (BitVec.ofInt k.bits m ||| BitVec.ofInt k.bits n).toNat
def wxor (k:IntKind) (m n:Int):Int:=k.wrap (BitVec.ofInt k.bits m ^^^ BitVec.ofInt k.bits n).toNat
def wshl (k:IntKind) (m n:Int):Option Int:=if n < 0 then none else some (k.wrap (m*2 ^ min n.toNat k.bits))
def wshr (k:IntKind) (m n:Int):Option Int:=if n < 0 then none else some (m.fdiv (2 ^ min n.toNat k.bits))
variable {x y:Operand} {T U:TypeId} {k:IntKind} {m n c:Int}
theorem yadd (hx:a.eval x=.int k m) (hy:a.eval y=.int k n):Yi P a w ⟨d,.binOp .add T x y U,t,p,af,g⟩ (.int k (wa k m n)):=by simp [Yi,execOp,hx,hy,eqGuard,binOp,Op.intArith,wa]
theorem ysub (hx:a.eval x=.int k m) (hy:a.eval y=.int k n):Yi P a w ⟨d,.binOp .sub T x y U,t,p,af,g⟩ (.int k (ws k m n)):=by simp [Yi,execOp,hx,hy,eqGuard,binOp,Op.intArith,ws]
theorem ymul (hx:a.eval x=.int k m) (hy:a.eval y=.int k n):Yi P a w ⟨d,.binOp .mul T x y U,t,p,af,g⟩ (.int k (wm k m n)):=by simp [Yi,execOp,hx,hy,eqGuard,binOp,Op.intArith,wm]
theorem yneg (hx:a.eval x=.int k m):Yi P a w ⟨d,.unOp .neg T x,t,p,af,g⟩ (.int k (wneg k m)):=by simp [Yi,execOp,hx,Op.unary,Op.intArith,wneg]
theorem cg (hx:a.eval x=.int k m) (hy:a.eval y=.int k n) (h:wq k m n=some c):Yi P a w ⟨d,.binOp .quo T x y U,t,p,af,g⟩ (.int k c):=by
 unfold wq at h
 split at h
 ·cases h
 ·rename_i h0; simp at h; subst h
  simp [Yi,execOp,hx,hy,eqGuard,binOp,Op.intDiv,h0]
theorem Ad (hx:a.eval x=.int k m) (hy:a.eval y=.int k n) (h:wr m n=some c):Yi P a w ⟨d,.binOp .rem T x y U,t,p,af,g⟩ (.int k c):=by
 unfold wr at h
 split at h
 ·cases h
 ·rename_i h0; simp at h; subst h
  simp [Yi,execOp,hx,hy,eqGuard,binOp,Op.intDiv,h0]
theorem ylss (hx:a.eval x=.int k m) (hy:a.eval y=.int k n):Yi P a w ⟨d,.binOp .lss T x y U,t,p,af,g⟩ (.bool (decide (m < n))):=by simp [Yi,execOp,hx,hy,eqGuard,binOp,Op.intCmp]
theorem yleq (hx:a.eval x=.int k m) (hy:a.eval y=.int k n):Yi P a w ⟨d,.binOp .leq T x y U,t,p,af,g⟩ (.bool (decide (m≤n))):=by simp [Yi,execOp,hx,hy,eqGuard,binOp,Op.intCmp]
theorem ygtr (hx:a.eval x=.int k m) (hy:a.eval y=.int k n):Yi P a w ⟨d,.binOp .gtr T x y U,t,p,af,g⟩ (.bool (decide (n < m))):=by simp [Yi,execOp,hx,hy,eqGuard,binOp,Op.intCmp]
theorem ygeq (hx:a.eval x=.int k m) (hy:a.eval y=.int k n):Yi P a w ⟨d,.binOp .geq T x y U,t,p,af,g⟩ (.bool (decide (n≤m))):=by simp [Yi,execOp,hx,hy,eqGuard,binOp,Op.intCmp]
theorem As (m n:Int):(m == n)=decide (m=n):=by rw [Bool.eq_iff_iff]; simp
theorem vC (m n:Int):(m != n)=!decide (m=n):=by rw [bne,As]
theorem yeql (hx:a.eval x=.int k m) (hy:a.eval y=.int k n):Yi P a w ⟨d,.binOp .eql T x y U,t,p,af,g⟩ (.bool (decide (m=n))):=by simp [Yi,execOp,hx,hy,eqGuard,binOp,Op.intCmp,As]
theorem yneq (hx:a.eval x=.int k m) (hy:a.eval y=.int k n):Yi P a w ⟨d,.binOp .neq T x y U,t,p,af,g⟩ (.bool (!decide (m=n))):=by simp [Yi,execOp,hx,hy,eqGuard,binOp,Op.intCmp,vC]
theorem lr {b b':Bool} (hT:P.underlying T=some .bool) (q:Nat):(Op.equalIn (q+1) T (.bool b) (.bool b')).run P w=.ok (b == b') w:=by
 simp only [Op.equalIn,Sem.run_bind,run_underlying hT,Result.andThen_ok]; rfl
theorem zC {b b':Bool} (hT:P.underlying T=some .bool):(binOp .eql T (.bool b) (.bool b')).run P w=.ok (.bool (b == b')) w:=by
 show (do pure (.bool (← Op.equal T (.bool b) (.bool b'))):Sem Value).run P w=_
 rw [Sem.run_bind,show Op.equal T (.bool b) (.bool b')=Op.equalIn (9999+1) T (.bool b) (.bool b') from rfl,lr hT]; rfl
theorem xC {b b':Bool} (hT:P.underlying T=some .bool):(binOp .neq T (.bool b) (.bool b')).run P w=.ok (.bool (!(b == b'))) w:=by
 show (do pure (.bool (!(← Op.equal T (.bool b) (.bool b')))):Sem Value).run P w=_
 rw [Sem.run_bind,show Op.equal T (.bool b) (.bool b')=Op.equalIn (9999+1) T (.bool b) (.bool b') from rfl,lr hT]; rfl
theorem Dd {b b':Bool} (hT:P.underlying T=some .bool) (hx:a.eval x=.bool b) (hy:a.eval y=.bool b'):Yi P a w ⟨d,.binOp .eql T x y U,t,p,af,g⟩ (.bool (b == b')):=by
 simp only [Yi,execOp,hx,hy,eqGuard,Sem.run_bind,zC hT]; rfl
theorem Cd {b b':Bool} (hT:P.underlying T=some .bool) (hx:a.eval x=.bool b) (hy:a.eval y=.bool b'):Yi P a w ⟨d,.binOp .neq T x y U,t,p,af,g⟩ (.bool (!(b == b'))):=by
 simp only [Yi,execOp,hx,hy,eqGuard,Sem.run_bind,xC hT]; rfl
theorem ynot {b:Bool} (hx:a.eval x=.bool b):Yi P a w ⟨d,.unOp .not T x,t,p,af,g⟩ (.bool (!b)):=by simp [Yi,execOp,hx,Op.unary]
theorem ycv {k':IntKind} (hs:(P.underlying T).isSome=true) (hd:P.underlying U=some (.int k')) (hx:a.eval x=.int k m):Yi P a w ⟨d,.convert T U x,t,p,af,g⟩ (.int k' (k'.wrap m)):=by
 obtain ⟨s,hs⟩:=Option.isSome_iff_exists.1 hs
 simp [Yi,execOp,hx,convert,run_underlying hs,run_underlying hd,Conv.intToInt]
theorem yand (hx:a.eval x=.int k m) (hy:a.eval y=.int k n):Yi P a w ⟨d,.binOp .and T x y U,t,p,af,g⟩ (.int k (wand k m n)):=by simp [Yi,execOp,hx,hy,eqGuard,binOp,Op.intBits,wand]
theorem yor (hx:a.eval x=.int k m) (hy:a.eval y=.int k n):Yi P a w ⟨d,.binOp .or T x y U,t,p,af,g⟩ (.int k (wor k m n)):=by simp [Yi,execOp,hx,hy,eqGuard,binOp,Op.intBits,wor]
theorem yxor (hx:a.eval x=.int k m) (hy:a.eval y=.int k n):Yi P a w ⟨d,.binOp .xor T x y U,t,p,af,g⟩ (.int k (wxor k m n)):=by simp [Yi,execOp,hx,hy,eqGuard,binOp,Op.intBits,wxor]
theorem Zf {k':IntKind} (hx:a.eval x=.int k m) (hy:a.eval y=.int k' n) (h:wshl k m n=some c):Yi P a w ⟨d,.binOp .shl T x y U,t,p,af,g⟩ (.int k c):=by
 unfold wshl at h
 split at h
 ·cases h
 ·rename_i h0
  simp at h
  subst h
  simp [Yi,execOp,hx,hy,eqGuard,binOp,Op.shift,h0]
theorem Jj {k':IntKind} (hx:a.eval x=.int k m) (hy:a.eval y=.int k' n) (h:wshr k m n=some c):Yi P a w ⟨d,.binOp .shr T x y U,t,p,af,g⟩ (.int k c):=by
 unfold wshr at h
 split at h
 ·cases h
 ·rename_i h0
  simp at h
  subst h
  simp [Yi,execOp,hx,hy,eqGuard,binOp,Op.shift,h0]
def imin (m n:Int):Int:=if n < m then n else m
def imax (m n:Int):Int:=if m < n then n else m
theorem ymin (hx:a.eval x=.int k m) (hy:a.eval y=.int k n) {at':Array TypeId}:Yi P a w ⟨d,.call ⟨.builtin .min,#[x,y],at'⟩,t,p,af,g⟩ (.int k (imin m n)):=by
 simp [Yi,execOp,resolve,invoke,builtin,hx,hy,Builtin.min_,Builtin.min2,imin]
theorem ymax (hx:a.eval x=.int k m) (hy:a.eval y=.int k n) {at':Array TypeId}:Yi P a w ⟨d,.call ⟨.builtin .max,#[x,y],at'⟩,t,p,af,g⟩ (.int k (imax m n)):=by
 simp [Yi,execOp,resolve,invoke,builtin,hx,hy,Builtin.max_,Builtin.max2,imax]
theorem ymf {fn:Fn} {fi ca:Array Operand} {vf vc:Array Value} (h1:fi.map a.eval=vf) (h2:ca.map a.eval=vc):Yi P a w ⟨d,.makeFunc fn fi ca,t,p,af,g⟩ (.func fn vf vc):=by
 simp [Yi,execOp,h1,h2,Instr.makeFunc]
section slices
variable {α:Type} {X:Nat→Prop} {w0:World} {mu:List Fact} {rs:List Res} {E:Rp α} {v u:Value} {l:List α} {e:TypeId} {q z:α} {i:Int}
def getI {β:Type} (l:List β) (i:Int):Option β:=match i with | .ofNat k=>l[k]? | .negSucc _=>none
theorem m9 {β:Type} {l:List β} {i:Int} {z:β} (h:getI l i=some z):0≤i∧i < l.length∧l[i.toNat]?=some z:=by
 unfold getI at h
 split at h
 ·rename_i k
  have:=(C2.1 h).1
  exact ⟨G0,by simpa using this,by simpa using h⟩
 ·cases h
def setI {β:Type} (l:List β) (i:Int) (z:β):Option (List β):=match i with | .ofNat k=>if k < l.length then some (l.set k z) else none | .negSucc _=>none
theorem y7 {β:Type} {l:List β} {i:Int} {z:β} {l':List β} (h:setI l i z=some l'):0≤i∧i < l.length∧l'=l.set i.toNat z:=by
 unfold setI at h
 split at h
 ·rename_i k
  split at h
  ·rename_i hk; simp at h; subst h; exact ⟨G0,by simpa using hk,G0⟩
  ·cases h
 ·cases h
theorem T1 (hS:SlT P T e E q) (hx:a.eval x=v) (nu:St w0 mu rs w) (hr:Rd mu rs E v l):Yi P a w ⟨d,.call ⟨.builtin .len,#[x],#[T]⟩,t,p,af,g⟩ (.int .i64 l.length):=by
 obtain ⟨X,_,b,cap,rfl,_⟩:=hr.sees nu
 simp [Yi,execOp,resolve,invoke,builtin,hx,Builtin.len_,run_underlying hS.und,goInt]
def eAddr (v:Value) (s:Nat) (i:Int):Value:=.pointer (some ((sAddr v).add (i.toNat*s)))
def fAddr (v:Value) (s:Nat) (i:Int) (o:Nat):Value:=.pointer (some ((sAddr v).add (i.toNat*s+o)))
theorem fg {ik:IntKind} {i:Int} (hS:SlT P T e E q) (hx:a.eval x=v) (hy:a.eval y=.int ik i) (hs:Sees w X E v l) (h0:0≤i) (h1:i < l.length):Yi P a w ⟨d,.indexAddr T x y,t,p,af,g⟩ (eAddr v E.s i):=by
 obtain ⟨ti,zv,hi,Mu,_⟩:=hS.inf
 obtain ⟨b,cap,rfl,hc,hm,pv⟩:=hs
 have hlt:i.toNat < l.length:=n0
 obtain ⟨ha,_⟩:=pv i.toNat l[i.toNat] (by simp [hlt])
 have e1:(Instr.indexAt T (.slice b l.length cap) (.int ik i)).run P w=.ok (eAddr (.slice b l.length cap) E.s i) w:=by
  rw [ha]
  simp [Instr.indexAt,asIntOf,run_underlying hS.und,h0,h1,Go.sizeOf,typeInfo,hi,Mu,eAddr,sAddr]
 simp [Yi,execOp,hx,hy,e1]
theorem yIa {ik:IntKind} (hS:SlT P T e E q) (hx:a.eval x=v) (hy:a.eval y=.int ik i) (nu:St w0 mu rs w) (hr:Rd mu rs E v l) (hz:getI l i=some z):Yi P a w ⟨d,.indexAddr T x y,t,p,af,g⟩ (eAddr v E.s i):=by
 obtain ⟨X,_,hs⟩:=hr.sees nu
 obtain ⟨h0,h1,_⟩:=m9 hz
 exact fg hS hx hy hs h0 h1
theorem yIs {ik:IntKind} {l':List α} (hS:SlT P T e E q) (hx:a.eval x=v) (hy:a.eval y=.int ik i) (nu:St w0 mu rs w) (hr:Rd mu rs E v l) (hz:setI l i z=some l'):Yi P a w ⟨d,.indexAddr T x y,t,p,af,g⟩ (eAddr v E.s i):=by
 obtain ⟨X,_,hs⟩:=hr.sees nu
 obtain ⟨h0,h1,_⟩:=y7 hz
 exact fg hS hx hy hs h0 h1
theorem iA (hO:OneT P T):(isAgg T).run P w=.ok false w:=by
 obtain ⟨du,hT,hd⟩:=hO.und
 revert hd
 simp only [isAgg,Sem.run_bind,run_underlying hT,Result.andThen_ok,nonAgg]
 cases du<;>simp
theorem dg {ad:Addr} (hO:OneT P T) (hx:a.eval x=.pointer (some ad)) (hc:w.cell? ad=some u):Yi P a w ⟨d,.load T x,t,p,af,g⟩ u:=by
 have e1:(Instr.loadAt T (.pointer (some ad))).run P w=.ok u w:=by
  simp only [Instr.loadAt,Instr.sureAddr,Sem.run_bind,Sem.run_pure,Result.andThen_ok,loadVar,iA hO,D2,if_false]
  simp [load,Sem.run,hc]
 simp [Yi,execOp,hx,e1]
theorem Kj {ad:Addr} {cs:List Value} (hT:StT P T cs.length) (hx:a.eval x=.pointer (some ad)) (hc:∀ j u,cs[j]?=some u→w.cell? (ad.add j)=some u):Yi P a w ⟨d,.load T x,t,p,af,g⟩ (.agg cs.toArray):=by
 obtain ⟨fs,h1⟩:=hT.und
 obtain ⟨ti,h2,h3⟩:=hT.inf
 have TI:(loadCells ad ti.size).run P w=.ok cs.toArray w:=by
  rw [h3]
  exact run_loadCells_list w _ _ hc
 have e1:(Instr.loadAt T (.pointer (some ad))).run P w=.ok (.agg cs.toArray) w:=by
  have e2:(isAgg T).run P w=.ok true w:=by simp [isAgg,run_underlying h1]
  simp [Instr.loadAt,Instr.sureAddr,loadVar,e2,Go.sizeOf,typeInfo,h2,TI]
 simp [Yi,execOp,hx,e1]
def CAt (w:World) (v:Value) (s:Nat) (i:Int) (cs:List Value):Prop:=∀ j u,cs[j]?=some u→w.cell? ((sAddr v).add (i.toNat*s+j))=some u
theorem O9 (hs:Sees w X E v l) (hz:getI l i=some z):∃ cs,E.r w X cs z∧CAt w v E.s i cs:=by
 obtain ⟨b,cap,rfl,hc,hm,pv⟩:=hs
 obtain ⟨h0,h1,h2⟩:=m9 hz
 obtain ⟨_,cs,hr,hj⟩:=pv _ _ h2
 exact ⟨cs,hr,hj⟩
theorem St.ld (nu:St w0 mu rs w) (hr:Rd mu rs E v l) (hz:getI l i=some z):∃ cs,cs.length=E.s∧CAt w v E.s i cs∧St w0 (elt E cs z::mu) rs w:=by
 obtain ⟨X,hX,hs⟩:=hr.sees nu
 obtain ⟨cs,h1,h2⟩:=O9 hs hz
 refine ⟨cs,E.len h1,h2,X,hX.ext,hX.old,hX.xlt,fun q hq=>?_,hX.own⟩
 rcases G3.1 hq with rfl | hq
 ·exact h1
 ·exact hX.ro q hq
theorem St.ldS {l:List (List α)} {z:List α} (nu:St w0 mu rs w) (hr:Rd mu rs (rS E) v l) (hz:getI l i=some z):∃ u,CAt w v 1 i [u]∧St w0 (imm E u z::mu) rs w:=by
 obtain ⟨X,hX,hs⟩:=hr.sees nu
 obtain ⟨cs,⟨u,rfl,hu⟩,h2⟩:=O9 hs hz
 refine ⟨u,h2,X,hX.ext,hX.old,hX.xlt,fun q hq=>?_,hX.own⟩
 rcases G3.1 hq with rfl | hq
 ·exact hu
 ·exact hX.ro q hq
theorem yCe {s:Nat} {cs:List Value} (hO:OneT P T) (hx:a.eval x=eAddr v s i) (hc:CAt w v s i cs) (hu:cs[0]?=some u):Yi P a w ⟨d,.load T x,t,p,af,g⟩ u:=
 dg hO hx (by have:=hc 0 u hu; rwa [l7] at this)
theorem yCf {s o:Nat} {cs:List Value} (hO:OneT P T) (hx:a.eval x=fAddr v s i o) (hc:CAt w v s i cs) (hu:cs[o]?=some u):Yi P a w ⟨d,.load T x,t,p,af,g⟩ u:=dg hO hx (hc o u hu)
theorem yCn {s:Nat} {cs:List Value} (hT:StT P T s) (hl:cs.length=s) (hx:a.eval x=eAddr v s i) (hc:CAt w v s i cs):Yi P a w ⟨d,.load T x,t,p,af,g⟩ (.agg cs.toArray):=by
 subst hl
 exact Kj hT hx fun j u hu=>by rw [Ec]; exact hc j u hu
theorem yI {k:IntKind} {l:List Int} {z:Int} (hO:OneT P T) (hx:a.eval x=eAddr v 1 i) (nu:St w0 mu rs w) (hr:Rd mu rs (rI k) v l) (hz:getI l i=some z):Yi P a w ⟨d,.load T x,t,p,af,g⟩ (.int k z):=by
 obtain ⟨X,_,hs⟩:=hr.sees nu
 obtain ⟨cs,rfl,h2⟩:=O9 hs hz
 exact yCe hO hx h2 rfl
theorem yB {l:List Bool} {z:Bool} (hO:OneT P T) (hx:a.eval x=eAddr v 1 i) (nu:St w0 mu rs w) (hr:Rd mu rs rB v l) (hz:getI l i=some z):Yi P a w ⟨d,.load T x,t,p,af,g⟩ (.bool z):=by
 obtain ⟨X,_,hs⟩:=hr.sees nu
 obtain ⟨cs,rfl,h2⟩:=O9 hs hz
 exact yCe hO hx h2 rfl
theorem yFn {s:Nat} {e':α→List Value} {hp:0 < s} {hl:∀ x,(e' x).length=s} {ho:∀ x v,v∈e' x→v.oneCell'=true} {us:List Value} (hT:StT P T s) (hx:a.eval x=eAddr v s i) (nu:St w0 mu rs w) (hr:Rd mu rs (rF s e' hp hl ho) v l) (hz:getI l i=some z) (hu:e' z=us):Yi P a w ⟨d,.load T x,t,p,af,g⟩ (.agg us.toArray):=by
 obtain ⟨X,_,hs⟩:=hr.sees nu
 obtain ⟨cs,rfl,h2⟩:=O9 hs hz
 subst hu
 exact yCn hT (hl z) hx h2
theorem yFf {s o:Nat} {e':α→List Value} {hp:0 < s} {hl:∀ x,(e' x).length=s} {ho:∀ x v,v∈e' x→v.oneCell'=true} (hO:OneT P T) (hx:a.eval x=fAddr v s i o) (nu:St w0 mu rs w) (hr:Rd mu rs (rF s e' hp hl ho) v l) (hz:getI l i=some z) (hu:(e' z)[o]?=some u):Yi P a w ⟨d,.load T x,t,p,af,g⟩ u:=by
 obtain ⟨X,_,hs⟩:=hr.sees nu
 obtain ⟨cs,rfl,h2⟩:=O9 hs hz
 exact yCf hO hx h2 hu
theorem yFe {s i off:Nat} {j:Int} (hF:FldT P T i off) (hx:a.eval x=eAddr v s j):Yi P a w ⟨d,.fieldAddr T x i,t,p,af,g⟩ (fAddr v s j off):=by
 obtain ⟨fs,fd,ti,h1,h2,h3,h4,h5⟩:=hF.fld
 subst h3
 simp [Yi,execOp,hx,eAddr,fAddr,Instr.fieldAt,run_underlying h1,h2,Instr.sureAddr,fieldPlace,Go.sizeOf,typeInfo,h4,h5,Ec]
end slices
variable {w0:World} {mu:List Fact} {rs:List Res} {u:Value}
theorem yFb {b o i off:Nat} (hF:FldT P T i off) (hx:a.eval x=.pointer (some ⟨b,o,none⟩)):Yi P a w ⟨d,.fieldAddr T x i,t,p,af,g⟩ (.pointer (some ⟨b,o+off,none⟩)):=by
 obtain ⟨fs,fd,ti,h1,h2,h3,h4,h5⟩:=hF.fld
 subst h3
 simp [Yi,execOp,hx,Instr.fieldAt,run_underlying h1,h2,Instr.sureAddr,fieldPlace,Go.sizeOf,typeInfo,h4,h5,M7]
theorem yLb {b o:Nat} {vals:List Value} {bt:TypeId} (hO:OneT P T) (hx:a.eval x=.pointer (some ⟨b,o,none⟩)) (nu:St w0 mu rs w) (hm:box b bt vals∈rs) (hu:vals[o]?=some u):Yi P a w ⟨d,.load T x,t,p,af,g⟩ u:=by
 refine dg hO hx ?_
 rw [cell_of_row w b o _ bt (0,0) (nu.box_h hm)]
 simpa using hu
theorem Xj {b o n:Nat} {vals us:List Value} {bt:TypeId} (hT:StT P T n) (hx:a.eval x=.pointer (some ⟨b,o,none⟩)) (nu:St w0 mu rs w) (hm:box b bt vals∈rs) (hu:(vals.drop o).take n=us) (hl:us.length=n):Yi P a w ⟨d,.load T x,t,p,af,g⟩ (.agg us.toArray):=by
 subst hl
 refine Kj hT hx fun j v hj=>?_
 rw [M7,cell_of_row w b _ _ bt (0,0) (nu.box_h hm)]
 rw [← hu,K5] at hj
 split at hj
 ·simpa using hj
 ·cases hj
end
end Sx
