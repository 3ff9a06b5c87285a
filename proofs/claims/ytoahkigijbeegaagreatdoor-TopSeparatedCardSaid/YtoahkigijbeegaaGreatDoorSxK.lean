/- More small facts that the printed walks name. It holds over any program. -/
import Derived.Test.YtoahkigijbeegaaGreatDoorSxG
import Derived.Lib.AppendZeros
import Derived.Lib.SlicesCompact
import Derived.Lib.TrailingZeros
import Derived.Lib.SliceRun
namespace Sx
open Go
section
variable {P:Program} {a:Act} {w:World} {d:Option Tmp} {t:TypeId} {p:String} {af:Array Edge} {g:Option (Nat×Bool)} {x y:Operand} {T U:TypeId} {k:IntKind} {m n:Int}
def wqc (k:IntKind) (x y:Int):Int:=k.wrap (x.tdiv y)
def wrc (x y:Int):Int:=x.tmod y
def wslc (k:IntKind) (x:Int) (n:Nat):Int:=k.wrap (x*2 ^ min n k.bits)
def wsrc (k:IntKind) (x:Int) (n:Nat):Int:=x.fdiv (2 ^ min n k.bits)
theorem gu (hx:a.eval x=.int k m) (hy:a.eval y=.int k n) (h:n≠0):Yi P a w ⟨d,.binOp .quo T x y U,t,p,af,g⟩ (.int k (wqc k m n)):=cg hx hy (by unfold wq wqc; rw [J0 h])
theorem eu (hx:a.eval x=.int k m) (hy:a.eval y=.int k n) (h:n≠0):Yi P a w ⟨d,.binOp .rem T x y U,t,p,af,g⟩ (.int k (wrc m n)):=Ad hx hy (by unfold wr wrc; rw [J0 h])
theorem cu {k':IntKind} {n:Nat} (hx:a.eval x=.int k m) (hy:a.eval y=.int k' (Int.ofNat n)):Yi P a w ⟨d,.binOp .shl T x y U,t,p,af,g⟩ (.int k (wslc k m n)):=Zf hx hy (by unfold wshl wslc; rw [J0 G0]; rfl)
theorem bu {k':IntKind} {n:Nat} (hx:a.eval x=.int k m) (hy:a.eval y=.int k' (Int.ofNat n)):Yi P a w ⟨d,.binOp .shr T x y U,t,p,af,g⟩ (.int k (wsrc k m n)):=Jj hx hy (by unfold wshr wsrc; rw [J0 G0]; rfl)
theorem bp1 {i1:Nat} {x1:Operand} {v1:Value} (h1:a.eval x1=v1):(#[(i1,x1)].map fun (i,x)=>(i,a.eval x))=[(i1,v1)].toArray:=by simp [h1]
theorem bp2 {i1 i2:Nat} {x1 x2:Operand} {v1 v2:Value} (h1:a.eval x1=v1) (h2:a.eval x2=v2):(#[(i1,x1),(i2,x2)].map fun (i,x)=>(i,a.eval x))=[(i1,v1),(i2,v2)].toArray:=by simp [h1,h2]
theorem bp3 {i1 i2 i3:Nat} {x1 x2 x3:Operand} {v1 v2 v3:Value} (h1:a.eval x1=v1) (h2:a.eval x2=v2) (h3:a.eval x3=v3):(#[(i1,x1),(i2,x2),(i3,x3)].map fun (i,x)=>(i,a.eval x))=[(i1,v1),(i2,v2),(i3,v3)].toArray:=by simp [h1,h2,h3]
theorem bp4 {i1 i2 i3 i4:Nat} {x1 x2 x3 x4:Operand} {v1 v2 v3 v4:Value} (h1:a.eval x1=v1) (h2:a.eval x2=v2) (h3:a.eval x3=v3) (h4:a.eval x4=v4):(#[(i1,x1),(i2,x2),(i3,x3),(i4,x4)].map fun (i,x)=>(i,a.eval x))=[(i1,v1),(i2,v2),(i3,v3),(i4,v4)].toArray:=by simp [h1,h2,h3,h4]
theorem bp5 {i1 i2 i3 i4 i5:Nat} {x1 x2 x3 x4 x5:Operand} {v1 v2 v3 v4 v5:Value} (h1:a.eval x1=v1) (h2:a.eval x2=v2) (h3:a.eval x3=v3) (h4:a.eval x4=v4) (h5:a.eval x5=v5):(#[(i1,x1),(i2,x2),(i3,x3),(i4,x4),(i5,x5)].map fun (i,x)=>(i,a.eval x))=[(i1,v1),(i2,v2),(i3,v3),(i4,v4),(i5,v5)].toArray:=by simp [h1,h2,h3,h4,h5]
end
theorem eqv {b c:Bool} {v:Value} (h:b=c) (hv:v=.bool b):v=.bool c:=by rw [hv,h]
theorem A5 {us:List Value} (h:us.all (fun v=>v.oneCell')=true):∀ v,v∈us→v.oneCell'=true:=fun v hv=>by
 rw [Q6] at h; exact h v hv
section
variable {P:Program} {w0 w:World} {mu:List Fact} {rs:List Res} {f:Nat→Value} {n:Nat}
theorem V2 {b:Nat} {T U:TypeId} {vals:List Value} {pt:Tmp} (ht:Nat.blt pt n=true) (hp:f pt=.pointer (some ⟨b,0,none⟩)) (nu:St w0 mu rs w) (hm:box b U vals∈rs)
  {k:Nat} (hT:StT P T k) (hk:vals.length=k):RV P f w n (.cell pt T) (.agg vals.toArray):=by
 subst hk
 obtain ⟨fs,h1⟩:=hT.und
 obtain ⟨ti,h2,h3⟩:=hT.inf
 exact rcs ht hp nu hm h1 (by simp [h2,h3])
theorem St.swf {q1 q2:Fact} (nu:St w0 (q1::q2::mu) rs w):St w0 (q2::q1::mu) rs w:=
 nu.facts (U0 (mtF mhF) (U0 mhF (M0 (M0 M1))))
end
section
variable {α:Type} {w0 w:World} {mu:List Fact} {rs:List Res} {T To:TypeId} {E:Rp α} {hs CF:List Hdr} {ls ls':List (List α)} {l l0:List α} {h h0:Hdr} {i:Int}
theorem St.famLx {k:Nat} (nu:St w0 mu rs w) (hm:famx T E k hs ls∈rs):hs.length=ls.length:=by
 obtain ⟨X,nu⟩:=nu; obtain ⟨F,hF⟩:=nu.own.get hm; exact hF.1
theorem St.unfS (h1:getI hs i=some h0) (g1:setI hs i h=some CF) (g2:setI ls i l=some ls') (nu:St w0 mu (row T E h.v l::famx T E i.toNat hs ls::rs) w):St w0 mu (fam T E CF ls'::rs) w:=by
 obtain ⟨_,_,rfl⟩:=y7 g1
 obtain ⟨h3,h4,rfl⟩:=y7 g2
 have h5:getI ls i=some (ls[i.toNat]'(n0)):=by
  cases i with
  | ofNat k=>simp only [getI]; simp
  | negSucc k=>simp at h3
 exact nu.unfoc h1 h5
end
section
variable {P:Program} {w:World} {fn:Func} {R:Ending→World→Prop} {n:Nat} {f:Nat→Value}
theorem Jq (hr:fn.results=#[]) (h:R (.returned (.tuple #[])) w):bodyPost P fn R .ret (fr n f) w:=(Kq hr h).1
theorem p9 (hr:fn.results=#[]) (h:R (.returned (.tuple #[])) w):bodyPost P fn R .normal (fr n f) w:=(Kq hr h).2
theorem X1 {r1:ResultVar} {v1:Value} (hr:fn.results=#[r1]) (h1:RV P f w n r1 v1) (h:R (.returned v1) w):bodyPost P fn R .ret (fr n f) w:=(fin1 hr h1 h).1
theorem M3 {r1:ResultVar} {v1:Value} {r2:ResultVar} {v2:Value} (hr:fn.results=#[r1,r2]) (h1:RV P f w n r1 v1) (h2:RV P f w n r2 v2) (h:R (.returned (.tuple #[v1,v2])) w):bodyPost P fn R .ret (fr n f) w:=(fin2 hr h1 h2 h).1
theorem aa {r1:ResultVar} {v1:Value} {r2:ResultVar} {v2:Value} {r3:ResultVar} {v3:Value} (hr:fn.results=#[r1,r2,r3]) (h1:RV P f w n r1 v1) (h2:RV P f w n r2 v2) (h3:RV P f w n r3 v3) (h:R (.returned (.tuple #[v1,v2,v3])) w):bodyPost P fn R .ret (fr n f) w:=(fin3 hr h1 h2 h3 h).1
end
section
variable {α:Type} {w0 w:World} {mu:List Fact} {rs:List Res}
theorem St.rowNh (h:St w0 mu rs w) (T:TypeId) (E:Rp α):St w0 mu (row T E hnil.v []::rs) w:=h.rowNil T E
theorem St.immNh (h:St w0 mu rs w) (E:Rp α):St w0 (imm E hnil.v []::mu) rs w:=h.immNil E
end
theorem A8 {P:Program} {a:Act} {w:World} {d:Option Tmp} {t:TypeId} {p:String} {af:Array Edge} {g:Option (Nat×Bool)} {x:Operand} {fid:FuncId} {fn:Func} {args:Array Operand} {ats:Array TypeId} {vals caps:List Value} (hf:FnT P fid fn) (hx:a.eval x=.func (.func fid) #[] caps.toArray) (ha:args.map a.eval=vals.toArray):
  (execOp a.eval ⟨d,.call ⟨.value x,args,ats⟩,t,p,af,g⟩).run P w=.ok (.enter fid (vals++caps).toArray) w:=by
 rw [Qu hf hx ha]; simp
end Sx
/- More steps that printed walks name: the byte of a constant string. It holds over any program. -/
namespace Sx
open Go
theorem yixs {P:Program} {a:Act} {w:World} {d:Option Tmp} {t:TypeId} {p:String} {af:Array Edge} {g:Option (Nat×Bool)} {x y:Operand} {T:TypeId} {k:IntKind} {n c:Int} {s:ByteArray} {l:List Int} (hT:P.underlying T=some .string) (hx:a.eval x=.string s) (hy:a.eval y=.int k n)
  (hl:s.data.toList.map (fun b=>(b.toNat:Int))=l) (h:getI l n=some c):Yi P a w ⟨d,.index T x y,t,p,af,g⟩ (.int .u8 c):=by
 subst hl
 obtain ⟨h0,_,h⟩:=m9 h
 ·have h1:∃ b:UInt8,s[n.toNat]?=some b∧c=(b.toNat:Int):=by
   rw [H7] at h
   cases hb:s.data.toList[n.toNat]? with
   | none=>rw [hb] at h; cases h
   | some b=>
    rw [hb] at h
    refine ⟨b,?_,(P1 h).symm⟩
    have hlt:n.toNat < s.data.toList.length:=(C2.1 hb).1
    have sL:n.toNat < s.size:=by simpa using hlt
    rw [getElem?_pos s n.toNat sL]
    have:=(C2.1 hb).2
    congr 1
  obtain ⟨b,hb,rfl⟩:=h1
  simp [Yi,execOp,hx,hy,Instr.index,asIntOf,run_underlying hT,hb,h0]
theorem Wr {s:Nat} (l:List (CS s)) (k:Nat) (hk:k≤l.length):cellsOf (l.take k)=(cellsOf l).take (k*s):=by
 have h:cellsOf l=cellsOf (l.take k)++cellsOf (l.drop k):=by rw [← s9,B9]
 have hl:(cellsOf (l.take k)).length=k*s:=by rw [K4,A4,n5 hk]
 rw [h,← hl,List.take_left]
theorem tx {α:Type} {T:TypeId} {E:Rp α} {h:Hdr} {l m:List α} {hi:Int} {w:World} (hk:sli l 0 hi=some m):∀ X F:Nat→Prop,(row T E h.v l).holds w X F→(row T E (subH h E.s 0 hi).v m).holds w X F:=by
 intro X F hh
 obtain ⟨rfl,_,h1,h2⟩:=Ta hk
 obtain ⟨hm,cs,ha,⟨hl,hd⟩,he⟩:=hh
 have hz:(0:Int).toNat=0:=rfl
 have hlen:(subL l 0 hi).length=hi.toNat:=by rw [kh (Int.le_refl 0) h1 h2,hz,p8]
 have Cu:hi.toNat≤l.length:=n0
 have hs:subL l 0 hi=l.take hi.toNat:=by simp [subL]
 have hv:(subH h E.s 0 hi).v=.slice h.a hi.toNat h.c:=by
  simp only [subH,Hdr.v,hz,p8,Qs]
  congr 1
  split
  ·rfl
  ·cases h.a with
   | none=>rfl
   | some a=>simp [Addr.add]
 refine ⟨by rw [hlen]; omega,cs.take hi.toNat,?_,?_,?_⟩
 ·refine ⟨by rw [hlen,A4,ha.1]; omega,fun i c x hc hx=>?_⟩
  rw [hs] at hx
  rw [K5] at hc hx
  split at hc
  ·rename_i nH
   rw [I0 nH] at hx
   exact ha.2 i c x hc hx
  ·cases hc
 ·rw [hlen,hv,Wr cs _ (by rw [ha.1]; exact Cu)]
  refine ⟨by rw [A4,hl,n5 (q8 _ Cu)],?_⟩
  rcases hd with ⟨h3,h4⟩ | ⟨g,cap,cur,h3,h4,h5,h6,h7,h8,h9⟩
  ·left
   obtain ⟨BE,bG,Hu⟩:h.a=none∧h.n=0∧h.c=0:=by simpa [Hdr.v] using h3
   have:hi.toNat=0:=n0
   exact ⟨by rw [BE,Hu,this],this⟩
  ·right
   obtain ⟨BE,bG,Hu⟩:h.a=some ⟨g,0,Option.none⟩∧h.n=l.length∧h.c=cap:=by simpa [Hdr.v] using h3
   refine ⟨g,cap,cur,by rw [BE,Hu],h4,h5,n0,h7,h8,?_⟩
   rw [← h9,Jc,n5 (q8 _ Cu)]
 ·intro b
  rw [he b,hv]
  obtain ⟨ad,n,c⟩:=h
  cases ad<;>exact U8
theorem St.resl {α:Type} {E:Rp α} {T:TypeId} {h:Hdr} {l m:List α} {hi:Int} {w0 w:World} {mu:List Fact} {rs:List Res} (nu:St w0 mu (row T E h.v l::rs) w) (hk:sli l 0 hi=some m):
  ∃ h':Hdr,h'.v=(subH h E.s 0 hi).v∧St w0 mu (row T E h'.v m::rs) w:=⟨_,rfl,nu.conv (tx hk)⟩
theorem Yj {P:Program} {a:Act} {w:World} {d:Option Tmp} {t:TypeId} {p:String} {af:Array Edge} {g:Option (Nat×Bool)} {x:Operand} {T e:TypeId} (hT:P.underlying T=some (.slice e)) (hx:a.eval x=hnil.v):Yi P a w ⟨d,.call ⟨.builtin .cap,#[x],#[T]⟩,t,p,af,g⟩ (.int .i64 0):=by
 simp [Yi,execOp,resolve,invoke,builtin,hx,Builtin.cap_,run_underlying hT,goInt,hnil,Hdr.v]
theorem ySlN {α:Type} {E:Rp α} {q:α} {P:Program} {a:Act} {w:World} {d:Option Tmp} {t:TypeId} {p:String} {af:Array Edge} {g:Option (Nat×Bool)} {x hi:Operand} {T e:TypeId} {k:IntKind} (hS:SlT P T e E q) (hx:a.eval x=hnil.v) (hh:a.eval hi=.int k 0):
  Yi P a w ⟨d,.slice T x none (some hi) none,t,p,af,g⟩ hnil.v:=by
 obtain ⟨ti,zv,KF,Mu,_⟩:=hS.inf
 simp [Yi,execOp,hx,hnil,Hdr.v,Instr.sliceAt,run_underlying hS.und,Instr.slice,Instr.sliceBounds,Instr.sliceBound,hh,asIntOf,Go.sizeOf,typeInfo,KF]
end Sx
/- An append of zeros to the empty slice: the step of Grow. It holds over any program. -/
namespace Sx
open Go
def colV (x:List Int):Option (List Int):=if (x.length:Int)≤BIG then some x else none
def mkLp {β:Type} (z:β) (n:Int):Option (List β):=if 0 < n then mkL z n else none
theorem Yt {s:Nat} {c:CS s} {zv:Value} (hp:0 < s) (hz:zv.cells=c.1.toArray) (n:Nat):(Builtin.zeroCells zv.cells n).toList=cellsOf (List.replicate n c):=by
 rw [← jh hp hz n]
 have:zv.cells.size=s:=by rw [hz]; simpa using c.2.1
 unfold Builtin.zeroCells madeCells
 rw [this]
section
variable {P:Program} {α:Type} {E:Rp α} {q:α} {l:List α} {a:Act} {w0 w:World} {mu:List Fact} {rs:List Res} {d:Option Tmp} {t:TypeId} {p:String} {af:Array Edge} {g:Option (Nat×Bool)} {x y:Operand} {T tn e:TypeId} {ik kn:IntKind} {n:Int}
theorem rZn (nu:St w0 mu rs w) (hS:SlT P T e E q) (DH:P.underlying tn=some (.int kn)) (hx:a.eval x=hnil.v) (hy:a.eval y=.int ik n) (hk:mkLp q n=some l):
  ∃ (h:Hdr) (w':World),(execOp a.eval ⟨d,.call ⟨.builtin .append,#[x,y],#[T,tn]⟩,t,p,af,g⟩).run P w=.ok (.value h.v) w'∧St w0 mu (row e E h.v l::rs) w':=by
 unfold mkLp at hk
 split at hk
 ·rename_i bB
  obtain ⟨ti,zv,hi,Mu,IG,hz,sE⟩:=hS.inf
  obtain ⟨k,rfl,hb,rfl⟩:=Np hk
  unfold BIG at hb
  have Gu:k*ti.bytes≤281474976710656:=by
   have:k*ti.bytes≤1099511627776*256:=F5 n0 n0
   omega
  have hr:=Go.Lib.run_append_nil_zeros (P:=P) w T tn t e ti zv ik kn hS.und DH hi hz k n0 (by rw [Mu]; exact E.pos) n0 Gu
  have Ev:k≤maxLen:=by simp only [maxLen]; omega
  have TF:=sE w fun _=>True
  let c:CS E.s:=⟨zv.cells.toList,E.len TF,E.one TF⟩
  have hc:zv.cells=c.1.toArray:=by simp [c]
  have nv:=grownCap_ge w k 0 e
  refine ⟨⟨some ⟨w.heap.size,0,none⟩,k,grownCap w k 0 e⟩,_,?_,(nu.drew).new (r1:=row e E _ _) (Chg.alloc _ _ (.cells (Builtin.zeroCells zv.cells k++Builtin.zeroCells zv.cells (grownCap w k 0 e - k)) e)) fun X _ _=>⟨fun b=>b=w.heap.size,?_,fun b hb=>by simp only at hb; subst hb; exact O4 _⟩⟩
  ·simp [execOp,resolve,invoke,builtin,hx,hy,hnil,Hdr.v,hr]
  ·refine ⟨by simpa using Ev,List.replicate k c,All2.rep k (sE _ X),?_,fun b=>by simp [Value.ownBlock,Hdr.v]; exact eq_comm⟩
   refine ⟨by rw [K4]; simp,.inr ⟨w.heap.size,grownCap w k 0 e,Builtin.zeroCells zv.cells k++Builtin.zeroCells zv.cells (grownCap w k 0 e - k),by simp [Hdr.v],n8 _,by simp [World.alloc],by simpa using nv,grownCap_le_maxLen w k 0 e Ev,?_,?_⟩⟩
   ·have xH:zv.cells.size=E.s:=by rw [hc]; simpa using c.2.1
    rw [Array.size_append,size_zeroCells,size_zeroCells,xH,← S5,jt nv]
   ·rw [Array.toList_append,Yt E.pos hc,Kc]
    rw [K4]; simp
 ·cases hk
end
end Sx
/- An append of one part of a row to an earlier part of it. It holds over any program. -/
namespace Sx
open Go
section
variable {P:Program} {α β:Type} {E:Rp α} {q:α} {a:Act} {w0 w:World} {mu:List Fact} {rs:List Res} {d:Option Tmp} {t:TypeId} {p:String} {af:Array Edge} {g:Option (Nat×Bool)} {x y:Operand} {T U e:TypeId} {h:Hdr} {l:List α}
theorem gg (hS:SlT P T e E q) (hx:a.eval x=h.v) (hy:a.eval y=hnil.v):Yi P a w ⟨d,.binOp .eql T x y U,t,p,af,g⟩ (.bool h.a.isNone):=by
 have:=Go.Lib.run_eql_slice_nil (P:=P) w T e h.a h.n h.c 0 0 hS.und
 simp [Yi,execOp,hx,hy,eqGuard,Hdr.v,hnil,this]
theorem Bh (h:Hdr):h.a.isNone=true∨h.a.isNone=false:=by cases h.a<;>simp
theorem Dh (hn:h.a.isNone=true) (hm:imm E h.v l∈mu) (nu:St w0 mu rs w):l=[]:=by
 obtain ⟨X,hX⟩:=nu
 obtain ⟨⟨b,cap,hv,hc,_,hx⟩,_⟩:=hX.ro _ hm
 cases l with
 | nil=>rfl
 | cons z l=>
  obtain ⟨hb,_⟩:=hx 0 z rfl
  have h1:h.a=b:=by injection hv
  rw [h1,hb] at hn
  cases hn
theorem Ch {f:List α→Option β} {r:Option β} (h:(app [] []).bind f=r):f []=r:=by
 have:app ([]:List α) []=some []:=by unfold app BIG; simp
 rw [this] at h
 exact h
end
def tz32 (x:Int):Option Int:=if 0≤x∧x < 4294967296 then some (Go.Lib.ctz 32 x.toNat:Int) else none
def insI (x:Int):List Int→List Int
 | []=>[x]
 | y::l=>if x≤y then x::y::l else y::insI x l
def isortI:List Int→List Int
 | []=>[]
 | x::l=>insI x (isortI l)
def sortI (l:List Int):Option (List Int):=if (l.length:Int)≤BIG then some (isortI l) else none
def compactI (l:List Int):Option (List Int):=if (l.length:Int)≤BIG then some (Go.Lib.compact l) else none
theorem lq (x:Int):∀ l,(insI x l).Perm (x::l):=by
 intro l
 induction l with
 | nil=>exact .refl _
 | cons y l ih=>
  rw [insI]
  split
  ·exact .refl _
  ·exact (List.Perm.cons y ih).trans (List.Perm.swap x y l)
theorem Te:∀ l,(isortI l).Perm l:=by
 intro l
 induction l with
 | nil=>exact .refl _
 | cons x l ih=>exact (lq x _).trans (List.Perm.cons x ih)
theorem mA (x:Int):∀ l,l.Pairwise (·≤·)→(insI x l).Pairwise (·≤·):=by
 intro l
 induction l with
 | nil=>intro _; rw [insI]; exact kj _ _
 | cons y l ih=>
  intro h
  rw [z6] at h
  rw [insI]
  split
  ·rename_i UF
   refine z6.2 ⟨fun z hz=>?_,z6.2 h⟩
   rw [G3] at hz
   rcases hz with rfl | hz
   ·exact UF
   ·have:=h.1 z hz; omega
  ·refine z6.2 ⟨fun z hz=>?_,ih h.2⟩
   have:=(lq x l).mem_iff.1 hz
   rw [G3] at this
   rcases this with rfl | this
   ·omega
   ·exact h.1 z this
theorem Uh:∀ l,(isortI l).Pairwise (·≤·):=by
 intro l
 induction l with
 | nil=>exact .nil
 | cons x l ih=>exact mA x _ ih
theorem eA (l:List Int):(l.mergeSort fun x y=>decide (x≤y))=isortI l:=by
 refine List.Perm.eq_of_pairwise (le:=fun a b:Int=>a≤b) (fun a b _ _ h1 h2=>n0) ?_ (Uh l) ((List.mergeSort_perm l _).trans (Te l).symm)
 refine (List.pairwise_mergeSort (le:=fun x y:Int=>decide (x≤y)) ?_ ?_ l).imp ?_
 ·intro a b c h1 h2
  simp only [decide_eq_true_eq] at h1 h2 ⊢
  omega
 ·intro a b
  simp only [U5,decide_eq_true_eq]
  omega
 ·intro a b h
  simpa using h
theorem bp0 {a:Act}:((#[]:Array (Nat×Operand)).map fun (i,x)=>(i,a.eval x))=([]:List (Nat×Value)).toArray:=by simp
end Sx
