/- More small facts that the printed walks name. It holds over any program. -/
import Derived.Test.YthekfonboblioabGreatDoorSxG
import Derived.Lib.AppendZeros
import Derived.Lib.SlicesCompact
import Derived.Lib.TrailingZeros
import Derived.Lib.SliceRun
namespace Sx
open Go
section
variable {P:Program} {a:Act} {w:World} {d:Option Tmp} {t:TypeId} {p:String} {af:Array Edge} {g:Option (Nat×Bool)} {x y:Operand} {T U:TypeId} {k:IntKind} {m n:Int}
def wqc (k:IntKind) (x y:Int):Int:=k.wrap (x.tdiv y)
def wrc (x y:Int):Int:=x.tmod y
def wslc (k:IntKind) (x:Int) (n:Nat):Int:=k.wrap (x*2 ^ min n k.bits)
def wsrc (k:IntKind) (x:Int) (n:Nat):Int:=x.fdiv (2 ^ min n k.bits)
theorem Ww (hx:a.eval x=.int k m) (hy:a.eval y=.int k n) (h:n≠0):Yi P a w ⟨d,.binOp .quo T x y U,t,p,af,g⟩ (.int k (wqc k m n)):=lf hx hy (by unfold wq wqc; rw [K0 h])
theorem Vw (hx:a.eval x=.int k m) (hy:a.eval y=.int k n) (h:n≠0):Yi P a w ⟨d,.binOp .rem T x y U,t,p,af,g⟩ (.int k (wrc m n)):=Fa hx hy (by unfold wr wrc; rw [K0 h])
theorem Tw {k':IntKind} {n:Nat} (hx:a.eval x=.int k m) (hy:a.eval y=.int k' (Int.ofNat n)):Yi P a w ⟨d,.binOp .shl T x y U,t,p,af,g⟩ (.int k (wslc k m n)):=Xh hx hy (by unfold wshl wslc; rw [K0 H0]; rfl)
theorem Sw {k':IntKind} {n:Nat} (hx:a.eval x=.int k m) (hy:a.eval y=.int k' (Int.ofNat n)):Yi P a w ⟨d,.binOp .shr T x y U,t,p,af,g⟩ (.int k (wsrc k m n)):=Im hx hy (by unfold wshr wsrc; rw [K0 H0]; rfl)
theorem bp1 {i1:Nat} {x1:Operand} {v1:Value} (h1:a.eval x1=v1):(#[(i1,x1)].map fun (i,x)=>(i,a.eval x))=[(i1,v1)].toArray:=by simp [h1]
theorem bp2 {i1 i2:Nat} {x1 x2:Operand} {v1 v2:Value} (h1:a.eval x1=v1) (h2:a.eval x2=v2):(#[(i1,x1),(i2,x2)].map fun (i,x)=>(i,a.eval x))=[(i1,v1),(i2,v2)].toArray:=by simp [h1,h2]
theorem bp3 {i1 i2 i3:Nat} {x1 x2 x3:Operand} {v1 v2 v3:Value} (h1:a.eval x1=v1) (h2:a.eval x2=v2) (h3:a.eval x3=v3):(#[(i1,x1),(i2,x2),(i3,x3)].map fun (i,x)=>(i,a.eval x))=[(i1,v1),(i2,v2),(i3,v3)].toArray:=by simp [h1,h2,h3]
theorem bp4 {i1 i2 i3 i4:Nat} {x1 x2 x3 x4:Operand} {v1 v2 v3 v4:Value} (h1:a.eval x1=v1) (h2:a.eval x2=v2) (h3:a.eval x3=v3) (h4:a.eval x4=v4):(#[(i1,x1),(i2,x2),(i3,x3),(i4,x4)].map fun (i,x)=>(i,a.eval x))=[(i1,v1),(i2,v2),(i3,v3),(i4,v4)].toArray:=by simp [h1,h2,h3,h4]
theorem bp5 {i1 i2 i3 i4 i5:Nat} {x1 x2 x3 x4 x5:Operand} {v1 v2 v3 v4 v5:Value} (h1:a.eval x1=v1) (h2:a.eval x2=v2) (h3:a.eval x3=v3) (h4:a.eval x4=v4) (h5:a.eval x5=v5):(#[(i1,x1),(i2,x2),(i3,x3),(i4,x4),(i5,x5)].map fun (i,x)=>(i,a.eval x))=[(i1,v1),(i2,v2),(i3,v3),(i4,v4),(i5,v5)].toArray:=by simp [h1,h2,h3,h4,h5]
end
theorem eqv {b c:Bool} {v:Value} (h:b=c) (hv:v=.bool b):v=.bool c:=by rw [hv,h]
theorem J3 {us:List Value} (h:us.all (fun v=>v.oneCell')=true):∀ v,v∈us→v.oneCell'=true:=fun v hv=>by
 rw [w7] at h; exact h v hv
section
variable {P:Program} {w0 w:World} {ax:List Fact} {rs:List Res} {f:Nat→Value} {n:Nat}
theorem C4 {b:Nat} {T U:TypeId} {vals:List Value} {pt:Tmp} (ht:Nat.blt pt n=true) (hp:f pt=.pointer (some ⟨b,0,none⟩)) (cx:St w0 ax rs w) (hm:box b U vals∈rs)
  {k:Nat} (hT:StT P T k) (hk:vals.length=k):RV P f w n (.cell pt T) (.agg vals.toArray):=by
 subst hk
 obtain ⟨fs,h1⟩:=hT.und
 obtain ⟨ti,h2,h3⟩:=hT.inf
 exact rcs ht hp cx hm h1 (by simp [h2,h3])
theorem St.swf {q1 q2:Fact} (cx:St w0 (q1::q2::ax) rs w):St w0 (q2::q1::ax) rs w:=
 cx.facts (S0 (mtF mhF) (S0 mhF (N0 (N0 E1))))
end
section
variable {α:Type} {w0 w:World} {ax:List Fact} {rs:List Res} {T To:TypeId} {E:Rp α} {hs aI:List Hdr} {ls ls':List (List α)} {l l0:List α} {h h0:Hdr} {i:Int}
theorem St.famLx {k:Nat} (cx:St w0 ax rs w) (hm:famx T E k hs ls∈rs):hs.length=ls.length:=by
 obtain ⟨X,cx⟩:=cx; obtain ⟨F,hF⟩:=cx.own.get hm; exact hF.1
theorem St.unfS (h1:getI hs i=some h0) (g1:setI hs i h=some aI) (g2:setI ls i l=some ls') (cx:St w0 ax (row T E h.v l::famx T E i.toNat hs ls::rs) w):St w0 ax (fam T E aI ls'::rs) w:=by
 obtain ⟨_,_,rfl⟩:=H7 g1
 obtain ⟨h3,h4,rfl⟩:=H7 g2
 have h5:getI ls i=some (ls[i.toNat]'(A0)):=by
  cases i with
  | ofNat k=>simp only [getI]; simp
  | negSucc k=>simp at h3
 exact cx.unfoc h1 h5
theorem Bc {β:Type} {xs ys zs:List β} {hs ks:List Hdr} (hk:app xs ys=some zs) (h1:hs.length=xs.length) (h2:ks.length=ys.length):∃ aI,aI=hs++ks∧app hs ks=some aI:=by
 refine ⟨_,rfl,?_⟩
 unfold app at hk ⊢
 rw [h1,h2]
 split at hk
 ·rename_i hc; rw [M0 hc]
 ·cases hk
end
section
variable {P:Program} {w:World} {fn:Func} {R:Ending→World→Prop} {n:Nat} {f:Nat→Value}
theorem Ek (hr:fn.results=#[]) (h:R (.returned (.tuple #[])) w):bodyPost P fn R .normal (fr n f) w:=(fin0 hr h).2
theorem M3 {r1:ResultVar} {v1:Value} (hr:fn.results=#[r1]) (h1:RV P f w n r1 v1) (h:R (.returned v1) w):bodyPost P fn R .ret (fr n f) w:=(fin1 hr h1 h).1
theorem I4 {r1:ResultVar} {v1:Value} {r2:ResultVar} {v2:Value} (hr:fn.results=#[r1,r2]) (h1:RV P f w n r1 v1) (h2:RV P f w n r2 v2) (h:R (.returned (.tuple #[v1,v2])) w):bodyPost P fn R .ret (fr n f) w:=(fin2 hr h1 h2 h).1
theorem V7 {r1:ResultVar} {v1:Value} {r2:ResultVar} {v2:Value} {r3:ResultVar} {v3:Value} (hr:fn.results=#[r1,r2,r3]) (h1:RV P f w n r1 v1) (h2:RV P f w n r2 v2) (h3:RV P f w n r3 v3) (h:R (.returned (.tuple #[v1,v2,v3])) w):bodyPost P fn R .ret (fr n f) w:=(fin3 hr h1 h2 h3 h).1
end
section
variable {α:Type} {w0 w:World} {ax:List Fact} {rs:List Res}
theorem St.rowNh (h:St w0 ax rs w) (T:TypeId) (E:Rp α):St w0 ax (row T E hnil.v []::rs) w:=h.rowNil T E
theorem St.immNh (h:St w0 ax rs w) (E:Rp α):St w0 (imm E hnil.v []::ax) rs w:=h.immNil E
end
theorem ae {P:Program} {a:Act} {w:World} {d:Option Tmp} {t:TypeId} {p:String} {af:Array Edge} {g:Option (Nat×Bool)} {x:Operand} {fid:FuncId} {fn:Func} {args:Array Operand} {ats:Array TypeId} {vals caps:List Value} (hf:FnT P fid fn) (hx:a.eval x=.func (.func fid) #[] caps.toArray) (ha:args.map a.eval=vals.toArray):
  (execOp a.eval ⟨d,.call ⟨.value x,args,ats⟩,t,p,af,g⟩).run P w=.ok (.enter fid (vals++caps).toArray) w:=by
 rw [cy hf hx ha]; simp
end Sx
/- More steps that printed walks name: the byte of a constant string. It holds over any program. -/
namespace Sx
open Go
theorem yixs {P:Program} {a:Act} {w:World} {d:Option Tmp} {t:TypeId} {p:String} {af:Array Edge} {g:Option (Nat×Bool)} {x y:Operand} {T:TypeId} {k:IntKind} {n c:Int} {s:ByteArray} {l:List Int} (hT:P.underlying T=some .string) (hx:a.eval x=.string s) (hy:a.eval y=.int k n)
  (hl:s.data.toList.map (fun b=>(b.toNat:Int))=l) (h:getI l n=some c):Yi P a w ⟨d,.index T x y,t,p,af,g⟩ (.int .u8 c):=by
 subst hl
 obtain ⟨h0,_,h⟩:=E8 h
 ·have h1:∃ b:UInt8,s[n.toNat]?=some b∧c=(b.toNat:Int):=by
   rw [y9] at h
   cases hb:s.data.toList[n.toNat]? with
   | none=>rw [hb] at h; cases h
   | some b=>
    rw [hb] at h
    refine ⟨b,?_,(N2 h).symm⟩
    have hlt:n.toNat < s.data.toList.length:=(Z1.1 hb).1
    have TI:n.toNat < s.size:=by simpa using hlt
    rw [getElem?_pos s n.toNat TI]
    have:=(Z1.1 hb).2
    congr 1
  obtain ⟨b,hb,rfl⟩:=h1
  simp [Yi,execOp,hx,hy,Instr.index,asIntOf,run_underlying hT,hb,h0]
theorem QE {s:Nat} (l:List (CS s)) (k:Nat) (hk:k≤l.length):cellsOf (l.take k)=(cellsOf l).take (k*s):=by
 have h:cellsOf l=cellsOf (l.take k)++cellsOf (l.drop k):=by rw [← Cb,Ra]
 have hl:(cellsOf (l.take k)).length=k*s:=by rw [S4,B4,G6 hk]
 rw [h,← hl,List.take_left]
end Sx
/- An append of zeros to the empty slice: the step of Grow. It holds over any program. -/
namespace Sx
open Go
section
variable {P:Program} {α:Type} {E:Rp α} {q:α} {l:List α} {a:Act} {w0 w:World} {ax:List Fact} {rs:List Res} {d:Option Tmp} {t:TypeId} {p:String} {af:Array Edge} {g:Option (Nat×Bool)} {x y:Operand} {T tn e:TypeId} {ik kn:IntKind} {n:Int}
end
end Sx
/- An append of one part of a row to an earlier part of it. It holds over any program. -/
namespace Sx
open Go
section
variable {P:Program} {α β:Type} {E:Rp α} {q:α} {a:Act} {w0 w:World} {ax:List Fact} {rs:List Res} {d:Option Tmp} {t:TypeId} {p:String} {af:Array Edge} {g:Option (Nat×Bool)} {x y:Operand} {T U e:TypeId} {h:Hdr} {l:List α}
theorem Rm (hS:SlT P T e E q) (hx:a.eval x=h.v) (hy:a.eval y=hnil.v):Yi P a w ⟨d,.binOp .eql T x y U,t,p,af,g⟩ (.bool h.a.isNone):=by
 have:=Go.Lib.run_eql_slice_nil (P:=P) w T e h.a h.n h.c 0 0 hS.und
 simp [Yi,execOp,hx,hy,eqGuard,Hdr.v,hnil,this]
theorem Ss (h:Hdr):h.a.isNone=true∨h.a.isNone=false:=by cases h.a<;>simp
theorem Us (hn:h.a.isNone=true) (hm:imm E h.v l∈ax) (cx:St w0 ax rs w):l=[]:=by
 obtain ⟨X,hX⟩:=cx
 obtain ⟨⟨b,cap,hv,hc,_,hx⟩,_⟩:=hX.ro _ hm
 cases l with
 | nil=>rfl
 | cons z l=>
  obtain ⟨hb,_⟩:=hx 0 z rfl
  have h1:h.a=b:=by injection hv
  rw [h1,hb] at hn
  cases hn
theorem Ts {f:List α→Option β} {r:Option β} (h:(app [] []).bind f=r):f []=r:=by
 have:app ([]:List α) []=some []:=by unfold app BIG; simp
 rw [this] at h
 exact h
end
def tz32 (x:Int):Option Int:=if 0≤x∧x < 4294967296 then some (Go.Lib.ctz 32 x.toNat:Int) else none
theorem bp0 {a:Act}:((#[]:Array (Nat×Operand)).map fun (i,x)=>(i,a.eval x))=([]:List (Nat×Value)).toArray:=by simp
end Sx
