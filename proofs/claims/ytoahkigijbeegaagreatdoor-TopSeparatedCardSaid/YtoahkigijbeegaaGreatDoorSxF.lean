/- Calls, results, structs, parts of slices, control with the ends of a piece of code behind names: the last layer under the walks. It holds over any program. -/
import Derived.Test.YtoahkigijbeegaaGreatDoorSxE
namespace Sx
open Go
section
variable {P:Program} {a:Act} {w:World} {d:Option Tmp} {t:TypeId} {p:String} {af:Array Edge} {g:Option (Nat×Bool)}
theorem yc {fid:FuncId} {fn:Func} {args:Array Operand} {ats:Array TypeId} {vals:Array Value} (hf:P.funcs[fid]?=some fn) (hn:(fn.name == "runtime.NumGoroutine")=false) (hb:fn.body.isNone=false) (ha:args.map a.eval=vals):
  (execOp a.eval ⟨d,.call ⟨.value (.func fid),args,ats⟩,t,p,af,g⟩).run P w=.ok (.enter fid vals) w:=by
 have BJ:fn.body≠none:=by cases h:fn.body<;>simp_all
 have bG:fn.name≠"runtime.NumGoroutine":=by simpa using hn
 simp [execOp,resolve,Deferred.ofValue,Act.eval,invoke,callFunc,hf,bG,BJ,← ha]
theorem ycv' {x:Operand} {fid:FuncId} {fn:Func} {args:Array Operand} {ats:Array TypeId} {vals caps:Array Value} (hx:a.eval x=.func (.func fid) #[] caps) (hf:P.funcs[fid]?=some fn) (hn:(fn.name == "runtime.NumGoroutine")=false) (hb:fn.body.isNone=false) (ha:args.map a.eval=vals):
  (execOp a.eval ⟨d,.call ⟨.value x,args,ats⟩,t,p,af,g⟩).run P w=.ok (.enter fid (vals++caps)) w:=by
 have BJ:fn.body≠none:=by cases h:fn.body<;>simp_all
 have bG:fn.name≠"runtime.NumGoroutine":=by simpa using hn
 simp [execOp,resolve,Deferred.ofValue,hx,invoke,callFunc,hf,bG,BJ,← ha]
theorem a0:(#[]:Array Operand).map a.eval=#[]:=by simp
theorem a1 {x1:Operand} {v1:Value} (h1:a.eval x1=v1):#[x1].map a.eval=#[v1]:=by simp [h1]
theorem a2 {x1 x2:Operand} {v1 v2:Value} (h1:a.eval x1=v1) (h2:a.eval x2=v2):#[x1,x2].map a.eval=#[v1,v2]:=by simp [h1,h2]
theorem S7 {fid:FuncId} {fn:Func} {args:Array Operand} {ats:Array TypeId} {vals:Array Value} (hf:FnT P fid fn) (ha:args.map a.eval=vals):
  (execOp a.eval ⟨d,.call ⟨.value (.func fid),args,ats⟩,t,p,af,g⟩).run P w=.ok (.enter fid vals) w:=yc hf.at_ hf.name hf.body ha
theorem Qu {x:Operand} {fid:FuncId} {fn:Func} {args:Array Operand} {ats:Array TypeId} {vals caps:Array Value} (hf:FnT P fid fn) (hx:a.eval x=.func (.func fid) #[] caps) (ha:args.map a.eval=vals):
  (execOp a.eval ⟨d,.call ⟨.value x,args,ats⟩,t,p,af,g⟩).run P w=.ok (.enter fid (vals++caps)) w:=ycv' hx hf.at_ hf.name hf.body ha
structure StructOf (P:Program) (T:TypeId) (zs:List Value) (pl:List (Nat×Nat)):Prop where
 zero:∃ fs ti,P.underlying T=some (.struct fs)∧P.info? T=some ti∧ti.zero=some (.agg zs.toArray)∧∀ w,(fs.mapM fun f=>do pure (f.offset,← Go.sizeOf f.type):Sem (Array (Nat×Nat))).run P w=.ok pl.toArray w
theorem xz {P:Program} {T:TypeId} {fs:Array Field} {zs:List Value} {pl:List (Nat×Nat)} (hu:P.underlying T=some (.struct fs)) (hz:(P.info? T).map (fun i=>i.zero)=some (some (.agg zs.toArray)))
  (hp:fs.toList.mapM (fun f=>(P.info? f.type).map fun i=>(f.offset,i.size))=some pl):StructOf P T zs pl:=by
 cases h:P.info? T with
 | none=>simp [h] at hz
 | some ti=>
  simp [h] at hz
  refine ⟨fs,ti,hu,h,hz,fun w=>?_⟩
  have key:∀ (l:List Field) (pl:List (Nat×Nat)),l.mapM (fun f=>(P.info? f.type).map fun i=>(f.offset,i.size))=some pl→(l.mapM fun f=>do pure (f.offset,← Go.sizeOf f.type):Sem (List (Nat×Nat))).run P w=.ok pl w:=by
   intro l
   induction l with
   | nil=>intro pl h; simp at h; subst h; rfl
   | cons f l ih=>
    intro pl h
    rw [Rf] at h
    cases hi:P.info? f.type with
    | none=>simp [hi] at h
    | some i=>
     cases hr:l.mapM (fun f=>(P.info? f.type).map fun i=>(f.offset,i.size)) with
     | none=>simp [hi,hr] at h
     | some pr=>
      simp [hi,hr] at h
      subst h
      have h2:=ih pr hr
      rw [Rf]
      simp only [Sem.run_bind,Go.sizeOf,typeInfo,run_program,hi,Sem.run_pure,Result.andThen_ok] at h2 ⊢
      rw [h2]
      rfl
  have:=key fs.toList pl hp
  rw [Dj,Sem.run_map]
  rw [this]
  rfl
theorem D6 {T:TypeId} {zs us:List Value} {pl:List (Nat×Nat)} {parts:Array (Nat×Operand)} (ps:List (Nat×Value)) (hS:StructOf P T zs pl) (hp:(parts.map fun (i,x)=>(i,a.eval x))=ps.toArray)
  (hf:Instr.fill (pl.toArray[·]?) zs.toArray ps=some us.toArray):Yi P a w ⟨d,.build T parts,t,p,af,g⟩ (.agg us.toArray):=by
 obtain ⟨fs,ti,hu,hi,hz,pF⟩:=hS.zero
 have e0:(execOp a.eval ⟨d,.build T parts,t,p,af,g⟩)=(do pure (.value (← Instr.build T (parts.map fun (i,x)=>(i,a.eval x))))):=rfl
 unfold Yi
 rw [e0,hp]
 have e1:(Instr.build T ps.toArray).run P w=.ok (.agg us.toArray) w:=by
  unfold Instr.build
  have eN:(zeroValue T).run P w=.ok (.agg zs.toArray) w:=by simp [zeroValue,typeInfo,hi,hz]
  simp only [Sem.run_bind,eN,Result.andThen_ok,run_underlying hu,pF w,Value.cells,hf]
  rfl
 rw [Sem.run_bind,e1]; rfl
section
variable {fn:Func} {R:Ending→World→Prop} {n:Nat} {f:Nat→Value}
def RV (P:Program) (f:Nat→Value) (w:World) (n:Nat):ResultVar→Value→Prop
 | .tmp t,v=>Nat.blt t n=true∧f t=v
 | .cell pt T,v=>Nat.blt pt n=true∧∃ ad,f pt=.pointer (some ad)∧(loadVar T ad).run P w=.ok v w
def rvS (tmps:Array Value):ResultVar→Sem Value
 | .tmp t=>pure (tmps.getD t undef)
 | .cell pt T=>do loadVar T (← asAddr (tmps.getD pt undef))
theorem vh (fn:Func) (tmps:Array Value):results fn tmps=(do
  let vs ← fn.results.mapM (rvS tmps)
  pure (if h:vs.size=1 then vs[0] else .tuple vs)):=by
 unfold results
 have:(fun rv=>rvS tmps rv)=(fun rv:ResultVar=>match rv with
  | .tmp t=>(pure (tmps.getD t undef):Sem Value)
  | .cell pt T=>do loadVar T (← asAddr (tmps.getD pt undef))):=by funext rv; cases rv<;>rfl
 show _=(do
  let vs ← fn.results.mapM (fun rv=>rvS tmps rv)
  pure (if h:vs.size=1 then vs[0] else .tuple vs))
 rw [this]
 rfl
theorem Wa {rv:ResultVar} {v:Value} (h:RV P f w n rv v):(rvS (fr n f).tmps rv).run P w=.ok v w:=by
 cases rv with
 | tmp t=>
  obtain ⟨h1,h2⟩:=h
  simp only [rvS,Sem.run_pure]
  rw [pc _ _ _ (by simpa [L6] using h1),h2]
 | cell pt T=>
  obtain ⟨h1,ad,h2,h3⟩:=h
  simp only [rvS,Sem.run_bind]
  rw [pc _ _ _ (by simpa [L6] using h1),h2]
  simp only [asAddr,Sem.run_pure,Result.andThen_ok]
  exact h3
theorem gy {b:Nat} {T U:TypeId} {vals:List Value} {pt:Tmp} {fs:Array Field} (ht:Nat.blt pt n=true) (hp:f pt=.pointer (some ⟨b,0,none⟩)) (hb:w.heap[b]?=some (.cells vals.toArray U (0,0)))
  (hT:P.underlying T=some (.struct fs)) (hi:(P.info? T).map (·.size)=some vals.length):RV P f w n (.cell pt T) (.agg vals.toArray):=
 ⟨ht,_,hp,run_loadVar_row w b U T vals.toArray (0,0) _ hb hT rfl (by simpa using hi)⟩
theorem Kq (hr:fn.results=#[]) (h:R (.returned (.tuple #[])) w):bodyPost P fn R .ret (fr n f) w∧bodyPost P fn R .normal (fr n f) w:=by
 have e:(results fn (fr n f).tmps).run P w=.ok (.tuple #[]) w:=by simp [results,hr]
 exact ⟨⟨rfl,_,e,h⟩,⟨rfl,_,e,h⟩⟩
theorem fin1 {r1:ResultVar} {v1:Value} (hr:fn.results=#[r1]) (h1:RV P f w n r1 v1) (h:R (.returned v1) w):bodyPost P fn R .ret (fr n f) w∧bodyPost P fn R .normal (fr n f) w:=by
 have e:(results fn (fr n f).tmps).run P w=.ok v1 w:=by
  have:=Wa h1
  simp only [vh,hr,Sem.run_bind,Dj,Rf,Dt]
  simp only [Sem.run_bind,Sem.run_map,this,Result.andThen_ok,Sem.run_pure]
  rfl
 exact ⟨⟨rfl,_,e,h⟩,⟨rfl,_,e,h⟩⟩
theorem fin2 {r1 r2:ResultVar} {v1 v2:Value} (hr:fn.results=#[r1,r2]) (h1:RV P f w n r1 v1) (h2:RV P f w n r2 v2) (h:R (.returned (.tuple #[v1,v2])) w):bodyPost P fn R .ret (fr n f) w∧bodyPost P fn R .normal (fr n f) w:=by
 have e:(results fn (fr n f).tmps).run P w=.ok (.tuple #[v1,v2]) w:=by
  have e1:=Wa h1
  have e2:=Wa h2
  simp only [vh,hr,Sem.run_bind,Dj,Rf,Dt]
  simp only [Sem.run_bind,Sem.run_map,e1,e2,Result.andThen_ok,Sem.run_pure]
  rfl
 exact ⟨⟨rfl,_,e,h⟩,⟨rfl,_,e,h⟩⟩
theorem fin3 {r1 r2 r3:ResultVar} {v1 v2 v3:Value} (hr:fn.results=#[r1,r2,r3]) (h1:RV P f w n r1 v1) (h2:RV P f w n r2 v2) (h3:RV P f w n r3 v3) (h:R (.returned (.tuple #[v1,v2,v3])) w):bodyPost P fn R .ret (fr n f) w∧bodyPost P fn R .normal (fr n f) w:=by
 have e:(results fn (fr n f).tmps).run P w=.ok (.tuple #[v1,v2,v3]) w:=by
  have e1:=Wa h1
  have e2:=Wa h2
  have e3:=Wa h3
  simp only [vh,hr,Sem.run_bind,Dj,Rf,Dt]
  simp only [Sem.run_bind,Sem.run_map,e1,e2,e3,Result.andThen_ok,Sem.run_pure]
  rfl
 exact ⟨⟨rfl,_,e,h⟩,⟨rfl,_,e,h⟩⟩
end
section
variable {w0:World} {mu:List Fact} {rs:List Res} {f:Nat→Value} {n:Nat}
theorem rcs {b:Nat} {T U:TypeId} {vals:List Value} {pt:Tmp} {fs:Array Field} (ht:Nat.blt pt n=true) (hp:f pt=.pointer (some ⟨b,0,none⟩)) (nu:St w0 mu rs w) (hm:box b U vals∈rs)
  (hT:P.underlying T=some (.struct fs)) (hi:(P.info? T).map (·.size)=some vals.length):RV P f w n (.cell pt T) (.agg vals.toArray):=gy ht hp (nu.box_h hm) hT hi
end
structure Hdr where
 a:Option Addr
 n:Nat
 c:Nat
def Hdr.v (h:Hdr):Value:=.slice h.a h.n h.c
def hnil:Hdr:=⟨none,0,0⟩
section
variable {α:Type} {T:TypeId} {E:Rp α} {l m:List α} {v u:Value} {w0:World} {mu:List Fact} {rs:List Res}
theorem Sees.hdr {X:Nat→Prop} (h:Sees w X E v l):∃ h:Hdr,v=h.v:=by obtain ⟨a,cap,rfl,_⟩:=h; exact ⟨⟨a,l.length,cap⟩,rfl⟩
theorem Rd.hdr (h:Rd mu rs E v l) (nu:St w0 mu rs w):∃ h:Hdr,v=h.v:=by obtain ⟨X,_,hs⟩:=h.sees nu; exact hs.hdr
variable {x y:Operand} {e:TypeId} {q:α}
theorem rMk {n:Int} {ik:IntKind} (nu:St w0 mu rs w) (hS:SlT P T e E q) (hx:a.eval x=.int ik n) (hk:mkL q n=some l):
  ∃ (h:Hdr) (w':World),(execOp a.eval ⟨d,.makeSlice T x x,t,p,af,g⟩).run P w=.ok (.value h.v) w'∧St w0 mu (row e E h.v l::rs) w':=by
 obtain ⟨v,w',h1,h2⟩:=py (d:=d) (t:=t) (p:=p) (af:=af) (g:=g) nu hS hx hk
 obtain ⟨h,rfl⟩:=(rdO (.head _):Rd mu (row e E v l::rs) E v l).hdr h2
 exact ⟨h,w',h1,h2⟩
theorem rLt {n:Nat} {parts:Array (Nat×Operand)} (nu:St w0 mu rs w) (hS:SlT P T e E q) (qs:List Value) (hp:(parts.map fun (i,x)=>(i,a.eval x))=(qs.zipIdx.map fun q=>(q.2,q.1)).toArray) (hl:l.length=n) (hn:Nat.ble (n*E.s) 16777216=true)
  (hq:Mks mu E qs l):∃ (h:Hdr) (w':World),(execOp a.eval ⟨d,.buildSlice T n parts,t,p,af,g⟩).run P w=.ok (.value h.v) w'∧St w0 mu (row e E h.v l::rs) w':=by
 obtain ⟨v,w',h1,h2⟩:=qy (d:=d) (t:=t) (p:=p) (af:=af) (g:=g) nu hS qs hp hl hn hq
 obtain ⟨h,rfl⟩:=(rdO (.head _):Rd mu (row e E v l::rs) E v l).hdr h2
 exact ⟨h,w',h1,h2⟩
theorem rAp {k:List α} (nu:St w0 mu (row e E v l::rs) w) (hS:SlT P T e E q) (hx:a.eval x=v) (hy:a.eval y=u) (hu:Rd mu (row e E v l::rs) E u m) (hk:app l m=some k):
  ∃ (h:Hdr) (w':World),(execOp a.eval ⟨d,.call ⟨.builtin .append,#[x,y],#[T,T]⟩,t,p,af,g⟩).run P w=.ok (.value h.v) w'∧St w0 mu (row e E h.v k::rs) w':=by
 obtain ⟨v',w',h1,h2⟩:=uy (d:=d) (t:=t) (p:=p) (af:=af) (g:=g) nu hS hx hy hu hk
 obtain ⟨h,rfl⟩:=(rdO (.head _):Rd mu (row e E v' k::rs) E v' k).hdr h2
 exact ⟨h,w',h1,h2⟩
theorem rLs {l:List (List α)} {z:List α} {i:Int} (nu:St w0 mu rs w) (hr:Rd mu rs (rS E) v l) (hz:getI l i=some z):∃ h:Hdr,CAt w v 1 i [h.v]∧St w0 (imm E h.v z::mu) rs w:=by
 obtain ⟨u,h1,h2⟩:=nu.ldS hr hz
 obtain ⟨h,rfl⟩:=(rdI (.head _):Rd (imm E u z::mu) rs E u z).hdr h2
 exact ⟨h,h1,h2⟩
theorem mkS {h:Hdr} (hm:imm E h.v l∈mu):Mk mu (rS E) [h.v] l:=fun _ _ hX=>⟨_,rfl,hX _ hm⟩
theorem He:Mk mu (rS E) [hnil.v] []:=fun w X _=>⟨_,rfl,Imm.nil w X E⟩
theorem mkF {s:Nat} {e':α→List Value} {hp:0 < s} {hl:∀ x,(e' x).length=s} {ho:∀ x v,v∈e' x→v.oneCell'=true} {x:α} {cs:List Value} (h:cs=e' x):Mk mu (rF s e' hp hl ho) cs x:=fun _ _ _=>h
theorem mkI {k:IntKind} {x:Int}:Mk mu (rI k) [.int k x] x:=fun _ _ _=>rfl
theorem mkB {x:Bool}:Mk mu rB [.bool x] x:=fun _ _ _=>rfl
theorem mkP {β:Type} {B:Rp β} {c1 c2:List Value} {x:α} {y:β} (h1:Mk mu E c1 x) (h2:Mk mu B c2 y):Mk mu (rP E B) (c1++c2) (x,y):=fun w X hX=>⟨c1,c2,rfl,h1 w X hX,h2 w X hX⟩
theorem L1:Mks mu E [] []:=trivial
theorem J1 {q:Value} {cs:List Value} {z:α} {qs:List Value} {zs:List α} (hc:q.cells=cs.toArray) (h:Mk mu E cs z) (k:Mks mu E qs zs):Mks mu E (q::qs) (z::zs):=⟨⟨cs,hc,h⟩,k⟩
end
def subH (h:Hdr) (s:Nat) (lo hi:Int):Hdr:=⟨if h.c=lo.toNat then h.a else h.a.map (·.add (lo.toNat*s)),hi.toNat - lo.toNat,h.c - lo.toNat⟩
def subL {α:Type} (l:List α) (lo hi:Int):List α:=(l.take hi.toNat).drop lo.toNat
def sli {α:Type} (l:List α) (lo hi:Int):Option (List α):=if 0≤lo∧lo≤hi∧hi≤l.length then some (subL l lo hi) else none
theorem Ta {α:Type} {l m:List α} {lo hi:Int} (h:sli l lo hi=some m):m=subL l lo hi∧0≤lo∧lo≤hi∧hi≤l.length:=by
 unfold sli at h; split at h
 ·rename_i hc; simp at h; exact ⟨h.symm,hc⟩
 ·cases h
theorem kh {α:Type} {l:List α} {lo hi:Int} (h0:0≤lo) (h1:lo≤hi) (h2:hi≤l.length):(subL l lo hi).length=hi.toNat - lo.toNat:=by
 simp [subL]; omega
section
variable {α:Type} {E:Rp α} {l m:List α} {w0:World} {mu:List Fact} {rs:List Res} {h:Hdr} {lo hi:Int} {X:Nat→Prop}
theorem qh (hs:Sees w X E h.v l) (h0:0≤lo) (h1:lo≤hi) (h2:hi≤l.length):Sees w X E (subH h E.s lo hi).v (subL l lo hi):=by
 obtain ⟨b,cap,hv,hc,hm,hx⟩:=hs
 obtain ⟨BE,bG,Hu⟩:h.a=b∧h.n=l.length∧h.c=cap:=by simpa [Hdr.v] using hv
 have hl:=kh (l:=l) h0 h1 h2
 refine ⟨(if cap=lo.toNat then b else b.map (·.add (lo.toNat*E.s))),cap - lo.toNat,by simp only [subH,Hdr.v,hl,BE,Hu],by rw [hl]; omega,by rw [hl]; omega,?_⟩
 intro i x IA
 have wK:i < hi.toNat - lo.toNat:=by have:=(C2.1 IA).1; rwa [hl] at this
 have hg:l[lo.toNat+i]?=some x:=by
  simp only [subL,B6] at IA
  rwa [K5,B0] at IA
 obtain ⟨ha,cs,hr,hj⟩:=hx _ _ hg
 have Bu:¬ cap=lo.toNat:=n0
 have EE:sAddr (subH h E.s lo hi).v=(sAddr h.v).add (lo.toNat*E.s):=by
  have e:h.a=some (sAddr h.v):=BE.trans ha
  have:(subH h E.s lo hi).a=some ((sAddr h.v).add (lo.toNat*E.s)):=by
   show (if h.c=lo.toNat then h.a else h.a.map _)=_
   rw [J0 (by rw [Hu]; exact Bu),e]; rfl
  show sAddr (.slice (subH h E.s lo hi).a _ _)=_
  rw [this]; rfl
 refine ⟨?_,cs,hr,fun j u hu=>?_⟩
 ·rw [EE,J0 Bu,ha]; rfl
 ·rw [EE,Ec]
  have:=hj j u hu
  rw [S5,Of] at this
  exact this
theorem fx {b:Nat} {s:Nat} (hb:sBlk (subH h s lo hi).v=some b):sBlk h.v=some b:=by
 obtain ⟨ad,n,c⟩:=h
 cases ad with
 | none=>simp [subH,Hdr.v,sBlk] at hb
 | some ad=>
  simp only [subH,Hdr.v] at hb ⊢
  by_cases hc:c=lo.toNat
  ·rw [I0 hc] at hb; exact hb
  ·rw [J0 hc] at hb
   simp only [H8,sBlk,Af] at hb ⊢
   exact hb
theorem St.sub (nu:St w0 mu rs w) (hm:imm E h.v l∈mu) (hk:sli l lo hi=some m):St w0 (imm E (subH h E.s lo hi).v m::mu) rs w:=by
 obtain ⟨rfl,h0,h1,h2⟩:=Ta hk
 refine nu.addf fun X hX=>?_
 obtain ⟨hs,hb⟩:=hX _ hm
 exact ⟨qh hs h0 h1 h2,fun hn b OE=>hb (by rintro rfl; simp [subL] at hn) b (fx OE)⟩
variable {x:Operand} {T e:TypeId} {q:α}
theorem ySl {lo' IA:Option Operand} {k1 k2:IntKind} (hS:SlT P T e E q) (hx:a.eval x=h.v) (nu:St w0 mu rs w) (hr:Rd mu rs E h.v l) (Nu:lo'.map a.eval=some (.int k1 lo)∨(lo'=none∧lo=0)) (bx:IA.map a.eval=some (.int k2 hi)∨(IA=none∧hi=l.length)) (hm:sli l lo hi=some m):
  Yi P a w ⟨d,.slice T x lo' IA none,t,p,af,g⟩ (subH h E.s lo hi).v:=by
 obtain ⟨ti,zv,KF,Mu,_⟩:=hS.inf
 obtain ⟨rfl,h0,h1,h2⟩:=Ta hm
 obtain ⟨X,_,b,cap,hv,hc,PH,pv⟩:=hr.sees nu
 obtain ⟨BE,bG,Hu⟩:h.a=b∧h.n=l.length∧h.c=cap:=by simpa [Hdr.v] using hv
 have hb:(Instr.sliceBounds true l.length cap (lo'.map a.eval) (IA.map a.eval) none).run P w=.ok (lo.toNat,hi.toNat,cap) w:=by
  have h3:hi≤cap:=n0
  rcases bx with bx | ⟨rfl,rfl⟩<;>rcases Nu with Nu | ⟨rfl,rfl⟩
  ·simp [Instr.sliceBounds,Instr.sliceBound,bx,Nu,asIntOf,h0,h3,show 0≤hi by omega,show lo≤max hi 0 by omega]
  ·simp [Instr.sliceBounds,Instr.sliceBound,bx,asIntOf,h3,show 0≤hi by omega]
  ·simp [Instr.sliceBounds,Instr.sliceBound,Nu,asIntOf,h0,h1]
  ·simp [Instr.sliceBounds]
 have e1:(Instr.sliceAt T h.v (lo'.map a.eval) (IA.map a.eval) none).run P w=.ok (subH h E.s lo hi).v w:=by
  have e2:h.v=.slice b l.length cap:=hv
  simp only [e2,Instr.sliceAt,Sem.run_bind,run_underlying hS.und,Result.andThen_ok,Instr.slice,hb,Go.sizeOf,typeInfo,run_program,KF,Sem.run_pure,Mu]
  simp only [subH,Hdr.v,BE,Hu]
 simp [Yi,execOp,hx,e1]
end
end
def nn:Exit→Bool | .normal=>false | _=>true
def bex (id:Nat):Exit→Exit | .exit i=>bif Nat.beq i id then .normal else .exit i | e=>e
section
variable {P:Program} {Q:Exit→Act→World→Prop} {a:Act} {w:World}
theorem wB {f:FuncId} {fn:Func} {c:Code} {args:List Value} {R:Ending→World→Prop} {n:Nat}
  (hf:P.funcs[f]?=some fn) (hb:fn.body=some c) (hn:fn.ntmps=n) (hl:Nat.ble args.length n=true)
  (h:∀ Q:Exit→Act→World→Prop,(∀ e a w,bodyPost P fn R e a w→Q e a w)→c.wp P Q (fr n (initF args)) w):Calls P f args.toArray w R:=
 enter hf hb hn hl (h _ fun _ _ _ h=>h)
theorem seqQ {x y:Code} (h:∀ Q':Exit→Act→World→Prop,(∀ a w,y.wp P Q a w→Q' .normal a w)→(∀ e a w,nn e=true→Q e a w→Q' e a w)→x.wp P Q' a w):(Code.seq x y).wp P Q a w:=
 wp_seq (h _ (fun _ _ h=>h) (fun e a w he hq=>by cases e<;>first | (simp [nn] at he; done) | exact hq))
theorem wC {id:Nat} {c:Code} (h:∀ Q':Exit→Act→World→Prop,(∀ e a w,Q (bex id e) a w→Q' e a w)→c.wp P Q' a w):(Code.block id c).wp P Q a w:=by
 refine wp_block (h _ fun e a w hq=>?_)
 cases e with
 | exit i=>
  simp only [Exit.inBlock]
  by_cases hi:i=id
  ·subst hi; rw [I0 rfl]; simpa [bex] using hq
  ·rw [J0 hi]; simpa [bex,Dc hi] using hq
 | normal=>exact hq
 | goto l=>exact hq
 | ret=>exact hq
 | panic ch=>exact hq
 | outgrown=>exact hq
theorem Oz {c:Code} {σ ρ:Type} {step:σ→Option (σ⊕ρ)} {s:σ} {out:ρ} (Inv:σ→Act→World→Prop) (h:loop step s=some out) (hI:Inv s a w)
  (hb:∀ (s:σ) (a:Act) (w:World) (r:σ⊕ρ),Inv s a w→step s=some r→(∀ o,r=.inr o→o=out)→
   ∀ Q':Exit→Act→World→Prop,(∀ s' a w,r=.inl s'→Inv s' a w→Q' .normal a w)→(∀ o e a w,r=.inr o→nn e=true→Q e a w→Q' e a w)→c.wp P Q' a w):
  (Code.loop c).wp P Q a w:=by
 refine Vu Inv h hI fun s a w r hI hs ho=>hb s a w r hI hs ho _ ?_ ?_
 ·rintro s' a w rfl iI; exact iI
 ·rintro o e a w rfl he hq
  cases e<;>first | (simp [nn] at he; done) | exact hq
theorem wb {c:Operand} {x y:Code} {b:Bool} (hc:a.eval c=.bool b) (hb:b=true) (h:x.wp P Q a w):(Code.cond c x y).wp P Q a w:=wp_cond_true (hb▸hc) h
theorem xb {c:Operand} {x y:Code} {b:Bool} (hc:a.eval c=.bool b) (hb:b=false) (h:y.wp P Q a w):(Code.cond c x y).wp P Q a w:=wp_cond_false (hb▸hc) h
end
theorem k8 {b:Bool} (h:¬ b=true):b=false:=Bool.eq_false_iff.2 h
theorem nT {b:Bool} (h:b=false):(!b)=true:=by simp [h]
theorem nF {b:Bool} (h:b=true):(!b)=false:=by simp [h]
section
variable {r0 r1 r2 r3 r4 r5 r6 r7 r8 r9 r10 r11 r12:Res} {l:List Res}
end
end Sx
