/- Runs of steps that are found by search: what is known of the program, by instances; places of resources, by instances; one rule for each kind of operation. It holds over any program. -/
import Derived.Test.YtoahkigijbeegaaGreatDoorSxM
namespace Sx
open Go
class SlC (P:Program) (T:TypeId) (e:outParam TypeId) {α:outParam Type} (E:outParam (Rp α)) (q:outParam α):Prop where
 h:SlT P T e E q
class OnC (P:Program) (T:TypeId):Prop where
 h:OneT P T
class StC (P:Program) (T:TypeId) (n:outParam Nat):Prop where
 h:StT P T n
class ZtC (P:Program) (T:TypeId) (zs:outParam (List Value)):Prop where
 h:ZeroT P T zs
class SoC (P:Program) (T:TypeId) (zs:outParam (List Value)) (pl:outParam (List (Nat×Nat))):Prop where
 h:StructOf P T zs pl
class CL (P:Program) (fid:FuncId) (T:outParam Prop):Prop where
 h:T
theorem fm {q:Fact} {l:List Fact} (h:q∈l):q∈l:=h
section
variable {α:Type} {b:Nat} {T:TypeId} {vals:List Value} {rs su rs1:List Res} {r:Res} {v:Value} {E:Rp α} {l:List α} {mu:List Fact} {q:Fact} {w0 w:World}
class BxI (b:Nat) (rs:List Res) (T:outParam TypeId) (vals:outParam (List Value)):Prop where
 h:box b T vals∈rs
instance (priority:=2000) bxH:BxI b (box b T vals::rs) T vals:=⟨.head _⟩
instance (priority:=1000) bxT [h:BxI b rs T vals]:BxI b (r::rs) T vals:=⟨.tail _ h.h⟩
class RD (v:Value) (mu:List Fact) (rs:List Res) {α:outParam Type} (E:outParam (Rp α)) (l:outParam (List α)):Prop where
 h:Rd mu rs E v l
instance (priority:=2000) rdH1:RD v (imm E v l::mu) rs E l:=⟨rdI (.head _)⟩
instance (priority:=1900) rdH2:RD v mu (row T E v l::rs) E l:=⟨rdO (.head _)⟩
instance (priority:=1500) rdT2 [h:RD v mu rs E l]:RD v mu (r::rs) E l:=⟨fun w0 X w nu=>h.h w0 X w ⟨nu.ext,nu.old,nu.xlt,nu.ro,by obtain ⟨F,_,_,hr⟩:=nu.own; exact hr.weaken fun b hb=>.inl hb⟩⟩
instance (priority:=1400) rdT1 [h:RD v mu rs E l]:RD v (q::mu) rs E l:=⟨fun w0 X w nu=>h.h w0 X w ⟨nu.ext,nu.old,nu.xlt,fun r hr=>nu.ro r (.tail _ hr),nu.own⟩⟩
structure Pm (rs su:List Res):Prop where
 h:∀ {w:World} {X Y:Nat→Prop},SLd w X rs Y→SLd w X su Y
theorem Pm.rfl':Pm rs rs:=⟨id⟩
theorem Pm.cons (h:Pm rs su):Pm (r::rs) (r::su):=⟨fun k=>k.cons fun _=>h.h⟩
theorem Pm.trans {rs2:List Res} (h:Pm rs su) (k:Pm su rs2):Pm rs rs2:=⟨fun x=>k.h (h.h x)⟩
theorem St.pm (nu:St w0 mu rs w) (h:Pm rs su):St w0 mu su w:=by
 obtain ⟨X,hX⟩:=nu
 exact ⟨X,hX.ext,hX.old,hX.xlt,hX.ro,h.h hX.own⟩
class ExR (v:Value) (rs:List Res) {α:outParam Type} (T:outParam TypeId) (E:outParam (Rp α)) (l:outParam (List α)) (su:outParam (List Res)):Prop where
 h:Pm rs (row T E v l::su)
instance (priority:=2000) exR0:ExR v (row T E v l::rs) T E l rs:=⟨.rfl'⟩
instance (priority:=1000) exR1 [h:ExR v rs T E l su]:ExR v (r::rs) T E l (r::su):=⟨h.h.cons.trans ⟨fun k=>k.swap⟩⟩
class ExB (b:Nat) (rs:List Res) (T:outParam TypeId) (vals:outParam (List Value)) (su:outParam (List Res)):Prop where
 h:Pm rs (box b T vals::su)
instance (priority:=2000) exB0:ExB b (box b T vals::rs) T vals rs:=⟨.rfl'⟩
instance (priority:=1000) exB1 [h:ExB b rs T vals su]:ExB b (r::rs) T vals (r::su):=⟨h.h.cons.trans ⟨fun k=>k.swap⟩⟩
class ExF (hs:List Hdr) (rs:List Res) {α:outParam Type} (T:outParam TypeId) (E:outParam (Rp α)) (l:outParam (List (List α))) (su:outParam (List Res)):Prop where
 h:Pm rs (fam T E hs l::su)
instance (priority:=2000) exF0 {hs:List Hdr} {l:List (List α)}:ExF hs (fam T E hs l::rs) T E l rs:=⟨.rfl'⟩
instance (priority:=1000) exF1 {hs:List Hdr} {l:List (List α)} [h:ExF hs rs T E l su]:ExF hs (r::rs) T E l (r::su):=⟨h.h.cons.trans ⟨fun k=>k.swap⟩⟩
theorem Pm.row [x:ExR v rs T E l rs1] (h:Pm rs1 su):Pm rs (Sx.row T E v l::su):=x.h.trans h.cons
theorem Pm.box [x:ExB b rs T vals rs1] (h:Pm rs1 su):Pm rs (Sx.box b T vals::su):=x.h.trans h.cons
theorem Pm.fam {hs:List Hdr} {l:List (List α)} [x:ExF hs rs T E l rs1] (h:Pm rs1 su):Pm rs (Sx.fam T E hs l::su):=x.h.trans h.cons
end
class Rpl (vals:List Value) (o:Nat) (us:List Value) (out:outParam (List Value)):Prop where
 h:vals.take o++us++vals.drop (o+us.length)=out
instance (priority:=2000) rplN {vals:List Value}:Rpl vals 0 [] vals:=⟨G0⟩
instance (priority:=1500) rplC {vals us out:List Value} {x u:Value} [h:Rpl vals 0 us out]:Rpl (x::vals) 0 (u::us) (u::out):=⟨by rw [← h.h]; simp⟩
instance (priority:=1000) rplS {vals us out:List Value} {x:Value} {o:Nat} [h:Rpl vals o us out]:Rpl (x::vals) (o+1) us (x::out):=⟨by rw [← h.h,Nat.add_right_comm]; simp⟩
class Slc (vals:List Value) (o j:Nat) (out:outParam (List Value)):Prop where
 h:(vals.drop o).take j=out
instance (priority:=2000) slcN {vals:List Value}:Slc vals 0 0 []:=⟨G0⟩
instance (priority:=1500) slcC {vals out:List Value} {x:Value} {j:Nat} [h:Slc vals 0 j out]:Slc (x::vals) 0 (j+1) (x::out):=⟨by rw [← h.h]; simp⟩
instance (priority:=1000) slcS {vals out:List Value} {x:Value} {o j:Nat} [h:Slc vals o j out]:Slc (x::vals) (o+1) j out:=⟨by rw [← h.h]; simp⟩
class Pla (pl:List (Nat×Nat)) (i:Nat) (o:outParam Nat):Prop where
 h:True
instance (priority:=2000) pla0 {o s:Nat} {pl:List (Nat×Nat)}:Pla ((o,s)::pl) 0 o:=⟨trivial⟩
instance (priority:=1000) plaS {p:Nat×Nat} {i o:Nat} {pl:List (Nat×Nat)} [Pla pl i o]:Pla (p::pl) (i+1) o:=⟨trivial⟩
class Cll (v:Value) (cs:outParam (List Value)):Prop where
 h:True
instance (priority:=2000) cllA {cs:List Value}:Cll (.agg ⟨cs⟩) cs:=⟨trivial⟩
instance (priority:=1000) cll1 {v:Value}:Cll v [v]:=⟨trivial⟩
class BuV (pl:List (Nat×Nat)) (zs:List Value) (ps:List (Nat×Value)) (us:outParam (List Value)):Prop where
 h:True
instance (priority:=2000) buv0 {pl:List (Nat×Nat)} {zs:List Value}:BuV pl zs [] zs:=⟨trivial⟩
instance (priority:=1000) buvC {pl:List (Nat×Nat)} {zs zs' us cs:List Value} {ps:List (Nat×Value)} {i o:Nat} {v:Value} [Pla pl i o] [Cll v cs] [Rpl zs o cs zs'] [BuV pl zs' ps us]:BuV pl zs ((i,v)::ps) us:=⟨trivial⟩
structure Red (k tt:Nat) (A B:Prop):Prop where
 h:B→A
section
variable {Z:List Kn} {P:Program} {ops:Array Oper} {Q:Exit→Act→World→Prop} {n k tt:Nat} {g':Nat→Value} {w0 w:World} {L L':List (Nat×Value)} {S':List Kn} {m m':Mo} {rest:List Oper} {d:Nat} {ins:Op} {t:TypeId} {p:String} {af:Array Edge} {g:Option (Nat×Bool)} {v u:Value} {B:Prop} {mu:List Fact} {rs su:List Res}
theorem Red.of {A:Prop}:Red 0 tt A A:=⟨id⟩
theorem rq [KT P] (j:Nat) (h:stp (KT.tb P) n j Z m L=some (S',m',L')) (r:Red (k+1) tt (Md P Q n g' S' m' L' w) B):Red (k+1) tt (Md P Q n g' Z m L w) B:=⟨fun b=>Vb j h (r.h b)⟩
theorem rqT [KT P] (h:stp (KT.tb P) n tt Z m L=some (S',m',L')):Red 0 tt (Md P Q n g' Z m L w) (Md P Q n g' S' m' L' w):=⟨fun b=>Vb tt h b⟩
theorem rbE {α β:Type} {e:Option α} {f:α→Option β} {o:β} {A:Prop} {B:α→Prop} (h:e.bind f=some o) (r:∀ x,e=some x→f x=some o→Red (k+1) tt A (B x)):Red (k+1) tt A (∀ x,e=some x→f x=some o→B x):=⟨fun b=>bE h fun x h1 h2=>(r x h1 h2).h (b x h1 h2)⟩
theorem ry (hg:wqg ops n L g=some true) (hy:Yi P (fr n (ups L g')) w ⟨some d,ins,t,p,af,g⟩ v) (r:Red k tt (Md P Q n g' Z (.l ops rest) ((d,v)::L) w) B):Red (k+1) tt (Md P Q n g' Z (.l ops (⟨some d,ins,t,p,af,g⟩::rest)) L w) B:=⟨fun b=>y hy (r.h b) hg⟩
theorem ryh {S:Hdr→World→Prop} {B:Hdr→World→Prop} (hg:wqg ops n L g=some true) (hy:∃ (h:Hdr) (w':World),(execOp (fr n (ups L g')).eval ⟨some d,ins,t,p,af,g⟩).run P w=.ok (.value h.v) w'∧S h w') (r:∀ (h:Hdr) (w':World),S h w'→Red k tt (Md P Q n g' Z (.l ops rest) ((d,h.v)::L) w') (B h w')):Red (k+1) tt (Md P Q n g' Z (.l ops (⟨some d,ins,t,p,af,g⟩::rest)) L w) (∀ (h:Hdr) (w':World),S h w'→B h w'):=⟨fun b=>yh hy (fun h w' hS=>(r h w' hS).h (b h w' hS)) hg⟩
theorem ryb {S:Nat→World→Prop} {B:Nat→World→Prop} (hg:wqg ops n L g=some true) (hy:∃ (b:Nat) (w':World),(execOp (fr n (ups L g')).eval ⟨some d,ins,t,p,af,g⟩).run P w=.ok (.value (.pointer (some ⟨b,0,none⟩))) w'∧S b w') (r:∀ (b:Nat) (w':World),S b w'→Red k tt (Md P Q n g' Z (.l ops rest) ((d,.pointer (some ⟨b,0,none⟩))::L) w') (B b w')):Red (k+1) tt (Md P Q n g' Z (.l ops (⟨some d,ins,t,p,af,g⟩::rest)) L w) (∀ (b:Nat) (w':World),S b w'→B b w'):=⟨fun b=>yb hy (fun h w' hS=>(r h w' hS).h (b h w' hS)) hg⟩
theorem ryt {S:World→Prop} {B:World→Prop} (hg:wqg ops n L g=some true) (hy:∃ (w':World),(execOp (fr n (ups L g')).eval ⟨none,ins,t,p,af,g⟩).run P w=.ok .skip w'∧S w') (r:∀ (w':World),S w'→Red k tt (Md P Q n g' Z (.l ops rest) L w') (B w')):Red (k+1) tt (Md P Q n g' Z (.l ops (⟨none,ins,t,p,af,g⟩::rest)) L w) (∀ (w':World),S w'→B w'):=⟨fun b=>yt hy (fun w' hS=>(r w' hS).h (b w' hS)) hg⟩
theorem uc {fid:FuncId} {args:Array Value} {R:Ending→World→Prop} {T:Prop} [c:CL P fid T] (h:T→Calls P fid args w R):Calls P fid args w R:=h c.h
theorem rcZ {fid:FuncId} [FnC P fid] {args:List Operand} {ats:Array TypeId} {vs:List Value} {V:Value} {S:World→Prop} {B:World→Prop} (hg:wqg ops n L g=some true) (h:ovs n L args=some vs) (hc:Calls P fid vs.toArray w fun e w=>e=.returned V∧S w) (r:∀ w,S w→Red k tt (Md P Q n g' Z (.l ops rest) ((d,V)::L) w) (B w)):Red (k+1) tt (Md P Q n g' Z (.l ops (⟨some d,.call ⟨.value (.func fid),args.toArray,ats⟩,t,p,af,g⟩::rest)) L w) (∀ w,S w→B w):=⟨fun b=>cZ hc (fun w hS=>(r w hS).h (b w hS)) hg h⟩
theorem rcO {fid:FuncId} [FnC P fid] {args:List Operand} {ats:Array TypeId} {vs:List Value} {A:Type} {V:A→Value} {S:A→World→Prop} {B:A→World→Prop} (hg:wqg ops n L g=some true) (h:ovs n L args=some vs) (hc:Calls P fid vs.toArray w fun e w=>∃ x,e=.returned (V x)∧S x w) (r:∀ x w,S x w→Red k tt (Md P Q n g' Z (.l ops rest) ((d,V x)::L) w) (B x w)):Red (k+1) tt (Md P Q n g' Z (.l ops (⟨some d,.call ⟨.value (.func fid),args.toArray,ats⟩,t,p,af,g⟩::rest)) L w) (∀ x w,S x w→B x w):=⟨fun b=>cO hc (fun x w hS=>(r x w hS).h (b x w hS)) hg h⟩
theorem rcT {fid:FuncId} [FnC P fid] {args:List Operand} {ats:Array TypeId} {vs:List Value} {A A2:Type} {V:A→A2→Value} {S:A→A2→World→Prop} {B:A→A2→World→Prop} (hg:wqg ops n L g=some true) (h:ovs n L args=some vs) (hc:Calls P fid vs.toArray w fun e w=>∃ x y,e=.returned (V x y)∧S x y w) (r:∀ x y w,S x y w→Red k tt (Md P Q n g' Z (.l ops rest) ((d,V x y)::L) w) (B x y w)):Red (k+1) tt (Md P Q n g' Z (.l ops (⟨some d,.call ⟨.value (.func fid),args.toArray,ats⟩,t,p,af,g⟩::rest)) L w) (∀ x y w,S x y w→B x y w):=⟨fun b=>cT_ hc (fun x y w hS=>(r x y w hS).h (b x y w hS)) hg h⟩
theorem rcR {fid:FuncId} [FnC P fid] {args:List Operand} {ats:Array TypeId} {vs:List Value} {A A2 A3:Type} {V:A→A2→A3→Value} {S:A→A2→A3→World→Prop} {B:A→A2→A3→World→Prop} (hg:wqg ops n L g=some true) (h:ovs n L args=some vs) (hc:Calls P fid vs.toArray w fun e w=>∃ x y z,e=.returned (V x y z)∧S x y z w) (r:∀ x y z w,S x y z w→Red k tt (Md P Q n g' Z (.l ops rest) ((d,V x y z)::L) w) (B x y z w)):Red (k+1) tt (Md P Q n g' Z (.l ops (⟨some d,.call ⟨.value (.func fid),args.toArray,ats⟩,t,p,af,g⟩::rest)) L w) (∀ x y z w,S x y z w→B x y z w):=⟨fun b=>cR_ hc (fun x y z w hS=>(r x y z w hS).h (b x y z w hS)) hg h⟩
section
variable {α:Type} {E:Rp α} {l:List α} {T e:TypeId} {q z:α} {x y:Operand} {i:Int} {ik:IntKind} {b o j:Nat} {vals us:List Value}
theorem Qj [S:SlC P T e E q] (hx:ov n L x=some v) (nu:St w0 mu rs w) (hr:Rd mu rs E v l):Yi P (fr n (ups L g')) w ⟨some d,.call ⟨.builtin .len,#[x],#[T]⟩,t,p,af,g⟩ (.int .i64 l.length):=T1 S.h (O1 hx) nu hr
theorem Tj [S:SlC P T e E q] (hx:ov n L x=some v) (hy:ov n L y=some (.int ik i)) (nu:St w0 mu rs w) (hr:Rd mu rs E v l) (hz:getI l i=some z):Yi P (fr n (ups L g')) w ⟨some d,.indexAddr T x y,t,p,af,g⟩ (eAddr v E.s i):=yIa S.h (O1 hx) (O1 hy) nu hr hz
theorem Vj [O:OnC P T] {k:IntKind} {l:List Int} {z:Int} (hx:ov n L x=some (eAddr v 1 i)) (nu:St w0 mu rs w) (hr:Rd mu rs (rI k) v l) (hz:getI l i=some z):Yi P (fr n (ups L g')) w ⟨some d,.load T x,t,p,af,g⟩ (.int k z):=yI O.h (O1 hx) nu hr hz
theorem Sj [O:OnC P T] (hx:ov n L x=some (.pointer (some ⟨b,o,none⟩))) (nu:St w0 mu rs w) [M:BxI b rs e vals] (hu:vals[o]?=some u):Yi P (fr n (ups L g')) w ⟨some d,.load T x,t,p,af,g⟩ u:=yLb O.h (O1 hx) nu M.h hu
theorem Rj [O:StC P T j] (hx:ov n L x=some (.pointer (some ⟨b,o,none⟩))) (nu:St w0 mu rs w) [M:BxI b rs e vals] (hu:(vals.drop o).take j=us) (hl:us.length=j):Yi P (fr n (ups L g')) w ⟨some d,.load T x,t,p,af,g⟩ (.agg us.toArray):=Xj O.h (O1 hx) nu M.h hu hl
theorem Ku {m c:Int} {U:TypeId} (hx:ov n L x=some (.int ik m)) (hy:ov n L y=some (.int ik i)) (h:wr m i=some c):Yi P (fr n (ups L g')) w ⟨some d,.binOp .rem T x y U,t,p,af,g⟩ (.int ik c):=Ad (O1 hx) (O1 hy) h
theorem Lu {m c:Int} {U:TypeId} (hx:ov n L x=some (.int ik m)) (hy:ov n L y=some (.int ik i)) (h:wq ik m i=some c):Yi P (fr n (ups L g')) w ⟨some d,.binOp .quo T x y U,t,p,af,g⟩ (.int ik c):=cg (O1 hx) (O1 hy) h
theorem Ju {m c:Int} {U:TypeId} {ik':IntKind} (hx:ov n L x=some (.int ik m)) (hy:ov n L y=some (.int ik' i)) (h:wshl ik m i=some c):Yi P (fr n (ups L g')) w ⟨some d,.binOp .shl T x y U,t,p,af,g⟩ (.int ik c):=Zf (O1 hx) (O1 hy) h
theorem Iu {m c:Int} {U:TypeId} {ik':IntKind} (hx:ov n L x=some (.int ik m)) (hy:ov n L y=some (.int ik' i)) (h:wshr ik m i=some c):Yi P (fr n (ups L g')) w ⟨some d,.binOp .shr T x y U,t,p,af,g⟩ (.int ik c):=Jj (O1 hx) (O1 hy) h
theorem Pj [O:ZtC P T us] (nu:St w0 mu rs w):∃ b w',(execOp (fr n (ups L g')).eval ⟨some d,.alloc T,t,p,af,g⟩).run P w=.ok (.value (.pointer (some ⟨b,0,none⟩))) w'∧St w0 mu (box b T us::rs) w':=rAl nu O.h
theorem Oj (hx:ov n L x=some v) (hc:v.cells=us.toArray) (nu:St w0 mu rs w):∃ b w',(execOp (fr n (ups L g')).eval ⟨some d,.box T x,t,p,af,g⟩).run P w=.ok (.value (.pointer (some ⟨b,0,none⟩))) w'∧St w0 mu (box b T us::rs) w':=W5 nu (O1 hx) hc
def ovp (n:Nat) (L:List (Nat×Value)):List (Nat×Operand)→Option (List (Nat×Value))
 | []=>some []
 | (i,x)::l=>match ov n L x,ovp n L l with
  | some v,some vs=>some ((i,v)::vs)
  | _,_=>none
theorem vp {f:Nat→Value}:∀ {l:List (Nat×Operand)} {ps:List (Nat×Value)},ovp n L l=some ps→(l.toArray.map fun (i,x)=>(i,(fr n (ups L f)).eval x))=ps.toArray
 | [],ps,h=>by cases h; simp
 | (i,x)::l,ps,h=>by
  simp only [ovp] at h
  split at h
  ·rename_i h1 h2
   injection h with h
   subst h
   have e:=S0 Array.toList (vp (f:=f) h2)
   simp only [List.map_toArray] at e ⊢
   rw [F7,O1 h1,e]
  ·cases h
theorem Uj {pl:List (Nat×Nat)} {zs:List Value} {parts:List (Nat×Operand)} {ps:List (Nat×Value)} [S:SoC P T zs pl] (hp:ovp n L parts=some ps) (hf:Instr.fill (pl.toArray[·]?) zs.toArray ps=some us.toArray):Yi P (fr n (ups L g')) w ⟨some d,.build T parts.toArray,t,p,af,g⟩ (.agg us.toArray):=D6 ps S.h (vp hp) hf
theorem Hj {U:TypeId} {ru:List Value} [O:StC P T j] (hx:ov n L x=some (.pointer (some ⟨b,o,none⟩))) (hy:ov n L y=some (.agg us.toArray)) (nu:St w0 mu rs w) [M:ExB b rs U vals su] (hl:us.length=j) (ho:Nat.ble (o+j) vals.length=true) (h1:us.all (fun v=>v.oneCell')=true) (hv:vals.take o++us++vals.drop (o+j)=ru):
  ∃ w',(execOp (fr n (ups L g')).eval ⟨none,.store T x y,t,p,af,g⟩).run P w=.ok .skip w'∧St w0 mu (box b U ru::su) w':=w5 (nu.pm M.h) O.h (O1 hx) (O1 hy) hl ho (A5 h1) hv
theorem Ij {U:TypeId} {ru:List Value} [O:OnC P T] (hx:ov n L x=some (.pointer (some ⟨b,o,none⟩))) (hy:ov n L y=some u) (nu:St w0 mu rs w) [M:ExB b rs U vals su] (hc:u.cells=#[u]) (h1:u.oneCell'=true) (ho:Nat.blt o vals.length=true) (hv:vals.set o u=ru):
  ∃ w',(execOp (fr n (ups L g')).eval ⟨none,.store T x y,t,p,af,g⟩).run P w=.ok .skip w'∧St w0 mu (box b U ru::su) w':=Yb (nu.pm M.h) O.h (O1 hx) (O1 hy) hc h1 ho hv
theorem Nj {k m:List α} [S:SlC P T e E q] (hx:ov n L x=some v) (hy:ov n L y=some u) (nu:St w0 mu rs w) [M:ExR v rs e E l su] (hu:Rd mu (row e E v l::su) E u m) (hk:app l m=some k):
  ∃ (h:Hdr) (w':World),(execOp (fr n (ups L g')).eval ⟨some d,.call ⟨.builtin .append,#[x,y],#[T,T]⟩,t,p,af,g⟩).run P w=.ok (.value h.v) w'∧St w0 mu (row e E h.v k::su) w':=rAp (nu.pm M.h) S.h (O1 hx) (O1 hy) hu hk
theorem Ho (hg:wqg ops n L g=some true) (hx:ov n L x=some v) (S:SlC P T e E q) (nu:St w0 mu rs w) (hr:Rd mu rs E v l) (r:Red k tt (Md P Q n g' Z (.l ops rest) ((d,.int .i64 l.length)::L) w) B):Red (k+1) tt (Md P Q n g' Z (.l ops (⟨some d,.call ⟨.builtin .len,#[x],#[T]⟩,t,p,af,g⟩::rest)) L w) B:=ry hg (Qj hx nu hr) r
theorem rh (hg:wqg ops n L g=some true) (hx:ov n L x=some v) (hy:ov n L y=some (.int ik i)) (S:SlC P T e E q) (nu:St w0 mu rs w) (hr:Rd mu rs E v l) (hz:getI l i=some z) (r:Red k tt (Md P Q n g' Z (.l ops rest) ((d,eAddr v E.s i)::L) w) B):Red (k+1) tt (Md P Q n g' Z (.l ops (⟨some d,.indexAddr T x y,t,p,af,g⟩::rest)) L w) B:=ry hg (Tj hx hy nu hr hz) r
theorem Lo {β:Type} {f:α→Option β} {c:β} {B:α→Prop} (hg:wqg ops n L g=some true) (hx:ov n L x=some v) (hy:ov n L y=some (.int ik i)) (S:SlC P T e E q) (nu:St w0 mu rs w) (hr:Rd mu rs E v l) (h:(getI l i).bind f=some c) (r:∀ z,getI l i=some z→f z=some c→Red k tt (Md P Q n g' Z (.l ops rest) ((d,eAddr v E.s i)::L) w) (B z)):Red (k+1) tt (Md P Q n g' Z (.l ops (⟨some d,.indexAddr T x y,t,p,af,g⟩::rest)) L w) (∀ z,getI l i=some z→f z=some c→B z):=rbE h fun z h1 h2=>rh hg hx hy S nu hr h1 (r z h1 h2)
theorem s_I {c:IntKind} {l:List Int} {z:Int} (hg:wqg ops n L g=some true) (hx:ov n L x=some (eAddr v 1 i)) (O:OnC P T) (nu:St w0 mu rs w) (hr:Rd mu rs (rI c) v l) (hz:getI l i=some z) (r:Red k tt (Md P Q n g' Z (.l ops rest) ((d,.int c z)::L) w) B):Red (k+1) tt (Md P Q n g' Z (.l ops (⟨some d,.load T x,t,p,af,g⟩::rest)) L w) B:=ry hg (Vj hx nu hr hz) r
theorem Jo (hg:wqg ops n L g=some true) (hx:ov n L x=some (.pointer (some ⟨b,o,none⟩))) (O:OnC P T) (nu:St w0 mu rs w) (M:BxI b rs e vals) (hu:vals[o]?=some u) (r:Red k tt (Md P Q n g' Z (.l ops rest) ((d,u)::L) w) B):Red (k+1) tt (Md P Q n g' Z (.l ops (⟨some d,.load T x,t,p,af,g⟩::rest)) L w) B:=ry hg (Sj hx nu hu) r
theorem Io (hg:wqg ops n L g=some true) (hx:ov n L x=some (.pointer (some ⟨b,o,none⟩))) (O:StC P T j) (nu:St w0 mu rs w) (M:BxI b rs e vals) (hu:Slc vals o j us) (hl:us.length=j) (r:Red k tt (Md P Q n g' Z (.l ops rest) ((d,.agg us.toArray)::L) w) B):Red (k+1) tt (Md P Q n g' Z (.l ops (⟨some d,.load T x,t,p,af,g⟩::rest)) L w) B:=ry hg (Rj hx nu hu.h hl) r
theorem Oo {pl:List (Nat×Nat)} {zs:List Value} {parts:List (Nat×Operand)} {ps:List (Nat×Value)} (hg:wqg ops n L g=some true) (S:SoC P T zs pl) (hp:ovp n L parts=some ps) (_:BuV pl zs ps us) (hf:Instr.fill (pl.toArray[·]?) zs.toArray ps=some us.toArray) (r:Red k tt (Md P Q n g' Z (.l ops rest) ((d,.agg us.toArray)::L) w) B):Red (k+1) tt (Md P Q n g' Z (.l ops (⟨some d,.build T parts.toArray,t,p,af,g⟩::rest)) L w) B:=ry hg (Uj hp hf) r
theorem we {m c:Int} {U:TypeId} (hg:wqg ops n L g=some true) (hx:ov n L x=some (.int ik m)) (hy:ov n L y=some (.int ik i)) (h:wr m i=some c) (r:Red k tt (Md P Q n g' Z (.l ops rest) ((d,.int ik c)::L) w) B):Red (k+1) tt (Md P Q n g' Z (.l ops (⟨some d,.binOp .rem T x y U,t,p,af,g⟩::rest)) L w) B:=ry hg (Ku hx hy h) r
theorem xe {m c:Int} {U:TypeId} (hg:wqg ops n L g=some true) (hx:ov n L x=some (.int ik m)) (hy:ov n L y=some (.int ik i)) (h:wq ik m i=some c) (r:Red k tt (Md P Q n g' Z (.l ops rest) ((d,.int ik c)::L) w) B):Red (k+1) tt (Md P Q n g' Z (.l ops (⟨some d,.binOp .quo T x y U,t,p,af,g⟩::rest)) L w) B:=ry hg (Lu hx hy h) r
theorem ve {m c:Int} {U:TypeId} {ik':IntKind} (hg:wqg ops n L g=some true) (hx:ov n L x=some (.int ik m)) (hy:ov n L y=some (.int ik' i)) (h:wshl ik m i=some c) (r:Red k tt (Md P Q n g' Z (.l ops rest) ((d,.int ik c)::L) w) B):Red (k+1) tt (Md P Q n g' Z (.l ops (⟨some d,.binOp .shl T x y U,t,p,af,g⟩::rest)) L w) B:=ry hg (Ju hx hy h) r
theorem ue {m c:Int} {U:TypeId} {ik':IntKind} (hg:wqg ops n L g=some true) (hx:ov n L x=some (.int ik m)) (hy:ov n L y=some (.int ik' i)) (h:wshr ik m i=some c) (r:Red k tt (Md P Q n g' Z (.l ops rest) ((d,.int ik c)::L) w) B):Red (k+1) tt (Md P Q n g' Z (.l ops (⟨some d,.binOp .shr T x y U,t,p,af,g⟩::rest)) L w) B:=ry hg (Iu hx hy h) r
theorem Ro {B:Nat→World→Prop} (hg:wqg ops n L g=some true) (O:ZtC P T us) (nu:St w0 mu rs w) (r:∀ (b:Nat) (w':World),St w0 mu (box b T us::rs) w'→Red k tt (Md P Q n g' Z (.l ops rest) ((d,.pointer (some ⟨b,0,none⟩))::L) w') (B b w')):Red (k+1) tt (Md P Q n g' Z (.l ops (⟨some d,.alloc T,t,p,af,g⟩::rest)) L w) (∀ (b:Nat) (w':World),St w0 mu (box b T us::rs) w'→B b w'):=ryb hg (Pj nu) r
theorem No {B:Nat→World→Prop} (hg:wqg ops n L g=some true) (hx:ov n L x=some v) (hc:v.cells=us.toArray) (nu:St w0 mu rs w) (r:∀ (b:Nat) (w':World),St w0 mu (box b T us::rs) w'→Red k tt (Md P Q n g' Z (.l ops rest) ((d,.pointer (some ⟨b,0,none⟩))::L) w') (B b w')):Red (k+1) tt (Md P Q n g' Z (.l ops (⟨some d,.box T x,t,p,af,g⟩::rest)) L w) (∀ (b:Nat) (w':World),St w0 mu (box b T us::rs) w'→B b w'):=ryb hg (Oj hx hc nu) r
theorem Po {U:TypeId} {ru:List Value} {B:World→Prop} (hg:wqg ops n L g=some true) (hx:ov n L x=some (.pointer (some ⟨b,o,none⟩))) (O:StC P T j) (hy:ov n L y=some (.agg us.toArray)) (nu:St w0 mu rs w) (M:ExB b rs U vals su) (hl:us.length=j) (ho:Nat.ble (o+j) vals.length=true) (h1:us.all (fun v=>v.oneCell')=true) (hv:Rpl vals o us ru) (r:∀ (w':World),St w0 mu (box b U ru::su) w'→Red k tt (Md P Q n g' Z (.l ops rest) L w') (B w')):Red (k+1) tt (Md P Q n g' Z (.l ops (⟨none,.store T x y,t,p,af,g⟩::rest)) L w) (∀ (w':World),St w0 mu (box b U ru::su) w'→B w'):=ryt hg (Hj hx hy nu hl ho h1 (by rw [← hl]; exact hv.h)) r
theorem Qo {U:TypeId} {ru:List Value} {B:World→Prop} (hg:wqg ops n L g=some true) (hx:ov n L x=some (.pointer (some ⟨b,o,none⟩))) (O:OnC P T) (hy:ov n L y=some u) (nu:St w0 mu rs w) (M:ExB b rs U vals su) (hc:u.cells=#[u]) (h1:u.oneCell'=true) (ho:Nat.blt o vals.length=true) (hv:Rpl vals o [u] ru) (r:∀ (w':World),St w0 mu (box b U ru::su) w'→Red k tt (Md P Q n g' Z (.l ops rest) L w') (B w')):Red (k+1) tt (Md P Q n g' Z (.l ops (⟨none,.store T x y,t,p,af,g⟩::rest)) L w) (∀ (w':World),St w0 mu (box b U ru::su) w'→B w'):=ryt hg (Ij hx hy nu hc h1 ho (by rw [← hv.h,nt,I0 (by simpa [L6] using ho)]; simp)) r
theorem ye {f m:List α} {B:Hdr→World→Prop} (hg:wqg ops n L g=some true) (hx:ov n L x=some v) (S:SlC P T e E q) (hy:ov n L y=some u) (nu:St w0 mu rs w) (M:ExR v rs e E l su) (hu:Rd mu (row e E v l::su) E u m) (hk:app l m=some f) (r:∀ (h:Hdr) (w':World),St w0 mu (row e E h.v f::su) w'→Red k tt (Md P Q n g' Z (.l ops rest) ((d,h.v)::L) w') (B h w')):Red (k+1) tt (Md P Q n g' Z (.l ops (⟨some d,.call ⟨.builtin .append,#[x,y],#[T,T]⟩,t,p,af,g⟩::rest)) L w) (∀ (h:Hdr) (w':World),St w0 mu (row e E h.v f::su) w'→B h w'):=ryh hg (Nj hx hy nu hu hk) r
end
end
end Sx
/- Runs of steps that are found by search: regions that draw their order; ends of runs. It holds over any program. -/
namespace Sx
open Go
structure YI (P:Program) (n:Nat) (f:Nat→Value) (w:World) (o:Oper) (v:Value):Prop where
 h:Yi P (fr n f) w o v
section
variable {Z:List Kn} {P:Program} {os:List Oper} {tb lo D r r' l1 l2 lc:List Nat} {Q:Exit→Act→World→Prop} {n k m tt:Nat} {g':Nat→Value} {w0 w:World} {L L':List (Nat×Value)} {d:Nat} {ins:Op} {t:TypeId} {p:String} {af:Array Edge} {g:Option (Nat×Bool)} {v u:Value} {B B2:Prop} {mu:List Fact} {rs su:List Res} {K:(Nat→Value)→Prop} {f:Nat→Value} {G1:Value→World→Prop}
section
variable {α:Type} {E:Rp α} {l:List α} {T e:TypeId} {q z:α} {x y:Operand} {i:Int} {ik:IntKind} {b o j:Nat} {vals us:List Value}
theorem vu (hx:ov n L x=some v) (S:SlC P T e E q) (nu:St w0 mu rs w) (hr:Rd mu rs E v l):YI P n (ups L g') w ⟨some d,.call ⟨.builtin .len,#[x],#[T]⟩,t,p,af,g⟩ (.int .i64 l.length):=⟨Qj hx nu hr⟩
theorem yu (hx:ov n L x=some v) (hy:ov n L y=some (.int ik i)) (S:SlC P T e E q) (nu:St w0 mu rs w) (hr:Rd mu rs E v l) (hz:getI l i=some z):YI P n (ups L g') w ⟨some d,.indexAddr T x y,t,p,af,g⟩ (eAddr v E.s i):=⟨Tj hx hy nu hr hz⟩
theorem yi_I {c:IntKind} {l:List Int} {z:Int} (hx:ov n L x=some (eAddr v 1 i)) (O:OnC P T) (nu:St w0 mu rs w) (hr:Rd mu rs (rI c) v l) (hz:getI l i=some z):YI P n (ups L g') w ⟨some d,.load T x,t,p,af,g⟩ (.int c z):=⟨Vj hx nu hr hz⟩
theorem xu (hx:ov n L x=some (.pointer (some ⟨b,o,none⟩))) (O:OnC P T) (nu:St w0 mu rs w) (M:BxI b rs e vals) (hu:vals[o]?=some u):YI P n (ups L g') w ⟨some d,.load T x,t,p,af,g⟩ u:=⟨Sj hx nu hu⟩
theorem wu (hx:ov n L x=some (.pointer (some ⟨b,o,none⟩))) (O:StC P T j) (nu:St w0 mu rs w) (M:BxI b rs e vals) (hu:Slc vals o j us) (hl:us.length=j):YI P n (ups L g') w ⟨some d,.load T x,t,p,af,g⟩ (.agg us.toArray):=⟨Rj hx nu hu.h hl⟩
theorem Au {pl:List (Nat×Nat)} {zs:List Value} {parts:List (Nat×Operand)} {ps:List (Nat×Value)} (S:SoC P T zs pl) (hp:ovp n L parts=some ps) (_:BuV pl zs ps us) (hf:Instr.fill (pl.toArray[·]?) zs.toArray ps=some us.toArray):YI P n (ups L g') w ⟨some d,.build T parts.toArray,t,p,af,g⟩ (.agg us.toArray):=⟨Uj hp hf⟩
class BoT (P:Program) (T:TypeId):Prop where
 h:P.underlying T=some .bool
theorem zu {b b':Bool} {U:TypeId} (hx:ov n L x=some (.bool b)) (hy:ov n L y=some (.bool b')) (hT:P.underlying T=some .bool):YI P n (ups L g') w ⟨some d,.binOp .eql T x y U,t,p,af,g⟩ (.bool (b == b')):=⟨Dd hT (O1 hx) (O1 hy)⟩
theorem uu {b b':Bool} {U:TypeId} (hx:ov n L x=some (.bool b)) (hy:ov n L y=some (.bool b')) (hT:P.underlying T=some .bool):YI P n (ups L g') w ⟨some d,.binOp .neq T x y U,t,p,af,g⟩ (.bool (!(b == b'))):=⟨Cd hT (O1 hx) (O1 hy)⟩
end
theorem d_z (h1:newQ os.length tb lo D=l1) (h2:oldQ os.length tb lo D=l2) (r:Red k tt (QR P os n w (fun f=>QS P os n w f l2∧Q .normal (fr n f) w) l1 f) B):Red (k+1) tt (DR P os tb lo n Q 0 D f w) B:=⟨fun b=>DRz h1 h2 (r.h b)⟩
theorem d_n (h1:newQ os.length tb lo D=l1) (h2:oldQ os.length tb lo D=l2) (h3:candL tb lo D=lc) (r:Red (k+1) tt (QR P os n w (fun f=>QS P os n w f l2∧LA P os n f w (fun e o v w'=>DR P os tb lo n Q m (e::D) (updO f o.dst v) w') lc) l1 f) B):Red (k+1) tt (DR P os tb lo n Q (m+1) D f w) B:=⟨fun b=>DRn h1 h2 h3 (r.h b)⟩
theorem d_q [KT P] (j:Nat) (h:qrs (KT.tb P) os n j r L=some (r',L')) (x:Red k tt (QR P os n w K r' (ups L' g')) B):Red k tt (QR P os n w K r (ups L g')) B:=⟨fun b=>qR j h (x.h b)⟩
theorem d_y {i:Nat} (ho:os[i]?=some ⟨some d,ins,t,p,af,g⟩) (hg:wqg os.toArray n L g=some true) (hy:YI P n (ups L g') w ⟨some d,ins,t,p,af,g⟩ v) (x:Red k tt (QR P os n w K r (ups ((d,v)::L) g')) B):Red (k+1) tt (QR P os n w K (i::r) (ups L g')) B:=⟨fun b=>rQ ho hy.h (x.h b) hg⟩
theorem d_r {G:(Nat→Value)→Nat→Oper→Value→World→Prop} (h1:QS P os n w f l2) (x:Red k tt (LA P os n f w (G f) lc) B):Red k tt (QR P os n w (fun f=>QS P os n w f l2∧LA P os n f w (G f) lc) [] f) B:=⟨fun b=>Rn (K1:=fun f=>QS P os n w f l2) (K2:=fun f=>LA P os n f w (G f) lc) h1 (x.h b)⟩
theorem d_e (h1:QS P os n w (ups L g') l2) (x:Red k tt (Md P Q n g' Z (.x .normal) L w) B):Red k tt (QR P os n w (fun f=>QS P os n w f l2∧RK P Q Z .normal (fr n f) w) [] (ups L g')) B:=⟨fun b=>Rn (K1:=fun f=>QS P os n w f l2) (K2:=fun f=>RK P Q Z .normal (fr n f) w) h1 (x.h b)⟩
theorem d_s {i:Nat} (ho:os[i]?=some ⟨some d,ins,t,p,af,g⟩) (hg:wqg os.toArray n L g=some true) (hv:lk L d=some v) (hy:YI P n (ups L g') w ⟨some d,ins,t,p,af,g⟩ v) (x:QS P os n w (ups L g') r):QS P os n w (ups L g') (i::r):=sY ho hy.h x hv hg
theorem d_1 {e:Nat} (ho:os[e]?=some ⟨some d,ins,t,p,af,g⟩) (x:Red k tt (LS P os n (ups L g') w ⟨some d,ins,t,p,af,g⟩ (fun v w'=>DR P os tb lo n Q m (e::D) (ups ((d,v)::L) g') w')) B):Red k tt (LA P os n (ups L g') w (fun e o v w'=>DR P os tb lo n Q m (e::D) (updO (ups L g') o.dst v) w') [e]) B:=⟨fun b=>La1 ho (x.h b) LAn⟩
theorem d_0 {e:Nat} (ho:os[e]?=some ⟨none,ins,t,p,af,g⟩) (x:Red k tt (LS P os n (ups L g') w ⟨none,ins,t,p,af,g⟩ (fun _ w'=>DR P os tb lo n Q m (e::D) (ups L g') w')) B):Red k tt (LA P os n (ups L g') w (fun e o v w'=>DR P os tb lo n Q m (e::D) (updO (ups L g') o.dst v) w') [e]) B:=⟨fun b=>La0 ho (x.h b) LAn⟩
theorem Br {e c:Nat} (ho:os[e]?=some ⟨some d,ins,t,p,af,g⟩) (x:Red k tt (LS P os n (ups L g') w ⟨some d,ins,t,p,af,g⟩ (fun v w'=>DR P os tb lo n Q m (e::D) (ups ((d,v)::L) g') w')) B) (y:Red k tt (LA P os n (ups L g') w (fun e o v w'=>DR P os tb lo n Q m (e::D) (updO (ups L g') o.dst v) w') (c::r)) B2):Red k tt (LA P os n (ups L g') w (fun e o v w'=>DR P os tb lo n Q m (e::D) (updO (ups L g') o.dst v) w') (e::c::r)) (B∧B2):=⟨fun b=>La1 ho (x.h b.1) (y.h b.2)⟩
theorem Cr {e c:Nat} (ho:os[e]?=some ⟨none,ins,t,p,af,g⟩) (x:Red k tt (LS P os n (ups L g') w ⟨none,ins,t,p,af,g⟩ (fun _ w'=>DR P os tb lo n Q m (e::D) (ups L g') w')) B) (y:Red k tt (LA P os n (ups L g') w (fun e o v w'=>DR P os tb lo n Q m (e::D) (updO (ups L g') o.dst v) w') (c::r)) B2):Red k tt (LA P os n (ups L g') w (fun e o v w'=>DR P os tb lo n Q m (e::D) (updO (ups L g') o.dst v) w') (e::c::r)) (B∧B2):=⟨fun b=>La0 ho (x.h b.1) (y.h b.2)⟩
section
variable {α:Type} {E:Rp α} {l:List α} {T e:TypeId} {q z:α} {x y:Operand} {i:Int} {ik:IntKind} {b o j:Nat} {vals us:List Value} {D':Option Tmp}
theorem l_y (hg:wqg os.toArray n L g=some true) (hy:YI P n (ups L g') w ⟨some d,ins,t,p,af,g⟩ v) (x:Red k tt (G1 v w) B):Red (k+1) tt (LS P os n (ups L g') w ⟨some d,ins,t,p,af,g⟩ G1) B:=⟨fun b=>Ly (N3.1 hg) hy.h (x.h b)⟩
theorem l_q [KT P] (hg:wqg os.toArray n L g=some true) (hq:qv (KT.tb P) n L ins=some v) (x:Red k tt (G1 v w) B):Red (k+1) tt (LS P os n (ups L g') w ⟨some d,ins,t,p,af,g⟩ G1) B:=⟨fun b=>Ly (N3.1 hg) (Ce hq) (x.h b)⟩
theorem l_x (hg:wqg os.toArray n L g=some false) (x:Red k tt (G1 undef w) B):Red (k+1) tt (LS P os n (ups L g') w ⟨D',ins,t,p,af,g⟩ G1) B:=⟨fun b=>Lx (N3.2 hg) (x.h b)⟩
theorem Rh {B:Nat→World→Prop} (hg:wqg os.toArray n L g=some true) (O:ZtC P T us) (nu:St w0 mu rs w) (r:∀ (b:Nat) (w':World),St w0 mu (box b T us::rs) w'→Red k tt (G1 (.pointer (some ⟨b,0,none⟩)) w') (B b w')):Red (k+1) tt (LS P os n (ups L g') w ⟨some d,.alloc T,t,p,af,g⟩ G1) (∀ (b:Nat) (w':World),St w0 mu (box b T us::rs) w'→B b w'):=⟨fun c=>LB (N3.1 hg) (Pj nu) fun b w' h=>(r b w' h).h (c b w' h)⟩
theorem Nh {B:Nat→World→Prop} (hg:wqg os.toArray n L g=some true) (hx:ov n L x=some v) (hc:v.cells=us.toArray) (nu:St w0 mu rs w) (r:∀ (b:Nat) (w':World),St w0 mu (box b T us::rs) w'→Red k tt (G1 (.pointer (some ⟨b,0,none⟩)) w') (B b w')):Red (k+1) tt (LS P os n (ups L g') w ⟨some d,.box T x,t,p,af,g⟩ G1) (∀ (b:Nat) (w':World),St w0 mu (box b T us::rs) w'→B b w'):=⟨fun c=>LB (N3.1 hg) (Oj hx hc nu) fun b w' h=>(r b w' h).h (c b w' h)⟩
theorem Oh {U:TypeId} {ru:List Value} {B:World→Prop} (hg:wqg os.toArray n L g=some true) (hx:ov n L x=some (.pointer (some ⟨b,o,none⟩))) (O:StC P T j) (hy:ov n L y=some (.agg us.toArray)) (nu:St w0 mu rs w) (M:ExB b rs U vals su) (hl:us.length=j) (ho:Nat.ble (o+j) vals.length=true) (h1:us.all (fun v=>v.oneCell')=true) (hv:Rpl vals o us ru) (r:∀ (w':World),St w0 mu (box b U ru::su) w'→Red k tt (G1 undef w') (B w')):Red (k+1) tt (LS P os n (ups L g') w ⟨none,.store T x y,t,p,af,g⟩ G1) (∀ (w':World),St w0 mu (box b U ru::su) w'→B w'):=⟨fun c=>LT (N3.1 hg) (Hj hx hy nu hl ho h1 (by rw [← hl]; exact hv.h)) fun w' h=>(r w' h).h (c w' h)⟩
theorem Ph {U:TypeId} {ru:List Value} {B:World→Prop} (hg:wqg os.toArray n L g=some true) (hx:ov n L x=some (.pointer (some ⟨b,o,none⟩))) (O:OnC P T) (hy:ov n L y=some u) (nu:St w0 mu rs w) (M:ExB b rs U vals su) (hc:u.cells=#[u]) (h1:u.oneCell'=true) (ho:Nat.blt o vals.length=true) (hv:Rpl vals o [u] ru) (r:∀ (w':World),St w0 mu (box b U ru::su) w'→Red k tt (G1 undef w') (B w')):Red (k+1) tt (LS P os n (ups L g') w ⟨none,.store T x y,t,p,af,g⟩ G1) (∀ (w':World),St w0 mu (box b U ru::su) w'→B w'):=⟨fun c=>LT (N3.1 hg) (Ij hx hy nu hc h1 ho (by rw [← hv.h,nt,I0 (by simpa [L6] using ho)]; simp)) fun w' h=>(r w' h).h (c w' h)⟩
theorem Qh {f m:List α} {B:Hdr→World→Prop} (hg:wqg os.toArray n L g=some true) (hx:ov n L x=some v) (S:SlC P T e E q) (hy:ov n L y=some u) (nu:St w0 mu rs w) (M:ExR v rs e E l su) (hu:Rd mu (row e E v l::su) E u m) (hk:app l m=some f) (r:∀ (h:Hdr) (w':World),St w0 mu (row e E h.v f::su) w'→Red k tt (G1 h.v w') (B h w')):Red (k+1) tt (LS P os n (ups L g') w ⟨some d,.call ⟨.builtin .append,#[x,y],#[T,T]⟩,t,p,af,g⟩ G1) (∀ (h:Hdr) (w':World),St w0 mu (row e E h.v f::su) w'→B h w'):=⟨fun c=>LH (N3.1 hg) (Nj hx hy nu hu hk) fun h w' hS=>(r h w' hS).h (c h w' hS)⟩
variable {fid:FuncId} {args:List Operand} {ats:Array TypeId} {vs:List Value}
theorem lcZ [FnC P fid] {V:Value} {S:World→Prop} {B:World→Prop} (hg:wqg os.toArray n L g=some true) (h:ovs n L args=some vs) (hc:Calls P fid vs.toArray w fun e w=>e=.returned V∧S w) (r:∀ w,S w→Red k tt (G1 V w) (B w)):Red (k+1) tt (LS P os n (ups L g') w ⟨D',.call ⟨.value (.func fid),args.toArray,ats⟩,t,p,af,g⟩ G1) (∀ w,S w→B w):=⟨fun b=>kZ hc (fun w hS=>(r w hS).h (b w hS)) hg h⟩
theorem lcO [FnC P fid] {A:Type} {V:A→Value} {S:A→World→Prop} {B:A→World→Prop} (hg:wqg os.toArray n L g=some true) (h:ovs n L args=some vs) (hc:Calls P fid vs.toArray w fun e w=>∃ x,e=.returned (V x)∧S x w) (r:∀ x w,S x w→Red k tt (G1 (V x) w) (B x w)):Red (k+1) tt (LS P os n (ups L g') w ⟨D',.call ⟨.value (.func fid),args.toArray,ats⟩,t,p,af,g⟩ G1) (∀ x w,S x w→B x w):=⟨fun b=>kO hc (fun x w hS=>(r x w hS).h (b x w hS)) hg h⟩
theorem lcT [FnC P fid] {A A2:Type} {V:A→A2→Value} {S:A→A2→World→Prop} {B:A→A2→World→Prop} (hg:wqg os.toArray n L g=some true) (h:ovs n L args=some vs) (hc:Calls P fid vs.toArray w fun e w=>∃ x y,e=.returned (V x y)∧S x y w) (r:∀ x y w,S x y w→Red k tt (G1 (V x y) w) (B x y w)):Red (k+1) tt (LS P os n (ups L g') w ⟨D',.call ⟨.value (.func fid),args.toArray,ats⟩,t,p,af,g⟩ G1) (∀ x y w,S x y w→B x y w):=⟨fun b=>kT_ hc (fun x y w hS=>(r x y w hS).h (b x y w hS)) hg h⟩
theorem lcR [FnC P fid] {A A2 A3:Type} {V:A→A2→A3→Value} {S:A→A2→A3→World→Prop} {B:A→A2→A3→World→Prop} (hg:wqg os.toArray n L g=some true) (h:ovs n L args=some vs) (hc:Calls P fid vs.toArray w fun e w=>∃ x y z,e=.returned (V x y z)∧S x y z w) (r:∀ x y z w,S x y z w→Red k tt (G1 (V x y z) w) (B x y z w)):Red (k+1) tt (LS P os n (ups L g') w ⟨D',.call ⟨.value (.func fid),args.toArray,ats⟩,t,p,af,g⟩ G1) (∀ x y z w,S x y z w→B x y z w):=⟨fun b=>kR_ hc (fun x y z w hS=>(r x y z w hS).h (b x y z w hS)) hg h⟩
end
theorem Mq {S:Unit→World→Prop} {σ:Unit→List (Nat×Value)} {M:List (Nat×Value)} (hf:has (ups L' g') (σ ()++M)) (h:S () w):Red k tt (Md P Q n g' (.jn (JN n σ S M)::Z) (.x .normal) L' w) True:=⟨fun _=>jx () h hf⟩
theorem N5 {A:Type} {S:A→World→Prop} {σ:A→List (Nat×Value)} {M:List (Nat×Value)} (a:A) (hf:has (ups L' g') (σ a++M)) (h:S a w):Red k tt (Md P Q n g' (.jn (JN n σ S M)::Z) (.x .normal) L' w) True:=⟨fun _=>jx a h hf⟩
end
section
variable {rs su:List Res} {r x1 x2 x3 x4 x5 x6 x7 x8 x9:Res} {mu GD:List Fact} {w0 w:World}
theorem Pm.drop (h:Pm rs su):Pm (r::rs) su:=⟨fun k=>by obtain ⟨F,_,_,k⟩:=k; exact h.h (k.weaken fun b hb=>.inl hb)⟩
theorem Pm.a1 (h:Pm (x1::rs) su):Pm (x1::r::rs) (r::su):=Pm.trans ⟨fun k=>k.swap⟩ h.cons
theorem Pm.a2 (h:Pm (x1::x2::rs) su):Pm (x1::x2::r::rs) (r::su):=Pm.trans (Pm.cons ⟨fun k=>k.swap⟩) (Pm.a1 h)
theorem Pm.a3 (h:Pm (x1::x2::x3::rs) su):Pm (x1::x2::x3::r::rs) (r::su):=Pm.trans (Pm.cons (Pm.cons ⟨fun k=>k.swap⟩)) (Pm.a2 h)
theorem Pm.a4 (h:Pm (x1::x2::x3::x4::rs) su):Pm (x1::x2::x3::x4::r::rs) (r::su):=Pm.trans (Pm.cons (Pm.cons (Pm.cons ⟨fun k=>k.swap⟩))) (Pm.a3 h)
theorem Pm.a5 (h:Pm (x1::x2::x3::x4::x5::rs) su):Pm (x1::x2::x3::x4::x5::r::rs) (r::su):=Pm.trans (Pm.cons (Pm.cons (Pm.cons (Pm.cons ⟨fun k=>k.swap⟩)))) (Pm.a4 h)
theorem Pm.a6 (h:Pm (x1::x2::x3::x4::x5::x6::rs) su):Pm (x1::x2::x3::x4::x5::x6::r::rs) (r::su):=Pm.trans (Pm.cons (Pm.cons (Pm.cons (Pm.cons (Pm.cons ⟨fun k=>k.swap⟩))))) (Pm.a5 h)
theorem Pm.a7 (h:Pm (x1::x2::x3::x4::x5::x6::x7::rs) su):Pm (x1::x2::x3::x4::x5::x6::x7::r::rs) (r::su):=Pm.trans (Pm.cons (Pm.cons (Pm.cons (Pm.cons (Pm.cons (Pm.cons ⟨fun k=>k.swap⟩)))))) (Pm.a6 h)
theorem Pm.a8 (h:Pm (x1::x2::x3::x4::x5::x6::x7::x8::rs) su):Pm (x1::x2::x3::x4::x5::x6::x7::x8::r::rs) (r::su):=Pm.trans (Pm.cons (Pm.cons (Pm.cons (Pm.cons (Pm.cons (Pm.cons (Pm.cons ⟨fun k=>k.swap⟩))))))) (Pm.a7 h)
theorem Pm.a9 (h:Pm (x1::x2::x3::x4::x5::x6::x7::x8::x9::rs) su):Pm (x1::x2::x3::x4::x5::x6::x7::x8::x9::r::rs) (r::su):=Pm.trans (Pm.cons (Pm.cons (Pm.cons (Pm.cons (Pm.cons (Pm.cons (Pm.cons (Pm.cons ⟨fun k=>k.swap⟩)))))))) (Pm.a8 h)
theorem cvt (a:St w0 mu rs w) (h:Pm rs su) (k:∀ q,q∈GD→q∈mu):St w0 GD su w:=(a.pm h).facts k
class FzA (vs:List Value) (rs:List Res) {α:outParam Type} (E:outParam (Rp α)) (v:outParam Value) (l:outParam (List α)) (T:outParam TypeId) (su:outParam (List Res)):Prop where
 h:Pm rs (row T E v l::su)
instance (priority:=3000) fzA1 {α:Type} {E:Rp α} {v:Value} {l:List α} {T:TypeId} {vs:List Value} [h:ExR v rs T E l su]:FzA (v::vs) rs E v l T su:=⟨h.h⟩
instance (priority:=2000) fzA2 {α:Type} {E:Rp α} {v:Value} {l:List α} {T:TypeId} {us vs:List Value} [h:FzA us rs E v l T su]:FzA (.agg ⟨us⟩::vs) rs E v l T su:=⟨h.h⟩
instance (priority:=1000) fzA3 {α:Type} {E:Rp α} {v u:Value} {l:List α} {T:TypeId} {vs:List Value} [h:FzA vs rs E v l T su]:FzA (u::vs) rs E v l T su:=⟨h.h⟩
theorem cfz {α:Type} {E:Rp α} {v:Value} {l:List α} {T:TypeId} {vs:List Value} {P:Program} {fid:FuncId} {R:Ending→World→Prop} (a:St w0 mu rs w) (F:FzA vs rs E v l T su) (k:St w0 (imm E v l::mu) su w→Calls P fid vs.toArray w R):Calls P fid vs.toArray w R:=k (a.pm F.h).fz
end
end Sx
/- Runs over branches, up to the ends: conditions, results, ends of loops and joins, regions that draw their order. It holds over any program. -/
namespace Sx
open Go
section
variable {α:Type}
abbrev rv (w0:World) (mu:List Fact) (rs:List Res) (v:Value):Ending→World→Prop:=fun e w=>e=.returned v∧St w0 mu rs w
abbrev ri (w0:World) (mu:List Fact) (rs:List Res) (E:Rp α) (l:List α):Ending→World→Prop:=fun e w=>∃ h:Hdr,e=.returned h.v∧St w0 (imm E h.v l::mu) rs w
abbrev ro (w0:World) (mu:List Fact) (rs:List Res) (T:TypeId) (E:Rp α) (l:List α):Ending→World→Prop:=fun e w=>∃ h:Hdr,e=.returned h.v∧St w0 mu (row T E h.v l::rs) w
abbrev rb (w0:World) (mu:List Fact) (rs:List Res) (o:Bool×List Int):Ending→World→Prop:=fun e w=>∃ h:Hdr,e=.returned (.agg #[.bool o.1,h.v])∧St w0 (imm (rI .u32) h.v o.2::mu) rs w
abbrev rc (w0:World) (mu:List Fact) (rs:List Res) (T:TypeId) (o:Bool×List Int):Ending→World→Prop:=fun e w=>∃ h:Hdr,e=.returned (.agg #[.bool o.1,h.v])∧St w0 mu (row T (rI .u32) h.v o.2::rs) w
abbrev rd (w0:World) (mu:List Fact) (rs:List Res) (o:Bool×Bool×List Int×Int):Ending→World→Prop:=fun e w=>∃ h:Hdr,e=.returned (.agg #[.bool o.1,.bool o.2.1,h.v,.int .i64 o.2.2.2])∧St w0 (imm (rI .u32) h.v o.2.2.1::mu) rs w
end
section
variable {Z:List Kn} {P:Program} {ops:Array Oper} {Q:Exit→Act→World→Prop} {n k tt:Nat} {g':Nat→Value} {w0 w:World} {L:List (Nat×Value)} {rest:List Oper} {d:Nat} {t:TypeId} {p:String} {af:Array Edge} {g:Option (Nat×Bool)} {v u:Value} {B B1 B2:Prop} {mu:List Fact} {rs su:List Res}
def nst (m t:Nat):Bool:=!(Nat.beq (m % 1000) (t+1) || Nat.beq (m / 1000 % 1000) (t+1) || Nat.beq (m / 1000000 % 1000) (t+1) || Nat.beq (m / 1000000000 % 1000) (t+1))
def nso (m:Nat):Operand→Bool
 | .tmp t=>nst m t
 | _=>true
theorem Red.tr {A:Prop} (h:A):Red k tt A True:=⟨fun _=>h⟩
theorem Red.id' {A:Prop}:Red k tt A A:=⟨id⟩
section
variable {c:Operand} {X Y:Code} {q:Prop} [Decidable q] {b:Bool} {α:Type} {A A':Option α} {r:α}
theorem b_I (hM:(if q then A else A')=some r) (hs:nso tt c=true) (hc:ov n L c=some (.bool (decide q))) (h1:q→A=some r→Red k tt (Md P Q n g' Z (.c X) L w) B1) (h2:¬ q→A'=some r→Red k tt (Md P Q n g' Z (.c Y) L w) B2):Red (k+1) tt (Md P Q n g' Z (.c (.cond c X Y)) L w) ((q→A=some r→B1)∧(¬ q→A'=some r→B2)):=⟨fun h=>cI hM (fun e f=>(h1 e f).h (h.1 e f)) (fun e f=>(h2 e f).h (h.2 e f)) hc⟩
theorem b_J (hM:(if b=true then A else A')=some r) (hs:nso tt c=true) (hc:ov n L c=some (.bool b)) (h1:b=true→A=some r→Red k tt (Md P Q n g' Z (.c X) L w) B1) (h2:¬ b=true→A'=some r→Red k tt (Md P Q n g' Z (.c Y) L w) B2):Red (k+1) tt (Md P Q n g' Z (.c (.cond c X Y)) L w) ((b=true→A=some r→B1)∧(¬ b=true→A'=some r→B2)):=⟨fun h=>cJ hM (fun e f=>(h1 e f).h (h.1 e f)) (fun e f=>(h2 e f).h (h.2 e f)) hc⟩
theorem b_M (hM:(if q then A else A')=some r) (hs:nso tt c=true) (hc:ov n L c=some (.bool (!decide q))) (h1:q→A=some r→Red k tt (Md P Q n g' Z (.c Y) L w) B1) (h2:¬ q→A'=some r→Red k tt (Md P Q n g' Z (.c X) L w) B2):Red (k+1) tt (Md P Q n g' Z (.c (.cond c X Y)) L w) ((q→A=some r→B1)∧(¬ q→A'=some r→B2)):=⟨fun h=>cIn hM (fun e f=>(h1 e f).h (h.1 e f)) (fun e f=>(h2 e f).h (h.2 e f)) hc⟩
theorem b_N (hM:(if b=true then A else A')=some r) (hs:nso tt c=true) (hc:ov n L c=some (.bool (!b))) (h1:b=true→A=some r→Red k tt (Md P Q n g' Z (.c Y) L w) B1) (h2:¬ b=true→A'=some r→Red k tt (Md P Q n g' Z (.c X) L w) B2):Red (k+1) tt (Md P Q n g' Z (.c (.cond c X Y)) L w) ((b=true→A=some r→B1)∧(¬ b=true→A'=some r→B2)):=⟨fun h=>cJn hM (fun e f=>(h1 e f).h (h.1 e f)) (fun e f=>(h2 e f).h (h.2 e f)) hc⟩
theorem b_T (hc:ov n L c=some (.bool b)) (hb:b=true) (h:Red k tt (Md P Q n g' Z (.c X) L w) B):Red (k+1) tt (Md P Q n g' Z (.c (.cond c X Y)) L w) B:=⟨fun x=>kT hb (h.h x) hc⟩
theorem b_F (hc:ov n L c=some (.bool b)) (hb:b=false) (h:Red k tt (Md P Q n g' Z (.c Y) L w) B):Red (k+1) tt (Md P Q n g' Z (.c (.cond c X Y)) L w) B:=⟨fun x=>kF hb (h.h x) hc⟩
end
section
variable {α β γ:Type} {A A':Option α} {r:β} {x:α} {C D:Prop}
theorem rb_s {f:α→Option β} (h:(some x).bind f=some r) (k':f x=some r→Red k tt C D):Red (k+1) tt C (f x=some r→D):=⟨fun b=>(k' h).h (b h)⟩
theorem rb_a {e:Option γ} {f:γ→Option α} {F:α→Option β} (h:(e.bind f).bind F=some r) (k':(e.bind fun y=>(f y).bind F)=some r→Red k tt C D):Red (k+1) tt C ((e.bind fun y=>(f y).bind F)=some r→D):=by
 have h':(e.bind fun y=>(f y).bind F)=some r:=by
  cases e
  ·exact h
  ·exact h
 exact ⟨fun b=>(k' h').h (b h')⟩
theorem q_b {P:Program} {os:List Oper} {K:(Nat→Value)→Prop} {l:List Nat} {f:Nat→Value} {e:Option γ} {F:γ→Option β} {D:γ→Prop} (h:e.bind F=some r) (k':∀ x,e=some x→F x=some r→Red k tt (QR P os n w K l f) (D x)):Red (k+1) tt (QR P os n w K l f) (∀ x,e=some x→F x=some r→D x):=⟨fun b=>bE h fun x h1 h2=>(k' x h1 h2).h (b x h1 h2)⟩
theorem l_b {P:Program} {os:List Oper} {f:Nat→Value} {o:Oper} {G:Value→World→Prop} {e:Option γ} {F:γ→Option β} {D:γ→Prop} (h:e.bind F=some r) (k':∀ x,e=some x→F x=some r→Red k tt (LS P os n f w o G) (D x)):Red (k+1) tt (LS P os n f w o G) (∀ x,e=some x→F x=some r→D x):=⟨fun b=>bE h fun x h1 h2=>(k' x h1 h2).h (b x h1 h2)⟩
theorem rb_t {b:Bool} {B B':Option β} (h:(if b=true then B else B')=some r) (hb:b=true) (k':B=some r→Red k tt C D):Red (k+1) tt C (B=some r→D):=by
 rw [I0 hb] at h
 exact ⟨fun x=>(k' h).h (x h)⟩
theorem rb_f {b:Bool} {B B':Option β} (h:(if b=true then B else B')=some r) (hb:b=false) (k':B'=some r→Red k tt C D):Red (k+1) tt C (B'=some r→D):=by
 rw [J0 (by rw [hb]; simp)] at h
 exact ⟨fun x=>(k' h).h (x h)⟩
end
section
variable {o:Oper} {j s:Nat} {bb b:Bool} {q:Prop} [Decidable q] {α β:Type} {A A':Option α} {F:α→Option β} {r:β}
theorem g_B (hg:o.guard=some (j,bb)) (ht:(ops[j]?).bind (·.dst)=some s) (hs:nst tt s=true) (hf:lk L s=some (.bool b)) (h1:b=true→Red k tt (Md P Q n g' Z (.l ops (o::rest)) ((s,.bool true)::L) w) B1) (h2:b=false→Red k tt (Md P Q n g' Z (.l ops (o::rest)) ((s,.bool false)::L) w) B2):Red (k+1) tt (Md P Q n g' Z (.l ops (o::rest)) L w) ((b=true→B1)∧(b=false→B2)):=⟨fun h=>gB s hf (fun e=>(h1 e).h (h.1 e)) fun e=>(h2 e).h (h.2 e)⟩
theorem ifb (hM:(if q then A else A').bind F=some r):(if q then A.bind F else A'.bind F)=some r:=by
 by_cases h:q
 ·rw [I0 h] at hM ⊢; exact hM
 ·rw [J0 h] at hM ⊢; exact hM
theorem g_I (hM:(if q then A else A').bind F=some r) (hg:o.guard=some (j,bb)) (ht:(ops[j]?).bind (·.dst)=some s) (hs:nst tt s=true) (hf:lk L s=some (.bool (decide q))) (h1:q→A.bind F=some r→Red k tt (Md P Q n g' Z (.l ops (o::rest)) ((s,.bool true)::L) w) B1) (h2:¬ q→A'.bind F=some r→Red k tt (Md P Q n g' Z (.l ops (o::rest)) ((s,.bool false)::L) w) B2):Red (k+1) tt (Md P Q n g' Z (.l ops (o::rest)) L w) ((q→A.bind F=some r→B1)∧(¬ q→A'.bind F=some r→B2)):=⟨fun h=>gI s (ifb hM) hf (fun e f=>(h1 e f).h (h.1 e f)) fun e f=>(h2 e f).h (h.2 e f)⟩
theorem g_M (hM:(if q then A else A').bind F=some r) (hg:o.guard=some (j,bb)) (ht:(ops[j]?).bind (·.dst)=some s) (hs:nst tt s=true) (hf:lk L s=some (.bool (!decide q))) (h1:q→A.bind F=some r→Red k tt (Md P Q n g' Z (.l ops (o::rest)) ((s,.bool false)::L) w) B1) (h2:¬ q→A'.bind F=some r→Red k tt (Md P Q n g' Z (.l ops (o::rest)) ((s,.bool true)::L) w) B2):Red (k+1) tt (Md P Q n g' Z (.l ops (o::rest)) L w) ((q→A.bind F=some r→B1)∧(¬ q→A'.bind F=some r→B2)):=⟨fun h=>gIn s (ifb hM) hf (fun e f=>(h1 e f).h (h.1 e f)) fun e f=>(h2 e f).h (h.2 e f)⟩
theorem g_J (hM:(if b=true then A else A').bind F=some r) (hg:o.guard=some (j,bb)) (ht:(ops[j]?).bind (·.dst)=some s) (hs:nst tt s=true) (hf:lk L s=some (.bool b)) (h1:b=true→A.bind F=some r→Red k tt (Md P Q n g' Z (.l ops (o::rest)) ((s,.bool true)::L) w) B1) (h2:¬ b=true→A'.bind F=some r→Red k tt (Md P Q n g' Z (.l ops (o::rest)) ((s,.bool false)::L) w) B2):Red (k+1) tt (Md P Q n g' Z (.l ops (o::rest)) L w) ((b=true→A.bind F=some r→B1)∧(¬ b=true→A'.bind F=some r→B2)):=⟨fun h=>gJ s (ifb hM) hf (fun e f=>(h1 e f).h (h.1 e f)) fun e f=>(h2 e f).h (h.2 e f)⟩
theorem g_N (hM:(if b=true then A else A').bind F=some r) (hg:o.guard=some (j,bb)) (ht:(ops[j]?).bind (·.dst)=some s) (hs:nst tt s=true) (hf:lk L s=some (.bool (!b))) (h1:b=true→A.bind F=some r→Red k tt (Md P Q n g' Z (.l ops (o::rest)) ((s,.bool false)::L) w) B1) (h2:¬ b=true→A'.bind F=some r→Red k tt (Md P Q n g' Z (.l ops (o::rest)) ((s,.bool true)::L) w) B2):Red (k+1) tt (Md P Q n g' Z (.l ops (o::rest)) L w) ((b=true→A.bind F=some r→B1)∧(¬ b=true→A'.bind F=some r→B2)):=⟨fun h=>gJn s (ifb hM) hf (fun e f=>(h1 e f).h (h.1 e f)) fun e f=>(h2 e f).h (h.2 e f)⟩
end
section
variable {α:Type} {E:Rp α} {l l':List α} {T e U:TypeId} {q z:α} {x y:Operand} {i:Int} {ik:IntKind} {s:Nat} {cs:List Value}
theorem s_mk {B:Hdr→World→Prop} (hg:wqg ops n L g=some true) (hx:ov n L x=some (.int ik i)) (S:SlC P T e E q) (nu:St w0 mu rs w) (hk:mkL q i=some l) (r:∀ (h:Hdr) (w':World),St w0 mu (row e E h.v l::rs) w'→Red k tt (Md P Q n g' Z (.l ops rest) ((d,h.v)::L) w') (B h w')):Red (k+1) tt (Md P Q n g' Z (.l ops (⟨some d,.makeSlice T x x,t,p,af,g⟩::rest)) L w) (∀ (h:Hdr) (w':World),St w0 mu (row e E h.v l::rs) w'→B h w'):=ryh hg (rMk nu S.h (O1 hx) hk) r
theorem Ko (hg:wqg ops n L g=some true) (hx:ov n L x=some v) (hy:ov n L y=some (.int ik i)) (S:SlC P T e E q) (nu:St w0 mu rs w) (hr:Rd mu rs E v l) (hz:setI l i z=some l') (r:Red k tt (Md P Q n g' Z (.l ops rest) ((d,eAddr v E.s i)::L) w) B):Red (k+1) tt (Md P Q n g' Z (.l ops (⟨some d,.indexAddr T x y,t,p,af,g⟩::rest)) L w) B:=ry hg (yIs S.h (O1 hx) (O1 hy) nu hr hz) r
theorem s_se {B:World→Prop} (hg:wqg ops n L g=some true) (hx:ov n L x=some (eAddr v s i)) (O:OnC P T) (nu:St w0 mu rs w) (M:ExR v rs U E l su) (hs:E.s=s) (h1:E.s=1) (hy:ov n L y=some u) (hm:Mk mu E cs z) (hc:u.cells=cs.toArray) (hq:setI l i z=some l') (r:∀ (w':World),St w0 mu (row U E v l'::su) w'→Red k tt (Md P Q n g' Z (.l ops rest) L w') (B w')):Red (k+1) tt (Md P Q n g' Z (.l ops (⟨none,.store T x y,t,p,af,g⟩::rest)) L w) (∀ (w':World),St w0 mu (row U E v l'::su) w'→B w'):=by
 subst hs
 exact ryt hg (V1 (nu.pm M.h) O.h h1 (O1 hx) (O1 hy) hc hm hq) r
class MkL (mu:List Fact) {α:Type} (E:Rp α) (cs:List Value) (z:outParam α):Prop where
 h:Mk mu E cs z
class ImC (v:Value) (mu:List Fact) {α:Type} (E:Rp α) (l:outParam (List α)):Prop where
 h:imm E v l∈mu
theorem s_l1 {B:Hdr→World→Prop} (hg:wqg ops n L g=some true) (hx:ov n L x=some u) (S:SlC P T e E q) (nu:St w0 mu rs w) (M:Cll u cs) (hc:u.cells=cs.toArray) (hm:MkL mu E cs z) (hn:Nat.ble (1*E.s) 16777216=true) (r:∀ (h:Hdr) (w':World),St w0 mu (row e E h.v [z]::rs) w'→Red k tt (Md P Q n g' Z (.l ops rest) ((d,h.v)::L) w') (B h w')):Red (k+1) tt (Md P Q n g' Z (.l ops (⟨some d,.buildSlice T 1 #[(0,x)],t,p,af,g⟩::rest)) L w) (∀ (h:Hdr) (w':World),St w0 mu (row e E h.v [z]::rs) w'→B h w'):=ryh hg (rLt (n:=1) (l:=[z]) nu S.h [u] (bp1 (O1 hx)) rfl hn (J1 hc hm.h L1)) r
theorem s_ct (hg:wqg ops n L g=some true) (hx:ov n L x=some (eAddr v s i)) (O:OnC P T) (nu:St w0 mu rs w) (hm:cat v s i cs∈mu) (hu:cs[0]?=some u) (r:Red k tt (Md P Q n g' Z (.l ops rest) ((d,u)::L) w) B):Red (k+1) tt (Md P Q n g' Z (.l ops (⟨some d,.load T x,t,p,af,g⟩::rest)) L w) B:=ry hg (yCt O.h (O1 hx) nu hm hu) r
theorem s_cn {j:Nat} (hg:wqg ops n L g=some true) (hx:ov n L x=some (eAddr v s i)) (O:StC P T j) (nu:St w0 mu rs w) (hm:cat v s i cs∈mu) (hj:s=j) (hl:cs.length=j) (r:Red k tt (Md P Q n g' Z (.l ops rest) ((d,.agg cs.toArray)::L) w) B):Red (k+1) tt (Md P Q n g' Z (.l ops (⟨some d,.load T x,t,p,af,g⟩::rest)) L w) B:=by
 subst hj
 exact ry hg (jg O.h hl (O1 hx) nu hm) r
end
section
variable {mu:List Fact} {k:IntKind} {x:Int} {b:Bool} {α β:Type} {A:Rp α} {B:Rp β} {y:α} {z:β} {c v:Value} {cs:List Value} {l:List α} {q:Fact} {h:Hdr}
instance:MkL mu (rI k) [.int k x] x:=⟨mkI⟩
instance:MkL mu rB [.bool b] b:=⟨mkB⟩
instance [p:MkL mu A [c] y] [r:MkL mu B cs z]:MkL mu (rP A B) (c::cs) (y,z):=⟨mkP (c1:=[c]) p.h r.h⟩
instance (priority:=2000):ImC v (imm A v l::mu) A l:=⟨.head _⟩
instance (priority:=1000) [i:ImC v mu A l]:ImC v (q::mu) A l:=⟨.tail _ i.h⟩
instance [i:ImC h.v mu A l]:MkL mu (rS A) [h.v] l:=⟨mkS i.h⟩
end
section
variable {fn:Func} {R:Ending→World→Prop} {r1 r2 r3:ResultVar} {v1 v2 v3:Value}
theorem e_a (hQ:∀ e a w,bodyPost P fn R e a w→Q e a w) (hr:fn.results=#[r1]) (h1:RV P (ups L g') w n r1 v1) (h:R (.returned v1) w):Md P Q n g' [] (.x .ret) L w:=za hQ hr h h1
theorem e_b (hQ:∀ e a w,bodyPost P fn R e a w→Q e a w) (hr:fn.results=#[r1,r2]) (h1:RV P (ups L g') w n r1 v1) (h2:RV P (ups L g') w n r2 v2) (h:R (.returned (.tuple #[v1,v2])) w):Md P Q n g' [] (.x .ret) L w:=zb hQ hr h h1 h2
theorem e_c (hQ:∀ e a w,bodyPost P fn R e a w→Q e a w) (hr:fn.results=#[r1,r2,r3]) (h1:RV P (ups L g') w n r1 v1) (h2:RV P (ups L g') w n r2 v2) (h3:RV P (ups L g') w n r3 v3) (h:R (.returned (.tuple #[v1,v2,v3])) w):Md P Q n g' [] (.x .ret) L w:=zc hQ hr h h1 h2 h3
theorem rvS2 {b:Nat} {T U:TypeId} {vals:List Value} {pt:Tmp} {j:Nat} (ht:Nat.blt pt n=true) (hp:ups L g' pt=.pointer (some ⟨b,0,none⟩)) (nu:St w0 mu rs w) (M:BxI b rs U vals) (hT:StC P T j) (hk:vals.length=j):RV P (ups L g') w n (.cell pt T) (.agg vals.toArray):=V2 ht hp nu M.h hT.h hk
end
def ldq:Oper→Bool
 | ⟨_,o,_,_,_,_⟩=>match o with
  | .move _ | .pick _ _ _ | .build _ _ | .load _ _ | .nilCheck _ | .binOp _ _ _ _ _ | .unOp _ _ _ | .convert _ _ _ | .makeFunc _ _ _ | .slice _ _ _ _ _ | .fieldAddr _ _ _ | .field _ _ _ | .indexAddr _ _ _ | .index _ _ _ | .extract _ _=>false
  | .call ⟨.builtin .len,_,_⟩ | .call ⟨.builtin .cap,_,_⟩ | .call ⟨.builtin .min,_,_⟩ | .call ⟨.builtin .max,_,_⟩=>false
  | _=>true
def ldl:Nat→List Oper→List Nat
 | _,[]=>[]
 | i,o::l=>bif ldq o then i::ldl (i+1) l else ldl (i+1) l
class FoM (P:Program):Prop where
 h:P.follows .mixedOrders=true
theorem s_dr {id:Nat} {os:List Oper} {lo:List Nat} {m:Nat} {B:Prop} (hm:FoM P) (hl:ldl 0 os=lo) (hn:lo.length=m) (nu:St w0 mu rs w) (hc:allOK os (tbo os) lo=true) (Nu:lo.all (fun k=>Nat.blt k os.length)=true)
  (r:St w0 mu rs {w with drawn:=w.drawn+1 }→Red k tt (DR P os (tbo os) lo n (RK P Q Z) m [] (ups L g') {w with drawn:=w.drawn+1 }) B):Red (k+1) tt (Md P Q n g' Z (.c (.region id os.toArray true)) L w) (St w0 mu rs {w with drawn:=w.drawn+1 }→B):=
 ⟨fun b=>dS (f:=ups L g') lo m hm.h ((r nu.drew).h (b nu.drew)) hc Nu (by rw [hn]; exact Nat.beq_refl m)⟩
end
end Sx
/- Runs of steps that are found by search: the search itself. It holds over any program. -/
namespace Sx
open Go
theorem tM0 {A:Prop} (h:A:=by first | exact mhF | assumption):A:=h
theorem tM1 {A:Prop} (h:A:=by first | exact mhF | assumption | exact mtF tM0):A:=h
theorem tM2 {A:Prop} (h:A:=by first | exact mhF | assumption | exact mtF tM1):A:=h
theorem tM3 {A:Prop} (h:A:=by first | exact mhF | assumption | exact mtF tM2):A:=h
theorem tM4 {A:Prop} (h:A:=by first | exact mhF | assumption | exact mtF tM3):A:=h
theorem tM5 {A:Prop} (h:A:=by first | exact mhF | assumption | exact mtF tM4):A:=h
theorem tM6 {A:Prop} (h:A:=by first | exact mhF | assumption | exact mtF tM5):A:=h
theorem tM7 {A:Prop} (h:A:=by first | exact mhF | assumption | exact mtF tM6):A:=h
theorem tM8 {A:Prop} (h:A:=by first | exact mhF | assumption | exact mtF tM7):A:=h
theorem tM {A:Prop} (h:A:=by first | exact mhF | assumption | exact mtF tM8):A:=h
theorem tR {A:Prop} (h:A:=by first | exact RD.h | exact rdN | exact rdI tM):A:=h
theorem tA {A:Prop} (h:A:=by first | with_reducible assumption | with_reducible_and_instances assumption):A:=h
theorem tN {A:Prop} (h:A:=by first | infer_instance | (simp only [Nat.reduceAdd]; infer_instance)):A:=h
theorem tW0 {A:Prop} (h:A:=by exact Pm.rfl'):A:=h
theorem tW1 {A:Prop} (h:A:=by first | exact Pm.rfl' | (apply Pm.row; exact tW0) | (apply Pm.box; exact tW0) | (apply Pm.fam; exact tW0)):A:=h
theorem tW2 {A:Prop} (h:A:=by first | exact Pm.rfl' | (apply Pm.row; exact tW1) | (apply Pm.box; exact tW1) | (apply Pm.fam; exact tW1)):A:=h
theorem tW3 {A:Prop} (h:A:=by first | exact Pm.rfl' | (apply Pm.row; exact tW2) | (apply Pm.box; exact tW2) | (apply Pm.fam; exact tW2)):A:=h
theorem tW4 {A:Prop} (h:A:=by first | exact Pm.rfl' | (apply Pm.row; exact tW3) | (apply Pm.box; exact tW3) | (apply Pm.fam; exact tW3)):A:=h
theorem tS {A:Prop} (h:A:=by first | exact a | (apply St.pm a; exact tW4)):A:=h
theorem tG {A:Prop} (h:A:=by apply h; (all_goals (try exact tS)); (all_goals (try (apply fm; exact tM))); (all_goals (exact p))):A:=h
theorem tP {A:Prop} (h:A:=by refine uc fun h=>?_; first | exact tG | (apply cfz a; infer_instance; intro a; exact tG) | (apply cfz a; infer_instance; intro a; apply cfz a; infer_instance; intro a; exact tG) | (apply cfz a; infer_instance; intro a; apply cfz a; infer_instance; intro a; apply cfz a; infer_instance; intro a; exact tG)):A:=h
theorem tH {A:Prop} (h:A:=by apply h; (all_goals (try exact tS)); (all_goals (try (apply fm; exact tM))); (all_goals (exact tA))):A:=h
theorem tC {A:Prop} (h:A:=by refine uc fun h=>?_; first | exact tH | (apply cfz a; infer_instance; intro a; exact tH) | (apply cfz a; infer_instance; intro a; apply cfz a; infer_instance; intro a; exact tH) | (apply cfz a; infer_instance; intro a; apply cfz a; infer_instance; intro a; apply cfz a; infer_instance; intro a; exact tH)):A:=h
theorem tY {A:Prop} (h:A:=by first | (apply xu; exact rfl; infer_instance; exact a; infer_instance; exact rfl) | (apply wu; exact rfl; infer_instance; exact a; infer_instance; exact tN; exact rfl) | (apply vu; exact rfl; infer_instance; exact a; exact tR) | (apply yu; exact rfl; exact rfl; infer_instance; exact a; exact tR; exact tA) | (apply yi_I; exact rfl; infer_instance; exact a; exact tR; exact tA) | (apply Au; infer_instance; exact rfl; infer_instance; exact rfl) | (apply uu; exact rfl; exact rfl; kernel_rfl) | (apply zu; exact rfl; exact rfl; kernel_rfl)):A:=h
theorem tQ {A:Prop} (h:A:=by (repeat (first | (apply qS; exact rfl) | (apply d_s; exact rfl; exact rfl; exact rfl; exact tY))); exact QSn):A:=h
theorem tJ {A:Prop} (h:A:=by (repeat (first | apply Pm.cons | apply Pm.a1 | apply Pm.a2 | apply Pm.a3 | apply Pm.a4 | apply Pm.a5 | apply Pm.a6 | apply Pm.a7 | apply Pm.a8 | apply Pm.a9 | apply Pm.drop)); exact Pm.rfl'):A:=h
theorem tK {A:Prop} (h:A:=by (repeat (first | (apply U0; exact tM) | apply M0)); exact M1):A:=h
theorem tL {A:Prop} (h:A:=by refine cvt a tJ tK):A:=h
theorem tV {A:Prop} (h:A:=by first | exact ⟨rfl,rfl⟩ | (apply rvS2; exact rfl; exact rfl; exact a; infer_instance; infer_instance; exact rfl)):A:=h
theorem tE {A:Prop} (h:A:=by first | (refine ⟨rfl,?_⟩; exact tL) | (refine ⟨_,rfl,?_⟩; exact tL) | (refine ⟨_,_,rfl,?_⟩; exact tL) | (refine ⟨_,_,_,rfl,?_⟩; exact tL)):A:=h
theorem z (k t:Nat) {A B:Prop} (b:B) (h:Red k t A B:=by
 repeat (first
  | (apply rq 8; exact rfl)
  | (apply rq 2; exact rfl)
  | (apply rq 1; exact rfl)
  | (apply Jo; exact rfl; exact rfl; infer_instance; exact a; infer_instance; exact rfl)
  | (apply Io; exact rfl; exact rfl; infer_instance; exact a; infer_instance; exact tN; exact rfl)
  | (apply Ho; exact rfl; exact rfl; infer_instance; exact a; exact tR)
  | (apply Lo; exact rfl; exact rfl; exact rfl; infer_instance; exact a; exact tR; exact c; intro x p c)
  | (apply rh; exact rfl; exact rfl; exact rfl; infer_instance; exact a; exact tR; exact tA)
  | (apply s_I; exact rfl; exact rfl; infer_instance; exact a; exact tR; exact tA)
  | (apply Oo; exact rfl; infer_instance; exact rfl; infer_instance; exact rfl)
  | (apply Ro; exact rfl; infer_instance; exact a; intro b w a)
  | (apply No; exact rfl; exact rfl; exact rfl; exact a; intro b w a)
  | (apply Po; exact rfl; exact rfl; infer_instance; exact rfl; exact a; infer_instance; exact rfl; exact rfl; exact rfl; exact tN; intro w a)
  | (apply Qo; exact rfl; exact rfl; infer_instance; exact rfl; exact a; infer_instance; exact rfl; exact rfl; exact rfl; exact tN; intro w a)
  | (apply rbE c; intro x p c; apply rcZ; exact rfl; exact rfl; exact tP; intro w a)
  | (apply rbE c; intro x p c; apply rcO; exact rfl; exact rfl; exact tP; intro h w a)
  | (apply rcZ; exact rfl; exact rfl; exact tC; intro w a)
  | (apply rcO; exact rfl; exact rfl; exact tC; intro h w a)
  | (apply rbE c; intro x p c; apply rcT; exact rfl; exact rfl; exact tP; intro h h w a)
  | (apply rbE c; intro x p c; apply rcR; exact rfl; exact rfl; exact tP; intro h h h w a)
  | (apply rcT; exact rfl; exact rfl; exact tC; intro h h w a)
  | (apply rcR; exact rfl; exact rfl; exact tC; intro h h h w a)
  | (apply rbE c; intro x p c; apply ye; exact rfl; exact rfl; infer_instance; exact rfl; exact a; infer_instance; exact tR; exact p; intro h w a)
  | (apply ye; exact rfl; exact rfl; infer_instance; exact rfl; exact a; infer_instance; exact tR; exact tA; intro h w a)
  | (apply rbE c; intro x p c; apply we; exact rfl; exact rfl; exact rfl; exact p)
  | (apply we; exact rfl; exact rfl; exact rfl; exact tA)
  | (apply rbE c; intro x p c; apply xe; exact rfl; exact rfl; exact rfl; exact p)
  | (apply xe; exact rfl; exact rfl; exact rfl; exact tA)
  | (apply rbE c; intro x p c; apply ve; exact rfl; exact rfl; exact rfl; exact p)
  | (apply ve; exact rfl; exact rfl; exact rfl; exact tA)
  | (apply rbE c; intro x p c; apply ue; exact rfl; exact rfl; exact rfl; exact p)
  | (apply ue; exact rfl; exact rfl; exact rfl; exact tA)
  | (apply d_z; (conv=>lhs; reduce); (conv=>lhs; reduce))
  | (apply d_n; (conv=>lhs; reduce); (conv=>lhs; reduce); (conv=>lhs; reduce))
  | (apply d_q 4; exact rfl)
  | (apply d_q 1; exact rfl)
  | (apply d_e; exact tQ)
  | (apply d_r; exact tQ)
  | (apply d_1; exact rfl)
  | (apply d_0; exact rfl)
  | (apply d_y; exact rfl; exact rfl; exact tY)
  | (apply Rh; exact rfl; infer_instance; exact a; intro b w a)
  | (apply Nh; exact rfl; exact rfl; exact rfl; exact a; intro b w a)
  | (apply Oh; exact rfl; exact rfl; infer_instance; exact rfl; exact a; infer_instance; exact rfl; exact rfl; exact rfl; exact tN; intro w a)
  | (apply Ph; exact rfl; exact rfl; infer_instance; exact rfl; exact a; infer_instance; exact rfl; exact rfl; exact rfl; exact tN; intro w a)
  | (apply lcZ; exact rfl; exact rfl; exact tC; intro w a)
  | (apply lcO; exact rfl; exact rfl; exact tC; intro h w a)
  | (apply lcT; exact rfl; exact rfl; exact tC; intro h h w a)
  | (apply lcR; exact rfl; exact rfl; exact tC; intro h h h w a)
  | (apply Qh; exact rfl; exact rfl; infer_instance; exact rfl; exact a; infer_instance; exact tR; exact tA; intro h w a)
  | (apply l_q; exact rfl; exact rfl)
  | (apply l_y; exact rfl; exact tY)
  | (apply l_x; exact rfl))
 repeat (first | (apply d_z; (conv=>lhs; reduce); (conv=>lhs; reduce)) | (apply d_n; (conv=>lhs; reduce); (conv=>lhs; reduce); (conv=>lhs; reduce)) | (apply d_q 4; exact rfl) | (apply d_q 1; exact rfl) | (apply d_e; exact tQ) | (apply d_r; exact tQ) | (apply d_1; exact rfl) | (apply d_0; exact rfl))
 first | (apply rqT; exact rfl) | exact Red.of):A:=h.h b
theorem zx {A B:Prop} (h:Red 1000 0 A B:=by
 repeat' (first
  | (apply d_z; (conv=>lhs; reduce); (conv=>lhs; reduce))
  | (apply d_n; (conv=>lhs; reduce); (conv=>lhs; reduce); (conv=>lhs; reduce))
  | (apply d_q 4; exact rfl)
  | (apply d_q 1; exact rfl)
  | (apply d_e; exact tQ)
  | (apply d_r; exact tQ)
  | (apply d_1; exact rfl)
  | (apply d_0; exact rfl)
  | (apply d_y; exact rfl; exact rfl; exact tY)
  | (apply Rh; exact rfl; infer_instance; exact a; intro b w a)
  | (apply Nh; exact rfl; exact rfl; exact rfl; exact a; intro b w a)
  | (apply Oh; exact rfl; exact rfl; infer_instance; exact rfl; exact a; infer_instance; exact rfl; exact rfl; exact rfl; exact tN; intro w a)
  | (apply Ph; exact rfl; exact rfl; infer_instance; exact rfl; exact a; infer_instance; exact rfl; exact rfl; exact rfl; exact tN; intro w a)
  | (apply lcZ; exact rfl; exact rfl; exact tC; intro w a)
  | (apply lcO; exact rfl; exact rfl; exact tC; intro h w a)
  | (apply lcT; exact rfl; exact rfl; exact tC; intro h h w a)
  | (apply lcR; exact rfl; exact rfl; exact tC; intro h h h w a)
  | (apply Qh; exact rfl; exact rfl; infer_instance; exact rfl; exact a; infer_instance; exact tR; exact tA; intro h w a)
  | (apply l_q; exact rfl; exact rfl)
  | (apply l_y; exact rfl; exact tY)
  | (apply l_x; exact rfl)
  | (apply Br; exact rfl)
  | (apply Cr; exact rfl)
  | (apply Mq; exact rfl; exact tL)
  | (apply N5 (_,_); exact rfl; exact tL)
  | (apply N5 (_,_,_); exact rfl; exact tL)
  | (apply N5 (_,_,_,_); exact rfl; exact tL)
  | (apply N5 _; exact rfl; exact tL)
  | (apply N5 (_,_,_,_,_); exact rfl; exact tL)
  | (apply N5 (_,_,_,_,_,_); exact rfl; exact tL))) (b:B:=by
 repeat' (first
  | exact trivial
  | apply And.intro
  | intro _)):A:=h.h b
theorem vt {A:Prop} (h:A:=by
 repeat' (first
  | exact trivial
  | apply And.intro
  | intro _)):A:=h
theorem vS {m:Nat} {A B:Prop} (h:Red 1000 m A B:=by
 repeat' (first
  | (apply rq 8; exact rfl)
  | (apply rq 2; exact rfl)
  | (apply rq 1; exact rfl)
  | (with_reducible (apply rb_s c); intro c)
  | (with_reducible (apply rb_a c); intro c)
  | (apply Jo; exact rfl; exact rfl; infer_instance; exact a; infer_instance; exact rfl)
  | (apply Io; exact rfl; exact rfl; infer_instance; exact a; infer_instance; exact tN; exact rfl)
  | (apply Ho; exact rfl; exact rfl; infer_instance; exact a; exact tR)
  | (apply Lo; exact rfl; exact rfl; exact rfl; infer_instance; exact a; exact tR; exact c; intro x p c)
  | (apply rh; exact rfl; exact rfl; exact rfl; infer_instance; exact a; exact tR; exact tA)
  | (apply s_I; exact rfl; exact rfl; infer_instance; exact a; exact tR; exact tA)
  | (apply Oo; exact rfl; infer_instance; exact rfl; infer_instance; exact rfl)
  | (apply Ro; exact rfl; infer_instance; exact a; intro b w a)
  | (apply No; exact rfl; exact rfl; exact rfl; exact a; intro b w a)
  | (apply Po; exact rfl; exact rfl; infer_instance; exact rfl; exact a; infer_instance; exact rfl; exact rfl; exact rfl; exact tN; intro w a)
  | (apply Qo; exact rfl; exact rfl; infer_instance; exact rfl; exact a; infer_instance; exact rfl; exact rfl; exact rfl; exact tN; intro w a)
  | (apply rbE c; intro x p c; apply rcZ; exact rfl; exact rfl; exact tP; intro w a)
  | (apply rbE c; intro x p c; apply rcO; exact rfl; exact rfl; exact tP; intro h w a)
  | (apply rcZ; exact rfl; exact rfl; exact tC; intro w a)
  | (apply rcO; exact rfl; exact rfl; exact tC; intro h w a)
  | (apply rbE c; intro x p c; apply rcT; exact rfl; exact rfl; exact tP; intro h h w a)
  | (apply rbE c; intro x p c; apply rcR; exact rfl; exact rfl; exact tP; intro h h h w a)
  | (apply rcT; exact rfl; exact rfl; exact tC; intro h h w a)
  | (apply rcR; exact rfl; exact rfl; exact tC; intro h h h w a)
  | (apply rbE c; intro x p c; apply ye; exact rfl; exact rfl; infer_instance; exact rfl; exact a; infer_instance; exact tR; exact p; intro h w a)
  | (apply ye; exact rfl; exact rfl; infer_instance; exact rfl; exact a; infer_instance; exact tR; exact tA; intro h w a)
  | (apply rbE c; intro x p c; apply we; exact rfl; exact rfl; exact rfl; exact p)
  | (apply we; exact rfl; exact rfl; exact rfl; exact tA)
  | (apply rbE c; intro x p c; apply xe; exact rfl; exact rfl; exact rfl; exact p)
  | (apply xe; exact rfl; exact rfl; exact rfl; exact tA)
  | (apply rbE c; intro x p c; apply ve; exact rfl; exact rfl; exact rfl; exact p)
  | (apply ve; exact rfl; exact rfl; exact rfl; exact tA)
  | (apply rbE c; intro x p c; apply ue; exact rfl; exact rfl; exact rfl; exact p)
  | (apply ue; exact rfl; exact rfl; exact rfl; exact tA)
  | (apply rbE c; intro x p c; apply s_mk; exact rfl; exact rfl; infer_instance; exact a; exact p; intro h w a)
  | (apply rbE c; intro x p c; apply Ko; exact rfl; exact rfl; exact rfl; infer_instance; exact a; exact tR; exact p)
  | (apply Ko; exact rfl; exact rfl; exact rfl; infer_instance; exact a; exact tR; exact tA)
  | (apply s_se; exact rfl; exact rfl; infer_instance; exact a; infer_instance; exact rfl; exact rfl; exact rfl; first | exact mkI | exact mkB; exact rfl; exact tA; intro w a)
  | (apply s_l1; exact rfl; exact rfl; infer_instance; exact a; infer_instance; exact rfl; infer_instance; exact rfl; intro h w a)
  | (apply s_ct; exact rfl; exact rfl; infer_instance; exact a; exact tM; exact rfl)
  | (apply s_cn; exact rfl; exact rfl; infer_instance; exact a; exact tM; exact rfl; exact rfl)
  | (apply s_dr; infer_instance; (conv=>lhs; reduce); (conv=>lhs; reduce); exact a; kernel_rfl; kernel_rfl; intro a)
  | ((with_reducible (apply g_J c)); exact rfl; exact rfl; exact rfl; exact rfl; intro x c; rotate_left; intro x c; rotate_right)
  | ((with_reducible (apply g_I c)); exact rfl; exact rfl; exact rfl; exact rfl; intro x c; rotate_left; intro x c; rotate_right)
  | ((with_reducible (apply g_N c)); exact rfl; exact rfl; exact rfl; exact rfl; intro x c; rotate_left; intro x c; rotate_right)
  | ((with_reducible (apply g_M c)); exact rfl; exact rfl; exact rfl; exact rfl; intro x c; rotate_left; intro x c; rotate_right)
  | (apply g_B; exact rfl; exact rfl; exact rfl; exact rfl; intro x; (try rw [x] at c); rotate_left; intro x; (try rw [x] at c); rotate_right)
  | ((with_reducible (apply rb_t c)); exact rfl; intro c)
  | ((with_reducible (apply rb_f c)); exact rfl; intro c)
  | (apply d_z; (conv=>lhs; reduce); (conv=>lhs; reduce))
  | (apply d_n; (conv=>lhs; reduce); (conv=>lhs; reduce); (conv=>lhs; reduce))
  | (apply d_q 4; exact rfl)
  | (apply d_q 1; exact rfl)
  | (apply d_e; exact tQ)
  | (apply d_r; exact tQ)
  | (apply d_1; exact rfl)
  | (apply d_0; exact rfl)
  | (apply d_y; exact rfl; exact rfl; exact tY)
  | (apply Rh; exact rfl; infer_instance; exact a; intro b w a)
  | (apply Nh; exact rfl; exact rfl; exact rfl; exact a; intro b w a)
  | (apply Oh; exact rfl; exact rfl; infer_instance; exact rfl; exact a; infer_instance; exact rfl; exact rfl; exact rfl; exact tN; intro w a)
  | (apply Ph; exact rfl; exact rfl; infer_instance; exact rfl; exact a; infer_instance; exact rfl; exact rfl; exact rfl; exact tN; intro w a)
  | (apply lcZ; exact rfl; exact rfl; exact tC; intro w a)
  | (apply lcO; exact rfl; exact rfl; exact tC; intro h w a)
  | (apply lcT; exact rfl; exact rfl; exact tC; intro h h w a)
  | (apply lcR; exact rfl; exact rfl; exact tC; intro h h h w a)
  | (apply Qh; exact rfl; exact rfl; infer_instance; exact rfl; exact a; infer_instance; exact tR; exact tA; intro h w a)
  | (apply l_q; exact rfl; exact rfl)
  | (apply l_y; exact rfl; exact tY)
  | (apply l_x; exact rfl)
  | (apply q_b c; intro x p c)
  | (apply l_b c; intro x p c)
  | (apply Br; exact rfl)
  | (apply Cr; exact rfl)
  | (apply N5 _; exact rfl; exact ⟨tL,c⟩)
  | (apply N5 (_,_); exact rfl; exact ⟨tL,c⟩)
  | (apply N5 (_,_,_); exact rfl; exact ⟨tL,c⟩)
  | (apply N5 (_,_,_,_); exact rfl; exact ⟨tL,c⟩)
  | (apply N5 (_,_,_,_,_); exact rfl; exact ⟨tL,c⟩)
  | (apply N5 (_,_,_,_,_,_); exact rfl; exact ⟨tL,c⟩)
  | (apply b_J c; exact rfl; exact rfl; intro x c; rotate_left; intro x c; rotate_right)
  | (apply b_I c; exact rfl; exact rfl; intro x c; rotate_left; intro x c; rotate_right)
  | (apply b_N c; exact rfl; exact rfl; intro x c; rotate_left; intro x c; rotate_right)
  | (apply b_M c; exact rfl; exact rfl; intro x c; rotate_left; intro x c; rotate_right)
  | (apply b_T; exact rfl; exact tA)
  | (apply b_F; exact rfl; exact tA)
  | (apply Red.tr; cases c; apply e_a; assumption; exact rfl; exact tV; exact tE)
  | (apply Red.tr; cases c; apply e_b; assumption; exact rfl; exact tV; exact tV; exact tE)
  | (apply Red.tr; cases c; apply e_c; assumption; exact rfl; exact tV; exact tV; exact tV; exact tE)
  | (apply Red.tr; cases c; first | (apply lo; exact tL; exact rfl) | (apply xo; exact tL; exact rfl; exact rfl) | (apply ln _; exact tL) | (apply ln (_,_); exact tL) | (apply ln (_,_,_); exact tL) | (apply ln (_,_,_,_); exact tL) | (apply ln (_,_,_,_,_); exact tL) | (apply lx _; exact tL) | (apply lx (_,_); exact tL) | (apply lx (_,_,_); exact tL) | (apply lx (_,_,_,_); exact tL) | (apply lx (_,_,_,_,_); exact tL))
  | (apply Mq; exact rfl; exact tL)
  | (apply N5 (_,_); exact rfl; exact tL)
  | (apply N5 (_,_,_); exact rfl; exact tL)
  | (apply N5 (_,_,_,_); exact rfl; exact tL)
  | (apply N5 _; exact rfl; exact tL)
  | (apply N5 (_,_,_,_,_); exact rfl; exact tL)
  | (apply N5 (_,_,_,_,_,_); exact rfl; exact tL))
 all_goals (exact Red.id')):Red 1000 m A B:=h
theorem v (m:Nat) {A B:Prop} (b:B) (h:Red 1000 m A B:=by exact vS):A:=h.h b
theorem vx {A B:Prop} (h:Red 1000 0 A B:=by exact vS) (b:B:=by exact vt):A:=h.h b
end Sx
