/- Short forms of the steps: what is plain from the program's text is left out. It holds over any program. -/
import Derived.Test.YtoahkigijbeegaaGreatDoorSxO
namespace Sx
open Go
section
variable {P:Program} {ops:Array Oper} {Q:Exit→Act→World→Prop} {n:Nat} {f:Nat→Value} {w:World} {rest:List Oper} {a:Act} {d d':Nat} {t:TypeId} {p:String} {af:Array Edge} {ins:Op} {v:Value} {D:Option Tmp} {g:Option (Nat×Bool)}
theorem e0 {i:Nat} (ht:Nat.blt i n=true:=by exact rfl):(fr n f).eval (.tmp i)=f i:=et ht rfl
theorem a_ {x:Operand} (v:Value) (hx:a.eval x=v):Yi P a w ⟨D,.assign x,t,p,af,g⟩ v:=ya hx
theorem pt_ {c x y:Operand} (v:Value) {b:Bool} (hc:a.eval c=.bool b) (hb:b=true) (hx:a.eval x=v):Yi P a w ⟨D,.pick c x y,t,p,af,g⟩ v:=ypt hc hb hx
theorem pf_ {c x y:Operand} (v:Value) {b:Bool} (hc:a.eval c=.bool b) (hb:b=false) (hx:a.eval y=v):Yi P a w ⟨D,.pick c x y,t,p,af,g⟩ v:=ypf hc hb hx
theorem yC {g:FuncId} {args:Array Value} {R:Ending→World→Prop} (hy:(execOp (fr n f).eval ⟨some d,ins,t,p,af,none⟩).run P w=.ok (.enter g args) w) (hc:Calls P g args w R) (k:∀ e w',R e w'→∃ v,e=.returned v∧wpList P ops Q rest (fr n (upd f d v)) w'):wpList P ops Q (⟨some d,ins,t,p,af,none⟩::rest) (fr n f) w:=Yc wn rfl hy hc k
end
section
variable {P:Program} {os:List Oper} {tb lo D l1 l2 lc:List Nat} {n:Nat} {f:Nat→Value} {w:World} {Q:Exit→Act→World→Prop} {m:Nat} {v:Value} {d i:Nat} {ins:Op} {t:TypeId} {p:String} {af:Array Edge} {r:List Nat} {K:(Nat→Value)→Prop}
end
section
variable {P:Program} {Q:Exit→Act→World→Prop} {a:Act} {w:World} {x y:Code} {ops:Array Oper} {l:List Oper} {id:Nat}
end
theorem bE {α β:Type} {e:Option α} {g:α→Option β} {r:β} {G:Prop} (h:e.bind g=some r) (k:∀ x,e=some x→g x=some r→G):G:=by
 obtain ⟨x,h1,h2⟩:=bs h
 exact k x h1 h2
theorem cIf {P:Program} {Q:Exit→Act→World→Prop} {a:Act} {w:World} {c:Operand} {x y:Code} {p:Prop} [Decidable p] {α:Type} {A B:Option α} {r:α} (hc:a.eval c=.bool (decide p)) (hM:(if p then A else B)=some r) (h1:p→A=some r→x.wp P Q a w) (h2:¬ p→B=some r→y.wp P Q a w):(Code.cond c x y).wp P Q a w:=by
 rcases Z4 hM with ⟨h,hM⟩ | ⟨h,hM⟩
 ·exact wb hc (decide_eq_true h) (h1 h hM)
 ·exact xb hc (decide_eq_false h) (h2 h hM)
theorem cB {P:Program} {Q:Exit→Act→World→Prop} {a:Act} {w:World} {c:Operand} {x y:Code} {b:Bool} {α:Type} {A B:Option α} {r:α} (hc:a.eval c=.bool b) (hM:(if b=true then A else B)=some r) (h1:b=true→A=some r→x.wp P Q a w) (h2:¬ b=true→B=some r→y.wp P Q a w):(Code.cond c x y).wp P Q a w:=by
 rcases Z4 hM with ⟨h,hM⟩ | ⟨h,hM⟩
 ·exact wb hc h (h1 h hM)
 ·exact xb hc (by simpa using h) (h2 h hM)
theorem dT {p:Prop} [Decidable p] (h:p):decide p=true:=decide_eq_true h
theorem dF {p:Prop} [Decidable p] (h:¬ p):decide p=false:=decide_eq_false h
section
variable {P:Program} {f:Nat→Value} {a:Act} {w w0:World} {d:Option Tmp} {t:TypeId} {p:String} {af:Array Edge} {g:Option (Nat×Bool)} {mu:List Fact} {rs:List Res} {T:TypeId} {x:Operand}
theorem lb_ {b o:Nat} {vals:List Value} {bt:TypeId} (u:Value) (hO:OneT P T) (hx:a.eval x=.pointer (some ⟨b,o,none⟩)) (nu:St w0 mu rs w) (hm:box b bt vals∈rs) (hu:vals[o]?=some u:=by exact rfl):Yi P a w ⟨d,.load T x,t,p,af,g⟩ u:=yLb hO hx nu hm hu
theorem A1 {b o n:Nat} {vals:List Value} {bt:TypeId} (us:List Value) (hT:StT P T n) (hx:a.eval x=.pointer (some ⟨b,o,none⟩)) (nu:St w0 mu rs w) (hm:box b bt vals∈rs) (hu:(vals.drop o).take n=us:=by exact rfl) (hl:us.length=n:=by exact rfl):Yi P a w ⟨d,.load T x,t,p,af,g⟩ (.agg us.toArray):=Xj hT hx nu hm hu hl
end
abbrev iV (n:Int):Value:=.int .i64 n
abbrev pB (b:Nat):Value:=.pointer (some ⟨b,0,none⟩)
abbrev I1:=rI .i64
abbrev Zt:=rI .u32
abbrev au:=rP rB (rS Zt)
abbrev iu:=rI .u64
abbrev S1:=rS (rI .i64)
abbrev SB:=rS rB
theorem R0 {q:Res} {l:List Res}:q∈q::l:=.head _
theorem F0 {q:Fact} {l:List Fact}:q∈q::l:=.head _
theorem R1 {x1 q:Res} {l:List Res}:q∈x1::q::l:=mtR R0
theorem F1 {x1 q:Fact} {l:List Fact}:q∈x1::q::l:=mtF F0
theorem R2 {x1 x2 q:Res} {l:List Res}:q∈x1::x2::q::l:=mtR R1
theorem F2 {x1 x2 q:Fact} {l:List Fact}:q∈x1::x2::q::l:=mtF F1
theorem F_2 {x1 x2 q:Fact} {l:List Fact} (h:q∈l):q∈x1::x2::l:=mtF (mtF h)
theorem R3 {x1 x2 x3 q:Res} {l:List Res}:q∈x1::x2::x3::q::l:=mtR R2
theorem F3 {x1 x2 x3 q:Fact} {l:List Fact}:q∈x1::x2::x3::q::l:=mtF F2
theorem F_3 {x1 x2 x3 q:Fact} {l:List Fact} (h:q∈l):q∈x1::x2::x3::l:=mtF (F_2 h)
theorem R4 {x1 x2 x3 x4 q:Res} {l:List Res}:q∈x1::x2::x3::x4::q::l:=mtR R3
theorem F4 {x1 x2 x3 x4 q:Fact} {l:List Fact}:q∈x1::x2::x3::x4::q::l:=mtF F3
theorem F_4 {x1 x2 x3 x4 q:Fact} {l:List Fact} (h:q∈l):q∈x1::x2::x3::x4::l:=mtF (F_3 h)
theorem R5 {x1 x2 x3 x4 x5 q:Res} {l:List Res}:q∈x1::x2::x3::x4::x5::q::l:=mtR R4
theorem F_5 {x1 x2 x3 x4 x5 q:Fact} {l:List Fact} (h:q∈l):q∈x1::x2::x3::x4::x5::l:=mtF (F_4 h)
theorem R6 {x1 x2 x3 x4 x5 x6 q:Res} {l:List Res}:q∈x1::x2::x3::x4::x5::x6::q::l:=mtR R5
theorem F_6 {x1 x2 x3 x4 x5 x6 q:Fact} {l:List Fact} (h:q∈l):q∈x1::x2::x3::x4::x5::x6::l:=mtF (F_5 h)
theorem R7 {x1 x2 x3 x4 x5 x6 x7 q:Res} {l:List Res}:q∈x1::x2::x3::x4::x5::x6::x7::q::l:=mtR R6
theorem F_7 {x1 x2 x3 x4 x5 x6 x7 q:Fact} {l:List Fact} (h:q∈l):q∈x1::x2::x3::x4::x5::x6::x7::l:=mtF (F_6 h)
theorem R8 {x1 x2 x3 x4 x5 x6 x7 x8 q:Res} {l:List Res}:q∈x1::x2::x3::x4::x5::x6::x7::x8::q::l:=mtR R7
theorem F_8 {x1 x2 x3 x4 x5 x6 x7 x8 q:Fact} {l:List Fact} (h:q∈l):q∈x1::x2::x3::x4::x5::x6::x7::x8::l:=mtF (F_7 h)
theorem R9 {x1 x2 x3 x4 x5 x6 x7 x8 x9 q:Res} {l:List Res}:q∈x1::x2::x3::x4::x5::x6::x7::x8::x9::q::l:=mtR R8
theorem F_9 {x1 x2 x3 x4 x5 x6 x7 x8 x9 q:Fact} {l:List Fact} (h:q∈l):q∈x1::x2::x3::x4::x5::x6::x7::x8::x9::l:=mtF (F_8 h)
theorem R10 {x1 x2 x3 x4 x5 x6 x7 x8 x9 x10 q:Res} {l:List Res}:q∈x1::x2::x3::x4::x5::x6::x7::x8::x9::x10::q::l:=mtR R9
theorem R11 {x1 x2 x3 x4 x5 x6 x7 x8 x9 x10 x11 q:Res} {l:List Res}:q∈x1::x2::x3::x4::x5::x6::x7::x8::x9::x10::x11::q::l:=mtR R10
theorem R12 {x1 x2 x3 x4 x5 x6 x7 x8 x9 x10 x11 x12 q:Res} {l:List Res}:q∈x1::x2::x3::x4::x5::x6::x7::x8::x9::x10::x11::x12::q::l:=mtR R11
section
variable {α:Type} {E:Rp α} {T:TypeId} {v:Value} {l:List α} {mu:List Fact}
theorem rO0 {rs:List Res}:Rd mu (row T E v l::rs) E v l:=rdO R0
theorem rO1 {rs:List Res} {x1:Res}:Rd mu (x1::row T E v l::rs) E v l:=rdO R1
theorem rO2 {rs:List Res} {x1 x2:Res}:Rd mu (x1::x2::row T E v l::rs) E v l:=rdO R2
theorem rO3 {rs:List Res} {x1 x2 x3:Res}:Rd mu (x1::x2::x3::row T E v l::rs) E v l:=rdO R3
theorem rO4 {rs:List Res} {x1 x2 x3 x4:Res}:Rd mu (x1::x2::x3::x4::row T E v l::rs) E v l:=rdO R4
theorem rO6 {rs:List Res} {x1 x2 x3 x4 x5 x6:Res}:Rd mu (x1::x2::x3::x4::x5::x6::row T E v l::rs) E v l:=rdO R6
theorem rO7 {rs:List Res} {x1 x2 x3 x4 x5 x6 x7:Res}:Rd mu (x1::x2::x3::x4::x5::x6::x7::row T E v l::rs) E v l:=rdO R7
theorem rO8 {rs:List Res} {x1 x2 x3 x4 x5 x6 x7 x8:Res}:Rd mu (x1::x2::x3::x4::x5::x6::x7::x8::row T E v l::rs) E v l:=rdO R8
theorem rO10 {rs:List Res} {x1 x2 x3 x4 x5 x6 x7 x8 x9 x10:Res}:Rd mu (x1::x2::x3::x4::x5::x6::x7::x8::x9::x10::row T E v l::rs) E v l:=rdO R10
end
end Sx
