/- Short forms of the steps: what is plain from the program's text is left out. It holds over any program. -/
import Derived.Test.YtpfmbaidflhamaaDoorSxO
namespace Sx
open Go
section
variable {P:Program} {ops:Array Oper} {Q:Exit→Act→World→Prop} {n:Nat} {f:Nat→Value} {w:World} {rest:List Oper} {a:Act} {d d':Nat} {t:TypeId} {p:String} {af:Array Edge} {ins:Op} {v:Value} {D:Option Tmp} {g:Option (Nat×Bool)}
theorem e0 {i:Nat} (ht:Nat.blt i n=true:=by exact rfl):(fr n f).eval (.tmp i)=f i:=et ht rfl
theorem eh {i:Nat} (h:f i=v) (ht:Nat.blt i n=true:=by exact rfl):(fr n f).eval (.tmp i)=v:=et ht h
theorem m_ {x:Operand} (v:Value) (hx:a.eval x=v):Yi P a w ⟨D,.move x,t,p,af,g⟩ v:=ym hx
theorem a_ {x:Operand} (v:Value) (hx:a.eval x=v):Yi P a w ⟨D,.assign x,t,p,af,g⟩ v:=ya hx
theorem pt_ {c x y:Operand} (v:Value) {b:Bool} (hc:a.eval c=.bool b) (hb:b=true) (hx:a.eval x=v):Yi P a w ⟨D,.pick c x y,t,p,af,g⟩ v:=ypt hc hb hx
theorem pf_ {c x y:Operand} (v:Value) {b:Bool} (hc:a.eval c=.bool b) (hb:b=false) (hx:a.eval y=v):Yi P a w ⟨D,.pick c x y,t,p,af,g⟩ v:=ypf hc hb hx
theorem x_ {x:Operand} {i:Nat} {vs:Array Value} (v:Value) (hx:a.eval x=.tuple vs) (hv:vs[i]?=some v:=by exact rfl):Yi P a w ⟨D,.extract x i,t,p,af,g⟩ v:=yx hx hv
theorem Ym {x:Operand} (v:Value) (hx:(fr n f).eval x=v) (k:wpList P ops Q rest (fr n (upd f d v)) w):wpList P ops Q (⟨some d,.move x,t,p,af,none⟩::rest) (fr n f) w:=Y wn rfl (ym hx) k
theorem Ya {x:Operand} (v:Value) (hx:(fr n f).eval x=v) (k:wpList P ops Q rest (fr n (upd f d v)) w):wpList P ops Q (⟨some d,.assign x,t,p,af,none⟩::rest) (fr n f) w:=Y wn rfl (ya hx) k
theorem yY (hy:Yi P (fr n f) w ⟨some d,ins,t,p,af,none⟩ v) (k:wpList P ops Q rest (fr n (upd f d v)) w):wpList P ops Q (⟨some d,ins,t,p,af,none⟩::rest) (fr n f) w:=Y wn rfl hy k
theorem yH {S:Hdr→World→Prop} (hy:∃ (h:Hdr) (w':World),(execOp (fr n f).eval ⟨some d,ins,t,p,af,none⟩).run P w=.ok (.value h.v) w'∧S h w') (k:∀ (h:Hdr) (w':World),S h w'→wpList P ops Q rest (fr n (upd f d h.v)) w'):wpList P ops Q (⟨some d,ins,t,p,af,none⟩::rest) (fr n f) w:=YH wn rfl hy k
theorem yBb {S:Nat→World→Prop} (hy:∃ (b:Nat) (w':World),(execOp (fr n f).eval ⟨some d,ins,t,p,af,none⟩).run P w=.ok (.value (.pointer (some ⟨b,0,none⟩))) w'∧S b w') (k:∀ (b:Nat) (w':World),S b w'→wpList P ops Q rest (fr n (upd f d (.pointer (some ⟨b,0,none⟩)))) w'):wpList P ops Q (⟨some d,ins,t,p,af,none⟩::rest) (fr n f) w:=YB wn rfl hy k
theorem yT {S:World→Prop} (hy:∃ (w':World),(execOp (fr n f).eval ⟨none,ins,t,p,af,none⟩).run P w=.ok .skip w'∧S w') (k:∀ (w':World),S w'→wpList P ops Q rest (fr n f) w'):wpList P ops Q (⟨none,ins,t,p,af,none⟩::rest) (fr n f) w:=YT wn rfl hy k
theorem yC {g:FuncId} {args:Array Value} {R:Ending→World→Prop} (hy:(execOp (fr n f).eval ⟨some d,ins,t,p,af,none⟩).run P w=.ok (.enter g args) w) (hc:Calls P g args w R) (k:∀ e w',R e w'→∃ v,e=.returned v∧wpList P ops Q rest (fr n (upd f d v)) w'):wpList P ops Q (⟨some d,ins,t,p,af,none⟩::rest) (fr n f) w:=Yc wn rfl hy hc k
theorem wG {j:Nat} {b c:Bool} (hc:c=b) (hd:((ops[j]?).bind (·.dst))=some d:=by exact rfl) (ht:Nat.blt d n=true:=by exact rfl) (h:f d=.bool c:=by exact rfl):Wn ops n f (some (j,b)):=wg hd ht h hc
theorem wX {j:Nat} {b c:Bool} (hc:c=!b) (hd:((ops[j]?).bind (·.dst))=some d:=by exact rfl) (ht:Nat.blt d n=true:=by exact rfl) (h:f d=.bool c:=by exact rfl):Wx ops n f (some (j,b)):=wx hd ht h hc
theorem yG {j:Nat} {b c:Bool} (hc:c=b) (hy:Yi P (fr n f) w ⟨some d,ins,t,p,af,some (j,b)⟩ v) (k:wpList P ops Q rest (fr n (upd f d v)) w) (hd:((ops[j]?).bind (·.dst))=some d':=by exact rfl) (ht:Nat.blt d' n=true:=by exact rfl) (h:f d'=.bool c:=by exact rfl):wpList P ops Q (⟨some d,ins,t,p,af,some (j,b)⟩::rest) (fr n f) w:=Y (wg hd ht h hc) rfl hy k
theorem gN {j:Nat} {b c:Bool} (hc:c=!b) (k:wpList P ops Q rest (fr n (upd f d undef)) w) (hd:((ops[j]?).bind (·.dst))=some d':=by exact rfl) (ht:Nat.blt d' n=true:=by exact rfl) (h:f d'=.bool c:=by exact rfl):wpList P ops Q (⟨some d,ins,t,p,af,some (j,b)⟩::rest) (fr n f) w:=Gn (wx hd ht h hc) rfl k
end
section
variable {P:Program} {os:List Oper} {tb lo D l1 l2 lc:List Nat} {n:Nat} {f:Nat→Value} {w:World} {Q:Exit→Act→World→Prop} {m:Nat} {v:Value} {d i:Nat} {ins:Op} {t:TypeId} {p:String} {af:Array Edge} {r:List Nat} {K:(Nat→Value)→Prop}
theorem yR (ho:os[i]?=some ⟨some d,ins,t,p,af,none⟩) (hy:Yi P (fr n f) w ⟨some d,ins,t,p,af,none⟩ v) (k:QR P os n w K r (upd f d v)):QR P os n w K (i::r) f:=Ry ho rfl wn hy k
theorem yS (ho:os[i]?=some ⟨some d,ins,t,p,af,none⟩) (hy:Yi P (fr n f) w ⟨some d,ins,t,p,af,none⟩ v) (k:QS P os n w f r) (hv:f d=v:=by exact rfl):QS P os n w f (i::r):=Sy ho rfl wn hy hv k
theorem Dz (l1 l2:List Nat) (h:QR P os n w (fun f=>QS P os n w f l2∧Q .normal (fr n f) w) l1 f) (h1:newQ os.length tb lo D=l1:=by kernel_rfl) (h2:oldQ os.length tb lo D=l2:=by kernel_rfl):DR P os tb lo n Q 0 D f w:=DRz h1 h2 h
theorem Dn (l1 l2 lc:List Nat) (h:QR P os n w (fun f=>QS P os n w f l2∧LA P os n f w (fun e o v w'=>DR P os tb lo n Q m (e::D) (updO f o.dst v) w') lc) l1 f) (h1:newQ os.length tb lo D=l1:=by kernel_rfl) (h2:oldQ os.length tb lo D=l2:=by kernel_rfl) (h3:candL tb lo D=lc:=by kernel_rfl):DR P os tb lo n Q (m+1) D f w:=DRn h1 h2 h3 h
theorem Lc1 {o:Oper} {e:Nat} {G:Nat→Oper→Value→World→Prop} (ho:os[e]?=some o) (h:LS P os n f w o (G e o)):LA P os n f w G [e]:=Lc ho h LAn
end
section
variable {P:Program} {Q:Exit→Act→World→Prop} {a:Act} {w:World} {x y:Code} {ops:Array Oper} {l:List Oper} {id:Nat}
theorem wR (h:wpList P l.toArray Q l a w):(Code.region id l.toArray false).wp P Q a w:=wp_region_lit h
theorem wN (h:Q .normal a w):wpList P ops Q [] a w:=wpList_nil h
theorem wK {Q':Exit→Act→World→Prop} (k:∀ a w,y.wp P Q a w→Q' .normal a w) (h:y.wp P Q a w):wpList P ops Q' [] a w:=wpList_nil (k _ _ h)
theorem sQ (h:∀ Q':Exit→Act→World→Prop,(∀ a w,y.wp P Q a w→Q' .normal a w)→x.wp P Q' a w):(Code.seq x y).wp P Q a w:=seqQ fun Q' k _=>h Q' k
theorem sR (h:∀ Q':Exit→Act→World→Prop,(∀ a w,y.wp P Q a w→Q' .normal a w)→wpList P l.toArray Q' l a w):(Code.seq (Code.region id l.toArray false) y).wp P Q a w:=seqQ fun Q' k _=>wp_region_lit (h Q' k)
theorem dR {os:List Oper} {n:Nat} {f:Nat→Value} (tb lo:List Nat) (m:Nat) (hm:P.follows .mixedOrders=true) (h:DR P os tb lo n Q m [] f {w with drawn:=w.drawn+1 }) (hc:allOK os tb lo=true:=by kernel_rfl) (hlo:lo.all (fun k=>Nat.blt k os.length)=true:=by kernel_rfl) (hml:Nat.beq lo.length m=true:=by kernel_rfl):(Code.region id os.toArray true).wp P Q (fr n f) w:=wp_drawR tb lo m hm hc hlo hml h
end
theorem bE {α β:Type} {e:Option α} {g:α→Option β} {r:β} {G:Prop} (h:e.bind g=some r) (k:∀ x,e=some x→g x=some r→G):G:=by
  obtain ⟨x,h1,h2⟩:=bs h
  exact k x h1 h2
theorem cIf {P:Program} {Q:Exit→Act→World→Prop} {a:Act} {w:World} {c:Operand} {x y:Code} {p:Prop} [Decidable p] {α:Type} {A B:Option α} {r:α} (hc:a.eval c=.bool (decide p)) (hM:(if p then A else B)=some r) (h1:p→A=some r→x.wp P Q a w) (h2:¬ p→B=some r→y.wp P Q a w):(Code.cond c x y).wp P Q a w:=by
  rcases iteS hM with ⟨h,hM⟩ | ⟨h,hM⟩
  · exact condT hc (decide_eq_true h) (h1 h hM)
  · exact condF hc (decide_eq_false h) (h2 h hM)
theorem cB {P:Program} {Q:Exit→Act→World→Prop} {a:Act} {w:World} {c:Operand} {x y:Code} {b:Bool} {α:Type} {A B:Option α} {r:α} (hc:a.eval c=.bool b) (hM:(if b=true then A else B)=some r) (h1:b=true→A=some r→x.wp P Q a w) (h2:¬ b=true→B=some r→y.wp P Q a w):(Code.cond c x y).wp P Q a w:=by
  rcases iteS hM with ⟨h,hM⟩ | ⟨h,hM⟩
  · exact condT hc h (h1 h hM)
  · exact condF hc (by simpa using h) (h2 h hM)
theorem dT {p:Prop} [Decidable p] (h:p):decide p=true:=decide_eq_true h
theorem dF {p:Prop} [Decidable p] (h:¬ p):decide p=false:=decide_eq_false h
section
variable {P:Program} {f:Nat→Value} {a:Act} {w w0:World} {d:Option Tmp} {t:TypeId} {p:String} {af:Array Edge} {g:Option (Nat×Bool)} {ros:List Fact} {rs:List Res} {T:TypeId} {x:Operand}
theorem lb_ {b o:Nat} {vals:List Value} {bt:TypeId} (u:Value) (hO:OneT P T) (hx:a.eval x=.pointer (some ⟨b,o,none⟩)) (hst:St w0 ros rs w) (hm:box b bt vals∈rs) (hu:vals[o]?=some u:=by exact rfl):Yi P a w ⟨d,.load T x,t,p,af,g⟩ u:=yLb hO hx hst hm hu
theorem lbs_ {b o n:Nat} {vals:List Value} {bt:TypeId} (us:List Value) (hT:StT P T n) (hx:a.eval x=.pointer (some ⟨b,o,none⟩)) (hst:St w0 ros rs w) (hm:box b bt vals∈rs) (hu:(vals.drop o).take n=us:=by exact rfl) (hl:us.length=n:=by exact rfl):Yi P a w ⟨d,.load T x,t,p,af,g⟩ (.agg us.toArray):=yLbs hT hx hst hm hu hl
end
abbrev iV (n:Int):Value:=.int .i64 n
abbrev pB (b:Nat):Value:=.pointer (some ⟨b,0,none⟩)
abbrev I1:=rI .i64
theorem R0 {q:Res} {l:List Res}:q∈q::l:=.head _
theorem F0 {q:Fact} {l:List Fact}:q∈q::l:=.head _
theorem R1 {x1 q:Res} {l:List Res}:q∈x1::q::l:=mtR R0
theorem F1 {x1 q:Fact} {l:List Fact}:q∈x1::q::l:=mtF F0
theorem R2 {x1 x2 q:Res} {l:List Res}:q∈x1::x2::q::l:=mtR R1
theorem F2 {x1 x2 q:Fact} {l:List Fact}:q∈x1::x2::q::l:=mtF F1
theorem F_2 {x1 x2 q:Fact} {l:List Fact} (h:q∈l):q∈x1::x2::l:=mtF (mtF h)
theorem R3 {x1 x2 x3 q:Res} {l:List Res}:q∈x1::x2::x3::q::l:=mtR R2
theorem F3 {x1 x2 x3 q:Fact} {l:List Fact}:q∈x1::x2::x3::q::l:=mtF F2
theorem F_3 {x1 x2 x3 q:Fact} {l:List Fact} (h:q∈l):q∈x1::x2::x3::l:=mtF (F_2 h)
theorem R4 {x1 x2 x3 x4 q:Res} {l:List Res}:q∈x1::x2::x3::x4::q::l:=mtR R3
theorem F4 {x1 x2 x3 x4 q:Fact} {l:List Fact}:q∈x1::x2::x3::x4::q::l:=mtF F3
theorem F_4 {x1 x2 x3 x4 q:Fact} {l:List Fact} (h:q∈l):q∈x1::x2::x3::x4::l:=mtF (F_3 h)
theorem R5 {x1 x2 x3 x4 x5 q:Res} {l:List Res}:q∈x1::x2::x3::x4::x5::q::l:=mtR R4
theorem F5 {x1 x2 x3 x4 x5 q:Fact} {l:List Fact}:q∈x1::x2::x3::x4::x5::q::l:=mtF F4
theorem F_5 {x1 x2 x3 x4 x5 q:Fact} {l:List Fact} (h:q∈l):q∈x1::x2::x3::x4::x5::l:=mtF (F_4 h)
theorem R6 {x1 x2 x3 x4 x5 x6 q:Res} {l:List Res}:q∈x1::x2::x3::x4::x5::x6::q::l:=mtR R5
theorem F6 {x1 x2 x3 x4 x5 x6 q:Fact} {l:List Fact}:q∈x1::x2::x3::x4::x5::x6::q::l:=mtF F5
theorem F7 {x1 x2 x3 x4 x5 x6 x7 q:Fact} {l:List Fact}:q∈x1::x2::x3::x4::x5::x6::x7::q::l:=mtF F6
section
variable {α:Type} {E:Rp α} {T:TypeId} {v:Value} {l:List α} {ros:List Fact}
theorem rO0 {rs:List Res}:Rd ros (row T E v l::rs) E v l:=rdO R0
theorem rO1 {rs:List Res} {x1:Res}:Rd ros (x1::row T E v l::rs) E v l:=rdO R1
theorem rO2 {rs:List Res} {x1 x2:Res}:Rd ros (x1::x2::row T E v l::rs) E v l:=rdO R2
theorem rO3 {rs:List Res} {x1 x2 x3:Res}:Rd ros (x1::x2::x3::row T E v l::rs) E v l:=rdO R3
theorem rO4 {rs:List Res} {x1 x2 x3 x4:Res}:Rd ros (x1::x2::x3::x4::row T E v l::rs) E v l:=rdO R4
end
abbrev FV:=Nat→Value
end Sx
