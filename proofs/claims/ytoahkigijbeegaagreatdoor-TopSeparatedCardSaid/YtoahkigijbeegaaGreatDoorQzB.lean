/- Lists of limbs of 32 bits: their values, and the machine's steps upon them. -/
import Derived.Test.YtoahkigijbeegaaGreatDoorQzA
import Derived.Test.YtoahkigijbeegaaGreatDoorM16
import Derived.KernelRfl
set_option linter.unusedVariables false
set_option linter.unusedSimpArgs false
set_option maxHeartbeats 4000000
set_option maxRecDepth 10000
namespace Lm
open Sx Go Vc
def B:Int:=4294967296
theorem B8 (x:Int):wc .u32 x=x % B:=by unfold wc B; rw [IntKind.wrap_u32]
theorem lg (x:Int):wc .u64 x=x % 18446744073709551616:=by unfold wc; rw [IntKind.wrap_u64]
theorem I3 {x:Int} (h:0≤x∧x < 18446744073709551616):wc .u64 x=x:=by rw [lg]; omega
theorem W4 {x:Int} (h:0≤x∧x < B):wc .u32 x=x:=by rw [B8]; unfold B at *; omega
theorem U6 {x:Int} (h: -9223372036854775808≤x∧x≤9223372036854775807):wc .i64 x=x:=IntWalk.i64_in _ h
theorem V6 {x y:Int} (h:0≤x+y∧x+y < 18446744073709551616):wa .u64 x y=x+y:=IntWalk.u64_in _ ⟨h.1,n0⟩
theorem kg {x y:Int} (h:0≤x*y∧x*y < 18446744073709551616):wm .u64 x y=x*y:=IntWalk.u64_in _ ⟨h.1,n0⟩
theorem v7 (x y:Int):ws .u64 x y=(x - y) % 18446744073709551616:=by unfold ws; rw [IntKind.wrap_u64]
theorem fv (x y:Int):wa .u32 x y=(x+y) % B:=by unfold wa B; rw [IntKind.wrap_u32]
theorem E7 {x:Int} (h:0≤x∧x < 18446744073709551616):(BitVec.ofInt 64 x).toNat=x.toNat:=by
 rw [BitVec.toNat_ofInt]
 omega
theorem J7 {x:Int} (h:0≤x∧x < 18446744073709551616):wand .u64 x 4294967295=x % B:=by
 unfold wand
 have e:(BitVec.ofInt 64 x &&& BitVec.ofInt 64 4294967295).toNat=x.toNat % 4294967296:=by
  rw [BitVec.toNat_and,E7 h,E7 n0]
  show x.toNat &&& 4294967295=_
  exact Gb x.toNat 32
 show IntKind.u64.wrap ((BitVec.ofInt 64 x &&& BitVec.ofInt 64 4294967295).toNat:Int)=_
 rw [e,IntWalk.u64_in _ n0]
 unfold B
 omega
theorem mg {x:Int} (h:0≤x∧x < 18446744073709551616):wand .u64 x 1=x % 2:=by
 unfold wand
 have e:(BitVec.ofInt 64 x &&& BitVec.ofInt 64 1).toNat=x.toNat % 2:=by
  rw [BitVec.toNat_and,E7 h,E7 n0]
  exact Gb x.toNat 1
 show IntKind.u64.wrap ((BitVec.ofInt 64 x &&& BitVec.ofInt 64 1).toNat:Int)=_
 rw [e,IntWalk.u64_in _ n0]
 omega
theorem T6 {x:Int} (h:0≤x):wsrc .u64 x 32=x / B:=by
 unfold wsrc B
 show x.fdiv (2 ^ 32)=_
 rw [I9 _ n0]
 rfl
theorem Su {x:Int} (h:0≤x):wsrc .u64 x 63=x / 9223372036854775808:=by
 unfold wsrc
 show x.fdiv (2 ^ 63)=_
 rw [I9 _ n0]
 rfl
theorem Jb {x:Int} (h:0≤x∧x < B):wslc .u64 x 32=x*B:=by
 unfold wslc B at*
 show IntKind.u64.wrap (x*2 ^ 32)=_
 rw [IntWalk.u64_in _ n0]
 omega
theorem Kb {x y:Int} (hx:0≤x∧x < B) (hy:0≤y∧y < B):wor .u64 (x*B) y=x*B+y:=by
 unfold B at*
 unfold wor
 have e:(BitVec.ofInt 64 (x*4294967296) ||| BitVec.ofInt 64 y).toNat=x.toNat*4294967296+y.toNat:=by
  rw [BitVec.toNat_or,E7 n0,E7 n0]
  have e1:(x*4294967296).toNat=2 ^ 32*x.toNat:=n0
  rw [e1,← A9 n0]
  omega
 show IntKind.u64.wrap ((BitVec.ofInt 64 (x*4294967296) ||| BitVec.ofInt 64 y).toNat:Int)=_
 rw [e,IntWalk.u64_in _ n0]
 omega
def LW (l:LI):Prop:=∀ x,x∈l→0≤x∧x < B
def lv:LI→Int
 | []=>0
 | x::l=>x+B*lv l
def pw:Nat→Int
 | 0=>1
 | n+1=>B*pw n
theorem L3:∀ n,0 < pw n
 | 0=>by simp [pw]
 | n+1=>by have:=L3 n; unfold pw B; omega
theorem j9 (m:Nat):∀ n,pw (m+n)=pw m*pw n
 | 0=>by simp [pw]
 | n+1=>by
  have:=j9 m n
  simp only [pw,Nat.add_eq]
  rw [this]
  grind
theorem S2:∀ {l:LI},LW l→0≤lv l
 | [],_=>by simp [lv]
 | x::l,h=>by
  have h1:=S2 (l:=l) (fun y hy=>h y (by simp [hy]))
  have h2:=h x G0
  unfold lv B
  omega
theorem J4:∀ {l:LI},LW l→lv l < pw l.length
 | [],_=>by simp [lv,pw]
 | x::l,h=>by
  have h1:=J4 (l:=l) (fun y hy=>h y (by simp [hy]))
  have h2:=h x G0
  simp only [lv,B4,pw]
  unfold B at*
  omega
theorem V9:∀ (a b:LI),lv (a++b)=lv a+pw a.length*lv b
 | [],b=>by simp [lv,pw]
 | x::a,b=>by
  have:=V9 a b
  simp only [Da,lv,B4,pw,this]
  grind
theorem ec:∀ n,lv (List.replicate n 0)=0
 | 0=>rfl
 | n+1=>by simp [ij,lv,ec n]
theorem LW.tail {x:Int} {l:LI} (h:LW (x::l)):LW l:=fun y hy=>h y (by simp [hy])
theorem LW.app {a b:LI}:LW (a++b)↔LW a∧LW b:=by
 unfold LW
 constructor
 ·intro h; exact ⟨fun x hx=>h x (by simp [hx]),fun x hx=>h x (by simp [hx])⟩
 ·rintro ⟨h1,h2⟩ x hx
  rcases I2.1 hx with hx | hx
  ·exact h1 x hx
  ·exact h2 x hx
theorem LW.one {x:Int}:LW [x]↔0≤x∧x < B:=by simp [LW]
def Tm (l:LI):Prop:=∀ x,l.getLast?=some x→x≠0
theorem T7:Tm []:=by simp [Tm]
theorem aw {l:LI} {x:Int} (h:x≠0):Tm (l++[x]):=by simp [Tm,h]
theorem Ub:∀ {l:LI},LW l→Tm l→l≠[]→pw (l.length - 1)≤lv l:=by
 intro l h ht Bu
 obtain ⟨m,x,rfl⟩:∃ m x,l=m++[x]:=⟨l.dropLast,l.getLast Bu,(List.dropLast_concat_getLast Bu).symm⟩
 have hx:=ht x G0
 obtain ⟨h1,h2⟩:=LW.app.1 h
 have h3:=S2 h1
 have h4:=LW.one.1 h2
 rw [V9]
 simp only [H2,w8,Nat.add_sub_cancel,lv]
 have h5:=L3 m.length
 have:pw m.length*1≤pw m.length*x:=X3 n0 n0
 simp at this ⊢
 omega
theorem C7 {m n:Nat} (h:m≤n):pw m≤pw n:=by
 obtain ⟨k,rfl⟩:∃ k,n=m+k:=⟨n - m,n0⟩
 rw [j9]
 have h1:=L3 m
 have h2:=L3 k
 have:pw m*1≤pw m*pw k:=X3 n0 n0
 omega
theorem F6 {a b:LI} (ha:LW a) (hb:LW b) (ta:Tm a) (tb:Tm b) (h:a.length < b.length):lv a < lv b:=by
 have h1:=J4 ha
 have h2:=Ub hb tb (by rintro rfl; simp at h)
 have h3:=C7 (m:=a.length) (n:=b.length - 1) n0
 omega
theorem Up:∀ {a b:LI},LW a→LW b→a.length=b.length→lv a=lv b→a=b
 | [],[],_,_,_,_=>rfl
 | [],_::_,_,_,h,_=>by simp at h
 | _::_,[],_,_,h,_=>by simp at h
 | x::a,y::b,ha,hb,hl,he=>by
  have hx:=ha x G0
  have hy:=hb y G0
  simp only [lv] at he
  unfold B at*
  have e1:x=y:=n0
  subst e1
  have e2:lv a=lv b:=n0
  rw [Up ha.tail hb.tail (by simpa using hl) e2]
theorem Pa {a b:LI} (ha:LW a) (hb:LW b) (ta:Tm a) (tb:Tm b) (he:lv a=lv b):a=b:=by
 have h1:¬ a.length < b.length:=fun h=>by have:=F6 ha hb ta tb h; omega
 have h2:¬ b.length < a.length:=fun h=>by have:=F6 hb ha tb ta h; omega
 exact Up ha hb n0 he
theorem Je {a:LI} (ha:LW a) (ta:Tm a):lv a=0↔a=[]:=by
 constructor
 ·intro h
  exact Pa ha (by intro x hx; simp at hx) ta T7 h
 ·rintro rfl; rfl
def trimL:LI→LI
 | []=>[]
 | x::l=>match trimL l with
  | []=>if x=0 then [] else [x]
  | m=>x::m
theorem Y1:∀ l:LI,lv (trimL l)=lv l
 | []=>rfl
 | x::l=>by
  have ih:=Y1 l
  unfold trimL
  cases h:trimL l with
  | nil=>
   rw [h] at ih
   simp only [lv] at ih
   simp only
   by_cases hx:x=0
   ·rw [I0 hx]; simp only [lv,← ih,hx]; rfl
   ·rw [J0 hx]; simp only [lv,← ih]
  | cons y m=>
   rw [h] at ih
   simp only [lv] at ih ⊢
   rw [ih]
theorem S3:∀ {l:LI},LW l→LW (trimL l)
 | [],h=>h
 | x::l,h=>by
  have ih:=S3 h.tail
  unfold trimL
  cases e:trimL l with
  | nil=>
   simp only
   split
   ·intro y hy; simp at hy
   ·exact LW.one.2 (h x G0)
  | cons y m=>
   rw [e] at ih
   simp only
   intro z hz
   rcases G3.1 hz with rfl | hz
   ·exact h z G0
   ·exact ih z hz
theorem Y3:∀ l:LI,Tm (trimL l)
 | []=>T7
 | x::l=>by
  have ih:=Y3 l
  unfold trimL
  cases e:trimL l with
  | nil=>
   simp only
   split
   ·exact T7
   ·rename_i h; intro y hy; simp at hy; omega
  | cons y m=>
   rw [e] at ih
   simp only
   intro z hz
   refine ih z ?_
   rw [← hz,List.getLast?_cons_cons]
theorem gh {l:LI} (hl:LW l) (ht:Tm l):trimL l=l:=Pa (S3 hl) hl (Y3 l) ht (Y1 l)
theorem ee {a:LI} {b:LI} (ha:LW a) (hb:LW b) (ta:Tm a) (h:lv a=lv b):a=trimL b:=
 Pa ha (S3 hb) ta (Y3 b) (by rw [Y1,h])
def Qt (u v q:Int):Prop:=q*v≤u∧u < (q+1)*v
theorem Qt.le_of {u v q x:Int} (h:Qt u v q) (hv:0 < v) (hx:x*v≤u):x≤q:=by
 refine O2 fun Xw=>?_
 have h1:(q+1)*v≤x*v:=V3 n0 n0
 have:=h.2
 omega
theorem Qt.lt_of {u v q x:Int} (h:Qt u v q) (hv:0 < v) (hx:u < x*v):q < x:=by
 refine O2 fun Xw=>?_
 have h1:x*v≤q*v:=V3 n0 n0
 have:=h.1
 omega
theorem Qt.nn {u v q:Int} (h:Qt u v q) (hv:0 < v) (hu:0≤u):0≤q:=h.le_of hv n0
theorem Qt.uniq {u v q q':Int} (h:Qt u v q) (h':Qt u v q') (hv:0 < v):q=q':=Int.le_antisymm (h'.le_of hv h.1) (h.le_of hv h'.1)
theorem Qt.ediv {u v:Int} (hv:0 < v):Qt u v (u / v):=⟨Int.ediv_mul_le u n0,by rw [T8,Ea]; exact Int.lt_ediv_add_one_mul_self u hv |> fun h=>by rw [T8,Ea] at h; exact h⟩
theorem Qt.eq {u v q:Int} (h:Qt u v q) (hv:0 < v):q=u / v:=h.uniq (Qt.ediv hv) hv
theorem yA {u v q top vt P ur vr:Int} (h:Qt u v q) (hP:0 < P) (hu:u=top*P+ur) (oP:ur < P) (hv:v=vt*P+vr) (xN:0≤vr) (hvt:0 < vt) (hq:0≤q):q*vt≤top:=by
 refine O2 fun Xw=>?_
 have h1:(top+1)*P≤q*vt*P:=V3 n0 n0
 have h2:0≤q*vr:=T4 hq xN
 have h3:=h.1
 have e1:q*v=q*vt*P+q*vr:=by rw [hv]; grind
 have e2:(top+1)*P=top*P+P:=by grind
 omega
theorem wA {u v q g t3 v2 S us vs:Int} (h:Qt u v q) (hS:0 < S) (hu:u=t3*S+us) (hus:0≤us) (hv:v=v2*S+vs) (hvs:vs < S) (lI:0≤vs) (hg:g*v2≤t3) (ME:0≤g) (qM:g*S≤v) (uE:0 < v):g≤q+1:=by
 have h1:g*v2*S≤t3*S:=V3 hg n0
 have h2:g*vs≤g*S:=X3 n0 ME
 have e1:g*v=g*v2*S+g*vs:=by rw [hv]; grind
 refine O2 fun Xw=>?_
 have h3:(q+2)*v≤g*v:=V3 n0 n0
 have e2:(q+2)*v=(q+1)*v+v:=by grind
 have h4:=h.2
 omega
theorem xA {u v q g t3 v2 S us vs:Int} (h:Qt u v q) (hS:0 < S) (hu:u=t3*S+us) (hus:us < S) (hv:v=v2*S+vs) (lI:0≤vs) (hg:t3 < g*v2) (ME:0≤g) (uE:0 < v):q < g:=by
 refine h.lt_of uE ?_
 have h1:(t3+1)*S≤g*v2*S:=V3 n0 n0
 have h2:0≤g*vs:=T4 ME lI
 have e1:g*v=g*v2*S+g*vs:=by rw [hv]; grind
 have e2:(t3+1)*S=t3*S+S:=by grind
 omega
end Lm
namespace Km
open Sx Go Vc Lm
theorem yf {q s:Nat} (hq:q≤1000000) (hs:s < 32):wqc .i64 ((32*q+s:Nat):Int) 32=(q:Int)∧wrc ((32*q+s:Nat):Int) 32=(s:Int):=by
 constructor
 ·show IntKind.wrap .i64 (Int.tdiv _ 32)=_
  rw [Xc n0,IntWalk.i64_in _ n0]; omega
 ·show Int.tmod _ 32=_
  rw [Wc n0]; omega
theorem w7 {s:Nat} (hs:s < 32):0 < (2:Int) ^ s∧(2:Int) ^ s≤2147483648∧(2:Int) ^ s*2 ^ (32 - s)=B∧0 < (2:Int) ^ (32 - s):=by
 refine ⟨C3 n0,?_,?_,C3 n0⟩
 ·have h9:((2 ^ s:Nat):Int)≤((2147483648:Nat):Int):=Int.ofNat_le.2 (Q5 (aj (n:=2) (j:=31) n0 n0) (by decide))
  rw [Zc] at h9
  exact h9
 ·rw [← S4,show s+(32 - s)=32 by omega]; rfl
theorem Zu {s:Nat} (hs:s < 32) {c x:Int} (hc:0≤c∧c < 2 ^ s) (hx:0≤x∧x < B) (hb:x*2 ^ s < 18446744073709551616):wor .u64 c (x*2 ^ s)=c+x*2 ^ s:=by
 unfold wor
 obtain ⟨C,rfl⟩:=D3 hc.1
 obtain ⟨X,rfl⟩:=D3 hx.1
 have hC:C < 2 ^ s:=by exact_mod_cast hc.2
 have e2:((X:Int)*2 ^ s)=((2 ^ s*X:Nat):Int):=by push_cast; rw [I4]
 have hb:2 ^ s*X < 18446744073709551616:=by have h9:((2 ^ s*X:Nat):Int) < ((18446744073709551616:Nat):Int):=(by rw [← e2]; omega); exact Int.ofNat_lt.1 h9
 have VP:2 ^ s≤2 ^ 31:=aj n0 n0
 have e3:(BitVec.ofInt 64 (C:Int) ||| BitVec.ofInt 64 ((X:Int)*2 ^ s)).toNat=2 ^ s*X+C:=by
  rw [BitVec.toNat_or,E7 n0,E7 n0,e2,H1,H1,Mf,← A9 hC]
 have h9:2 ^ s*X+C < 18446744073709551616:=by
  have:=A9 hC X
  rw [this]
  exact Ws (n:=64) hb n0
 show IntKind.u64.wrap ((BitVec.ofInt 64 (C:Int) ||| BitVec.ofInt 64 ((X:Int)*2 ^ s)).toNat:Int)=_
 rw [e3,IntWalk.u64_in _ ⟨n0,n0⟩,e2]
 push_cast
 omega
theorem Xa (n:Nat):LW (List.replicate n 0):=fun x hx=>by rw [zt] at hx; rw [hx.2]; unfold B; omega
open M
theorem L7 (l:LI) (x:Int):lv (l++[x])=lv l+pw l.length*x:=by
 rw [V9]; simp [lv]
theorem LW.take {l:LI} (h:LW l) (k:Nat):LW (l.take k):=fun x hx=>h x (mj hx)
theorem LW.get {l:LI} (h:LW l) {k:Nat} {x:Int} (hx:l[k]?=some x):0≤x∧x < B:=h x (X2 hx)
theorem E4 {l:LI} (hl:LW l) (hn:l.length≤1000000):m_ip l=some (trimL l):=by
 refine Ret.eq ?_
 unfold m_ip
 refine lu (Q0 (Post:=fun i=>∃ k:Nat,i=(k:Int)∧k≤l.length∧lv (l.take k)=lv l∧Tm (l.take k)) l.length (fun m (i:Int)=>i=((l.length - m:Nat):Int)∧m≤l.length∧lv (l.take (l.length - m))=lv l) ⟨by rw [p8],n0,by rw [p8,M6]⟩ ?_ n0) ?_
 ·rintro m _ hm ⟨rfl,h1,h2⟩
  unfold m_io
  rw [O0,C1]
  refine ⟨fun hlt=>?_,fun nv=>?_⟩
  ·have e1:ws .i64 ((l.length - m:Nat):Int) 1=((l.length - (m+1):Nat):Int):=by rw [H3 n0 n0]; omega
   rw [e1,O0,Q3]
   refine ⟨n0,n0,fun x hx=>?_⟩
   rw [H1] at hx
   have ht:l.take (l.length - m)=l.take (l.length - (m+1))++[x]:=by
    rw [show l.length - m=l.length - (m+1)+1 by omega]; exact tks hx
   rw [K0,C1]
   refine ⟨fun hz=>?_,fun hz=>?_⟩
   ·have hz:x=0:=by simpa using hz
    refine ⟨_,rfl,n0,rfl,n0,?_⟩
    rw [← h2,ht,L7,hz]; simp
   ·have hz:x≠0:=by simpa using hz
    exact ⟨_,rfl,l.length - m,rfl,n0,h2,by rw [ht]; exact aw hz⟩
  ·rw [K0,J0 G0]
   have e:l.length - m=0:=n0
   exact ⟨_,rfl,0,by rw [e],n0,by rw [← h2,e],by simp [Tm]⟩
 ·rintro _ ⟨k,rfl,h1,h2,h3⟩
  rw [O0,Ae]
  refine ⟨n0,n0,n0,_,rfl,?_⟩
  rw [H1,show (0:Int).toNat=0 from rfl,y8]
  exact ee (LW.take hl k) hl h3 h2
theorem ys {l:LI} (s:Bool) (hl:LW l) (hn:l.length≤1000000):m_iq s l=some (if trimL l=[] then (false,[]) else (s,trimL l)):=by
 unfold m_iq
 rw [E4 hl hn,obs]
 by_cases h:trimL l=[]
 ·rw [I0 (by rw [h]; rfl),I0 h]
 ·rw [J0 (by simpa using h),J0 h]
theorem ID {p:Int} (hp:0 < p) (hB:p < B):m_is p=some (false,[p]):=by
 unfold B at hB
 unfold m_is m_ir
 rw [A0,I3 ⟨n0,n0⟩,J7 ⟨n0,n0⟩,T6 n0]
 have e1:p % B=p:=P8 n0 (by unfold B; omega)
 have e2:p / B=0:=Ga n0 (by unfold B; omega)
 rw [e1,e2,W4 ⟨n0,by unfold B; omega⟩,W4 ⟨n0,by unfold B; omega⟩]
 have hl:LW [p,0]:=by
  intro x hx
  simp at hx
  unfold B
  omega
 have ht:trimL [p,0]=[p]:=by
  simp [trimL]
  omega
 rw [ys _ hl G0,ht,obs,J0 G0]
 simp
 omega
theorem Jw {a:LI} {d:Int} (ha:LW a) (hn:a.length≤1000) (hd:0 < d) (hB:d < B):∃ q,m_k5 a d=some (q,lv a % d)∧LW q∧Tm q∧lv q=lv a / d:=by
 have key:Ret (m_k5 a d) (fun r=>LW r.1∧Tm r.1∧lv r.1=lv a / d∧r.2=lv a % d):=by
  unfold B at hB
  unfold m_k5
  rw [O0,A7]
  refine ⟨n0,n0,?_⟩
  rw [H1,O0]
  have tO:wc .u64 d=d:=I3 ⟨n0,n0⟩
  refine (Q0 (Post:=fun s:LI×Int=>LW s.1∧s.1.length=a.length∧(0≤s.2∧s.2 < d)∧lv a=lv s.1*d+s.2) a.length (fun m (s:LI×Int×Int)=>s.2.2=(a.length:Int) - 1 - m∧m≤a.length∧LW s.1∧s.1.length=a.length∧(0≤s.2.1∧s.2.1 < d)∧lv (a.drop (a.length - m))=lv (s.1.drop (a.length - m))*d+s.2.1) ⟨by show ws .i64 (a.length:Int) 1=_; rw [H3 n0 n0]; simp,n0,fun x hx=>by rw [zt] at hx; rw [hx.2]; unfold B; omega,T5 ..,⟨by show (0:Int)≤0; omega,hd⟩,by rw [p8,uj,N8 G0]; simp [lv]⟩ ?_ n0).mono ?_
  ·rintro m ⟨q,r,_⟩ hm ⟨h1,h2,h3,h4,h5,h6⟩
   simp only at h1 h3 h4 h5 h6
   subst h1
   unfold m_k4
   simp only
   rw [C1]
   refine ⟨fun nv=>?_,fun hlt=>⟨_,rfl,h3,h4,h5,?_⟩⟩
   ·obtain ⟨i,hi⟩:∃ i:Nat,a.length=i+(m+1):=⟨a.length - (m+1),n0⟩
    have ei:(a.length:Int) - 1 - (m:Int)=(i:Int):=n0
    rw [ei,O0,Q3]
    refine ⟨n0,n0,fun x hx=>?_⟩
    rw [H1] at hx
    have jv:=LW.get ha hx
    have iE:0≤r∧r < B:=⟨h5.1,by unfold B; omega⟩
    have ht:wor .u64 (wslc .u64 r 32) (wc .u64 x)=r*B+x:=by
     rw [Jb iE,I3 ⟨jv.1,by unfold B at jv; omega⟩,Kb iE jv]
    rw [ht,tO]
    have UL:r+1≤d:=n0
    have hmul:(r+1)*B≤d*B:=V3 UL (by unfold B; omega)
    have wP:0≤r*B:=T4 h5.1 (by unfold B; omega)
    rw [T8,Ea] at hmul
    have DH:0≤r*B+x:=n0
    have YD:0≤(r*B+x) / d:=C5 DH n0
    have VL:(r*B+x) / d < B:=m6 hd (by rw [I4 B d]; omega)
    have lL:0≤(r*B+x) % d∧(r*B+x) % d < d:=⟨n4 _ n0,D4 _ hd⟩
    have zH:wq .u64 (r*B+x) d=some ((r*B+x) / d):=by
     unfold wq
     rw [A0,Xc DH,IntWalk.u64_in _ ⟨YD,by have e:B=4294967296:=rfl; omega⟩]
    have QJ:wr (r*B+x) d=some ((r*B+x) % d):=by
     unfold wr
     rw [A0,Wc DH]
    rw [zH,obs,O0,V7]
    refine ⟨n0,n0,?_⟩
    rw [QJ,obs,H1,W4 ⟨YD,VL⟩]
    refine ⟨_,rfl,n0,?_⟩
    simp only
    refine ⟨by rw [H3 n0 n0]; omega,n0,?_,by rw [s7]; exact h4,lL,?_⟩
    ·intro y hy
     rcases Pf hy with hy | rfl
     ·exact h3 y hy
     ·exact ⟨YD,VL⟩
    ·have e1:a.length - (m+1)=i:=n0
     have e2:a.length - m=i+1:=n0
     rw [e2] at h6
     rw [e1]
     have ea:a.drop i=x::a.drop (i+1):=by
      obtain ⟨hlt,he⟩:=C2.1 hx
      rw [← he]; exact Ca hlt
     have eq:(q.set i ((r*B+x) / d)).drop i=((r*B+x) / d)::q.drop (i+1):=by
      have hlt:i < (q.set i ((r*B+x) / d)).length:=by rw [s7]; omega
      rw [Ca hlt,List.getElem_set_self,Aa n0]
     rw [ea,eq]
     simp only [lv]
     rw [h6]
     have h7:=l6 (r*B+x) d
     have e9:((r*B+x) / d+B*lv (q.drop (i+1)))*d=d*((r*B+x) / d)+B*(lv (q.drop (i+1))*d):=by grind
     rw [e9]
     have e10:B*(lv (q.drop (i+1))*d+r)=B*(lv (q.drop (i+1))*d)+r*B:=by grind
     rw [e10]
     omega
   ·have e:a.length - m=0:=n0
    rw [e,y8,y8] at h6
    exact h6
  ·rintro ⟨q,r⟩ ⟨h1,h2,h3,h4⟩
   simp only at h1 h2 h3 h4 ⊢
   rw [E4 h1 n0,obs]
   refine ⟨_,rfl,S3 h1,Y3 q,?_,?_⟩
   ·show lv (trimL q)=_
    rw [Y1,h4,Int.add_comm,Int.add_mul_ediv_right _ _ n0,Ga h3.1 h3.2,Int.zero_add]
   ·show wc .u32 r=_
    rw [W4 ⟨h3.1,by unfold B; omega⟩,h4,Int.add_comm,Int.add_mul_emod_self_right,P8 h3.1 h3.2]
 obtain ⟨⟨q,r⟩,h0,h1,h2,h3,h4⟩:=key
 simp only at h1 h2 h3 h4
 exact ⟨q,by rw [h0,h4],h1,h2,h3⟩
theorem lC (x y:Int):m_hk x y=some (if x < y then -1 else if y < x then 1 else 0):=by
 unfold m_hk m_c9
 simp only [decide_true,U4,obs,if_false,D2]
 split
 ·rfl
 ·split<;>rfl
theorem kC (x y:Int):m_kp x y=some (if x < y then -1 else if y < x then 1 else 0):=by
 unfold m_kp m_ko
 simp only [decide_true,U4,obs,if_false,D2]
 split
 ·rfl
 ·split<;>rfl
theorem pe {a:LI} {i:Nat} {x:Int} (hx:a[i]?=some x):lv a=lv (a.take i)+pw i*(x+B*lv (a.drop (i+1))):=by
 obtain ⟨hlt,he⟩:=C2.1 hx
 have e:a=a.take i++(x::a.drop (i+1)):=by
  rw [← he,← Ca hlt,B9]
 have e2:lv a=lv (a.take i++(x::a.drop (i+1))):=S0 lv e
 rw [e2,V9]
 simp only [lv,A4]
 rw [n5 n0]
theorem Ra {a:LI} (ha:LW a) {i:Nat} (hi:i≤a.length):0≤lv (a.take i)∧lv (a.take i) < pw i:=by
 have h1:=J4 (LW.take ha i)
 rw [A4,n5 hi] at h1
 exact ⟨S2 (LW.take ha i),h1⟩
theorem Oe {a b:LI} (ha:LW a) (hb:LW b) {i:Nat} {x y:Int} (hx:a[i]?=some x) (hy:b[i]?=some y) (he:a.drop (i+1)=b.drop (i+1)) (h:x < y):lv a < lv b:=by
 have h1:=(C2.1 hx).1
 have h2:=(C2.1 hy).1
 rw [pe hx,pe hy,he]
 have t1:=Ra ha (i:=i) n0
 have t2:=Ra hb (i:=i) n0
 have hp:=L3 i
 have e1:pw i*(y+B*lv (b.drop (i+1)))=pw i*(x+B*lv (b.drop (i+1)))+pw i*(y - x):=by grind
 have e2:pw i*1≤pw i*(y - x):=X3 n0 n0
 rw [e1]
 omega
theorem Ab {a b:LI} (ha:LW a) (hb:LW b) (ta:Tm a) (tb:Tm b) (hn:a.length≤1000) (hm:b.length≤1000):m_kr a b=some (if lv a < lv b then -1 else if lv b < lv a then 1 else 0):=by
 refine Ret.eq ?_
 unfold m_kr
 rw [C1]
 refine ⟨fun hl=>?_,fun hl=>?_⟩
 ·have hl:a.length=b.length:=n0
  refine lu (Q0 (Post:=fun o=>(o=.inl ()∧a=b)∨∃ c,o=.inr c∧c=(if lv a < lv b then -1 else if lv b < lv a then 1 else 0)) a.length (fun m (i:Int)=>i=(a.length:Int) - 1 - m∧m≤a.length∧a.drop (a.length - m)=b.drop (a.length - m)) ⟨by rw [H3 n0 n0]; omega,n0,by rw [p8,uj,N8 n0]⟩ ?_ n0) ?_
  ·rintro m i SD ⟨rfl,h1,h2⟩
   unfold m_kq
   rw [C1]
   refine ⟨fun nv=>?_,fun hlt=>⟨_,rfl,.inl ⟨rfl,by have e:a.length - m=0:=n0; rwa [e,y8,y8] at h2⟩⟩⟩
   obtain ⟨j,hj⟩:∃ j:Nat,a.length=j+(m+1):=⟨a.length - (m+1),n0⟩
   have ej:(a.length:Int) - 1 - (m:Int)=(j:Int):=n0
   have e2:a.length - m=j+1:=n0
   rw [e2] at h2
   rw [ej,O0,Q3]
   refine ⟨n0,n0,fun x hx=>?_⟩
   rw [O0,Q3]
   refine ⟨n0,n0,fun y hy=>?_⟩
   rw [H1] at hx hy
   rw [C1]
   refine ⟨fun he=>⟨_,rfl,n0,by rw [H3 n0 n0]; omega,n0,?_⟩,fun Bu=>?_⟩
   ·subst he
    obtain ⟨k1,k2⟩:=C2.1 hx
    obtain ⟨k3,k4⟩:=C2.1 hy
    rw [show a.length - (m+1)=j by omega,Ca k1,Ca k3,k2,k4,h2]
   ·rw [O0,Q3]
    refine ⟨n0,n0,fun x' pv=>?_⟩
    rw [H1,hx] at pv
    obtain rfl:=P1 pv
    rw [O0,Q3]
    refine ⟨n0,n0,fun y' QE=>?_⟩
    rw [H1,hy] at QE
    obtain rfl:=P1 QE
    rw [kC,obs]
    refine ⟨_,rfl,.inr ⟨_,rfl,?_⟩⟩
    rcases Int.lt_or_gt_of_ne Bu with h | h
    ·rw [I0 h,I0 (Oe ha hb hx hy h2 h)]
    ·have:=Oe hb ha hy hx h2.symm h
     rw [A0,I0 h,A0,I0 this]
  ·rintro _ (⟨rfl,h⟩ | ⟨c,rfl,h⟩)
   ·refine ⟨_,rfl,?_⟩
    rw [h,A0,A0]
   ·exact ⟨_,rfl,h⟩
 ·rw [lC,obs]
  refine ⟨_,rfl,?_⟩
  rcases Nat.lt_or_ge a.length b.length with h | h
  ·rw [B0,I0 (F6 ha hb ta tb h)]
  ·have:=F6 hb ha tb ta (show b.length < a.length by omega)
   rw [A0,B0,A0,I0 this]
theorem X4 {a:LI} {i:Nat} {x:Int} (hx:a[i]?=some x):lv (a.take (i+1))=lv (a.take i)+pw i*x:=by
 rw [tks hx,L7,A4,n5 (by have:=(C2.1 hx).1; omega)]
theorem je {a:LI} {i:Nat} (h:a.length≤i):lv (a.take (i+1))=lv (a.take i):=by
 rw [O3 h,O3 n0]
theorem cp {a b:LI} (ha:LW a) (hb:LW b) (hl:b.length≤a.length) (hn:a.length≤1000):Ret (m_je a b) (fun r=>LW r∧Tm r∧lv r=lv a+lv b):=by
 unfold m_je
 have h0:mkLc (0:Int) 0 (wa .i64 (a.length:Int) 1)=some []:=by
  rw [Q2 n0 n0]; unfold mkLc BIG; rw [I0 ⟨n0,n0,n0⟩]; rfl
 rw [h0,obs]
 refine lu (Q0 (Post:=fun s:LI×Int=>LW s.1∧s.1.length=a.length∧(s.2=0∨s.2=1)∧lv s.1+pw a.length*s.2=lv a+lv b) a.length (fun i (s:LI×Int×Int)=>s.2.2=(i:Int)∧LW s.1∧s.1.length=i∧(s.2.1=0∨s.2.1=1)∧lv s.1+pw i*s.2.1=lv (a.take i)+lv (b.take i)) ⟨rfl,by intro x hx; simp at hx,rfl,.inl rfl,by simp [lv]⟩ ?_ n0) ?_
 ·rintro i ⟨o,c,_⟩ hi ⟨rfl,h1,h2,h3,h4⟩
  simp only at h1 h2 h3 h4
  unfold m_jd m_jc
  simp only
  rw [C1]
  refine ⟨fun hlt=>?_,fun nv=>⟨_,rfl,h1,by show o.length=_; omega,h3,?_⟩⟩
  ·have dB:i < a.length:=n0
   rw [O0,Q3]
   refine ⟨n0,hlt,fun x hx=>?_⟩
   rw [H1] at hx
   have jv:=LW.get ha hx
   have e:B=4294967296:=rfl
   have TD:wc .u64 x=x:=I3 ⟨jv.1,n0⟩
   have fin:∀ (t:Int),0≤t→t < 2*B→lv o+pw i*t=lv (a.take (i+1))+lv (b.take (i+1))→Ret ((app o [wc .u32 (wand .u64 t 4294967295)]).bind fun x52=>some (Sum.inl (β:=LI×Int) (x52,wsrc .u64 t 32,wa .i64 (i:Int) 1))) (VQ (fun s:LI×Int×Int=>i < a.length∧s.2.2=((i+1:Nat):Int)∧LW s.1∧s.1.length=i+1∧(s.2.1=0∨s.2.1=1)∧lv s.1+pw (i+1)*s.2.1=lv (a.take (i+1))+lv (b.take (i+1))) (fun s:LI×Int=>LW s.1∧s.1.length=a.length∧(s.2=0∨s.2=1)∧lv s.1+pw a.length*s.2=lv a+lv b)):=by
    intro t t0 t1 ht
    have hm:=n4 t (show B≠0 by omega)
    have Eu:=D4 t (show 0 < B by omega)
    have hd:=l6 t B
    rw [J7 ⟨t0,n0⟩,T6 t0,W4 ⟨hm,Eu⟩,O0,s5]
    refine ⟨by rw [h2]; simp only [B4,A6]; omega,_,rfl,dB,ku,LW.app.2 ⟨h1,LW.one.2 ⟨hm,Eu⟩⟩,by show (o++[_]).length=_; rw [H2,h2]; rfl,by have q0:0≤t / B:=C5 t0 n0; have q1:t / B < 2:=m6 n0 t1; show t / B=0∨t / B=1; omega,?_⟩
    show lv (o++[t % B])+pw (i+1)*(t / B)=_
    rw [L7,h2,← ht]
    simp only [pw]
    have e3:pw i*(B*(t / B)+t % B)=pw i*t:=by rw [hd]
    have e4:B*pw i*(t / B)=pw i*(B*(t / B)):=by grind
    rw [Q7] at e3
    omega
   have PD:=X4 hx
   rw [C1]
   refine ⟨fun yG=>?_,fun CG=>?_⟩
   ·rw [O0,Q3]
    refine ⟨n0,yG,fun y hy=>?_⟩
    rw [H1] at hy
    have wv:=LW.get hb hy
    rw [TD,I3 ⟨wv.1,n0⟩,V6 (x:=x) (y:=c) ⟨n0,n0⟩,V6 ⟨n0,n0⟩]
    refine fin _ n0 n0 ?_
    rw [PD,X4 hy]
    have:pw i*(x+c+y)=pw i*x+pw i*c+pw i*y:=by grind
    omega
   ·rw [TD,V6 (x:=x) (y:=c) ⟨n0,n0⟩]
    refine fin _ n0 n0 ?_
    rw [PD,je (a:=b) n0]
    have:pw i*(x+c)=pw i*x+pw i*c:=by grind
    omega
  ·have e:i=a.length:=n0
   subst e
   rw [M6,O3 hl] at h4
   exact h4
 ·rintro ⟨o,c⟩ ⟨h1,h2,h3,h4⟩
  simp only at h1 h2 h3 h4 ⊢
  have hc:wc .u32 c=c:=W4 ⟨n0,by unfold B; omega⟩
  have xG:LW (o++[c]):=LW.app.2 ⟨h1,LW.one.2 ⟨n0,by unfold B; omega⟩⟩
  rw [hc,O0,s5]
  refine ⟨by rw [h2]; simp only [B4,A6]; omega,?_⟩
  rw [E4 xG (by rw [H2,h2]; simp; omega),obs]
  exact ⟨_,rfl,S3 xG,Y3 _,by rw [Y1,L7,h2]; exact h4⟩
theorem zh {a b:LI} (ha:LW a) (hb:LW b) (hn:a.length≤1000) (hm:b.length≤1000):Ret (m_jf a b) (fun r=>LW r∧Tm r∧lv r=lv a+lv b):=by
 unfold m_jf
 rw [C1]
 refine ⟨fun h=>(cp hb ha n0 hm).mono fun r hr=>⟨hr.1,hr.2.1,n0⟩,fun h=>cp ha hb n0 hn⟩
theorem Jh {v:Int} (h0: -B≤v) (h1:v < B):((v % 18446744073709551616) % B=v+B*(if v < 0 then 1 else 0))∧((v % 18446744073709551616) / B % 2=if v < 0 then 1 else 0)∧0≤v % 18446744073709551616∧v % 18446744073709551616 < 18446744073709551616:=by
 unfold B at*
 split<;>omega
theorem Hh {a b:LI} (ha:LW a) (hb:LW b) (hn:a.length≤1000) (hl:b.length≤a.length) (hv:lv b≤lv a):Ret (m_ku a b) (fun r=>LW r∧Tm r∧lv r=lv a - lv b):=by
 have e:B=4294967296:=rfl
 unfold m_ku
 rw [O0,A7]
 refine ⟨n0,n0,?_⟩
 rw [H1]
 refine lu (Q0 (Post:=fun o:LI=>LW o∧o.length=a.length∧lv o=lv a - lv b) a.length (fun i (s:LI×Int×Int)=>s.2.2=(i:Int)∧LW s.1∧s.1.length=a.length∧(s.2.1=0∨s.2.1=1)∧lv (s.1.take i)=lv (a.take i) - lv (b.take i)+pw i*s.2.1) ⟨rfl,fun x hx=>by rw [zt] at hx; rw [hx.2]; omega,T5 ..,.inl rfl,by simp [lv]⟩ ?_ n0) ?_
 ·rintro i ⟨o,c,_⟩ hi ⟨rfl,h1,h2,h3,h4⟩
  simp only at h1 h2 h3 h4
  unfold m_kt m_ks
  simp only
  rw [C1]
  refine ⟨fun hlt=>?_,fun nv=>⟨_,rfl,h1,h2,?_⟩⟩
  ·have dB:i < a.length:=n0
   rw [O0,Q3]
   refine ⟨n0,hlt,fun x hx=>?_⟩
   rw [H1] at hx
   have jv:=LW.get ha hx
   have TD:wc .u64 x=x:=I3 ⟨jv.1,n0⟩
   have PD:=X4 hx
   have fin:∀ (t v:Int),t=v % 18446744073709551616→-B≤v→v < B→lv (o.take i)+pw i*v=lv (a.take (i+1)) - lv (b.take (i+1))→Ret ((setI o (i:Int) (wc .u32 (wand .u64 t 4294967295))).bind fun x35=>some (Sum.inl (β:=LI) (x35,wand .u64 (wsrc .u64 t 32) 1,wa .i64 (i:Int) 1))) (VQ (fun s:LI×Int×Int=>i < a.length∧s.2.2=((i+1:Nat):Int)∧LW s.1∧s.1.length=a.length∧(s.2.1=0∨s.2.1=1)∧lv (s.1.take (i+1))=lv (a.take (i+1)) - lv (b.take (i+1))+pw (i+1)*s.2.1) (fun o:LI=>LW o∧o.length=a.length∧lv o=lv a - lv b)):=by
    intro t v ht v0 v1 hv
    obtain ⟨k1,k2,k3,k4⟩:=Jh v0 v1
    rw [← ht] at k1 k2 k3 k4
    have hm:=n4 t (show B≠0 by omega)
    have Eu:=D4 t (show 0 < B by omega)
    have kE:0≤t / B:=C5 k3 n0
    have dE:t / B < 18446744073709551616:=m6 n0 n0
    rw [J7 ⟨k3,k4⟩,T6 k3,mg ⟨kE,dE⟩,W4 ⟨hm,Eu⟩,k2,O0,V7,H1]
    refine ⟨n0,n0,_,rfl,dB,ku,?_,by show (o.set i _).length=_; rw [s7,h2],by show (if v < 0 then (1:Int) else 0)=0∨(if v < 0 then (1:Int) else 0)=1; split<;>omega,?_⟩
    ·intro y hy
     rcases Pf hy with hy | rfl
     ·exact h1 y hy
     ·exact ⟨hm,Eu⟩
    ·show lv ((o.set i (t % B)).take (i+1))=_+pw (i+1)*(if v < 0 then 1 else 0)
     have hs:(o.set i (t % B))[i]?=some (t % B):=by rw [N6]; omega
     rw [X4 hs,dj,fj (by rw [A4]; omega),k1,← hv]
     simp only [pw]
     generalize (if v < 0 then (1:Int) else 0)=z
     grind
   rw [C1]
   refine ⟨fun yG=>?_,fun CG=>?_⟩
   ·rw [O0,Q3]
    refine ⟨n0,yG,fun y hy=>?_⟩
    rw [H1] at hy
    have wv:=LW.get hb hy
    refine fin _ (x - c - y) ?_ n0 n0 ?_
    ·rw [TD,I3 ⟨wv.1,n0⟩,v7,v7]; omega
    ·rw [PD,X4 hy,h4]; grind
   ·refine fin _ (x - c) ?_ n0 n0 ?_
    ·rw [TD,v7]
    ·rw [PD,je (a:=b) n0,h4]; grind
  ·have ei:i=a.length:=n0
   subst ei
   rw [M6,O3 hl,O3 n0] at h4
   have hlt:=J4 h1
   rw [h2] at hlt
   have hp:=L3 a.length
   show lv o=_
   rcases h3 with rfl | rfl
   ·omega
   ·omega
 ·rintro o ⟨h1,h2,h3⟩
  rw [E4 h1 n0,obs]
  exact ⟨_,rfl,S3 h1,Y3 _,by rw [Y1]; exact h3⟩
theorem D7 {l:LI} {m:Nat} (hl:LW l) (ht:Tm l) (h:lv l < pw m):l.length≤m:=by
 refine O2 fun hc=>?_
 have Bu:l≠[]:=by rintro rfl; simp at hc
 have h5:=Ub hl ht Bu
 have h7:=C7 (show m≤l.length - 1 by omega)
 omega
theorem bw {p:Int} (hp:0 < p):Tm [p]:=by intro x hx; simp at hx; omega
theorem Iz {p:Int} (hp:0 < p) (hB:p < B):LW [p]:=LW.one.2 ⟨n0,hB⟩
theorem ae {l:LI} (hl:LW l):(trimL l).length≤l.length:=D7 (S3 hl) (Y3 l) (by rw [Y1]; exact J4 hl)
theorem FB {a:LI} {p:Int} (ha:LW a) (ta:Tm a) (hn:a.length≤999) (hp:0 < p) (hB:p < B):∃ q r,m_lc a [p]=some (q,r)∧LW q∧Tm q∧LW r∧Tm r∧lv q=lv a / p∧lv r=lv a % p∧q.length≤1000:=by
 have lp:lv [p]=p:=by simp [lv]
 have h0:=S2 ha
 unfold m_lc
 rw [Ab ha (Iz hp hB) ta (bw hp) n0 G0,obs,lp]
 by_cases hlt:lv a < p
 ·rw [I0 hlt,B0]
  have hc:m_iu a=some a:=by
   unfold m_iu app BIG
   rw [I0 (by simp; omega),obs,v8]
  rw [hc,obs]
  exact ⟨[],a,rfl,by intro x hx; simp at hx,T7,ha,ta,by rw [Ga h0 hlt]; rfl,by rw [P8 h0 hlt],G0⟩
 ·have PG:¬ (if lv a < p then (-1:Int) else if p < lv a then 1 else 0) < 0:=by rw [J0 hlt]; split<;>omega
  rw [J0 PG,I0 G0]
  have hg:getI [p] 0=some p:=rfl
  obtain ⟨q,hq,q1,q2,q3⟩:=Jw ha n0 hp hB
  have hr:=n4 (lv a) (show p≠0 by omega)
  have iE:=D4 (lv a) hp
  have xG:LW [lv a % p]:=LW.one.2 ⟨hr,n0⟩
  rw [hg,obs,hq,obs,E4 xG G0,obs]
  refine ⟨q,_,rfl,q1,q2,S3 xG,Y3 _,q3,by rw [Y1]; simp [lv],?_⟩
  refine O2 fun hc=>?_
  have Bu:q≠[]:=by rintro rfl; simp at hc
  have h5:=Ub q1 q2 Bu
  have h6:=J4 ha
  have h7:=C7 (show a.length≤q.length - 1 by omega)
  have h8:lv a / p≤lv a:=Q8 _ h0
  omega
def lenTab:LI:=[0,1,2,2,3,3,3,3,4,4,4,4,4,4,4,4,5,5,5,5,5,5,5,5,5,5,5,5,5,5,5,5,6,6,6,6,6,6,6,6,6,6,6,6,6,6,6,6,6,6,6,6,6,6,6,6,6,6,6,6,6,6,6,6]++List.replicate 64 7++List.replicate 128 8
theorem Rz:(List.range 256).all (fun k=>match lenTab[k]? with | some v=>decide (0≤v) && decide (v≤8) && decide ((k:Int) < 2 ^ v.toNat) && decide (k=0∨2 ^ v.toNat≤2*(k:Int)) | none=>false)=true:=by decide +kernel
theorem lenT {x:Int} (h0:0≤x) (h1:x < 256):∃ v:Nat,getI lenTab x=some (v:Int)∧v≤8∧x < 2 ^ v∧(0 < x→2 ^ v≤2*x):=by
 obtain ⟨k,rfl⟩:=D3 h0
 have:=Q6.1 Rz k (m7.2 n0)
 cases h:lenTab[k]? with
 | none=>rw [h] at this; simp at this
 | some v=>
  rw [h] at this
  simp only [V4,decide_eq_true_eq] at this
  obtain ⟨⟨⟨a1,a2⟩,a3⟩,a4⟩:=this
  obtain ⟨w,rfl⟩:=D3 a1
  rw [H1] at a3 a4
  exact ⟨w,h,n0,a3,fun hk=>a4.resolve_left n0⟩
theorem so {x:Int} {n:Nat} (h:0≤x) (hn:n≤32):wsrc .u32 x n=x / 2 ^ n:=by
 unfold wsrc
 show x.fdiv (2 ^ min n 32)=_
 rw [n5 hn,I9 _ (S6 (C3 n0))]
theorem Qz (x c:Int):m_bc x c=(getI lenTab (wc .u8 x)).bind fun x6=>some (wa .i64 c (wc .i64 x6)):=rfl
theorem Zp {x:Int} {c:Nat} (h0:0≤x) (h1:x < 256) (hc:c≤24):∃ v:Nat,m_bc x (c:Int)=some ((c+v:Nat):Int)∧v≤8∧x < 2 ^ v∧(0 < x→2 ^ v≤2*x):=by
 obtain ⟨v,h2,h3,h4⟩:=lenT h0 h1
 refine ⟨v,?_,h3,h4⟩
 have qH:wc .u8 x=x:=by unfold wc; rw [IntKind.wrap_u8]; omega
 rw [Qz,qH,h2,obs,U6 ⟨n0,n0⟩,Q2 n0 n0]
 congr 1
theorem Mh {x:Int} (h0:0≤x) (h1:x < B):∃ v:Nat,m_be x=some (v:Int)∧v≤32∧x < 2 ^ v∧(0 < x→2 ^ v≤2*x):=by
 have e:B=4294967296:=rfl
 have step:∀ (y:Int) (c:Nat),0≤y→y < 65536→c≤16→∃ v:Nat,m_bd y (c:Int)=some ((c+v:Nat):Int)∧v≤16∧y < 2 ^ v∧(0 < y→2 ^ v≤2*y):=by
  intro y c y0 y1 hc
  unfold m_bd
  by_cases h:256≤y
  ·rw [I0 h,so y0 n0,show wa .i64 (c:Int) 8=((c+8:Nat):Int) by rw [Q2 n0 n0]; omega]
   obtain ⟨v,h2,h3,h4,h5⟩:=Zp (x:=y / 2 ^ 8) (c:=c+8) n0 n0 n0
   refine ⟨8+v,by rw [h2]; congr 1; omega,n0,?_⟩
   rw [S4]
   have:=h5 n0
   exact ⟨n0,fun _=>n0⟩
  ·rw [J0 h]
   obtain ⟨v,h2,h3,h4⟩:=Zp (x:=y) (c:=c) y0 n0 n0
   exact ⟨v,h2,n0,h4⟩
 unfold m_be
 by_cases h:65536≤x
 ·rw [I0 h,so h0 n0]
  obtain ⟨v,h2,h3,h4,h5⟩:=step (x / 2 ^ 16) 16 n0 n0 n0
  refine ⟨16+v,h2,n0,?_⟩
  rw [S4]
  have:=h5 n0
  exact ⟨n0,fun _=>n0⟩
 ·rw [J0 h]
  obtain ⟨v,h2,h3,h4⟩:=step x 0 h0 n0 n0
  exact ⟨v,by rw [show (0:Int)=((0:Nat):Int) from rfl,h2]; congr 1; omega,n0,h4⟩
theorem Vz {p:Int} (hp:0 < p) (hB:p < B):∃ s:Nat,m_k6 p=some (s:Int)∧s < 32∧p*2 ^ s < B∧B≤2*(p*2 ^ s):=by
 obtain ⟨v,h1,h2,h3,h4⟩:=Mh (S6 hp) hB
 have hv:0 < v:=by
  rcases Nat.eq_zero_or_pos v with h | h
  ·subst h; simp at h3; omega
  ·exact h
 refine ⟨32 - v,?_,n0,?_⟩
 ·unfold m_k6
  rw [h1,obs,H3 n0 n0]
  congr 1; omega
 ·have e:(2:Int) ^ v*2 ^ (32 - v)=B:=by
   rw [← S4,show v+(32 - v)=32 by omega]; rfl
  have hc:(0:Int) < 2 ^ (32 - v):=C3 n0
  have:=Fa h3 hc
  have h6:=V3 (h4 hp) (S6 hc)
  rw [O8] at h6
  omega
theorem X8 {l:LI} (hl:LW l) (hn:l.length≤1000000):m_g l=some (trimL l):=by
 refine Ret.eq ?_
 have h:=E4 hl hn
 unfold m_ip at h
 unfold m_g
 have e3:m_f=m_io:=rfl
 rw [e3]
 cases hL:loop (m_io l) (l.length:Int) with
 | none=>rw [hL] at h; cases h
 | some i=>
  rw [hL,obs] at h
  have hs:∃ t,sli l 0 i=some t∧t=trimL l:=by
   cases hs:sli l 0 i with
   | none=>rw [hs] at h; cases h
   | some t=>rw [hs,obs] at h; exact ⟨t,rfl,P1 h⟩
  obtain ⟨t,ht,GN⟩:=hs
  obtain ⟨t1,_,t2,t3⟩:=Ta ht
  obtain ⟨k,rfl⟩:=D3 t2
  have WJ:t=l.take k:=by rw [t1]; unfold subL; simp
  rw [obs]
  refine lu (Q0 (Post:=fun o=>o=l.take k) k (fun m (s:LI×Int)=>s=(l.take m,(m:Int))) G0 ?_ n0) fun o ho=>⟨_,rfl,by rw [ho,← WJ,GN]⟩
  rintro m _ hm rfl
  unfold m_e
  simp only
  rw [C1]
  refine ⟨fun hlt=>?_,fun nv=>⟨_,rfl,by have e:m=k:=n0; rw [e]; rfl⟩⟩
  rw [O0,Q3]
  refine ⟨n0,n0,fun x hx=>?_⟩
  rw [H1] at hx
  rw [O0,s5]
  refine ⟨by rw [A4]; simp only [B4,A6]; omega,_,rfl,n0,?_⟩
  rw [Q2 n0 n0,← tks hx]; rfl
theorem Ie {l:LI} (s:Bool) (hl:LW l) (hn:l.length≤1000000):m_h s l=some (s && decide ((0:Int) < ((trimL l).length:Int)),trimL l):=by
 unfold m_h
 rw [X8 hl hn,obs]
theorem Dp {l:LI} (s:Bool) (hl:LW l) (hn:l.length≤1000000):m_k s l=some (s && decide ((0:Int) < ((trimL l).length:Int)),trimL l):=by
 unfold m_k
 rw [Ie s hl hn,obs]
theorem Qr {a b:LI} (ha:LW a) (hb:LW b) (ta:Tm a) (tb:Tm b) (hn:a.length≤1000) (hm:b.length≤1000):m_2 a b=some (if lv a < lv b then -1 else if lv b < lv a then 1 else 0):=by
 refine Ret.eq ?_
 unfold m_2
 rw [C1]
 refine ⟨fun hl=>?_,fun hl=>?_⟩
 ·have hl:a.length=b.length:=n0
  refine lu (Q0 (Post:=fun o=>(o=.inl ()∧a=b)∨∃ c,o=.inr c∧c=(if lv a < lv b then -1 else if lv b < lv a then 1 else 0)) a.length (fun m (i:Int)=>i=(a.length:Int) - 1 - m∧m≤a.length∧a.drop (a.length - m)=b.drop (a.length - m)) ⟨by rw [H3 n0 n0]; omega,n0,by rw [p8,uj,N8 n0]⟩ ?_ n0) ?_
  ·rintro m i SD ⟨rfl,h1,h2⟩
   unfold m_1
   rw [C1]
   refine ⟨fun nv=>?_,fun hlt=>⟨_,rfl,.inl ⟨rfl,by have e:a.length - m=0:=n0; rwa [e,y8,y8] at h2⟩⟩⟩
   obtain ⟨j,hj⟩:∃ j:Nat,a.length=j+(m+1):=⟨a.length - (m+1),n0⟩
   have ej:(a.length:Int) - 1 - (m:Int)=(j:Int):=n0
   have e2:a.length - m=j+1:=n0
   rw [e2] at h2
   rw [ej,O0,Q3]
   refine ⟨n0,n0,fun x hx=>?_⟩
   rw [O0,Q3]
   refine ⟨n0,n0,fun y hy=>?_⟩
   rw [H1] at hx hy
   rw [C1]
   refine ⟨fun he=>⟨_,rfl,n0,by rw [H3 n0 n0]; omega,n0,?_⟩,fun Bu=>?_⟩
   ·subst he
    obtain ⟨k1,k2⟩:=C2.1 hx
    obtain ⟨k3,k4⟩:=C2.1 hy
    rw [show a.length - (m+1)=j by omega,Ca k1,Ca k3,k2,k4,h2]
   ·rw [O0,Q3]
    refine ⟨n0,n0,fun x' pv=>?_⟩
    rw [H1,hx] at pv
    obtain rfl:=P1 pv
    rw [O0,Q3]
    refine ⟨n0,n0,fun y' QE=>?_⟩
    rw [H1,hy] at QE
    obtain rfl:=P1 QE
    rw [C1]
    refine ⟨fun h=>⟨_,rfl,.inr ⟨_,rfl,?_⟩⟩,fun h=>⟨_,rfl,.inr ⟨_,rfl,?_⟩⟩⟩
    ·rw [I0 (Oe ha hb hx hy h2 h)]
    ·have:=Oe hb ha hy hx h2.symm (show y < x by omega)
     rw [A0,I0 this]
  ·rintro _ (⟨rfl,h⟩ | ⟨c,rfl,h⟩)
   ·refine ⟨_,rfl,?_⟩
    rw [h,A0,A0]
   ·exact ⟨_,rfl,h⟩
 ·rw [C1]
  refine ⟨fun h=>⟨_,rfl,?_⟩,fun h=>⟨_,rfl,?_⟩⟩
  ·rw [I0 (F6 ha hb ta tb n0)]
  ·have:=F6 hb ha tb ta (show b.length < a.length by omega)
   rw [A0,I0 this]
theorem fo {a:LI} {i:Nat}:lv (a.take (i+1))=lv (a.take i)+pw i*a.getD i 0:=by
 rcases Nat.lt_or_ge i a.length with h | h
 ·rw [X4 (J2 h)]; simp [List.getD,h]
 ·rw [je h]; simp [List.getD,L5 h]
theorem Is {a b:LI} (ha:LW a) (hb:LW b) (hn:a.length≤1000) (hm:b.length≤1000):Ret (m_0 a b) (fun r=>LW r∧r.length≤1001∧lv r=lv a+lv b):=by
 have e:B=4294967296:=rfl
 obtain ⟨N,hN⟩:∃ N:Nat,imax (a.length:Int) (b.length:Int)=(N:Int)∧a.length≤N∧b.length≤N∧N≤1000:=by
  unfold imax
  split
  ·exact ⟨b.length,rfl,n0,n0,hm⟩
  ·exact ⟨a.length,rfl,n0,n0,hn⟩
 obtain ⟨hN,JO,FJ,UP⟩:=hN
 unfold m_0
 refine lu (Q0 (Post:=fun s:LI×Int=>LW s.1∧s.1.length=N∧(s.2=0∨s.2=1)∧lv s.1+pw N*s.2=lv a+lv b) N (fun i (s:LI×Int×Int)=>s.2.2=(i:Int)∧LW s.1∧s.1.length=i∧(s.2.1=0∨s.2.1=1)∧lv s.1+pw i*s.2.1=lv (a.take i)+lv (b.take i)) ⟨rfl,by intro x hx; simp at hx,rfl,.inl rfl,by simp [lv]⟩ ?_ n0) ?_
 ·rintro i ⟨o,c,_⟩ hi ⟨rfl,h1,h2,h3,h4⟩
  simp only at h1 h2 h3 h4
  unfold m_z
  simp only
  rw [hN,C1]
  refine ⟨fun hlt=>?_,fun nv=>⟨_,rfl,h1,by show o.length=_; omega,h3,?_⟩⟩
  ·have dO:i < N:=n0
   have fin:∀ (t:Int),0≤t→t < 2*B→t=c+a.getD i 0+b.getD i 0→Ret (m_x o (i:Int) t) (VQ (fun s:LI×Int×Int=>i < N∧s.2.2=((i+1:Nat):Int)∧LW s.1∧s.1.length=i+1∧(s.2.1=0∨s.2.1=1)∧lv s.1+pw (i+1)*s.2.1=lv (a.take (i+1))+lv (b.take (i+1))) (fun s:LI×Int=>LW s.1∧s.1.length=N∧(s.2=0∨s.2=1)∧lv s.1+pw N*s.2=lv a+lv b)):=by
    intro t t0 t1 ht
    have hm:=n4 t (show B≠0 by omega)
    have Eu:=D4 t (show 0 < B by omega)
    have hd:=l6 t B
    unfold m_x
    rw [B8,T6 t0,O0,s5]
    refine ⟨by rw [h2]; simp only [B4,A6]; omega,_,rfl,dO,ku,LW.app.2 ⟨h1,LW.one.2 ⟨hm,Eu⟩⟩,by show (o++[_]).length=_; rw [H2,h2]; rfl,by have q0:0≤t / B:=C5 t0 n0; have q1:t / B < 2:=m6 n0 t1; show t / B=0∨t / B=1; omega,?_⟩
    show lv (o++[t % B])+pw (i+1)*(t / B)=_
    rw [L7,h2,fo (a:=a),fo (a:=b)]
    simp only [pw]
    have e3:pw i*(B*(t / B)+t % B)=pw i*t:=by rw [hd]
    have e4:B*pw i*(t / B)=pw i*(B*(t / B)):=by grind
    have e5:pw i*t=pw i*c+pw i*a.getD i 0+pw i*b.getD i 0:=by rw [ht]; grind
    rw [Q7] at e3
    omega
   have second:∀ (t:Int),0≤t→t < B+1→t=c+a.getD i 0→Ret (m_y (i:Int) b o t) (VQ (fun s:LI×Int×Int=>i < N∧s.2.2=((i+1:Nat):Int)∧LW s.1∧s.1.length=i+1∧(s.2.1=0∨s.2.1=1)∧lv s.1+pw (i+1)*s.2.1=lv (a.take (i+1))+lv (b.take (i+1))) (fun s:LI×Int=>LW s.1∧s.1.length=N∧(s.2=0∨s.2=1)∧lv s.1+pw N*s.2=lv a+lv b)):=by
    intro t t0 t1 ht
    unfold m_y
    rw [C1]
    refine ⟨fun yG=>?_,fun CG=>?_⟩
    ·rw [O0,Q3]
     refine ⟨n0,yG,fun y hy=>?_⟩
     rw [H1] at hy
     have wv:=LW.get hb hy
     have MJ:b.getD i 0=y:=by rw [sj,hy]; rfl
     rw [I3 ⟨wv.1,n0⟩,V6 ⟨n0,n0⟩]
     exact fin _ n0 n0 (by rw [ht,MJ])
    ·have MJ:b.getD i 0=0:=by rw [sj,L5 n0]; rfl
     exact fin _ t0 n0 (by rw [ht,MJ,S8])
   rw [C1]
   refine ⟨fun qJ=>?_,fun pM=>?_⟩
   ·rw [O0,Q3]
    refine ⟨n0,qJ,fun x hx=>?_⟩
    rw [H1] at hx
    have jv:=LW.get ha hx
    have OJ:a.getD i 0=x:=by rw [sj,hx]; rfl
    rw [I3 ⟨jv.1,n0⟩,V6 ⟨n0,n0⟩]
    exact second _ n0 n0 (by rw [OJ])
   ·have OJ:a.getD i 0=0:=by rw [sj,L5 n0]; rfl
    exact second _ n0 n0 (by rw [OJ,S8])
  ·have ei:i=N:=n0
   subst ei
   rw [O3 JO,O3 FJ] at h4
   exact h4
 ·rintro ⟨o,c⟩ ⟨h1,h2,h3,h4⟩
  simp only at h1 h2 h3 h4 ⊢
  have hc:wc .u32 c=c:=W4 ⟨n0,n0⟩
  have xG:LW (o++[c]):=LW.app.2 ⟨h1,LW.one.2 ⟨n0,n0⟩⟩
  rw [hc,O0,s5]
  refine ⟨by rw [h2]; simp only [B4,A6]; omega,_,rfl,xG,by rw [H2,h2]; simp; omega,by rw [L7,h2]; exact h4⟩
theorem sw {v:Int} (h0: -B≤v) (h1:v < B):((v % 18446744073709551616) % B=v+B*(if v < 0 then 1 else 0))∧((v % 18446744073709551616) / 9223372036854775808=if v < 0 then 1 else 0):=by
 unfold B at*
 split<;>omega
theorem me {a b:LI} (ha:LW a) (hb:LW b) (hn:a.length≤1000) (hl:b.length≤a.length) (hv:lv b≤lv a):Ret (m_5 a b) (fun r=>LW r∧r.length≤1001∧lv r=lv a - lv b):=by
 have e:B=4294967296:=rfl
 unfold m_5
 refine lu (Q0 (Post:=fun o:LI=>LW o∧o.length=a.length∧lv o=lv a - lv b) a.length (fun i (s:LI×Int×Int)=>s.2.2=(i:Int)∧LW s.1∧s.1.length=i∧(s.2.1=0∨s.2.1=1)∧lv s.1=lv (a.take i) - lv (b.take i)+pw i*s.2.1) ⟨rfl,by intro x hx; simp at hx,rfl,.inl rfl,by simp [lv]⟩ ?_ n0) fun o h=>⟨_,rfl,h.1,n0,h.2.2⟩
 rintro i ⟨o,c,_⟩ hi ⟨rfl,h1,h2,h3,h4⟩
 simp only at h1 h2 h3 h4
 unfold m_4 m_3
 simp only
 rw [C1]
 refine ⟨fun hlt=>?_,fun nv=>⟨_,rfl,h1,by show o.length=_; omega,?_⟩⟩
 ·have dB:i < a.length:=n0
  rw [O0,Q3]
  refine ⟨n0,hlt,fun x hx=>?_⟩
  rw [H1] at hx
  have jv:=LW.get ha hx
  have TD:wc .u64 x=x:=I3 ⟨jv.1,n0⟩
  have PD:=X4 hx
  have fin:∀ (t v:Int),t=v % 18446744073709551616→-B≤v→v < B→lv o+pw i*v=lv (a.take (i+1)) - lv (b.take (i+1))→Ret ((app o [wc .u32 t]).bind fun x39=>some (Sum.inl (β:=LI) (x39,wsrc .u64 t 63,wa .i64 (i:Int) 1))) (VQ (fun s:LI×Int×Int=>i < a.length∧s.2.2=((i+1:Nat):Int)∧LW s.1∧s.1.length=i+1∧(s.2.1=0∨s.2.1=1)∧lv s.1=lv (a.take (i+1)) - lv (b.take (i+1))+pw (i+1)*s.2.1) (fun o:LI=>LW o∧o.length=a.length∧lv o=lv a - lv b)):=by
   intro t v ht v0 v1 hv
   obtain ⟨k1,k2⟩:=sw v0 v1
   rw [← ht] at k1 k2
   have k3:0≤t:=by rw [ht]; exact n4 _ n0
   have hm:=n4 t (show B≠0 by omega)
   have Eu:=D4 t (show 0 < B by omega)
   rw [B8,Su k3,k2,O0,s5]
   refine ⟨by rw [h2]; simp only [B4,A6]; omega,_,rfl,dB,ku,LW.app.2 ⟨h1,LW.one.2 ⟨hm,Eu⟩⟩,by show (o++[_]).length=_; rw [H2,h2]; rfl,by show (if v < 0 then (1:Int) else 0)=0∨(if v < 0 then (1:Int) else 0)=1; split<;>omega,?_⟩
   show lv (o++[t % B])=_+pw (i+1)*(if v < 0 then 1 else 0)
   rw [L7,h2,k1,← hv]
   simp only [pw]
   generalize (if v < 0 then (1:Int) else 0)=z
   grind
  rw [C1]
  refine ⟨fun yG=>?_,fun CG=>?_⟩
  ·rw [O0,Q3]
   refine ⟨n0,yG,fun y hy=>?_⟩
   rw [H1] at hy
   have wv:=LW.get hb hy
   refine fin _ (x - c - y) ?_ n0 n0 ?_
   ·rw [TD,I3 ⟨wv.1,n0⟩,v7,v7]; omega
   ·rw [PD,X4 hy,h4]; grind
  ·refine fin _ (x - c) ?_ n0 n0 ?_
   ·rw [TD,v7]
   ·rw [PD,je (a:=b) n0,h4]; grind
 ·have ei:i=a.length:=n0
  subst ei
  rw [M6,O3 hl] at h4
  have hlt:=J4 h1
  rw [h2] at hlt
  have hp:=L3 a.length
  show lv o=_
  rcases h3 with rfl | rfl
  ·omega
  ·omega
theorem uo {a:LI} (ha:LW a) (hn:a.length≤1000) {q s:Nat} (HE:q≤1000) (hs:s < 32):Ret (m_q a ((32*q+s:Nat):Int)) (fun u=>LW u∧u.length=q+a.length+1∧lv u=lv a*(pw q*2 ^ s)):=by
 have e:B=4294967296:=rfl
 obtain ⟨hq,hr⟩:=yf (q:=q) n0 hs
 obtain ⟨p1,p2,p3,p4⟩:=w7 hs
 unfold m_q
 rw [hq,O0,A7]
 refine ⟨n0,n0,?_⟩
 rw [H1]
 refine lu (Q0 (Post:=fun s':LI×Int=>LW s'.1∧s'.1.length=q+a.length∧(0≤s'.2∧s'.2 < 2 ^ s)∧lv s'.1+pw (q+a.length)*s'.2=pw q*(lv a*2 ^ s)) a.length (fun i (s':LI×Int×Int)=>s'.2.2=(i:Int)∧LW s'.1∧s'.1.length=q+i∧(0≤s'.2.1∧s'.2.1 < 2 ^ s)∧lv s'.1+pw (q+i)*s'.2.1=pw q*(lv (a.take i)*2 ^ s)) ⟨rfl,Xa _,T5 ..,⟨by show (0:Int)≤0; omega,p1⟩,by rw [ec,ua]; simp [lv]⟩ ?_ n0) ?_
 ·rintro i ⟨o,c,_⟩ hi ⟨rfl,h1,h2,h3,h4⟩
  simp only at h1 h2 h3 h4
  unfold m_p
  simp only
  rw [C1,hr]
  refine ⟨fun hlt=>?_,fun nv=>⟨_,rfl,h1,by show o.length=_; omega,h3,by have ei:i=a.length:=n0; subst ei; rw [M6] at h4; exact h4⟩⟩
  have dB:i < a.length:=n0
  rw [O0,Q3]
  refine ⟨n0,hlt,fun x hx=>?_⟩
  rw [H1] at hx
  have jv:=LW.get ha hx
  have uG:0≤x*2 ^ s:=T4 jv.1 n0
  have pN:x*2 ^ s≤(B - 1)*2 ^ s:=V3 n0 n0
  have oN:(B - 1)*2 ^ s≤(B - 1)*2147483648:=X3 p2 n0
  have AF:wshl .u64 (wc .u64 x) (s:Int)=some (x*2 ^ s):=by
   rw [I3 ⟨jv.1,n0⟩]
   unfold wshl
   rw [A0,H1]
   show some (IntKind.u64.wrap (x*2 ^ min s 64))=_
   rw [n5 n0,IntWalk.u64_in _ ⟨uG,n0⟩]
  rw [AF,obs,Zu hs h3 jv n0]
  have t0:0≤c+x*2 ^ s:=n0
  have hm:=n4 (c+x*2 ^ s) (show B≠0 by omega)
  have Eu:=D4 (c+x*2 ^ s) (show 0 < B by omega)
  have hd:=l6 (c+x*2 ^ s) B
  have q0:0≤(c+x*2 ^ s) / B:=C5 t0 n0
  have q1:(c+x*2 ^ s) / B < 2 ^ s:=by
   refine m6 n0 ?_
   have:(B - 1)*2 ^ s=2 ^ s*B - 2 ^ s:=by grind
   omega
  rw [B8,T6 t0,O0,s5]
  refine ⟨by rw [h2]; simp only [B4,A6]; omega,_,rfl,dB,ku,LW.app.2 ⟨h1,LW.one.2 ⟨hm,Eu⟩⟩,by show (o++[_]).length=_; rw [H2,h2]; rfl,⟨q0,q1⟩,?_⟩
  show lv (o++[(c+x*2 ^ s) % B])+pw (q+(i+1))*((c+x*2 ^ s) / B)=_
  have pq1:pw (q+(i+1))=B*pw (q+i):=rfl
  have pq:pw (q+i)=pw q*pw i:=j9 q i
  rw [L7,h2,X4 hx,pq1]
  have e3:pw (q+i)*(B*((c+x*2 ^ s) / B)+(c+x*2 ^ s) % B)=pw (q+i)*(c+x*2 ^ s):=by rw [hd]
  generalize (c+x*2 ^ s) / B=Q at*
  generalize (c+x*2 ^ s) % B=r at*
  rw [pq] at h4 e3 ⊢
  have e4:pw q*((lv (a.take i)+pw i*x)*2 ^ s)=pw q*(lv (a.take i)*2 ^ s)+pw q*pw i*(x*2 ^ s):=by grind
  rw [e4,← h4]
  grind
 ·rintro ⟨o,c⟩ ⟨h1,h2,h3,h4⟩
  simp only at h1 h2 h3 h4 ⊢
  rw [W4 ⟨h3.1,n0⟩,O0,s5]
  refine ⟨by rw [h2]; simp only [B4,A6]; omega,_,rfl,LW.app.2 ⟨h1,LW.one.2 ⟨h3.1,n0⟩⟩,by rw [H2,h2]; rfl,?_⟩
  rw [L7,h2,h4]
  grind
theorem shl_ok {a:LI} (ha:LW a) (hn:a.length≤1000) {s:Nat} (hs:s < 32):Ret (m_q a (s:Int)) (fun u=>LW u∧u.length=a.length+1∧lv u=lv a*2 ^ s):=by
 have:=uo ha hn (q:=0) n0 hs
 rw [show 32*0+s=s by omega] at this
 exact this.mono fun u hu=>⟨hu.1,n0,by rw [hu.2.2]; show _*(1*_)=_; rw [Ea]⟩
theorem Hw {l:LI} (s:Bool) (hl:LW l) (ht:Tm l) (hn:l.length≤1000):m_bj s l=some (if l=[] then 0 else if s=true then -1 else 1):=by
 unfold m_bj
 rw [Dp s hl n0,obs,gh hl ht]
 simp only
 by_cases h:l=[]
 ·rw [I0 (by rw [h]; rfl),I0 h]
 ·have hp:=G7.2 h
  rw [A0,J0 h]
  have:decide ((0:Int) < (l.length:Int))=true:=by simp; exact hp
  rw [this,Bool.and_true]
  split<;>rfl
theorem add_ok {a b:LI} (s t:Bool) (ha:LW a) (hb:LW b) (hn:a.length≤900) (hm:b.length≤900):Ret (m_6 s a t b) (fun r=>LW r.2∧Tm r.2∧r.2.length≤1001∧(s=true→t=false→lv a < lv b→r.1=false∧lv r.2=lv b - lv a)):=by
 have la:=ae ha
 have lb:=ae hb
 have ta:=S3 ha
 have tb:=S3 hb
 have va:=Y1 a
 have vb:=Y1 b
 unfold m_6
 rw [X8 ha n0,obs,X8 hb n0,obs,C1]
 have mk:∀ (u:Bool) {r:LI},LW r→r.length≤1001→Ret ((m_h u r).bind fun r17=>some (r17.1,r17.2)) (fun x:Bool×LI=>LW x.2∧Tm x.2∧x.2.length≤1001∧lv x.2=lv r∧(u=false→x.1=false)):=by
  intro u r hr eB
  rw [Ie u hr n0,obs]
  have:=ae hr
  exact ⟨_,rfl,S3 hr,Y3 r,by show (trimL r).length≤1001; omega,Y1 r,fun h=>by rw [h]; rfl⟩
 refine ⟨fun nu=>?_,fun nu=>?_⟩
 ·refine lu (Is ta tb n0 n0) fun r hr=>?_
  refine (mk s hr.1 hr.2.1).mono fun x hx=>⟨hx.1,hx.2.1,hx.2.2.1,fun h1 h2 _=>?_⟩
  rw [h1,h2] at nu; cases nu
 ·rw [Qr ta tb (Y3 a) (Y3 b) n0 n0,obs,va,vb,C1]
  refine ⟨fun h=>?_,fun h=>?_⟩
  ·have hle:lv b≤lv a:=by
    refine O2 fun hc=>?_
    rw [B0] at h; omega
   rw [O0]
   have ax:(trimL b).length≤(trimL a).length:=by
    refine O2 fun hc=>?_
    have:=F6 ta tb (Y3 a) (Y3 b) n0
    omega
   refine (me ta tb n0 ax n0).mono fun r hr=>?_
   refine (mk s hr.1 hr.2.1).mono fun x hx=>⟨hx.1,hx.2.1,hx.2.2.1,fun _ _ h3=>absurd h3 n0⟩
  ·have hlt:lv a < lv b:=by
    refine O2 fun hc=>?_
    rw [J0 hc] at h
    split at h<;>omega
   rw [O0]
   have ax:(trimL a).length≤(trimL b).length:=by
    refine O2 fun hc=>?_
    have:=F6 tb ta (Y3 b) (Y3 a) n0
    omega
   refine (me tb ta n0 ax n0).mono fun r hr=>?_
   refine (mk t hr.1 hr.2.1).mono fun x hx=>⟨hx.1,hx.2.1,hx.2.2.1,fun _ h2 _=>⟨hx.2.2.2.2 h2,by rw [hx.2.2.2.1,hr.2.2,va,vb]⟩⟩
def sv (s:Bool) (l:LI):Int:=if s=true then - lv l else lv l
def Bg (v:Int) (s:Bool) (l:LI):Prop:=LW l∧Tm l∧sv s l=v∧(s=true→l≠[])
theorem nw (s:Bool) (l:LI):sv s (trimL l)=sv s l:=by unfold sv; rw [Y1]
theorem ko (s:Bool) (l:LI):sv (!s) l= - sv s l:=by unfold sv; cases s<;>simp
theorem Bg.pos {v:Int} {s:Bool} {l:LI} (h:Bg v s l) (hs:s=true):0 < lv l:=by
 have h1:=S2 h.1
 have h2:lv l≠0:=fun h0=>h.2.2.2 hs ((Je h.1 h.2.1).1 h0)
 omega
theorem Bg.neg {v:Int} {s:Bool} {l:LI} (h:Bg v s l):s=true↔v < 0:=by
 have h1:=S2 h.1
 have h3:=h.2.2.1
 constructor
 ·intro hs
  have:=h.pos hs
  unfold sv at h3; rw [I0 hs] at h3; omega
 ·intro hv
  refine O2 fun hs=>?_
  unfold sv at h3; rw [J0 hs] at h3; omega
theorem Bg.abs {v:Int} {s:Bool} {l:LI} (h:Bg v s l):lv l=if v < 0 then - v else v:=by
 have h3:=h.2.2.1
 by_cases hs:s=true
 ·rw [I0 (h.neg.1 hs)]; unfold sv at h3; rw [I0 hs] at h3; omega
 ·rw [J0 fun hv=>hs (h.neg.2 hv)]; unfold sv at h3; rw [J0 hs] at h3; exact h3
theorem Bg.uniq {v:Int} {s s':Bool} {l l':LI} (h:Bg v s l) (h':Bg v s' l'):s=s'∧l=l':=by
 refine ⟨?_,Pa h.1 h'.1 h.2.1 h'.2.1 (h.abs.trans h'.abs.symm)⟩
 have e:s=true↔s'=true:=h.neg.trans h'.neg.symm
 cases s<;>cases s'<;>simp_all
theorem Bg.len {v:Int} {s:Bool} {l:LI} (h:Bg v s l) {m:Nat} (h1: - pw m < v) (h2:v < pw m):l.length≤m:=by
 refine D7 h.1 h.2.1 ?_
 rw [h.abs]; split<;>omega
theorem Bg.of {s:Bool} {l:LI} (hl:LW l) (ht:Tm l) (hs:s=true→l≠[]):Bg (sv s l) s l:=⟨hl,ht,rfl,hs⟩
theorem Bg.cast {v w:Int} {s:Bool} {l:LI} (h:Bg v s l) (e:v=w):Bg w s l:=e▸h
theorem w9:Bg 0 false []:=⟨by intro x hx; simp at hx,T7,rfl,G0⟩
theorem Bg.sv {v:Int} {s:Bool} {l:LI} (h:Bg v s l):sv s l=v:=h.2.2.1
theorem Ke {l:LI} {k:Nat} {x y:Int} (hx:l[k]?=some x):lv (l.set k y)=lv l+pw k*(y - x):=by
 have hlt:=(C2.1 hx).1
 have hy:(l.set k y)[k]?=some y:=by rw [N6 hlt]
 rw [pe hx,pe hy,dj,fj (by rw [A4]; omega),Aa n0]
 grind
theorem Y7 {l:LI} (h:LW l) {k:Nat} {y:Int} (hy:0≤y∧y < B):LW (l.set k y):=by
 intro z hz
 rcases Pf hz with hz | rfl
 ·exact h z hz
 ·exact hy
theorem O5 {l:LI} (hl:LW l):(trimL l).length≤l.length:=ae hl
theorem Bg.norm {s:Bool} {l:LI} (hl:LW l):Bg (Km.sv s l) (if trimL l=[] then false else s) (trimL l):=by
 refine ⟨S3 hl,Y3 l,?_,?_⟩
 ·split
  ·rename_i h
   have h0:lv l=0:=by rw [← Y1,h]; rfl
   unfold Km.sv
   rw [J0 G0,Y1,h0]; split<;>simp
  ·exact nw s l
 ·split
  ·intro h; simp at h
  ·rename_i h; exact fun _=>h
theorem K6 {l:LI} (s:Bool) (hl:LW l) (hn:l.length≤1000000):Ret (m_iq s l) (fun r=>Bg (sv s l) r.1 r.2):=by
 rw [ys s hl hn]
 have h:=Bg.norm (s:=s) hl
 split
 ·rename_i h0
  rw [I0 h0,h0] at h
  exact ⟨_,rfl,h⟩
 ·rename_i h0
  rw [J0 h0] at h
  exact ⟨_,rfl,h⟩
theorem lf {a:LI} (h:a.length≤1000000):m_iu a=some a:=by
 unfold m_iu app BIG
 rw [I0 (by simp; omega),obs,v8]
theorem jz {s:Bool} {a:LI} (ha:LW a) (hn:a.length≤1000000):Ret (m_ix s a) (fun r=>Bg (sv s a) r.1 r.2):=by
 unfold m_ix
 rw [lf hn,obs,O0]
 exact (K6 s ha hn).mono fun r hr=>⟨_,rfl,hr⟩
def MI (a b:LI) (i j:Nat) (x:Int) (out:LI) (c:Int):Prop:=
 LW out∧out.length=a.length+b.length∧(0≤c∧c < B)∧lv out+pw (i+j)*c=lv (a.take i)*lv b+pw i*(x*lv (b.take j))∧out.drop (i+b.length)=List.replicate (a.length - i) 0
def MO (a b:LI) (i:Nat) (out:LI):Prop:=
 LW out∧out.length=a.length+b.length∧lv out=lv (a.take i)*lv b∧out.drop (i+b.length)=List.replicate (a.length - i) 0
theorem MO.start (a b:LI):MO a b 0 (List.replicate (a.length+b.length) 0):=by
 refine ⟨Xa _,T5 ..,?_,?_⟩
 ·rw [ec,ua]; simp [lv]
 ·rw [Ba,p8]; congr 1; omega
theorem MO.row {a b:LI} {i:Nat} {out:LI} (h:MO a b i out) (x:Int):MI a b i 0 x out 0:=
 ⟨h.1,h.2.1,⟨n0,by unfold B; omega⟩,by rw [ua]; simp only [lv,H9,S8]; exact h.2.2.1,h.2.2.2⟩
theorem MI.step {a b:LI} {i j:Nat} {x c y o:Int} {out:LI} (h:MI a b i j x out c) (hx:0≤x∧x < B) (hb:LW b) (hy:b[j]?=some y) (ho:out[i+j]?=some o):
  (0≤x*y∧0≤o∧0≤y∧y < B∧o < B∧x*y+o+c < 18446744073709551616)∧MI a b i (j+1) x (out.set (i+j) ((x*y+o+c) % B)) ((x*y+o+c) / B):=by
 obtain ⟨h1,h2,h3,h4,h5⟩:=h
 have e:B=4294967296:=rfl
 have wv:=LW.get hb hy
 have bM:=LW.get h1 ho
 have zG:=(C2.1 hy).1
 have UK:=T4 hx.1 wv.1
 have UF:x*y≤4294967295*4294967295:=ud n0 n0 wv.1 n0
 have hm:=n4 (x*y+o+c) (show B≠0 by omega)
 have Eu:=D4 (x*y+o+c) (show 0 < B by omega)
 have hd:=l6 (x*y+o+c) B
 have YD:0≤(x*y+o+c) / B:=C5 n0 n0
 have HE:(x*y+o+c) / B < B:=m6 n0 (by rw [e]; omega)
 refine ⟨⟨UK,bM.1,wv.1,wv.2,bM.2,n0⟩,Y7 h1 ⟨hm,Eu⟩,by rw [s7,h2],⟨YD,HE⟩,?_,?_⟩
 ·rw [Ke ho,X4 hy,show i+(j+1)=(i+j)+1 from rfl]
  simp only [pw]
  have hp:pw (i+j)=pw i*pw j:=j9 i j
  generalize (x*y+o+c) / B=q at hd ⊢
  generalize hr:(x*y+o+c) % B=r at hd ⊢
  have e1:lv out+pw (i+j)*(r - o)+B*pw (i+j)*q=lv out+pw (i+j)*((B*q+r) - o):=by grind
  rw [e1,hd]
  have e2:pw i*(x*(lv (b.take j)+pw j*y))=pw i*(x*lv (b.take j))+(pw i*pw j)*(x*y):=by grind
  rw [e2,← hp]
  have e3:pw (i+j)*(x*y+o+c - o)=pw (i+j)*(x*y)+pw (i+j)*c:=by grind
  rw [e3]
  omega
 ·rw [Aa n0]; exact h5
theorem MI.done {a b:LI} {i:Nat} {x c:Int} {out:LI} (h:MI a b i b.length x out c) (hx:a[i]?=some x):i+b.length < out.length∧MO a b (i+1) (out.set (i+b.length) c):=by
 obtain ⟨h1,h2,h3,h4,h5⟩:=h
 have wK:=(C2.1 hx).1
 have hz:out[i+b.length]?=some 0:=by
  have e1:(out.drop (i+b.length))[0]?=out[i+b.length]?:=by rw [B6]; rfl
  rw [← e1,h5,E9,B0]
 refine ⟨n0,Y7 h1 h3,by rw [s7,h2],?_,?_⟩
 ·rw [Ke hz,X4 hx,Int.sub_zero]
  rw [M6] at h4
  have e1:(lv (a.take i)+pw i*x)*lv b=lv (a.take i)*lv b+pw i*(x*lv b):=by grind
  rw [e1,← h4]
 ·rw [show i+1+b.length=(i+b.length)+1 by omega,Aa n0,← G9,h5,Ba]
  congr 1
theorem dw {a b:LI} (ha:LW a) (hb:LW b) (hn:a.length≤400) (hm:b.length≤400):Ret (m_ki a b) (fun r=>LW r∧Tm r∧lv r=lv a*lv b):=by
 unfold m_ki
 rw [C1]
 refine ⟨fun hz=>⟨_,rfl,by intro x hx; simp at hx,T7,?_⟩,fun hz=>?_⟩
 ·simp only [U5,decide_eq_true_eq] at hz
  rcases hz with hz | hz
  ·rw [show a=[] from P6 n0]; simp [lv]
  ·rw [show b=[] from P6 n0]; simp [lv]
 rw [Q2 n0 n0,O0,A7]
 refine ⟨n0,n0,?_⟩
 rw [show ((a.length:Int)+(b.length:Int)).toNat=a.length+b.length by omega]
 refine lu (Q0 (Post:=fun o=>MO a b a.length o) a.length (fun i (s:LI×Int)=>s.2=(i:Int)∧MO a b i s.1) ⟨rfl,MO.start a b⟩ ?_ n0) ?_
 ·rintro i ⟨o,_⟩ hi ⟨rfl,hO⟩
  simp only at hO
  unfold m_kh
  simp only
  rw [C1]
  refine ⟨fun hlt=>?_,fun nv=>⟨_,rfl,by have e:i=a.length:=n0; subst e; exact hO⟩⟩
  rw [O0,Q3]
  refine ⟨n0,hlt,fun x hx=>?_⟩
  rw [H1] at hx
  have jv:=LW.get ha hx
  refine lu (Q0 (Post:=fun s:LI×Int=>MI a b i b.length x s.1 s.2) b.length (fun j (s:LI×Int×Int)=>s.2.2=(j:Int)∧MI a b i j x s.1 s.2.1) ⟨rfl,hO.row x⟩ ?_ n0) ?_
  ·rintro j ⟨o,c,_⟩ hj ⟨rfl,hI⟩
   simp only at hI
   unfold m_kg
   simp only
   rw [C1]
   refine ⟨fun zG=>?_,fun nv=>⟨_,rfl,by have e:j=b.length:=n0; subst e; exact hI⟩⟩
   have VN:=hI.2.1
   rw [O0,Q3]
   refine ⟨n0,zG,fun y hy=>?_⟩
   rw [H1] at hy
   rw [Q2 (x:=(i:Int)) (y:=(j:Int)) n0 n0,O0,Q3]
   refine ⟨n0,n0,fun z hz=>?_⟩
   rw [show ((i:Int)+(j:Int)).toNat=i+j by omega] at hz
   obtain ⟨⟨t1,t2,t3,t4,t5,t6⟩,hN⟩:=hI.step jv hb hy hz
   have hc:=hI.2.2.1
   have e:B=4294967296:=rfl
   have et:wa .u64 (wa .u64 (wm .u64 (wc .u64 x) (wc .u64 y)) (wc .u64 z)) c=x*y+z+c:=by
    rw [I3 (x:=x) ⟨jv.1,n0⟩,I3 (x:=y) ⟨t3,n0⟩,I3 (x:=z) ⟨t2,n0⟩,kg ⟨t1,n0⟩,V6 (x:=x*y) (y:=z) ⟨n0,n0⟩,V6 ⟨n0,n0⟩]
   have ZD:=n4 (x*y+z+c) (show B≠0 by omega)
   have yy:=D4 (x*y+z+c) (show 0 < B by omega)
   rw [et,J7 ⟨n0,t6⟩,T6 n0,W4 ⟨ZD,yy⟩,O0,V7]
   refine ⟨n0,n0,_,rfl,n0,ku,?_⟩
   rw [show ((i:Int)+(j:Int)).toNat=i+j by omega]
   exact hN
  ·rintro ⟨o,c⟩ hI
   simp only at hI ⊢
   obtain ⟨hl,hN⟩:=hI.done hx
   have VN:=hI.2.1
   rw [Q2 (x:=(i:Int)) (y:=(b.length:Int)) n0 n0,W4 hI.2.2.1,O0,V7]
   refine ⟨n0,n0,_,rfl,n0,ku,?_⟩
   rw [show ((i:Int)+(b.length:Int)).toNat=i+b.length by omega]
   exact hN
 ·rintro o ⟨h1,h2,h3,h4⟩
  rw [M6] at h3
  rw [E4 h1 n0,obs]
  exact ⟨_,rfl,S3 h1,Y3 _,by rw [Y1]; exact h3⟩
theorem yq {n:Int} (h0: -9223372036854775808≤n) (h1:n < 9223372036854775808):Ret (m_is n) (fun r=>Bg n r.1 r.2):=by
 have e:B=4294967296:=rfl
 have key:∀ u:Int,0≤u→u < 18446744073709551616→(if n < 0 then - u else u)=n→Ret (m_ir n u) (fun r=>Bg n r.1 r.2):=by
  intro u u0 u1 hu
  unfold m_ir
  have hm:=n4 u (show B≠0 by omega)
  have Eu:=D4 u (show 0 < B by omega)
  have kE:0≤u / B:=C5 u0 n0
  have dE:u / B < B:=m6 n0 (by rw [e]; omega)
  have hd:=l6 u B
  rw [J7 ⟨u0,u1⟩,T6 u0,W4 ⟨hm,Eu⟩,W4 ⟨kE,dE⟩,O0]
  have hl:LW [u % B,u / B]:=by
   intro x hx
   simp only [G3,qt,or_false] at hx
   rcases hx with rfl | rfl
   ·exact ⟨hm,Eu⟩
   ·exact ⟨kE,dE⟩
  refine (K6 (decide (n < 0)) hl G0).mono fun r hr=>⟨_,rfl,hr.cast ?_⟩
  have hv:lv [u % B,u / B]=u:=by simp only [lv,H9,S8]; omega
  unfold sv
  rw [hv]
  simpa using hu
 unfold m_is
 rw [C1]
 refine ⟨fun PG=>?_,fun bB=>?_⟩
 ·have e3:wneg .u64 (wc .u64 n)= - n:=by rw [lg]; unfold wneg; rw [IntKind.wrap_u64]; omega
  rw [e3]
  exact key (- n) n0 n0 (by rw [I0 PG]; omega)
 ·rw [I3 ⟨n0,n0⟩]
  exact key n n0 n0 (by rw [J0 bB])
theorem W9 {l:LI} (hl:LW l) {m:Nat} (h:l.length≤m):lv l < pw m:=by
 have h1:=J4 hl
 have h2:=C7 h
 omega
theorem Jp {s t:Bool} {a b:LI} (ha:LW a) (hb:LW b) (hn:a.length≤400) (hm:b.length≤400):Ret (m_kj s a t b) (fun r=>Bg (sv s a*sv t b) r.1 r.2):=by
 unfold m_kj
 rw [E4 ha n0,obs,E4 hb n0,obs,O0]
 have la:=O5 ha
 have lb:=O5 hb
 refine (dw (S3 ha) (S3 hb) n0 n0).mono ?_
 rintro r ⟨r1,r2,r3⟩
 rw [Y1,Y1] at r3
 have hlen:r.length≤800:=by
  refine D7 r1 r2 ?_
  have h1:=W9 ha hn
  have h2:=W9 hb hm
  have h3:=S2 ha
  have h4:=S2 hb
  rw [r3,show (800:Nat)=400+400 from rfl,j9]
  have h5:lv a*lv b≤lv a*pw 400:=X3 n0 h3
  have h6:lv a*pw 400 < pw 400*pw 400:=Fa h1 (L3 _)
  omega
 refine lu (K6 (!(s == t)) r1 n0) fun q hq=>⟨_,rfl,hq.cast ?_⟩
 unfold sv
 rw [r3]
 cases s<;>cases t<;>simp<;>grind
theorem Pi {s t:Bool} {a b:LI} (ha:LW a) (hb:LW b) (hn:a.length≤900) (hm:b.length≤900):Ret (m_kv s a t b) (fun r=>Bg (sv s a+sv t b) r.1 r.2):=by
 unfold m_kv
 rw [E4 ha n0,obs,E4 hb n0,obs]
 have la:=O5 ha
 have lb:=O5 hb
 have ta:=Y3 a
 have tb:=Y3 b
 have wa':=S3 ha
 have wb':=S3 hb
 have h1:=W9 ha hn
 have h2:=W9 hb hm
 have h3:=S2 ha
 have h4:=S2 hb
 have hp:2*pw 900≤pw 901:=by
  have:=L3 900
  show 2*pw 900≤B*pw 900
  unfold B; omega
 rw [C1]
 refine ⟨fun he=>?_,fun Bu=>?_⟩
 ·obtain rfl:s=t:=by simpa using he
  refine lu (zh wa' wb' n0 n0) ?_
  rintro r ⟨r1,r2,r3⟩
  rw [Y1,Y1] at r3
  have hlen:r.length≤901:=D7 r1 r2 n0
  refine lu (K6 s r1 n0) fun q hq=>⟨_,rfl,hq.cast ?_⟩
  unfold sv
  rw [r3]
  cases s<;>simp<;>omega
 ·have nu:t=!s:=by cases s<;>cases t<;>simp_all
  subst nu
  rw [Ab wa' wb' ta tb n0 n0,obs,Y1,Y1,C1]
  refine ⟨fun nv=>?_,fun hlt=>?_⟩
  ·have nE:lv b≤lv a:=by
    refine O2 fun hc=>?_
    rw [B0] at nv; omega
   have ax:(trimL b).length≤(trimL a).length:=by
    refine O2 fun hc=>?_
    have:=F6 wa' wb' ta tb n0
    rw [Y1,Y1] at this; omega
   refine lu (Hh wa' wb' n0 ax (by rw [Y1,Y1]; exact nE)) ?_
   rintro r ⟨r1,r2,r3⟩
   rw [Y1,Y1] at r3
   have hlen:r.length≤901:=D7 r1 r2 n0
   refine lu (K6 s r1 n0) fun q hq=>⟨_,rfl,hq.cast ?_⟩
   unfold sv
   rw [r3]
   cases s<;>simp<;>omega
  ·have nE:lv a < lv b:=by
    refine O2 fun hc=>?_
    rw [J0 hc] at hlt
    revert hlt; split<;>omega
   have ax:(trimL a).length≤(trimL b).length:=by
    refine O2 fun hc=>?_
    have:=F6 wb' wa' tb ta n0
    rw [Y1,Y1] at this; omega
   refine lu (Hh wb' wa' n0 ax (by rw [Y1,Y1]; omega)) ?_
   rintro r ⟨r1,r2,r3⟩
   rw [Y1,Y1] at r3
   have hlen:r.length≤901:=D7 r1 r2 n0
   refine lu (K6 (!s) r1 n0) fun q hq=>⟨_,rfl,hq.cast ?_⟩
   unfold sv
   rw [r3]
   cases s<;>simp<;>omega
theorem uw {s t:Bool} {a b:LI} (ha:LW a) (hb:LW b) (hn:a.length≤900) (hm:b.length≤900):Ret (m_lk s a t b) (fun r=>Bg (sv s a - sv t b) r.1 r.2):=by
 unfold m_lk
 refine lu (Pi (s:=s) (t:=!t) ha hb hn hm) fun r hr=>⟨_,rfl,hr.cast ?_⟩
 rw [ko]; omega
theorem Y8 {s:Bool} {l:LI} (hl:LW l) (hn:l.length≤1000):m_iy s l=some (if sv s l < 0 then -1 else if 0 < sv s l then 1 else 0):=by
 refine Ret.eq ?_
 unfold m_iy
 rw [E4 hl n0,obs]
 have h0:=S2 hl
 have hz:=Je (S3 hl) (Y3 l)
 rw [Y1] at hz
 unfold sv
 rw [C1]
 refine ⟨fun h=>⟨_,rfl,?_⟩,fun h=>?_⟩
 ·have:lv l=0:=hz.2 (P6 n0)
  rw [this]; cases s<;>simp
 ·have:lv l≠0:=fun h1=>h (by rw [hz.1 h1]; rfl)
  rw [C1]
  refine ⟨fun hs=>⟨_,rfl,?_⟩,fun hs=>⟨_,rfl,?_⟩⟩
  ·rw [I0 hs,B0]
  ·rw [J0 hs,A0,B0]
theorem Pr {s t:Bool} {a b:LI} (ha:LW a) (hb:LW b) (hn:a.length≤1000) (hm:b.length≤1000):m_lg s a t b=some (if sv s a < sv t b then -1 else if sv t b < sv s a then 1 else 0):=by
 refine Ret.eq ?_
 unfold m_lg
 have la:=O5 ha
 have lb:=O5 hb
 have h3:=S2 ha
 have h4:=S2 hb
 rw [Y8 ha hn,obs,Y8 hb hm,obs,C1]
 refine ⟨fun h=>⟨_,rfl,?_⟩,fun h=>?_⟩
 ·revert h; split<;>split<;>(try split)<;>(try split)<;>omega
 ·rw [C1]
  refine ⟨fun h'=>⟨_,rfl,?_⟩,fun h'=>?_⟩
  ·revert h h'; split<;>split<;>(try split)<;>(try split)<;>omega
  ·rw [E4 ha n0,obs,E4 hb n0,obs,Ab (S3 ha) (S3 hb) (Y3 a) (Y3 b) n0 n0,obs,Y1,Y1]
   refine ⟨_,rfl,?_⟩
   revert h h'
   unfold sv
   cases s<;>cases t<;>simp only [if_true,if_false,D2]<;>split<;>split<;>(try split)<;>(try split)<;>intro h h'<;>first | omega | (rw [Ka n0 n0]; omega)
theorem qf {x:Int} (h:0≤x∧x < 4294967296):(BitVec.ofInt 32 x).toNat=x.toNat:=by
 rw [BitVec.toNat_ofInt]
 have:x % ((2 ^ 32:Nat):Int)=x:=P8 h.1 (by exact h.2)
 rw [this]
theorem av {s:Nat} {c k:Int} (hs:s < 32) (hc:0≤c∧c < 2 ^ s) (hk:0≤k) (hb:c+2 ^ s*k < 4294967296):wor .u32 c (2 ^ s*k)=c+2 ^ s*k:=by
 obtain ⟨C,rfl⟩:=D3 hc.1
 obtain ⟨K,rfl⟩:=D3 hk
 have hC:C < 2 ^ s:=by exact_mod_cast hc.2
 have e2:((2:Int) ^ s*(K:Int))=((2 ^ s*K:Nat):Int):=by push_cast; rfl
 rw [e2] at hb ⊢
 unfold wor
 have e3:(BitVec.ofInt 32 (C:Int) ||| BitVec.ofInt 32 ((2 ^ s*K:Nat):Int)).toNat=2 ^ s*K+C:=by
  rw [BitVec.toNat_or,qf n0,qf n0,H1,H1,Mf,← A9 hC]
 show IntKind.u32.wrap ((BitVec.ofInt 32 (C:Int) ||| BitVec.ofInt 32 ((2 ^ s*K:Nat):Int)).toNat:Int)=_
 rw [e3,IntKind.wrap_u32]
 omega
theorem Kw {s:Nat} (hs:s < 32) {x:Int} (hx:0≤x∧x < B):∃ k,0≤k∧x*2 ^ s % B=2 ^ s*k∧2 ^ s*k+2 ^ s≤B∧0≤x*2 ^ s / B∧x*2 ^ s / B < 2 ^ s:=by
 obtain ⟨h1,h2,h3,h4⟩:=w7 hs
 have e:x*2 ^ s % B=2 ^ s*(x % 2 ^ (32 - s)):=by
  rw [← h3,I4 x,Int.mul_emod_mul_of_pos _ _ h1]
 have m0:=n4 x (show (2:Int) ^ (32 - s)≠0 by omega)
 have m1:=D4 x h4
 refine ⟨x % 2 ^ (32 - s),m0,e,?_,C5 (T4 hx.1 n0) (by unfold B; omega),?_⟩
 ·have:2 ^ s*(x % 2 ^ (32 - s)+1)≤2 ^ s*2 ^ (32 - s):=X3 n0 n0
  rw [Q7,h3,qd] at this
  exact this
 ·refine m6 (by unfold B; omega) ?_
  rw [I4]
  exact Int.mul_lt_mul_of_pos_left hx.2 h1
theorem fh {a:LI} (ha:LW a) (hn:a.length≤1000) (Bu:a≠[]) {q s:Nat} (HE:q≤1000) (hs:s < 32):Ret (m_i4 a ((32*q+s:Nat):Int)) (fun u=>LW u∧Tm u∧lv u=lv a*(pw q*2 ^ s)):=by
 have e:B=4294967296:=rfl
 obtain ⟨hq,hr⟩:=yf (q:=q) n0 hs
 obtain ⟨p1,p2,p3,p4⟩:=w7 hs
 have bD:0 < a.length:=G7.2 Bu
 unfold m_i4
 rw [A0,hq,Q2 (x:=(q:Int)) (y:=(a.length:Int)) n0 n0,Q2 n0 n0,O0,A7]
 refine ⟨n0,n0,?_⟩
 rw [show ((q:Int)+(a.length:Int)+1).toNat=q+a.length+1 by omega]
 refine lu (Q0 (Post:=fun o:LI=>LW o∧o.length=q+a.length+1∧lv o=pw q*(lv a*2 ^ s)) a.length (fun i (t:LI×Int)=>t.2=(i:Int)∧LW t.1∧t.1.length=q+a.length+1∧lv t.1=pw q*(lv (a.take i)*2 ^ s)∧t.1.drop (q+i+1)=List.replicate (a.length - i) 0∧(∀ x,t.1[q+i]?=some x→x < 2 ^ s)) ⟨rfl,Xa _,T5 ..,by rw [ec,ua]; simp [lv],by rw [Ba]; congr 1; omega,fun x hx=>by rw [E9] at hx; split at hx<;>simp at hx; omega⟩ ?_ n0) ?_
 ·rintro i ⟨o,_⟩ hi ⟨rfl,h1,h2,h3,h4,h5⟩
  simp only at h1 h2 h3 h4 h5
  unfold m_i3
  simp only
  rw [C1]
  refine ⟨fun hlt=>?_,fun nv=>⟨_,rfl,h1,h2,by have ei:i=a.length:=n0; subst ei; rw [M6] at h3; exact h3⟩⟩
  have dB:i < a.length:=n0
  rw [O0,Q3]
  refine ⟨n0,hlt,fun x hx=>?_⟩
  rw [H1] at hx
  have jv:=LW.get ha hx
  have uG:0≤x*2 ^ s:=T4 jv.1 n0
  have pN:x*2 ^ s≤(B - 1)*2 ^ s:=V3 n0 n0
  have oN:(B - 1)*2 ^ s≤(B - 1)*2147483648:=X3 p2 n0
  have AF:wshl .u64 (wc .u64 x) (wc .u64 (s:Int))=some (x*2 ^ s):=by
   rw [I3 ⟨jv.1,n0⟩,I3 (x:=(s:Int)) ⟨n0,n0⟩]
   unfold wshl
   rw [A0,H1]
   show some (IntKind.u64.wrap (x*2 ^ min s 64))=_
   rw [n5 n0,IntWalk.u64_in _ ⟨uG,n0⟩]
  obtain ⟨k,k0,k1,k2,k3,k4⟩:=Kw hs jv
  have hd:=l6 (x*2 ^ s) B
  have ZD:=n4 (x*2 ^ s) (show B≠0 by omega)
  have eqi:wa .i64 (q:Int) (i:Int)=((q+i:Nat):Int):=by rw [Q2 n0 n0]; omega
  rw [hq,hr,AF,obs,eqi,O0,Q3]
  refine ⟨n0,n0,fun y hy=>?_⟩
  rw [H1] at hy
  have wv:=LW.get h1 hy
  have gN:=h5 y hy
  rw [J7 ⟨uG,n0⟩,T6 uG,W4 ⟨k3,n0⟩,W4 (x:=x*2 ^ s % B) ⟨n0,n0⟩]
  have jE:wor .u32 y (x*2 ^ s % B)=y+x*2 ^ s % B:=by rw [k1]; exact av hs ⟨wv.1,gN⟩ k0 n0
  rw [jE,O0,V7,H1]
  refine ⟨n0,n0,?_⟩
  have ew:wa .i64 ((q+i:Nat):Int) 1=((q+i+1:Nat):Int):=by rw [Q2 n0 n0]; omega
  rw [ew,O0,V7,H1]
  have bO:(o.set (q+i) (y+x*2 ^ s % B)).length=q+a.length+1:=by rw [s7,h2]
  have hz:(o.set (q+i) (y+x*2 ^ s % B))[q+i+1]?=some 0:=by
   rw [Sf n0]
   have e1:(o.drop (q+i+1))[0]?=o[q+i+1]?:=by rw [B6]
   rw [← e1,h4,E9,B0]
  refine ⟨n0,n0,_,rfl,dB,?_,?_,?_,?_,?_,?_⟩
  ·show wa .i64 (i:Int) 1=_
   rw [Q2 n0 n0]; rfl
  ·exact Y7 (Y7 h1 ⟨n0,n0⟩) ⟨k3,n0⟩
  ·show ((o.set (q+i) (y+x*2 ^ s % B)).set (q+i+1) _).length=_
   rw [s7,bO]
  ·show lv ((o.set (q+i) (y+x*2 ^ s % B)).set (q+i+1) (x*2 ^ s / B))=_
   have pq:pw (q+i)=pw q*pw i:=j9 q i
   have pq1:pw (q+i+1)=pw q*pw i*B:=by show B*pw (q+i)=_; rw [pq,I4]
   rw [Ke hz,Ke hy,h3,X4 hx,pq,pq1]
   have e3:B*(x*2 ^ s / B)+x*2 ^ s % B=x*2 ^ s:=hd
   generalize x*2 ^ s / B=Q at*
   generalize x*2 ^ s % B=r at*
   have e4:pw q*((lv (a.take i)+pw i*x)*2 ^ s)=pw q*(lv (a.take i)*2 ^ s)+pw q*pw i*(x*2 ^ s):=by grind
   rw [e4,← e3]
   grind
  ·show ((o.set (q+i) (y+x*2 ^ s % B)).set (q+i+1) (x*2 ^ s / B)).drop (q+(i+1)+1)=_
   rw [Aa n0,Aa n0,show q+(i+1)+1=q+i+1+1 by omega,← G9,h4,Ba]
   congr 1
  ·intro z YG
   have YG:((o.set (q+i) (y+x*2 ^ s % B)).set (q+i+1) (x*2 ^ s / B))[q+i+1]?=some z:=YG
   rw [N6 n0] at YG
   obtain rfl:=P1 YG
   exact k4
 ·rintro o ⟨h1,h2,h3⟩
  rw [E4 h1 n0,obs]
  exact ⟨_,rfl,S3 h1,Y3 _,by rw [Y1,h3]; grind⟩
theorem Nn {a:LI} (ha:LW a) (hn:a.length≤1000) (Bu:a≠[]) {s:Nat} (hs:s < 32):Ret (m_i4 a (s:Int)) (fun u=>LW u∧Tm u∧lv u=lv a*2 ^ s):=by
 have:=fh ha hn Bu (q:=0) n0 hs
 rw [show 32*0+s=s by omega] at this
 exact this.mono fun u hu=>⟨hu.1,hu.2.1,by rw [hu.2.2]; show _*(1*_)=_; rw [Ea]⟩
theorem qo {s:Nat} (hs:s < 32) {x y E:Int} (hx:0≤x∧x < B) (hy:0≤y):(x+B*(y+B*E)) / 2 ^ s=((x+B*y) / 2 ^ s) % B+B*((y+B*E) / 2 ^ s):=by
 obtain ⟨p1,p2,p3,p4⟩:=w7 hs
 have e:B=4294967296:=rfl
 generalize hP:(2:Int) ^ s=P at*
 generalize hQ:(2:Int) ^ (32 - s)=Q at*
 have NJ:=l6 y P
 have r0:=n4 y (show P≠0 by omega)
 have r1:=D4 y p1
 generalize hk:y / P=k at*
 generalize hr:y % P=r at*
 have w0:0≤B*r:=T4 n0 r0
 have hA:(y+B*E) / P=k+Q*E:=by
  have e1:y+B*E=r+P*(k+Q*E):=by rw [← NJ,← p3]; grind
  rw [e1,Bj _ _ n0,Ga r0 r1]; omega
 have QK:(x+B*y) / P=(x+B*r) / P+B*k:=by
  have e1:x+B*y=(x+B*r)+P*(B*k):=by rw [← NJ]; grind
  rw [e1,Bj _ _ n0]
 have hC:(x+B*(y+B*E)) / P=(x+B*r) / P+B*(k+Q*E):=by
  have e1:x+B*(y+B*E)=(x+B*r)+P*(B*(k+Q*E)):=by rw [← NJ]; have:B*E=P*(Q*E):=(by rw [← p3]; grind); rw [this]; grind
  rw [e1,Bj _ _ n0]
 have q0:0≤(x+B*r) / P:=C5 n0 n0
 have q1:(x+B*r) / P < B:=by
  refine m6 n0 ?_
  have:B*(r+1)≤B*P:=X3 n0 n0
  rw [Q7,qd] at this
  omega
 rw [hA,QK,hC,Int.add_mul_emod_self_left,P8 q0 q1]
theorem u6 {l:LI} {i:Nat} {x:Int} (hx:l[i]?=some x):lv (l.drop i)=x+B*lv (l.drop (i+1)):=by
 obtain ⟨h1,h2⟩:=C2.1 hx
 rw [Ca h1,h2]; rfl
theorem LW.drop {l:LI} (h:LW l) (k:Nat):LW (l.drop k):=fun x hx=>h x (List.mem_of_mem_drop hx)
theorem C8 (l:LI) {k:Nat} (h:k≤l.length):lv l=lv (l.take k)+pw k*lv (l.drop k):=by
 have h1:lv l=lv (l.take k++l.drop k):=by rw [B9]
 rw [h1,V9,A4,n5 h]
theorem uA {l:LI} (hl:l.length≤100000):∃ b,m_i8 l=some b∧((∀ x,x∈l→x=0)→b=false):=by
 have h1:Ret (loop (m_i6 l) 0) (fun o=>(∀ x,x∈l→x=0)→o=.inl ()):=by
  refine Q0 l.length (fun k (i:Int)=>i=(k:Int)) rfl ?_ n0
  rintro k _ hk rfl
  unfold m_i6
  rw [C1]
  refine ⟨fun hlt=>?_,fun _=>⟨_,rfl,fun _=>rfl⟩⟩
  rw [O0,Q3]
  refine ⟨n0,n0,fun x hx=>?_⟩
  have e1:m_i5 x=some (!(decide (x=0))):=rfl
  rw [e1,obs,C1]
  refine ⟨fun h2=>⟨_,rfl,fun h3=>?_⟩,fun _=>⟨_,rfl,n0,by rw [Q2 n0 n0]; rfl⟩⟩
  have:=h3 x (X2 hx)
  simp [this] at h2
 obtain ⟨o,h2,h3⟩:=h1
 unfold m_i8 m_i7
 rw [h2,obs]
 cases o with
 | inl u=>exact ⟨_,rfl,fun _=>rfl⟩
 | inr i=>exact ⟨_,rfl,fun h=>by cases h3 h⟩
theorem Jz {l:LI} (hl:LW l) (h:lv l=0):∀ x,x∈l→x=0:=by
 induction l with
 | nil=>intro x hx; cases hx
 | cons y l ih=>
  have h1:y+B*lv l=0:=h
  have hy:=hl y (Ct ..)
  have xE:LW l:=fun x hx=>hl x (Qc _ hx)
  have h2:=S2 xE
  have h3:lv l=0:=by unfold B at *; omega
  intro x hx
  rcases G3.1 hx with rfl | hx
  ·rw [h3] at h1; omega
  ·exact ih xE h3 x hx
theorem jf {a:LI} (ha:LW a) {q s:Nat} (hs:s < 32) (hq:q < a.length) (h:lv a % (pw q*2 ^ s)=0):(∀ x,x∈a.take q→x=0)∧∀ x,a[q]?=some x→x % 2 ^ s=0:=by
 obtain ⟨p1,p2,p3,p4⟩:=w7 hs
 obtain ⟨k,hk⟩:=Int.dvd_of_emod_eq_zero h
 have h1:=C8 a (k:=q) n0
 have hb:=J4 (LW.take ha q)
 rw [A4,n5 n0] at hb
 have wG:=S2 (LW.take ha q)
 have e1:lv (a.take q)=pw q*(2 ^ s*k - lv (a.drop q)):=by
  have:pw q*2 ^ s*k=pw q*(2 ^ s*k):=O8 ..
  rw [Int.mul_sub,← this]; omega
 have e2:lv (a.take q)=0:=by
  have p:=L3 q
  rcases Int.lt_trichotomy (2 ^ s*k - lv (a.drop q)) 0 with hc | hc | hc
  ·have:=Nt p hc; omega
  ·rw [e1,hc,H9]
  ·have:pw q*1≤pw q*(2 ^ s*k - lv (a.drop q)):=X3 n0 n0
   omega
 refine ⟨Jz (LW.take ha q) e2,fun x hx=>?_⟩
 rw [e2] at e1
 have e3:2 ^ s*k - lv (a.drop q)=0:=by
  rcases Ot.1 e1.symm with h | h
  ·have:=L3 q; omega
  ·exact h
 rw [u6 hx] at e3
 have e4:x=2 ^ s*(k - 2 ^ (32 - s)*lv (a.drop (q+1))):=by
  have:B*lv (a.drop (q+1))=2 ^ s*(2 ^ (32 - s)*lv (a.drop (q+1))):=by rw [← p3]; grind
  rw [Int.mul_sub,← this]; omega
 rw [e4]
 exact Int.mul_emod_right _ _
theorem ak {x:Int} {s:Nat} (hs:s < 32) (hx:0≤x∧x < B) (h:x % 2 ^ s=0):wand .u32 x (ws .u32 (2 ^ s) 1)=0:=by
 obtain ⟨p1,p2,p3,p4⟩:=w7 hs
 have e1:ws .u32 (2 ^ s) 1=((2 ^ s - 1:Nat):Int):=by
  unfold ws
  rw [IntKind.wrap_u32]
  have e2:((2 ^ s:Nat):Int)=(2:Int) ^ s:=by push_cast; rfl
  have:0 < 2 ^ s:=Nat.two_pow_pos s
  omega
 have hX:((x.toNat:Nat):Int)=x:=z8 hx.1
 have h0:x.toNat % 2 ^ s=0:=by
  have:((x.toNat % 2 ^ s:Nat):Int)=0:=by push_cast; rw [hX]; exact h
  omega
 have hlt:2 ^ s - 1 < 4294967296:=by
  have:(2:Nat) ^ s≤2 ^ 31:=aj n0 n0
  omega
 rw [e1]
 unfold wand
 show IntKind.u32.wrap ((BitVec.ofInt 32 x &&& BitVec.ofInt 32 ((2 ^ s - 1:Nat):Int)).toNat:Int)=_
 rw [BitVec.toNat_and,qf hx,qf ⟨n0,n0⟩,H1,Gb,h0]
 rfl
theorem wo {s:Nat} (hs:s < 32):wshl .u32 1 (s:Int)=some (2 ^ s):=by
 obtain ⟨p1,p2,p3,p4⟩:=w7 hs
 unfold wshl
 rw [A0,H1]
 show some (IntKind.u32.wrap (1*2 ^ min s 32))=_
 rw [n5 n0,Ea,IntKind.wrap_u32]
 congr 1
 omega
theorem yr {a:LI} (ha:LW a) {q:Nat} (hq:q≤a.length) (s:Nat):lv a / (pw q*2 ^ s)=lv (a.drop q) / 2 ^ s:=by
 have h1:=C8 a hq
 have hb:=J4 (LW.take ha q)
 rw [A4,n5 hq] at hb
 have wG:=S2 (LW.take ha q)
 rw [← Int.ediv_ediv_of_nonneg (S6 (L3 q)),h1,Bj _ _ (by have:=L3 q; omega),Ga wG hb,Int.zero_add]
theorem Ci {a:LI} (ha:LW a) (hn:a.length≤1000) {q s:Nat} (HE:q≤1000000) (hs:s < 32):Ret (m_jb a ((32*q+s:Nat):Int)) (fun r=>LW r.1∧Tm r.1∧lv r.1=lv a / (pw q*2 ^ s)∧(Tm a→lv a % (pw q*2 ^ s)=0→r.2=false)):=by
 have e:B=4294967296:=rfl
 obtain ⟨hq,hr⟩:=yf HE hs
 obtain ⟨p1,p2,p3,p4⟩:=w7 hs
 have ppos:=L3 q
 unfold m_jb
 rw [hq,C1]
 refine ⟨fun h0=>?_,fun h0=>?_⟩
 ·have hb:=J4 ha
  have hle:pw a.length≤pw q:=C7 n0
  have sI:pw q*1≤pw q*2 ^ s:=X3 n0 n0
  have hz:lv a / (pw q*2 ^ s)=0:=Ga (S2 ha) n0
  refine ⟨_,rfl,by intro x hx; simp at hx,T7,hz.symm,fun ht hm=>?_⟩
  rw [P8 (S2 ha) n0] at hm
  have:=Pa ha (b:=[]) (by intro x hx; cases hx) ht T7 hm
  subst this
  rfl
 have mJ:q < a.length:=n0
 have kx:sli a 0 (q:Int)=some (a.take q):=by unfold sli subL; rw [I0 ⟨n0,n0,n0⟩]; simp
 obtain ⟨b1,mE,gG⟩:=uA (l:=a.take q) (by rw [A4]; omega)
 obtain ⟨x0,OD⟩:∃ x0,a[q]?=some x0:=⟨a[q]'mJ,J2 mJ⟩
 have WK:=LW.get ha OD
 have ME:getI a (q:Int)=some x0:=Ret.eq (by rw [Q3]; exact ⟨n0,n0,fun x hx=>by rw [H1] at hx; exact P1 (hx.symm.trans OD)⟩)
 have SI:∃ b2,(if b1=true then some true else (getI a (q:Int)).bind fun x12=>(wshl .u32 1 (wc .u64 (wrc ((32*q+s:Nat):Int) 32))).bind fun x13=>some (!(decide ((wand .u32 x12 (ws .u32 x13 1))=0))))=some b2∧(lv a % (pw q*2 ^ s)=0→b2=false):=by
  split
  ·rename_i h1
   refine ⟨_,rfl,fun hm=>?_⟩
   rw [gG (jf ha hs mJ hm).1] at h1; cases h1
  ·rw [ME,obs,hr,I3 (x:=(s:Int)) ⟨n0,n0⟩,wo hs,obs]
   refine ⟨_,rfl,fun hm=>?_⟩
   rw [ak hs WK ((jf ha hs mJ hm).2 x0 OD)]; rfl
 obtain ⟨b2,uH,xO⟩:=SI
 rw [kx,obs,mE,obs,uH,obs,O0,H3 n0 n0,A7]
 refine ⟨n0,n0,?_⟩
 rw [show ((a.length:Int) - (q:Int)).toNat=a.length - q by omega,O0]
 have eG:=yr ha (q:=q) n0 s
 refine (Q0 (Post:=fun o:LI=>LW o∧o.length=a.length - q∧lv o=lv a / (pw q*2 ^ s)) (a.length - q) (fun i (t:LI×Int)=>t.2=(i:Int)∧LW t.1∧t.1.length=a.length - q∧lv (t.1.take i)+pw i*(lv (a.drop (q+i)) / 2 ^ s)=lv a / (pw q*2 ^ s)) ⟨rfl,Xa _,T5 ..,by rw [eG]; simp [lv,pw]⟩ ?_ n0).mono ?_
 ·rintro i ⟨o,_⟩ hi ⟨rfl,h1,h2,h3⟩
  simp only at h1 h2 h3
  unfold m_ja
  simp only
  rw [T5,C1]
  refine ⟨fun hlt=>?_,fun nv=>⟨_,rfl,h1,h2,?_⟩⟩
  ·have dB:q+i < a.length:=n0
   have eqi:wa .i64 (q:Int) (i:Int)=((q+i:Nat):Int):=by rw [Q2 n0 n0]; omega
   have eqj:wa .i64 ((q+i:Nat):Int) 1=((q+i+1:Nat):Int):=by rw [Q2 n0 n0]; omega
   rw [hq,eqi,eqj,O0,Q3]
   refine ⟨n0,n0,fun x hx=>?_⟩
   rw [H1] at hx
   have jv:=LW.get ha hx
   have key:∀ y E:Int,0≤y→y < B→0≤E→lv (a.drop (q+i+1))=y+B*E→Ret (m_i9 ((32*q+s:Nat):Int) o (i:Int) (x+B*y)) (VQ (fun t':LI×Int=>i < a.length - q∧t'.2=((i+1:Nat):Int)∧LW t'.1∧t'.1.length=a.length - q∧lv (t'.1.take (i+1))+pw (i+1)*(lv (a.drop (q+(i+1))) / 2 ^ s)=lv a / (pw q*2 ^ s)) (fun o:LI=>LW o∧o.length=a.length - q∧lv o=lv a / (pw q*2 ^ s))):=by
    intro y E y0 y1 E0 hE
    unfold m_i9
    have t0:0≤x+B*y:=by have:=T4 (show 0≤B by omega) y0; omega
    have t1:x+B*y < 18446744073709551616:=by rw [e]; omega
    have AF:wshr .u64 (x+B*y) (wc .u64 (wrc ((32*q+s:Nat):Int) 32))=some ((x+B*y) / 2 ^ s):=by
     rw [hr,I3 (x:=(s:Int)) ⟨n0,n0⟩]
     unfold wshr
     rw [A0,H1]
     show some (Int.fdiv _ (2 ^ min s 64))=_
     rw [n5 n0,I9 _ n0]
    have d0:0≤(x+B*y) / 2 ^ s:=C5 t0 n0
    have d1:(x+B*y) / 2 ^ s≤x+B*y:=Q8 _ t0
    have hm:=n4 ((x+B*y) / 2 ^ s) (show B≠0 by omega)
    have Eu:=D4 ((x+B*y) / 2 ^ s) (show 0 < B by omega)
    rw [AF,obs,J7 ⟨d0,n0⟩,W4 ⟨hm,Eu⟩,O0,V7,H1]
    refine ⟨n0,n0,_,rfl,n0,ku,Y7 h1 ⟨hm,Eu⟩,by show (o.set i _).length=_; rw [s7,h2],?_⟩
    show lv ((o.set i ((x+B*y) / 2 ^ s % B)).take (i+1))+pw (i+1)*(lv (a.drop (q+i+1)) / 2 ^ s)=_
    have dH:(o.set i ((x+B*y) / 2 ^ s % B))[i]?=some ((x+B*y) / 2 ^ s % B):=by rw [N6]; omega
    rw [X4 dH,dj,fj (by rw [A4]; omega),← h3,u6 hx,hE,qo hs jv y0]
    simp only [pw]
    generalize (x+B*y) / 2 ^ s % B=u
    generalize (y+B*E) / 2 ^ s=v
    grind
   have TD:wc .u64 x=x:=I3 ⟨jv.1,n0⟩
   rw [C1]
   refine ⟨fun sy=>?_,fun sy=>?_⟩
   ·rw [O0,Q3]
    refine ⟨n0,n0,fun y hy=>?_⟩
    rw [H1] at hy
    have wv:=LW.get ha hy
    have jE:wor .u64 (wc .u64 x) (wslc .u64 (wc .u64 y) 32)=x+B*y:=by
     rw [TD,I3 (x:=y) ⟨wv.1,n0⟩,Jb wv]
     have:wor .u64 x (y*B)=wor .u64 (y*B) x:=by unfold wor; rw [BitVec.or_comm]
     rw [this,Kb wv jv,I4]; omega
    rw [jE]
    exact key y (lv (a.drop (q+i+1+1))) wv.1 wv.2 (S2 (LW.drop ha _)) (u6 hy)
   ·have hE:lv (a.drop (q+i+1))=0:=by rw [N8 n0]; rfl
    have:=key 0 0 n0 n0 n0 (by rw [hE]; rfl)
    rw [H9,S8] at this
    rw [TD]
    exact this
  ·have ei:i=a.length - q:=n0
   subst ei
   rw [show q+(a.length - q)=a.length by omega,uj,O3 n0] at h3
   show lv o=_
   rw [← h3]
   show lv o=lv o+pw (a.length - q)*(0 / 2 ^ s)
   rw [Mt]; omega
 ·rintro o ⟨h1,h2,h3⟩
  rw [E4 h1 n0,obs]
  exact ⟨_,rfl,S3 h1,Y3 _,by rw [Y1]; exact h3,fun _ hm=>xO hm⟩
theorem sr {a:LI} (ha:LW a) (hn:a.length≤1000) {s:Nat} (hs:s < 32):Ret (m_jb a (s:Int)) (fun r=>LW r.1∧Tm r.1∧lv r.1=lv a / 2 ^ s):=by
 have:=Ci ha hn (q:=0) n0 hs
 rw [show 32*0+s=s by omega] at this
 exact this.mono fun u hu=>⟨hu.1,hu.2.1,by rw [hu.2.2.1]; show _ / (1*_)=_; rw [Ea]⟩
theorem Tx {A W Z:LI} {lo hi i:Int} (Nu:lo=(A.length:Int)) (bx:hi=(A.length:Int)+W.length) {Q:Int→Prop}:Ret (getW (A++W++Z) lo hi i) Q=(0≤i∧i < W.length∧∀ x,W[i.toNat]?=some x→Q x):=by
 subst Nu bx
 unfold getW
 by_cases h:0≤i∧i < W.length
 ·rw [I0 ⟨n0,h.1,n0,by simp only [H2]; omega⟩,Q3]
  have e1:(A++W++Z)[((A.length:Int)+i).toNat]?=W[i.toNat]?:=by
   rw [show ((A.length:Int)+i).toNat=A.length+i.toNat by omega,u7,F9 n0,eD,O6 n0]
  rw [e1]
  apply propext
  constructor
  ·rintro ⟨_,_,h3⟩; exact ⟨h.1,h.2,h3⟩
  ·rintro ⟨_,_,h3⟩; exact ⟨n0,by simp only [H2]; omega,h3⟩
 ·rw [J0 (by rintro ⟨_,h1,h2,_⟩; exact h ⟨h1,n0⟩),Vo]
  apply propext
  exact ⟨False.elim,fun ⟨h1,h2,_⟩=>h ⟨h1,h2⟩⟩
theorem Px {A W Z:LI} {lo hi i z:Int} (Nu:lo=(A.length:Int)) (bx:hi=(A.length:Int)+W.length) {Q:LI→Prop}:Ret (setW (A++W++Z) lo hi i z) Q=(0≤i∧i < W.length∧Q (A++W.set i.toNat z++Z)):=by
 subst Nu bx
 unfold setW
 by_cases h:0≤i∧i < W.length
 ·rw [I0 ⟨n0,h.1,n0,by simp only [H2]; omega⟩,V7]
  have e1:(A++W++Z).set ((A.length:Int)+i).toNat z=A++W.set i.toNat z++Z:=by
   rw [show ((A.length:Int)+i).toNat=A.length+i.toNat by omega,u7,gj _ _ n0,eD,List.set_append_left _ _ n0,u7]
  rw [e1]
  apply propext
  constructor
  ·rintro ⟨_,_,h3⟩; exact ⟨h.1,h.2,h3⟩
  ·rintro ⟨_,_,h3⟩; exact ⟨n0,by simp only [H2]; omega,h3⟩
 ·rw [J0 (by rintro ⟨_,h1,h2,_⟩; exact h ⟨h1,n0⟩),Vo]
  apply propext
  exact ⟨False.elim,fun ⟨h1,h2,_⟩=>h ⟨h1,h2⟩⟩
structure KD (U V S us vs w1 w2 wt v2 vt Q:Int):Prop where
 hS:0 < S
 hv:V=(vt*B+v2)*S+vs
 hvs:0≤vs∧vs < S
 hv2:0≤v2∧v2 < B
 hvt:2147483648≤vt∧vt < B
 hu:U=((wt*B+w1)*B+w2)*S+us
 hus:0≤us∧us < S
 hw2:0≤w2∧w2 < B
 hw1:0≤w1∧w1 < B
 hwt:0≤wt∧wt < B
 hlt:U < V*B
 hq:Qt U V Q
section
variable {U V S us vs w1 w2 wt v2 vt Q:Int}
theorem KD.vpos (h:KD U V S us vs w1 w2 wt v2 vt Q):S*B≤V:=by
 have e:B=4294967296:=rfl
 have h1:=h.hv
 have hS:=h.hS
 have h2:=h.hvt
 have h3:=h.hv2
 have h4:1*B≤vt*B:=V3 n0 n0
 have h5:B*S≤(vt*B+v2)*S:=V3 n0 n0
 have h6:=h.hvs
 rw [I4 S B]; omega
theorem KD.v0 (h:KD U V S us vs w1 w2 wt v2 vt Q):0 < V:=by
 have h1:=h.vpos
 have h2:0 < S*B:=pd h.hS (by unfold B; omega)
 omega
theorem KD.u0 (h:KD U V S us vs w1 w2 wt v2 vt Q):0≤U:=by
 have h1:=h.hwt.1
 have h2:=h.hw1.1
 have h3:=h.hw2.1
 have h4:0≤wt*B:=T4 h1 (by unfold B; omega)
 have h5:0≤(wt*B+w1)*B:=T4 n0 (by unfold B; omega)
 have h6:0≤((wt*B+w1)*B+w2)*S:=T4 n0 (by have:=h.hS; omega)
 have:=h.hus.1
 rw [h.hu]; omega
theorem KD.q0 (h:KD U V S us vs w1 w2 wt v2 vt Q):0≤Q:=h.hq.nn h.v0 h.u0
theorem KD.qB (h:KD U V S us vs w1 w2 wt v2 vt Q):Q < B:=h.hq.lt_of h.v0 (by rw [I4]; exact h.hlt)
theorem KD.top (h:KD U V S us vs w1 w2 wt v2 vt Q):wt*B+w1 < (vt+1)*B:=by
 have e:B=4294967296:=rfl
 refine O2 fun hc=>?_
 have hS:=h.hS
 have h1:((vt+1)*B)*B*S≤(wt*B+w1)*B*S:=V3 (V3 n0 n0) n0
 have h2:0≤w2*S:=T4 h.hw2.1 n0
 have h3:U=(wt*B+w1)*B*S+w2*S+us:=by rw [h.hu]; grind
 have h4:(v2+1)*S≤B*S:=V3 (by have:=h.hv2; omega) n0
 have h5:V*B=vt*B*S*B+(v2*S+vs)*B:=by rw [h.hv]; grind
 have h6:(v2*S+vs)*B≤(B*S)*B:=V3 (by have:=h.hvs; rw [T8] at h4; omega) n0
 have h7:((vt+1)*B)*B*S=vt*B*S*B+(B*S)*B:=by grind
 have:=h.hlt
 have:=h.hus.1
 omega
theorem KD.ge (h:KD U V S us vs w1 w2 wt v2 vt Q):Q*vt≤wt*B+w1:=by
 have hS:=h.hS
 have HO:0 < S*B:=pd hS (by unfold B; omega)
 refine yA (P:=S*B) (ur:=w2*S+us) (vr:=v2*S+vs) h.hq HO (by rw [h.hu]; grind) ?_ (by rw [h.hv]; grind) ?_ (by have:=h.hvt; omega) h.q0
 ·have h1:(w2+1)*S≤B*S:=V3 (by have:=h.hw2; omega) n0
  rw [T8] at h1
  have:=h.hus
  rw [I4 S B]; omega
 ·have:=T4 h.hv2.1 (show 0≤S by omega)
  have:=h.hvs
  omega
theorem KD.gt (h:KD U V S us vs w1 w2 wt v2 vt Q) {g r:Int} (hg:g*vt+r=wt*B+w1) (g0:0≤g) (hc:r*B+w2 < g*v2):Q < g:=by
 refine xA (S:=S) (us:=us) (vs:=vs) h.hq h.hS h.hu h.hus.2 h.hv h.hvs.1 ?_ g0 h.v0
 have e1:g*(vt*B+v2)=(g*vt+r)*B - r*B+g*v2:=by grind
 rw [e1,hg]; omega
theorem KD.le (h:KD U V S us vs w1 w2 wt v2 vt Q) {g r:Int} (hg:g*vt+r=wt*B+w1) (g0:0≤g) (gB:g < B) (hc:g*v2≤r*B+w2):g≤Q+1:=by
 refine wA (S:=S) (us:=us) (vs:=vs) h.hq h.hS h.hu h.hus.1 h.hv h.hvs.2 h.hvs.1 ?_ g0 ?_ h.v0
 ·have e1:g*(vt*B+v2)=(g*vt+r)*B - r*B+g*v2:=by grind
  rw [e1,hg]; omega
 ·have h1:g*S≤B*S:=V3 n0 (by have:=h.hS; omega)
  have:=h.vpos
  rw [I4 S B] at this; omega
end
theorem Qx {τ ρ:Type} {step:τ→Option (τ⊕ρ)} {Post:ρ→Prop} (I:τ→Prop) (μ:τ→Nat) {s:τ} (h0:I s) (hμ:μ s < 1099511627776)
  (h:∀ t,I t→Ret (step t) (VQ (fun t'=>I t'∧μ t' < μ t) Post)):Ret (loop step s) Post:=by
 have key:∀ (fuel:Nat) (t:τ),μ t < fuel→I t→Ret (loopN step fuel t) Post:=by
  intro fuel
  induction fuel with
  | zero=>intro t h1; omega
  | succ n ih=>
   intro t h1 h2
   obtain ⟨x,hx,h3⟩:=h t h2
   cases x with
   | inr r=>exact ⟨r,by simp [loopN,hx],h3⟩
   | inl t'=>
    obtain ⟨h4,h5⟩:=h3
    obtain ⟨y,hy,hp⟩:=ih t' n0 h4
    exact ⟨y,by simp [loopN,hx,hy],hp⟩
 exact key FUEL s (Xs hμ (by unfold FUEL; omega)) h0
theorem M5 {l:LI} {k:Nat} (h:k < l.length):∃ x,l[k]?=some x:=⟨l[k],J2 h⟩
theorem G6 {l:LI} {k:Nat} {x:Int} (hx:l[k]?=some x) {i:Int} (hi:i=(k:Int)):getI l i=some x:=by
 subst hi
 have:=(C2.1 hx).1
 exact Ret.eq (by rw [Q3]; exact ⟨n0,n0,fun y hy=>by rw [H1] at hy; exact P1 (hy.symm.trans hx)⟩)
theorem L9 {A W Z:LI} {k:Nat} {x:Int} (hx:W[k]?=some x) {lo hi i:Int} (Nu:lo=(A.length:Int)) (bx:hi=(A.length:Int)+W.length) (IA:i=(k:Int)):getW (A++W++Z) lo hi i=some x:=by
 subst IA
 have:=(C2.1 hx).1
 exact Ret.eq (by rw [Tx Nu bx]; exact ⟨n0,n0,fun y hy=>by rw [H1] at hy; exact P1 (hy.symm.trans hx)⟩)
theorem Hd {A W Z:LI} {k:Nat} (hk:k < W.length) {z lo hi i:Int} (Nu:lo=(A.length:Int)) (bx:hi=(A.length:Int)+W.length) (IA:i=(k:Int)):setW (A++W++Z) lo hi i z=some (A++W.set k z++Z):=by
 subst IA
 exact Ret.eq (by rw [Px Nu bx,H1]; exact ⟨n0,n0,rfl⟩)
theorem re {l:LI} {k:Nat} {y:Int} (hk:k < l.length):lv ((l.set k y).take (k+1))=lv (l.take k)+pw k*y:=by
 have hs:(l.set k y)[k]?=some y:=by rw [N6]; exact hk
 rw [X4 hs,dj,fj (by rw [A4]; omega)]
theorem kf {l m:LI} {k:Nat} (h:l.drop k=m.drop k):l[k]?=m[k]?:=by
 have e1:(l.drop k)[0]?=l[k]?:=by rw [B6]; rfl
 have e2:(m.drop k)[0]?=m[k]?:=by rw [B6]; rfl
 rw [← e1,← e2,h]
theorem Ao {l m:LI} {k:Nat} {y:Int} (h:l.drop k=m.drop k):(l.set k y).drop (k+1)=m.drop (k+1):=by
 rw [Aa n0,← G9,h,G9]
section
variable {A W Z v:LI} {lo hi:Int}
theorem vA {U V S us vs w1 w2 wt v2 vt Q:Int} (hK:KD U V S us vs w1 w2 wt v2 vt Q) {m:Nat} (hv:v.length=m+2) (hm:m≤10000) (g2:v[m]?=some v2) (gt:v[m+1]?=some vt) (k2:W[m]?=some w2) (Nu:lo=(A.length:Int)) (bx:hi=(A.length:Int)+W.length):
  Ret (loop (m_k9 v (A++W++Z) lo hi) ((wt*B+w1) / vt,(wt*B+w1) % vt)) (fun g=>Q≤g∧g≤Q+1∧g < B):=by
 have e:B=4294967296:=rfl
 have hvt:=hK.hvt
 have hwt:=hK.hwt
 have hw1:=hK.hw1
 have hw2:=hK.hw2
 have hv2:=hK.hv2
 have CE:=hK.top
 have OM:=hK.q0
 have NM:=hK.qB
 have nv:=hK.ge
 have t0:0≤wt*B+w1:=by have:=T4 hwt.1 (show 0≤B by omega); omega
 have hd:=l6 (wt*B+w1) vt
 have r0:=n4 (wt*B+w1) (show vt≠0 by omega)
 have r1:=D4 (wt*B+w1) (show 0 < vt by omega)
 have YD:Q≤(wt*B+w1) / vt:=(Int.le_ediv_iff_mul_le n0).2 nv
 have HE:(wt*B+w1) / vt≤wt*B+w1:=Q8 _ t0
 have GE:(wt*B+w1) / vt < 2*B:=by
  refine m6 n0 ?_
  have:(vt+1)*B≤(2*vt)*B:=V3 n0 n0
  have e9:2*B*vt=2*vt*B:=by grind
  omega
 refine Qx (fun (s:Int×Int)=>s.1*vt+s.2=wt*B+w1∧(0≤s.2∧s.2 < B)∧Q≤s.1∧s.1 < 2*B) (fun s=>s.1.toNat) ⟨by show (wt*B+w1) / vt*vt+(wt*B+w1) % vt=_; rw [I4]; exact hd,⟨r0,by show (wt*B+w1) % vt < B; omega⟩,YD,GE⟩ (by show ((wt*B+w1) / vt).toNat < _; omega) ?_
 rintro ⟨g,r⟩ ⟨hg,hr,MM,pH⟩
 simp only at hg hr MM pH
 unfold m_k9
 simp only
 have eK:ws .i64 (v.length:Int) 2=(m:Int):=by rw [hv,H3 n0 n0]; omega
 have OH:ws .i64 (v.length:Int) 1=((m+1:Nat):Int):=by rw [hv,H3 n0 n0]; omega
 rw [eK,OH,G6 g2 rfl,L9 k2 Nu bx rfl,G6 gt rfl]
 have qH:wc .u64 vt=vt:=I3 ⟨n0,n0⟩
 have down:Q < g→Ret ((if (4294967295:Int) < (wa .u64 r (wc .u64 vt)) then some (.inr (ws .u64 g 1)) else some (.inl (ws .u64 g 1,wa .u64 r (wc .u64 vt))):Option ((Int×Int)⊕Int))) (VQ (fun t':Int×Int=>(t'.1*vt+t'.2=wt*B+w1∧(0≤t'.2∧t'.2 < B)∧Q≤t'.1∧t'.1 < 2*B)∧t'.1.toNat < g.toNat) (fun g=>Q≤g∧g≤Q+1∧g < B)):=by
  intro hlt
  have hw:ws .u64 g 1=g - 1:=by rw [v7]; omega
  have e1:(g - 1)*vt+(r+vt)=wt*B+w1:=by rw [← hg]; grind
  rw [qH,V6 ⟨n0,n0⟩,hw,C1]
  refine ⟨fun hb=>⟨_,rfl,n0,?_,?_⟩,fun hb=>⟨_,rfl,⟨e1,⟨n0,n0⟩,n0,n0⟩,n0⟩⟩
  ·have qM:g - 1 < B:=by
    refine O2 fun hc=>?_
    have h1:B*vt≤(g - 1)*vt:=V3 n0 n0
    have h2:(vt+1)*B=B*vt+B:=by grind
    omega
   refine hK.le e1 n0 qM ?_
   have h1:(g - 1)*v2≤4294967295*4294967295:=ud n0 n0 hv2.1 n0
   have h2:4294967296*4294967296≤(r+vt)*B:=ud n0 n0 n0 n0
   omega
  ·refine O2 fun hc=>?_
   have h1:B*vt≤(g - 1)*vt:=V3 n0 n0
   have h2:(vt+1)*B=B*vt+B:=by grind
   omega
 by_cases UE:(4294967295:Int) < g
 ·rw [I0 UE,obs,I0 rfl,obs]
  exact down n0
 ·rw [J0 UE,obs,obs,obs]
  have PJ:wor .u64 (wslc .u64 r 32) (wc .u64 w2)=r*B+w2:=by
   rw [Jb hr,I3 (x:=w2) ⟨hw2.1,n0⟩,Kb hr hw2]
  have uG:wm .u64 g (wc .u64 v2)=g*v2:=by
   rw [I3 (x:=v2) ⟨hv2.1,n0⟩]
   have h1:=T4 (show 0≤g by omega) hv2.1
   have h2:g*v2≤4294967295*4294967295:=ud n0 n0 hv2.1 n0
   exact kg ⟨h1,n0⟩
  rw [PJ,uG,C1]
  refine ⟨fun hc=>?_,fun hc=>?_⟩
  ·rw [obs]
   exact down (hK.gt hg n0 (by simpa using hc))
  ·have hc:¬ r*B+w2 < g*v2:=by simpa using hc
   exact ⟨_,rfl,MM,hK.le hg n0 n0 n0,n0⟩
theorem vz {g:Int} (hg:0≤g∧g < B) (hW:LW W) (hv:LW v) (hl:W.length=v.length+1) (hm:v.length≤10000) (Nu:lo=(A.length:Int)) (bx:hi=(A.length:Int)+W.length):
  Ret (loop (m_k8 v lo hi g) (A++W++Z,0,0,0)) (fun r=>∃ X c b,r=(A++X++Z,c,b)∧LW X∧X.length=W.length∧X.drop v.length=W.drop v.length∧(0≤c∧c < B)∧(b=0∨b=1)∧lv (X.take v.length)=lv (W.take v.length) - g*lv v+pw v.length*(c+b)):=by
 have e:B=4294967296:=rfl
 refine (Q0 (Post:=fun r:LI×Int×Int=>∃ X c b,r=(A++X++Z,c,b)∧LW X∧X.length=W.length∧X.drop v.length=W.drop v.length∧(0≤c∧c < B)∧(b=0∨b=1)∧lv (X.take v.length)=lv (W.take v.length) - g*lv v+pw v.length*(c+b)) v.length (fun k (s:LI×Int×Int×Int)=>∃ X c b,s=(A++X++Z,c,b,(k:Int))∧LW X∧X.length=W.length∧X.drop k=W.drop k∧(0≤c∧c < B)∧(b=0∨b=1)∧lv (X.take k)=lv (W.take k) - g*lv (v.take k)+pw k*(c+b)) ⟨W,0,0,rfl,hW,rfl,rfl,⟨n0,n0⟩,.inl rfl,by simp [lv]⟩ ?_ n0)
 rintro k _ hk ⟨X,c,b,rfl,x1,x2,x3,x4,x5,x6⟩
 unfold m_k8
 simp only
 rw [C1]
 refine ⟨fun hlt=>?_,fun nv=>⟨_,rfl,X,c,b,rfl,x1,x2,by have ek:k=v.length:=n0; subst ek; exact x3,x4,x5,by have ek:k=v.length:=n0; subst ek; rw [M6] at x6; exact x6⟩⟩
 obtain ⟨y,hy⟩:=M5 (l:=v) (k:=k) n0
 obtain ⟨z,hz⟩:=M5 (l:=W) (k:=k) n0
 have JJ:X[k]?=some z:=(kf x3).trans hz
 have wv:=LW.get hv hy
 have KJ:=LW.get hW hz
 have LD:hi=(A.length:Int)+X.length:=by rw [x2]; exact bx
 have p0:=T4 hg.1 wv.1
 have p1:g*y≤4294967295*4294967295:=ud n0 n0 wv.1 n0
 have ep:wa .u64 (wm .u64 g (wc .u64 y)) c=g*y+c:=by
  rw [I3 (x:=y) ⟨wv.1,n0⟩,kg ⟨p0,n0⟩,V6 ⟨n0,n0⟩]
 have sF:=n4 (g*y+c) (show B≠0 by omega)
 have Eu:=D4 (g*y+c) (show 0 < B by omega)
 have zJ:=l6 (g*y+c) B
 have d0:0≤(g*y+c) / B:=C5 n0 n0
 have d1:(g*y+c) / B < B:=m6 n0 (by rw [e]; omega)
 obtain ⟨k1,k2,k3,k4⟩:=Jh (v:=z - (g*y+c) % B - b) n0 n0
 have et:ws .u64 (ws .u64 (wc .u64 z) (wand .u64 (g*y+c) 4294967295)) b=(z - (g*y+c) % B - b) % 18446744073709551616:=by
  rw [I3 (x:=z) ⟨KJ.1,n0⟩,J7 ⟨n0,n0⟩,v7,v7]; omega
 rw [G6 hy rfl,obs,L9 JJ Nu LD rfl,obs,ep,et]
 generalize ht:(z - (g*y+c) % B - b) % 18446744073709551616=t at*
 have ZD:=n4 t (show B≠0 by omega)
 have yy:=D4 t (show 0 < B by omega)
 have kE:0≤t / B:=C5 k3 n0
 have dE:t / B < 18446744073709551616:=m6 n0 n0
 rw [J7 ⟨k3,k4⟩,T6 k3,mg ⟨kE,dE⟩,W4 ⟨ZD,yy⟩,T6 n0,k2,Hd (k:=k) n0 Nu LD rfl,obs]
 have nK:k < X.length:=n0
 refine ⟨_,rfl,n0,X.set k (t % B),(g*y+c) / B,_,by rw [Q2 n0 n0]; rfl,Y7 x1 ⟨ZD,yy⟩,by rw [s7,x2],Ao x3,⟨d0,d1⟩,by split<;>omega,?_⟩
 rw [re nK,x6,k1,X4 hz,X4 hy]
 simp only [pw]
 generalize (if z - (g*y+c) % B - b < 0 then (1:Int) else 0)=β
 generalize (g*y+c) / B=q at*
 generalize (g*y+c) % B=r at*
 have:g*y=B*q+r - c:=n0
 have e5:g*(lv (v.take k)+pw k*y)=g*lv (v.take k)+pw k*(g*y):=by grind
 rw [e5,this]
 grind
theorem Hz (hW:LW W) (hv:LW v) (hl:W.length=v.length+1) (hm:v.length≤10000) (Nu:lo=(A.length:Int)) (bx:hi=(A.length:Int)+W.length):
  Ret (loop (m_k7 v lo hi) (A++W++Z,0,0)) (fun r=>∃ X c,r=(A++X++Z,c)∧LW X∧X.length=W.length∧X.drop v.length=W.drop v.length∧(c=0∨c=1)∧lv (X.take v.length)+pw v.length*c=lv (W.take v.length)+lv v):=by
 have e:B=4294967296:=rfl
 refine (Q0 (Post:=fun r:LI×Int=>∃ X c,r=(A++X++Z,c)∧LW X∧X.length=W.length∧X.drop v.length=W.drop v.length∧(c=0∨c=1)∧lv (X.take v.length)+pw v.length*c=lv (W.take v.length)+lv v) v.length (fun k (s:LI×Int×Int)=>∃ X c,s=(A++X++Z,c,(k:Int))∧LW X∧X.length=W.length∧X.drop k=W.drop k∧(c=0∨c=1)∧lv (X.take k)+pw k*c=lv (W.take k)+lv (v.take k)) ⟨W,0,rfl,hW,rfl,rfl,.inl rfl,by simp [lv]⟩ ?_ n0)
 rintro k _ hk ⟨X,c,rfl,x1,x2,x3,x4,x6⟩
 unfold m_k7
 simp only
 rw [C1]
 refine ⟨fun hlt=>?_,fun nv=>⟨_,rfl,X,c,rfl,x1,x2,by have ek:k=v.length:=n0; subst ek; exact x3,x4,by have ek:k=v.length:=n0; subst ek; rw [M6] at x6; exact x6⟩⟩
 obtain ⟨y,hy⟩:=M5 (l:=v) (k:=k) n0
 obtain ⟨z,hz⟩:=M5 (l:=W) (k:=k) n0
 have JJ:X[k]?=some z:=(kf x3).trans hz
 have wv:=LW.get hv hy
 have KJ:=LW.get hW hz
 have LD:hi=(A.length:Int)+X.length:=by rw [x2]; exact bx
 have ep:wa .u64 (wa .u64 (wc .u64 z) (wc .u64 y)) c=z+y+c:=by
  rw [I3 (x:=y) ⟨wv.1,n0⟩,I3 (x:=z) ⟨KJ.1,n0⟩,V6 (x:=z) (y:=y) ⟨n0,n0⟩,V6 ⟨n0,n0⟩]
 have ZD:=n4 (z+y+c) (show B≠0 by omega)
 have yy:=D4 (z+y+c) (show 0 < B by omega)
 have zJ:=l6 (z+y+c) B
 have d0:0≤(z+y+c) / B:=C5 n0 n0
 have d1:(z+y+c) / B < 2:=m6 n0 n0
 rw [G6 hy rfl,obs,L9 JJ Nu LD rfl,obs,ep,J7 ⟨n0,n0⟩,T6 n0,W4 ⟨ZD,yy⟩,Hd (k:=k) n0 Nu LD rfl,obs]
 have nK:k < X.length:=n0
 refine ⟨_,rfl,n0,X.set k ((z+y+c) % B),(z+y+c) / B,by rw [Q2 n0 n0]; rfl,Y7 x1 ⟨ZD,yy⟩,by rw [s7,x2],Ao x3,n0,?_⟩
 rw [re nK,X4 hz,X4 hy]
 simp only [pw]
 generalize (z+y+c) / B=q at*
 generalize (z+y+c) % B=r at*
 have e3:pw k*(B*q+r)=pw k*(z+y+c):=by rw [zJ]
 have e4:B*pw k*q=pw k*(B*q):=by grind
 rw [Q7] at e3
 have e5:pw k*(z+y+c)=pw k*z+pw k*y+pw k*c:=by grind
 omega
theorem IB (hW:LW W) (hv:LW v) {m:Nat} (xv:v.length=m+2) (hl:W.length=m+3) (hm:m≤9000) (hA:A.length≤10000) (CE:∀ x,v[m+1]?=some x→2147483648≤x) (hlt:lv W < lv v*B) (Nu:lo=(A.length:Int)) (bx:hi=(A.length:Int)+W.length):
  ∃ X,m_la (A++W++Z) lo hi v=some (A++X++Z,lv W / lv v)∧LW X∧X.length=W.length∧lv X=lv W % lv v:=by
 have e:B=4294967296:=rfl
 obtain ⟨v2,g2⟩:=M5 (l:=v) (k:=m) n0
 obtain ⟨vt,gt⟩:=M5 (l:=v) (k:=m+1) n0
 obtain ⟨w2,k2⟩:=M5 (l:=W) (k:=m) n0
 obtain ⟨w1,k1⟩:=M5 (l:=W) (k:=m+1) n0
 obtain ⟨wt,kt⟩:=M5 (l:=W) (k:=m+2) n0
 have b2:=LW.get hv g2
 have bt:=LW.get hv gt
 have c2:=LW.get hW k2
 have c1:=LW.get hW k1
 have ct:=LW.get hW kt
 have hvt:=CE vt gt
 have hV:lv v=(vt*B+v2)*pw m+lv (v.take m):=by
  rw [C8 v (show m≤v.length by omega),u6 g2,u6 gt,N8 n0]
  simp only [lv]; grind
 have hU:lv W=((wt*B+w1)*B+w2)*pw m+lv (W.take m):=by
  rw [C8 W (show m≤W.length by omega),u6 k2,u6 k1,u6 kt,N8 n0]
  simp only [lv]; grind
 have tv:=Ra hv (i:=m) n0
 have tw:=Ra hW (i:=m) n0
 have ND:0 < lv v:=by
  have h1:0 < (vt*B+v2)*pw m:=pd (by have:=pd (show 0 < vt by omega) (show 0 < B by omega); omega) (L3 m)
  omega
 have hK:KD (lv W) (lv v) (pw m) (lv (W.take m)) (lv (v.take m)) w1 w2 wt v2 vt (lv W / lv v):=⟨L3 m,hV,tv,b2,⟨hvt,bt.2⟩,hU,tw,c2,c1,ct,hlt,Qt.ediv ND⟩
 have OM:=hK.q0
 have NM:=hK.qB
 have jP:=l6 (lv W) (lv v)
 have TP:=n4 (lv W) (show lv v≠0 by omega)
 have SP:=D4 (lv W) ND
 have KG:=J4 hv
 have cK:pw (m+3)=B*pw (m+2):=rfl
 have aN:=L3 (m+2)
 have Sz:v.length=m+2:=xv
 refine (?_:Ret (m_la (A++W++Z) lo hi v) (fun r=>∃ X,r=(A++X++Z,lv W / lv v)∧LW X∧X.length=W.length∧lv X=lv W % lv v)).elim fun r hr=>?_
 ·unfold m_la
  have OH:ws .i64 (v.length:Int) 1=((m+1:Nat):Int):=by rw [xv,H3 n0 n0]; omega
  have wG:(v.length:Int)=((m+2:Nat):Int):=by rw [xv]
  rw [OH,wG,L9 kt Nu bx rfl,obs,L9 k1 Nu bx rfl,obs,G6 gt rfl,obs]
  have et:wor .u64 (wslc .u64 (wc .u64 wt) 32) (wc .u64 w1)=wt*B+w1:=by
   rw [I3 (x:=wt) ⟨ct.1,n0⟩,I3 (x:=w1) ⟨c1.1,n0⟩,Jb ct,Kb ct c1]
  have t0:0≤wt*B+w1:=by have:=T4 ct.1 (show 0≤B by omega); omega
  have t1:wt*B+w1 < 18446744073709551616:=by rw [e]; omega
  have qH:wc .u64 vt=vt:=I3 ⟨n0,n0⟩
  have zH:wq .u64 (wt*B+w1) vt=some ((wt*B+w1) / vt):=by
   unfold wq
   have h0:0≤(wt*B+w1) / vt:=C5 t0 n0
   have h1:(wt*B+w1) / vt≤wt*B+w1:=Q8 _ t0
   rw [A0,Xc t0,IntWalk.u64_in _ ⟨h0,n0⟩]
  have QJ:wr (wt*B+w1) vt=some ((wt*B+w1) % vt):=by
   unfold wr
   rw [A0,Wc t0]
  rw [et,qH,zH,obs,obs,qH,QJ,obs]
  refine lu (vA hK xv n0 g2 gt k2 Nu bx) ?_
  rintro g ⟨gQ,gQ1,gB⟩
  refine lu (vz (Z:=Z) ⟨n0,gB⟩ hW hv n0 n0 Nu bx) ?_
  rintro _ ⟨X,c,b,rfl,x1,x2,x3,x4,x5,x6⟩
  simp only
  have AO:X[m+2]?=some wt:=by rw [← kt]; rw [xv] at x3; exact kf x3
  have LD:hi=(A.length:Int)+X.length:=by rw [x2]; exact bx
  rw [L9 AO Nu LD rfl,obs]
  obtain ⟨q1,q2,q3,q4⟩:=Jh (v:=wt - c - b) n0 n0
  have et2:ws .u64 (ws .u64 (wc .u64 wt) c) b=(wt - c - b) % 18446744073709551616:=by
   rw [I3 (x:=wt) ⟨ct.1,n0⟩,v7,v7]; omega
  rw [et2]
  generalize ht:(wt - c - b) % 18446744073709551616=t at*
  have ZD:=n4 t (show B≠0 by omega)
  have yy:=D4 t (show 0 < B by omega)
  have kE:0≤t / B:=C5 q3 n0
  have dE:t / B < 18446744073709551616:=m6 n0 n0
  rw [J7 ⟨q3,q4⟩,T6 q3,mg ⟨kE,dE⟩,W4 ⟨ZD,yy⟩,q2,Hd (k:=m+2) n0 Nu LD rfl,obs]
  have SF:LW (X.set (m+2) (t % B)):=Y7 x1 ⟨ZD,yy⟩
  have Cy:(X.set (m+2) (t % B)).length=W.length:=by rw [s7,x2]
  have IL:=J4 SF
  have gP:=S2 SF
  have eJ:lv W=lv (W.take (m+2))+pw (m+2)*wt:=by rw [← X4 kt,O3 n0]
  have hY:lv (X.set (m+2) (t % B))=lv W - g*lv v+pw (m+3)*(if wt - c - b < 0 then 1 else 0):=by
   have h1:lv (X.set (m+2) (t % B))=lv ((X.set (m+2) (t % B)).take (m+2+1)):=by rw [O3 (by rw [Cy]; omega)]
   rw [h1,re n0,q1]
   rw [xv] at x6
   rw [x6,eJ,cK]
   generalize (if wt - c - b < 0 then (1:Int) else 0)=β
   grind
  rw [Cy,hl] at IL
  have IM:lv W - g*lv v=lv W % lv v+(lv W / lv v - g)*lv v:=by
   have:(lv W / lv v - g)*lv v=lv v*(lv W / lv v) - g*lv v:=by grind
   omega
  rw [xv] at KG
  rw [C1]
  refine ⟨fun hb=>?_,fun hb=>?_⟩
  ·have hβ:(if wt - c - b < 0 then (1:Int) else 0)=0:=hb
   rw [hβ,H9,S8,IM] at hY
   have nM:g=lv W / lv v:=by
    refine O2 fun hc=>?_
    have:lv W / lv v - g= -1:=n0
    rw [this] at hY; omega
   subst nM
   rw [Int.sub_self,Ib,S8] at hY
   rw [W4 ⟨OM,NM⟩]
   exact ⟨_,rfl,_,rfl,SF,Cy,hY⟩
  ·have hβ:(if wt - c - b < 0 then (1:Int) else 0)=1:=by revert hb; split<;>simp
   rw [hβ,qd,IM] at hY
   have nM:g=lv W / lv v+1:=by
    refine O2 fun hc=>?_
    have:lv W / lv v - g=0:=n0
    rw [this] at hY; omega
   have wL:lv W / lv v - g= -1:=n0
   rw [wL] at hY
   rw [O0]
   have vI:hi=(A.length:Int)+(X.set (m+2) (t % B)).length:=by rw [Cy]; exact bx
   refine (Hz (Z:=Z) SF hv n0 n0 Nu vI).mono ?_
   rintro _ ⟨Y,c',rfl,y1,y2,y3,y4,y5⟩
   simp only
   have zO:Y[m+2]?=some (t % B):=by
    rw [xv] at y3
    rw [kf y3,N6 n0]
   have uI:hi=(A.length:Int)+Y.length:=by rw [y2]; exact vI
   rw [L9 zO Nu uI rfl,obs,W4 (x:=c') ⟨n0,n0⟩,fv,Hd (k:=m+2) n0 Nu uI rfl,obs]
   have uN:wc .u32 (ws .u64 g 1)=lv W / lv v:=by
    rw [v7,W4 ⟨n0,n0⟩]; omega
   rw [uN]
   have rG:=n4 (t % B+c') (show B≠0 by omega)
   have mF:=D4 (t % B+c') (show 0 < B by omega)
   have fN:=l6 (t % B+c') B
   have UG:LW (Y.set (m+2) ((t % B+c') % B)):=Y7 y1 ⟨rG,mF⟩
   have jF:(Y.set (m+2) ((t % B+c') % B)).length=W.length:=by rw [s7,y2,Cy]
   refine ⟨_,rfl,_,rfl,UG,jF,?_⟩
   have KL:=J4 UG
   have lP:=S2 UG
   rw [jF,hl] at KL
   have hF:lv (Y.set (m+2) ((t % B+c') % B))=lv W % lv v+pw (m+3)*(1 - (t % B+c') / B):=by
    have h1:lv (Y.set (m+2) ((t % B+c') % B))=lv ((Y.set (m+2) ((t % B+c') % B)).take (m+2+1)):=by rw [O3 (by rw [jF]; omega)]
    have h2:lv (X.set (m+2) (t % B))=lv ((X.set (m+2) (t % B)).take (m+2))+pw (m+2)*(t % B):=by
     have h3:(X.set (m+2) (t % B))[m+2]?=some (t % B):=by rw [N6 n0]
     rw [← X4 h3,O3 (by rw [Cy]; omega)]
    rw [xv] at y5
    rw [h1,re n0,cK]
    generalize (t % B+c') / B=k at*
    generalize (t % B+c') % B=r at*
    have e3:pw (m+2)*(B*k+r)=pw (m+2)*(t % B+c'):=by rw [fN]
    rw [Q7,Q7] at e3
    have e4:B*pw (m+2)*(1 - k)=B*pw (m+2) - pw (m+2)*(B*k):=by grind
    omega
   have hk:(t % B+c') / B=1:=by
    have k0:0≤(t % B+c') / B:=C5 n0 n0
    have k1:(t % B+c') / B < 2:=m6 n0 n0
    refine O2 fun hc=>?_
    have:(t % B+c') / B=0:=n0
    rw [this] at hF
    omega
   rw [hk] at hF
   rw [hF]; omega
 ·obtain ⟨h1,X,rfl,h2⟩:=hr
  exact ⟨X,h1,h2⟩
end
theorem iz {b:LI} (hb:LW b) {m:Nat} (hl:b.length=m+2) {bt:Int} (gt:b[m+1]?=some bt) {s:Nat} (hs:s < 32) (h1:bt*2 ^ s < B) (h2:B≤2*(bt*2 ^ s)):
  lv b*2 ^ s < pw (m+2)∧2147483648*pw (m+1)≤lv b*2 ^ s:=by
 have e:B=4294967296:=rfl
 obtain ⟨p1,p2,p3,p4⟩:=w7 hs
 have AM:=LW.get hb gt
 have hV:lv b=lv (b.take (m+1))+pw (m+1)*bt:=by rw [← X4 gt,O3 n0]
 have ht:=Ra hb (i:=m+1) n0
 have hp:=L3 (m+1)
 have cP:bt < 2 ^ (32 - s):=by
  refine O2 fun hc=>?_
  have:2 ^ (32 - s)*2 ^ s≤bt*2 ^ s:=V3 n0 n0
  rw [I4] at this; omega
 have h3:(bt+1)*2 ^ s≤B:=by
  have:(bt+1)*2 ^ s≤2 ^ (32 - s)*2 ^ s:=V3 n0 n0
  rw [I4 (2 ^ (32 - s))] at this; omega
 constructor
 ·have h4:lv b*2 ^ s < (pw (m+1)*(bt+1))*2 ^ s:=Fa (by rw [Q7]; omega) p1
  have h5:pw (m+1)*((bt+1)*2 ^ s)≤pw (m+1)*B:=X3 h3 n0
  have h6:pw (m+2)=B*pw (m+1):=rfl
  rw [O8] at h4
  rw [h6,I4 B]; omega
 ·have h4:pw (m+1)*bt*2 ^ s≤lv b*2 ^ s:=V3 n0 n0
  have h5:pw (m+1)*2147483648≤pw (m+1)*(bt*2 ^ s):=X3 n0 n0
  rw [O8] at h4
  rw [I4 2147483648]; omega
theorem Wv {v:LI} (hv:LW v) {m:Nat} (hl:v.length=m+2) (h:2147483648*pw (m+1)≤lv v):∀ x,v[m+1]?=some x→2147483648≤x:=by
 intro x hx
 refine O2 fun hc=>?_
 have hV:lv v=lv (v.take (m+1))+pw (m+1)*x:=by rw [← X4 hx,O3 n0]
 have ht:=Ra hv (i:=m+1) n0
 have h4:pw (m+1)*(x+1)≤pw (m+1)*2147483648:=X3 n0 (by have:=L3 (m+1); omega)
 rw [Q7,I4 (pw (m+1)) 2147483648] at h4
 omega
theorem cw {v:LI} (hv:LW v) (tv:Tm v) {m:Nat} (h1:lv v < pw (m+2)) (h2:pw (m+1)≤lv v):v.length=m+2:=by
 have h3:=D7 hv tv h1
 refine O2 fun hc=>?_
 have h4:=W9 hv (m:=m+1) n0
 omega
theorem GB {u0 v:LI} {K m:Nat} (hu:LW u0) (hv:LW v) (xv:v.length=m+2) (VF:u0.length=K+m+2) (hK:K+m≤5000) (CE:∀ x,v[m+1]?=some x→2147483648≤x) (h0:lv (u0.drop K) < lv v):
  Ret (loop (m_lb v) (List.replicate K 0,u0,(K:Int) - 1)) (fun r=>LW r.1∧r.1.length=K∧LW r.2∧r.2.length=u0.length∧lv u0=lv r.1*lv v+lv r.2∧lv r.2 < lv v):=by
 have e:B=4294967296:=rfl
 refine (Q0 (Post:=fun r:LI×LI=>LW r.1∧r.1.length=K∧LW r.2∧r.2.length=u0.length∧lv u0=lv r.1*lv v+lv r.2∧lv r.2 < lv v) K (fun k (s:LI×LI×Int)=>s.2.2=(K:Int) - 1 - k∧k≤K∧LW s.1∧s.1.length=K∧LW s.2.1∧s.2.1.length=u0.length∧s.2.1.take (K - k)=u0.take (K - k)∧lv (u0.drop (K - k))=lv (s.1.drop (K - k))*lv v+lv (s.2.1.drop (K - k))∧lv (s.2.1.drop (K - k)) < lv v) ⟨by show (K:Int) - 1=_; omega,n0,Xa K,T5 ..,hu,rfl,rfl,by show lv (u0.drop (K - 0))=lv ((List.replicate K (0:Int)).drop (K - 0))*lv v+lv (u0.drop (K - 0)); rw [p8,Ba,Fb]; simp [lv],h0⟩ ?_ n0)
 rintro k ⟨q,u,_⟩ hk ⟨rfl,pK,q1,q2,u1,u2,u3,u4,u5⟩
 simp only at q1 q2 u1 u2 u3 u4 u5
 unfold m_lb
 simp only
 rw [C1]
 refine ⟨fun nv=>?_,fun hlt=>⟨_,rfl,q1,q2,u1,u2,?_,?_⟩⟩
 ·obtain ⟨J,hJ⟩:∃ J:Nat,K=J+(k+1):=⟨K - (k+1),n0⟩
  have e1:(K:Int) - 1 - (k:Int)=(J:Int):=n0
  have e2:K - k=J+1:=n0
  have e3:K - (k+1)=J:=n0
  rw [e2] at u3 u4 u5
  have hw:wa .i64 (wa .i64 (J:Int) (v.length:Int)) 1=(J:Int)+(m+3:Nat):=by
   rw [xv,Q2 (x:=(J:Int)) n0 n0,Q2 n0 n0]; omega
  obtain ⟨x,hx⟩:=M5 (l:=u) (k:=J) n0
  have jv:=LW.get u1 hx
  have VK:u0[J]?=some x:=by
   have h1:(u.take (J+1))[J]?=u[J]?:=by rw [K5,B0]
   have h2:(u0.take (J+1))[J]?=u0[J]?:=by rw [K5,B0]
   rw [← h2,← u3,h1]; exact hx
  have hD:=u6 hx
  have OK:=u6 VK
  have KG:=J4 hv
  rw [xv] at KG
  have AP:=S2 (LW.drop u1 (J+1))
  have eE:u=u.take J++(u.drop J).take (m+3)++u.drop (J+(m+3)):=by
   rw [u7]
   have h1:(u.drop J).take (m+3)++u.drop (J+(m+3))=u.drop J:=by rw [← G9,B9]
   rw [h1,B9]
  have kI:(u.take J).length=J:=by rw [A4]; omega
  have JK:((u.drop J).take (m+3)).length=m+3:=by rw [A4,P7]; omega
  have EI:LW ((u.drop J).take (m+3)):=LW.take (LW.drop u1 J) _
  have DI:LW (u.drop (J+(m+3))):=LW.drop u1 _
  have GJ:lv (u.drop J)=lv ((u.drop J).take (m+3))+pw (m+3)*lv (u.drop (J+(m+3))):=by
   rw [C8 (u.drop J) (k:=m+3) (by rw [P7]; omega),G9]
  have FI:lv (u.drop J) < lv v*B:=by
   have:B*(lv (u.drop (J+1))+1)≤B*lv v:=X3 n0 n0
   rw [Q7,qd] at this
   rw [I4 (lv v)]; omega
  have iP:=S2 EI
  have fP:=S2 DI
  have YL:pw (m+3)=B*pw (m+2):=rfl
  have RP:lv v*B≤pw (m+3):=by
   rw [YL,I4 B]; exact V3 n0 n0
  have DM:lv (u.drop (J+(m+3)))=0:=by
   refine O2 fun hc=>?_
   have:pw (m+3)*1≤pw (m+3)*lv (u.drop (J+(m+3))):=X3 n0 (by have:=L3 (m+3); omega)
   omega
  rw [DM,H9,S8] at GJ
  obtain ⟨X,hX,x1,x2,x3⟩:=IB (A:=u.take J) (W:=(u.drop J).take (m+3)) (Z:=u.drop (J+(m+3))) (lo:=(J:Int)) (hi:=(J:Int)+(m+3:Nat)) EI hv xv JK n0 n0 CE (by rw [← GJ]; exact FI) (by rw [kI]) (by rw [kI,JK])
  rw [← eE,← GJ] at hX
  rw [← GJ] at x3
  have ND:0 < lv v:=n0
  have kE:0≤lv (u.drop J) / lv v:=C5 n0 n0
  have dE:lv (u.drop J) / lv v < B:=m6 ND (by rw [I4]; exact FI)
  have zJ:=l6 (lv (u.drop J)) (lv v)
  have EF:=n4 (lv (u.drop J)) (show lv v≠0 by omega)
  have XD:=D4 (lv (u.drop J)) ND
  rw [e1,hw,O0,Ae]
  refine ⟨n0,n0,n0,?_⟩
  rw [hX,obs,O0,V7,H1]
  have FO:(u.take J++X++u.drop (J+(m+3))).length=u0.length:=by
   rw [H2,H2,kI,x2,JK,P7]; omega
  have JM:lv ((u.take J++X++u.drop (J+(m+3))).drop J)=lv X:=by
   rw [u7,vj kI,V9,DM]; omega
  refine ⟨n0,n0,_,rfl,n0,?_,n0,Y7 q1 ⟨kE,dE⟩,by show (q.set J _).length=K; rw [s7,q2],LW.app.2 ⟨LW.app.2 ⟨LW.take u1 _,x1⟩,DI⟩,FO,?_,?_,?_⟩
  ·show ws .i64 (J:Int) 1=_; rw [H3 n0 n0]; omega
  ·rw [e3]
   show (u.take J++X++u.drop (J+(m+3))).take J=_
   rw [u7,Kc kI]
   have h1:u.take J=(u.take (J+1)).take J:=by rw [Jc,n5 n0]
   rw [h1,u3,Jc,n5 n0]
  ·rw [e3]
   show lv (u0.drop J)=lv ((q.set J (lv (u.drop J) / lv v)).drop J)*lv v+lv ((u.take J++X++u.drop (J+(m+3))).drop J)
   have QN:(q.set J (lv (u.drop J) / lv v))[J]?=some (lv (u.drop J) / lv v):=by rw [N6]; omega
   rw [JM,x3,u6 QN,Aa n0,OK,u4]
   generalize lv (u.drop J) / lv v=Q at*
   generalize lv (u.drop J) % lv v=R at*
   have h9:(Q+B*lv (q.drop (J+1)))*lv v=lv v*Q+B*(lv (q.drop (J+1))*lv v):=by grind
   rw [h9,Q7]
   omega
  ·rw [e3]
   show lv ((u.take J++X++u.drop (J+(m+3))).drop J) < lv v
   rw [JM,x3]; exact XD
 ·have ek:K - k=0:=n0
  rw [ek] at u4
  exact u4
 ·have ek:K - k=0:=n0
  rw [ek] at u5
  exact u5
theorem xr {a b:LI} (ha:LW a) (hb:LW b) (ta:Tm a) (tb:Tm b) (Bu:b≠[]) (hn:a.length≤900) (hm:b.length≤900):∃ q r,m_lc a b=some (q,r)∧LW q∧Tm q∧LW r∧Tm r∧lv q=lv a / lv b∧lv r=lv a % lv b:=by
 have e:B=4294967296:=rfl
 have VE:0 < b.length:=G7.2 Bu
 have MD:0 < lv b:=by
  have h1:=Ub hb tb Bu
  have:=L3 (b.length - 1)
  omega
 by_cases h1:b.length=1
 ·obtain ⟨p,rfl⟩:∃ p,b=[p]:=by
   match b,h1 with
   | [p],_=>exact ⟨p,rfl⟩
  have hp:=LW.one.1 hb
  have lp:lv [p]=p:=by simp [lv]
  rw [lp] at MD ⊢
  obtain ⟨q,r,h,q1,q2,r1,r2,q3,r3,_⟩:=FB ha ta n0 MD hp.2
  exact ⟨q,r,h,q1,q2,r1,r2,q3,r3⟩
 have h0:=S2 ha
 by_cases hlt:lv a < lv b
 ·refine ⟨[],a,?_,by intro x hx; simp at hx,T7,ha,ta,by rw [Ga h0 hlt]; rfl,by rw [P8 h0 hlt]⟩
  unfold m_lc
  rw [Ab ha hb ta tb n0 n0,obs,I0 hlt,B0,lf n0,obs]
 obtain ⟨m,GK⟩:∃ m,b.length=m+2:=⟨b.length - 2,n0⟩
 have nE:b.length≤a.length:=by
  refine O2 fun hc=>?_
  have:=F6 ha hb ta tb n0
  omega
 obtain ⟨bt,gt⟩:=M5 (l:=b) (k:=m+1) n0
 have AM:=LW.get hb gt
 have GL:0 < bt:=by
  have:=tb bt (by rw [Gt,GK]; exact gt)
  omega
 obtain ⟨s,hs,aF,ZF,dH⟩:=Vz GL AM.2
 obtain ⟨p1,p2,p3,p4⟩:=w7 aF
 obtain ⟨t1,t2⟩:=iz hb GK gt aF ZF dH
 have FF:=L3 (m+1)
 refine (?_:Ret (m_lc a b) (fun r=>LW r.1∧Tm r.1∧LW r.2∧Tm r.2∧lv r.1=lv a / lv b∧lv r.2=lv a % lv b)).elim fun r hr=>⟨r.1,r.2,hr.1,hr.2⟩
 unfold m_lc
 have EL:¬ (if lv a < lv b then (-1:Int) else if lv b < lv a then 1 else 0) < 0:=by rw [J0 hlt]; split<;>omega
 have OH:ws .i64 (b.length:Int) 1=((m+1:Nat):Int):=by rw [GK,H3 n0 n0]; omega
 rw [Ab ha hb ta tb n0 n0,obs,J0 EL,A0,OH,G6 gt rfl,obs,hs,obs]
 refine lu (Nn hb n0 Bu aF) ?_
 rintro v ⟨v1,v2,v3⟩
 have xv:=cw v1 v2 (m:=m) (by rw [v3]; exact t1) (by rw [v3]; omega)
 have CE:=Wv v1 xv (by rw [v3]; exact t2)
 rw [Q2 n0 n0,O0,A7]
 refine ⟨n0,n0,?_⟩
 rw [show ((a.length:Int)+1).toNat=a.length+1 by omega,O0]
 have HL:a≠[]:=by intro h; rw [h,A6] at nE; omega
 refine (Nn ha n0 HL aF).mono ?_
 rintro w ⟨w1,w2,w3⟩
 have halt:=J4 ha
 have XK:lv w < pw a.length*2 ^ s:=by rw [w3]; exact Fa halt p1
 have ZG:w.length≤a.length+1:=by
  refine D7 w1 w2 ?_
  have h9:pw a.length*2 ^ s≤pw a.length*B:=X3 n0 (by have:=L3 a.length; omega)
  have h8:pw (a.length+1)=B*pw a.length:=rfl
  rw [h8,I4 B]; omega
 have sO:cpI (List.replicate (a.length+1) (0:Int)) 0 ((List.replicate (a.length+1) (0:Int)).length:Int) w=some (w++List.replicate (a.length+1 - w.length) 0,(w.length:Int)):=by
  unfold cpI
  rw [T5,I0 ⟨n0,n0,n0⟩]
  have e1:(((a.length+1:Nat):Int)).toNat - ((0:Int)).toNat=a.length+1:=n0
  rw [e1,P4 ZG,n5 ZG,show ((0:Int)).toNat=0 from rfl,ua,v8,o8,Ba]
 rw [sO,obs]
 have bL:(w++List.replicate (a.length+1 - w.length) (0:Int)).length=a.length+1:=by rw [H2,T5]; omega
 have mI:LW (w++List.replicate (a.length+1 - w.length) (0:Int)):=LW.app.2 ⟨w1,Xa _⟩
 have aL:lv (w++List.replicate (a.length+1 - w.length) (0:Int))=lv a*2 ^ s:=by rw [V9,ec,w3]; omega
 simp only
 generalize w++List.replicate (a.length+1 - w.length) (0:Int)=u0 at*
 obtain ⟨K,hK⟩:∃ K,a.length=K+m+1:=⟨a.length - m - 1,n0⟩
 rw [show ws .i64 (u0.length:Int) (v.length:Int)=(K:Int) by rw [bL,xv,H3 n0 n0]; omega,O0,A7]
 refine ⟨n0,n0,?_⟩
 rw [H1,T5,H3 (x:=(K:Int)) n0 n0,O0]
 have II:lv (u0.drop K) < lv v:=by
  have h9:lv u0=lv (u0.take K)+pw K*lv (u0.drop K):=C8 u0 n0
  have h8:=S2 (LW.take mI K)
  have h7:pw K*lv (u0.drop K) < pw a.length*2 ^ s:=by rw [w3] at XK; omega
  have h6:pw a.length=pw K*pw (m+1):=by rw [hK,show K+m+1=K+(m+1) by omega,j9]
  rw [h6,O8] at h7
  have h5:lv (u0.drop K) < pw (m+1)*2 ^ s:=Int.lt_of_mul_lt_mul_left h7 (S6 (L3 K))
  have h4:pw (m+1)*2 ^ s≤pw (m+1)*2147483648:=X3 p2 n0
  rw [I4 (pw (m+1)) 2147483648] at h4
  rw [v3]; omega
 refine (GB mI v1 xv n0 n0 CE II).mono ?_
 rintro ⟨q,u⟩ ⟨q1,q2,u1,u2,u3,u4⟩
 simp only at q1 q2 u1 u2 u3 u4 ⊢
 have oJ:(v.length:Int)=((m+2:Nat):Int):=by rw [xv]
 rw [oJ,O0,Ae]
 refine ⟨n0,n0,n0,?_⟩
 rw [H1,show ((0:Int)).toNat=0 from rfl,y8]
 have RE:LW (u.take (m+2)):=LW.take u1 _
 have DN:lv (u.take (m+2))=lv u:=by
  have h9:lv u=lv (u.take (m+2))+pw (m+2)*lv (u.drop (m+2)):=C8 u n0
  have h8:=S2 RE
  have h7:=S2 (LW.drop u1 (m+2))
  have h6:lv (u.drop (m+2))=0:=by
   refine O2 fun hc=>?_
   have:pw (m+2)*1≤pw (m+2)*lv (u.drop (m+2)):=X3 n0 (by have:=L3 (m+2); omega)
   rw [v3] at u4; omega
  rw [h6] at h9; omega
 rw [E4 RE (by rw [A4]; omega),obs]
 refine lu (sr (S3 RE) (by have:=O5 RE; rw [A4] at this; omega) aF) ?_
 rintro d ⟨d1,d2,d3⟩
 rw [E4 q1 n0,obs]
 rw [Y1,DN] at d3
 refine ⟨_,rfl,S3 q1,Y3 _,d1,d2,?_⟩
 show lv (trimL q)=_∧lv d.1=_
 rw [Y1]
 have WO:=S2 u1
 rw [aL,v3] at u3
 rw [v3] at u4
 have hR:lv u=(lv a - lv q*lv b)*2 ^ s:=by
  have:(lv a - lv q*lv b)*2 ^ s=lv a*2 ^ s - lv q*(lv b*2 ^ s):=by grind
  omega
 have r0:0≤lv a - lv q*lv b:=by
  refine O2 fun hc=>?_
  have:(lv a - lv q*lv b)*2 ^ s≤(-1)*2 ^ s:=V3 n0 n0
  omega
 have r1:lv a - lv q*lv b < lv b:=by
  rw [hR] at u4
  exact Int.lt_of_mul_lt_mul_right u4 (S6 p1)
 have hq:lv q=lv a / lv b:=Qt.eq (u:=lv a) (v:=lv b) ⟨n0,by rw [T8,Ea]; omega⟩ MD
 refine ⟨hq,?_⟩
 rw [d3,hR,Pt _ n0]
 have h9:=l6 (lv a) (lv b)
 rw [← hq] at h9
 have h8:lv q*lv b=lv b*lv q:=I4 _ _
 omega
theorem EB {s t:Bool} {a b:LI} (ha:LW a) (hb:LW b) (hn:a.length≤800) (hm:b.length≤800) (Bu:sv t b≠0):Ret (m_l5 s a t b) (fun r=>Bg (sv s a / sv t b) r.1 r.2.1∧Bg (sv s a % sv t b) r.2.2.1 r.2.2.2.1∧r.2.2.2.2=0):=by
 have la:=O5 ha
 have lb:=O5 hb
 have wa':=S3 ha
 have wb':=S3 hb
 have ta:=Y3 a
 have tb:=Y3 b
 have WE:trimL b≠[]:=by
  intro h
  have:lv b=0:=by rw [← Y1,h]; rfl
  apply Bu
  unfold sv; rw [this]; split<;>rfl
 have VE:=G7.2 WE
 have MD:0 < lv b:=by
  have h1:=Ub wb' tb WE
  rw [Y1] at h1
  have:=L3 ((trimL b).length - 1)
  omega
 obtain ⟨q,r,hd,q1,q2,r1,r2,q3,r3⟩:=xr wa' wb' ta tb WE n0 n0
 rw [Y1,Y1] at q3 r3
 have h0:=S2 ha
 have e0:=n4 (lv a) (show lv b≠0 by omega)
 have e1:=D4 (lv a) MD
 have zJ:=l6 (lv a) (lv b)
 have YD:0≤lv a / lv b:=C5 h0 n0
 have nL:lv a / lv b≤lv a:=Q8 _ h0
 have BM:=W9 ha hn
 have PP:=W9 hb hm
 have yP:2*pw 800≤pw 801:=by
  have:=L3 800
  show 2*pw 800≤B*pw 800
  unfold B; omega
 have gH:q.length≤801:=D7 q1 q2 n0
 have eB:r.length≤801:=D7 r1 r2 n0
 have fin:∀ x y:LI,LW x→x.length≤1000→LW y→y.length≤1000→sv (!(s == t)) x=sv s a / sv t b→lv y=sv s a % sv t b→Ret (m_l4 s t x y) (fun r=>Bg (sv s a / sv t b) r.1 r.2.1∧Bg (sv s a % sv t b) r.2.2.1 r.2.2.2.1∧r.2.2.2.2=0):=by
  intro x y hx yH hy LJ h1 h2
  unfold m_l4
  refine lu (K6 _ hx n0) fun g hg=>?_
  refine lu (K6 false hy n0) fun f hf=>⟨_,rfl,hg.cast h1,hf.cast ?_,rfl⟩
  rw [← h2]; rfl
 have quot:∀ z w:Int,sv s a=sv t b*z+w→0≤w→w < lv b→z=sv s a / sv t b∧w=sv s a % sv t b:=by
  intro z w h1 h2 h3
  have h4:w=sv s a % sv t b:=by
   rw [h1,Int.mul_add_emod_self_left]
   unfold sv
   split
   ·rw [Int.emod_neg,P8 h2 h3]
   ·rw [P8 h2 h3]
  refine ⟨?_,h4⟩
  have h5:=l6 (sv s a) (sv t b)
  have h6:sv t b*(z - sv s a / sv t b)=0:=by rw [Int.mul_sub]; omega
  rcases Ot.1 h6 with h | h
  ·exact absurd h Bu
  ·omega
 unfold m_l5
 rw [E4 hb n0,obs,A0,E4 ha n0,obs,hd,obs]
 simp only
 rw [C1]
 refine ⟨fun hc=>?_,fun hc=>?_⟩
 ·simp only [V4,decide_eq_true_eq] at hc
  obtain ⟨hs,QL⟩:=hc
  subst hs
  have EF:lv r≠0:=fun h=>by rw [(Je r1 r2).1 h] at QL; simp at QL
  refine lu (zh q1 (b:=[1]) (LW.one.2 ⟨n0,by unfold B; omega⟩) n0 G0) ?_
  rintro x ⟨x1,x2,x3⟩
  have l1:lv [1]=1:=by simp [lv]
  rw [l1] at x3
  rw [O0]
  have ax:r.length≤(trimL b).length:=by
   refine O2 fun hc=>?_
   have:=F6 wb' r1 tb r2 n0
   rw [Y1] at this; omega
  refine (Hh wb' r1 n0 ax (by rw [Y1]; omega)).mono ?_
  rintro y ⟨y1,y2,y3⟩
  rw [Y1] at y3
  have yH:x.length≤801:=D7 x1 x2 (by have:=L3 800; omega)
  have LJ:y.length≤801:=D7 y1 y2 n0
  obtain ⟨k1,k2⟩:=quot (sv (!(true == t)) x) (lv y) (by
   unfold sv
   rw [x3,y3,r3,q3]
   cases t
   ·simp
    have h7:lv b*(lv a / lv b+1)=lv b*(lv a / lv b)+lv b:=by grind
    rw [Int.mul_neg]; omega
   ·simp
    have h7:lv b*(lv a / lv b+1)=lv b*(lv a / lv b)+lv b:=by grind
    rw [Aj]; omega) (S2 y1) n0
  exact fin x y x1 n0 y1 n0 k1 k2
 ·simp only [V4,decide_eq_true_eq,not_and] at hc
  obtain ⟨k1,k2⟩:=quot (sv (!(s == t)) q) (lv r) (by
   have n1: -lv b*(lv a / lv b)= -(lv b*(lv a / lv b)):=by grind
   have n2:lv b* -(lv a / lv b)= -(lv b*(lv a / lv b)):=by grind
   have n3: -lv b* -(lv a / lv b)=lv b*(lv a / lv b):=by grind
   unfold sv
   rw [q3]
   cases s
   ·cases t
    ·simp
     first | omega | grind
    ·simp
     first | omega | grind
   ·have EF:lv r=0:=by
     have h1:=hc rfl
     have:r=[]:=P6 n0
     rw [this]; rfl
    cases t
    ·simp
     first | omega | grind
    ·simp; omega) n0 n0
  exact fin q r q1 n0 r1 n0 k1 k2
theorem l9 {l:LI} (s:Bool) (hl:LW l) (hn:l.length≤1000000):Ret (m_h s l) (fun r=>Bg (sv s l) r.1 r.2):=by
 rw [Ie s hl hn]
 have h:=Bg.norm (s:=s) hl
 by_cases h0:trimL l=[]
 ·rw [I0 h0] at h
  refine ⟨_,rfl,?_⟩
  show Bg _ (s && decide ((0:Int) < ((trimL l).length:Int))) (trimL l)
  have:(s && decide ((0:Int) < ((trimL l).length:Int)))=false:=by rw [h0]; simp
  rw [this]; exact h
 ·rw [J0 h0] at h
  refine ⟨_,rfl,?_⟩
  show Bg _ (s && decide ((0:Int) < ((trimL l).length:Int))) (trimL l)
  have hp:0 < (trimL l).length:=by
   cases hL:trimL l with
   | nil=>exact absurd hL h0
   | cons a b=>simp
  have:(s && decide ((0:Int) < ((trimL l).length:Int)))=s:=by
   rw [decide_eq_true n0,Bool.and_true]
  rw [this]; exact h
theorem Qi {s t:Bool} {a b:LI} (ha:LW a) (hb:LW b) (hn:a.length≤900) (hm:b.length≤900):Ret (m_6 s a t b) (fun r=>Bg (sv s a+sv t b) r.1 r.2):=by
 unfold m_6
 rw [X8 ha n0,obs,X8 hb n0,obs]
 have la:=O5 ha
 have lb:=O5 hb
 have ta:=Y3 a
 have tb:=Y3 b
 have wa':=S3 ha
 have wb':=S3 hb
 have h3:=S2 ha
 have h4:=S2 hb
 rw [C1]
 refine ⟨fun he=>?_,fun Bu=>?_⟩
 ·obtain rfl:s=t:=by simpa using he
  refine lu (Is wa' wb' n0 n0) ?_
  rintro r ⟨r1,r2,r3⟩
  rw [Y1,Y1] at r3
  refine lu (l9 s r1 n0) fun q hq=>⟨_,rfl,hq.cast ?_⟩
  unfold sv
  rw [r3]
  cases s<;>simp<;>omega
 ·have nu:t=!s:=by cases s<;>cases t<;>simp_all
  subst nu
  rw [Qr wa' wb' ta tb n0 n0,obs,Y1,Y1,C1]
  refine ⟨fun nv=>?_,fun hlt=>?_⟩
  ·have nE:lv b≤lv a:=by
    refine O2 fun hc=>?_
    rw [B0] at nv; omega
   have ax:(trimL b).length≤(trimL a).length:=by
    refine O2 fun hc=>?_
    have:=F6 wa' wb' ta tb n0
    rw [Y1,Y1] at this; omega
   refine lu (me wa' wb' n0 ax (by rw [Y1,Y1]; exact nE)) ?_
   rintro r ⟨r1,r2,r3⟩
   rw [Y1,Y1] at r3
   refine lu (l9 s r1 n0) fun q hq=>⟨_,rfl,hq.cast ?_⟩
   unfold sv
   rw [r3]
   cases s<;>simp<;>omega
  ·have nE:lv a < lv b:=by
    refine O2 fun hc=>?_
    rw [J0 hc] at hlt
    revert hlt; split<;>omega
   have ax:(trimL a).length≤(trimL b).length:=by
    refine O2 fun hc=>?_
    have:=F6 wb' wa' tb ta n0
    rw [Y1,Y1] at this; omega
   refine lu (me wb' wa' n0 ax (by rw [Y1,Y1]; omega)) ?_
   rintro r ⟨r1,r2,r3⟩
   rw [Y1,Y1] at r3
   refine lu (l9 (!s) r1 n0) fun q hq=>⟨_,rfl,hq.cast ?_⟩
   unfold sv
   rw [r3]
   cases s<;>simp<;>omega
theorem Wb {v:Int} {s:Bool} {l:LI} (h:Bg v s l) (hn:l.length≤1000):m_bj s l=some (if v < 0 then -1 else if 0 < v then 1 else 0):=by
 rw [Hw s h.1 h.2.1 hn]
 have h0:=S2 h.1
 have hz:=Je h.1 h.2.1
 have ha:=h.abs
 have hg:=h.neg
 by_cases hv:v < 0
 ·rw [J0 (fun e=>by rw [hz.2 e] at ha; split at ha<;>omega),I0 (hg.2 hv),I0 hv]
 ·rw [J0 hv] at ha ⊢
  by_cases hp:0 < v
  ·rw [I0 hp,J0 (fun e=>by rw [hz.2 e] at ha; omega),J0 (fun e=>hv (hg.1 e))]
  ·rw [J0 hp,I0 (hz.1 n0)]
theorem Mz {l:LI} (hn:l.length≤1000000) {N:Int} {q:Nat} (hq:wqc .i64 N 32=(q:Int)):∃ b,loop (m_u N l) (false,0)=some b∧((∀ x,x∈l.take q→x=0)→b=false):=by
 refine Q0 l.length (fun k (t:Bool×Int)=>t.2=(k:Int)∧k≤l.length∧((∀ x,x∈l.take q→x=0)→t.1=false)) ⟨rfl,n0,fun _=>rfl⟩ ?_ n0
 rintro k ⟨b,_⟩ hk ⟨rfl,_,h1⟩
 simp only at h1
 unfold m_u
 simp only
 rw [hq,C1]
 refine ⟨fun hc=>?_,fun _=>⟨_,rfl,h1⟩⟩
 rw [V4,decide_eq_true_eq,decide_eq_true_eq] at hc
 obtain ⟨x,hx⟩:=M5 (l:=l) (k:=k) n0
 have e1:∃ c,(if b=true then some true else (getI l (k:Int)).bind fun x93=>some (!(decide (x93=0))))=some c∧((∀ x,x∈l.take q→x=0)→c=false):=by
  split
  ·rename_i hb
   exact ⟨_,rfl,fun h=>by rw [h1 h] at hb; cases hb⟩
  ·rw [G6 hx rfl,obs]
   refine ⟨_,rfl,fun h=>?_⟩
   have hm:x∈l.take q:=by
    have:(l.take q)[k]?=some x:=by rw [K5,B0]; exact hx
    exact X2 this
   rw [h x hm]; rfl
 obtain ⟨c,cx,uv⟩:=e1
 rw [cx,obs]
 exact ⟨_,rfl,n0,ku,n0,uv⟩
theorem ph {l:LI} (hl:LW l) (hn:l.length≤5000) {q s:Nat} (HE:q≤1000000) (hs:s < 32):Ret (m_v l ((32*q+s:Nat):Int)) (fun r=>LW r.1∧r.1.length≤l.length∧lv r.1=lv l / (pw q*2 ^ s)∧(Tm l→lv l % (pw q*2 ^ s)=0→r.2=false)):=by
 have e:B=4294967296:=rfl
 obtain ⟨hq,hr⟩:=yf (q:=q) n0 hs
 obtain ⟨p1,p2,p3,p4⟩:=w7 hs
 obtain ⟨b0,WE,mE⟩:=Mz (l:=l) n0 hq
 have ppos:=L3 q
 unfold m_v
 rw [WE,obs,hq,O0]
 have hZ:Tm l→lv l % (pw q*2 ^ s)=0→l.length≤q→l=[]:=fun ht hm h0=>by
  have hb:=J4 hl
  have hle:pw l.length≤pw q:=C7 n0
  have sI:pw q*1≤pw q*2 ^ s:=X3 n0 n0
  rw [P8 (S2 hl) n0] at hm
  exact Pa hl (b:=[]) (by intro x hx; cases hx) ht T7 hm
 have gG:Tm l→lv l % (pw q*2 ^ s)=0→b0=false:=fun ht hm=>by
  by_cases h0:l.length≤q
  ·refine mE ?_
   rw [hZ ht hm h0]
   intro x hx; simp at hx
  ·exact mE (jf hl hs n0 hm).1
 refine (Q0 (Post:=fun o:Bool×LI=>LW o.2∧o.2.length≤l.length∧lv o.2=lv l / (pw q*2 ^ s)∧(Tm l→lv l % (pw q*2 ^ s)=0→o.1=false)) (l.length - q) (fun i (t:Bool×LI×Int)=>t.2.2=((q+i:Nat):Int)∧LW t.2.1∧t.2.1.length=i∧lv t.2.1+pw i*(lv (l.drop (q+i)) / 2 ^ s)=lv l / (pw q*2 ^ s)∧(Tm l→lv l % (pw q*2 ^ s)=0→t.1=false)) ⟨rfl,by intro x hx; simp at hx,rfl,?_,gG⟩ ?_ n0).mono ?_
 ·show lv []+pw 0*(lv (l.drop (q+0)) / 2 ^ s)=_
  rw [l7]
  by_cases h0:q≤l.length
  ·rw [yr hl h0 s]; simp [lv,pw]
  ·have hb:=J4 hl
   have hle:pw l.length≤pw q:=C7 n0
   have sI:pw q*1≤pw q*2 ^ s:=X3 n0 n0
   rw [Ga (S2 hl) n0,N8 n0]
   show (0:Int)+1*(0 / 2 ^ s)=0
   rw [Mt]; rfl
 ·rintro i ⟨b,o,_⟩ hi ⟨rfl,h1,h2,h3,h4⟩
  simp only at h1 h2 h3 h4
  unfold m_t
  simp only
  rw [C1]
  refine ⟨fun hlt=>?_,fun nv=>⟨_,rfl,h1,by show o.length≤_; omega,?_,h4⟩⟩
  ·have dB:q+i < l.length:=n0
   obtain ⟨x,hx⟩:=M5 (l:=l) (k:=q+i) dB
   have jv:=LW.get hl hx
   have eqj:wa .i64 ((q+i:Nat):Int) 1=((q+i+1:Nat):Int):=by rw [Q2 n0 n0]; omega
   rw [G6 hx rfl,obs,eqj]
   have key:∀ y E:Int,0≤y→y < B→0≤E→lv (l.drop (q+i+1))=y+B*E→Ret (m_s ((q+i:Nat):Int) ((32*q+s:Nat):Int) l o b (x+B*y)) (VQ (fun t':Bool×LI×Int=>i < l.length - q∧t'.2.2=((q+(i+1):Nat):Int)∧LW t'.2.1∧t'.2.1.length=i+1∧lv t'.2.1+pw (i+1)*(lv (l.drop (q+(i+1))) / 2 ^ s)=lv l / (pw q*2 ^ s)∧(Tm l→lv l % (pw q*2 ^ s)=0→t'.1=false)) (fun o:Bool×LI=>LW o.2∧o.2.length≤l.length∧lv o.2=lv l / (pw q*2 ^ s)∧(Tm l→lv l % (pw q*2 ^ s)=0→o.1=false))):=by
    intro y E y0 y1 E0 hE
    have t0:0≤x+B*y:=by have:=T4 (show 0≤B by omega) y0; omega
    have t1:x+B*y < 18446744073709551616:=by rw [e]; omega
    have AF:wshr .u64 (x+B*y) (wrc ((32*q+s:Nat):Int) 32)=some ((x+B*y) / 2 ^ s):=by
     rw [hr]
     unfold wshr
     rw [A0,H1]
     show some (Int.fdiv _ (2 ^ min s 64))=_
     rw [n5 n0,I9 _ n0]
    have hm:=n4 ((x+B*y) / 2 ^ s) (show B≠0 by omega)
    have Eu:=D4 ((x+B*y) / 2 ^ s) (show 0 < B by omega)
    have fin:∀ c:Bool,(Tm l→lv l % (pw q*2 ^ s)=0→c=false)→Ret (m_r (x+B*y) ((32*q+s:Nat):Int) o ((q+i:Nat):Int) c) (VQ (fun t':Bool×LI×Int=>i < l.length - q∧t'.2.2=((q+(i+1):Nat):Int)∧LW t'.2.1∧t'.2.1.length=i+1∧lv t'.2.1+pw (i+1)*(lv (l.drop (q+(i+1))) / 2 ^ s)=lv l / (pw q*2 ^ s)∧(Tm l→lv l % (pw q*2 ^ s)=0→t'.1=false)) (fun o:Bool×LI=>LW o.2∧o.2.length≤l.length∧lv o.2=lv l / (pw q*2 ^ s)∧(Tm l→lv l % (pw q*2 ^ s)=0→o.1=false))):=by
     intro c hc
     unfold m_r
     rw [AF,obs,B8,O0,s5]
     refine ⟨by rw [h2]; simp only [B4,A6]; omega,_,rfl,n0,by show wa .i64 ((q+i:Nat):Int) 1=_; rw [eqj]; rfl,LW.app.2 ⟨h1,LW.one.2 ⟨hm,Eu⟩⟩,by show (o++[_]).length=_; rw [H2,h2]; rfl,?_,hc⟩
     show lv (o++[(x+B*y) / 2 ^ s % B])+pw (i+1)*(lv (l.drop (q+i+1)) / 2 ^ s)=_
     rw [L7,h2,← h3,u6 hx,hE,qo hs jv y0]
     simp only [pw]
     generalize (x+B*y) / 2 ^ s % B=u
     generalize (y+B*E) / 2 ^ s=v
     grind
    unfold m_s
    have hb:∃ c:Bool,(if ((q+i:Nat):Int)=wqc .i64 ((32*q+s:Nat):Int) 32 then (getI l ((q+i:Nat):Int)).bind fun x76=>(wshl .u32 1 (wrc ((32*q+s:Nat):Int) 32)).bind fun x77=>some (!(decide ((wand .u32 x76 (ws .u32 x77 1))=0))) else some false)=some c∧(lv l % (pw q*2 ^ s)=0→c=false):=by
     split
     ·rename_i he
      rw [hq] at he
      have KF:i=0:=n0
      subst KF
      rw [G6 hx rfl,obs,hr,wo hs,obs]
      refine ⟨_,rfl,fun hm=>?_⟩
      rw [ak hs jv ((jf hl hs n0 hm).2 x hx)]; rfl
     ·exact ⟨_,rfl,fun _=>rfl⟩
    obtain ⟨c,hc,uv⟩:=hb
    rw [hc,obs,C1]
    exact ⟨fun ht=>fin _ fun _ hm=>(by rw [uv hm] at ht; cases ht),fun _=>fin _ h4⟩
   have TD:wc .u64 x=x:=I3 ⟨jv.1,n0⟩
   rw [C1]
   refine ⟨fun sy=>?_,fun sy=>?_⟩
   ·obtain ⟨y,hy⟩:=M5 (l:=l) (k:=q+i+1) n0
    have wv:=LW.get hl hy
    have jE:wor .u64 (wc .u64 x) (wslc .u64 (wc .u64 y) 32)=x+B*y:=by
     rw [TD,I3 (x:=y) ⟨wv.1,n0⟩,Jb wv]
     have:wor .u64 x (y*B)=wor .u64 (y*B) x:=by unfold wor; rw [BitVec.or_comm]
     rw [this,Kb wv jv,I4]; omega
    rw [G6 hy rfl,obs,jE]
    exact key y (lv (l.drop (q+i+1+1))) wv.1 wv.2 (S2 (LW.drop hl _)) (u6 hy)
   ·have hE:lv (l.drop (q+i+1))=0:=by rw [N8 n0]; rfl
    have:=key 0 0 n0 n0 n0 (by rw [hE]; rfl)
    rw [H9,S8] at this
    rw [TD]
    exact this
  ·rw [← h3,N8 n0]
   show lv o=lv o+pw i*(0 / 2 ^ s)
   rw [Mt]; omega
 ·rintro ⟨b,o⟩ ⟨h1,h2,h3,h4⟩
  exact ⟨_,rfl,h1,h2,h3,h4⟩
theorem Zb {s:Bool} {a:LI} (ha:LW a) (hn:a.length≤1000000):Ret (m_k s a) (fun r=>Bg (sv s a) r.1 r.2∧r.2.length≤a.length):=by
 have h:=Dp s ha hn
 obtain ⟨q,hq,hB⟩:=l9 s ha hn
 have hN:m_k s a=some q:=by unfold m_k; rw [hq,obs]
 refine ⟨q,hN,hB,?_⟩
 rw [hN] at h
 obtain rfl:=P1 h
 exact O5 ha
theorem Ti {s:Bool} {a:LI} (ha:LW a) (hn:a.length≤1000000):Ret (m_o s a) (fun r=>Bg (lv a) r.1 r.2∧r.2.length≤a.length):=by
 unfold m_o
 rw [O0]
 have h:=Ie false ha hn
 obtain ⟨q,hq,hB⟩:=l9 false ha hn
 refine ⟨q,hq,_,rfl,hB,?_⟩
 rw [h] at hq
 obtain rfl:=P1 hq
 exact O5 ha
theorem Z8:∀ n,pw n=2 ^ (32*n)
 | 0=>rfl
 | n+1=>by
  rw [Nat.mul_add,S4,← Z8 n,I4]
  rfl
theorem zf {k a b c d:Nat} (hb:b < 2 ^ k) (hd:d < 2 ^ k):(2 ^ k*a+b) &&& (2 ^ k*c+d)=2 ^ k*(a &&& c)+(b &&& d):=by
 refine Nat.eq_of_testBit_eq fun i=>?_
 rw [Ss,Ic a hb,Ic c hd,Ic _ (Nat.lt_of_le_of_lt Nat.and_le_left hb)]
 by_cases h:i < k
 ·simp only [h,if_true,Ss]
 ·simp only [h,if_false,Ss]
theorem Wy {k a b c d:Nat} (hb:b < 2 ^ k) (hd:d < 2 ^ k):(2 ^ k*a+b) ||| (2 ^ k*c+d)=2 ^ k*(a ||| c)+(b ||| d):=by
 refine Nat.eq_of_testBit_eq fun i=>?_
 rw [Lf,Ic a hb,Ic c hd,Ic _ (Ws hb hd)]
 by_cases h:i < k
 ·simp only [h,if_true,Lf]
 ·simp only [h,if_false,Lf]
theorem Nb {x y:Nat} (hx:x < 18446744073709551616) (hy:y < 18446744073709551616):wand .u64 (x:Int) (y:Int)=((x &&& y:Nat):Int):=by
 unfold wand
 show IntKind.u64.wrap ((BitVec.ofInt 64 (x:Int) &&& BitVec.ofInt 64 (y:Int)).toNat:Int)=_
 rw [BitVec.toNat_and,E7 n0,E7 n0,H1,H1]
 have:x &&& y≤x:=Nat.and_le_left
 rw [IntWalk.u64_in _ n0]
theorem Mb {x y:Nat} (hx:x < 18446744073709551616) (hy:y < 18446744073709551616):wor .u64 (x:Int) (y:Int)=((x ||| y:Nat):Int):=by
 unfold wor
 show IntKind.u64.wrap ((BitVec.ofInt 64 (x:Int) ||| BitVec.ofInt 64 (y:Int)).toNat:Int)=_
 rw [BitVec.toNat_or,E7 n0,E7 n0,H1,H1]
 have:x ||| y < 2 ^ 64:=Ws n0 n0
 rw [IntWalk.u64_in _ n0]
def Fn_ (s e m:Nat):Nat:=2 ^ 52*(2 ^ 11*s+e)+m
def Fl (s e m:Nat):Int:=(Fn_ s e m:Nat)
theorem ib {s e m:Nat} (hs:s < 2) (he:e < 2048) (hm:m < 4503599627370496):Fn_ s e m < 18446744073709551616:=by unfold Fn_; omega
theorem gi {s e m:Nat} (hs:s < 2) (he:e < 2048) (hm:m < 4503599627370496):0≤Fl s e m∧Fl s e m < 18446744073709551616:=by have:=ib hs he hm; unfold Fl; omega
theorem Xe {x:Int} (h0:0≤x) (h1:x < 18446744073709551616):∃ s e m,s < 2∧e < 2048∧m < 4503599627370496∧x=Fl s e m:=by
 refine ⟨x.toNat / 9223372036854775808,x.toNat / 4503599627370496 % 2048,x.toNat % 4503599627370496,n0,n0,n0,?_⟩
 unfold Fl Fn_
 omega
theorem Cq {s e m:Nat} (hs:s < 2) (he:e < 2048) (hm:m < 4503599627370496):wsrc .u64 (Fl s e m) 52=((2048*s+e:Nat):Int):=by
 unfold wsrc Fl Fn_
 show (_:Int).fdiv (2 ^ 52)=_
 rw [I9 _ n0]
 omega
theorem o9 {s e m:Nat} (hs:s < 2) (he:e < 2048) (hm:m < 4503599627370496):wand .u64 (wsrc .u64 (Fl s e m) 52) 2047=(e:Int):=by
 rw [Cq hs he hm]
 have:=Nb (x:=2048*s+e) (y:=2047) n0 n0
 refine this.trans ?_
 have h:=Gb (2048*s+e) 11
 rw [show (2:Nat) ^ 11 - 1=2047 from rfl] at h
 rw [h]
 omega
theorem We {s e m:Nat} (hs:s < 2) (he:e < 2048) (hm:m < 4503599627370496):wand .u64 (Fl s e m) 4503599627370495=(m:Int):=by
 have:=Nb (x:=Fn_ s e m) (y:=4503599627370495) (ib hs he hm) n0
 refine this.trans ?_
 have h:=Gb (Fn_ s e m) 52
 rw [show (2:Nat) ^ 52 - 1=4503599627370495 from rfl] at h
 rw [h]
 unfold Fn_
 omega
theorem ZA {s e m:Nat} (hs:s < 2) (he:e < 2048) (hm:m < 4503599627370496):wand .u64 (Fl s e m) 9223372036854775808=((9223372036854775808*s:Nat):Int):=by
 have:=Nb (x:=Fn_ s e m) (y:=9223372036854775808) (ib hs he hm) n0
 refine this.trans ?_
 have h1:=zf (k:=63) (a:=s) (b:=2 ^ 52*e+m) (c:=1) (d:=0) n0 n0
 rw [show 2 ^ 63*1+0=9223372036854775808 from rfl,dt,show 2 ^ 63*s+(2 ^ 52*e+m)=Fn_ s e m by unfold Fn_; omega,Nat.and_one_is_mod] at h1
 rw [h1]
 omega
theorem Dq {s e m:Nat} (hs:s < 2) (he:e < 2048) (hm:m < 4503599627370496) {q:Nat} (hq:q≤52) {e':Nat} (NP:e' < 2048) {y:Nat} (hy:y=2 ^ 63+2 ^ q*(2 ^ (52 - q) - 1)) (SD:2 ^ q*(2 ^ (52 - q))=4503599627370496):wor .u64 (wand .u64 (Fl s e m) (y:Int)) ((4503599627370496*e':Nat):Int)=Fl s e' (2 ^ q*(m / 2 ^ q)):=by
 have hp:0 < 2 ^ q:=Nat.two_pow_pos q
 have Eu:m / 2 ^ q < 2 ^ (52 - q):=by rw [Nat.div_lt_iff_lt_mul hp,s8,SD]; exact hm
 have hle:2 ^ q*(2 ^ (52 - q) - 1) < 4503599627370496:=by rw [Nat.mul_sub,SD]; omega
 have Ev:2 ^ q*(m / 2 ^ q) < 4503599627370496:=Nat.lt_of_le_of_lt (Nat.mul_div_le _ _) hm
 have h1:=Nb (x:=Fn_ s e m) (y:=y) (ib hs he hm) (by rw [hy]; omega)
 have e1:Fn_ s e m &&& y=Fn_ s 0 (2 ^ q*(m / 2 ^ q)):=by
  have a1:=zf (k:=52) (a:=2 ^ 11*s+e) (b:=m) (c:=2 ^ 11*1+0) (d:=2 ^ q*(2 ^ (52 - q) - 1)) n0 n0
  have a2:=zf (k:=11) (a:=s) (b:=e) (c:=1) (d:=0) n0 n0
  have a3:=zf (k:=q) (a:=m / 2 ^ q) (b:=m % 2 ^ q) (c:=2 ^ (52 - q) - 1) (d:=0) (Nf _ hp) hp
  rw [bj,l7,dt,Gb,Nat.mod_eq_of_lt Eu,l7] at a3
  rw [dt,Nat.and_one_is_mod] at a2
  rw [a2,a3] at a1
  rw [show y=2 ^ 52*(2 ^ 11*1+0)+2 ^ q*(2 ^ (52 - q) - 1) by rw [hy]]
  unfold Fn_
  rw [a1,show s % 2=s by omega]
 have h2:wand .u64 (Fl s e m) (y:Int)=((Fn_ s 0 (2 ^ q*(m / 2 ^ q)):Nat):Int):=by rw [← e1]; exact h1
 rw [h2,Mb (ib hs n0 Ev) n0]
 have b1:=Wy (k:=52) (a:=2 ^ 11*s+0) (b:=2 ^ q*(m / 2 ^ q)) (c:=e') (d:=0) n0 n0
 have b2:=A9 (b:=e') (i:=11) n0 s
 rw [l7,← b2,Nat.or_zero] at b1
 have b3:Fn_ s 0 (2 ^ q*(m / 2 ^ q)) ||| 4503599627370496*e'=Fn_ s e' (2 ^ q*(m / 2 ^ q)):=b1
 rw [b3]
 rfl
theorem YA {e m:Nat} (he:e < 2048) (hm:m < 4503599627370496):wor .u64 (Fl 0 e m) 9223372036854775808=Fl 1 e m:=by
 have:=Mb (x:=Fn_ 0 e m) (y:=9223372036854775808) (ib n0 he hm) n0
 refine this.trans ?_
 have h:=A9 (b:=Fn_ 0 e m) (i:=63) (by unfold Fn_; omega) 1
 rw [Mf]
 rw [show 2 ^ 63*1=9223372036854775808 from rfl] at h
 rw [← h]
 unfold Fl Fn_
 omega
theorem ji {m:Nat} (hm:m < 4503599627370496):wor .u64 (m:Int) 4503599627370496=((4503599627370496+m:Nat):Int):=by
 have:=Mb (x:=m) (y:=4503599627370496) n0 n0
 refine this.trans ?_
 have h:=A9 (b:=m) (i:=52) hm 1
 rw [show 2 ^ 52*1=4503599627370496 from rfl] at h
 rw [Mf,← h]
theorem aB {u m:Nat} (hu:u < 2048) (hm:m < 4503599627370496):wor .u64 (wslc .u64 (u:Int) 52) (m:Int)=Fl 0 u m:=by
 have e1:wslc .u64 (u:Int) 52=((4503599627370496*u:Nat):Int):=by
  unfold wslc
  show IntKind.u64.wrap ((u:Int)*2 ^ 52)=_
  rw [IntWalk.u64_in _ n0]
  omega
 rw [e1,Mb n0 n0]
 have h:=A9 (b:=m) (i:=52) hm u
 rw [show 2 ^ 52*u=4503599627370496*u from rfl] at h
 rw [← h]
 unfold Fl Fn_
 omega
def Tz (z:Nat) (v:Int):Prop:=∃ m,v=2 ^ z*(2*m+1)
theorem Tz.uniq {z z':Nat} {v:Int} (h:Tz z v) (h':Tz z' v):z=z':=by
 have key:∀ {z z':Nat} {v:Int},Tz z v→Tz z' v→¬ z < z':=by
  rintro z z' v ⟨m,rfl⟩ ⟨m',e⟩ hlt
  rw [show z'=z+(1+(z' - z - 1)) by omega,S4,O8] at e
  have e2:=qD (Int.ne_of_gt (C3 (by omega:(0:Int) < 2))) e
  rw [S4,O8] at e2
  omega
 have:=key h h'
 have:=key h' h
 omega
theorem Tz.neg {z:Nat} {v:Int} (h:Tz z v):Tz z (-v):=by
 obtain ⟨m,rfl⟩:=h
 exact ⟨-m - 1,by grind⟩
theorem Le:∀ {l:LI},(∀ y,y∈l→y=0)→lv l=0
 | [],_=>rfl
 | y::l,h=>by
  show y+B*lv l=0
  rw [h y (Ct ..),Le fun y hy=>h y (Qc _ hy)]
  rfl
theorem Tn {l:LI} (hl:LW l) {i:Nat} {x:Int} (hx:l[i]?=some x) (hz:∀ y,y∈l.take i→y=0) {c:Nat} {m:Int} (hc:c < 32) (hm:x=2 ^ c*(2*m+1)):Tz (32*i+c) (lv l):=by
 obtain ⟨p1,p2,p3,p4⟩:=w7 hc
 have hi:=(C2.1 hx).1
 refine ⟨m+2 ^ (32 - c - 1)*lv (l.drop (i+1)),?_⟩
 rw [C8 l (k:=i) n0,Le hz,u6 hx,hm,Z8,S4]
 have e1:B=2 ^ c*(2*2 ^ (32 - c - 1)):=by
  have:(2:Int) ^ (32 - c)=2*2 ^ (32 - c - 1):=by
   have e2:=S4 (2:Int) 1 (32 - c - 1)
   rw [show 1+(32 - c - 1)=32 - c by omega] at e2
   exact e2
  rw [← this,p3]
 rw [e1]
 grind
theorem Zn {x:Int} (h0:0 < x) (h1:x < B):∃ c:Nat,∃ m:Int,tz32 x=some (c:Int)∧c < 32∧x=2 ^ c*(2*m+1):=by
 obtain ⟨m,h2,h3⟩:=Go.Lib.ctzFrom_spec 32 x.toNat n0 (by unfold B at h1; omega)
 refine ⟨Go.Lib.ctzFrom 32 x.toNat,m,?_,h3,?_⟩
 ·unfold tz32 Go.Lib.ctz
  rw [I0 ⟨n0,h1⟩,A0]
 ·have:((x.toNat:Nat):Int)=((2 ^ Go.Lib.ctzFrom 32 x.toNat*(2*m+1):Nat):Int):=by rw [← h2]
  rw [z8 n0] at this
  rw [cd,Zc] at this
  exact this
theorem Sn {l:LI} {k:Nat} {x:Int} (hz:∀ y,y∈l.take k→y=0) (hx:l[k]?=some x) (h0:x=0):∀ y,y∈l.take (k+1)→y=0:=fun y hy=>by
 rcases (mts hx).1 hy with h | h
 ·exact hz y h
 ·rw [h,h0]
theorem Xn {s:Bool} {l:LI} (hl:LW l) (hn:l.length≤1000) (h0:lv l≠0):∃ z:Nat,m_i0 s l=some (z:Int)∧z < 32*l.length∧Tz z (lv l):=by
 have h1:Ret (loop (m_iz l) 0) (fun o=>∃ z:Nat,o=.inr (z:Int)∧z < 32*l.length∧Tz z (lv l)):=by
  refine Q0 l.length (fun k (t:Int)=>t=(k:Int)∧∀ y,y∈l.take k→y=0) ⟨rfl,by intro y hy; simp at hy⟩ ?_ n0
  rintro k _ hk ⟨rfl,hz⟩
  unfold m_iz
  rw [C1]
  refine ⟨fun hlt=>?_,fun nv=>?_⟩
  ·obtain ⟨x,hx⟩:=M5 (l:=l) (k:=k) n0
   have jv:=LW.get hl hx
   rw [G6 hx rfl,obs,C1]
   refine ⟨fun OD=>⟨_,rfl,n0,by rw [Q2 n0 n0]; rfl,Sn hz hx OD⟩,fun OD=>?_⟩
   obtain ⟨c,m,h2,h3,h4⟩:=Zn (x:=x) n0 jv.2
   rw [h2,obs]
   refine ⟨_,rfl,32*k+c,?_,n0,Tn hl hx hz h3 h4⟩
   rw [Ka n0 n0,Q2 n0 n0]
   exact S0 Sum.inr n0
  ·exfalso
   refine h0 ?_
   rw [P4 n0] at hz
   exact Le hz
 obtain ⟨o,h2,z,rfl,h3,h4⟩:=h1
 exact ⟨z,by unfold m_i0; rw [h2,obs],h3,h4⟩
theorem Un {s:Bool} {l:LI} (hl:LW l) (ht:Tm l) (hn:l.length≤1000) (h0:lv l≠0):∃ z:Nat,m_n s l=some (z:Int)∧z < 32*l.length∧Tz z (lv l):=by
 have hlt:trimL l=l:=(ee hl hl ht rfl).symm
 have h1:Ret (loop (m_m l) 0) (fun o=>∃ z:Nat,o=.inr (z:Int)∧z < 32*l.length∧Tz z (lv l)):=by
  refine Q0 l.length (fun k (t:Int)=>t=(k:Int)∧∀ y,y∈l.take k→y=0) ⟨rfl,by intro y hy; simp at hy⟩ ?_ n0
  rintro k _ hk ⟨rfl,hz⟩
  unfold m_m
  rw [C1]
  refine ⟨fun hlt=>?_,fun nv=>?_⟩
  ·obtain ⟨x,hx⟩:=M5 (l:=l) (k:=k) n0
   have jv:=LW.get hl hx
   rw [G6 hx rfl,obs,C1]
   refine ⟨fun OD=>⟨_,rfl,n0,by rw [Q2 n0 n0]; rfl,Sn hz hx OD⟩,fun OD=>?_⟩
   obtain ⟨c,m,h2,h3,h4⟩:=Zn (x:=x) n0 jv.2
   rw [obs,h2,obs]
   refine ⟨_,rfl,32*k+c,?_,n0,Tn hl hx hz h3 h4⟩
   rw [Ka n0 n0,Q2 n0 n0]
   exact S0 Sum.inr n0
  ·exfalso
   refine h0 ?_
   rw [P4 n0] at hz
   exact Le hz
 obtain ⟨o,h2,z,rfl,h3,h4⟩:=h1
 exact ⟨z,by unfold m_n; rw [X8 hl n0,obs,hlt,h2,obs],h3,h4⟩
def Bl_ (b:Nat) (v:Int):Prop:=v < 2 ^ b∧2 ^ b≤2*v
theorem bo {l:LI} (hl:LW l) {n:Nat} (hn:l.length=n+1) {x:Int} (hx:l[n]?=some x) {v:Nat} (h1:x < 2 ^ v) (h2:2 ^ v≤2*x):Bl_ (32*n+v) (lv l):=by
 have e1:lv l=lv (l.take n)+pw n*x:=by
  rw [C8 l (k:=n) n0,u6 hx,N8 n0]
  show _+pw n*(x+B*0)=_
  rw [H9,S8]
 have hb:=J4 (LW.take hl n)
 rw [A4,n5 n0] at hb
 have wG:=S2 (LW.take hl n)
 have p:=L3 n
 constructor
 ·rw [S4,← Z8]
  have:pw n*(x+1)≤pw n*2 ^ v:=X3 n0 n0
  rw [Q7,qd] at this
  omega
 ·rw [S4,← Z8]
  have:pw n*2 ^ v≤pw n*(2*x):=X3 n0 n0
  have e2:pw n*(2*x)=2*(pw n*x):=by grind
  omega
theorem aq {l:LI} (hl:LW l) (ht:Tm l) (hn:l.length≤1000) (Bu:l≠[]):∃ b:Nat,m_i1 l=some (b:Int)∧b≤32*l.length∧Bl_ b (lv l):=by
 have bD:0 < l.length:=G7.2 Bu
 obtain ⟨x,hx⟩:=M5 (l:=l) (k:=l.length - 1) n0
 have jv:=LW.get hl hx
 have OD:x≠0:=ht x (by rw [Gt]; exact hx)
 obtain ⟨v,h1,h2,h3,h4⟩:=Mh jv.1 jv.2
 unfold m_i1
 rw [A0,H3 n0 n0,G6 hx n0,obs,h1,obs]
 refine ⟨32*(l.length - 1)+v,?_,n0,bo hl n0 hx h3 (h4 n0)⟩
 rw [Ka n0 n0,Q2 n0 n0]
 congr 1; omega
theorem Li {s:Bool} {l:LI} (hl:LW l) (ht:Tm l) (hn:l.length≤1000) (Bu:l≠[]):∃ b:Nat,m_i2 s l=some (b:Int)∧b≤32*l.length∧Bl_ b (lv l):=by
 obtain ⟨b,h1,h2⟩:=aq hl ht hn Bu
 exact ⟨b,by unfold m_i2; rw [E4 hl n0,obs,(ee hl hl ht rfl).symm,h1,obs],h2⟩
theorem ss {s:Bool} {l:LI} (hl:LW l) (ht:Tm l) (hn:l.length≤1000) (Bu:l≠[]):∃ b:Nat,m_bf s l=some (b:Int)∧b≤32*l.length∧Bl_ b (lv l):=by
 have bD:0 < l.length:=G7.2 Bu
 obtain ⟨x,hx⟩:=M5 (l:=l) (k:=l.length - 1) n0
 have jv:=LW.get hl hx
 have OD:x≠0:=ht x (by rw [Gt]; exact hx)
 obtain ⟨v,h1,h2,h3,h4⟩:=Mh jv.1 jv.2
 unfold m_bf
 rw [X8 hl n0,obs,(ee hl hl ht rfl).symm,A0,H3 n0 n0,G6 hx n0,obs,h1,obs]
 refine ⟨32*(l.length - 1)+v,?_,n0,bo hl n0 hx h3 (h4 n0)⟩
 rw [Ka n0 n0,Q2 n0 n0]
 congr 1; omega
theorem n32 (N:Nat):N=32*(N / 32)+N % 32:=n0
theorem P9 (N:Nat):pw (N / 32)*2 ^ (N % 32)=2 ^ N:=by rw [Z8,← S4]; congr 1; omega
theorem oo {s:Bool} {l u:LI} {c:Int} (h:lv u=lv l*c):sv s u=sv s l*c:=by
 unfold sv; split
 ·rw [h,Aj]
 ·exact h
theorem H6 {N M:Nat} (h:N≤M):(2:Int) ^ N≤2 ^ M:=by
 have h9:((2 ^ N:Nat):Int)≤((2 ^ M:Nat):Int):=Int.ofNat_le.2 (aj n0 h)
 rw [Zc,Zc] at h9
 exact h9
theorem vo {s:Bool} {l:LI} (hl:LW l) (hn:l.length≤900) {N:Nat} (hN:N≤32000):Ret (m_jh s l (N:Int)) (fun r=>Bg (sv s l*2 ^ N) r.1 r.2.1∧r.2.2=0):=by
 have hlt:=O5 hl
 unfold m_jh
 rw [J0 (by simp only [U5,decide_eq_true_eq]; omega),E4 hl n0,obs,B0,O0]
 have iJ:Ret (m_i4 (trimL l) (N:Int)) (fun u=>LW u∧u.length≤1000000∧lv u=lv l*2 ^ N):=by
  by_cases Bu:trimL l=[]
  ·unfold m_i4
   rw [Bu,I0 (by rfl)]
   have:lv l=0:=by rw [← Y1,Bu]; rfl
   exact ⟨[],rfl,(fun x hx=>by cases hx),G0,by rw [this,Ib]; rfl⟩
  ·have:=fh (S3 hl) n0 Bu (q:=N / 32) (s:=N % 32) n0 n0
   rw [← n32,P9,Y1] at this
   refine this.mono fun u hu=>⟨hu.1,?_,hu.2.2⟩
   exact Q5 (Bg.len (v:=lv u) (m:=2000) (Bg.of (s:=false) hu.1 hu.2.1 G0) (by have:=S2 hu.1; have:=L3 2000; omega) (by
    rw [hu.2.2]
    have h1:=J4 hl
    have h2:pw l.length≤pw 1000:=C7 n0
    have h3:(2:Int) ^ N≤pw 1000:=by
     have h9:=H6 (N:=N) (M:=32*1000) n0
     rw [Z8]; exact h9
    have p:(0:Int) < 2 ^ N:=C3 n0
    rw [show pw 2000=pw 1000*pw 1000 from j9 1000 1000]
    have a1:lv l*2 ^ N < pw 1000*2 ^ N:=Fa n0 p
    have a2:pw 1000*2 ^ N≤pw 1000*pw 1000:=X3 h3 (S6 (L3 _))
    omega)) n0
 refine iJ.mono fun u hu=>?_
 refine lu (K6 s hu.1 hu.2.1) fun r hr=>⟨_,rfl,?_,rfl⟩
 rw [oo hu.2.2] at hr
 exact hr
theorem Qw {s:Bool} {l:LI} (hl:LW l) (hn:l.length≤900) {N:Nat} (hN:N≤32000) {c:Int} (hd:lv l=c*2 ^ N):Ret (m_jh s l (-(N:Int))) (fun r=>Bg (if s=true then - c else c) r.1 r.2.1∧r.2.2=0):=by
 by_cases h0:N=0
 ·subst h0
  have:=vo (s:=s) hl hn (N:=0) n0
  have e1:sv s l*2 ^ 0=if s=true then - c else c:=by
   rw [show ((2:Int) ^ 0)=1 from rfl,qd] at*
   unfold sv; rw [hd]
  rw [e1] at this
  exact this
 have hlt:=O5 hl
 have p:(0:Int) < 2 ^ N:=C3 n0
 unfold m_jh
 rw [J0 (by simp only [U5,decide_eq_true_eq]; omega),E4 hl n0,obs,A0,O0]
 have e2:wneg .i64 (-(N:Int))=(N:Int):=by
  show IntKind.wrap .i64 (- -(N:Int))=_
  rw [zj,IntWalk.i64_in _ n0]
 have:=Ci (S3 hl) n0 (q:=N / 32) (s:=N % 32) n0 n0
 rw [← n32,P9,Y1] at this
 rw [e2]
 refine this.mono fun u hu=>?_
 obtain ⟨u1,u2,u3,u4⟩:=hu
 rw [hd,Pt _ n0] at u3
 rw [u4 (Y3 _) (by rw [hd]; exact Int.mul_emod_left _ _),Bool.and_false,J0 G0]
 unfold m_jg
 rw [O0]
 have VF:u.1.length≤1000000:=by
  refine Q5 (Bg.len (v:=lv u.1) (m:=1000) (Bg.of (s:=false) u1 u2 G0) (by have:=S2 u1; have:=L3 1000; omega) ?_) n0
  have h1:=J4 hl
  have h2:pw l.length≤pw 1000:=C7 n0
  have h3:c*1≤c*2 ^ N:=X3 n0 (by rw [← u3]; exact S2 u1)
  omega
 refine (K6 s u1 VF).mono fun r hr=>⟨_,rfl,?_,rfl⟩
 unfold sv at hr
 rw [u3] at hr
 exact hr
theorem ow {s:Bool} {l:LI} (h:sv s l=0):lv l=0:=by unfold sv at h; split at h<;>omega
theorem Xb {s:Bool} {l:LI} (hl:LW l) (hn:l.length≤900) {N:Nat} (hN:N≤32000):Ret (m_9 s l (N:Int)) (fun r=>Bg (sv s l*2 ^ N) r.1 r.2):=by
 unfold m_9
 refine lu (Zb (s:=s) hl n0) fun a ha=>?_
 have iJ:=uo ha.1.1 n0 (q:=N / 32) (s:=N % 32) n0 n0
 rw [← n32,P9] at iJ
 rw [B0,O0]
 refine iJ.mono fun u hu=>?_
 refine lu (l9 a.1 hu.1 n0) fun r hr=>⟨_,rfl,?_⟩
 rw [oo hu.2.2,ha.1.sv] at hr
 exact hr
theorem Ow {s:Bool} {l:LI} (hl:LW l) (hn:l.length≤900) {N:Nat} (hN:N≤32000) {c:Int} (hd:sv s l=c*2 ^ N):Ret (m_9 s l (-(N:Int))) (fun r=>Bg c r.1 r.2):=by
 by_cases h0:N=0
 ·subst h0
  have:=Xb (s:=s) hl hn (N:=0) n0
  rw [hd] at this
  refine Ret.mono this fun r hr=>hr.cast (by rw [show ((2:Int) ^ 0)=1 from rfl]; omega)
 have p:(0:Int) < 2 ^ N:=C3 n0
 unfold m_9
 refine lu (Zb (s:=s) hl n0) fun a ha=>?_
 have e2:wneg .i64 (-(N:Int))=(N:Int):=by
  show IntKind.wrap .i64 (- -(N:Int))=_
  rw [zj,IntWalk.i64_in _ n0]
 have fG:=ph ha.1.1 n0 (q:=N / 32) (s:=N % 32) n0 n0
 rw [← n32,P9] at fG
 have oF:=ha.1.sv
 rw [hd] at oF
 have hex:∃ c',lv a.2=c'*2 ^ N∧(if a.1=true then - c' else c')=c:=by
  unfold sv at oF
  split at oF
  ·rename_i h; exact ⟨-c,by rw [Aj]; omega,by rw [I0 h]; omega⟩
  ·rename_i h; exact ⟨c,oF,by rw [J0 h]⟩
 obtain ⟨c',cx,uv⟩:=hex
 rw [A0,e2,O0]
 refine fG.mono fun u hu=>?_
 obtain ⟨u1,u2,u3,u4⟩:=hu
 rw [cx,Pt _ n0] at u3
 refine lu (l9 a.1 u1 n0) fun r hr=>?_
 rw [u4 ha.1.2.1 (by rw [cx]; exact Int.mul_emod_left _ _),Bool.and_false,J0 G0]
 refine ⟨_,rfl,?_⟩
 unfold sv at hr
 rw [u3,uv] at hr
 exact hr
def Dv (v x:Int) (d:Bool×Bool×LI×Int):Prop:=d.1=false∧∃ (z:Nat) (u:Int),v=2 ^ z*(2*u+1)∧Bg (2*u+1) d.2.1 d.2.2.1∧d.2.2.2=x+z
theorem Dv.uniq {v x:Int} {d d':Bool×Bool×LI×Int} (h:Dv v x d) (h':Dv v x d'):d=d':=by
 obtain ⟨a,b,l,e⟩:=d
 obtain ⟨a',b',l',e'⟩:=d'
 obtain ⟨h1,z,u,h2,h3,h4⟩:=h
 obtain ⟨VD,z',u',TK,HJ,VO⟩:=h'
 simp only at*
 have hz:z=z':=Tz.uniq ⟨u,h2⟩ ⟨u',TK⟩
 subst hz
 rw [h2] at TK
 have hp:(0:Int) < 2 ^ z:=C3 n0
 have hu:=qD n0 TK
 rw [← hu] at HJ
 obtain ⟨e1,e2⟩:=h3.uniq HJ
 rw [h1,VD,e1,e2,h4,VO]
theorem Uo (s:Bool) (l:LI) {z:Nat} (hz:z≤100000):m_jj s l (z:Int)=(m_jh s l (-(z:Int))).bind fun r=>some (r.1,r.2.1):=by
 have h1:loop m_ji ((z:Int),s,l)=some ((z:Int),s,l):=by
  refine Ret.eq (Q0 0 (fun k t=>t=((z:Int),s,l)) rfl ?_ n0)
  rintro k _ hk rfl
  unfold m_ji
  simp only
  rw [A0]
  exact ⟨_,rfl,rfl⟩
 unfold m_jj
 rw [h1,obs]
 have e2:wneg .i64 (z:Int)= -(z:Int):=by
  show IntKind.wrap .i64 _=_
  rw [IntWalk.i64_in _ n0]
 simp only
 rw [e2]
theorem Xo (s:Bool) (l:LI) {z:Nat} (hz:z≤100000):m_bb s l (z:Int)=(m_9 s l (-(z:Int))).bind fun r=>some (r.1,r.2):=by
 have h1:loop m_ba ((z:Int),s,l)=some ((z:Int),s,l):=by
  refine Ret.eq (Q0 0 (fun k t=>t=((z:Int),s,l)) rfl ?_ n0)
  rintro k _ hk rfl
  unfold m_ba
  simp only
  rw [A0]
  exact ⟨_,rfl,rfl⟩
 unfold m_bb
 rw [h1,obs]
 have e2:wneg .i64 (z:Int)= -(z:Int):=by
  show IntKind.wrap .i64 _=_
  rw [IntWalk.i64_in _ n0]
 simp only
 rw [e2]
theorem N9 {v:Int} {s:Bool} {l:LI} (h:Bg v s l) (hv:v≠0):lv l≠0∧l≠[]:=by
 have h1:lv l≠0:=fun h0=>hv (by rw [← h.sv]; unfold sv; rw [h0]; split<;>rfl)
 exact ⟨h1,fun h2=>h1 (by rw [h2]; rfl)⟩
theorem Ep {s:Bool} {l:LI} (hl:LW l) (hn:l.length≤400) (hv:sv s l≠0) {x:Int} (hx: -20000≤x∧x≤20000):Ret (m_jk false s l x) (fun r=>Dv (sv s l) x (r.1,r.2.1,r.2.2.1,r.2.2.2.1)∧r.2.2.2.2=true):=by
 unfold m_jk
 rw [J0 G0]
 refine lu (jz (s:=s) hl n0) fun a ha=>?_
 obtain ⟨Bu,hnil⟩:=N9 ha hv
 have bD:a.2.length≤400:=by
  refine Bg.len ha ?_ ?_<;>(have h1:=J4 hl; have h2:pw l.length≤pw 400:=C7 hn; have h3:=S2 hl; have:=L3 100; unfold sv; split<;>omega)
 rw [Y8 ha.1 n0,obs,ha.sv]
 have FH:¬ (if sv s l < 0 then -1 else if 0 < sv s l then 1 else 0:Int)=0:=by split<;>(try split)<;>omega
 rw [J0 FH]
 obtain ⟨z,mF,YG,m,XG⟩:=Xn (s:=a.1) ha.1 n0 Bu
 obtain ⟨b,mE,gG,uH⟩:=Li (s:=a.1) ha.1 ha.2.1 n0 hnil
 rw [mF,obs,mE,obs,H3 n0 n0,H3 n0 n0,A0,obs,J0 (by simp only [decide_eq_true_eq]; omega),Uo a.1 a.2 n0]
 have AF:=Qw (s:=a.1) ha.1 n0 (N:=z) n0 (c:=2*m+1) (by rw [XG]; grind)
 obtain ⟨r,XD,iE,UL⟩:=AF
 rw [XD,obs,obs,Q2 n0 n0]
 refine ⟨_,rfl,⟨rfl,z,if a.1=true then -m - 1 else m,?_,?_,rfl⟩,rfl⟩
 ·rw [← ha.sv]
  unfold sv
  rw [XG]
  split<;>grind
 ·refine iE.cast ?_
  split<;>omega
theorem Sp {s:Bool} {l:LI} (hl:LW l) (hn:l.length≤400) (hv:sv s l≠0) {x:Int} (hx: -20000≤x∧x≤20000):Ret (m_bg s l x) (Dv (sv s l) x):=by
 unfold m_bg
 refine lu (Zb (s:=s) hl n0) fun a ha=>?_
 obtain ⟨Bu,hnil⟩:=N9 ha.1 hv
 have bD:0 < a.2.length:=G7.2 hnil
 rw [A0,A0]
 obtain ⟨z,mF,YG,m,XG⟩:=Un (s:=a.1) ha.1.1 ha.1.2.1 n0 Bu
 rw [mF,obs]
 refine lu (Ti (s:=a.1) ha.1.1 n0) fun c hc=>?_
 rw [Xo c.1 c.2 n0]
 have hp:(0:Int) < 2 ^ z:=C3 n0
 have cG:0≤m:=by
  have:=S2 ha.1.1
  rw [XG] at this
  refine O2 fun hc=>?_
  have:2 ^ z*(2*m+1) < 0:=Nt hp n0
  omega
 obtain ⟨r,XD,iE⟩:=Ow (s:=c.1) hc.1.1 n0 (N:=z) n0 (c:=2*m+1) (by rw [hc.1.sv,XG]; grind)
 have EF:=N9 iE n0
 have eB:r.2.length≤400:=by
  refine Bg.len iE ?_ ?_<;>(have h1:=J4 ha.1.1; have h2:pw a.2.length≤pw 400:=C7 n0; have:=L3 100; have h3:(2*m+1)*1≤(2*m+1)*2 ^ z:=X3 n0 n0; have h4:2 ^ z*(2*m+1)=(2*m+1)*2 ^ z:=I4 ..; omega)
 obtain ⟨b,mE,gG,uH⟩:=ss (s:=r.1) iE.1 iE.2.1 n0 EF.2
 rw [XD,obs,obs,Q2 n0 n0,A0,mE,obs,obs,Q2 n0 n0,J0 (by simp only [decide_eq_true_eq]; omega)]
 have has:a.1=s:=by
  have h1:=ha.1.neg
  have h2:=(ow (s:=s) (l:=l))
  cases hs:s
  ·cases hq:a.1
   ·rfl
   ·have:=h1.1 hq
    rw [hs] at this
    have:=S2 hl
    simp only [sv] at*
    simp at*
    omega
  ·refine h1.2 ?_
   rw [hs] at hv ⊢
   have:=S2 hl
   simp only [sv] at*
   simp at*
   omega
 refine ⟨_,rfl,rfl,z,if s=true then -m - 1 else m,?_,?_,rfl⟩
 ·rw [← ha.1.sv]
  unfold sv
  rw [XG,has]
  split<;>grind
 ·refine ⟨iE.1,iE.2.1,?_,fun _=>EF.2⟩
  have h5:=iE.abs
  rw [A0] at h5
  show sv s r.2=_
  unfold sv
  rw [h5]
  split<;>omega
theorem Ee {s:Bool} {a:LI} (ha:LW a) (hn:a.length≤1000000):Ret (m_iv s a) (fun r=>Bg (- sv s a) r.1 r.2):=by
 unfold m_iv
 rw [lf hn,obs]
 refine lu (K6 (!s) ha hn) fun r hr=>⟨_,rfl,?_⟩
 rw [ko] at hr
 exact hr
def sgF (s:Nat):Int:=if s=1 then -1 else 1
theorem zo {s m:Nat}:sgF s*((4503599627370496+m:Nat):Int)≠0:=by unfold sgF; split<;>omega
theorem Fh {s e m:Nat} (hs:s < 2) (he:e < 2048) (hm:m < 4503599627370496):(!(decide ((wand .u64 (Fl s e m) 9223372036854775808)=0)))=decide (s=1):=by
 rw [ZA hs he hm]
 rcases (show s=0∨s=1 by omega) with rfl | rfl<;>rfl
theorem cz {s e m:Nat} (hs:s < 2) (h0:0 < e) (he:e < 2047) (hm:m < 4503599627370496):Ret (m_jo (Fl s e m)) (Dv (sgF s*((4503599627370496+m:Nat):Int)) ((e:Int) - 1075)):=by
 unfold m_jo m_dg
 rw [obs,o9 hs n0 hm,We hs n0 hm,U6 (x:=(e:Int)) n0]
 simp only
 rw [A0,A0,H3 n0 n0,ji hm]
 unfold m_jn
 rw [U6 n0]
 refine lu (yq (n:=((4503599627370496+m:Nat):Int)) n0 n0) fun a ha=>?_
 have bD:a.2.length≤2:=Bg.len ha (by have:pw 2=18446744073709551616:=rfl; omega) (by have:pw 2=18446744073709551616:=rfl; omega)
 unfold m_it
 rw [obs,Fh hs n0 hm]
 have fin:∀ (b:Bool) (l:LI),Bg (sgF s*((4503599627370496+m:Nat):Int)) b l→l.length≤2→Ret (m_jm ((e:Int) - 1075) b l) (Dv (sgF s*((4503599627370496+m:Nat):Int)) ((e:Int) - 1075)):=by
  intro b l hB hl
  unfold m_jm m_jl
  rw [O0,O0]
  have:=Ep (s:=b) hB.1 n0 (by rw [hB.sv]; exact zo) (x:=(e:Int) - 1075) n0
  rw [hB.sv] at this
  exact this.mono fun r hr=>⟨_,rfl,_,rfl,hr.1⟩
 rw [C1]
 refine ⟨fun h1=>?_,fun h1=>?_⟩
 ·have h1:s=1:=by simpa using h1
  subst h1
  refine lu (Ee (s:=a.1) ha.1 n0) fun r hr=>?_
  rw [ha.sv] at hr
  have e1:sgF 1*((4503599627370496+m:Nat):Int)= - ((4503599627370496+m:Nat):Int):=by unfold sgF; rw [I0 rfl]; omega
  refine fin r.1 r.2 (hr.cast e1.symm) ?_
  exact Bg.len hr (by have:pw 2=18446744073709551616:=rfl; omega) (by have:pw 2=18446744073709551616:=rfl; omega)
 ·have h2:¬ s=1:=by simpa using h1
  have h1:s=0:=n0
  subst h1
  exact fin a.1 a.2 (ha.cast (by unfold sgF; rw [A0]; omega)) bD
theorem Hx {s e m:Nat} (hs:s < 2) (h0:0 < e) (he:e < 2047) (hm:m < 4503599627370496):Ret (m_cg (Fl s e m)) (Dv (sgF s*((4503599627370496+m:Nat):Int)) ((e:Int) - 1075)):=by
 unfold m_cg m_d
 rw [o9 hs n0 hm,We hs n0 hm,obs,I0 (by simp; omega),U6 (x:=(e:Int)) n0,B0,H3 n0 n0,ji hm]
 unfold m_cf m_ce
 rw [obs,Fh hs n0 hm,O0]
 have hw:LW [wc .u32 ((4503599627370496+m:Nat):Int),wc .u32 (wsrc .u64 ((4503599627370496+m:Nat):Int) 32)]:=by
  intro x hx
  rw [B8,B8] at hx
  have b0:(0:Int) < B:=by unfold B; omega
  rcases G3.1 hx with rfl | hx
  ·exact ⟨n4 _ n0,D4 _ b0⟩
  ·rw [Z2.1 hx]
   exact ⟨n4 _ n0,D4 _ b0⟩
 have hv:lv [wc .u32 ((4503599627370496+m:Nat):Int),wc .u32 (wsrc .u64 ((4503599627370496+m:Nat):Int) 32)]=((4503599627370496+m:Nat):Int):=by
  rw [T6 n0,B8,B8]
  simp only [lv]
  unfold B
  omega
 have oF:sv (decide (s=1)) [wc .u32 ((4503599627370496+m:Nat):Int),wc .u32 (wsrc .u64 ((4503599627370496+m:Nat):Int) 32)]=sgF s*((4503599627370496+m:Nat):Int):=by
  unfold sv sgF
  rw [hv]
  rcases (show s=0∨s=1 by omega) with rfl | rfl
  ·simp
  ·simp
 have:=Sp (s:=decide (s=1)) hw G0 (by rw [oF]; exact zo) (x:=(e:Int) - 1075) n0
 rw [oF] at this
 exact this.mono fun r hr=>⟨_,rfl,hr⟩
theorem dz {s e m:Nat} (hs:s < 2) (h0:0 < e) (he:e < 2047) (hm:m < 4503599627370496):∃ d,m_jo (Fl s e m)=some d∧m_cg (Fl s e m)=some d∧Dv (sgF s*((4503599627370496+m:Nat):Int)) ((e:Int) - 1075) d:=by
 obtain ⟨d,h1,h2⟩:=cz hs h0 he hm
 obtain ⟨d',h3,h4⟩:=Hx hs h0 he hm
 obtain rfl:=h2.uniq h4
 exact ⟨d,h1,h3,h2⟩
theorem zp:m_jo 0=some (false,false,[],0)∧m_cg 0=some (false,false,[],0):=⟨H0,H0⟩
def Gf (a b:Nat) (f:Int):Prop:=f=0∨∃ s e m,s < 2∧a≤e∧e≤b∧m < 4503599627370496∧f=Fl s e m
structure Fd_ (x0:Int) (f v:Int) (d:Bool×Bool×LI×Int):Prop where
 p:m_jo f=some d
 r:m_cg f=some d
 bad:d.1=false
 zero:v=0→d=(false,false,[],0)
 bg:v≠0→∃ (k:Nat) (u:Int),d.2.2.2=x0+k∧k≤300∧Bg u d.2.1 d.2.2.1∧v=u*2 ^ k∧(-9007199254740992 < u∧u < 9007199254740992)∧-(2 ^ 145) < v∧v < 2 ^ 145
theorem Gf.dy {a b:Nat} {f:Int} (h:Gf a b f) (ha:0 < a) (hb:b < 2047) (nE:b≤a+92):∃ v d,Fd_ ((a:Int) - 1075) f v d:=by
 rcases h with rfl | ⟨s,e,m,hs,h1,h2,hm,rfl⟩
 ·exact ⟨0,_,zp.1,zp.2,rfl,fun _=>rfl,fun h=>absurd rfl h⟩
 ·obtain ⟨d,d1,d2,d3⟩:=dz hs (e:=e) n0 n0 hm
  obtain ⟨d4,z,u,d5,d6,d7⟩:=d3
  have hz:z < 53:=by
   refine O2 fun hc=>?_
   have h3:=H6 (N:=53) (M:=z) n0
   have h4:(2:Int) ^ z*1≤2 ^ z*(2*u+1)∨2 ^ z*(2*u+1)≤2 ^ z*(-1):=by
    have hp:(0:Int) < 2 ^ z:=C3 n0
    by_cases hu:0≤u
    ·exact .inl (X3 n0 n0)
    ·exact .inr (X3 n0 n0)
   have h5:(2:Int) ^ 53=9007199254740992:=rfl
   unfold sgF at d5
   split at d5<;>omega
  have hp:(1:Int)≤2 ^ z:=by have:(0:Int) < 2 ^ z:=C3 n0; omega
  refine ⟨(2*u+1)*2 ^ (e - a+z),d,d1,d2,d4,fun h=>?_,fun _=>⟨e - a+z,2*u+1,by rw [d7]; omega,n0,d6,rfl,⟨?_,?_⟩,?_⟩⟩
  ·exfalso
   have hp:(0:Int) < 2 ^ (e - a+z):=C3 n0
   rcases Ot.1 h with h | h<;>omega
  ·have h4:u < 0→2 ^ z*(2*u+1)≤1*(2*u+1):=fun hu=>Int.mul_le_mul_of_nonpos_right hp n0
   unfold sgF at d5
   split at d5<;>omega
  ·have h4:0≤u→1*(2*u+1)≤2 ^ z*(2*u+1):=fun hu=>V3 hp n0
   unfold sgF at d5
   split at d5<;>omega
  ·have e1:(2*u+1)*2 ^ (e - a+z)=2 ^ z*(2*u+1)*2 ^ (e - a):=by rw [S4]; grind
   have e2:(2:Int) ^ 145=9007199254740992*2 ^ 92:=by rw [show 145=53+92 from rfl,S4]; rfl
   have cK:=H6 (N:=e - a) (M:=92) n0
   have YL:(0:Int) < 2 ^ (e - a):=C3 n0
   rw [e1,← d5,e2]
   generalize (2:Int) ^ 92=P at*
   generalize (2:Int) ^ (e - a)=Q at*
   have Eu: -9007199254740991≤sgF s*((4503599627370496+m:Nat):Int)∧sgF s*((4503599627370496+m:Nat):Int)≤9007199254740991:=by unfold sgF; split<;>omega
   have c1:sgF s*((4503599627370496+m:Nat):Int)*Q≤9007199254740991*Q:=V3 Eu.2 n0
   have c2: -9007199254740991*Q≤sgF s*((4503599627370496+m:Nat):Int)*Q:=V3 Eu.1 n0
   exact ⟨n0,n0⟩
end Km
