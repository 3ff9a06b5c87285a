/- Lists of limbs of 32 bits: their values, and the machine's steps upon them. -/
import Derived.Test.YthekfonboblioacGreatDoorVcA
import Derived.Test.YthekfonboblioacGreatDoorM13
import Derived.KernelRfl
set_option linter.unusedVariables false
set_option linter.unusedSimpArgs false
set_option maxHeartbeats 4000000
set_option maxRecDepth 10000
namespace Lm
open Sx Go Vc
def B:Int:=4294967296
theorem L8 (x:Int):wc .u32 x=x % B:=by unfold wc B; rw [IntKind.wrap_u32]
theorem wh (x:Int):wc .u64 x=x % 18446744073709551616:=by unfold wc; rw [IntKind.wrap_u64]
theorem P2 {x:Int} (h:0≤x∧x < 18446744073709551616):wc .u64 x=x:=by rw [wh]; omega
theorem Z4 {x:Int} (h:0≤x∧x < B):wc .u32 x=x:=by rw [L8]; unfold B at *; omega
theorem M8 {x:Int} (h: -9223372036854775808≤x∧x≤9223372036854775807):wc .i64 x=x:=IntWalk.i64_in _ h
theorem Q6 {x y:Int} (h:0≤x+y∧x+y < 18446744073709551616):wa .u64 x y=x+y:=IntWalk.u64_in _ ⟨h.1,A0⟩
theorem Ld {x y:Int} (h:0≤x*y∧x*y < 18446744073709551616):wm .u64 x y=x*y:=IntWalk.u64_in _ ⟨h.1,A0⟩
theorem y7 (x y:Int):ws .u64 x y=(x - y) % 18446744073709551616:=by unfold ws; rw [IntKind.wrap_u64]
theorem yw (x y:Int):wa .u32 x y=(x+y) % B:=by unfold wa B; rw [IntKind.wrap_u32]
theorem U8 {x:Int} (h:0≤x∧x < 18446744073709551616):(BitVec.ofInt 64 x).toNat=x.toNat:=by
 rw [BitVec.toNat_ofInt]
 omega
theorem N8 {x:Int} (h:0≤x∧x < 18446744073709551616):wand .u64 x 4294967295=x % B:=by
 unfold wand
 have e:(BitVec.ofInt 64 x &&& BitVec.ofInt 64 4294967295).toNat=x.toNat % 4294967296:=by
  rw [BitVec.toNat_and,U8 h,U8 A0]
  show x.toNat &&& 4294967295=_
  exact vd x.toNat 32
 show IntKind.u64.wrap ((BitVec.ofInt 64 x &&& BitVec.ofInt 64 4294967295).toNat:Int)=_
 rw [e,IntWalk.u64_in _ A0]
 unfold B
 omega
theorem xh {x:Int} (h:0≤x∧x < 18446744073709551616):wand .u64 x 1=x % 2:=by
 unfold wand
 have e:(BitVec.ofInt 64 x &&& BitVec.ofInt 64 1).toNat=x.toNat % 2:=by
  rw [BitVec.toNat_and,U8 h,U8 A0]
  exact vd x.toNat 1
 show IntKind.u64.wrap ((BitVec.ofInt 64 x &&& BitVec.ofInt 64 1).toNat:Int)=_
 rw [e,IntWalk.u64_in _ A0]
 omega
theorem W6 {x:Int} (h:0≤x):wsrc .u64 x 32=x / B:=by
 unfold wsrc B
 show x.fdiv (2 ^ 32)=_
 rw [Gd _ A0]
 rfl
theorem gm {x:Int} (h:0≤x):wsrc .u64 x 63=x / 9223372036854775808:=by
 unfold wsrc
 show x.fdiv (2 ^ 63)=_
 rw [Gd _ A0]
 rfl
theorem Hc {x:Int} (h:0≤x∧x < B):wslc .u64 x 32=x*B:=by
 unfold wslc B at*
 show IntKind.u64.wrap (x*2 ^ 32)=_
 rw [IntWalk.u64_in _ A0]
 omega
theorem Q9 {x y:Int} (hx:0≤x∧x < B) (hy:0≤y∧y < B):wor .u64 (x*B) y=x*B+y:=by
 unfold B at*
 unfold wor
 have e:(BitVec.ofInt 64 (x*4294967296) ||| BitVec.ofInt 64 y).toNat=x.toNat*4294967296+y.toNat:=by
  rw [BitVec.toNat_or,U8 A0,U8 A0]
  have e1:(x*4294967296).toNat=2 ^ 32*x.toNat:=A0
  rw [e1,← pc A0]
  omega
 show IntKind.u64.wrap ((BitVec.ofInt 64 (x*4294967296) ||| BitVec.ofInt 64 y).toNat:Int)=_
 rw [e,IntWalk.u64_in _ A0]
 omega
def LW (l:LI):Prop:=∀ x,x∈l→0≤x∧x < B
def lv:LI→Int
 | []=>0
 | x::l=>x+B*lv l
def pw:Nat→Int
 | 0=>1
 | n+1=>B*pw n
theorem W1:∀ n,0 < pw n
 | 0=>by simp [pw]
 | n+1=>by have:=W1 n; unfold pw B; omega
theorem L7 (m:Nat):∀ n,pw (m+n)=pw m*pw n
 | 0=>by simp [pw]
 | n+1=>by
  have:=L7 m n
  simp only [pw,Nat.add_eq]
  rw [this]
  grind
theorem X1:∀ {l:LI},LW l→0≤lv l
 | [],_=>by simp [lv]
 | x::l,h=>by
  have h1:=X1 (l:=l) (fun y hy=>h y (by simp [hy]))
  have h2:=h x H0
  unfold lv B
  omega
theorem C4:∀ {l:LI},LW l→lv l < pw l.length
 | [],_=>by simp [lv,pw]
 | x::l,h=>by
  have h1:=C4 (l:=l) (fun y hy=>h y (by simp [hy]))
  have h2:=h x H0
  simp only [lv,E2,pw]
  unfold B at*
  omega
theorem kb:∀ (a b:LI),lv (a++b)=lv a+pw a.length*lv b
 | [],b=>by simp [lv,pw]
 | x::a,b=>by
  have:=kb a b
  simp only [List.cons_append,lv,E2,pw,this]
  grind
theorem re:∀ n,lv (List.replicate n 0)=0
 | 0=>rfl
 | n+1=>by simp [List.replicate_succ,lv,re n]
theorem LW.tail {x:Int} {l:LI} (h:LW (x::l)):LW l:=fun y hy=>h y (by simp [hy])
theorem LW.app {a b:LI}:LW (a++b)↔LW a∧LW b:=by
 unfold LW
 constructor
 ·intro h; exact ⟨fun x hx=>h x (by simp [hx]),fun x hx=>h x (by simp [hx])⟩
 ·rintro ⟨h1,h2⟩ x hx
  rcases Z6.1 hx with hx | hx
  ·exact h1 x hx
  ·exact h2 x hx
theorem LW.one {x:Int}:LW [x]↔0≤x∧x < B:=by simp [LW]
def Tm (l:LI):Prop:=∀ x,l.getLast?=some x→x≠0
theorem O8:Tm []:=by simp [Tm]
theorem Pw {l:LI} {x:Int} (h:x≠0):Tm (l++[x]):=by simp [Tm,h]
theorem G9:∀ {l:LI},LW l→Tm l→l≠[]→pw (l.length - 1)≤lv l:=by
 intro l h ht hne
 obtain ⟨m,x,rfl⟩:∃ m x,l=m++[x]:=⟨l.dropLast,l.getLast hne,(List.dropLast_concat_getLast hne).symm⟩
 have hx:=ht x H0
 obtain ⟨h1,h2⟩:=LW.app.1 h
 have h3:=X1 h1
 have h4:=LW.one.1 h2
 rw [kb]
 simp only [P1,List.length_singleton,Nat.add_sub_cancel,lv]
 have h5:=W1 m.length
 have:pw m.length*1≤pw m.length*x:=B3 A0 A0
 simp at this ⊢
 omega
theorem S5 {m n:Nat} (h:m≤n):pw m≤pw n:=by
 obtain ⟨k,rfl⟩:∃ k,n=m+k:=⟨n - m,A0⟩
 rw [L7]
 have h1:=W1 m
 have h2:=W1 k
 have:pw m*1≤pw m*pw k:=B3 A0 A0
 omega
theorem z7 {a b:LI} (ha:LW a) (hb:LW b) (ta:Tm a) (tb:Tm b) (h:a.length < b.length):lv a < lv b:=by
 have h1:=C4 ha
 have h2:=G9 hb tb (by rintro rfl; simp at h)
 have h3:=S5 (m:=a.length) (n:=b.length - 1) A0
 omega
theorem ns:∀ {a b:LI},LW a→LW b→a.length=b.length→lv a=lv b→a=b
 | [],[],_,_,_,_=>rfl
 | [],_::_,_,_,h,_=>by simp at h
 | _::_,[],_,_,h,_=>by simp at h
 | x::a,y::b,ha,hb,hl,he=>by
  have hx:=ha x H0
  have hy:=hb y H0
  simp only [lv] at he
  unfold B at*
  have e1:x=y:=A0
  subst e1
  have e2:lv a=lv b:=A0
  rw [ns ha.tail hb.tail (by simpa using hl) e2]
theorem Za {a b:LI} (ha:LW a) (hb:LW b) (ta:Tm a) (tb:Tm b) (he:lv a=lv b):a=b:=by
 have h1:¬ a.length < b.length:=fun h=>by have:=z7 ha hb ta tb h; omega
 have h2:¬ b.length < a.length:=fun h=>by have:=z7 hb ha tb ta h; omega
 exact ns ha hb A0 he
theorem Rc {a:LI} (ha:LW a) (ta:Tm a):lv a=0↔a=[]:=by
 constructor
 ·intro h
  exact Za ha (by intro x hx; simp at hx) ta O8 h
 ·rintro rfl; rfl
def trimL:LI→LI
 | []=>[]
 | x::l=>match trimL l with
  | []=>if x=0 then [] else [x]
  | m=>x::m
theorem O1:∀ l:LI,lv (trimL l)=lv l
 | []=>rfl
 | x::l=>by
  have ih:=O1 l
  unfold trimL
  cases h:trimL l with
  | nil=>
   rw [h] at ih
   simp only [lv] at ih
   simp only
   by_cases hx:x=0
   ·rw [M0 hx]; simp only [lv,← ih,hx]; rfl
   ·rw [K0 hx]; simp only [lv,← ih]
  | cons y m=>
   rw [h] at ih
   simp only [lv] at ih ⊢
   rw [ih]
theorem S3:∀ {l:LI},LW l→LW (trimL l)
 | [],h=>h
 | x::l,h=>by
  have ih:=S3 h.tail
  unfold trimL
  cases e:trimL l with
  | nil=>
   simp only
   split
   ·intro y hy; simp at hy
   ·exact LW.one.2 (h x H0)
  | cons y m=>
   rw [e] at ih
   simp only
   intro z hz
   rcases P3.1 hz with rfl | hz
   ·exact h z H0
   ·exact ih z hz
theorem B4:∀ l:LI,Tm (trimL l)
 | []=>O8
 | x::l=>by
  have ih:=B4 l
  unfold trimL
  cases e:trimL l with
  | nil=>
   simp only
   split
   ·exact O8
   ·rename_i h; intro y hy; simp at hy; omega
  | cons y m=>
   rw [e] at ih
   simp only
   intro z hz
   refine ih z ?_
   rw [← hz,List.getLast?_cons_cons]
theorem Pd {l:LI} (hl:LW l) (ht:Tm l):trimL l=l:=Za (S3 hl) hl (B4 l) ht (O1 l)
theorem Qd {a:LI} {b:LI} (ha:LW a) (hb:LW b) (ta:Tm a) (h:lv a=lv b):a=trimL b:=
 Za ha (S3 hb) ta (B4 b) (by rw [O1,h])
def Qt (u v q:Int):Prop:=q*v≤u∧u < (q+1)*v
theorem Qt.le_of {u v q x:Int} (h:Qt u v q) (hv:0 < v) (hx:x*v≤u):x≤q:=by
 refine H1 fun hno=>?_
 have h1:(q+1)*v≤x*v:=X2 A0 A0
 have:=h.2
 omega
theorem Qt.lt_of {u v q x:Int} (h:Qt u v q) (hv:0 < v) (hx:u < x*v):q < x:=by
 refine H1 fun hno=>?_
 have h1:x*v≤q*v:=X2 A0 A0
 have:=h.1
 omega
theorem Qt.nn {u v q:Int} (h:Qt u v q) (hv:0 < v) (hu:0≤u):0≤q:=h.le_of hv A0
theorem Qt.uniq {u v q q':Int} (h:Qt u v q) (h':Qt u v q') (hv:0 < v):q=q':=Int.le_antisymm (h'.le_of hv h.1) (h.le_of hv h'.1)
theorem Qt.ediv {u v:Int} (hv:0 < v):Qt u v (u / v):=⟨Int.ediv_mul_le u A0,by rw [Hb,E4]; exact Int.lt_ediv_add_one_mul_self u hv |> fun h=>by rw [Hb,E4] at h; exact h⟩
theorem Qt.eq {u v q:Int} (h:Qt u v q) (hv:0 < v):q=u / v:=h.uniq (Qt.ediv hv) hv
theorem Ks {u v q top vt P ur vr:Int} (h:Qt u v q) (hP:0 < P) (hu:u=top*P+ur) (hur:ur < P) (hv:v=vt*P+vr) (hvr:0≤vr) (hvt:0 < vt) (hq:0≤q):q*vt≤top:=by
 refine H1 fun hno=>?_
 have h1:(top+1)*P≤q*vt*P:=X2 A0 A0
 have h2:0≤q*vr:=K3 hq hvr
 have h3:=h.1
 have e1:q*v=q*vt*P+q*vr:=by rw [hv]; grind
 have e2:(top+1)*P=top*P+P:=by grind
 omega
theorem zB {u v q g t3 v2 S us vs:Int} (h:Qt u v q) (hS:0 < S) (hu:u=t3*S+us) (hus:0≤us) (hv:v=v2*S+vs) (hvs:vs < S) (hvs0:0≤vs) (hg:g*v2≤t3) (hg0:0≤g) (hgB:g*S≤v) (hv0:0 < v):g≤q+1:=by
 have h1:g*v2*S≤t3*S:=X2 hg A0
 have h2:g*vs≤g*S:=B3 A0 hg0
 have e1:g*v=g*v2*S+g*vs:=by rw [hv]; grind
 refine H1 fun hno=>?_
 have h3:(q+2)*v≤g*v:=X2 A0 A0
 have e2:(q+2)*v=(q+1)*v+v:=by grind
 have h4:=h.2
 omega
theorem AB {u v q g t3 v2 S us vs:Int} (h:Qt u v q) (hS:0 < S) (hu:u=t3*S+us) (hus:us < S) (hv:v=v2*S+vs) (hvs0:0≤vs) (hg:t3 < g*v2) (hg0:0≤g) (hv0:0 < v):q < g:=by
 refine h.lt_of hv0 ?_
 have h1:(t3+1)*S≤g*v2*S:=X2 A0 A0
 have h2:0≤g*vs:=K3 hg0 hvs0
 have e1:g*v=g*v2*S+g*vs:=by rw [hv]; grind
 have e2:(t3+1)*S=t3*S+S:=by grind
 omega
end Lm
namespace Km
open Sx Go Vc Lm
theorem Pg {q s:Nat} (hq:q≤1000000) (hs:s < 32):wqc .i64 ((32*q+s:Nat):Int) 32=(q:Int)∧wrc ((32*q+s:Nat):Int) 32=(s:Int):=by
 constructor
 ·show IntKind.wrap .i64 (Int.tdiv _ 32)=_
  rw [kh A0,IntWalk.i64_in _ A0]; omega
 ·show Int.tmod _ 32=_
  rw [Gb A0]; omega
theorem Y7 {s:Nat} (hs:s < 32):0 < (2:Int) ^ s∧(2:Int) ^ s≤2147483648∧(2:Int) ^ s*2 ^ (32 - s)=B∧0 < (2:Int) ^ (32 - s):=by
 refine ⟨C5 A0,?_,?_,C5 A0⟩
 ·have h9:((2 ^ s:Nat):Int)≤((2147483648:Nat):Int):=Nu.2 (N9 (Vg (n:=2) (j:=31) A0 A0) (by decide))
  rw [jl] at h9
  exact h9
 ·rw [← X4,show s+(32 - s)=32 by omega]; rfl
theorem uw {s:Nat} (hs:s < 32) {c x:Int} (hc:0≤c∧c < 2 ^ s) (hx:0≤x∧x < B) (hb:x*2 ^ s < 18446744073709551616):wor .u64 c (x*2 ^ s)=c+x*2 ^ s:=by
 unfold wor
 obtain ⟨C,rfl⟩:=W5 hc.1
 obtain ⟨X,rfl⟩:=W5 hx.1
 have hC:C < 2 ^ s:=by exact_mod_cast hc.2
 have e2:((X:Int)*2 ^ s)=((2 ^ s*X:Nat):Int):=by push_cast; rw [I2]
 have hb:2 ^ s*X < 18446744073709551616:=by have h9:((2 ^ s*X:Nat):Int) < ((18446744073709551616:Nat):Int):=(by rw [← e2]; omega); exact Int.ofNat_lt.1 h9
 have h31:2 ^ s≤2 ^ 31:=Vg A0 A0
 have e3:(BitVec.ofInt 64 (C:Int) ||| BitVec.ofInt 64 ((X:Int)*2 ^ s)).toNat=2 ^ s*X+C:=by
  rw [BitVec.toNat_or,U8 A0,U8 A0,e2,A1,A1,Ak,← pc hC]
 have h9:2 ^ s*X+C < 18446744073709551616:=by
  have:=pc hC X
  rw [this]
  exact uu (n:=64) hb A0
 show IntKind.u64.wrap ((BitVec.ofInt 64 (C:Int) ||| BitVec.ofInt 64 ((X:Int)*2 ^ s)).toNat:Int)=_
 rw [e3,IntWalk.u64_in _ ⟨A0,A0⟩,e2]
 push_cast
 omega
theorem ib (n:Nat):LW (List.replicate n 0):=fun x hx=>by rw [Du] at hx; rw [hx.2]; unfold B; omega
open M
theorem W9 (l:LI) (x:Int):lv (l++[x])=lv l+pw l.length*x:=by
 rw [kb]; simp [lv]
theorem LW.take {l:LI} (h:LW l) (k:Nat):LW (l.take k):=fun x hx=>h x (Gu hx)
theorem LW.get {l:LI} (h:LW l) {k:Nat} {x:Int} (hx:l[k]?=some x):0≤x∧x < B:=h x (U9 hx)
theorem S4 {l:LI} (hl:LW l) (hn:l.length≤1000000):m_f1 l=some (trimL l):=by
 refine Ret.eq ?_
 unfold m_f1
 rw [J0]
 refine (Q0 (Post:=fun i=>∃ k:Nat,i=(k:Int)∧k≤l.length∧lv (l.take k)=lv l∧Tm (l.take k)) l.length (fun m (i:Int)=>i=((l.length - m:Nat):Int)∧m≤l.length∧lv (l.take (l.length - m))=lv l) ⟨by rw [pb],A0,by rw [pb,E8]⟩ ?_ A0).mono ?_
 ·rintro m _ hm ⟨rfl,h1,h2⟩
  unfold m_f0
  rw [J0,O0]
  refine ⟨fun hlt=>?_,fun hge=>?_⟩
  ·have e1:ws .i64 ((l.length - m:Nat):Int) 1=((l.length - (m+1):Nat):Int):=by rw [V2 A0 A0]; omega
   rw [e1,J0,C3]
   refine ⟨A0,A0,fun x hx=>?_⟩
   rw [A1] at hx
   have ht:l.take (l.length - m)=l.take (l.length - (m+1))++[x]:=by
    rw [show l.length - m=l.length - (m+1)+1 by omega]; exact tks hx
   rw [D4,O0]
   refine ⟨fun hz=>?_,fun hz=>?_⟩
   ·have hz:x=0:=by simpa using hz
    refine ⟨_,rfl,A0,rfl,A0,?_⟩
    rw [← h2,ht,W9,hz]; simp
   ·have hz:x≠0:=by simpa using hz
    exact ⟨_,rfl,l.length - m,rfl,A0,h2,by rw [ht]; exact Pw hz⟩
  ·rw [D4,K0 H0]
   have e:l.length - m=0:=A0
   exact ⟨_,rfl,0,by rw [e],A0,by rw [← h2,e],by simp [Tm]⟩
 ·rintro _ ⟨k,rfl,h1,h2,h3⟩
  rw [J0,Qc]
  refine ⟨A0,A0,A0,_,rfl,?_⟩
  rw [A1,show (0:Int).toNat=0 from rfl,B9]
  exact Qd (LW.take hl k) hl h3 h2
theorem Jg {l:LI} (s:Bool) (hl:LW l) (hn:l.length≤1000000):m_f2 s l=some (if trimL l=[] then (false,[]) else (s,trimL l)):=by
 unfold m_f2
 rw [S4 hl hn,obs]
 by_cases h:trimL l=[]
 ·rw [M0 (by rw [h]; rfl),M0 h]
 ·rw [K0 (by simpa using h),K0 h]
theorem JB {p:Int} (hp:0 < p) (hB:p < B):m_f4 p=some (false,[p]):=by
 unfold B at hB
 unfold m_f4 m_f3
 rw [B0,P2 ⟨A0,A0⟩,N8 ⟨A0,A0⟩,W6 A0]
 have e1:p % B=p:=Y4 A0 (by unfold B; omega)
 have e2:p / B=0:=Va A0 (by unfold B; omega)
 rw [e1,e2,Z4 ⟨A0,by unfold B; omega⟩,Z4 ⟨A0,by unfold B; omega⟩]
 have hl:LW [p,0]:=by
  intro x hx
  simp at hx
  unfold B
  omega
 have ht:trimL [p,0]=[p]:=by
  simp [trimL]
  omega
 rw [Jg _ hl H0,ht,obs,K0 H0]
 simp
 omega
theorem Px {a:LI} {d:Int} (ha:LW a) (hn:a.length≤1000) (hd:0 < d) (hB:d < B):∃ q,m_hl a d=some (q,lv a % d)∧LW q∧Tm q∧lv q=lv a / d:=by
 have key:Ret (m_hl a d) (fun r=>LW r.1∧Tm r.1∧lv r.1=lv a / d∧r.2=lv a % d):=by
  unfold B at hB
  unfold m_hl
  rw [J0,Y5]
  refine ⟨A0,A0,?_⟩
  rw [A1,J0]
  have hcd:wc .u64 d=d:=P2 ⟨A0,A0⟩
  refine (Q0 (Post:=fun s:LI×Int=>LW s.1∧s.1.length=a.length∧(0≤s.2∧s.2 < d)∧lv a=lv s.1*d+s.2) a.length (fun m (s:LI×Int×Int)=>s.2.2=(a.length:Int) - 1 - m∧m≤a.length∧LW s.1∧s.1.length=a.length∧(0≤s.2.1∧s.2.1 < d)∧lv (a.drop (a.length - m))=lv (s.1.drop (a.length - m))*d+s.2.1) ⟨by show ws .i64 (a.length:Int) 1=_; rw [V2 A0 A0]; simp,A0,fun x hx=>by rw [Du] at hx; rw [hx.2]; unfold B; omega,B5 ..,⟨by show (0:Int)≤0; omega,hd⟩,by rw [pb,Zk,O9 H0]; simp [lv]⟩ ?_ A0).mono ?_
  ·rintro m ⟨q,r,_⟩ hm ⟨h1,h2,h3,h4,h5,h6⟩
   simp only at h1 h3 h4 h5 h6
   subst h1
   unfold m_hk
   simp only
   rw [O0]
   refine ⟨fun hge=>?_,fun hlt=>⟨_,rfl,h3,h4,h5,?_⟩⟩
   ·obtain ⟨i,hi⟩:∃ i:Nat,a.length=i+(m+1):=⟨a.length - (m+1),A0⟩
    have ei:(a.length:Int) - 1 - (m:Int)=(i:Int):=A0
    rw [ei,J0,C3]
    refine ⟨A0,A0,fun x hx=>?_⟩
    rw [A1] at hx
    have hxB:=LW.get ha hx
    have hr2:0≤r∧r < B:=⟨h5.1,by unfold B; omega⟩
    have ht:wor .u64 (wslc .u64 r 32) (wc .u64 x)=r*B+x:=by
     rw [Hc hr2,P2 ⟨hxB.1,by unfold B at hxB; omega⟩,Q9 hr2 hxB]
    rw [ht,hcd]
    have hr3:r+1≤d:=A0
    have hmul:(r+1)*B≤d*B:=X2 hr3 (by unfold B; omega)
    have hrB:0≤r*B:=K3 h5.1 (by unfold B; omega)
    rw [Hb,E4] at hmul
    have htn:0≤r*B+x:=A0
    have hq0:0≤(r*B+x) / d:=N5 htn A0
    have hqB:(r*B+x) / d < B:=P6 hd (by rw [I2 B d]; omega)
    have hrem:0≤(r*B+x) % d∧(r*B+x) % d < d:=⟨L3 _ A0,M3 _ hd⟩
    have hwq:wq .u64 (r*B+x) d=some ((r*B+x) / d):=by
     unfold wq
     rw [B0,kh htn,IntWalk.u64_in _ ⟨hq0,by have e:B=4294967296:=rfl; omega⟩]
    have hwr:wr (r*B+x) d=some ((r*B+x) % d):=by
     unfold wr
     rw [B0,Gb htn]
    rw [hwq,obs,J0,K4]
    refine ⟨A0,A0,?_⟩
    rw [hwr,obs,A1,Z4 ⟨hq0,hqB⟩]
    refine ⟨_,rfl,A0,?_⟩
    simp only
    refine ⟨by rw [V2 A0 A0]; omega,A0,?_,by rw [O3]; exact h4,hrem,?_⟩
    ·intro y hy
     rcases Fu hy with hy | rfl
     ·exact h3 y hy
     ·exact ⟨hq0,hqB⟩
    ·have e1:a.length - (m+1)=i:=A0
     have e2:a.length - m=i+1:=A0
     rw [e2] at h6
     rw [e1]
     have ea:a.drop i=x::a.drop (i+1):=by
      obtain ⟨hlt,he⟩:=S2.1 hx
      rw [← he]; exact Ta hlt
     have eq:(q.set i ((r*B+x) / d)).drop i=((r*B+x) / d)::q.drop (i+1):=by
      have hlt:i < (q.set i ((r*B+x) / d)).length:=by rw [O3]; omega
      rw [Ta hlt,List.getElem_set_self,Eb A0]
     rw [ea,eq]
     simp only [lv]
     rw [h6]
     have h7:=P4 (r*B+x) d
     have e9:((r*B+x) / d+B*lv (q.drop (i+1)))*d=d*((r*B+x) / d)+B*(lv (q.drop (i+1))*d):=by grind
     rw [e9]
     have e10:B*(lv (q.drop (i+1))*d+r)=B*(lv (q.drop (i+1))*d)+r*B:=by grind
     rw [e10]
     omega
   ·have e:a.length - m=0:=A0
    rw [e,B9,B9] at h6
    exact h6
  ·rintro ⟨q,r⟩ ⟨h1,h2,h3,h4⟩
   simp only at h1 h2 h3 h4 ⊢
   rw [S4 h1 A0,obs]
   refine ⟨_,rfl,S3 h1,B4 q,?_,?_⟩
   ·show lv (trimL q)=_
    rw [O1,h4,Wu,Int.add_mul_ediv_right _ _ A0,Va h3.1 h3.2,Le]
   ·show wc .u32 r=_
    rw [Z4 ⟨h3.1,by unfold B; omega⟩,h4,Wu,Int.add_mul_emod_self_right,Y4 h3.1 h3.2]
 obtain ⟨⟨q,r⟩,h0,h1,h2,h3,h4⟩:=key
 simp only at h1 h2 h3 h4
 exact ⟨q,by rw [h0,h4],h1,h2,h3⟩
theorem SC (x y:Int):m_hh x y=some (if x < y then -1 else if y < x then 1 else 0):=by
 unfold m_hh m_fm
 simp only [decide_true,W7,obs,if_false,E9]
 split
 ·rfl
 ·split<;>rfl
theorem RC (x y:Int):m_hg x y=some (if x < y then -1 else if y < x then 1 else 0):=by
 unfold m_hg m_hf
 simp only [decide_true,W7,obs,if_false,E9]
 split
 ·rfl
 ·split<;>rfl
theorem Hf {a:LI} {i:Nat} {x:Int} (hx:a[i]?=some x):lv a=lv (a.take i)+pw i*(x+B*lv (a.drop (i+1))):=by
 obtain ⟨hlt,he⟩:=S2.1 hx
 have e:a=a.take i++(x::a.drop (i+1)):=by
  rw [← he,← Ta hlt,Ab]
 have e2:lv a=lv (a.take i++(x::a.drop (i+1))):=Z0 lv e
 rw [e2,kb]
 simp only [lv,Z3]
 rw [G6 A0]
theorem R9 {a:LI} (ha:LW a) {i:Nat} (hi:i≤a.length):0≤lv (a.take i)∧lv (a.take i) < pw i:=by
 have h1:=C4 (LW.take ha i)
 rw [Z3,G6 hi] at h1
 exact ⟨X1 (LW.take ha i),h1⟩
theorem kg {a b:LI} (ha:LW a) (hb:LW b) {i:Nat} {x y:Int} (hx:a[i]?=some x) (hy:b[i]?=some y) (he:a.drop (i+1)=b.drop (i+1)) (h:x < y):lv a < lv b:=by
 have h1:=(S2.1 hx).1
 have h2:=(S2.1 hy).1
 rw [Hf hx,Hf hy,he]
 have t1:=R9 ha (i:=i) A0
 have t2:=R9 hb (i:=i) A0
 have hp:=W1 i
 have e1:pw i*(y+B*lv (b.drop (i+1)))=pw i*(x+B*lv (b.drop (i+1)))+pw i*(y - x):=by grind
 have e2:pw i*1≤pw i*(y - x):=B3 A0 A0
 rw [e1]
 omega
theorem Fg {a b:LI} (ha:LW a) (hb:LW b) (ta:Tm a) (tb:Tm b) (hn:a.length≤1000) (hm:b.length≤1000):m_hj a b=some (if lv a < lv b then -1 else if lv b < lv a then 1 else 0):=by
 refine Ret.eq ?_
 unfold m_hj
 rw [O0]
 refine ⟨fun hl=>?_,fun hl=>?_⟩
 ·have hl:a.length=b.length:=A0
  rw [J0]
  refine (Q0 (Post:=fun o=>(o=.inl ()∧a=b)∨∃ c,o=.inr c∧c=(if lv a < lv b then -1 else if lv b < lv a then 1 else 0)) a.length (fun m (i:Int)=>i=(a.length:Int) - 1 - m∧m≤a.length∧a.drop (a.length - m)=b.drop (a.length - m)) ⟨by rw [V2 A0 A0]; omega,A0,by rw [pb,Zk,O9 A0]⟩ ?_ A0).mono ?_
  ·rintro m i hm' ⟨rfl,h1,h2⟩
   unfold m_hi
   rw [O0]
   refine ⟨fun hge=>?_,fun hlt=>⟨_,rfl,.inl ⟨rfl,by have e:a.length - m=0:=A0; rwa [e,B9,B9] at h2⟩⟩⟩
   obtain ⟨j,hj⟩:∃ j:Nat,a.length=j+(m+1):=⟨a.length - (m+1),A0⟩
   have ej:(a.length:Int) - 1 - (m:Int)=(j:Int):=A0
   have e2:a.length - m=j+1:=A0
   rw [e2] at h2
   rw [ej,J0,C3]
   refine ⟨A0,A0,fun x hx=>?_⟩
   rw [J0,C3]
   refine ⟨A0,A0,fun y hy=>?_⟩
   rw [A1] at hx hy
   rw [O0]
   refine ⟨fun he=>⟨_,rfl,A0,by rw [V2 A0 A0]; omega,A0,?_⟩,fun hne=>?_⟩
   ·subst he
    obtain ⟨k1,k2⟩:=S2.1 hx
    obtain ⟨k3,k4⟩:=S2.1 hy
    rw [show a.length - (m+1)=j by omega,Ta k1,Ta k3,k2,k4,h2]
   ·rw [J0,C3]
    refine ⟨A0,A0,fun x' hx'=>?_⟩
    rw [A1,hx] at hx'
    obtain rfl:=N3 hx'
    rw [J0,C3]
    refine ⟨A0,A0,fun y' hy'=>?_⟩
    rw [A1,hy] at hy'
    obtain rfl:=N3 hy'
    rw [RC,obs]
    refine ⟨_,rfl,.inr ⟨_,rfl,?_⟩⟩
    rcases Int.lt_or_gt_of_ne hne with h | h
    ·rw [M0 h,M0 (kg ha hb hx hy h2 h)]
    ·have:=kg hb ha hy hx h2.symm h
     rw [B0,M0 h,B0,M0 this]
  ·rintro _ (⟨rfl,h⟩ | ⟨c,rfl,h⟩)
   ·refine ⟨_,rfl,?_⟩
    rw [h,B0,B0]
   ·exact ⟨_,rfl,h⟩
 ·rw [SC,obs]
  refine ⟨_,rfl,?_⟩
  rcases wb a.length b.length with h | h
  ·rw [C0,M0 (z7 ha hb ta tb h)]
  ·have:=z7 hb ha tb ta (show b.length < a.length by omega)
   rw [B0,C0,B0,M0 this]
theorem M4 {a:LI} {i:Nat} {x:Int} (hx:a[i]?=some x):lv (a.take (i+1))=lv (a.take i)+pw i*x:=by
 rw [tks hx,W9,Z3,G6 (by have:=(S2.1 hx).1; omega)]
theorem Td {a:LI} {i:Nat} (h:a.length≤i):lv (a.take (i+1))=lv (a.take i):=by
 rw [P5 h,P5 A0]
theorem Hr {a b:LI} (ha:LW a) (hb:LW b) (hl:b.length≤a.length) (hn:a.length≤1000):Ret (m_gq a b) (fun r=>LW r∧Tm r∧lv r=lv a+lv b):=by
 unfold m_gq
 have h0:mkLc (0:Int) 0 (wa .i64 (a.length:Int) 1)=some []:=by
  rw [U0 A0 A0]; unfold mkLc BIG; rw [M0 ⟨A0,A0,A0⟩]; rfl
 rw [h0,obs,J0]
 refine (Q0 (Post:=fun s:LI×Int=>LW s.1∧s.1.length=a.length∧(s.2=0∨s.2=1)∧lv s.1+pw a.length*s.2=lv a+lv b) a.length (fun i (s:LI×Int×Int)=>s.2.2=(i:Int)∧LW s.1∧s.1.length=i∧(s.2.1=0∨s.2.1=1)∧lv s.1+pw i*s.2.1=lv (a.take i)+lv (b.take i)) ⟨rfl,by intro x hx; simp at hx,rfl,.inl rfl,by simp [lv]⟩ ?_ A0).mono ?_
 ·rintro i ⟨o,c,_⟩ hi ⟨rfl,h1,h2,h3,h4⟩
  simp only at h1 h2 h3 h4
  unfold m_gp m_go
  simp only
  rw [O0]
  refine ⟨fun hlt=>?_,fun hge=>⟨_,rfl,h1,by show o.length=_; omega,h3,?_⟩⟩
  ·have hia:i < a.length:=A0
   rw [J0,C3]
   refine ⟨A0,hlt,fun x hx=>?_⟩
   rw [A1] at hx
   have hxB:=LW.get ha hx
   have e:B=4294967296:=rfl
   have hcx:wc .u64 x=x:=P2 ⟨hxB.1,A0⟩
   have fin:∀ (t:Int),0≤t→t < 2*B→lv o+pw i*t=lv (a.take (i+1))+lv (b.take (i+1))→Ret ((app o [wc .u32 (wand .u64 t 4294967295)]).bind fun x52=>some (Sum.inl (β:=LI×Int) (x52,wsrc .u64 t 32,wa .i64 (i:Int) 1))) (VQ (fun s:LI×Int×Int=>i < a.length∧s.2.2=((i+1:Nat):Int)∧LW s.1∧s.1.length=i+1∧(s.2.1=0∨s.2.1=1)∧lv s.1+pw (i+1)*s.2.1=lv (a.take (i+1))+lv (b.take (i+1))) (fun s:LI×Int=>LW s.1∧s.1.length=a.length∧(s.2=0∨s.2=1)∧lv s.1+pw a.length*s.2=lv a+lv b)):=by
    intro t t0 t1 ht
    have hm:=L3 t (show B≠0 by omega)
    have hm2:=M3 t (show 0 < B by omega)
    have hd:=P4 t B
    rw [N8 ⟨t0,A0⟩,W6 t0,Z4 ⟨hm,hm2⟩,J0,D2]
    refine ⟨by rw [h2]; simp only [E2,N2]; omega,_,rfl,hia,by show wa .i64 (i:Int) 1=_; rw [U0 A0 A0]; rfl,LW.app.2 ⟨h1,LW.one.2 ⟨hm,hm2⟩⟩,by show (o++[_]).length=_; rw [P1,h2]; rfl,by have q0:0≤t / B:=N5 t0 A0; have q1:t / B < 2:=P6 A0 t1; show t / B=0∨t / B=1; omega,?_⟩
    show lv (o++[t % B])+pw (i+1)*(t / B)=_
    rw [W9,h2,← ht]
    simp only [pw]
    have e3:pw i*(B*(t / B)+t % B)=pw i*t:=by rw [hd]
    have e4:B*pw i*(t / B)=pw i*(B*(t / B)):=by grind
    rw [O6] at e3
    omega
   have hts:=M4 hx
   rw [O0]
   refine ⟨fun hlb=>?_,fun hgb=>?_⟩
   ·rw [J0,C3]
    refine ⟨A0,hlb,fun y hy=>?_⟩
    rw [A1] at hy
    have hyB:=LW.get hb hy
    rw [hcx,P2 ⟨hyB.1,A0⟩,Q6 (x:=x) (y:=c) ⟨A0,A0⟩,Q6 ⟨A0,A0⟩]
    refine fin _ A0 A0 ?_
    rw [hts,M4 hy]
    have:pw i*(x+c+y)=pw i*x+pw i*c+pw i*y:=by grind
    omega
   ·rw [hcx,Q6 (x:=x) (y:=c) ⟨A0,A0⟩]
    refine fin _ A0 A0 ?_
    rw [hts,Td (a:=b) A0]
    have:pw i*(x+c)=pw i*x+pw i*c:=by grind
    omega
  ·have e:i=a.length:=A0
   subst e
   rw [E8,P5 hl] at h4
   exact h4
 ·rintro ⟨o,c⟩ ⟨h1,h2,h3,h4⟩
  simp only at h1 h2 h3 h4 ⊢
  have hc:wc .u32 c=c:=Z4 ⟨A0,by unfold B; omega⟩
  have hlw:LW (o++[c]):=LW.app.2 ⟨h1,LW.one.2 ⟨A0,by unfold B; omega⟩⟩
  rw [hc,J0,D2]
  refine ⟨by rw [h2]; simp only [E2,N2]; omega,?_⟩
  rw [S4 hlw (by rw [P1,h2]; simp; omega),obs]
  exact ⟨_,rfl,S3 hlw,B4 _,by rw [O1,W9,h2]; exact h4⟩
theorem aj {a b:LI} (ha:LW a) (hb:LW b) (hn:a.length≤1000) (hm:b.length≤1000):Ret (m_gr a b) (fun r=>LW r∧Tm r∧lv r=lv a+lv b):=by
 unfold m_gr
 rw [O0]
 refine ⟨fun h=>(Hr hb ha A0 hm).mono fun r hr=>⟨hr.1,hr.2.1,A0⟩,fun h=>Hr ha hb A0 hn⟩
theorem vj {v:Int} (h0: -B≤v) (h1:v < B):((v % 18446744073709551616) % B=v+B*(if v < 0 then 1 else 0))∧((v % 18446744073709551616) / B % 2=if v < 0 then 1 else 0)∧0≤v % 18446744073709551616∧v % 18446744073709551616 < 18446744073709551616:=by
 unfold B at*
 split<;>omega
theorem minus_ok {a b:LI} (ha:LW a) (hb:LW b) (hn:a.length≤1000) (hl:b.length≤a.length) (hv:lv b≤lv a):Ret (m_hu a b) (fun r=>LW r∧Tm r∧lv r=lv a - lv b):=by
 have e:B=4294967296:=rfl
 unfold m_hu
 rw [J0,Y5]
 refine ⟨A0,A0,?_⟩
 rw [A1,J0]
 refine (Q0 (Post:=fun o:LI=>LW o∧o.length=a.length∧lv o=lv a - lv b) a.length (fun i (s:LI×Int×Int)=>s.2.2=(i:Int)∧LW s.1∧s.1.length=a.length∧(s.2.1=0∨s.2.1=1)∧lv (s.1.take i)=lv (a.take i) - lv (b.take i)+pw i*s.2.1) ⟨rfl,fun x hx=>by rw [Du] at hx; rw [hx.2]; omega,B5 ..,.inl rfl,by simp [lv]⟩ ?_ A0).mono ?_
 ·rintro i ⟨o,c,_⟩ hi ⟨rfl,h1,h2,h3,h4⟩
  simp only at h1 h2 h3 h4
  unfold m_ht m_hs
  simp only
  rw [O0]
  refine ⟨fun hlt=>?_,fun hge=>⟨_,rfl,h1,h2,?_⟩⟩
  ·have hia:i < a.length:=A0
   rw [J0,C3]
   refine ⟨A0,hlt,fun x hx=>?_⟩
   rw [A1] at hx
   have hxB:=LW.get ha hx
   have hcx:wc .u64 x=x:=P2 ⟨hxB.1,A0⟩
   have hts:=M4 hx
   have fin:∀ (t v:Int),t=v % 18446744073709551616→-B≤v→v < B→lv (o.take i)+pw i*v=lv (a.take (i+1)) - lv (b.take (i+1))→Ret ((setI o (i:Int) (wc .u32 (wand .u64 t 4294967295))).bind fun x35=>some (Sum.inl (β:=LI) (x35,wand .u64 (wsrc .u64 t 32) 1,wa .i64 (i:Int) 1))) (VQ (fun s:LI×Int×Int=>i < a.length∧s.2.2=((i+1:Nat):Int)∧LW s.1∧s.1.length=a.length∧(s.2.1=0∨s.2.1=1)∧lv (s.1.take (i+1))=lv (a.take (i+1)) - lv (b.take (i+1))+pw (i+1)*s.2.1) (fun o:LI=>LW o∧o.length=a.length∧lv o=lv a - lv b)):=by
    intro t v ht v0 v1 hv
    obtain ⟨k1,k2,k3,k4⟩:=vj v0 v1
    rw [← ht] at k1 k2 k3 k4
    have hm:=L3 t (show B≠0 by omega)
    have hm2:=M3 t (show 0 < B by omega)
    have hd0:0≤t / B:=N5 k3 A0
    have hd1:t / B < 18446744073709551616:=P6 A0 A0
    rw [N8 ⟨k3,k4⟩,W6 k3,xh ⟨hd0,hd1⟩,Z4 ⟨hm,hm2⟩,k2,J0,K4,A1]
    refine ⟨A0,A0,_,rfl,hia,by show wa .i64 (i:Int) 1=_; rw [U0 A0 A0]; rfl,?_,by show (o.set i _).length=_; rw [O3,h2],by show (if v < 0 then (1:Int) else 0)=0∨(if v < 0 then (1:Int) else 0)=1; split<;>omega,?_⟩
    ·intro y hy
     rcases Fu hy with hy | rfl
     ·exact h1 y hy
     ·exact ⟨hm,hm2⟩
    ·show lv ((o.set i (t % B)).take (i+1))=_+pw (i+1)*(if v < 0 then 1 else 0)
     have hs:(o.set i (t % B))[i]?=some (t % B):=by rw [G5]; omega
     rw [M4 hs,Hk,Ok (by rw [Z3]; omega),k1,← hv]
     simp only [pw]
     generalize (if v < 0 then (1:Int) else 0)=z
     grind
   rw [O0]
   refine ⟨fun hlb=>?_,fun hgb=>?_⟩
   ·rw [J0,C3]
    refine ⟨A0,hlb,fun y hy=>?_⟩
    rw [A1] at hy
    have hyB:=LW.get hb hy
    refine fin _ (x - c - y) ?_ A0 A0 ?_
    ·rw [hcx,P2 ⟨hyB.1,A0⟩,y7,y7]; omega
    ·rw [hts,M4 hy,h4]; grind
   ·refine fin _ (x - c) ?_ A0 A0 ?_
    ·rw [hcx,y7]
    ·rw [hts,Td (a:=b) A0,h4]; grind
  ·have ei:i=a.length:=A0
   subst ei
   rw [E8,P5 hl,P5 A0] at h4
   have hlt:=C4 h1
   rw [h2] at hlt
   have hp:=W1 a.length
   show lv o=_
   rcases h3 with rfl | rfl
   ·omega
   ·omega
 ·rintro o ⟨h1,h2,h3⟩
  rw [S4 h1 A0,obs]
  exact ⟨_,rfl,S3 h1,B4 _,by rw [O1]; exact h3⟩
theorem P7 {l:LI} {m:Nat} (hl:LW l) (ht:Tm l) (h:lv l < pw m):l.length≤m:=by
 refine H1 fun hc=>?_
 have hne:l≠[]:=by rintro rfl; simp at hc
 have h5:=G9 hl ht hne
 have h7:=S5 (show m≤l.length - 1 by omega)
 omega
theorem Wp {p:Int} (hp:0 < p):Tm [p]:=by intro x hx; simp at hx; omega
theorem dg {p:Int} (hp:0 < p) (hB:p < B):LW [p]:=LW.one.2 ⟨A0,hB⟩
theorem Af {l:LI} (hl:LW l):(trimL l).length≤l.length:=P7 (S3 hl) (B4 l) (by rw [O1]; exact C4 hl)
theorem Jt {a:LI} {p:Int} (ha:LW a) (ta:Tm a) (hn:a.length≤999) (hp:0 < p) (hB:p < B):∃ q r,m_hr a [p]=some (q,r)∧LW q∧Tm q∧LW r∧Tm r∧lv q=lv a / p∧lv r=lv a % p∧q.length≤1000:=by
 have lp:lv [p]=p:=by simp [lv]
 have h0:=X1 ha
 unfold m_hr
 rw [Fg ha (dg hp hB) ta (Wp hp) A0 H0,obs,lp]
 by_cases hlt:lv a < p
 ·rw [M0 hlt,C0]
  have hc:m_f6 a=some a:=by
   unfold m_f6 app BIG
   rw [M0 (by simp; omega),obs,xc]
  rw [hc,obs]
  exact ⟨[],a,rfl,by intro x hx; simp at hx,O8,ha,ta,by rw [Va h0 hlt]; rfl,by rw [Y4 h0 hlt],H0⟩
 ·have hneg:¬ (if lv a < p then (-1:Int) else if p < lv a then 1 else 0) < 0:=by rw [K0 hlt]; split<;>omega
  rw [K0 hneg,M0 H0]
  have hg:getI [p] 0=some p:=rfl
  obtain ⟨q,hq,q1,q2,q3⟩:=Px ha A0 hp hB
  have hr:=L3 (lv a) (show p≠0 by omega)
  have hr2:=M3 (lv a) hp
  have hlw:LW [lv a % p]:=LW.one.2 ⟨hr,A0⟩
  rw [hg,obs,hq,obs,S4 hlw H0,obs]
  refine ⟨q,_,rfl,q1,q2,S3 hlw,B4 _,q3,by rw [O1]; simp [lv],?_⟩
  refine H1 fun hc=>?_
  have hne:q≠[]:=by rintro rfl; simp at hc
  have h5:=G9 q1 q2 hne
  have h6:=C4 ha
  have h7:=S5 (show a.length≤q.length - 1 by omega)
  have h8:lv a / p≤lv a:=Hd _ h0
  omega
theorem bB {r:Int} (h0:0≤r) (h1:r < B) {l:LI} (hl:LW l) (ht:Tm l) (he:lv l=r):m_hy false l=some (r,true):=by
 have e:B=4294967296:=rfl
 have hl2:l=if r=0 then [] else [r]:=by
  refine Za hl ?_ ht ?_ ?_
  ·intro x hx; split at hx
   ·simp at hx
   ·simp at hx; omega
  ·split
   ·exact O8
   ·rename_i h; intro x hx; simp at hx; omega
  ·rw [he]; split
   ·rename_i h; rw [h]; rfl
   ·simp [lv]
 refine Ret.eq ?_
 unfold m_hy
 rw [S4 hl (by rw [hl2]; split<;>simp),obs,Pd hl ht,hl2]
 by_cases hz:r=0
 ·subst hz
  rw [M0 rfl,K0 H0,J0]
  refine (Q0 (Post:=fun u:Int=>u=0) 0 (fun k (s:Int×Int)=>s=(0,0)) rfl ?_ A0).mono ?_
  ·rintro k _ hk rfl
   exact ⟨_,rfl,rfl⟩
  ·rintro _ rfl
   exact ⟨_,rfl,rfl⟩
 ·rw [K0 hz,K0 H0,J0]
  refine (Q0 (Post:=fun u:Int=>u=r) 1 (fun k (s:Int×Int)=>s=(if k=0 then 0 else r,(k:Int))) rfl ?_ A0).mono ?_
  ·rintro k _ hk rfl
   unfold m_hx
   simp only
   rw [O0]
   refine ⟨fun hlt=>?_,fun hge=>?_⟩
   ·simp at hlt
    obtain rfl:k=0:=A0
    rw [J0,C3]
    refine ⟨A0,H0,fun x hx=>?_⟩
    have hx:r=x:=by simpa using hx
    subst hx
    have hwm:wm .i64 32 ((0:Nat):Int)=0:=by rw [K8 A0 A0]; rfl
    have hws:wshl .u64 (wc .u64 r) 0=some r:=by
     rw [P2 ⟨h0,A0⟩]
     unfold wshl
     rw [B0]
     show some (IntKind.u64.wrap (r*2 ^ (min (0:Int).toNat 64)))=_
     rw [show (2:Int) ^ (min (0:Int).toNat 64)=1 from rfl,C6,IntWalk.u64_in _ ⟨h0,A0⟩]
    rw [hwm,hws,obs]
    have hor:wor .u64 0 r=r:=by
     have:=Q9 (x:=0) (y:=r) ⟨A0,A0⟩ ⟨h0,h1⟩
     rw [Q3,Le] at this
     exact this
    refine ⟨_,rfl,A0,?_⟩
    rw [M0 rfl,hor,B0,U0 A0 A0]
    rfl
   ·simp at hge
    refine ⟨_,rfl,?_⟩
    show (if k=0 then (0:Int) else r)=r
    rw [B0]
  ·rintro _ rfl
   rw [K0 H0,M0 (by simp; omega)]
   refine ⟨_,rfl,?_⟩
   rw [M8 ⟨A0,A0⟩]
theorem Ty {s:Bool} {a:LI} {p:Int} (ha:LW a) (hn:a.length≤900) (hp:0 < p) (hB:p < 2147483648):m_hz s a p=some ((if s=true then - lv a else lv a) % p):=by
 have e:B=4294967296:=rfl
 refine Ret.eq ?_
 unfold m_hz m_hw
 have hta:=S3 ha
 have htl:(trimL a).length≤999:=by
  refine H1 fun hc=>?_
  have hne:trimL a≠[]:=by intro h; rw [h] at hc; simp at hc
  have h5:=G9 hta (B4 a) hne
  rw [O1] at h5
  have h6:=C4 ha
  have h7:=S5 (show a.length≤(trimL a).length - 1 by omega)
  omega
 obtain ⟨q,r,hd,q1,q2,r1,r2,q3,r3,q4⟩:=Jt hta (B4 a) htl hp A0
 rw [O1] at q3 r3
 have h0:=X1 ha
 have hr:=L3 (lv a) (show p≠0 by omega)
 have hr2:=M3 (lv a) hp
 have fin:∀ (sg:Bool) (x y:LI) (v:Int),LW x→x.length≤1000000→LW y→Tm y→lv y=v→0≤v→v < p→v=(if s=true then - lv a else lv a) % p→Ret ((m_hv sg false x y).bind fun r8=>(m_hy r8.2.2.1 r8.2.2.2.1).bind fun r16=>some r16.1) (fun y=>y=(if s=true then - lv a else lv a) % p):=by
  intro sg x y v hx hxl hy ty hyv v0 v1 hv
  unfold m_hv
  have hb1:=Jg (!((sg == false))) hx hxl
  have hyl:y.length≤1:=by
   refine H1 fun hc=>?_
   have hne:y≠[]:=by rintro rfl; simp at hc
   have h5:=G9 hy ty hne
   have h7:=S5 (show 1≤y.length - 1 by omega)
   have:pw 1=B:=by simp [pw]
   omega
  have hb2:=Jg false hy A0
  rw [Pd hy ty] at hb2
  have hb2':m_f2 false y=some (false,y):=by
   rw [hb2]; split
   ·rename_i h; rw [h]
   ·rfl
  rw [hb1,obs,hb2',obs,obs]
  simp only
  rw [bB v0 A0 hy ty hyv,obs]
  exact ⟨_,rfl,hv⟩
 rw [JB hp A0,obs]
 simp only
 rw [S4 (dg hp A0) H0,Pd (dg hp A0) (Wp hp),obs,K0 H0,S4 ha A0,obs,hd,obs]
 simp only
 by_cases hc:s=true∧0 < r.length
 ·obtain ⟨hs,hrl⟩:=hc
  subst hs
  rw [M0 (by simp; omega)]
  have hrne:r≠[]:=by rintro rfl; simp at hrl
  have hr0:lv r≠0:=fun h=>hrne ((Rc r1 r2).1 h)
  have hlp:lv [p]=p:=by simp [lv]
  have hrl1:r.length≤1:=by
   refine H1 fun hc=>?_
   have h5:=G9 r1 r2 hrne
   have h7:=S5 (show 1≤r.length - 1 by omega)
   have:pw 1=B:=by simp [pw]
   omega
  obtain ⟨x,hx,x1,x2,x3⟩:=aj q1 (b:=[1]) (LW.one.2 ⟨A0,A0⟩) q4 H0
  obtain ⟨y,hy,y1,y2,y3⟩:=minus_ok (dg hp A0) r1 H0 (by simpa using hrl1) A0
  have hE:((m_gr q [1]).bind fun r36=>(m_hu [p] r).bind fun r38=>m_hv true false r36 r38)=m_hv true false x y:=by rw [hx,obs,hy,obs]
  rw [hE]
  have hxl:x.length≤1000+1:=by
   refine P7 x1 x2 ?_
   have:=C4 q1
   have h9:=S5 q4
   have h8:=W1 1000
   rw [x3]
   show lv q+lv [1] < B*pw 1000
   have:lv [1]=1:=by simp [lv]
   rw [e]; omega
  refine fin true x y (p - lv a % p) x1 A0 y1 y2 (by rw [y3,hlp,r3]) A0 A0 ?_
  rw [M0 rfl]
  have hm:=P4 (lv a) p
  have h8: - lv a=(p - lv a % p)+p*(-(lv a / p) - 1):=by rw [C9,Pe]; omega
  rw [h8,yl]
  exact (Y4 (a:=p - lv a % p) (b:=p) A0 A0).symm
 ·rw [K0 (by simp only [V3,decide_eq_true_eq]; rintro ⟨h1,h2⟩; exact hc ⟨h1,A0⟩)]
  refine fin s q r (lv a % p) q1 A0 r1 r2 r3 hr hr2 ?_
  by_cases hs:s=true
  ·have hr0:r=[]:=U6 (Nat.eq_zero_of_not_pos fun h=>hc ⟨hs,h⟩)
   have hz:lv a % p=0:=by rw [← r3,hr0]; rfl
   rw [M0 hs,hz,Int.neg_emod,M0 (tl hz)]
  ·rw [K0 hs]
def lenTab:LI:=[0,1,2,2,3,3,3,3,4,4,4,4,4,4,4,4,5,5,5,5,5,5,5,5,5,5,5,5,5,5,5,5,6,6,6,6,6,6,6,6,6,6,6,6,6,6,6,6,6,6,6,6,6,6,6,6,6,6,6,6,6,6,6,6]++List.replicate 64 7++List.replicate 128 8
theorem NA:(List.range 256).all (fun k=>match lenTab[k]? with | some v=>decide (0≤v) && decide (v≤8) && decide ((k:Int) < 2 ^ v.toNat) && decide (k=0∨2 ^ v.toNat≤2*(k:Int)) | none=>false)=true:=by decide +kernel
theorem lenT {x:Int} (h0:0≤x) (h1:x < 256):∃ v:Nat,getI lenTab x=some (v:Int)∧v≤8∧x < 2 ^ v∧(0 < x→2 ^ v≤2*x):=by
 obtain ⟨k,rfl⟩:=W5 h0
 have:=E7.1 NA k (M6.2 A0)
 cases h:lenTab[k]? with
 | none=>rw [h] at this; simp at this
 | some v=>
  rw [h] at this
  simp only [V3,decide_eq_true_eq] at this
  obtain ⟨⟨⟨a1,a2⟩,a3⟩,a4⟩:=this
  obtain ⟨w,rfl⟩:=W5 a1
  rw [A1] at a3 a4
  exact ⟨w,h,A0,a3,fun hk=>a4.resolve_left A0⟩
theorem tq {x:Int} {n:Nat} (h:0≤x) (hn:n≤32):wsrc .u32 x n=x / 2 ^ n:=by
 unfold wsrc
 show x.fdiv (2 ^ min n 32)=_
 rw [G6 hn,Gd _ (U7 (C5 A0))]
theorem MA (x c:Int):m_bc x c=(getI lenTab (wc .u8 x)).bind fun x6=>some (wa .i64 c (wc .i64 x6)):=rfl
theorem Bs {x:Int} {c:Nat} (h0:0≤x) (h1:x < 256) (hc:c≤24):∃ v:Nat,m_bc x (c:Int)=some ((c+v:Nat):Int)∧v≤8∧x < 2 ^ v∧(0 < x→2 ^ v≤2*x):=by
 obtain ⟨v,h2,h3,h4⟩:=lenT h0 h1
 refine ⟨v,?_,h3,h4⟩
 have hcv:wc .u8 x=x:=by unfold wc; rw [IntKind.wrap_u8]; omega
 rw [MA,hcv,h2,obs,M8 ⟨A0,A0⟩,U0 A0 A0]
 congr 1
theorem xj {x:Int} (h0:0≤x) (h1:x < B):∃ v:Nat,m_be x=some (v:Int)∧v≤32∧x < 2 ^ v∧(0 < x→2 ^ v≤2*x):=by
 have e:B=4294967296:=rfl
 have step:∀ (y:Int) (c:Nat),0≤y→y < 65536→c≤16→∃ v:Nat,m_bd y (c:Int)=some ((c+v:Nat):Int)∧v≤16∧y < 2 ^ v∧(0 < y→2 ^ v≤2*y):=by
  intro y c y0 y1 hc
  unfold m_bd
  by_cases h:256≤y
  ·rw [M0 h,tq y0 A0,show wa .i64 (c:Int) 8=((c+8:Nat):Int) by rw [U0 A0 A0]; omega]
   obtain ⟨v,h2,h3,h4,h5⟩:=Bs (x:=y / 2 ^ 8) (c:=c+8) A0 A0 A0
   refine ⟨8+v,by rw [h2]; congr 1; omega,A0,?_⟩
   rw [X4]
   have:=h5 A0
   exact ⟨A0,fun _=>A0⟩
  ·rw [K0 h]
   obtain ⟨v,h2,h3,h4⟩:=Bs (x:=y) (c:=c) y0 A0 A0
   exact ⟨v,h2,A0,h4⟩
 unfold m_be
 by_cases h:65536≤x
 ·rw [M0 h,tq h0 A0]
  obtain ⟨v,h2,h3,h4,h5⟩:=step (x / 2 ^ 16) 16 A0 A0 A0
  refine ⟨16+v,h2,A0,?_⟩
  rw [X4]
  have:=h5 A0
  exact ⟨A0,fun _=>A0⟩
 ·rw [K0 h]
  obtain ⟨v,h2,h3,h4⟩:=step x 0 h0 A0 A0
  exact ⟨v,by rw [show (0:Int)=((0:Nat):Int) from rfl,h2]; congr 1; omega,A0,h4⟩
theorem Cs {p:Int} (hp:0 < p) (hB:p < B):∃ s:Nat,m_db p=some (s:Int)∧s < 32∧p*2 ^ s < B∧B≤2*(p*2 ^ s):=by
 obtain ⟨v,h1,h2,h3,h4⟩:=xj (U7 hp) hB
 have hv:0 < v:=by
  rcases ma v with h | h
  ·subst h; simp at h3; omega
  ·exact h
 refine ⟨32 - v,?_,A0,?_⟩
 ·unfold m_db
  rw [h1,obs,V2 A0 A0]
  congr 1; omega
 ·have e:(2:Int) ^ v*2 ^ (32 - v)=B:=by
   rw [← X4,show v+(32 - v)=32 by omega]; rfl
  have hc:(0:Int) < 2 ^ (32 - v):=C5 A0
  have:=qa h3 hc
  have h6:=X2 (h4 hp) (U7 hc)
  rw [N6] at h6
  omega
theorem Z7 {l:LI} (hl:LW l) (hn:l.length≤1000000):m_g l=some (trimL l):=by
 refine Ret.eq ?_
 have h:=S4 hl hn
 unfold m_f1 at h
 unfold m_g
 have e3:m_f=m_f0:=rfl
 rw [e3]
 cases hL:loop (m_f0 l) (l.length:Int) with
 | none=>rw [hL] at h; cases h
 | some i=>
  rw [hL,obs] at h
  have hs:∃ t,sli l 0 i=some t∧t=trimL l:=by
   cases hs:sli l 0 i with
   | none=>rw [hs] at h; cases h
   | some t=>rw [hs,obs] at h; exact ⟨t,rfl,N3 h⟩
  obtain ⟨t,ht,htr⟩:=hs
  obtain ⟨t1,_,t2,t3⟩:=Yd ht
  obtain ⟨k,rfl⟩:=W5 t2
  have htk:t=l.take k:=by rw [t1]; unfold subL; simp
  rw [obs,J0]
  refine (Q0 (Post:=fun o=>o=l.take k) k (fun m (s:LI×Int)=>s=(l.take m,(m:Int))) H0 ?_ A0).mono fun o ho=>⟨_,rfl,by rw [ho,← htk,htr]⟩
  rintro m _ hm rfl
  unfold m_e
  simp only
  rw [O0]
  refine ⟨fun hlt=>?_,fun hge=>⟨_,rfl,by have e:m=k:=A0; rw [e]; rfl⟩⟩
  rw [J0,C3]
  refine ⟨A0,A0,fun x hx=>?_⟩
  rw [A1] at hx
  rw [J0,D2]
  refine ⟨by rw [Z3]; simp only [E2,N2]; omega,_,rfl,A0,?_⟩
  rw [U0 A0 A0,← tks hx]; rfl
theorem qe {l:LI} (s:Bool) (hl:LW l) (hn:l.length≤1000000):m_h s l=some (s && decide ((0:Int) < ((trimL l).length:Int)),trimL l):=by
 unfold m_h
 rw [Z7 hl hn,obs]
theorem dj {l:LI} (s:Bool) (hl:LW l) (hn:l.length≤1000000):m_k s l=some (s && decide ((0:Int) < ((trimL l).length:Int)),trimL l):=by
 unfold m_k
 rw [qe s hl hn,obs]
theorem Wj {a b:LI} (ha:LW a) (hb:LW b) (ta:Tm a) (tb:Tm b) (hn:a.length≤1000) (hm:b.length≤1000):m_2 a b=some (if lv a < lv b then -1 else if lv b < lv a then 1 else 0):=by
 refine Ret.eq ?_
 unfold m_2
 rw [O0]
 refine ⟨fun hl=>?_,fun hl=>?_⟩
 ·have hl:a.length=b.length:=A0
  rw [J0]
  refine (Q0 (Post:=fun o=>(o=.inl ()∧a=b)∨∃ c,o=.inr c∧c=(if lv a < lv b then -1 else if lv b < lv a then 1 else 0)) a.length (fun m (i:Int)=>i=(a.length:Int) - 1 - m∧m≤a.length∧a.drop (a.length - m)=b.drop (a.length - m)) ⟨by rw [V2 A0 A0]; omega,A0,by rw [pb,Zk,O9 A0]⟩ ?_ A0).mono ?_
  ·rintro m i hm' ⟨rfl,h1,h2⟩
   unfold m_1
   rw [O0]
   refine ⟨fun hge=>?_,fun hlt=>⟨_,rfl,.inl ⟨rfl,by have e:a.length - m=0:=A0; rwa [e,B9,B9] at h2⟩⟩⟩
   obtain ⟨j,hj⟩:∃ j:Nat,a.length=j+(m+1):=⟨a.length - (m+1),A0⟩
   have ej:(a.length:Int) - 1 - (m:Int)=(j:Int):=A0
   have e2:a.length - m=j+1:=A0
   rw [e2] at h2
   rw [ej,J0,C3]
   refine ⟨A0,A0,fun x hx=>?_⟩
   rw [J0,C3]
   refine ⟨A0,A0,fun y hy=>?_⟩
   rw [A1] at hx hy
   rw [O0]
   refine ⟨fun he=>⟨_,rfl,A0,by rw [V2 A0 A0]; omega,A0,?_⟩,fun hne=>?_⟩
   ·subst he
    obtain ⟨k1,k2⟩:=S2.1 hx
    obtain ⟨k3,k4⟩:=S2.1 hy
    rw [show a.length - (m+1)=j by omega,Ta k1,Ta k3,k2,k4,h2]
   ·rw [J0,C3]
    refine ⟨A0,A0,fun x' hx'=>?_⟩
    rw [A1,hx] at hx'
    obtain rfl:=N3 hx'
    rw [J0,C3]
    refine ⟨A0,A0,fun y' hy'=>?_⟩
    rw [A1,hy] at hy'
    obtain rfl:=N3 hy'
    rw [O0]
    refine ⟨fun h=>⟨_,rfl,.inr ⟨_,rfl,?_⟩⟩,fun h=>⟨_,rfl,.inr ⟨_,rfl,?_⟩⟩⟩
    ·rw [M0 (kg ha hb hx hy h2 h)]
    ·have:=kg hb ha hy hx h2.symm (show y < x by omega)
     rw [B0,M0 this]
  ·rintro _ (⟨rfl,h⟩ | ⟨c,rfl,h⟩)
   ·refine ⟨_,rfl,?_⟩
    rw [h,B0,B0]
   ·exact ⟨_,rfl,h⟩
 ·rw [O0]
  refine ⟨fun h=>⟨_,rfl,?_⟩,fun h=>⟨_,rfl,?_⟩⟩
  ·rw [M0 (z7 ha hb ta tb A0)]
  ·have:=z7 hb ha tb ta (show b.length < a.length by omega)
   rw [B0,M0 this]
theorem Xp {a:LI} {i:Nat}:lv (a.take (i+1))=lv (a.take i)+pw i*a.getD i 0:=by
 rcases wb i a.length with h | h
 ·rw [M4 (U3 h)]; simp [List.getD,h]
 ·rw [Td h]; simp [List.getD,A9 h]
theorem iu {a b:LI} (ha:LW a) (hb:LW b) (hn:a.length≤1000) (hm:b.length≤1000):Ret (m_0 a b) (fun r=>LW r∧r.length≤1001∧lv r=lv a+lv b):=by
 have e:B=4294967296:=rfl
 obtain ⟨N,hN⟩:∃ N:Nat,imax (a.length:Int) (b.length:Int)=(N:Int)∧a.length≤N∧b.length≤N∧N≤1000:=by
  unfold imax
  split
  ·exact ⟨b.length,rfl,A0,A0,hm⟩
  ·exact ⟨a.length,rfl,A0,A0,hn⟩
 obtain ⟨hN,hNa,hNb,hN1⟩:=hN
 unfold m_0
 rw [J0]
 refine (Q0 (Post:=fun s:LI×Int=>LW s.1∧s.1.length=N∧(s.2=0∨s.2=1)∧lv s.1+pw N*s.2=lv a+lv b) N (fun i (s:LI×Int×Int)=>s.2.2=(i:Int)∧LW s.1∧s.1.length=i∧(s.2.1=0∨s.2.1=1)∧lv s.1+pw i*s.2.1=lv (a.take i)+lv (b.take i)) ⟨rfl,by intro x hx; simp at hx,rfl,.inl rfl,by simp [lv]⟩ ?_ A0).mono ?_
 ·rintro i ⟨o,c,_⟩ hi ⟨rfl,h1,h2,h3,h4⟩
  simp only at h1 h2 h3 h4
  unfold m_z
  simp only
  rw [hN,O0]
  refine ⟨fun hlt=>?_,fun hge=>⟨_,rfl,h1,by show o.length=_; omega,h3,?_⟩⟩
  ·have hiN:i < N:=A0
   have fin:∀ (t:Int),0≤t→t < 2*B→t=c+a.getD i 0+b.getD i 0→Ret (m_x o (i:Int) t) (VQ (fun s:LI×Int×Int=>i < N∧s.2.2=((i+1:Nat):Int)∧LW s.1∧s.1.length=i+1∧(s.2.1=0∨s.2.1=1)∧lv s.1+pw (i+1)*s.2.1=lv (a.take (i+1))+lv (b.take (i+1))) (fun s:LI×Int=>LW s.1∧s.1.length=N∧(s.2=0∨s.2=1)∧lv s.1+pw N*s.2=lv a+lv b)):=by
    intro t t0 t1 ht
    have hm:=L3 t (show B≠0 by omega)
    have hm2:=M3 t (show 0 < B by omega)
    have hd:=P4 t B
    unfold m_x
    rw [L8,W6 t0,J0,D2]
    refine ⟨by rw [h2]; simp only [E2,N2]; omega,_,rfl,hiN,by show wa .i64 (i:Int) 1=_; rw [U0 A0 A0]; rfl,LW.app.2 ⟨h1,LW.one.2 ⟨hm,hm2⟩⟩,by show (o++[_]).length=_; rw [P1,h2]; rfl,by have q0:0≤t / B:=N5 t0 A0; have q1:t / B < 2:=P6 A0 t1; show t / B=0∨t / B=1; omega,?_⟩
    show lv (o++[t % B])+pw (i+1)*(t / B)=_
    rw [W9,h2,Xp (a:=a),Xp (a:=b)]
    simp only [pw]
    have e3:pw i*(B*(t / B)+t % B)=pw i*t:=by rw [hd]
    have e4:B*pw i*(t / B)=pw i*(B*(t / B)):=by grind
    have e5:pw i*t=pw i*c+pw i*a.getD i 0+pw i*b.getD i 0:=by rw [ht]; grind
    rw [O6] at e3
    omega
   have second:∀ (t:Int),0≤t→t < B+1→t=c+a.getD i 0→Ret (m_y (i:Int) b o t) (VQ (fun s:LI×Int×Int=>i < N∧s.2.2=((i+1:Nat):Int)∧LW s.1∧s.1.length=i+1∧(s.2.1=0∨s.2.1=1)∧lv s.1+pw (i+1)*s.2.1=lv (a.take (i+1))+lv (b.take (i+1))) (fun s:LI×Int=>LW s.1∧s.1.length=N∧(s.2=0∨s.2=1)∧lv s.1+pw N*s.2=lv a+lv b)):=by
    intro t t0 t1 ht
    unfold m_y
    rw [O0]
    refine ⟨fun hlb=>?_,fun hgb=>?_⟩
    ·rw [J0,C3]
     refine ⟨A0,hlb,fun y hy=>?_⟩
     rw [A1] at hy
     have hyB:=LW.get hb hy
     have hyd:b.getD i 0=y:=by rw [M5,hy]; rfl
     rw [P2 ⟨hyB.1,A0⟩,Q6 ⟨A0,A0⟩]
     exact fin _ A0 A0 (by rw [ht,hyd])
    ·have hyd:b.getD i 0=0:=by rw [M5,A9 A0]; rfl
     exact fin _ t0 A0 (by rw [ht,hyd,V7])
   rw [O0]
   refine ⟨fun hla=>?_,fun hga=>?_⟩
   ·rw [J0,C3]
    refine ⟨A0,hla,fun x hx=>?_⟩
    rw [A1] at hx
    have hxB:=LW.get ha hx
    have hxd:a.getD i 0=x:=by rw [M5,hx]; rfl
    rw [P2 ⟨hxB.1,A0⟩,Q6 ⟨A0,A0⟩]
    exact second _ A0 A0 (by rw [hxd])
   ·have hxd:a.getD i 0=0:=by rw [M5,A9 A0]; rfl
    exact second _ A0 A0 (by rw [hxd,V7])
  ·have ei:i=N:=A0
   subst ei
   rw [P5 hNa,P5 hNb] at h4
   exact h4
 ·rintro ⟨o,c⟩ ⟨h1,h2,h3,h4⟩
  simp only at h1 h2 h3 h4 ⊢
  have hc:wc .u32 c=c:=Z4 ⟨A0,A0⟩
  have hlw:LW (o++[c]):=LW.app.2 ⟨h1,LW.one.2 ⟨A0,A0⟩⟩
  rw [hc,J0,D2]
  refine ⟨by rw [h2]; simp only [E2,N2]; omega,_,rfl,hlw,by rw [P1,h2]; simp; omega,by rw [W9,h2]; exact h4⟩
theorem dq {v:Int} (h0: -B≤v) (h1:v < B):((v % 18446744073709551616) % B=v+B*(if v < 0 then 1 else 0))∧((v % 18446744073709551616) / 9223372036854775808=if v < 0 then 1 else 0):=by
 unfold B at*
 split<;>omega
theorem Ef {a b:LI} (ha:LW a) (hb:LW b) (hn:a.length≤1000) (hl:b.length≤a.length) (hv:lv b≤lv a):Ret (m_5 a b) (fun r=>LW r∧r.length≤1001∧lv r=lv a - lv b):=by
 have e:B=4294967296:=rfl
 unfold m_5
 rw [J0]
 refine (Q0 (Post:=fun o:LI=>LW o∧o.length=a.length∧lv o=lv a - lv b) a.length (fun i (s:LI×Int×Int)=>s.2.2=(i:Int)∧LW s.1∧s.1.length=i∧(s.2.1=0∨s.2.1=1)∧lv s.1=lv (a.take i) - lv (b.take i)+pw i*s.2.1) ⟨rfl,by intro x hx; simp at hx,rfl,.inl rfl,by simp [lv]⟩ ?_ A0).mono fun o h=>⟨_,rfl,h.1,A0,h.2.2⟩
 rintro i ⟨o,c,_⟩ hi ⟨rfl,h1,h2,h3,h4⟩
 simp only at h1 h2 h3 h4
 unfold m_4 m_3
 simp only
 rw [O0]
 refine ⟨fun hlt=>?_,fun hge=>⟨_,rfl,h1,by show o.length=_; omega,?_⟩⟩
 ·have hia:i < a.length:=A0
  rw [J0,C3]
  refine ⟨A0,hlt,fun x hx=>?_⟩
  rw [A1] at hx
  have hxB:=LW.get ha hx
  have hcx:wc .u64 x=x:=P2 ⟨hxB.1,A0⟩
  have hts:=M4 hx
  have fin:∀ (t v:Int),t=v % 18446744073709551616→-B≤v→v < B→lv o+pw i*v=lv (a.take (i+1)) - lv (b.take (i+1))→Ret ((app o [wc .u32 t]).bind fun x39=>some (Sum.inl (β:=LI) (x39,wsrc .u64 t 63,wa .i64 (i:Int) 1))) (VQ (fun s:LI×Int×Int=>i < a.length∧s.2.2=((i+1:Nat):Int)∧LW s.1∧s.1.length=i+1∧(s.2.1=0∨s.2.1=1)∧lv s.1=lv (a.take (i+1)) - lv (b.take (i+1))+pw (i+1)*s.2.1) (fun o:LI=>LW o∧o.length=a.length∧lv o=lv a - lv b)):=by
   intro t v ht v0 v1 hv
   obtain ⟨k1,k2⟩:=dq v0 v1
   rw [← ht] at k1 k2
   have k3:0≤t:=by rw [ht]; exact L3 _ A0
   have hm:=L3 t (show B≠0 by omega)
   have hm2:=M3 t (show 0 < B by omega)
   rw [L8,gm k3,k2,J0,D2]
   refine ⟨by rw [h2]; simp only [E2,N2]; omega,_,rfl,hia,by show wa .i64 (i:Int) 1=_; rw [U0 A0 A0]; rfl,LW.app.2 ⟨h1,LW.one.2 ⟨hm,hm2⟩⟩,by show (o++[_]).length=_; rw [P1,h2]; rfl,by show (if v < 0 then (1:Int) else 0)=0∨(if v < 0 then (1:Int) else 0)=1; split<;>omega,?_⟩
   show lv (o++[t % B])=_+pw (i+1)*(if v < 0 then 1 else 0)
   rw [W9,h2,k1,← hv]
   simp only [pw]
   generalize (if v < 0 then (1:Int) else 0)=z
   grind
  rw [O0]
  refine ⟨fun hlb=>?_,fun hgb=>?_⟩
  ·rw [J0,C3]
   refine ⟨A0,hlb,fun y hy=>?_⟩
   rw [A1] at hy
   have hyB:=LW.get hb hy
   refine fin _ (x - c - y) ?_ A0 A0 ?_
   ·rw [hcx,P2 ⟨hyB.1,A0⟩,y7,y7]; omega
   ·rw [hts,M4 hy,h4]; grind
  ·refine fin _ (x - c) ?_ A0 A0 ?_
   ·rw [hcx,y7]
   ·rw [hts,Td (a:=b) A0,h4]; grind
 ·have ei:i=a.length:=A0
  subst ei
  rw [E8,P5 hl] at h4
  have hlt:=C4 h1
  rw [h2] at hlt
  have hp:=W1 a.length
  show lv o=_
  rcases h3 with rfl | rfl
  ·omega
  ·omega
theorem vq {a:LI} (ha:LW a) (hn:a.length≤1000) {q s:Nat} (hq1:q≤1000) (hs:s < 32):Ret (m_q a ((32*q+s:Nat):Int)) (fun u=>LW u∧u.length=q+a.length+1∧lv u=lv a*(pw q*2 ^ s)):=by
 have e:B=4294967296:=rfl
 obtain ⟨hq,hr⟩:=Pg (q:=q) A0 hs
 obtain ⟨p1,p2,p3,p4⟩:=Y7 hs
 unfold m_q
 rw [hq,J0,Y5]
 refine ⟨A0,A0,?_⟩
 rw [A1,J0]
 refine (Q0 (Post:=fun s':LI×Int=>LW s'.1∧s'.1.length=q+a.length∧(0≤s'.2∧s'.2 < 2 ^ s)∧lv s'.1+pw (q+a.length)*s'.2=pw q*(lv a*2 ^ s)) a.length (fun i (s':LI×Int×Int)=>s'.2.2=(i:Int)∧LW s'.1∧s'.1.length=q+i∧(0≤s'.2.1∧s'.2.1 < 2 ^ s)∧lv s'.1+pw (q+i)*s'.2.1=pw q*(lv (a.take i)*2 ^ s)) ⟨rfl,ib _,B5 ..,⟨by show (0:Int)≤0; omega,p1⟩,by rw [re,Zg]; simp [lv]⟩ ?_ A0).mono ?_
 ·rintro i ⟨o,c,_⟩ hi ⟨rfl,h1,h2,h3,h4⟩
  simp only at h1 h2 h3 h4
  unfold m_p
  simp only
  rw [O0,hr]
  refine ⟨fun hlt=>?_,fun hge=>⟨_,rfl,h1,by show o.length=_; omega,h3,by have ei:i=a.length:=A0; subst ei; rw [E8] at h4; exact h4⟩⟩
  have hia:i < a.length:=A0
  rw [J0,C3]
  refine ⟨A0,hlt,fun x hx=>?_⟩
  rw [A1] at hx
  have hxB:=LW.get ha hx
  have hx2:0≤x*2 ^ s:=K3 hxB.1 A0
  have hx3:x*2 ^ s≤(B - 1)*2 ^ s:=X2 A0 A0
  have hx4:(B - 1)*2 ^ s≤(B - 1)*2147483648:=B3 p2 A0
  have hsh:wshl .u64 (wc .u64 x) (s:Int)=some (x*2 ^ s):=by
   rw [P2 ⟨hxB.1,A0⟩]
   unfold wshl
   rw [B0,A1]
   show some (IntKind.u64.wrap (x*2 ^ min s 64))=_
   rw [G6 A0,IntWalk.u64_in _ ⟨hx2,A0⟩]
  rw [hsh,obs,uw hs h3 hxB A0]
  have t0:0≤c+x*2 ^ s:=A0
  have hm:=L3 (c+x*2 ^ s) (show B≠0 by omega)
  have hm2:=M3 (c+x*2 ^ s) (show 0 < B by omega)
  have hd:=P4 (c+x*2 ^ s) B
  have q0:0≤(c+x*2 ^ s) / B:=N5 t0 A0
  have q1:(c+x*2 ^ s) / B < 2 ^ s:=by
   refine P6 A0 ?_
   have:(B - 1)*2 ^ s=2 ^ s*B - 2 ^ s:=by grind
   omega
  rw [L8,W6 t0,J0,D2]
  refine ⟨by rw [h2]; simp only [E2,N2]; omega,_,rfl,hia,by show wa .i64 (i:Int) 1=_; rw [U0 A0 A0]; rfl,LW.app.2 ⟨h1,LW.one.2 ⟨hm,hm2⟩⟩,by show (o++[_]).length=_; rw [P1,h2]; rfl,⟨q0,q1⟩,?_⟩
  show lv (o++[(c+x*2 ^ s) % B])+pw (q+(i+1))*((c+x*2 ^ s) / B)=_
  have pq1:pw (q+(i+1))=B*pw (q+i):=rfl
  have pq:pw (q+i)=pw q*pw i:=L7 q i
  rw [W9,h2,M4 hx,pq1]
  have e3:pw (q+i)*(B*((c+x*2 ^ s) / B)+(c+x*2 ^ s) % B)=pw (q+i)*(c+x*2 ^ s):=by rw [hd]
  generalize (c+x*2 ^ s) / B=Q at*
  generalize (c+x*2 ^ s) % B=r at*
  rw [pq] at h4 e3 ⊢
  have e4:pw q*((lv (a.take i)+pw i*x)*2 ^ s)=pw q*(lv (a.take i)*2 ^ s)+pw q*pw i*(x*2 ^ s):=by grind
  rw [e4,← h4]
  grind
 ·rintro ⟨o,c⟩ ⟨h1,h2,h3,h4⟩
  simp only at h1 h2 h3 h4 ⊢
  rw [Z4 ⟨h3.1,A0⟩,J0,D2]
  refine ⟨by rw [h2]; simp only [E2,N2]; omega,_,rfl,LW.app.2 ⟨h1,LW.one.2 ⟨h3.1,A0⟩⟩,by rw [P1,h2]; rfl,?_⟩
  rw [W9,h2,h4]
  grind
theorem uq {a:LI} (ha:LW a) (hn:a.length≤1000) {s:Nat} (hs:s < 32):Ret (m_q a (s:Int)) (fun u=>LW u∧u.length=a.length+1∧lv u=lv a*2 ^ s):=by
 have:=vq ha hn (q:=0) A0 hs
 rw [show 32*0+s=s by omega] at this
 exact this.mono fun u hu=>⟨hu.1,A0,by rw [hu.2.2]; show _*(1*_)=_; rw [E4]⟩
theorem eB {r:Int} (h0:0≤r) (h1:r < B) {l:LI} (hl:LW l) (ht:Tm l) (he:lv l=r):m_bu false l=some (r,true):=by
 have e:B=4294967296:=rfl
 have hl2:l=if r=0 then [] else [r]:=by
  refine Za hl ?_ ht ?_ ?_
  ·intro x hx; split at hx
   ·simp at hx
   ·simp at hx; omega
  ·split
   ·exact O8
   ·rename_i h; intro x hx; simp at hx; omega
  ·rw [he]; split
   ·rename_i h; rw [h]; rfl
   ·simp [lv]
 refine Ret.eq ?_
 unfold m_bu
 rw [dj false hl (by rw [hl2]; split<;>simp),obs,Pd hl ht,hl2]
 simp only [Bool.false_and]
 by_cases hz:r=0
 ·subst hz
  rw [M0 rfl,K0 H0,J0]
  refine (Q0 (Post:=fun u:Int=>u=0) 0 (fun k (s:Int×Int)=>s=(0,0)) rfl ?_ A0).mono ?_
  ·rintro k _ hk rfl
   exact ⟨_,rfl,rfl⟩
  ·rintro _ rfl
   exact ⟨_,rfl,rfl⟩
 ·rw [K0 hz,K0 H0,J0]
  refine (Q0 (Post:=fun u:Int=>u=r) 1 (fun k (s:Int×Int)=>s=(if k=0 then 0 else r,(k:Int))) rfl ?_ A0).mono ?_
  ·rintro k _ hk rfl
   unfold m_bt
   simp only
   rw [O0]
   refine ⟨fun hlt=>?_,fun hge=>?_⟩
   ·simp at hlt
    obtain rfl:k=0:=A0
    rw [J0,C3]
    refine ⟨A0,H0,fun x hx=>?_⟩
    have hx:r=x:=by simpa using hx
    subst hx
    have hwm:wm .i64 32 ((0:Nat):Int)=0:=by rw [K8 A0 A0]; rfl
    have hws:wshl .u64 (wc .u64 r) 0=some r:=by
     rw [P2 ⟨h0,A0⟩]
     unfold wshl
     rw [B0]
     show some (IntKind.u64.wrap (r*2 ^ (min (0:Int).toNat 64)))=_
     rw [show (2:Int) ^ (min (0:Int).toNat 64)=1 from rfl,C6,IntWalk.u64_in _ ⟨h0,A0⟩]
    rw [hwm,hws,obs]
    have hor:wor .u64 0 r=r:=by
     have:=Q9 (x:=0) (y:=r) ⟨A0,A0⟩ ⟨h0,h1⟩
     rw [Q3,Le] at this
     exact this
    refine ⟨_,rfl,A0,?_⟩
    rw [M0 rfl,hor,B0,U0 A0 A0]
    rfl
   ·simp at hge
    refine ⟨_,rfl,?_⟩
    show (if k=0 then (0:Int) else r)=r
    rw [B0]
  ·rintro _ rfl
   rw [K0 H0,B0]
   refine ⟨_,rfl,?_⟩
   rw [M8 ⟨A0,A0⟩]
theorem Nx {l:LI} (s:Bool) (hl:LW l) (ht:Tm l) (hn:l.length≤1000):m_bj s l=some (if l=[] then 0 else if s=true then -1 else 1):=by
 unfold m_bj
 rw [dj s hl A0,obs,Pd hl ht]
 simp only
 by_cases h:l=[]
 ·rw [M0 (by rw [h]; rfl),M0 h]
 ·have hp:=Cb.2 h
  rw [B0,K0 h]
  have:decide ((0:Int) < (l.length:Int))=true:=by simp; exact hp
  rw [this,Bool.and_true]
  split<;>rfl
theorem add_ok {a b:LI} (s t:Bool) (ha:LW a) (hb:LW b) (hn:a.length≤900) (hm:b.length≤900):Ret (m_6 s a t b) (fun r=>LW r.2∧Tm r.2∧r.2.length≤1001∧(s=true→t=false→lv a < lv b→r.1=false∧lv r.2=lv b - lv a)):=by
 have la:=Af ha
 have lb:=Af hb
 have ta:=S3 ha
 have tb:=S3 hb
 have va:=O1 a
 have vb:=O1 b
 unfold m_6
 rw [Z7 ha A0,obs,Z7 hb A0,obs,O0]
 have mk:∀ (u:Bool) {r:LI},LW r→r.length≤1001→Ret ((m_h u r).bind fun r17=>some (r17.1,r17.2)) (fun x:Bool×LI=>LW x.2∧Tm x.2∧x.2.length≤1001∧lv x.2=lv r∧(u=false→x.1=false)):=by
  intro u r hr hrl
  rw [qe u hr A0,obs]
  have:=Af hr
  exact ⟨_,rfl,S3 hr,B4 r,by show (trimL r).length≤1001; omega,O1 r,fun h=>by rw [h]; rfl⟩
 refine ⟨fun hst=>?_,fun hst=>?_⟩
 ·rw [J0]
  refine (iu ta tb A0 A0).mono fun r hr=>?_
  refine (mk s hr.1 hr.2.1).mono fun x hx=>⟨hx.1,hx.2.1,hx.2.2.1,fun h1 h2 _=>?_⟩
  rw [h1,h2] at hst; cases hst
 ·rw [Wj ta tb (B4 a) (B4 b) A0 A0,obs,va,vb,O0]
  refine ⟨fun h=>?_,fun h=>?_⟩
  ·have hle:lv b≤lv a:=by
    refine H1 fun hc=>?_
    rw [C0] at h; omega
   rw [J0]
   have hll:(trimL b).length≤(trimL a).length:=by
    refine H1 fun hc=>?_
    have:=z7 ta tb (B4 a) (B4 b) A0
    omega
   refine (Ef ta tb A0 hll A0).mono fun r hr=>?_
   refine (mk s hr.1 hr.2.1).mono fun x hx=>⟨hx.1,hx.2.1,hx.2.2.1,fun _ _ h3=>absurd h3 A0⟩
  ·have hlt:lv a < lv b:=by
    refine H1 fun hc=>?_
    rw [K0 hc] at h
    split at h<;>omega
   rw [J0]
   have hll:(trimL a).length≤(trimL b).length:=by
    refine H1 fun hc=>?_
    have:=z7 tb ta (B4 b) (B4 a) A0
    omega
   refine (Ef tb ta A0 hll A0).mono fun r hr=>?_
   refine (mk t hr.1 hr.2.1).mono fun x hx=>⟨hx.1,hx.2.1,hx.2.2.1,fun _ h2 _=>⟨hx.2.2.2.2 h2,by rw [hx.2.2.2.1,hr.2.2,va,vb]⟩⟩
def sv (s:Bool) (l:LI):Int:=if s=true then - lv l else lv l
def Bg (v:Int) (s:Bool) (l:LI):Prop:=LW l∧Tm l∧sv s l=v∧(s=true→l≠[])
theorem cx (s:Bool) (l:LI):sv s (trimL l)=sv s l:=by unfold sv; rw [O1]
theorem Cf (s:Bool) (l:LI):sv (!s) l= - sv s l:=by unfold sv; cases s<;>simp
theorem Bg.pos {v:Int} {s:Bool} {l:LI} (h:Bg v s l) (hs:s=true):0 < lv l:=by
 have h1:=X1 h.1
 have h2:lv l≠0:=fun h0=>h.2.2.2 hs ((Rc h.1 h.2.1).1 h0)
 omega
theorem Bg.neg {v:Int} {s:Bool} {l:LI} (h:Bg v s l):s=true↔v < 0:=by
 have h1:=X1 h.1
 have h3:=h.2.2.1
 constructor
 ·intro hs
  have:=h.pos hs
  unfold sv at h3; rw [M0 hs] at h3; omega
 ·intro hv
  refine H1 fun hs=>?_
  unfold sv at h3; rw [K0 hs] at h3; omega
theorem Bg.abs {v:Int} {s:Bool} {l:LI} (h:Bg v s l):lv l=if v < 0 then - v else v:=by
 have h3:=h.2.2.1
 by_cases hs:s=true
 ·rw [M0 (h.neg.1 hs)]; unfold sv at h3; rw [M0 hs] at h3; omega
 ·rw [K0 fun hv=>hs (h.neg.2 hv)]; unfold sv at h3; rw [K0 hs] at h3; exact h3
theorem Bg.uniq {v:Int} {s s':Bool} {l l':LI} (h:Bg v s l) (h':Bg v s' l'):s=s'∧l=l':=by
 refine ⟨?_,Za h.1 h'.1 h.2.1 h'.2.1 (h.abs.trans h'.abs.symm)⟩
 have e:s=true↔s'=true:=h.neg.trans h'.neg.symm
 cases s<;>cases s'<;>simp_all
theorem Bg.len {v:Int} {s:Bool} {l:LI} (h:Bg v s l) {m:Nat} (h1: - pw m < v) (h2:v < pw m):l.length≤m:=by
 refine P7 h.1 h.2.1 ?_
 rw [h.abs]; split<;>omega
theorem Bg.of {s:Bool} {l:LI} (hl:LW l) (ht:Tm l) (hs:s=true→l≠[]):Bg (sv s l) s l:=⟨hl,ht,rfl,hs⟩
theorem Bg.cast {v w:Int} {s:Bool} {l:LI} (h:Bg v s l) (e:v=w):Bg w s l:=e▸h
theorem xe:Bg 0 false []:=⟨by intro x hx; simp at hx,O8,rfl,H0⟩
theorem Bg.sv {v:Int} {s:Bool} {l:LI} (h:Bg v s l):sv s l=v:=h.2.2.1
theorem eg {l:LI} {k:Nat} {x y:Int} (hx:l[k]?=some x):lv (l.set k y)=lv l+pw k*(y - x):=by
 have hlt:=(S2.1 hx).1
 have hy:(l.set k y)[k]?=some y:=by rw [G5 hlt]
 rw [Hf hx,Hf hy,Hk,Ok (by rw [Z3]; omega),Eb A0]
 grind
theorem S8 {l:LI} (h:LW l) {k:Nat} {y:Int} (hy:0≤y∧y < B):LW (l.set k y):=by
 intro z hz
 rcases Fu hz with hz | rfl
 ·exact h z hz
 ·exact hy
theorem O5 {l:LI} (hl:LW l):(trimL l).length≤l.length:=Af hl
theorem Bg.norm {s:Bool} {l:LI} (hl:LW l):Bg (Km.sv s l) (if trimL l=[] then false else s) (trimL l):=by
 refine ⟨S3 hl,B4 l,?_,?_⟩
 ·split
  ·rename_i h
   have h0:lv l=0:=by rw [← O1,h]; rfl
   unfold Km.sv
   rw [K0 H0,O1,h0]; split<;>simp
  ·exact cx s l
 ·split
  ·intro h; simp at h
  ·rename_i h; exact fun _=>h
theorem Q7 {l:LI} (s:Bool) (hl:LW l) (hn:l.length≤1000000):Ret (m_f2 s l) (fun r=>Bg (sv s l) r.1 r.2):=by
 rw [Jg s hl hn]
 have h:=Bg.norm (s:=s) hl
 split
 ·rename_i h0
  rw [M0 h0,h0] at h
  exact ⟨_,rfl,h⟩
 ·rename_i h0
  rw [K0 h0] at h
  exact ⟨_,rfl,h⟩
theorem jc {a:LI} (h:a.length≤1000000):m_f6 a=some a:=by
 unfold m_f6 app BIG
 rw [M0 (by simp; omega),obs,xc]
theorem Zf {s:Bool} {a:LI} (ha:LW a) (hn:a.length≤1000000):Ret (m_f9 s a) (fun r=>Bg (sv s a) r.1 r.2):=by
 unfold m_f9
 rw [jc hn,obs,J0]
 exact (Q7 s ha hn).mono fun r hr=>⟨_,rfl,hr⟩
def MI (a b:LI) (i j:Nat) (x:Int) (out:LI) (c:Int):Prop:=
 LW out∧out.length=a.length+b.length∧(0≤c∧c < B)∧lv out+pw (i+j)*c=lv (a.take i)*lv b+pw i*(x*lv (b.take j))∧out.drop (i+b.length)=List.replicate (a.length - i) 0
def MO (a b:LI) (i:Nat) (out:LI):Prop:=
 LW out∧out.length=a.length+b.length∧lv out=lv (a.take i)*lv b∧out.drop (i+b.length)=List.replicate (a.length - i) 0
theorem MO.start (a b:LI):MO a b 0 (List.replicate (a.length+b.length) 0):=by
 refine ⟨ib _,B5 ..,?_,?_⟩
 ·rw [re,Zg]; simp [lv]
 ·rw [Dd,pb]; congr 1; omega
theorem MO.row {a b:LI} {i:Nat} {out:LI} (h:MO a b i out) (x:Int):MI a b i 0 x out 0:=
 ⟨h.1,h.2.1,⟨A0,by unfold B; omega⟩,by rw [Zg]; simp only [lv,w4,V7]; exact h.2.2.1,h.2.2.2⟩
theorem MI.step {a b:LI} {i j:Nat} {x c y o:Int} {out:LI} (h:MI a b i j x out c) (hx:0≤x∧x < B) (hb:LW b) (hy:b[j]?=some y) (ho:out[i+j]?=some o):
  (0≤x*y∧0≤o∧0≤y∧y < B∧o < B∧x*y+o+c < 18446744073709551616)∧MI a b i (j+1) x (out.set (i+j) ((x*y+o+c) % B)) ((x*y+o+c) / B):=by
 obtain ⟨h1,h2,h3,h4,h5⟩:=h
 have e:B=4294967296:=rfl
 have hyB:=LW.get hb hy
 have hoB:=LW.get h1 ho
 have hjl:=(S2.1 hy).1
 have hxy0:=K3 hx.1 hyB.1
 have hxy:x*y≤4294967295*4294967295:=J8 A0 A0 hyB.1 A0
 have hm:=L3 (x*y+o+c) (show B≠0 by omega)
 have hm2:=M3 (x*y+o+c) (show 0 < B by omega)
 have hd:=P4 (x*y+o+c) B
 have hq0:0≤(x*y+o+c) / B:=N5 A0 A0
 have hq1:(x*y+o+c) / B < B:=P6 A0 (by rw [e]; omega)
 refine ⟨⟨hxy0,hoB.1,hyB.1,hyB.2,hoB.2,A0⟩,S8 h1 ⟨hm,hm2⟩,by rw [O3,h2],⟨hq0,hq1⟩,?_,?_⟩
 ·rw [eg ho,M4 hy,show i+(j+1)=(i+j)+1 from rfl]
  simp only [pw]
  have hp:pw (i+j)=pw i*pw j:=L7 i j
  generalize (x*y+o+c) / B=q at hd ⊢
  generalize hr:(x*y+o+c) % B=r at hd ⊢
  have e1:lv out+pw (i+j)*(r - o)+B*pw (i+j)*q=lv out+pw (i+j)*((B*q+r) - o):=by grind
  rw [e1,hd]
  have e2:pw i*(x*(lv (b.take j)+pw j*y))=pw i*(x*lv (b.take j))+(pw i*pw j)*(x*y):=by grind
  rw [e2,← hp]
  have e3:pw (i+j)*(x*y+o+c - o)=pw (i+j)*(x*y)+pw (i+j)*c:=by grind
  rw [e3]
  omega
 ·rw [Eb A0]; exact h5
theorem MI.done {a b:LI} {i:Nat} {x c:Int} {out:LI} (h:MI a b i b.length x out c) (hx:a[i]?=some x):i+b.length < out.length∧MO a b (i+1) (out.set (i+b.length) c):=by
 obtain ⟨h1,h2,h3,h4,h5⟩:=h
 have hil:=(S2.1 hx).1
 have hz:out[i+b.length]?=some 0:=by
  have e1:(out.drop (i+b.length))[0]?=out[i+b.length]?:=by rw [G8]; rfl
  rw [← e1,h5,Db,C0]
 refine ⟨A0,S8 h1 h3,by rw [O3,h2],?_,?_⟩
 ·rw [eg hz,M4 hx,pa]
  rw [E8] at h4
  have e1:(lv (a.take i)+pw i*x)*lv b=lv (a.take i)*lv b+pw i*(x*lv b):=by grind
  rw [e1,← h4]
 ·rw [show i+1+b.length=(i+b.length)+1 by omega,Eb A0,← na,h5,Dd]
  congr 1
theorem Sw {a b:LI} (ha:LW a) (hb:LW b) (hn:a.length≤400) (hm:b.length≤400):Ret (m_iz a b) (fun r=>LW r∧Tm r∧lv r=lv a*lv b):=by
 unfold m_iz
 rw [O0]
 refine ⟨fun hz=>⟨_,rfl,by intro x hx; simp at hx,O8,?_⟩,fun hz=>?_⟩
 ·simp only [H5,decide_eq_true_eq] at hz
  rcases hz with hz | hz
  ·rw [show a=[] from U6 A0]; simp [lv]
  ·rw [show b=[] from U6 A0]; simp [lv]
 rw [U0 A0 A0,J0,Y5]
 refine ⟨A0,A0,?_⟩
 rw [show ((a.length:Int)+(b.length:Int)).toNat=a.length+b.length by omega,J0]
 refine (Q0 (Post:=fun o=>MO a b a.length o) a.length (fun i (s:LI×Int)=>s.2=(i:Int)∧MO a b i s.1) ⟨rfl,MO.start a b⟩ ?_ A0).mono ?_
 ·rintro i ⟨o,_⟩ hi ⟨rfl,hO⟩
  simp only at hO
  unfold m_iy
  simp only
  rw [O0]
  refine ⟨fun hlt=>?_,fun hge=>⟨_,rfl,by have e:i=a.length:=A0; subst e; exact hO⟩⟩
  rw [J0,C3]
  refine ⟨A0,hlt,fun x hx=>?_⟩
  rw [A1] at hx
  have hxB:=LW.get ha hx
  rw [J0]
  refine (Q0 (Post:=fun s:LI×Int=>MI a b i b.length x s.1 s.2) b.length (fun j (s:LI×Int×Int)=>s.2.2=(j:Int)∧MI a b i j x s.1 s.2.1) ⟨rfl,hO.row x⟩ ?_ A0).mono ?_
  ·rintro j ⟨o,c,_⟩ hj ⟨rfl,hI⟩
   simp only at hI
   unfold m_ix
   simp only
   rw [O0]
   refine ⟨fun hjl=>?_,fun hge=>⟨_,rfl,by have e:j=b.length:=A0; subst e; exact hI⟩⟩
   have ho1:=hI.2.1
   rw [J0,C3]
   refine ⟨A0,hjl,fun y hy=>?_⟩
   rw [A1] at hy
   rw [U0 (x:=(i:Int)) (y:=(j:Int)) A0 A0,J0,C3]
   refine ⟨A0,A0,fun z hz=>?_⟩
   rw [show ((i:Int)+(j:Int)).toNat=i+j by omega] at hz
   obtain ⟨⟨t1,t2,t3,t4,t5,t6⟩,hN⟩:=hI.step hxB hb hy hz
   have hc:=hI.2.2.1
   have e:B=4294967296:=rfl
   have et:wa .u64 (wa .u64 (wm .u64 (wc .u64 x) (wc .u64 y)) (wc .u64 z)) c=x*y+z+c:=by
    rw [P2 (x:=x) ⟨hxB.1,A0⟩,P2 (x:=y) ⟨t3,A0⟩,P2 (x:=z) ⟨t2,A0⟩,Ld ⟨t1,A0⟩,Q6 (x:=x*y) (y:=z) ⟨A0,A0⟩,Q6 ⟨A0,A0⟩]
   have hmm:=L3 (x*y+z+c) (show B≠0 by omega)
   have hmm2:=M3 (x*y+z+c) (show 0 < B by omega)
   rw [et,N8 ⟨A0,t6⟩,W6 A0,Z4 ⟨hmm,hmm2⟩,J0,K4]
   refine ⟨A0,A0,_,rfl,A0,by show wa .i64 (j:Int) 1=_; rw [U0 A0 A0]; rfl,?_⟩
   rw [show ((i:Int)+(j:Int)).toNat=i+j by omega]
   exact hN
  ·rintro ⟨o,c⟩ hI
   simp only at hI ⊢
   obtain ⟨hl,hN⟩:=hI.done hx
   have ho1:=hI.2.1
   rw [U0 (x:=(i:Int)) (y:=(b.length:Int)) A0 A0,Z4 hI.2.2.1,J0,K4]
   refine ⟨A0,A0,_,rfl,A0,by show wa .i64 (i:Int) 1=_; rw [U0 A0 A0]; rfl,?_⟩
   rw [show ((i:Int)+(b.length:Int)).toNat=i+b.length by omega]
   exact hN
 ·rintro o ⟨h1,h2,h3,h4⟩
  rw [E8] at h3
  rw [S4 h1 A0,obs]
  exact ⟨_,rfl,S3 h1,B4 _,by rw [O1]; exact h3⟩
theorem Rs {n:Int} (h0: -9223372036854775808≤n) (h1:n < 9223372036854775808):Ret (m_f4 n) (fun r=>Bg n r.1 r.2):=by
 have e:B=4294967296:=rfl
 have key:∀ u:Int,0≤u→u < 18446744073709551616→(if n < 0 then - u else u)=n→Ret (m_f3 n u) (fun r=>Bg n r.1 r.2):=by
  intro u u0 u1 hu
  unfold m_f3
  have hm:=L3 u (show B≠0 by omega)
  have hm2:=M3 u (show 0 < B by omega)
  have hd0:0≤u / B:=N5 u0 A0
  have hd1:u / B < B:=P6 A0 (by rw [e]; omega)
  have hd:=P4 u B
  rw [N8 ⟨u0,u1⟩,W6 u0,Z4 ⟨hm,hm2⟩,Z4 ⟨hd0,hd1⟩,J0]
  have hl:LW [u % B,u / B]:=by
   intro x hx
   simp only [P3,Cu,or_false] at hx
   rcases hx with rfl | rfl
   ·exact ⟨hm,hm2⟩
   ·exact ⟨hd0,hd1⟩
  refine (Q7 (decide (n < 0)) hl H0).mono fun r hr=>⟨_,rfl,hr.cast ?_⟩
  have hv:lv [u % B,u / B]=u:=by simp only [lv,w4,V7]; omega
  unfold sv
  rw [hv]
  simpa using hu
 unfold m_f4
 rw [O0]
 refine ⟨fun hneg=>?_,fun hpos=>?_⟩
 ·have e3:wneg .u64 (wc .u64 n)= - n:=by rw [wh]; unfold wneg; rw [IntKind.wrap_u64]; omega
  rw [e3]
  exact key (- n) A0 A0 (by rw [M0 hneg]; omega)
 ·rw [P2 ⟨A0,A0⟩]
  exact key n A0 A0 (by rw [K0 hpos])
theorem O7 {l:LI} (hl:LW l) {m:Nat} (h:l.length≤m):lv l < pw m:=by
 have h1:=C4 hl
 have h2:=S5 h
 omega
theorem nj {s t:Bool} {a b:LI} (ha:LW a) (hb:LW b) (hn:a.length≤400) (hm:b.length≤400):Ret (m_i0 s a t b) (fun r=>Bg (sv s a*sv t b) r.1 r.2):=by
 unfold m_i0
 rw [S4 ha A0,obs,S4 hb A0,obs,J0]
 have la:=O5 ha
 have lb:=O5 hb
 refine (Sw (S3 ha) (S3 hb) A0 A0).mono ?_
 rintro r ⟨r1,r2,r3⟩
 rw [O1,O1] at r3
 have hlen:r.length≤800:=by
  refine P7 r1 r2 ?_
  have h1:=O7 ha hn
  have h2:=O7 hb hm
  have h3:=X1 ha
  have h4:=X1 hb
  rw [r3,show (800:Nat)=400+400 from rfl,L7]
  have h5:lv a*lv b≤lv a*pw 400:=B3 A0 h3
  have h6:lv a*pw 400 < pw 400*pw 400:=qa h1 (W1 _)
  omega
 rw [J0]
 refine (Q7 (!(s == t)) r1 A0).mono fun q hq=>⟨_,rfl,hq.cast ?_⟩
 unfold sv
 rw [r3]
 cases s<;>cases t<;>simp<;>grind
theorem gu {s t:Bool} {a b:LI} (ha:LW a) (hb:LW b) (hn:a.length≤900) (hm:b.length≤900):Ret (m_i1 s a t b) (fun r=>Bg (sv s a+sv t b) r.1 r.2):=by
 unfold m_i1
 rw [S4 ha A0,obs,S4 hb A0,obs]
 have la:=O5 ha
 have lb:=O5 hb
 have ta:=B4 a
 have tb:=B4 b
 have wa':=S3 ha
 have wb':=S3 hb
 have h1:=O7 ha hn
 have h2:=O7 hb hm
 have h3:=X1 ha
 have h4:=X1 hb
 have hp:2*pw 900≤pw 901:=by
  have:=W1 900
  show 2*pw 900≤B*pw 900
  unfold B; omega
 rw [O0]
 refine ⟨fun he=>?_,fun hne=>?_⟩
 ·obtain rfl:s=t:=by simpa using he
  rw [J0]
  refine (aj wa' wb' A0 A0).mono ?_
  rintro r ⟨r1,r2,r3⟩
  rw [O1,O1] at r3
  have hlen:r.length≤901:=P7 r1 r2 A0
  rw [J0]
  refine (Q7 s r1 A0).mono fun q hq=>⟨_,rfl,hq.cast ?_⟩
  unfold sv
  rw [r3]
  cases s<;>simp<;>omega
 ·have hst:t=!s:=by cases s<;>cases t<;>simp_all
  subst hst
  rw [Fg wa' wb' ta tb A0 A0,obs,O1,O1,O0]
  refine ⟨fun hge=>?_,fun hlt=>?_⟩
  ·have hab:lv b≤lv a:=by
    refine H1 fun hc=>?_
    rw [C0] at hge; omega
   have hll:(trimL b).length≤(trimL a).length:=by
    refine H1 fun hc=>?_
    have:=z7 wa' wb' ta tb A0
    rw [O1,O1] at this; omega
   rw [J0]
   refine (minus_ok wa' wb' A0 hll (by rw [O1,O1]; exact hab)).mono ?_
   rintro r ⟨r1,r2,r3⟩
   rw [O1,O1] at r3
   have hlen:r.length≤901:=P7 r1 r2 A0
   rw [J0]
   refine (Q7 s r1 A0).mono fun q hq=>⟨_,rfl,hq.cast ?_⟩
   unfold sv
   rw [r3]
   cases s<;>simp<;>omega
  ·have hab:lv a < lv b:=by
    refine H1 fun hc=>?_
    rw [K0 hc] at hlt
    revert hlt; split<;>omega
   have hll:(trimL a).length≤(trimL b).length:=by
    refine H1 fun hc=>?_
    have:=z7 wb' wa' tb ta A0
    rw [O1,O1] at this; omega
   rw [J0]
   refine (minus_ok wb' wa' A0 hll (by rw [O1,O1]; omega)).mono ?_
   rintro r ⟨r1,r2,r3⟩
   rw [O1,O1] at r3
   have hlen:r.length≤901:=P7 r1 r2 A0
   rw [J0]
   refine (Q7 (!s) r1 A0).mono fun q hq=>⟨_,rfl,hq.cast ?_⟩
   unfold sv
   rw [r3]
   cases s<;>simp<;>omega
theorem tx {s t:Bool} {a b:LI} (ha:LW a) (hb:LW b) (hn:a.length≤900) (hm:b.length≤900):Ret (m_jf s a t b) (fun r=>Bg (sv s a - sv t b) r.1 r.2):=by
 unfold m_jf
 rw [J0]
 refine (gu (s:=s) (t:=!t) ha hb hn hm).mono fun r hr=>⟨_,rfl,hr.cast ?_⟩
 rw [Cf]; omega
theorem ae {s:Bool} {l:LI} (hl:LW l) (hn:l.length≤1000):m_ga s l=some (if sv s l < 0 then -1 else if 0 < sv s l then 1 else 0):=by
 refine Ret.eq ?_
 unfold m_ga
 rw [S4 hl A0,obs]
 have h0:=X1 hl
 have hz:=Rc (S3 hl) (B4 l)
 rw [O1] at hz
 unfold sv
 rw [O0]
 refine ⟨fun h=>⟨_,rfl,?_⟩,fun h=>?_⟩
 ·have:lv l=0:=hz.2 (U6 A0)
  rw [this]; cases s<;>simp
 ·have:lv l≠0:=fun h1=>h (by rw [hz.1 h1]; rfl)
  rw [O0]
  refine ⟨fun hs=>⟨_,rfl,?_⟩,fun hs=>⟨_,rfl,?_⟩⟩
  ·rw [M0 hs,C0]
  ·rw [K0 hs,B0,C0]
theorem R8 {l:LI} (s:Bool) (hl:LW l) (hn:l.length≤1000000):Ret (m_h s l) (fun r=>Bg (sv s l) r.1 r.2):=by
 rw [qe s hl hn]
 have h:=Bg.norm (s:=s) hl
 by_cases h0:trimL l=[]
 ·rw [M0 h0] at h
  refine ⟨_,rfl,?_⟩
  show Bg _ (s && decide ((0:Int) < ((trimL l).length:Int))) (trimL l)
  have:(s && decide ((0:Int) < ((trimL l).length:Int)))=false:=by rw [h0]; simp
  rw [this]; exact h
 ·rw [K0 h0] at h
  refine ⟨_,rfl,?_⟩
  show Bg _ (s && decide ((0:Int) < ((trimL l).length:Int))) (trimL l)
  have hp:0 < (trimL l).length:=by
   cases hL:trimL l with
   | nil=>exact absurd hL h0
   | cons a b=>simp
  have:(s && decide ((0:Int) < ((trimL l).length:Int)))=s:=by
   rw [decide_eq_true A0,Bool.and_true]
  rw [this]; exact h
theorem sA {a b:LI} (ha:LW a) (hb:LW b) (hn:a.length≤400) (hm:b.length≤400):Ret (m_c9 a b) (fun r=>LW r∧r.length=a.length+b.length∧lv r=lv a*lv b):=by
 unfold m_c9
 rw [U0 A0 A0,J0,Y5]
 refine ⟨A0,A0,?_⟩
 rw [show ((a.length:Int)+(b.length:Int)).toNat=a.length+b.length by omega,J0]
 refine (Q0 (Post:=fun o=>MO a b a.length o) a.length (fun i (s:LI×Int)=>s.2=(i:Int)∧MO a b i s.1) ⟨rfl,MO.start a b⟩ ?_ A0).mono ?_
 ·rintro i ⟨o,_⟩ hi ⟨rfl,hO⟩
  simp only at hO
  unfold m_c8
  simp only
  rw [O0]
  refine ⟨fun hlt=>?_,fun hge=>⟨_,rfl,by have e:i=a.length:=A0; subst e; exact hO⟩⟩
  obtain ⟨x,hx⟩:∃ x,a[i]?=some x:=⟨a[i]'(A0),U3 A0⟩
  have hxB:=LW.get ha hx
  rw [J0]
  refine (Q0 (Post:=fun s:LI×Int=>MI a b i b.length x s.1 s.2) b.length (fun j (s:LI×Int×Int)=>s.2.2=(j:Int)∧MI a b i j x s.1 s.2.1) ⟨rfl,hO.row x⟩ ?_ A0).mono ?_
  ·rintro j ⟨o,c,_⟩ hj ⟨rfl,hI⟩
   simp only at hI
   unfold m_c7
   simp only
   rw [O0]
   refine ⟨fun hjl=>?_,fun hge=>⟨_,rfl,by have e:j=b.length:=A0; subst e; exact hI⟩⟩
   have ho1:=hI.2.1
   rw [J0,C3]
   refine ⟨A0,hlt,fun x' hx'=>?_⟩
   rw [A1,hx] at hx'
   obtain rfl:=N3 hx'
   rw [J0,C3]
   refine ⟨A0,hjl,fun y hy=>?_⟩
   rw [A1] at hy
   rw [U0 (x:=(i:Int)) (y:=(j:Int)) A0 A0,J0,C3]
   refine ⟨A0,A0,fun z hz=>?_⟩
   rw [show ((i:Int)+(j:Int)).toNat=i+j by omega] at hz
   obtain ⟨⟨t1,t2,t3,t4,t5,t6⟩,hN⟩:=hI.step hxB hb hy hz
   have hc:=hI.2.2.1
   have e:B=4294967296:=rfl
   have et:wa .u64 (wa .u64 c (wm .u64 (wc .u64 x) (wc .u64 y))) (wc .u64 z)=x*y+z+c:=by
    rw [P2 (x:=x) ⟨hxB.1,A0⟩,P2 (x:=y) ⟨t3,A0⟩,P2 (x:=z) ⟨t2,A0⟩,Ld ⟨t1,A0⟩,Q6 (x:=c) (y:=x*y) ⟨A0,A0⟩,Q6 ⟨A0,A0⟩]
    omega
   rw [et,W6 A0,L8,J0,K4]
   refine ⟨A0,A0,_,rfl,A0,by show wa .i64 (j:Int) 1=_; rw [U0 A0 A0]; rfl,?_⟩
   rw [show ((i:Int)+(j:Int)).toNat=i+j by omega]
   exact hN
  ·rintro ⟨o,c⟩ hI
   simp only at hI ⊢
   obtain ⟨hl,hN⟩:=hI.done hx
   have ho1:=hI.2.1
   rw [U0 (x:=(i:Int)) (y:=(b.length:Int)) A0 A0,Z4 hI.2.2.1,J0,K4]
   refine ⟨A0,A0,_,rfl,A0,by show wa .i64 (i:Int) 1=_; rw [U0 A0 A0]; rfl,?_⟩
   rw [show ((i:Int)+(b.length:Int)).toNat=i+b.length by omega]
   exact hN
 ·rintro o ⟨h1,h2,h3,h4⟩
  rw [E8] at h3
  exact ⟨_,rfl,h1,h2,h3⟩
theorem Y9 {n:Int} (h0: -9223372036854775808≤n) (h1:n < 9223372036854775808):Ret (m_j n) (fun r=>Bg n r.1 r.2):=by
 have e:B=4294967296:=rfl
 have key:∀ u:Int,0≤u→u < 18446744073709551616→(if n < 0 then - u else u)=n→Ret (m_i n u) (fun r=>Bg n r.1 r.2):=by
  intro u u0 u1 hu
  unfold m_i
  have hm:=L3 u (show B≠0 by omega)
  have hm2:=M3 u (show 0 < B by omega)
  have hd0:0≤u / B:=N5 u0 A0
  have hd1:u / B < B:=P6 A0 (by rw [e]; omega)
  have hd:=P4 u B
  rw [W6 u0,L8 u,Z4 ⟨hd0,hd1⟩,J0]
  have hl:LW [u % B,u / B]:=by
   intro x hx
   simp only [P3,Cu,or_false] at hx
   rcases hx with rfl | rfl
   ·exact ⟨hm,hm2⟩
   ·exact ⟨hd0,hd1⟩
  refine (R8 (decide (n < 0)) hl H0).mono fun r hr=>⟨_,rfl,hr.cast ?_⟩
  have hv:lv [u % B,u / B]=u:=by simp only [lv,w4,V7]; omega
  unfold sv
  rw [hv]
  simpa using hu
 unfold m_j
 rw [O0]
 refine ⟨fun hneg=>?_,fun hpos=>?_⟩
 ·have e3:wa .u64 (wc .u64 (wneg .i64 (wa .i64 n 1))) 1= - n:=by
   have e4:wneg .i64 (wa .i64 n 1)= - (n+1):=by
    rw [U0 A0 A0]
    exact IntWalk.i64_in _ ⟨A0,A0⟩
   rw [e4,P2 ⟨A0,A0⟩,Q6 ⟨A0,A0⟩]; omega
  rw [e3]
  exact key (- n) A0 A0 (by rw [M0 hneg]; omega)
 ·rw [P2 ⟨A0,A0⟩]
  exact key n A0 A0 (by rw [K0 hpos])
theorem y8 {s t:Bool} {a b:LI} (ha:LW a) (hb:LW b) (hn:a.length≤400) (hm:b.length≤400):Ret (m_da s a t b) (fun r=>Bg (sv s a*sv t b) r.1 r.2):=by
 unfold m_da
 rw [Z7 ha A0,obs,Z7 hb A0,obs,J0]
 have la:=O5 ha
 have lb:=O5 hb
 refine (sA (S3 ha) (S3 hb) A0 A0).mono ?_
 rintro r ⟨r1,r2,r3⟩
 rw [O1,O1] at r3
 rw [J0]
 refine (R8 (!(s == t)) r1 A0).mono fun q hq=>⟨_,rfl,hq.cast ?_⟩
 unfold sv
 rw [r3]
 cases s<;>cases t<;>simp<;>grind
theorem ak {s t:Bool} {a b:LI} (ha:LW a) (hb:LW b) (hn:a.length≤900) (hm:b.length≤900):Ret (m_6 s a t b) (fun r=>Bg (sv s a+sv t b) r.1 r.2):=by
 unfold m_6
 rw [Z7 ha A0,obs,Z7 hb A0,obs]
 have la:=O5 ha
 have lb:=O5 hb
 have ta:=B4 a
 have tb:=B4 b
 have wa':=S3 ha
 have wb':=S3 hb
 have h3:=X1 ha
 have h4:=X1 hb
 rw [O0]
 refine ⟨fun he=>?_,fun hne=>?_⟩
 ·obtain rfl:s=t:=by simpa using he
  rw [J0]
  refine (iu wa' wb' A0 A0).mono ?_
  rintro r ⟨r1,r2,r3⟩
  rw [O1,O1] at r3
  rw [J0]
  refine (R8 s r1 A0).mono fun q hq=>⟨_,rfl,hq.cast ?_⟩
  unfold sv
  rw [r3]
  cases s<;>simp<;>omega
 ·have hst:t=!s:=by cases s<;>cases t<;>simp_all
  subst hst
  rw [Wj wa' wb' ta tb A0 A0,obs,O1,O1,O0]
  refine ⟨fun hge=>?_,fun hlt=>?_⟩
  ·have hab:lv b≤lv a:=by
    refine H1 fun hc=>?_
    rw [C0] at hge; omega
   have hll:(trimL b).length≤(trimL a).length:=by
    refine H1 fun hc=>?_
    have:=z7 wa' wb' ta tb A0
    rw [O1,O1] at this; omega
   rw [J0]
   refine (Ef wa' wb' A0 hll (by rw [O1,O1]; exact hab)).mono ?_
   rintro r ⟨r1,r2,r3⟩
   rw [O1,O1] at r3
   rw [J0]
   refine (R8 s r1 A0).mono fun q hq=>⟨_,rfl,hq.cast ?_⟩
   unfold sv
   rw [r3]
   cases s<;>simp<;>omega
  ·have hab:lv a < lv b:=by
    refine H1 fun hc=>?_
    rw [K0 hc] at hlt
    revert hlt; split<;>omega
   have hll:(trimL a).length≤(trimL b).length:=by
    refine H1 fun hc=>?_
    have:=z7 wb' wa' tb ta A0
    rw [O1,O1] at this; omega
   rw [J0]
   refine (Ef wb' wa' A0 hll (by rw [O1,O1]; omega)).mono ?_
   rintro r ⟨r1,r2,r3⟩
   rw [O1,O1] at r3
   rw [J0]
   refine (R8 (!s) r1 A0).mono fun q hq=>⟨_,rfl,hq.cast ?_⟩
   unfold sv
   rw [r3]
   cases s<;>simp<;>omega
theorem ij {s:Bool} {a:LI} (ha:LW a) (hn:a.length≤1000000):Ret (m_w s a) (fun r=>Bg (- sv s a) r.1 r.2∧r.2.length≤a.length):=by
 unfold m_w
 rw [J0]
 have h:=qe (!s) ha hn
 obtain ⟨q,hq,hB⟩:=R8 (!s) ha hn
 refine ⟨q,hq,_,rfl,hB.cast (Cf s a),?_⟩
 rw [h] at hq
 obtain rfl:=N3 hq
 exact O5 ha
theorem gq {s t:Bool} {a b:LI} (ha:LW a) (hb:LW b) (hn:a.length≤900) (hm:b.length≤900):Ret (m_7 s a t b) (fun r=>Bg (sv s a - sv t b) r.1 r.2):=by
 unfold m_7
 rw [J0]
 refine (ij (s:=t) hb A0).mono ?_
 rintro q ⟨hq,hl⟩
 rw [J0]
 refine (ak (s:=s) (t:=q.1) ha hq.1 hn A0).mono fun r hr=>⟨_,rfl,hr.cast ?_⟩
 rw [hq.sv]; omega
theorem Qb {v:Int} {s:Bool} {l:LI} (h:Bg v s l) (hn:l.length≤1000):m_bj s l=some (if v < 0 then -1 else if 0 < v then 1 else 0):=by
 rw [Nx s h.1 h.2.1 hn]
 have h0:=X1 h.1
 have hz:=Rc h.1 h.2.1
 have ha:=h.abs
 have hg:=h.neg
 by_cases hv:v < 0
 ·rw [K0 (fun e=>by rw [hz.2 e] at ha; split at ha<;>omega),M0 (hg.2 hv),M0 hv]
 ·rw [K0 hv] at ha ⊢
  by_cases hp:0 < v
  ·rw [M0 hp,K0 (fun e=>by rw [hz.2 e] at ha; omega),K0 (fun e=>hv (hg.1 e))]
  ·rw [K0 hp,M0 (hz.1 A0)]
theorem CE {l:LI} (hl:l.length≤1000):m_kw l l=some true:=by
 refine Ret.eq ?_
 unfold m_kw
 rw [M0 rfl,J0]
 refine (Q0 (Post:=fun o=>o=.inl ()) l.length (fun k (i:Int)=>i=(k:Int)) rfl ?_ A0).mono ?_
 ·rintro k _ hk rfl
  unfold m_kv
  rw [O0]
  refine ⟨fun hlt=>?_,fun hge=>⟨_,rfl,rfl⟩⟩
  rw [J0,C3]
  refine ⟨A0,hlt,fun x hx=>?_⟩
  rw [J0,C3]
  refine ⟨A0,hlt,fun y hy=>?_⟩
  obtain rfl:=N3 (hx.symm.trans hy)
  rw [M0 rfl]
  refine ⟨_,rfl,A0,?_⟩
  show wa .i64 (k:Int) 1=_
  rw [U0 A0 A0]; rfl
 ·rintro _ rfl
  exact ⟨_,rfl,rfl⟩
theorem Ig {x:Int} (h:0≤x∧x < 4294967296):(BitVec.ofInt 32 x).toNat=x.toNat:=by
 rw [BitVec.toNat_ofInt]
 have:x % ((2 ^ 32:Nat):Int)=x:=Y4 h.1 (by exact h.2)
 rw [this]
theorem xw {s:Nat} {c k:Int} (hs:s < 32) (hc:0≤c∧c < 2 ^ s) (hk:0≤k) (hb:c+2 ^ s*k < 4294967296):wor .u32 c (2 ^ s*k)=c+2 ^ s*k:=by
 obtain ⟨C,rfl⟩:=W5 hc.1
 obtain ⟨K,rfl⟩:=W5 hk
 have hC:C < 2 ^ s:=by exact_mod_cast hc.2
 have e2:((2:Int) ^ s*(K:Int))=((2 ^ s*K:Nat):Int):=by push_cast; rfl
 rw [e2] at hb ⊢
 unfold wor
 have e3:(BitVec.ofInt 32 (C:Int) ||| BitVec.ofInt 32 ((2 ^ s*K:Nat):Int)).toNat=2 ^ s*K+C:=by
  rw [BitVec.toNat_or,Ig A0,Ig A0,A1,A1,Ak,← pc hC]
 show IntKind.u32.wrap ((BitVec.ofInt 32 (C:Int) ||| BitVec.ofInt 32 ((2 ^ s*K:Nat):Int)).toNat:Int)=_
 rw [e3,IntKind.wrap_u32]
 omega
theorem Tx {s:Nat} (hs:s < 32) {x:Int} (hx:0≤x∧x < B):∃ k,0≤k∧x*2 ^ s % B=2 ^ s*k∧2 ^ s*k+2 ^ s≤B∧0≤x*2 ^ s / B∧x*2 ^ s / B < 2 ^ s:=by
 obtain ⟨h1,h2,h3,h4⟩:=Y7 hs
 have e:x*2 ^ s % B=2 ^ s*(x % 2 ^ (32 - s)):=by
  rw [← h3,I2 x,Int.mul_emod_mul_of_pos _ _ h1]
 have m0:=L3 x (show (2:Int) ^ (32 - s)≠0 by omega)
 have m1:=M3 x h4
 refine ⟨x % 2 ^ (32 - s),m0,e,?_,N5 (K3 hx.1 A0) (by unfold B; omega),?_⟩
 ·have:2 ^ s*(x % 2 ^ (32 - s)+1)≤2 ^ s*2 ^ (32 - s):=B3 A0 A0
  rw [O6,h3,C6] at this
  exact this
 ·refine P6 (by unfold B; omega) ?_
  rw [I2]
  exact Int.mul_lt_mul_of_pos_left hx.2 h1
theorem Jp {a:LI} (ha:LW a) (hn:a.length≤1000) (hne:a≠[]) {q s:Nat} (hq1:q≤1000) (hs:s < 32):Ret (m_gg a ((32*q+s:Nat):Int)) (fun u=>LW u∧Tm u∧lv u=lv a*(pw q*2 ^ s)):=by
 have e:B=4294967296:=rfl
 obtain ⟨hq,hr⟩:=Pg (q:=q) A0 hs
 obtain ⟨p1,p2,p3,p4⟩:=Y7 hs
 have hal:0 < a.length:=Cb.2 hne
 unfold m_gg
 rw [B0,hq,U0 (x:=(q:Int)) (y:=(a.length:Int)) A0 A0,U0 A0 A0,J0,Y5]
 refine ⟨A0,A0,?_⟩
 rw [show ((q:Int)+(a.length:Int)+1).toNat=q+a.length+1 by omega,J0]
 refine (Q0 (Post:=fun o:LI=>LW o∧o.length=q+a.length+1∧lv o=pw q*(lv a*2 ^ s)) a.length (fun i (t:LI×Int)=>t.2=(i:Int)∧LW t.1∧t.1.length=q+a.length+1∧lv t.1=pw q*(lv (a.take i)*2 ^ s)∧t.1.drop (q+i+1)=List.replicate (a.length - i) 0∧(∀ x,t.1[q+i]?=some x→x < 2 ^ s)) ⟨rfl,ib _,B5 ..,by rw [re,Zg]; simp [lv],by rw [Dd]; congr 1; omega,fun x hx=>by rw [Db] at hx; split at hx<;>simp at hx; omega⟩ ?_ A0).mono ?_
 ·rintro i ⟨o,_⟩ hi ⟨rfl,h1,h2,h3,h4,h5⟩
  simp only at h1 h2 h3 h4 h5
  unfold m_gf
  simp only
  rw [O0]
  refine ⟨fun hlt=>?_,fun hge=>⟨_,rfl,h1,h2,by have ei:i=a.length:=A0; subst ei; rw [E8] at h3; exact h3⟩⟩
  have hia:i < a.length:=A0
  rw [J0,C3]
  refine ⟨A0,hlt,fun x hx=>?_⟩
  rw [A1] at hx
  have hxB:=LW.get ha hx
  have hx2:0≤x*2 ^ s:=K3 hxB.1 A0
  have hx3:x*2 ^ s≤(B - 1)*2 ^ s:=X2 A0 A0
  have hx4:(B - 1)*2 ^ s≤(B - 1)*2147483648:=B3 p2 A0
  have hsh:wshl .u64 (wc .u64 x) (wc .u64 (s:Int))=some (x*2 ^ s):=by
   rw [P2 ⟨hxB.1,A0⟩,P2 (x:=(s:Int)) ⟨A0,A0⟩]
   unfold wshl
   rw [B0,A1]
   show some (IntKind.u64.wrap (x*2 ^ min s 64))=_
   rw [G6 A0,IntWalk.u64_in _ ⟨hx2,A0⟩]
  obtain ⟨k,k0,k1,k2,k3,k4⟩:=Tx hs hxB
  have hd:=P4 (x*2 ^ s) B
  have hmm:=L3 (x*2 ^ s) (show B≠0 by omega)
  have eqi:wa .i64 (q:Int) (i:Int)=((q+i:Nat):Int):=by rw [U0 A0 A0]; omega
  rw [hq,hr,hsh,obs,eqi,J0,C3]
  refine ⟨A0,A0,fun y hy=>?_⟩
  rw [A1] at hy
  have hyB:=LW.get h1 hy
  have hys:=h5 y hy
  rw [N8 ⟨hx2,A0⟩,W6 hx2,Z4 ⟨k3,A0⟩,Z4 (x:=x*2 ^ s % B) ⟨A0,A0⟩]
  have hor:wor .u32 y (x*2 ^ s % B)=y+x*2 ^ s % B:=by rw [k1]; exact xw hs ⟨hyB.1,hys⟩ k0 A0
  rw [hor,J0,K4,A1]
  refine ⟨A0,A0,?_⟩
  have ew:wa .i64 ((q+i:Nat):Int) 1=((q+i+1:Nat):Int):=by rw [U0 A0 A0]; omega
  rw [ew,J0,K4,A1]
  have hl1:(o.set (q+i) (y+x*2 ^ s % B)).length=q+a.length+1:=by rw [O3,h2]
  have hz:(o.set (q+i) (y+x*2 ^ s % B))[q+i+1]?=some 0:=by
   rw [H6 A0]
   have e1:(o.drop (q+i+1))[0]?=o[q+i+1]?:=by rw [G8]
   rw [← e1,h4,Db,C0]
  refine ⟨A0,A0,_,rfl,hia,?_,?_,?_,?_,?_,?_⟩
  ·show wa .i64 (i:Int) 1=_
   rw [U0 A0 A0]; rfl
  ·exact S8 (S8 h1 ⟨A0,A0⟩) ⟨k3,A0⟩
  ·show ((o.set (q+i) (y+x*2 ^ s % B)).set (q+i+1) _).length=_
   rw [O3,hl1]
  ·show lv ((o.set (q+i) (y+x*2 ^ s % B)).set (q+i+1) (x*2 ^ s / B))=_
   have pq:pw (q+i)=pw q*pw i:=L7 q i
   have pq1:pw (q+i+1)=pw q*pw i*B:=by show B*pw (q+i)=_; rw [pq,I2]
   rw [eg hz,eg hy,h3,M4 hx,pq,pq1]
   have e3:B*(x*2 ^ s / B)+x*2 ^ s % B=x*2 ^ s:=hd
   generalize x*2 ^ s / B=Q at*
   generalize x*2 ^ s % B=r at*
   have e4:pw q*((lv (a.take i)+pw i*x)*2 ^ s)=pw q*(lv (a.take i)*2 ^ s)+pw q*pw i*(x*2 ^ s):=by grind
   rw [e4,← e3]
   grind
  ·show ((o.set (q+i) (y+x*2 ^ s % B)).set (q+i+1) (x*2 ^ s / B)).drop (q+(i+1)+1)=_
   rw [Eb A0,Eb A0,show q+(i+1)+1=q+i+1+1 by omega,← na,h4,Dd]
   congr 1
  ·intro z hz2
   have hz2:((o.set (q+i) (y+x*2 ^ s % B)).set (q+i+1) (x*2 ^ s / B))[q+i+1]?=some z:=hz2
   rw [G5 A0] at hz2
   obtain rfl:=N3 hz2
   exact k4
 ·rintro o ⟨h1,h2,h3⟩
  rw [S4 h1 A0,obs]
  exact ⟨_,rfl,S3 h1,B4 _,by rw [O1,h3]; grind⟩
theorem Ip {a:LI} (ha:LW a) (hn:a.length≤1000) (hne:a≠[]) {s:Nat} (hs:s < 32):Ret (m_gg a (s:Int)) (fun u=>LW u∧Tm u∧lv u=lv a*2 ^ s):=by
 have:=Jp ha hn hne (q:=0) A0 hs
 rw [show 32*0+s=s by omega] at this
 exact this.mono fun u hu=>⟨hu.1,hu.2.1,by rw [hu.2.2]; show _*(1*_)=_; rw [E4]⟩
theorem qq {s:Nat} (hs:s < 32) {x y E:Int} (hx:0≤x∧x < B) (hy:0≤y):(x+B*(y+B*E)) / 2 ^ s=((x+B*y) / 2 ^ s) % B+B*((y+B*E) / 2 ^ s):=by
 obtain ⟨p1,p2,p3,p4⟩:=Y7 hs
 have e:B=4294967296:=rfl
 generalize hP:(2:Int) ^ s=P at*
 generalize hQ:(2:Int) ^ (32 - s)=Q at*
 have hy1:=P4 y P
 have r0:=L3 y (show P≠0 by omega)
 have r1:=M3 y p1
 generalize hk:y / P=k at*
 generalize hr:y % P=r at*
 have w0:0≤B*r:=K3 A0 r0
 have hA:(y+B*E) / P=k+Q*E:=by
  have e1:y+B*E=r+P*(k+Q*E):=by rw [← hy1,← p3]; grind
  rw [e1,Al _ _ A0,Va r0 r1]; omega
 have hBq:(x+B*y) / P=(x+B*r) / P+B*k:=by
  have e1:x+B*y=(x+B*r)+P*(B*k):=by rw [← hy1]; grind
  rw [e1,Al _ _ A0]
 have hC:(x+B*(y+B*E)) / P=(x+B*r) / P+B*(k+Q*E):=by
  have e1:x+B*(y+B*E)=(x+B*r)+P*(B*(k+Q*E)):=by rw [← hy1]; have:B*E=P*(Q*E):=(by rw [← p3]; grind); rw [this]; grind
  rw [e1,Al _ _ A0]
 have q0:0≤(x+B*r) / P:=N5 A0 A0
 have q1:(x+B*r) / P < B:=by
  refine P6 A0 ?_
  have:B*(r+1)≤B*P:=B3 A0 A0
  rw [O6,C6] at this
  omega
 rw [hA,hBq,hC,yl,Y4 q0 q1]
theorem T5 {l:LI} {i:Nat} {x:Int} (hx:l[i]?=some x):lv (l.drop i)=x+B*lv (l.drop (i+1)):=by
 obtain ⟨h1,h2⟩:=S2.1 hx
 rw [Ta h1,h2]; rfl
theorem LW.drop {l:LI} (h:LW l) (k:Nat):LW (l.drop k):=fun x hx=>h x (List.mem_of_mem_drop hx)
theorem J7 (l:LI) {k:Nat} (h:k≤l.length):lv l=lv (l.take k)+pw k*lv (l.drop k):=by
 have h1:lv l=lv (l.take k++l.drop k):=by rw [Ab]
 rw [h1,kb,Z3,G6 h]
theorem vB {l:LI} (hl:l.length≤100000):∃ b,m_gk l=some b∧((∀ x,x∈l→x=0)→b=false):=by
 have h1:Ret (loop (m_gi l) 0) (fun o=>(∀ x,x∈l→x=0)→o=.inl ()):=by
  refine Q0 l.length (fun k (i:Int)=>i=(k:Int)) rfl ?_ A0
  rintro k _ hk rfl
  unfold m_gi
  rw [O0]
  refine ⟨fun hlt=>?_,fun _=>⟨_,rfl,fun _=>rfl⟩⟩
  rw [J0,C3]
  refine ⟨A0,A0,fun x hx=>?_⟩
  have e1:m_gh x=some (!(decide (x=0))):=rfl
  rw [e1,obs,O0]
  refine ⟨fun h2=>⟨_,rfl,fun h3=>?_⟩,fun _=>⟨_,rfl,A0,by rw [U0 A0 A0]; rfl⟩⟩
  have:=h3 x (U9 hx)
  simp [this] at h2
 obtain ⟨o,h2,h3⟩:=h1
 unfold m_gk m_gj
 rw [h2,obs]
 cases o with
 | inl u=>exact ⟨_,rfl,fun _=>rfl⟩
 | inr i=>exact ⟨_,rfl,fun h=>by cases h3 h⟩
theorem GA {l:LI} (hl:LW l) (h:lv l=0):∀ x,x∈l→x=0:=by
 induction l with
 | nil=>intro x hx; cases hx
 | cons y l ih=>
  have h1:y+B*lv l=0:=h
  have hy:=hl y (Ad ..)
  have hl':LW l:=fun x hx=>hl x (Cd _ hx)
  have h2:=X1 hl'
  have h3:lv l=0:=by unfold B at *; omega
  intro x hx
  rcases P3.1 hx with rfl | hx
  ·rw [h3] at h1; omega
  ·exact ih hl' h3 x hx
theorem yg {a:LI} (ha:LW a) {q s:Nat} (hs:s < 32) (hq:q < a.length) (h:lv a % (pw q*2 ^ s)=0):(∀ x,x∈a.take q→x=0)∧∀ x,a[q]?=some x→x % 2 ^ s=0:=by
 obtain ⟨p1,p2,p3,p4⟩:=Y7 hs
 obtain ⟨k,hk⟩:=tl h
 have h1:=J7 a (k:=q) A0
 have hb:=C4 (LW.take ha q)
 rw [Z3,G6 A0] at hb
 have hnn:=X1 (LW.take ha q)
 have e1:lv (a.take q)=pw q*(2 ^ s*k - lv (a.drop q)):=by
  have:pw q*2 ^ s*k=pw q*(2 ^ s*k):=N6 ..
  rw [C9,← this]; omega
 have e2:lv (a.take q)=0:=by
  have p:=W1 q
  rcases Int.lt_trichotomy (2 ^ s*k - lv (a.drop q)) 0 with hc | hc | hc
  ·have:=Ru p hc; omega
  ·rw [e1,hc,w4]
  ·have:pw q*1≤pw q*(2 ^ s*k - lv (a.drop q)):=B3 A0 A0
   omega
 refine ⟨GA (LW.take ha q) e2,fun x hx=>?_⟩
 rw [e2] at e1
 have e3:2 ^ s*k - lv (a.drop q)=0:=by
  rcases L4.1 e1.symm with h | h
  ·have:=W1 q; omega
  ·exact h
 rw [T5 hx] at e3
 have e4:x=2 ^ s*(k - 2 ^ (32 - s)*lv (a.drop (q+1))):=by
  have:B*lv (a.drop (q+1))=2 ^ s*(2 ^ (32 - s)*lv (a.drop (q+1))):=by rw [← p3]; grind
  rw [C9,← this]; omega
 rw [e4]
 exact Int.mul_emod_right _ _
theorem jm {x:Int} {s:Nat} (hs:s < 32) (hx:0≤x∧x < B) (h:x % 2 ^ s=0):wand .u32 x (ws .u32 (2 ^ s) 1)=0:=by
 obtain ⟨p1,p2,p3,p4⟩:=Y7 hs
 have e1:ws .u32 (2 ^ s) 1=((2 ^ s - 1:Nat):Int):=by
  unfold ws
  rw [IntKind.wrap_u32]
  have e2:((2 ^ s:Nat):Int)=(2:Int) ^ s:=by push_cast; rfl
  have:0 < 2 ^ s:=Nat.two_pow_pos s
  omega
 have hX:((x.toNat:Nat):Int)=x:=Me hx.1
 have h0:x.toNat % 2 ^ s=0:=by
  have:((x.toNat % 2 ^ s:Nat):Int)=0:=by push_cast; rw [hX]; exact h
  omega
 have hlt:2 ^ s - 1 < 4294967296:=by
  have:(2:Nat) ^ s≤2 ^ 31:=Vg A0 A0
  omega
 rw [e1]
 unfold wand
 show IntKind.u32.wrap ((BitVec.ofInt 32 x &&& BitVec.ofInt 32 ((2 ^ s - 1:Nat):Int)).toNat:Int)=_
 rw [BitVec.toNat_and,Ig hx,Ig ⟨A0,A0⟩,A1,vd,h0]
 rfl
theorem zq {s:Nat} (hs:s < 32):wshl .u32 1 (s:Int)=some (2 ^ s):=by
 obtain ⟨p1,p2,p3,p4⟩:=Y7 hs
 unfold wshl
 rw [B0,A1]
 show some (IntKind.u32.wrap (1*2 ^ min s 32))=_
 rw [G6 A0,E4,IntKind.wrap_u32]
 congr 1
 omega
theorem Kt {a:LI} (ha:LW a) {q:Nat} (hq:q≤a.length) (s:Nat):lv a / (pw q*2 ^ s)=lv (a.drop q) / 2 ^ s:=by
 have h1:=J7 a hq
 have hb:=C4 (LW.take ha q)
 rw [Z3,G6 hq] at hb
 have hnn:=X1 (LW.take ha q)
 rw [← Int.ediv_ediv_of_nonneg (U7 (W1 q)),h1,Al _ _ (by have:=W1 q; omega),Va hnn hb,Le]
theorem Gt {a:LI} (ha:LW a) (hn:a.length≤1000) {q s:Nat} (hq1:q≤1000000) (hs:s < 32):Ret (m_gn a ((32*q+s:Nat):Int)) (fun r=>LW r.1∧Tm r.1∧lv r.1=lv a / (pw q*2 ^ s)∧(Tm a→lv a % (pw q*2 ^ s)=0→r.2=false)):=by
 have e:B=4294967296:=rfl
 obtain ⟨hq,hr⟩:=Pg hq1 hs
 obtain ⟨p1,p2,p3,p4⟩:=Y7 hs
 have ppos:=W1 q
 unfold m_gn
 rw [hq,O0]
 refine ⟨fun h0=>?_,fun h0=>?_⟩
 ·have hb:=C4 ha
  have hle:pw a.length≤pw q:=S5 A0
  have hle2:pw q*1≤pw q*2 ^ s:=B3 A0 A0
  have hz:lv a / (pw q*2 ^ s)=0:=Va (X1 ha) A0
  refine ⟨_,rfl,by intro x hx; simp at hx,O8,hz.symm,fun ht hm=>?_⟩
  rw [Y4 (X1 ha) A0] at hm
  have:=Za ha (b:=[]) (by intro x hx; cases hx) ht O8 hm
  subst this
  rfl
 have hqa:q < a.length:=A0
 have hsl:sli a 0 (q:Int)=some (a.take q):=by unfold sli subL; rw [M0 ⟨A0,A0,A0⟩]; simp
 obtain ⟨b1,hb1,hb2⟩:=vB (l:=a.take q) (by rw [Z3]; omega)
 obtain ⟨x0,hx0⟩:∃ x0,a[q]?=some x0:=⟨a[q]'hqa,U3 hqa⟩
 have hx0B:=LW.get ha hx0
 have hg0:getI a (q:Int)=some x0:=Ret.eq (by rw [C3]; exact ⟨A0,A0,fun x hx=>by rw [A1] at hx; exact N3 (hx.symm.trans hx0)⟩)
 have hlost:∃ b2,(if b1=true then some true else (getI a (q:Int)).bind fun x12=>(wshl .u32 1 (wc .u64 (wrc ((32*q+s:Nat):Int) 32))).bind fun x13=>some (!(decide ((wand .u32 x12 (ws .u32 x13 1))=0))))=some b2∧(lv a % (pw q*2 ^ s)=0→b2=false):=by
  split
  ·rename_i h1
   refine ⟨_,rfl,fun hm=>?_⟩
   rw [hb2 (yg ha hs hqa hm).1] at h1; cases h1
  ·rw [hg0,obs,hr,P2 (x:=(s:Int)) ⟨A0,A0⟩,zq hs,obs]
   refine ⟨_,rfl,fun hm=>?_⟩
   rw [jm hs hx0B ((yg ha hs hqa hm).2 x0 hx0)]; rfl
 obtain ⟨b2,hb3,hb4⟩:=hlost
 rw [hsl,obs,hb1,obs,hb3,obs,J0,V2 A0 A0,Y5]
 refine ⟨A0,A0,?_⟩
 rw [show ((a.length:Int) - (q:Int)).toNat=a.length - q by omega,J0]
 have hdv:=Kt ha (q:=q) A0 s
 refine (Q0 (Post:=fun o:LI=>LW o∧o.length=a.length - q∧lv o=lv a / (pw q*2 ^ s)) (a.length - q) (fun i (t:LI×Int)=>t.2=(i:Int)∧LW t.1∧t.1.length=a.length - q∧lv (t.1.take i)+pw i*(lv (a.drop (q+i)) / 2 ^ s)=lv a / (pw q*2 ^ s)) ⟨rfl,ib _,B5 ..,by rw [hdv]; simp [lv,pw]⟩ ?_ A0).mono ?_
 ·rintro i ⟨o,_⟩ hi ⟨rfl,h1,h2,h3⟩
  simp only at h1 h2 h3
  unfold m_gm
  simp only
  rw [B5,O0]
  refine ⟨fun hlt=>?_,fun hge=>⟨_,rfl,h1,h2,?_⟩⟩
  ·have hia:q+i < a.length:=A0
   have eqi:wa .i64 (q:Int) (i:Int)=((q+i:Nat):Int):=by rw [U0 A0 A0]; omega
   have eqj:wa .i64 ((q+i:Nat):Int) 1=((q+i+1:Nat):Int):=by rw [U0 A0 A0]; omega
   rw [hq,eqi,eqj,J0,C3]
   refine ⟨A0,A0,fun x hx=>?_⟩
   rw [A1] at hx
   have hxB:=LW.get ha hx
   have key:∀ y E:Int,0≤y→y < B→0≤E→lv (a.drop (q+i+1))=y+B*E→Ret (m_gl ((32*q+s:Nat):Int) o (i:Int) (x+B*y)) (VQ (fun t':LI×Int=>i < a.length - q∧t'.2=((i+1:Nat):Int)∧LW t'.1∧t'.1.length=a.length - q∧lv (t'.1.take (i+1))+pw (i+1)*(lv (a.drop (q+(i+1))) / 2 ^ s)=lv a / (pw q*2 ^ s)) (fun o:LI=>LW o∧o.length=a.length - q∧lv o=lv a / (pw q*2 ^ s))):=by
    intro y E y0 y1 E0 hE
    unfold m_gl
    have t0:0≤x+B*y:=by have:=K3 (show 0≤B by omega) y0; omega
    have t1:x+B*y < 18446744073709551616:=by rw [e]; omega
    have hsh:wshr .u64 (x+B*y) (wc .u64 (wrc ((32*q+s:Nat):Int) 32))=some ((x+B*y) / 2 ^ s):=by
     rw [hr,P2 (x:=(s:Int)) ⟨A0,A0⟩]
     unfold wshr
     rw [B0,A1]
     show some (Int.fdiv _ (2 ^ min s 64))=_
     rw [G6 A0,Gd _ A0]
    have d0:0≤(x+B*y) / 2 ^ s:=N5 t0 A0
    have d1:(x+B*y) / 2 ^ s≤x+B*y:=Hd _ t0
    have hm:=L3 ((x+B*y) / 2 ^ s) (show B≠0 by omega)
    have hm2:=M3 ((x+B*y) / 2 ^ s) (show 0 < B by omega)
    rw [hsh,obs,N8 ⟨d0,A0⟩,Z4 ⟨hm,hm2⟩,J0,K4,A1]
    refine ⟨A0,A0,_,rfl,A0,by show wa .i64 (i:Int) 1=_; rw [U0 A0 A0]; rfl,S8 h1 ⟨hm,hm2⟩,by show (o.set i _).length=_; rw [O3,h2],?_⟩
    show lv ((o.set i ((x+B*y) / 2 ^ s % B)).take (i+1))+pw (i+1)*(lv (a.drop (q+i+1)) / 2 ^ s)=_
    have hs2:(o.set i ((x+B*y) / 2 ^ s % B))[i]?=some ((x+B*y) / 2 ^ s % B):=by rw [G5]; omega
    rw [M4 hs2,Hk,Ok (by rw [Z3]; omega),← h3,T5 hx,hE,qq hs hxB y0]
    simp only [pw]
    generalize (x+B*y) / 2 ^ s % B=u
    generalize (y+B*E) / 2 ^ s=v
    grind
   have hcx:wc .u64 x=x:=P2 ⟨hxB.1,A0⟩
   rw [O0]
   refine ⟨fun hl2=>?_,fun hl2=>?_⟩
   ·rw [J0,C3]
    refine ⟨A0,A0,fun y hy=>?_⟩
    rw [A1] at hy
    have hyB:=LW.get ha hy
    have hor:wor .u64 (wc .u64 x) (wslc .u64 (wc .u64 y) 32)=x+B*y:=by
     rw [hcx,P2 (x:=y) ⟨hyB.1,A0⟩,Hc hyB]
     have:wor .u64 x (y*B)=wor .u64 (y*B) x:=by unfold wor; rw [BitVec.or_comm]
     rw [this,Q9 hyB hxB,I2]; omega
    rw [hor]
    exact key y (lv (a.drop (q+i+1+1))) hyB.1 hyB.2 (X1 (LW.drop ha _)) (T5 hy)
   ·have hE:lv (a.drop (q+i+1))=0:=by rw [O9 A0]; rfl
    have:=key 0 0 A0 A0 A0 (by rw [hE]; rfl)
    rw [w4,V7] at this
    rw [hcx]
    exact this
  ·have ei:i=a.length - q:=A0
   subst ei
   rw [show q+(a.length - q)=a.length by omega,Zk,P5 A0] at h3
   show lv o=_
   rw [← h3]
   show lv o=lv o+pw (a.length - q)*(0 / 2 ^ s)
   rw [al]; omega
 ·rintro o ⟨h1,h2,h3⟩
  rw [S4 h1 A0,obs]
  exact ⟨_,rfl,S3 h1,B4 _,by rw [O1]; exact h3,fun _ hm=>hb4 hm⟩
theorem zC {a:LI} (ha:LW a) (hn:a.length≤1000) {s:Nat} (hs:s < 32):Ret (m_gn a (s:Int)) (fun r=>LW r.1∧Tm r.1∧lv r.1=lv a / 2 ^ s):=by
 have:=Gt ha hn (q:=0) A0 hs
 rw [show 32*0+s=s by omega] at this
 exact this.mono fun u hu=>⟨hu.1,hu.2.1,by rw [hu.2.2.1]; show _ / (1*_)=_; rw [E4]⟩
theorem Py {A W Z:LI} {lo hi i:Int} (hlo:lo=(A.length:Int)) (hhi:hi=(A.length:Int)+W.length) {Q:Int→Prop}:Ret (getW (A++W++Z) lo hi i) Q=(0≤i∧i < W.length∧∀ x,W[i.toNat]?=some x→Q x):=by
 subst hlo hhi
 unfold getW
 by_cases h:0≤i∧i < W.length
 ·rw [M0 ⟨A0,h.1,A0,by simp only [P1]; omega⟩,C3]
  have e1:(A++W++Z)[((A.length:Int)+i).toNat]?=W[i.toNat]?:=by
   rw [show ((A.length:Int)+i).toNat=A.length+i.toNat by omega,T7,I6 A0,xu,B6 A0]
  rw [e1]
  apply propext
  constructor
  ·rintro ⟨_,_,h3⟩; exact ⟨h.1,h.2,h3⟩
  ·rintro ⟨_,_,h3⟩; exact ⟨A0,by simp only [P1]; omega,h3⟩
 ·rw [K0 (by rintro ⟨_,h1,h2,_⟩; exact h ⟨h1,A0⟩),Xq]
  apply propext
  exact ⟨False.elim,fun ⟨h1,h2,_⟩=>h ⟨h1,h2⟩⟩
theorem Ny {A W Z:LI} {lo hi i z:Int} (hlo:lo=(A.length:Int)) (hhi:hi=(A.length:Int)+W.length) {Q:LI→Prop}:Ret (setW (A++W++Z) lo hi i z) Q=(0≤i∧i < W.length∧Q (A++W.set i.toNat z++Z)):=by
 subst hlo hhi
 unfold setW
 by_cases h:0≤i∧i < W.length
 ·rw [M0 ⟨A0,h.1,A0,by simp only [P1]; omega⟩,K4]
  have e1:(A++W++Z).set ((A.length:Int)+i).toNat z=A++W.set i.toNat z++Z:=by
   rw [show ((A.length:Int)+i).toNat=A.length+i.toNat by omega,T7,zu _ _ A0,xu,List.set_append_left _ _ A0,T7]
  rw [e1]
  apply propext
  constructor
  ·rintro ⟨_,_,h3⟩; exact ⟨h.1,h.2,h3⟩
  ·rintro ⟨_,_,h3⟩; exact ⟨A0,by simp only [P1]; omega,h3⟩
 ·rw [K0 (by rintro ⟨_,h1,h2,_⟩; exact h ⟨h1,A0⟩),Xq]
  apply propext
  exact ⟨False.elim,fun ⟨h1,h2,_⟩=>h ⟨h1,h2⟩⟩
structure KD (U V S us vs w1 w2 wt v2 vt Q:Int):Prop where
 hS:0 < S
 hv:V=(vt*B+v2)*S+vs
 hvs:0≤vs∧vs < S
 hv2:0≤v2∧v2 < B
 hvt:2147483648≤vt∧vt < B
 hu:U=((wt*B+w1)*B+w2)*S+us
 hus:0≤us∧us < S
 hw2:0≤w2∧w2 < B
 hw1:0≤w1∧w1 < B
 hwt:0≤wt∧wt < B
 hlt:U < V*B
 hq:Qt U V Q
section
variable {U V S us vs w1 w2 wt v2 vt Q:Int}
theorem KD.vpos (h:KD U V S us vs w1 w2 wt v2 vt Q):S*B≤V:=by
 have e:B=4294967296:=rfl
 have h1:=h.hv
 have hS:=h.hS
 have h2:=h.hvt
 have h3:=h.hv2
 have h4:1*B≤vt*B:=X2 A0 A0
 have h5:B*S≤(vt*B+v2)*S:=X2 A0 A0
 have h6:=h.hvs
 rw [I2 S B]; omega
theorem KD.v0 (h:KD U V S us vs w1 w2 wt v2 vt Q):0 < V:=by
 have h1:=h.vpos
 have h2:0 < S*B:=Ed h.hS (by unfold B; omega)
 omega
theorem KD.u0 (h:KD U V S us vs w1 w2 wt v2 vt Q):0≤U:=by
 have h1:=h.hwt.1
 have h2:=h.hw1.1
 have h3:=h.hw2.1
 have h4:0≤wt*B:=K3 h1 (by unfold B; omega)
 have h5:0≤(wt*B+w1)*B:=K3 A0 (by unfold B; omega)
 have h6:0≤((wt*B+w1)*B+w2)*S:=K3 A0 (by have:=h.hS; omega)
 have:=h.hus.1
 rw [h.hu]; omega
theorem KD.q0 (h:KD U V S us vs w1 w2 wt v2 vt Q):0≤Q:=h.hq.nn h.v0 h.u0
theorem KD.qB (h:KD U V S us vs w1 w2 wt v2 vt Q):Q < B:=h.hq.lt_of h.v0 (by rw [I2]; exact h.hlt)
theorem KD.top (h:KD U V S us vs w1 w2 wt v2 vt Q):wt*B+w1 < (vt+1)*B:=by
 have e:B=4294967296:=rfl
 refine H1 fun hc=>?_
 have hS:=h.hS
 have h1:((vt+1)*B)*B*S≤(wt*B+w1)*B*S:=X2 (X2 A0 A0) A0
 have h2:0≤w2*S:=K3 h.hw2.1 A0
 have h3:U=(wt*B+w1)*B*S+w2*S+us:=by rw [h.hu]; grind
 have h4:(v2+1)*S≤B*S:=X2 (by have:=h.hv2; omega) A0
 have h5:V*B=vt*B*S*B+(v2*S+vs)*B:=by rw [h.hv]; grind
 have h6:(v2*S+vs)*B≤(B*S)*B:=X2 (by have:=h.hvs; rw [Hb] at h4; omega) A0
 have h7:((vt+1)*B)*B*S=vt*B*S*B+(B*S)*B:=by grind
 have:=h.hlt
 have:=h.hus.1
 omega
theorem KD.ge (h:KD U V S us vs w1 w2 wt v2 vt Q):Q*vt≤wt*B+w1:=by
 have hS:=h.hS
 have hSB:0 < S*B:=Ed hS (by unfold B; omega)
 refine Ks (P:=S*B) (ur:=w2*S+us) (vr:=v2*S+vs) h.hq hSB (by rw [h.hu]; grind) ?_ (by rw [h.hv]; grind) ?_ (by have:=h.hvt; omega) h.q0
 ·have h1:(w2+1)*S≤B*S:=X2 (by have:=h.hw2; omega) A0
  rw [Hb] at h1
  have:=h.hus
  rw [I2 S B]; omega
 ·have:=K3 h.hv2.1 (show 0≤S by omega)
  have:=h.hvs
  omega
theorem KD.gt (h:KD U V S us vs w1 w2 wt v2 vt Q) {g r:Int} (hg:g*vt+r=wt*B+w1) (g0:0≤g) (hc:r*B+w2 < g*v2):Q < g:=by
 refine AB (S:=S) (us:=us) (vs:=vs) h.hq h.hS h.hu h.hus.2 h.hv h.hvs.1 ?_ g0 h.v0
 have e1:g*(vt*B+v2)=(g*vt+r)*B - r*B+g*v2:=by grind
 rw [e1,hg]; omega
theorem KD.le (h:KD U V S us vs w1 w2 wt v2 vt Q) {g r:Int} (hg:g*vt+r=wt*B+w1) (g0:0≤g) (gB:g < B) (hc:g*v2≤r*B+w2):g≤Q+1:=by
 refine zB (S:=S) (us:=us) (vs:=vs) h.hq h.hS h.hu h.hus.1 h.hv h.hvs.2 h.hvs.1 ?_ g0 ?_ h.v0
 ·have e1:g*(vt*B+v2)=(g*vt+r)*B - r*B+g*v2:=by grind
  rw [e1,hg]; omega
 ·have h1:g*S≤B*S:=X2 A0 (by have:=h.hS; omega)
  have:=h.vpos
  rw [I2 S B] at this; omega
end
theorem Yq {τ ρ:Type} {step:τ→Option (τ⊕ρ)} {Post:ρ→Prop} (I:τ→Prop) (μ:τ→Nat) {s:τ} (h0:I s) (hμ:μ s < 1099511627776)
  (h:∀ t,I t→Ret (step t) (VQ (fun t'=>I t'∧μ t' < μ t) Post)):Ret (loop step s) Post:=by
 have key:∀ (fuel:Nat) (t:τ),μ t < fuel→I t→Ret (loopN step fuel t) Post:=by
  intro fuel
  induction fuel with
  | zero=>intro t h1; omega
  | succ n ih=>
   intro t h1 h2
   obtain ⟨x,hx,h3⟩:=h t h2
   cases x with
   | inr r=>exact ⟨r,by simp [loopN,hx],h3⟩
   | inl t'=>
    obtain ⟨h4,h5⟩:=h3
    obtain ⟨y,hy,hp⟩:=ih t' A0 h4
    exact ⟨y,by simp [loopN,hx,hy],hp⟩
 exact key FUEL s (Ek hμ (by unfold FUEL; omega)) h0
theorem N4 {l:LI} {k:Nat} (h:k < l.length):∃ x,l[k]?=some x:=⟨l[k],U3 h⟩
theorem Q5 {l:LI} {k:Nat} {x:Int} (hx:l[k]?=some x) {i:Int} (hi:i=(k:Int)):getI l i=some x:=by
 subst hi
 have:=(S2.1 hx).1
 exact Ret.eq (by rw [C3]; exact ⟨A0,A0,fun y hy=>by rw [A1] at hy; exact N3 (hy.symm.trans hx)⟩)
theorem Mb {A W Z:LI} {k:Nat} {x:Int} (hx:W[k]?=some x) {lo hi i:Int} (hlo:lo=(A.length:Int)) (hhi:hi=(A.length:Int)+W.length) (hi':i=(k:Int)):getW (A++W++Z) lo hi i=some x:=by
 subst hi'
 have:=(S2.1 hx).1
 exact Ret.eq (by rw [Py hlo hhi]; exact ⟨A0,A0,fun y hy=>by rw [A1] at hy; exact N3 (hy.symm.trans hx)⟩)
theorem df {A W Z:LI} {k:Nat} (hk:k < W.length) {z lo hi i:Int} (hlo:lo=(A.length:Int)) (hhi:hi=(A.length:Int)+W.length) (hi':i=(k:Int)):setW (A++W++Z) lo hi i z=some (A++W.set k z++Z):=by
 subst hi'
 exact Ret.eq (by rw [Ny hlo hhi,A1]; exact ⟨A0,A0,rfl⟩)
theorem de {l:LI} {k:Nat} {y:Int} (hk:k < l.length):lv ((l.set k y).take (k+1))=lv (l.take k)+pw k*y:=by
 have hs:(l.set k y)[k]?=some y:=by rw [G5]; exact hk
 rw [M4 hs,Hk,Ok (by rw [Z3]; omega)]
theorem Ag {l m:LI} {k:Nat} (h:l.drop k=m.drop k):l[k]?=m[k]?:=by
 have e1:(l.drop k)[0]?=l[k]?:=by rw [G8]; rfl
 have e2:(m.drop k)[0]?=m[k]?:=by rw [G8]; rfl
 rw [← e1,← e2,h]
theorem Bq {l m:LI} {k:Nat} {y:Int} (h:l.drop k=m.drop k):(l.set k y).drop (k+1)=m.drop (k+1):=by
 rw [Eb A0,← na,h,na]
section
variable {A W Z v:LI} {lo hi:Int}
theorem xB {U V S us vs w1 w2 wt v2 vt Q:Int} (hK:KD U V S us vs w1 w2 wt v2 vt Q) {m:Nat} (hv:v.length=m+2) (hm:m≤10000) (g2:v[m]?=some v2) (gt:v[m+1]?=some vt) (k2:W[m]?=some w2) (hlo:lo=(A.length:Int)) (hhi:hi=(A.length:Int)+W.length):
  Ret (loop (m_ho v (A++W++Z) lo hi) ((wt*B+w1) / vt,(wt*B+w1) % vt)) (fun g=>Q≤g∧g≤Q+1∧g < B):=by
 have e:B=4294967296:=rfl
 have hvt:=hK.hvt
 have hwt:=hK.hwt
 have hw1:=hK.hw1
 have hw2:=hK.hw2
 have hv2:=hK.hv2
 have htop:=hK.top
 have hQ0:=hK.q0
 have hQB:=hK.qB
 have hge:=hK.ge
 have t0:0≤wt*B+w1:=by have:=K3 hwt.1 (show 0≤B by omega); omega
 have hd:=P4 (wt*B+w1) vt
 have r0:=L3 (wt*B+w1) (show vt≠0 by omega)
 have r1:=M3 (wt*B+w1) (show 0 < vt by omega)
 have hq0:Q≤(wt*B+w1) / vt:=(Se A0).2 hge
 have hq1:(wt*B+w1) / vt≤wt*B+w1:=Hd _ t0
 have hq2:(wt*B+w1) / vt < 2*B:=by
  refine P6 A0 ?_
  have:(vt+1)*B≤(2*vt)*B:=X2 A0 A0
  have e9:2*B*vt=2*vt*B:=by grind
  omega
 refine Yq (fun (s:Int×Int)=>s.1*vt+s.2=wt*B+w1∧(0≤s.2∧s.2 < B)∧Q≤s.1∧s.1 < 2*B) (fun s=>s.1.toNat) ⟨by show (wt*B+w1) / vt*vt+(wt*B+w1) % vt=_; rw [I2]; exact hd,⟨r0,by show (wt*B+w1) % vt < B; omega⟩,hq0,hq2⟩ (by show ((wt*B+w1) / vt).toNat < _; omega) ?_
 rintro ⟨g,r⟩ ⟨hg,hr,hQg,hg2⟩
 simp only at hg hr hQg hg2
 unfold m_ho
 simp only
 have hn2:ws .i64 (v.length:Int) 2=(m:Int):=by rw [hv,V2 A0 A0]; omega
 have hn1:ws .i64 (v.length:Int) 1=((m+1:Nat):Int):=by rw [hv,V2 A0 A0]; omega
 rw [hn2,hn1,Q5 g2 rfl,Mb k2 hlo hhi rfl,Q5 gt rfl]
 have hcv:wc .u64 vt=vt:=P2 ⟨A0,A0⟩
 have down:Q < g→Ret ((if (4294967295:Int) < (wa .u64 r (wc .u64 vt)) then some (.inr (ws .u64 g 1)) else some (.inl (ws .u64 g 1,wa .u64 r (wc .u64 vt))):Option ((Int×Int)⊕Int))) (VQ (fun t':Int×Int=>(t'.1*vt+t'.2=wt*B+w1∧(0≤t'.2∧t'.2 < B)∧Q≤t'.1∧t'.1 < 2*B)∧t'.1.toNat < g.toNat) (fun g=>Q≤g∧g≤Q+1∧g < B)):=by
  intro hlt
  have hw:ws .u64 g 1=g - 1:=by rw [y7]; omega
  have e1:(g - 1)*vt+(r+vt)=wt*B+w1:=by rw [← hg]; grind
  rw [hcv,Q6 ⟨A0,A0⟩,hw,O0]
  refine ⟨fun hb=>⟨_,rfl,A0,?_,?_⟩,fun hb=>⟨_,rfl,⟨e1,⟨A0,A0⟩,A0,A0⟩,A0⟩⟩
  ·have hgB:g - 1 < B:=by
    refine H1 fun hc=>?_
    have h1:B*vt≤(g - 1)*vt:=X2 A0 A0
    have h2:(vt+1)*B=B*vt+B:=by grind
    omega
   refine hK.le e1 A0 hgB ?_
   have h1:(g - 1)*v2≤4294967295*4294967295:=J8 A0 A0 hv2.1 A0
   have h2:4294967296*4294967296≤(r+vt)*B:=J8 A0 A0 A0 A0
   omega
  ·refine H1 fun hc=>?_
   have h1:B*vt≤(g - 1)*vt:=X2 A0 A0
   have h2:(vt+1)*B=B*vt+B:=by grind
   omega
 by_cases hgl:(4294967295:Int) < g
 ·rw [M0 hgl,obs,M0 rfl,obs]
  exact down A0
 ·rw [K0 hgl,obs,obs,obs]
  have hx1:wor .u64 (wslc .u64 r 32) (wc .u64 w2)=r*B+w2:=by
   rw [Hc hr,P2 (x:=w2) ⟨hw2.1,A0⟩,Q9 hr hw2]
  have hx2:wm .u64 g (wc .u64 v2)=g*v2:=by
   rw [P2 (x:=v2) ⟨hv2.1,A0⟩]
   have h1:=K3 (show 0≤g by omega) hv2.1
   have h2:g*v2≤4294967295*4294967295:=J8 A0 A0 hv2.1 A0
   exact Ld ⟨h1,A0⟩
  rw [hx1,hx2,O0]
  refine ⟨fun hc=>?_,fun hc=>?_⟩
  ·rw [obs]
   exact down (hK.gt hg A0 (by simpa using hc))
  ·have hc:¬ r*B+w2 < g*v2:=by simpa using hc
   exact ⟨_,rfl,hQg,hK.le hg A0 A0 A0,A0⟩
theorem vA {g:Int} (hg:0≤g∧g < B) (hW:LW W) (hv:LW v) (hl:W.length=v.length+1) (hm:v.length≤10000) (hlo:lo=(A.length:Int)) (hhi:hi=(A.length:Int)+W.length):
  Ret (loop (m_hn v lo hi g) (A++W++Z,0,0,0)) (fun r=>∃ X c b,r=(A++X++Z,c,b)∧LW X∧X.length=W.length∧X.drop v.length=W.drop v.length∧(0≤c∧c < B)∧(b=0∨b=1)∧lv (X.take v.length)=lv (W.take v.length) - g*lv v+pw v.length*(c+b)):=by
 have e:B=4294967296:=rfl
 refine (Q0 (Post:=fun r:LI×Int×Int=>∃ X c b,r=(A++X++Z,c,b)∧LW X∧X.length=W.length∧X.drop v.length=W.drop v.length∧(0≤c∧c < B)∧(b=0∨b=1)∧lv (X.take v.length)=lv (W.take v.length) - g*lv v+pw v.length*(c+b)) v.length (fun k (s:LI×Int×Int×Int)=>∃ X c b,s=(A++X++Z,c,b,(k:Int))∧LW X∧X.length=W.length∧X.drop k=W.drop k∧(0≤c∧c < B)∧(b=0∨b=1)∧lv (X.take k)=lv (W.take k) - g*lv (v.take k)+pw k*(c+b)) ⟨W,0,0,rfl,hW,rfl,rfl,⟨A0,A0⟩,.inl rfl,by simp [lv]⟩ ?_ A0)
 rintro k _ hk ⟨X,c,b,rfl,x1,x2,x3,x4,x5,x6⟩
 unfold m_hn
 simp only
 rw [O0]
 refine ⟨fun hlt=>?_,fun hge=>⟨_,rfl,X,c,b,rfl,x1,x2,by have ek:k=v.length:=A0; subst ek; exact x3,x4,x5,by have ek:k=v.length:=A0; subst ek; rw [E8] at x6; exact x6⟩⟩
 obtain ⟨y,hy⟩:=N4 (l:=v) (k:=k) A0
 obtain ⟨z,hz⟩:=N4 (l:=W) (k:=k) A0
 have hzX:X[k]?=some z:=(Ag x3).trans hz
 have hyB:=LW.get hv hy
 have hzB:=LW.get hW hz
 have hhi':hi=(A.length:Int)+X.length:=by rw [x2]; exact hhi
 have p0:=K3 hg.1 hyB.1
 have p1:g*y≤4294967295*4294967295:=J8 A0 A0 hyB.1 A0
 have ep:wa .u64 (wm .u64 g (wc .u64 y)) c=g*y+c:=by
  rw [P2 (x:=y) ⟨hyB.1,A0⟩,Ld ⟨p0,A0⟩,Q6 ⟨A0,A0⟩]
 have hm1:=L3 (g*y+c) (show B≠0 by omega)
 have hm2:=M3 (g*y+c) (show 0 < B by omega)
 have hdm:=P4 (g*y+c) B
 have d0:0≤(g*y+c) / B:=N5 A0 A0
 have d1:(g*y+c) / B < B:=P6 A0 (by rw [e]; omega)
 obtain ⟨k1,k2,k3,k4⟩:=vj (v:=z - (g*y+c) % B - b) A0 A0
 have et:ws .u64 (ws .u64 (wc .u64 z) (wand .u64 (g*y+c) 4294967295)) b=(z - (g*y+c) % B - b) % 18446744073709551616:=by
  rw [P2 (x:=z) ⟨hzB.1,A0⟩,N8 ⟨A0,A0⟩,y7,y7]; omega
 rw [Q5 hy rfl,obs,Mb hzX hlo hhi' rfl,obs,ep,et]
 generalize ht:(z - (g*y+c) % B - b) % 18446744073709551616=t at*
 have hmm:=L3 t (show B≠0 by omega)
 have hmm2:=M3 t (show 0 < B by omega)
 have hd0:0≤t / B:=N5 k3 A0
 have hd1:t / B < 18446744073709551616:=P6 A0 A0
 rw [N8 ⟨k3,k4⟩,W6 k3,xh ⟨hd0,hd1⟩,Z4 ⟨hmm,hmm2⟩,W6 A0,k2,df (k:=k) A0 hlo hhi' rfl,obs]
 have hkX:k < X.length:=A0
 refine ⟨_,rfl,A0,X.set k (t % B),(g*y+c) / B,_,by rw [U0 A0 A0]; rfl,S8 x1 ⟨hmm,hmm2⟩,by rw [O3,x2],Bq x3,⟨d0,d1⟩,by split<;>omega,?_⟩
 rw [de hkX,x6,k1,M4 hz,M4 hy]
 simp only [pw]
 generalize (if z - (g*y+c) % B - b < 0 then (1:Int) else 0)=β
 generalize (g*y+c) / B=q at*
 generalize (g*y+c) % B=r at*
 have:g*y=B*q+r - c:=A0
 have e5:g*(lv (v.take k)+pw k*y)=g*lv (v.take k)+pw k*(g*y):=by grind
 rw [e5,this]
 grind
theorem FA (hW:LW W) (hv:LW v) (hl:W.length=v.length+1) (hm:v.length≤10000) (hlo:lo=(A.length:Int)) (hhi:hi=(A.length:Int)+W.length):
  Ret (loop (m_hm v lo hi) (A++W++Z,0,0)) (fun r=>∃ X c,r=(A++X++Z,c)∧LW X∧X.length=W.length∧X.drop v.length=W.drop v.length∧(c=0∨c=1)∧lv (X.take v.length)+pw v.length*c=lv (W.take v.length)+lv v):=by
 have e:B=4294967296:=rfl
 refine (Q0 (Post:=fun r:LI×Int=>∃ X c,r=(A++X++Z,c)∧LW X∧X.length=W.length∧X.drop v.length=W.drop v.length∧(c=0∨c=1)∧lv (X.take v.length)+pw v.length*c=lv (W.take v.length)+lv v) v.length (fun k (s:LI×Int×Int)=>∃ X c,s=(A++X++Z,c,(k:Int))∧LW X∧X.length=W.length∧X.drop k=W.drop k∧(c=0∨c=1)∧lv (X.take k)+pw k*c=lv (W.take k)+lv (v.take k)) ⟨W,0,rfl,hW,rfl,rfl,.inl rfl,by simp [lv]⟩ ?_ A0)
 rintro k _ hk ⟨X,c,rfl,x1,x2,x3,x4,x6⟩
 unfold m_hm
 simp only
 rw [O0]
 refine ⟨fun hlt=>?_,fun hge=>⟨_,rfl,X,c,rfl,x1,x2,by have ek:k=v.length:=A0; subst ek; exact x3,x4,by have ek:k=v.length:=A0; subst ek; rw [E8] at x6; exact x6⟩⟩
 obtain ⟨y,hy⟩:=N4 (l:=v) (k:=k) A0
 obtain ⟨z,hz⟩:=N4 (l:=W) (k:=k) A0
 have hzX:X[k]?=some z:=(Ag x3).trans hz
 have hyB:=LW.get hv hy
 have hzB:=LW.get hW hz
 have hhi':hi=(A.length:Int)+X.length:=by rw [x2]; exact hhi
 have ep:wa .u64 (wa .u64 (wc .u64 z) (wc .u64 y)) c=z+y+c:=by
  rw [P2 (x:=y) ⟨hyB.1,A0⟩,P2 (x:=z) ⟨hzB.1,A0⟩,Q6 (x:=z) (y:=y) ⟨A0,A0⟩,Q6 ⟨A0,A0⟩]
 have hmm:=L3 (z+y+c) (show B≠0 by omega)
 have hmm2:=M3 (z+y+c) (show 0 < B by omega)
 have hdm:=P4 (z+y+c) B
 have d0:0≤(z+y+c) / B:=N5 A0 A0
 have d1:(z+y+c) / B < 2:=P6 A0 A0
 rw [Q5 hy rfl,obs,Mb hzX hlo hhi' rfl,obs,ep,N8 ⟨A0,A0⟩,W6 A0,Z4 ⟨hmm,hmm2⟩,df (k:=k) A0 hlo hhi' rfl,obs]
 have hkX:k < X.length:=A0
 refine ⟨_,rfl,A0,X.set k ((z+y+c) % B),(z+y+c) / B,by rw [U0 A0 A0]; rfl,S8 x1 ⟨hmm,hmm2⟩,by rw [O3,x2],Bq x3,A0,?_⟩
 rw [de hkX,M4 hz,M4 hy]
 simp only [pw]
 generalize (z+y+c) / B=q at*
 generalize (z+y+c) % B=r at*
 have e3:pw k*(B*q+r)=pw k*(z+y+c):=by rw [hdm]
 have e4:B*pw k*q=pw k*(B*q):=by grind
 rw [O6] at e3
 have e5:pw k*(z+y+c)=pw k*z+pw k*y+pw k*c:=by grind
 omega
theorem FC (hW:LW W) (hv:LW v) {m:Nat} (hvl:v.length=m+2) (hl:W.length=m+3) (hm:m≤9000) (hA:A.length≤10000) (htop:∀ x,v[m+1]?=some x→2147483648≤x) (hlt:lv W < lv v*B) (hlo:lo=(A.length:Int)) (hhi:hi=(A.length:Int)+W.length):
  ∃ X,m_hp (A++W++Z) lo hi v=some (A++X++Z,lv W / lv v)∧LW X∧X.length=W.length∧lv X=lv W % lv v:=by
 have e:B=4294967296:=rfl
 obtain ⟨v2,g2⟩:=N4 (l:=v) (k:=m) A0
 obtain ⟨vt,gt⟩:=N4 (l:=v) (k:=m+1) A0
 obtain ⟨w2,k2⟩:=N4 (l:=W) (k:=m) A0
 obtain ⟨w1,k1⟩:=N4 (l:=W) (k:=m+1) A0
 obtain ⟨wt,kt⟩:=N4 (l:=W) (k:=m+2) A0
 have b2:=LW.get hv g2
 have bt:=LW.get hv gt
 have c2:=LW.get hW k2
 have c1:=LW.get hW k1
 have ct:=LW.get hW kt
 have hvt:=htop vt gt
 have hV:lv v=(vt*B+v2)*pw m+lv (v.take m):=by
  rw [J7 v (show m≤v.length by omega),T5 g2,T5 gt,O9 A0]
  simp only [lv]; grind
 have hU:lv W=((wt*B+w1)*B+w2)*pw m+lv (W.take m):=by
  rw [J7 W (show m≤W.length by omega),T5 k2,T5 k1,T5 kt,O9 A0]
  simp only [lv]; grind
 have tv:=R9 hv (i:=m) A0
 have tw:=R9 hW (i:=m) A0
 have hVpos:0 < lv v:=by
  have h1:0 < (vt*B+v2)*pw m:=Ed (by have:=Ed (show 0 < vt by omega) (show 0 < B by omega); omega) (W1 m)
  omega
 have hK:KD (lv W) (lv v) (pw m) (lv (W.take m)) (lv (v.take m)) w1 w2 wt v2 vt (lv W / lv v):=⟨W1 m,hV,tv,b2,⟨hvt,bt.2⟩,hU,tw,c2,c1,ct,hlt,Qt.ediv hVpos⟩
 have hQ0:=hK.q0
 have hQB:=hK.qB
 have hUdm:=P4 (lv W) (lv v)
 have hR0:=L3 (lv W) (show lv v≠0 by omega)
 have hR1:=M3 (lv W) hVpos
 have hvlt:=C4 hv
 have hp2:pw (m+3)=B*pw (m+2):=rfl
 have hpos2:=W1 (m+2)
 have hvn:v.length=m+2:=hvl
 refine (?_:Ret (m_hp (A++W++Z) lo hi v) (fun r=>∃ X,r=(A++X++Z,lv W / lv v)∧LW X∧X.length=W.length∧lv X=lv W % lv v)).elim fun r hr=>?_
 ·unfold m_hp
  have hn1:ws .i64 (v.length:Int) 1=((m+1:Nat):Int):=by rw [hvl,V2 A0 A0]; omega
  have hnn:(v.length:Int)=((m+2:Nat):Int):=by rw [hvl]
  rw [hn1,hnn,Mb kt hlo hhi rfl,obs,Mb k1 hlo hhi rfl,obs,Q5 gt rfl,obs]
  have et:wor .u64 (wslc .u64 (wc .u64 wt) 32) (wc .u64 w1)=wt*B+w1:=by
   rw [P2 (x:=wt) ⟨ct.1,A0⟩,P2 (x:=w1) ⟨c1.1,A0⟩,Hc ct,Q9 ct c1]
  have t0:0≤wt*B+w1:=by have:=K3 ct.1 (show 0≤B by omega); omega
  have t1:wt*B+w1 < 18446744073709551616:=by rw [e]; omega
  have hcv:wc .u64 vt=vt:=P2 ⟨A0,A0⟩
  have hwq:wq .u64 (wt*B+w1) vt=some ((wt*B+w1) / vt):=by
   unfold wq
   have h0:0≤(wt*B+w1) / vt:=N5 t0 A0
   have h1:(wt*B+w1) / vt≤wt*B+w1:=Hd _ t0
   rw [B0,kh t0,IntWalk.u64_in _ ⟨h0,A0⟩]
  have hwr:wr (wt*B+w1) vt=some ((wt*B+w1) % vt):=by
   unfold wr
   rw [B0,Gb t0]
  rw [et,hcv,hwq,obs,obs,hcv,hwr,obs,J0]
  refine (xB hK hvl A0 g2 gt k2 hlo hhi).mono ?_
  rintro g ⟨gQ,gQ1,gB⟩
  rw [J0]
  refine (vA (Z:=Z) ⟨A0,gB⟩ hW hv A0 A0 hlo hhi).mono ?_
  rintro _ ⟨X,c,b,rfl,x1,x2,x3,x4,x5,x6⟩
  simp only
  have hXt:X[m+2]?=some wt:=by rw [← kt]; rw [hvl] at x3; exact Ag x3
  have hhi':hi=(A.length:Int)+X.length:=by rw [x2]; exact hhi
  rw [Mb hXt hlo hhi' rfl,obs]
  obtain ⟨q1,q2,q3,q4⟩:=vj (v:=wt - c - b) A0 A0
  have et2:ws .u64 (ws .u64 (wc .u64 wt) c) b=(wt - c - b) % 18446744073709551616:=by
   rw [P2 (x:=wt) ⟨ct.1,A0⟩,y7,y7]; omega
  rw [et2]
  generalize ht:(wt - c - b) % 18446744073709551616=t at*
  have hmm:=L3 t (show B≠0 by omega)
  have hmm2:=M3 t (show 0 < B by omega)
  have hd0:0≤t / B:=N5 q3 A0
  have hd1:t / B < 18446744073709551616:=P6 A0 A0
  rw [N8 ⟨q3,q4⟩,W6 q3,xh ⟨hd0,hd1⟩,Z4 ⟨hmm,hmm2⟩,q2,df (k:=m+2) A0 hlo hhi' rfl,obs]
  have hYlw:LW (X.set (m+2) (t % B)):=S8 x1 ⟨hmm,hmm2⟩
  have hYlen:(X.set (m+2) (t % B)).length=W.length:=by rw [O3,x2]
  have hYlt:=C4 hYlw
  have hYnn:=X1 hYlw
  have hWall:lv W=lv (W.take (m+2))+pw (m+2)*wt:=by rw [← M4 kt,P5 A0]
  have hY:lv (X.set (m+2) (t % B))=lv W - g*lv v+pw (m+3)*(if wt - c - b < 0 then 1 else 0):=by
   have h1:lv (X.set (m+2) (t % B))=lv ((X.set (m+2) (t % B)).take (m+2+1)):=by rw [P5 (by rw [hYlen]; omega)]
   rw [h1,de A0,q1]
   rw [hvl] at x6
   rw [x6,hWall,hp2]
   generalize (if wt - c - b < 0 then (1:Int) else 0)=β
   grind
  rw [hYlen,hl] at hYlt
  have hUg:lv W - g*lv v=lv W % lv v+(lv W / lv v - g)*lv v:=by
   have:(lv W / lv v - g)*lv v=lv v*(lv W / lv v) - g*lv v:=by grind
   omega
  rw [hvl] at hvlt
  rw [O0]
  refine ⟨fun hb=>?_,fun hb=>?_⟩
  ·have hβ:(if wt - c - b < 0 then (1:Int) else 0)=0:=hb
   rw [hβ,w4,V7,hUg] at hY
   have hgq:g=lv W / lv v:=by
    refine H1 fun hc=>?_
    have:lv W / lv v - g= -1:=A0
    rw [this] at hY; omega
   subst hgq
   rw [fl,Q3,V7] at hY
   rw [Z4 ⟨hQ0,hQB⟩]
   exact ⟨_,rfl,_,rfl,hYlw,hYlen,hY⟩
  ·have hβ:(if wt - c - b < 0 then (1:Int) else 0)=1:=by revert hb; split<;>simp
   rw [hβ,C6,hUg] at hY
   have hgq:g=lv W / lv v+1:=by
    refine H1 fun hc=>?_
    have:lv W / lv v - g=0:=A0
    rw [this] at hY; omega
   have hgq2:lv W / lv v - g= -1:=A0
   rw [hgq2] at hY
   rw [J0]
   have hhi2:hi=(A.length:Int)+(X.set (m+2) (t % B)).length:=by rw [hYlen]; exact hhi
   refine (FA (Z:=Z) hYlw hv A0 A0 hlo hhi2).mono ?_
   rintro _ ⟨Y,c',rfl,y1,y2,y3,y4,y5⟩
   simp only
   have hYt:Y[m+2]?=some (t % B):=by
    rw [hvl] at y3
    rw [Ag y3,G5 A0]
   have hhi3:hi=(A.length:Int)+Y.length:=by rw [y2]; exact hhi2
   rw [Mb hYt hlo hhi3 rfl,obs,Z4 (x:=c') ⟨A0,A0⟩,yw,df (k:=m+2) A0 hlo hhi3 rfl,obs]
   have hwg:wc .u32 (ws .u64 g 1)=lv W / lv v:=by
    rw [y7,Z4 ⟨A0,A0⟩]; omega
   rw [hwg]
   have hz0:=L3 (t % B+c') (show B≠0 by omega)
   have hz1:=M3 (t % B+c') (show 0 < B by omega)
   have hzd:=P4 (t % B+c') B
   have hFlw:LW (Y.set (m+2) ((t % B+c') % B)):=S8 y1 ⟨hz0,hz1⟩
   have hFlen:(Y.set (m+2) ((t % B+c') % B)).length=W.length:=by rw [O3,y2,hYlen]
   refine ⟨_,rfl,_,rfl,hFlw,hFlen,?_⟩
   have hFlt:=C4 hFlw
   have hFnn:=X1 hFlw
   rw [hFlen,hl] at hFlt
   have hF:lv (Y.set (m+2) ((t % B+c') % B))=lv W % lv v+pw (m+3)*(1 - (t % B+c') / B):=by
    have h1:lv (Y.set (m+2) ((t % B+c') % B))=lv ((Y.set (m+2) ((t % B+c') % B)).take (m+2+1)):=by rw [P5 (by rw [hFlen]; omega)]
    have h2:lv (X.set (m+2) (t % B))=lv ((X.set (m+2) (t % B)).take (m+2))+pw (m+2)*(t % B):=by
     have h3:(X.set (m+2) (t % B))[m+2]?=some (t % B):=by rw [G5 A0]
     rw [← M4 h3,P5 (by rw [hYlen]; omega)]
    rw [hvl] at y5
    rw [h1,de A0,hp2]
    generalize (t % B+c') / B=k at*
    generalize (t % B+c') % B=r at*
    have e3:pw (m+2)*(B*k+r)=pw (m+2)*(t % B+c'):=by rw [hzd]
    rw [O6,O6] at e3
    have e4:B*pw (m+2)*(1 - k)=B*pw (m+2) - pw (m+2)*(B*k):=by grind
    omega
   have hk:(t % B+c') / B=1:=by
    have k0:0≤(t % B+c') / B:=N5 A0 A0
    have k1:(t % B+c') / B < 2:=P6 A0 A0
    refine H1 fun hc=>?_
    have:(t % B+c') / B=0:=A0
    rw [this] at hF
    omega
   rw [hk] at hF
   rw [hF]; omega
 ·obtain ⟨h1,X,rfl,h2⟩:=hr
  exact ⟨X,h1,h2⟩
end
theorem kA {b:LI} (hb:LW b) {m:Nat} (hl:b.length=m+2) {bt:Int} (gt:b[m+1]?=some bt) {s:Nat} (hs:s < 32) (h1:bt*2 ^ s < B) (h2:B≤2*(bt*2 ^ s)):
  lv b*2 ^ s < pw (m+2)∧2147483648*pw (m+1)≤lv b*2 ^ s:=by
 have e:B=4294967296:=rfl
 obtain ⟨p1,p2,p3,p4⟩:=Y7 hs
 have hbt:=LW.get hb gt
 have hV:lv b=lv (b.take (m+1))+pw (m+1)*bt:=by rw [← M4 gt,P5 A0]
 have ht:=R9 hb (i:=m+1) A0
 have hp:=W1 (m+1)
 have hbt2:bt < 2 ^ (32 - s):=by
  refine H1 fun hc=>?_
  have:2 ^ (32 - s)*2 ^ s≤bt*2 ^ s:=X2 A0 A0
  rw [I2] at this; omega
 have h3:(bt+1)*2 ^ s≤B:=by
  have:(bt+1)*2 ^ s≤2 ^ (32 - s)*2 ^ s:=X2 A0 A0
  rw [I2 (2 ^ (32 - s))] at this; omega
 constructor
 ·have h4:lv b*2 ^ s < (pw (m+1)*(bt+1))*2 ^ s:=qa (by rw [O6]; omega) p1
  have h5:pw (m+1)*((bt+1)*2 ^ s)≤pw (m+1)*B:=B3 h3 A0
  have h6:pw (m+2)=B*pw (m+1):=rfl
  rw [N6] at h4
  rw [h6,I2 B]; omega
 ·have h4:pw (m+1)*bt*2 ^ s≤lv b*2 ^ s:=X2 A0 A0
  have h5:pw (m+1)*2147483648≤pw (m+1)*(bt*2 ^ s):=B3 A0 A0
  rw [N6] at h4
  rw [I2 2147483648]; omega
theorem Mw {v:LI} (hv:LW v) {m:Nat} (hl:v.length=m+2) (h:2147483648*pw (m+1)≤lv v):∀ x,v[m+1]?=some x→2147483648≤x:=by
 intro x hx
 refine H1 fun hc=>?_
 have hV:lv v=lv (v.take (m+1))+pw (m+1)*x:=by rw [← M4 hx,P5 A0]
 have ht:=R9 hv (i:=m+1) A0
 have h4:pw (m+1)*(x+1)≤pw (m+1)*2147483648:=B3 A0 (by have:=W1 (m+1); omega)
 rw [O6,I2 (pw (m+1)) 2147483648] at h4
 omega
theorem Qw {v:LI} (hv:LW v) (tv:Tm v) {m:Nat} (h1:lv v < pw (m+2)) (h2:pw (m+1)≤lv v):v.length=m+2:=by
 have h3:=P7 hv tv h1
 refine H1 fun hc=>?_
 have h4:=O7 hv (m:=m+1) A0
 omega
theorem DC {u0 v:LI} {K m:Nat} (hu:LW u0) (hv:LW v) (hvl:v.length=m+2) (hul:u0.length=K+m+2) (hK:K+m≤5000) (htop:∀ x,v[m+1]?=some x→2147483648≤x) (h0:lv (u0.drop K) < lv v):
  Ret (loop (m_hq v) (List.replicate K 0,u0,(K:Int) - 1)) (fun r=>LW r.1∧r.1.length=K∧LW r.2∧r.2.length=u0.length∧lv u0=lv r.1*lv v+lv r.2∧lv r.2 < lv v):=by
 have e:B=4294967296:=rfl
 refine (Q0 (Post:=fun r:LI×LI=>LW r.1∧r.1.length=K∧LW r.2∧r.2.length=u0.length∧lv u0=lv r.1*lv v+lv r.2∧lv r.2 < lv v) K (fun k (s:LI×LI×Int)=>s.2.2=(K:Int) - 1 - k∧k≤K∧LW s.1∧s.1.length=K∧LW s.2.1∧s.2.1.length=u0.length∧s.2.1.take (K - k)=u0.take (K - k)∧lv (u0.drop (K - k))=lv (s.1.drop (K - k))*lv v+lv (s.2.1.drop (K - k))∧lv (s.2.1.drop (K - k)) < lv v) ⟨by show (K:Int) - 1=_; omega,A0,ib K,B5 ..,hu,rfl,rfl,by show lv (u0.drop (K - 0))=lv ((List.replicate K (0:Int)).drop (K - 0))*lv v+lv (u0.drop (K - 0)); rw [pb,Dd,E6]; simp [lv],h0⟩ ?_ A0)
 rintro k ⟨q,u,_⟩ hk ⟨rfl,hkK,q1,q2,u1,u2,u3,u4,u5⟩
 simp only at q1 q2 u1 u2 u3 u4 u5
 unfold m_hq
 simp only
 rw [O0]
 refine ⟨fun hge=>?_,fun hlt=>⟨_,rfl,q1,q2,u1,u2,?_,?_⟩⟩
 ·obtain ⟨J,hJ⟩:∃ J:Nat,K=J+(k+1):=⟨K - (k+1),A0⟩
  have e1:(K:Int) - 1 - (k:Int)=(J:Int):=A0
  have e2:K - k=J+1:=A0
  have e3:K - (k+1)=J:=A0
  rw [e2] at u3 u4 u5
  have hw:wa .i64 (wa .i64 (J:Int) (v.length:Int)) 1=(J:Int)+(m+3:Nat):=by
   rw [hvl,U0 (x:=(J:Int)) A0 A0,U0 A0 A0]; omega
  obtain ⟨x,hx⟩:=N4 (l:=u) (k:=J) A0
  have hxB:=LW.get u1 hx
  have hxu0:u0[J]?=some x:=by
   have h1:(u.take (J+1))[J]?=u[J]?:=by rw [A6,C0]
   have h2:(u0.take (J+1))[J]?=u0[J]?:=by rw [A6,C0]
   rw [← h2,← u3,h1]; exact hx
  have hD:=T5 hx
  have hD0:=T5 hxu0
  have hvlt:=C4 hv
  rw [hvl] at hvlt
  have hn5:=X1 (LW.drop u1 (J+1))
  have hsplit:u=u.take J++(u.drop J).take (m+3)++u.drop (J+(m+3)):=by
   rw [T7]
   have h1:(u.drop J).take (m+3)++u.drop (J+(m+3))=u.drop J:=by rw [← na,Ab]
   rw [h1,Ab]
  have hAl:(u.take J).length=J:=by rw [Z3]; omega
  have hWl:((u.drop J).take (m+3)).length=m+3:=by rw [Z3,y6]; omega
  have hWlw:LW ((u.drop J).take (m+3)):=LW.take (LW.drop u1 J) _
  have hZlw:LW (u.drop (J+(m+3))):=LW.drop u1 _
  have hDW:lv (u.drop J)=lv ((u.drop J).take (m+3))+pw (m+3)*lv (u.drop (J+(m+3))):=by
   rw [J7 (u.drop J) (k:=m+3) (by rw [y6]; omega),na]
  have hDlt:lv (u.drop J) < lv v*B:=by
   have:B*(lv (u.drop (J+1))+1)≤B*lv v:=B3 A0 A0
   rw [O6,C6] at this
   rw [I2 (lv v)]; omega
  have hWnn:=X1 hWlw
  have hZnn:=X1 hZlw
  have hp3:pw (m+3)=B*pw (m+2):=rfl
  have hVB:lv v*B≤pw (m+3):=by
   rw [hp3,I2 B]; exact X2 A0 A0
  have hZ0:lv (u.drop (J+(m+3)))=0:=by
   refine H1 fun hc=>?_
   have:pw (m+3)*1≤pw (m+3)*lv (u.drop (J+(m+3))):=B3 A0 (by have:=W1 (m+3); omega)
   omega
  rw [hZ0,w4,V7] at hDW
  obtain ⟨X,hX,x1,x2,x3⟩:=FC (A:=u.take J) (W:=(u.drop J).take (m+3)) (Z:=u.drop (J+(m+3))) (lo:=(J:Int)) (hi:=(J:Int)+(m+3:Nat)) hWlw hv hvl hWl A0 A0 htop (by rw [← hDW]; exact hDlt) (by rw [hAl]) (by rw [hAl,hWl])
  rw [← hsplit,← hDW] at hX
  rw [← hDW] at x3
  have hVpos:0 < lv v:=A0
  have hd0:0≤lv (u.drop J) / lv v:=N5 A0 A0
  have hd1:lv (u.drop J) / lv v < B:=P6 hVpos (by rw [I2]; exact hDlt)
  have hdm:=P4 (lv (u.drop J)) (lv v)
  have hr0:=L3 (lv (u.drop J)) (show lv v≠0 by omega)
  have hr1:=M3 (lv (u.drop J)) hVpos
  rw [e1,hw,J0,Qc]
  refine ⟨A0,A0,A0,?_⟩
  rw [hX,obs,J0,K4,A1]
  have hUl:(u.take J++X++u.drop (J+(m+3))).length=u0.length:=by
   rw [P1,P1,hAl,x2,hWl,y6]; omega
  have hUd:lv ((u.take J++X++u.drop (J+(m+3))).drop J)=lv X:=by
   rw [T7,Lu hAl,kb,hZ0]; omega
  refine ⟨A0,A0,_,rfl,A0,?_,A0,S8 q1 ⟨hd0,hd1⟩,by show (q.set J _).length=K; rw [O3,q2],LW.app.2 ⟨LW.app.2 ⟨LW.take u1 _,x1⟩,hZlw⟩,hUl,?_,?_,?_⟩
  ·show ws .i64 (J:Int) 1=_; rw [V2 A0 A0]; omega
  ·rw [e3]
   show (u.take J++X++u.drop (J+(m+3))).take J=_
   rw [T7,Ik hAl]
   have h1:u.take J=(u.take (J+1)).take J:=by rw [ah,G6 A0]
   rw [h1,u3,ah,G6 A0]
  ·rw [e3]
   show lv (u0.drop J)=lv ((q.set J (lv (u.drop J) / lv v)).drop J)*lv v+lv ((u.take J++X++u.drop (J+(m+3))).drop J)
   have hqJ:(q.set J (lv (u.drop J) / lv v))[J]?=some (lv (u.drop J) / lv v):=by rw [G5]; omega
   rw [hUd,x3,T5 hqJ,Eb A0,hD0,u4]
   generalize lv (u.drop J) / lv v=Q at*
   generalize lv (u.drop J) % lv v=R at*
   have h9:(Q+B*lv (q.drop (J+1)))*lv v=lv v*Q+B*(lv (q.drop (J+1))*lv v):=by grind
   rw [h9,O6]
   omega
  ·rw [e3]
   show lv ((u.take J++X++u.drop (J+(m+3))).drop J) < lv v
   rw [hUd,x3]; exact hr1
 ·have ek:K - k=0:=A0
  rw [ek] at u4
  exact u4
 ·have ek:K - k=0:=A0
  rw [ek] at u5
  exact u5
theorem Ht {a b:LI} (ha:LW a) (hb:LW b) (ta:Tm a) (tb:Tm b) (hne:b≠[]) (hn:a.length≤900) (hm:b.length≤900):∃ q r,m_hr a b=some (q,r)∧LW q∧Tm q∧LW r∧Tm r∧lv q=lv a / lv b∧lv r=lv a % lv b:=by
 have e:B=4294967296:=rfl
 have hbl:0 < b.length:=Cb.2 hne
 have hbpos:0 < lv b:=by
  have h1:=G9 hb tb hne
  have:=W1 (b.length - 1)
  omega
 by_cases h1:b.length=1
 ·obtain ⟨p,rfl⟩:∃ p,b=[p]:=by
   match b,h1 with
   | [p],_=>exact ⟨p,rfl⟩
  have hp:=LW.one.1 hb
  have lp:lv [p]=p:=by simp [lv]
  rw [lp] at hbpos ⊢
  obtain ⟨q,r,h,q1,q2,r1,r2,q3,r3,_⟩:=Jt ha ta A0 hbpos hp.2
  exact ⟨q,r,h,q1,q2,r1,r2,q3,r3⟩
 have h0:=X1 ha
 by_cases hlt:lv a < lv b
 ·refine ⟨[],a,?_,by intro x hx; simp at hx,O8,ha,ta,by rw [Va h0 hlt]; rfl,by rw [Y4 h0 hlt]⟩
  unfold m_hr
  rw [Fg ha hb ta tb A0 A0,obs,M0 hlt,C0,jc A0,obs]
 obtain ⟨m,hbm⟩:∃ m,b.length=m+2:=⟨b.length - 2,A0⟩
 have hab:b.length≤a.length:=by
  refine H1 fun hc=>?_
  have:=z7 ha hb ta tb A0
  omega
 obtain ⟨bt,gt⟩:=N4 (l:=b) (k:=m+1) A0
 have hbt:=LW.get hb gt
 have hbt0:0 < bt:=by
  have:=tb bt (by rw [Tk,hbm]; exact gt)
  omega
 obtain ⟨s,hs,hs32,hs1,hs2⟩:=Cs hbt0 hbt.2
 obtain ⟨p1,p2,p3,p4⟩:=Y7 hs32
 obtain ⟨t1,t2⟩:=kA hb hbm gt hs32 hs1 hs2
 have hpm:=W1 (m+1)
 refine (?_:Ret (m_hr a b) (fun r=>LW r.1∧Tm r.1∧LW r.2∧Tm r.2∧lv r.1=lv a / lv b∧lv r.2=lv a % lv b)).elim fun r hr=>⟨r.1,r.2,hr.1,hr.2⟩
 unfold m_hr
 have hcmp:¬ (if lv a < lv b then (-1:Int) else if lv b < lv a then 1 else 0) < 0:=by rw [K0 hlt]; split<;>omega
 have hn1:ws .i64 (b.length:Int) 1=((m+1:Nat):Int):=by rw [hbm,V2 A0 A0]; omega
 rw [Fg ha hb ta tb A0 A0,obs,K0 hcmp,B0,hn1,Q5 gt rfl,obs,hs,obs,J0]
 refine (Ip hb A0 hne hs32).mono ?_
 rintro v ⟨v1,v2,v3⟩
 have hvl:=Qw v1 v2 (m:=m) (by rw [v3]; exact t1) (by rw [v3]; omega)
 have htop:=Mw v1 hvl (by rw [v3]; exact t2)
 rw [U0 A0 A0,J0,Y5]
 refine ⟨A0,A0,?_⟩
 rw [show ((a.length:Int)+1).toNat=a.length+1 by omega,J0]
 have hane:a≠[]:=by intro h; rw [h,N2] at hab; omega
 refine (Ip ha A0 hane hs32).mono ?_
 rintro w ⟨w1,w2,w3⟩
 have halt:=C4 ha
 have hwlt:lv w < pw a.length*2 ^ s:=by rw [w3]; exact qa halt p1
 have hwl:w.length≤a.length+1:=by
  refine P7 w1 w2 ?_
  have h9:pw a.length*2 ^ s≤pw a.length*B:=B3 A0 (by have:=W1 a.length; omega)
  have h8:pw (a.length+1)=B*pw a.length:=rfl
  rw [h8,I2 B]; omega
 have hcp:cpI (List.replicate (a.length+1) (0:Int)) 0 ((List.replicate (a.length+1) (0:Int)).length:Int) w=some (w++List.replicate (a.length+1 - w.length) 0,(w.length:Int)):=by
  unfold cpI
  rw [B5,M0 ⟨A0,A0,A0⟩]
  have e1:(((a.length+1:Nat):Int)).toNat - ((0:Int)).toNat=a.length+1:=A0
  rw [e1,y9 hwl,G6 hwl,show ((0:Int)).toNat=0 from rfl,Zg,xc,Y8,Dd]
 rw [hcp,obs]
 have hu0l:(w++List.replicate (a.length+1 - w.length) (0:Int)).length=a.length+1:=by rw [P1,B5]; omega
 have hu0w:LW (w++List.replicate (a.length+1 - w.length) (0:Int)):=LW.app.2 ⟨w1,ib _⟩
 have hu0v:lv (w++List.replicate (a.length+1 - w.length) (0:Int))=lv a*2 ^ s:=by rw [kb,re,w3]; omega
 simp only
 generalize w++List.replicate (a.length+1 - w.length) (0:Int)=u0 at*
 obtain ⟨K,hK⟩:∃ K,a.length=K+m+1:=⟨a.length - m - 1,A0⟩
 rw [show ws .i64 (u0.length:Int) (v.length:Int)=(K:Int) by rw [hu0l,hvl,V2 A0 A0]; omega,J0,Y5]
 refine ⟨A0,A0,?_⟩
 rw [A1,B5,V2 (x:=(K:Int)) A0 A0,J0]
 have htopu:lv (u0.drop K) < lv v:=by
  have h9:lv u0=lv (u0.take K)+pw K*lv (u0.drop K):=J7 u0 A0
  have h8:=X1 (LW.take hu0w K)
  have h7:pw K*lv (u0.drop K) < pw a.length*2 ^ s:=by rw [w3] at hwlt; omega
  have h6:pw a.length=pw K*pw (m+1):=by rw [hK,show K+m+1=K+(m+1) by omega,L7]
  rw [h6,N6] at h7
  have h5:lv (u0.drop K) < pw (m+1)*2 ^ s:=SD h7 (U7 (W1 K))
  have h4:pw (m+1)*2 ^ s≤pw (m+1)*2147483648:=B3 p2 A0
  rw [I2 (pw (m+1)) 2147483648] at h4
  rw [v3]; omega
 refine (DC hu0w v1 hvl A0 A0 htop htopu).mono ?_
 rintro ⟨q,u⟩ ⟨q1,q2,u1,u2,u3,u4⟩
 simp only at q1 q2 u1 u2 u3 u4 ⊢
 have hnl:(v.length:Int)=((m+2:Nat):Int):=by rw [hvl]
 rw [hnl,J0,Qc]
 refine ⟨A0,A0,A0,?_⟩
 rw [A1,show ((0:Int)).toNat=0 from rfl,B9]
 have htl:LW (u.take (m+2)):=LW.take u1 _
 have hut:lv (u.take (m+2))=lv u:=by
  have h9:lv u=lv (u.take (m+2))+pw (m+2)*lv (u.drop (m+2)):=J7 u A0
  have h8:=X1 htl
  have h7:=X1 (LW.drop u1 (m+2))
  have h6:lv (u.drop (m+2))=0:=by
   refine H1 fun hc=>?_
   have:pw (m+2)*1≤pw (m+2)*lv (u.drop (m+2)):=B3 A0 (by have:=W1 (m+2); omega)
   rw [v3] at u4; omega
  rw [h6] at h9; omega
 rw [S4 htl (by rw [Z3]; omega),obs,J0]
 refine (zC (S3 htl) (by have:=O5 htl; rw [Z3] at this; omega) hs32).mono ?_
 rintro d ⟨d1,d2,d3⟩
 rw [S4 q1 A0,obs]
 rw [O1,hut] at d3
 refine ⟨_,rfl,S3 q1,B4 _,d1,d2,?_⟩
 show lv (trimL q)=_∧lv d.1=_
 rw [O1]
 have hunn:=X1 u1
 rw [hu0v,v3] at u3
 rw [v3] at u4
 have hR:lv u=(lv a - lv q*lv b)*2 ^ s:=by
  have:(lv a - lv q*lv b)*2 ^ s=lv a*2 ^ s - lv q*(lv b*2 ^ s):=by grind
  omega
 have r0:0≤lv a - lv q*lv b:=by
  refine H1 fun hc=>?_
  have:(lv a - lv q*lv b)*2 ^ s≤(-1)*2 ^ s:=X2 A0 A0
  omega
 have r1:lv a - lv q*lv b < lv b:=by
  rw [hR] at u4
  exact QD u4 (U7 p1)
 have hq:lv q=lv a / lv b:=Qt.eq (u:=lv a) (v:=lv b) ⟨A0,by rw [Hb,E4]; omega⟩ hbpos
 refine ⟨hq,?_⟩
 rw [d3,hR,ll _ A0]
 have h9:=P4 (lv a) (lv b)
 rw [← hq] at h9
 have h8:lv q*lv b=lv b*lv q:=I2 _ _
 omega
theorem BC {s t:Bool} {a b:LI} (ha:LW a) (hb:LW b) (hn:a.length≤800) (hm:b.length≤800) (hne:sv t b≠0):Ret (m_hw s a t b) (fun r=>Bg (sv s a / sv t b) r.1 r.2.1∧Bg (sv s a % sv t b) r.2.2.1 r.2.2.2.1∧r.2.2.2.2=0):=by
 have la:=O5 ha
 have lb:=O5 hb
 have wa':=S3 ha
 have wb':=S3 hb
 have ta:=B4 a
 have tb:=B4 b
 have hb0:trimL b≠[]:=by
  intro h
  have:lv b=0:=by rw [← O1,h]; rfl
  apply hne
  unfold sv; rw [this]; split<;>rfl
 have hbl:=Cb.2 hb0
 have hbpos:0 < lv b:=by
  have h1:=G9 wb' tb hb0
  rw [O1] at h1
  have:=W1 ((trimL b).length - 1)
  omega
 obtain ⟨q,r,hd,q1,q2,r1,r2,q3,r3⟩:=Ht wa' wb' ta tb hb0 A0 A0
 rw [O1,O1] at q3 r3
 have h0:=X1 ha
 have e0:=L3 (lv a) (show lv b≠0 by omega)
 have e1:=M3 (lv a) hbpos
 have hdm:=P4 (lv a) (lv b)
 have hq0:0≤lv a / lv b:=N5 h0 A0
 have hqle:lv a / lv b≤lv a:=Hd _ h0
 have hap:=O7 ha hn
 have hbp:=O7 hb hm
 have hp8:2*pw 800≤pw 801:=by
  have:=W1 800
  show 2*pw 800≤B*pw 800
  unfold B; omega
 have hql:q.length≤801:=P7 q1 q2 A0
 have hrl:r.length≤801:=P7 r1 r2 A0
 have fin:∀ x y:LI,LW x→x.length≤1000→LW y→y.length≤1000→sv (!(s == t)) x=sv s a / sv t b→lv y=sv s a % sv t b→Ret (m_hv s t x y) (fun r=>Bg (sv s a / sv t b) r.1 r.2.1∧Bg (sv s a % sv t b) r.2.2.1 r.2.2.2.1∧r.2.2.2.2=0):=by
  intro x y hx hxl hy hyl h1 h2
  unfold m_hv
  rw [J0]
  refine (Q7 _ hx A0).mono fun g hg=>?_
  rw [J0]
  refine (Q7 false hy A0).mono fun f hf=>⟨_,rfl,hg.cast h1,hf.cast ?_,rfl⟩
  rw [← h2]; rfl
 have quot:∀ z w:Int,sv s a=sv t b*z+w→0≤w→w < lv b→z=sv s a / sv t b∧w=sv s a % sv t b:=by
  intro z w h1 h2 h3
  have h4:w=sv s a % sv t b:=by
   rw [h1,PD]
   unfold sv
   split
   ·rw [Int.emod_neg,Y4 h2 h3]
   ·rw [Y4 h2 h3]
  refine ⟨?_,h4⟩
  have h5:=P4 (sv s a) (sv t b)
  have h6:sv t b*(z - sv s a / sv t b)=0:=by rw [C9]; omega
  rcases L4.1 h6 with h | h
  ·exact absurd h hne
  ·omega
 unfold m_hw
 rw [S4 hb A0,obs,B0,S4 ha A0,obs,hd,obs]
 simp only
 rw [O0]
 refine ⟨fun hc=>?_,fun hc=>?_⟩
 ·simp only [V3,decide_eq_true_eq] at hc
  obtain ⟨hs,hrp⟩:=hc
  subst hs
  have hr0:lv r≠0:=fun h=>by rw [(Rc r1 r2).1 h] at hrp; simp at hrp
  rw [J0]
  refine (aj q1 (b:=[1]) (LW.one.2 ⟨A0,by unfold B; omega⟩) A0 H0).mono ?_
  rintro x ⟨x1,x2,x3⟩
  have l1:lv [1]=1:=by simp [lv]
  rw [l1] at x3
  rw [J0]
  have hll:r.length≤(trimL b).length:=by
   refine H1 fun hc=>?_
   have:=z7 wb' r1 tb r2 A0
   rw [O1] at this; omega
  refine (minus_ok wb' r1 A0 hll (by rw [O1]; omega)).mono ?_
  rintro y ⟨y1,y2,y3⟩
  rw [O1] at y3
  have hxl:x.length≤801:=P7 x1 x2 (by have:=W1 800; omega)
  have hyl:y.length≤801:=P7 y1 y2 A0
  obtain ⟨k1,k2⟩:=quot (sv (!(true == t)) x) (lv y) (by
   unfold sv
   rw [x3,y3,r3,q3]
   cases t
   ·simp
    have h7:lv b*(lv a / lv b+1)=lv b*(lv a / lv b)+lv b:=by grind
    rw [Pe]; omega
   ·simp
    have h7:lv b*(lv a / lv b+1)=lv b*(lv a / lv b)+lv b:=by grind
    rw [lh]; omega) (X1 y1) A0
  exact fin x y x1 A0 y1 A0 k1 k2
 ·simp only [V3,decide_eq_true_eq,not_and] at hc
  obtain ⟨k1,k2⟩:=quot (sv (!(s == t)) q) (lv r) (by
   have n1: -lv b*(lv a / lv b)= -(lv b*(lv a / lv b)):=by grind
   have n2:lv b* -(lv a / lv b)= -(lv b*(lv a / lv b)):=by grind
   have n3: -lv b* -(lv a / lv b)=lv b*(lv a / lv b):=by grind
   unfold sv
   rw [q3]
   cases s
   ·cases t
    ·simp
     first | omega | grind
    ·simp
     first | omega | grind
   ·have hr0:lv r=0:=by
     have h1:=hc rfl
     have:r=[]:=U6 A0
     rw [this]; rfl
    cases t
    ·simp
     first | omega | grind
    ·simp; omega) A0 A0
  exact fin q r q1 A0 r1 A0 k1 k2
theorem Uw {A W Z v:LI} {g:Int} (hg:0≤g∧g < B) (hW:LW W) (hv:LW v) (hl:W.length=v.length+1) (hm:v.length≤5000) (hA:A.length≤10000):
  ∃ X,m_df (A++W++Z) v (A.length:Int) g=some (if g*lv v≤lv W then (A++X++Z,true) else (A++W++Z,false))∧LW X∧X.length=W.length∧(g*lv v≤lv W→lv X=lv W - g*lv v):=by
 have e:B=4294967296:=rfl
 have hat:∀ {i:Nat} {x:Int},W[i]?=some x→(A++W++Z)[i+A.length]?=some x:=by
  intro i x hx
  have hi:=(S2.1 hx).1
  rw [T7,I6 A0,Nat.add_sub_cancel,B6 hi]; exact hx
 have l3:Ret (loop (m_de v (A++W++Z) (A.length:Int) g) (List.replicate (v.length+1) 0,0,0,0)) (fun r=>LW r.1∧r.1.length=v.length+1∧(r.2=0∨r.2=1)∧lv r.1=lv W - g*lv v+pw (v.length+1)*r.2):=by
  refine (Q0 (Post:=fun r:LI×Int=>LW r.1∧r.1.length=v.length+1∧(r.2=0∨r.2=1)∧lv r.1=lv W - g*lv v+pw (v.length+1)*r.2) (v.length+1) (fun k (s:LI×Int×Int×Int)=>s.2.2.2=(k:Int)∧k≤v.length+1∧LW s.1∧s.1.length=v.length+1∧(s.2.1=0∨s.2.1=1)∧(0≤s.2.2.1∧s.2.2.1 < B)∧(k=v.length+1→s.2.2.1=0)∧lv (s.1.take k)=lv (W.take k) - g*lv (v.take k)+pw k*(s.2.2.1+s.2.1)) ⟨rfl,A0,ib _,B5 ..,.inl rfl,⟨by show (0:Int)≤0; omega,by show (0:Int) < B; omega⟩,fun _=>rfl,by simp [lv]⟩ ?_ A0)
  rintro k ⟨o,b,c,_⟩ hk ⟨rfl,hk1,o1,o2,b1,c1,c2,hI⟩
  simp only at o1 o2 b1 c1 c2 hI
  unfold m_de
  simp only
  rw [O0]
  refine ⟨fun hle=>?_,fun hgt=>⟨_,rfl,o1,o2,b1,?_⟩⟩
  ·have hkv:k < v.length+1:=A0
   obtain ⟨x,hx⟩:=N4 (l:=W) (k:=k) A0
   have hxB:=LW.get hW hx
   have key:∀ d:Int,0≤d→d < 18446744073709551616→(k=v.length→d < B)→lv (W.take (k+1)) - g*lv (v.take (k+1))=lv (o.take k)+pw k*x - pw k*b - pw k*d→Ret (m_dd (A++W++Z) (k:Int) (A.length:Int) o b d) (VQ (fun s:LI×Int×Int×Int=>k < v.length+1∧s.2.2.2=((k+1:Nat):Int)∧k+1≤v.length+1∧LW s.1∧s.1.length=v.length+1∧(s.2.1=0∨s.2.1=1)∧(0≤s.2.2.1∧s.2.2.1 < B)∧(k+1=v.length+1→s.2.2.1=0)∧lv (s.1.take (k+1))=lv (W.take (k+1)) - g*lv (v.take (k+1))+pw (k+1)*(s.2.2.1+s.2.1)) (fun r:LI×Int=>LW r.1∧r.1.length=v.length+1∧(r.2=0∨r.2=1)∧lv r.1=lv W - g*lv v+pw (v.length+1)*r.2)):=by
    intro d d0 d1 dk hd
    unfold m_dd
    have hm1:=L3 d (show B≠0 by omega)
    have hm2:=M3 d (show 0 < B by omega)
    have hdm:=P4 d B
    have q0:0≤d / B:=N5 d0 A0
    have q1:d / B < B:=P6 A0 (by rw [e]; omega)
    obtain ⟨k1,k2⟩:=dq (v:=x - b - d % B) A0 A0
    have hz0:0≤(x - b - d % B) % 18446744073709551616:=L3 _ A0
    have et:ws .u64 (ws .u64 (wc .u64 x) b) (wand .u64 d 4294967295)=(x - b - d % B) % 18446744073709551616:=by
     rw [P2 (x:=x) ⟨hxB.1,A0⟩,N8 ⟨d0,d1⟩,y7,y7]; omega
    rw [U0 (x:=(k:Int)) (y:=(A.length:Int)) A0 A0,Q5 (hat hx) A0,obs,et,L8,gm hz0,W6 d0,k1,k2,J0,K4,A1]
    have hy0:0≤x - b - d % B+B*(if x - b - d % B < 0 then 1 else 0)∧x - b - d % B+B*(if x - b - d % B < 0 then 1 else 0) < B:=by split<;>omega
    refine ⟨A0,A0,_,rfl,hkv,by show wa .i64 (k:Int) 1=_; rw [U0 A0 A0]; rfl,A0,S8 o1 hy0,by show (o.set k _).length=_; rw [O3,o2],by show (if x - b - d % B < 0 then (1:Int) else 0)=0∨(if x - b - d % B < 0 then (1:Int) else 0)=1; split<;>omega,⟨q0,q1⟩,fun hk2=>by show d / B=0; exact Va d0 (dk A0),?_⟩
    show lv ((o.set k _).take (k+1))=_+pw (k+1)*(d / B+(if x - b - d % B < 0 then 1 else 0))
    rw [de A0,hd]
    simp only [pw]
    generalize (if x - b - d % B < 0 then (1:Int) else 0)=β
    generalize d / B=q at*
    generalize d % B=r at*
    rw [← hdm]
    grind
   rw [O0]
   refine ⟨fun hlt=>?_,fun hge=>?_⟩
   ·obtain ⟨y,hy⟩:=N4 (l:=v) (k:=k) A0
    have hyB:=LW.get hv hy
    have p0:=K3 hg.1 hyB.1
    have p1:g*y≤4294967295*4294967295:=J8 A0 A0 hyB.1 A0
    rw [Q5 hy rfl,obs,P2 (x:=y) ⟨hyB.1,A0⟩,Ld ⟨p0,A0⟩,Q6 ⟨A0,A0⟩]
    refine key (c+g*y) A0 A0 (fun h=>absurd h A0) ?_
    rw [M4 hx,M4 hy,hI]
    grind
   ·refine key c c1.1 A0 (fun _=>c1.2) ?_
    rw [M4 hx,Td (a:=v) A0,hI]
    grind
  ·have hke:k=v.length+1:=A0
   have hc0:=c2 hke
   subst hke
   rw [P5 A0,P5 A0,P5 (l:=v) A0,hc0] at hI
   show lv o=_+pw (v.length+1)*b
   rw [hI]; simp
 obtain ⟨⟨o,b⟩,hL,o1,o2,b1,hO⟩:=l3
 simp only at o1 o2 b1 hO
 have hOlt:=C4 o1
 have hOnn:=X1 o1
 rw [o2] at hOlt
 have hpos:=W1 (v.length+1)
 have hmk:mkL (0:Int) (wa .i64 (v.length:Int) 1)=some (List.replicate (v.length+1) 0):=by
  rw [U0 A0 A0]
  exact Ret.eq (by rw [Y5]; exact ⟨A0,A0,by rw [show ((v.length:Int)+1).toNat=v.length+1 by omega]⟩)
 refine ⟨o,?_,o1,A0,?_⟩
 ·unfold m_df
  rw [hmk,obs,hL,obs]
  simp only
  rcases b1 with hb | hb
  ·rw [hb] at hO
   rw [M0 hb,C0]
   refine Ret.eq ?_
   rw [J0]
   refine (Q0 (Post:=fun r=>r=A++o++Z) (v.length+1) (fun k (s:LI×Int)=>s=(A++(o.take k++W.drop k)++Z,(k:Int))∧k≤v.length+1) ⟨H0,A0⟩ ?_ A0).mono ?_
   ·rintro k _ hk ⟨rfl,hk1⟩
    unfold m_dc
    simp only
    rw [O0]
    refine ⟨fun hle=>?_,fun hgt=>⟨_,rfl,?_⟩⟩
    ·obtain ⟨x,hx⟩:=N4 (l:=o) (k:=k) A0
     obtain ⟨y,hy⟩:=N4 (l:=W) (k:=k) A0
     have h1:=(S2.1 hy)
     rw [Q5 hx rfl,obs,U0 (x:=(k:Int)) (y:=(A.length:Int)) A0 A0,J0,K4]
     have hlen:(A++(o.take k++W.drop k)++Z).length=A.length+W.length+Z.length:=by
      simp only [P1,Z3,y6]; omega
     refine ⟨A0,by rw [hlen]; omega,_,rfl,A0,?_,A0⟩
     rw [U0 A0 A0,show ((k:Int)+(A.length:Int)).toNat=A.length+k by omega]
     have hotk:(o.take k).length=k:=by rw [Z3]; omega
     have hset:(A++(o.take k++W.drop k)++Z).set (A.length+k) x=A++(o.take (k+1)++W.drop (k+1))++Z:=by
      have hdk:W.drop k=y::W.drop (k+1):=by rw [Ta h1.1,h1.2]
      rw [T7,zu _ _ A0,xu,T7,zu _ _ A0,hotk,E6,hdk,tks hx]
      simp only [T7,List.cons_append,xc,List.set_cons_zero]
     rw [hset]; rfl
    ·have hke:k=v.length+1:=A0
     subst hke
     show A++(o.take (v.length+1)++W.drop (v.length+1))++Z=_
     rw [P5 A0,O9 A0,Ke]
   ·rintro _ rfl
    exact ⟨_,rfl,rfl⟩
  ·rw [hb] at hO
   rw [B0,B0]
 ·intro hle
  rcases b1 with hb | hb
  ·rw [hb] at hO; omega
  ·rw [hb] at hO; omega
theorem EC {b u0 v:LI} {K m:Nat} (hu:LW u0) (hv:LW v) (hvl:v.length=m+1) (hbl:b.length=m+1) (hul:u0.length=K+m+1) (hK:K+m≤4000) (htop:∀ x,v[m]?=some x→0 < x) (h0:lv (u0.drop K) < lv v):
  Ret (loop (m_dh b v) (u0,List.replicate K 0,(K:Int) - 1)) (fun r=>LW r.2∧r.2.length=K∧LW r.1∧r.1.length=u0.length∧lv u0=lv r.2*lv v+lv r.1∧lv r.1 < lv v):=by
 have e:B=4294967296:=rfl
 refine (Q0 (Post:=fun r:LI×LI=>LW r.2∧r.2.length=K∧LW r.1∧r.1.length=u0.length∧lv u0=lv r.2*lv v+lv r.1∧lv r.1 < lv v) K (fun k (s:LI×LI×Int)=>s.2.2=(K:Int) - 1 - k∧k≤K∧LW s.2.1∧s.2.1.length=K∧LW s.1∧s.1.length=u0.length∧s.1.take (K - k)=u0.take (K - k)∧lv (u0.drop (K - k))=lv (s.2.1.drop (K - k))*lv v+lv (s.1.drop (K - k))∧lv (s.1.drop (K - k)) < lv v) ⟨by show (K:Int) - 1=_; omega,A0,ib K,B5 ..,hu,rfl,rfl,by show lv (u0.drop (K - 0))=lv ((List.replicate K (0:Int)).drop (K - 0))*lv v+lv (u0.drop (K - 0)); rw [pb,Dd,E6]; simp [lv],h0⟩ ?_ A0)
 rintro k ⟨u,q,_⟩ hk ⟨rfl,hkK,q1,q2,u1,u2,u3,u4,u5⟩
 simp only at q1 q2 u1 u2 u3 u4 u5
 unfold m_dh
 simp only
 rw [O0]
 refine ⟨fun hge=>?_,fun hlt=>⟨_,rfl,q1,q2,u1,u2,?_,?_⟩⟩
 ·obtain ⟨J,hJ⟩:∃ J:Nat,K=J+(k+1):=⟨K - (k+1),A0⟩
  have e1:(K:Int) - 1 - (k:Int)=(J:Int):=A0
  have e2:K - k=J+1:=A0
  have e3:K - (k+1)=J:=A0
  rw [e2] at u3 u4 u5
  obtain ⟨x,hx⟩:=N4 (l:=u) (k:=J) A0
  have hxB:=LW.get u1 hx
  have hxu0:u0[J]?=some x:=by
   have h1:(u.take (J+1))[J]?=u[J]?:=by rw [A6,C0]
   have h2:(u0.take (J+1))[J]?=u0[J]?:=by rw [A6,C0]
   rw [← h2,← u3,h1]; exact hx
  have hD:=T5 hx
  have hD0:=T5 hxu0
  have hvlt:=C4 hv
  rw [hvl] at hvlt
  have hn5:=X1 (LW.drop u1 (J+1))
  have hsplit:u=u.take J++(u.drop J).take (m+2)++u.drop (J+(m+2)):=by
   rw [T7]
   have h1:(u.drop J).take (m+2)++u.drop (J+(m+2))=u.drop J:=by rw [← na,Ab]
   rw [h1,Ab]
  have hAl:(u.take J).length=J:=by rw [Z3]; omega
  have hWl:((u.drop J).take (m+2)).length=m+2:=by rw [Z3,y6]; omega
  have hWlw:LW ((u.drop J).take (m+2)):=LW.take (LW.drop u1 J) _
  have hZlw:LW (u.drop (J+(m+2))):=LW.drop u1 _
  have hDW:lv (u.drop J)=lv ((u.drop J).take (m+2))+pw (m+2)*lv (u.drop (J+(m+2))):=by
   rw [J7 (u.drop J) (k:=m+2) (by rw [y6]; omega),na]
  have hDlt:lv (u.drop J) < lv v*B:=by
   have:B*(lv (u.drop (J+1))+1)≤B*lv v:=B3 A0 A0
   rw [O6,C6] at this
   rw [I2 (lv v)]; omega
  have hWnn:=X1 hWlw
  have hZnn:=X1 hZlw
  have hp3:pw (m+2)=B*pw (m+1):=rfl
  have hVB:lv v*B≤pw (m+2):=by
   rw [hp3,I2 B]; exact X2 A0 A0
  have hZ0:lv (u.drop (J+(m+2)))=0:=by
   refine H1 fun hc=>?_
   have:pw (m+2)*1≤pw (m+2)*lv (u.drop (J+(m+2))):=B3 A0 (by have:=W1 (m+2); omega)
   omega
  rw [hZ0,w4,V7] at hDW
  have hVpos:0 < lv v:=A0
  have hd0:0≤lv (u.drop J) / lv v:=N5 A0 A0
  have hd1:lv (u.drop J) / lv v < B:=P6 hVpos (by rw [I2]; exact hDlt)
  have hdm:=P4 (lv (u.drop J)) (lv v)
  have hr0:=L3 (lv (u.drop J)) (show lv v≠0 by omega)
  have hr1:=M3 (lv (u.drop J)) hVpos
  obtain ⟨vt,gt⟩:=N4 (l:=v) (k:=m) A0
  obtain ⟨w1,k1⟩:=N4 (l:=u) (k:=J+m) A0
  obtain ⟨wt,kt⟩:=N4 (l:=u) (k:=J+(m+1)) A0
  have bt:=LW.get hv gt
  have c1:=LW.get u1 k1
  have ct:=LW.get u1 kt
  have hvt:=htop vt gt
  have hV:lv v=vt*pw m+lv (v.take m):=by
   rw [J7 v (show m≤v.length by omega),T5 gt,O9 A0]
   simp only [lv]; grind
  have hU:lv (u.drop J)=(wt*B+w1)*pw m+lv ((u.drop J).take m):=by
   rw [J7 (u.drop J) (show m≤(u.drop J).length by rw [y6]; omega),na,T5 k1,show J+m+1=J+(m+1) by omega,T5 kt,show J+(m+1)+1=J+(m+2) by omega,hZ0]
   grind
  have tv:=R9 hv (i:=m) A0
  have tw:=R9 (LW.drop u1 J) (i:=m) (by rw [y6]; omega)
  have hge:lv (u.drop J) / lv v*vt≤wt*B+w1:=Ks (P:=pw m) (Qt.ediv hVpos) (W1 m) hU tw.2 hV tv.1 hvt hd0
  have et:wor .u64 (wslc .u64 (wc .u64 wt) 32) (wc .u64 w1)=wt*B+w1:=by
   rw [P2 (x:=wt) ⟨ct.1,A0⟩,P2 (x:=w1) ⟨c1.1,A0⟩,Hc ct,Q9 ct c1]
  have t0:0≤wt*B+w1:=by have:=K3 ct.1 (show 0≤B by omega); omega
  have t1:wt*B+w1 < 18446744073709551616:=by rw [e]; omega
  have hcv:wc .u64 vt=vt:=P2 ⟨A0,A0⟩
  have hwq:wq .u64 (wt*B+w1) vt=some ((wt*B+w1) / vt):=by
   unfold wq
   have h0:0≤(wt*B+w1) / vt:=N5 t0 A0
   have h1:(wt*B+w1) / vt≤wt*B+w1:=Hd _ t0
   rw [B0,kh t0,IntWalk.u64_in _ ⟨h0,A0⟩]
  have hq1:lv (u.drop J) / lv v≤(wt*B+w1) / vt:=(Se A0).2 hge
  have hbn:(b.length:Int)=((m+1:Nat):Int):=by rw [hbl]
  have i1:wa .i64 (J:Int) ((m+1:Nat):Int)=((J+(m+1):Nat):Int):=by rw [U0 A0 A0]; omega
  have i2:ws .i64 ((J+(m+1):Nat):Int) 1=((J+m:Nat):Int):=by rw [V2 A0 A0]; omega
  have i3:ws .i64 ((m+1:Nat):Int) 1=(m:Int):=by rw [V2 A0 A0]; omega
  rw [e1,hbn,i1,i2,i3,Q5 kt rfl,obs,Q5 k1 rfl,obs,Q5 gt rfl,obs,et,hcv,hwq,obs,J0]
  have hg0:0≤imin ((wt*B+w1) / vt) 4294967295∧imin ((wt*B+w1) / vt) 4294967295 < B∧lv (u.drop J) / lv v≤imin ((wt*B+w1) / vt) 4294967295:=by unfold imin; split<;>omega
  refine (Yq (Post:=fun r:LI×Int=>∃ X,r=(u.take J++X++u.drop (J+(m+2)),lv (u.drop J) / lv v)∧LW X∧X.length=m+2∧lv X=lv (u.drop J) % lv v) (fun (s:LI×Int)=>s.1=u∧s.2 < B∧lv (u.drop J) / lv v≤s.2) (fun s=>s.2.toNat) ⟨rfl,hg0.2.1,hg0.2.2⟩ (by show (imin _ _).toNat < _; omega) ?_).mono ?_
  ·rintro ⟨u',g⟩ ⟨hu',hgB,hgQ⟩
   simp only at hu' hgB hgQ
   unfold m_dg
   simp only
   rw [hu']
   obtain ⟨X,hX,x1,x2,x3⟩:=Uw (A:=u.take J) (W:=(u.drop J).take (m+2)) (Z:=u.drop (J+(m+2))) (g:=g) ⟨A0,hgB⟩ hWlw hv A0 A0 A0
   rw [← hsplit,← hDW,hAl] at hX
   rw [← hDW] at x3
   rw [hX,obs]
   by_cases hle:g*lv v≤lv (u.drop J)
   ·rw [M0 hle,M0 rfl]
    have hgq:g=lv (u.drop J) / lv v:=Int.le_antisymm ((Se hVpos).2 hle) hgQ
    refine ⟨_,rfl,X,by rw [hgq],x1,A0,?_⟩
    rw [x3 hle,hgq]
    have h8:lv (u.drop J) / lv v*lv v=lv v*(lv (u.drop J) / lv v):=I2 _ _
    omega
   ·rw [K0 hle,K0 H0]
    have hlt:lv (u.drop J) / lv v < g:=by
     refine H1 fun hc=>hle ?_
     exact (Se hVpos).1 A0
    have hw:ws .u64 g 1=g - 1:=by rw [y7]; omega
    refine ⟨_,rfl,⟨rfl,?_,?_⟩,?_⟩
    ·show ws .u64 g 1 < B; omega
    ·show _≤ws .u64 g 1; omega
    ·show (ws .u64 g 1).toNat < g.toNat; omega
  ·rintro _ ⟨X,rfl,x1,x2,x3⟩
   simp only
   rw [Z4 ⟨hd0,hd1⟩,J0,K4,A1]
   have hUl:(u.take J++X++u.drop (J+(m+2))).length=u0.length:=by
    rw [P1,P1,hAl,x2,y6]; omega
   have hUd:lv ((u.take J++X++u.drop (J+(m+2))).drop J)=lv X:=by
    rw [T7,Lu hAl,kb,hZ0]; omega
   refine ⟨A0,A0,_,rfl,A0,?_,A0,S8 q1 ⟨hd0,hd1⟩,by show (q.set J _).length=K; rw [O3,q2],LW.app.2 ⟨LW.app.2 ⟨LW.take u1 _,x1⟩,hZlw⟩,hUl,?_,?_,?_⟩
   ·show ws .i64 (J:Int) 1=_; rw [V2 A0 A0]; omega
   ·rw [e3]
    show (u.take J++X++u.drop (J+(m+2))).take J=_
    rw [T7,Ik hAl]
    have h1:u.take J=(u.take (J+1)).take J:=by rw [ah,G6 A0]
    rw [h1,u3,ah,G6 A0]
   ·rw [e3]
    show lv (u0.drop J)=lv ((q.set J (lv (u.drop J) / lv v)).drop J)*lv v+lv ((u.take J++X++u.drop (J+(m+2))).drop J)
    have hqJ:(q.set J (lv (u.drop J) / lv v))[J]?=some (lv (u.drop J) / lv v):=by rw [G5]; omega
    rw [hUd,x3,T5 hqJ,Eb A0,hD0,u4]
    generalize lv (u.drop J) / lv v=Q at*
    generalize lv (u.drop J) % lv v=R at*
    have h9:(Q+B*lv (q.drop (J+1)))*lv v=lv v*Q+B*(lv (q.drop (J+1))*lv v):=by grind
    rw [h9,O6]
    omega
   ·rw [e3]
    show lv ((u.take J++X++u.drop (J+(m+2))).drop J) < lv v
    rw [hUd,x3]; exact hr1
 ·have ek:K - k=0:=A0
  rw [ek] at u4
  exact u4
 ·have ek:K - k=0:=A0
  rw [ek] at u5
  exact u5
theorem HA {l:LI} (hn:l.length≤1000000) {N:Int} {q:Nat} (hq:wqc .i64 N 32=(q:Int)):∃ b,loop (m_u N l) (false,0)=some b∧((∀ x,x∈l.take q→x=0)→b=false):=by
 refine Q0 l.length (fun k (t:Bool×Int)=>t.2=(k:Int)∧k≤l.length∧((∀ x,x∈l.take q→x=0)→t.1=false)) ⟨rfl,A0,fun _=>rfl⟩ ?_ A0
 rintro k ⟨b,_⟩ hk ⟨rfl,_,h1⟩
 simp only at h1
 unfold m_u
 simp only
 rw [hq,O0]
 refine ⟨fun hc=>?_,fun _=>⟨_,rfl,h1⟩⟩
 rw [V3,decide_eq_true_eq,decide_eq_true_eq] at hc
 obtain ⟨x,hx⟩:=N4 (l:=l) (k:=k) A0
 have e1:∃ c,(if b=true then some true else (getI l (k:Int)).bind fun x93=>some (!(decide (x93=0))))=some c∧((∀ x,x∈l.take q→x=0)→c=false):=by
  split
  ·rename_i hb
   exact ⟨_,rfl,fun h=>by rw [h1 h] at hb; cases hb⟩
  ·rw [Q5 hx rfl,obs]
   refine ⟨_,rfl,fun h=>?_⟩
   have hm:x∈l.take q:=by
    have:(l.take q)[k]?=some x:=by rw [A6,C0]; exact hx
    exact U9 this
   rw [h x hm]; rfl
 obtain ⟨c,hc1,hc2⟩:=e1
 rw [hc1,obs]
 exact ⟨_,rfl,A0,by show wa .i64 (k:Int) 1=_; rw [U0 A0 A0]; rfl,A0,hc2⟩
theorem Hi {l:LI} (hl:LW l) (hn:l.length≤5000) {q s:Nat} (hq1:q≤1000000) (hs:s < 32):Ret (m_v l ((32*q+s:Nat):Int)) (fun r=>LW r.1∧r.1.length≤l.length∧lv r.1=lv l / (pw q*2 ^ s)∧(Tm l→lv l % (pw q*2 ^ s)=0→r.2=false)):=by
 have e:B=4294967296:=rfl
 obtain ⟨hq,hr⟩:=Pg (q:=q) A0 hs
 obtain ⟨p1,p2,p3,p4⟩:=Y7 hs
 obtain ⟨b0,hb0,hb1⟩:=HA (l:=l) A0 hq
 have ppos:=W1 q
 unfold m_v
 rw [hb0,obs,hq,J0]
 have hZ:Tm l→lv l % (pw q*2 ^ s)=0→l.length≤q→l=[]:=fun ht hm h0=>by
  have hb:=C4 hl
  have hle:pw l.length≤pw q:=S5 A0
  have hle2:pw q*1≤pw q*2 ^ s:=B3 A0 A0
  rw [Y4 (X1 hl) A0] at hm
  exact Za hl (b:=[]) (by intro x hx; cases hx) ht O8 hm
 have hb2:Tm l→lv l % (pw q*2 ^ s)=0→b0=false:=fun ht hm=>by
  by_cases h0:l.length≤q
  ·refine hb1 ?_
   rw [hZ ht hm h0]
   intro x hx; simp at hx
  ·exact hb1 (yg hl hs A0 hm).1
 refine (Q0 (Post:=fun o:Bool×LI=>LW o.2∧o.2.length≤l.length∧lv o.2=lv l / (pw q*2 ^ s)∧(Tm l→lv l % (pw q*2 ^ s)=0→o.1=false)) (l.length - q) (fun i (t:Bool×LI×Int)=>t.2.2=((q+i:Nat):Int)∧LW t.2.1∧t.2.1.length=i∧lv t.2.1+pw i*(lv (l.drop (q+i)) / 2 ^ s)=lv l / (pw q*2 ^ s)∧(Tm l→lv l % (pw q*2 ^ s)=0→t.1=false)) ⟨rfl,by intro x hx; simp at hx,rfl,?_,hb2⟩ ?_ A0).mono ?_
 ·show lv []+pw 0*(lv (l.drop (q+0)) / 2 ^ s)=_
  rw [w9]
  by_cases h0:q≤l.length
  ·rw [Kt hl h0 s]; simp [lv,pw]
  ·have hb:=C4 hl
   have hle:pw l.length≤pw q:=S5 A0
   have hle2:pw q*1≤pw q*2 ^ s:=B3 A0 A0
   rw [Va (X1 hl) A0,O9 A0]
   show (0:Int)+1*(0 / 2 ^ s)=0
   rw [al]; rfl
 ·rintro i ⟨b,o,_⟩ hi ⟨rfl,h1,h2,h3,h4⟩
  simp only at h1 h2 h3 h4
  unfold m_t
  simp only
  rw [O0]
  refine ⟨fun hlt=>?_,fun hge=>⟨_,rfl,h1,by show o.length≤_; omega,?_,h4⟩⟩
  ·have hia:q+i < l.length:=A0
   obtain ⟨x,hx⟩:=N4 (l:=l) (k:=q+i) hia
   have hxB:=LW.get hl hx
   have eqj:wa .i64 ((q+i:Nat):Int) 1=((q+i+1:Nat):Int):=by rw [U0 A0 A0]; omega
   rw [Q5 hx rfl,obs,eqj]
   have key:∀ y E:Int,0≤y→y < B→0≤E→lv (l.drop (q+i+1))=y+B*E→Ret (m_s ((q+i:Nat):Int) ((32*q+s:Nat):Int) l o b (x+B*y)) (VQ (fun t':Bool×LI×Int=>i < l.length - q∧t'.2.2=((q+(i+1):Nat):Int)∧LW t'.2.1∧t'.2.1.length=i+1∧lv t'.2.1+pw (i+1)*(lv (l.drop (q+(i+1))) / 2 ^ s)=lv l / (pw q*2 ^ s)∧(Tm l→lv l % (pw q*2 ^ s)=0→t'.1=false)) (fun o:Bool×LI=>LW o.2∧o.2.length≤l.length∧lv o.2=lv l / (pw q*2 ^ s)∧(Tm l→lv l % (pw q*2 ^ s)=0→o.1=false))):=by
    intro y E y0 y1 E0 hE
    have t0:0≤x+B*y:=by have:=K3 (show 0≤B by omega) y0; omega
    have t1:x+B*y < 18446744073709551616:=by rw [e]; omega
    have hsh:wshr .u64 (x+B*y) (wrc ((32*q+s:Nat):Int) 32)=some ((x+B*y) / 2 ^ s):=by
     rw [hr]
     unfold wshr
     rw [B0,A1]
     show some (Int.fdiv _ (2 ^ min s 64))=_
     rw [G6 A0,Gd _ A0]
    have hm:=L3 ((x+B*y) / 2 ^ s) (show B≠0 by omega)
    have hm2:=M3 ((x+B*y) / 2 ^ s) (show 0 < B by omega)
    have fin:∀ c:Bool,(Tm l→lv l % (pw q*2 ^ s)=0→c=false)→Ret (m_r (x+B*y) ((32*q+s:Nat):Int) o ((q+i:Nat):Int) c) (VQ (fun t':Bool×LI×Int=>i < l.length - q∧t'.2.2=((q+(i+1):Nat):Int)∧LW t'.2.1∧t'.2.1.length=i+1∧lv t'.2.1+pw (i+1)*(lv (l.drop (q+(i+1))) / 2 ^ s)=lv l / (pw q*2 ^ s)∧(Tm l→lv l % (pw q*2 ^ s)=0→t'.1=false)) (fun o:Bool×LI=>LW o.2∧o.2.length≤l.length∧lv o.2=lv l / (pw q*2 ^ s)∧(Tm l→lv l % (pw q*2 ^ s)=0→o.1=false))):=by
     intro c hc
     unfold m_r
     rw [hsh,obs,L8,J0,D2]
     refine ⟨by rw [h2]; simp only [E2,N2]; omega,_,rfl,A0,by show wa .i64 ((q+i:Nat):Int) 1=_; rw [eqj]; rfl,LW.app.2 ⟨h1,LW.one.2 ⟨hm,hm2⟩⟩,by show (o++[_]).length=_; rw [P1,h2]; rfl,?_,hc⟩
     show lv (o++[(x+B*y) / 2 ^ s % B])+pw (i+1)*(lv (l.drop (q+i+1)) / 2 ^ s)=_
     rw [W9,h2,← h3,T5 hx,hE,qq hs hxB y0]
     simp only [pw]
     generalize (x+B*y) / 2 ^ s % B=u
     generalize (y+B*E) / 2 ^ s=v
     grind
    unfold m_s
    have hb:∃ c:Bool,(if ((q+i:Nat):Int)=wqc .i64 ((32*q+s:Nat):Int) 32 then (getI l ((q+i:Nat):Int)).bind fun x76=>(wshl .u32 1 (wrc ((32*q+s:Nat):Int) 32)).bind fun x77=>some (!(decide ((wand .u32 x76 (ws .u32 x77 1))=0))) else some false)=some c∧(lv l % (pw q*2 ^ s)=0→c=false):=by
     split
     ·rename_i he
      rw [hq] at he
      have hi0:i=0:=A0
      subst hi0
      rw [Q5 hx rfl,obs,hr,zq hs,obs]
      refine ⟨_,rfl,fun hm=>?_⟩
      rw [jm hs hxB ((yg hl hs A0 hm).2 x hx)]; rfl
     ·exact ⟨_,rfl,fun _=>rfl⟩
    obtain ⟨c,hc,hc2⟩:=hb
    rw [hc,obs,O0]
    exact ⟨fun ht=>fin _ fun _ hm=>(by rw [hc2 hm] at ht; cases ht),fun _=>fin _ h4⟩
   have hcx:wc .u64 x=x:=P2 ⟨hxB.1,A0⟩
   rw [O0]
   refine ⟨fun hl2=>?_,fun hl2=>?_⟩
   ·obtain ⟨y,hy⟩:=N4 (l:=l) (k:=q+i+1) A0
    have hyB:=LW.get hl hy
    have hor:wor .u64 (wc .u64 x) (wslc .u64 (wc .u64 y) 32)=x+B*y:=by
     rw [hcx,P2 (x:=y) ⟨hyB.1,A0⟩,Hc hyB]
     have:wor .u64 x (y*B)=wor .u64 (y*B) x:=by unfold wor; rw [BitVec.or_comm]
     rw [this,Q9 hyB hxB,I2]; omega
    rw [Q5 hy rfl,obs,hor]
    exact key y (lv (l.drop (q+i+1+1))) hyB.1 hyB.2 (X1 (LW.drop hl _)) (T5 hy)
   ·have hE:lv (l.drop (q+i+1))=0:=by rw [O9 A0]; rfl
    have:=key 0 0 A0 A0 A0 (by rw [hE]; rfl)
    rw [w4,V7] at this
    rw [hcx]
    exact this
  ·rw [← h3,O9 A0]
   show lv o=lv o+pw i*(0 / 2 ^ s)
   rw [al]; omega
 ·rintro ⟨b,o⟩ ⟨h1,h2,h3,h4⟩
  exact ⟨_,rfl,h1,h2,h3,h4⟩
theorem Ox {l:LI} (hl:LW l) (hn:l.length≤5000) {s:Nat} (hs:s < 32):Ret (m_v l (s:Int)) (fun r=>LW r.1∧r.1.length≤l.length∧lv r.1=lv l / 2 ^ s):=by
 have:=Hi hl hn (q:=0) A0 hs
 rw [show 32*0+s=s by omega] at this
 exact this.mono fun u hu=>⟨hu.1,hu.2.1,by rw [hu.2.2.1]; show _ / (1*_)=_; rw [E4]⟩
theorem CC {a b:LI} (ha:LW a) (hb:LW b) (ta:Tm a) (tb:Tm b) (hne:b≠[]) (hn:a.length≤900) (hm:b.length≤900):Ret (m_dj a b) (fun r=>LW r.1∧r.1.length≤901∧LW r.2∧r.2.length≤901∧lv r.1=lv a / lv b∧lv r.2=lv a % lv b):=by
 have e:B=4294967296:=rfl
 have hbl:0 < b.length:=Cb.2 hne
 have hbpos:0 < lv b:=by
  have h1:=G9 hb tb hne
  have:=W1 (b.length - 1)
  omega
 have h0:=X1 ha
 unfold m_dj
 rw [Wj ha hb ta tb A0 A0,obs]
 by_cases hlt:lv a < lv b
 ·rw [M0 hlt,C0]
  exact ⟨_,rfl,by intro x hx; simp at hx,H0,ha,by show a.length≤901; omega,by rw [Va h0 hlt]; rfl,by rw [Y4 h0 hlt]⟩
 obtain ⟨m,hbm⟩:∃ m,b.length=m+1:=⟨b.length - 1,A0⟩
 have hab:b.length≤a.length:=by
  refine H1 fun hc=>?_
  have:=z7 ha hb ta tb A0
  omega
 obtain ⟨bt,gt⟩:=N4 (l:=b) (k:=m) A0
 have hbt:=LW.get hb gt
 have hbt0:0 < bt:=by
  have:=tb bt (by rw [Tk,hbm]; exact gt)
  omega
 obtain ⟨s,hs,hs32,hs1,hs2⟩:=Cs hbt0 hbt.2
 obtain ⟨p1,p2,p3,p4⟩:=Y7 hs32
 have hpm:=W1 m
 have hV:lv b=lv (b.take m)+pw m*bt:=by rw [← M4 gt,P5 A0]
 have hbtk:=R9 hb (i:=m) A0
 have hbt2:bt < 2 ^ (32 - s):=by
  refine H1 fun hc=>?_
  have:2 ^ (32 - s)*2 ^ s≤bt*2 ^ s:=X2 A0 A0
  rw [I2] at this; omega
 have h3:(bt+1)*2 ^ s≤B:=by
  have:(bt+1)*2 ^ s≤2 ^ (32 - s)*2 ^ s:=X2 A0 A0
  rw [I2 (2 ^ (32 - s))] at this; omega
 have t1:lv b*2 ^ s < pw (m+1):=by
  have h4:lv b*2 ^ s < (pw m*(bt+1))*2 ^ s:=qa (by rw [O6]; omega) p1
  have h5:pw m*((bt+1)*2 ^ s)≤pw m*B:=B3 h3 A0
  have h6:pw (m+1)=B*pw m:=rfl
  rw [N6] at h4
  rw [h6,I2 B]; omega
 have t2:2147483648*pw m≤lv b*2 ^ s:=by
  have h4:pw m*bt*2 ^ s≤lv b*2 ^ s:=X2 A0 A0
  have h5:pw m*2147483648≤pw m*(bt*2 ^ s):=B3 A0 A0
  rw [N6] at h4
  rw [I2 2147483648]; omega
 have hcmp:¬ (if lv a < lv b then (-1:Int) else if lv b < lv a then 1 else 0) < 0:=by rw [K0 hlt]; split<;>omega
 have hn1:ws .i64 (b.length:Int) 1=(m:Int):=by rw [hbm,V2 A0 A0]; omega
 rw [K0 hcmp,hn1,Q5 gt rfl,obs,hs,obs,J0]
 refine (uq ha A0 hs32).mono ?_
 rintro u0 ⟨w1,w2,w3⟩
 rw [J0]
 refine (uq hb A0 hs32).mono ?_
 rintro v0 ⟨y1,y2,y3⟩
 rw [J0,Qc]
 refine ⟨A0,A0,A0,?_⟩
 rw [A1,show ((0:Int)).toNat=0 from rfl,B9,hbm,B0]
 have v1:LW (v0.take (m+1)):=LW.take y1 _
 have hvl:(v0.take (m+1)).length=m+1:=by rw [Z3]; omega
 have v3:lv (v0.take (m+1))=lv b*2 ^ s:=by
  have h9:lv v0=lv (v0.take (m+1))+pw (m+1)*lv (v0.drop (m+1)):=J7 v0 A0
  have h8:=X1 v1
  have h7:=X1 (LW.drop y1 (m+1))
  have h6:lv (v0.drop (m+1))=0:=by
   refine H1 fun hc=>?_
   have:pw (m+1)*1≤pw (m+1)*lv (v0.drop (m+1)):=B3 A0 (by have:=W1 (m+1); omega)
   omega
  rw [h6] at h9; omega
 generalize v0.take (m+1)=v at*
 obtain ⟨K,hK⟩:∃ K,a.length=K+m:=⟨a.length - m,A0⟩
 unfold m_di
 have hKe:wa .i64 (ws .i64 (a.length:Int) (b.length:Int)) 1=(K:Int):=by
  rw [V2 A0 A0,U0 A0 A0]; omega
 have hKe2:ws .i64 (a.length:Int) (b.length:Int)=(K:Int) - 1:=by rw [V2 A0 A0]; omega
 rw [hKe,hKe2,J0,Y5]
 refine ⟨A0,A0,?_⟩
 rw [A1,J0]
 have htop:∀ x,v[m]?=some x→0 < x:=by
  intro x hx
  refine H1 fun hc=>?_
  have hVx:lv v=lv (v.take m)+pw m*x:=by rw [← M4 hx,P5 A0]
  have ht:=R9 v1 (i:=m) A0
  have h4:pw m*x≤pw m*0:=B3 A0 A0
  omega
 have htopu:lv (u0.drop K) < lv v:=by
  have h9:lv u0=lv (u0.take K)+pw K*lv (u0.drop K):=J7 u0 A0
  have h8:=X1 (LW.take w1 K)
  have hwlt:lv u0 < pw a.length*2 ^ s:=by rw [w3]; exact qa (C4 ha) p1
  have h7:pw K*lv (u0.drop K) < pw a.length*2 ^ s:=A0
  have h6:pw a.length=pw K*pw m:=by rw [hK,L7]
  rw [h6,N6] at h7
  have h5:lv (u0.drop K) < pw m*2 ^ s:=SD h7 (U7 (W1 K))
  have h4:pw m*2 ^ s≤pw m*2147483648:=B3 p2 A0
  rw [I2 (pw m) 2147483648] at h4
  rw [v3]; omega
 refine (EC w1 v1 hvl hbm A0 A0 htop htopu).mono ?_
 rintro ⟨u,q⟩ ⟨q1,q2,u1,u2,u3,u4⟩
 simp only at q1 q2 u1 u2 u3 u4 ⊢
 rw [Z7 u1 A0,obs,J0]
 have lu:=O5 u1
 refine (Ox (S3 u1) A0 hs32).mono ?_
 rintro ⟨d,lost⟩ ⟨d1,d2,d3⟩
 simp only at d1 d2 d3 ⊢
 rw [Z7 q1 A0,obs,Z7 d1 A0,obs]
 rw [O1] at d3
 have lq:=O5 q1
 have ld:=O5 d1
 refine ⟨_,rfl,S3 q1,by show (trimL q).length≤901; omega,S3 d1,by show (trimL d).length≤901; omega,?_⟩
 show lv (trimL q)=_∧lv (trimL d)=_
 rw [O1,O1]
 have hunn:=X1 u1
 rw [w3,v3] at u3
 rw [v3] at u4
 have hR:lv u=(lv a - lv q*lv b)*2 ^ s:=by
  have:(lv a - lv q*lv b)*2 ^ s=lv a*2 ^ s - lv q*(lv b*2 ^ s):=by grind
  omega
 have r0:0≤lv a - lv q*lv b:=by
  refine H1 fun hc=>?_
  have:(lv a - lv q*lv b)*2 ^ s≤(-1)*2 ^ s:=X2 A0 A0
  omega
 have r1:lv a - lv q*lv b < lv b:=by
  rw [hR] at u4
  exact QD u4 (U7 p1)
 have hq:lv q=lv a / lv b:=Qt.eq (u:=lv a) (v:=lv b) ⟨A0,by rw [Hb,E4]; omega⟩ hbpos
 refine ⟨hq,?_⟩
 rw [d3,hR,ll _ A0]
 have h9:=P4 (lv a) (lv b)
 rw [← hq] at h9
 have h8:lv q*lv b=lv b*lv q:=I2 _ _
 omega
theorem xr {x y z w:Int} (hy:y≠0) (h:x=y*z+w) (h0:0≤w) (h1:w < y∨w < -y):z=x / y∧w=x % y:=by
 have h4:w=x % y:=by
  rw [h,PD]
  rcases h1 with h1 | h1
  ·rw [Y4 h0 h1]
  ·have:=Int.emod_neg w y
   rw [← this,Y4 h0 h1]
 refine ⟨?_,h4⟩
 have h5:=P4 x y
 have h6:y*(z - x / y)=0:=by rw [C9]; omega
 rcases L4.1 h6 with h | h
 ·exact absurd h hy
 ·omega
theorem Yb {s:Bool} {a:LI} (ha:LW a) (hn:a.length≤1000000):Ret (m_k s a) (fun r=>Bg (sv s a) r.1 r.2∧r.2.length≤a.length):=by
 have h:=dj s ha hn
 obtain ⟨q,hq,hB⟩:=R8 s ha hn
 have hN:m_k s a=some q:=by unfold m_k; rw [hq,obs]
 refine ⟨q,hN,hB,?_⟩
 rw [hN] at h
 obtain rfl:=N3 h
 exact O5 ha
theorem Be {s:Bool} {a:LI} (ha:LW a) (hn:a.length≤1000000):Ret (m_o s a) (fun r=>Bg (lv a) r.1 r.2∧r.2.length≤a.length):=by
 unfold m_o
 rw [J0]
 have h:=qe false ha hn
 obtain ⟨q,hq,hB⟩:=R8 false ha hn
 refine ⟨q,hq,_,rfl,hB,?_⟩
 rw [h] at hq
 obtain rfl:=N3 hq
 exact O5 ha
theorem Pj {s t:Bool} {a b:LI} (ha:LW a) (hb:LW b) (hn:a.length≤800) (hm:b.length≤800) (hne:sv t b≠0):Ret (m_dm s a t b) (fun r=>Bg (sv s a / sv t b) r.1 r.2.1∧Bg (sv s a % sv t b) r.2.2.1 r.2.2.2):=by
 unfold m_dm
 rw [J0]
 refine (Yb (s:=s) ha A0).mono ?_
 rintro ⟨s',a'⟩ ⟨hA,lA⟩
 rw [J0]
 refine (Yb (s:=t) hb A0).mono ?_
 rintro ⟨t',b'⟩ ⟨hB,lB⟩
 simp only at hA lA hB lB ⊢
 generalize sv s a=x at*
 generalize sv t b=y at*
 have hb0:b'≠[]:=by
  rintro rfl
  have:=hB.sv
  apply hne; rw [← this]; unfold sv; split<;>rfl
 have hbpos:0 < lv b':=by
  have h1:=G9 hB.1 hB.2.1 hb0
  have:=W1 (b'.length - 1)
  omega
 have h0:=X1 hA.1
 have e0:=L3 (lv a') (show lv b'≠0 by omega)
 have e1:=M3 (lv a') hbpos
 have hdm:=P4 (lv a') (lv b')
 have hq0:0≤lv a' / lv b':=N5 h0 A0
 rw [J0]
 refine (CC hA.1 hB.1 hA.2.1 hB.2.1 hb0 A0 A0).mono ?_
 rintro ⟨q,r⟩ ⟨q1,q2,r1,r2,q3,r3⟩
 simp only at q1 q2 r1 r2 q3 r3 ⊢
 rw [J0]
 refine (R8 (!(s' == t')) q1 A0).mono ?_
 rintro ⟨qs,ql⟩ hQ
 rw [J0]
 refine (R8 s' r1 A0).mono ?_
 rintro ⟨rs,rl⟩ hR
 simp only at hQ hR ⊢
 have hap:=O7 hA.1 (m:=800) A0
 have hbp:=O7 hB.1 (m:=800) A0
 have hqle:lv a' / lv b'≤lv a':=Hd _ h0
 have hp8:2*pw 800≤pw 801:=by
  have:=W1 800
  show 2*pw 800≤B*pw 800
  unfold B; omega
 have hrl:rl.length≤801:=by refine hR.len ?_ ?_<;>(unfold sv; split<;>omega)
 have hql:ql.length≤801:=by refine hQ.len ?_ ?_<;>(unfold sv; split<;>omega)
 rw [Qb hR A0,obs,O0]
 have vx:=hA.sv
 have vy:=hB.sv
 have n1: -lv b'*(lv a' / lv b')= -(lv b'*(lv a' / lv b')):=by grind
 have n2:lv b'* -(lv a' / lv b')= -(lv b'*(lv a' / lv b')):=by grind
 have n3: -lv b'* -(lv a' / lv b')=lv b'*(lv a' / lv b'):=by grind
 refine ⟨fun hc=>?_,fun hc=>?_⟩
 ·have hneg:sv s' r < 0:=by revert hc; split<;>(try split)<;>omega
  have hs':s'=true:=by
   refine H1 fun h=>?_
   unfold sv at hneg; rw [K0 h] at hneg
   have:=X1 r1; omega
  subst hs'
  rw [J0]
  refine (Be (s:=t') hB.1 A0).mono ?_
  rintro ⟨bs,bl⟩ ⟨hb1,hb2⟩
  simp only at hb1 hb2 ⊢
  rw [J0]
  refine (ak (s:=rs) (t:=bs) hR.1 hb1.1 A0 A0).mono ?_
  rintro ⟨us,ul⟩ hU
  simp only at hU ⊢
  rw [hR.sv,hb1.sv] at hU
  unfold sv at hneg
  rw [M0 rfl,r3] at hneg
  have vr:sv true r= - (lv a' % lv b'):=by unfold sv; rw [M0 rfl,r3]
  rw [vr] at hU
  unfold sv at vx
  rw [M0 rfl] at vx
  have fin:∀ (u:Bool) (w:LI),Bg (if t'=true then sv (!(true == t')) q+1 else sv (!(true == t')) q - 1) u w→Ret (m_dl (us,ul) u w) (fun r=>Bg (x / y) r.1 r.2.1∧Bg (x % y) r.2.2.1 r.2.2.2):=by
   intro u w hw
   obtain ⟨k1,k2⟩:=xr (x:=x) (y:=y) (z:=if t'=true then sv (!(true == t')) q+1 else sv (!(true == t')) q - 1) (w:=- (lv a' % lv b')+lv b') hne (by
    rw [← vx,← vy]
    unfold sv
    rw [q3]
    cases t'
    ·simp
     have h7:lv b'*(-(lv a' / lv b') - 1)= -(lv b'*(lv a' / lv b')) - lv b':=by grind
     omega
    ·simp
     have h7: -lv b'*(lv a' / lv b'+1)= -(lv b'*(lv a' / lv b')) - lv b':=by grind
     omega) A0 (by
    rw [← vy]; unfold sv; split
    ·right; omega
    ·left; omega)
   exact ⟨_,rfl,hw.cast k1,hU.cast k2⟩
  rw [O0]
  refine ⟨fun ht=>?_,fun ht=>?_⟩
  ·rw [J0]
   refine (Y9 (n:=1) A0 A0).mono ?_
   rintro ⟨os,ol⟩ hO
   simp only at hO ⊢
   have hol:ol.length≤1:=hO.len (by decide) (by decide)
   rw [J0]
   refine (ak (s:=qs) (t:=os) hQ.1 hO.1 A0 A0).mono fun r hr=>?_
   rw [hQ.sv,hO.sv] at hr
   exact fin _ _ (by rw [M0 ht]; exact hr)
  ·rw [J0]
   refine (Y9 (n:=1) A0 A0).mono ?_
   rintro ⟨os,ol⟩ hO
   simp only at hO ⊢
   have hol:ol.length≤1:=hO.len (by decide) (by decide)
   rw [J0]
   refine (gq (s:=qs) (t:=os) hQ.1 hO.1 A0 A0).mono fun r hr=>?_
   rw [hQ.sv,hO.sv] at hr
   exact fin _ _ (by rw [K0 ht]; exact hr)
 ·have hnn:0≤sv s' r:=by
   refine H1 fun h=>hc ?_
   rw [C0]; omega
  obtain ⟨k1,k2⟩:=xr (x:=x) (y:=y) (z:=sv (!(s' == t')) q) (w:=sv s' r) hne (by
   rw [← vx,← vy]
   unfold sv
   rw [q3,r3]
   cases s'
   ·cases t'
    ·simp; omega
    ·simp; omega
   ·unfold sv at hnn
    rw [M0 rfl,r3] at hnn
    cases t'
    ·simp; omega
    ·simp; omega) hnn (by
   rw [← vy]; unfold sv; rw [r3]; split<;>split<;>omega)
  exact ⟨_,rfl,hQ.cast k1,hR.cast k2⟩
theorem D7:∀ n,pw n=2 ^ (32*n)
 | 0=>rfl
 | n+1=>by
  rw [Nat.mul_add,X4,← D7 n,I2]
  rfl
theorem Vz {k n:Nat} (h:(2:Int) ^ k≤2 ^ n):k≤n:=by
 have h2:(2:Nat) ^ k≤2 ^ n:=by exact_mod_cast h
 exact (Nat.pow_le_pow_iff_right A0).1 h2
theorem wB {x y:Int} (hy:0 < y) (h:y≤x):2*(y*(x % y))≤x*y:=by
 have h1:=P4 x y
 have h2:=L3 x (show y≠0 by omega)
 have h3:=M3 x hy
 have h4:1≤x / y:=(Se hy).2 A0
 have h5:y*1≤y*(x / y):=B3 h4 A0
 have h6:2*(x % y)≤x:=A0
 have h7:2*(x % y)*y≤x*y:=X2 h6 A0
 have h8:2*(x % y)*y=2*(y*(x % y)):=by grind
 omega
theorem GB {x y:Int} (hy:0 < y):Int.gcd y (x % y)=Int.gcd x y:=by
 have h:=P4 x y
 have h2:=Int.gcd_add_mul_left_left y (x % y) (x / y)
 rw [Wu,h] at h2
 rw [Tu,h2]
structure GI (G:Nat) (n k:Nat) (x y:Int):Prop where
 gx:0≤x
 gy:0≤y
 gg:Int.gcd x y=G
 glt:0 < k→y < x
 gp:x*y*2 ^ k≤2 ^ n
theorem GI.rounds {G n k:Nat} {x y:Int} (h:GI G n k x y) (hk:0 < k) (hy:0 < y):k≤n:=by
 have h1:=h.glt hk
 have h2:0 < x*y:=Ed A0 hy
 have h3:(0:Int) < 2 ^ k:=C5 A0
 have h4:1*2 ^ k≤x*y*2 ^ k:=X2 A0 A0
 exact Vz (Int.le_trans A0 h.gp)
theorem GI.step {G n k:Nat} {x y:Int} (h:GI G n k x y) (hy:0 < y) (h0:k=0→x*y*2≤2 ^ n):GI G n (k+1) y (x % y):=by
 have h2:=L3 x (show y≠0 by omega)
 have h3:=M3 x hy
 refine ⟨h.gy,h2,(GB hy).trans h.gg,fun _=>h3,?_⟩
 have hp:(0:Int) < 2 ^ k:=C5 A0
 by_cases hxy:y≤x
 ·have h4:=wB hy hxy
  have h5:2*(y*(x % y))*2 ^ k≤x*y*2 ^ k:=X2 h4 A0
  have h6:y*(x % y)*2 ^ (k+1)=2*(y*(x % y))*2 ^ k:=by rw [H8]; grind
  have:=h.gp
  omega
 ·have hk:k=0:=by
   refine H1 fun hc=>?_
   have:=h.glt A0
   omega
  have h4:=h0 hk
  subst hk
  rw [Y4 h.gx A0]
  have:y*x*2 ^ (0+1)=x*y*2:=by rw [I2 y]; rfl
  omega
theorem Ps {s t:Bool} {a b:LI} (ha:LW a) (hb:LW b) (hn:a.length≤400) (hm:b.length≤400):Ret (m_j2 s a t b) (fun r=>Bg ((Int.gcd (sv s a) (sv t b):Nat):Int) r.1 r.2):=by
 have hgv:Int.gcd (sv s a) (sv t b)=Int.gcd (lv a) (lv b):=by unfold sv; cases s<;>cases t<;>simp [Int.gcd_neg,Int.neg_gcd]
 rw [hgv]
 have la:=O5 ha
 have lb:=O5 hb
 obtain ⟨n,hn1,hn2⟩:∃ n:Nat,n < 100000∧lv a*lv b*2≤2 ^ n:=by
  refine ⟨32*400+32*400+1,A0,?_⟩
  rw [H8,X4,← D7]
  have h1:=O7 ha hn
  have h2:=O7 hb hm
  have:=J8 (U7 h1) (U7 h2) (X1 hb) (U7 (W1 400))
  omega
 unfold m_j2
 rw [S4 ha A0,obs,jc A0,obs,S4 hb A0,obs,jc A0,obs,J0]
 have hstart:GI (Int.gcd (lv a) (lv b)) n 0 (lv (trimL a)) (lv (trimL b)):=by
  rw [O1,O1]
  refine ⟨X1 ha,X1 hb,rfl,fun h=>absurd h A0,?_⟩
  rw [Mu]
  have:=K3 (X1 ha) (X1 hb)
  omega
 have hab:∀ x y:Int,x=lv (trimL a)→y=lv (trimL b)→x*y*2≤2 ^ n:=by
  rintro _ _ rfl rfl
  rw [O1,O1]; exact hn2
 refine (Q0 (Post:=fun o:LI=>LW o∧Tm o∧o.length≤400∧lv o=((Int.gcd (lv a) (lv b):Nat):Int)) (n+1) (fun k (p:LI×LI)=>(LW p.1∧Tm p.1∧p.1.length≤400)∧(LW p.2∧Tm p.2∧p.2.length≤400)∧GI (Int.gcd (lv a) (lv b)) n k (lv p.1) (lv p.2)∧(k=0→p=(trimL a,trimL b))) ⟨⟨S3 ha,B4 a,by show (trimL a).length≤400; omega⟩,⟨S3 hb,B4 b,by show (trimL b).length≤400; omega⟩,hstart,fun _=>rfl⟩ ?_ A0).mono ?_
 ·rintro k ⟨x,y⟩ hk ⟨⟨x1,x2,x3⟩,⟨y1,y2,y3⟩,hG,hk0⟩
  simp only at x1 x2 x3 y1 y2 y3 hG
  unfold m_j1
  simp only
  rw [O0]
  refine ⟨fun hy=>?_,fun hy=>⟨_,rfl,x1,x2,x3,?_⟩⟩
  ·have hne:y≠[]:=by rintro rfl; simp at hy
   have hyp:0 < lv y:=by
    have h1:=G9 y1 y2 hne
    have:=W1 (y.length - 1)
    omega
   obtain ⟨q,r,hd,q1,q2,r1,r2,q3,r3⟩:=Ht x1 y1 x2 y2 hne A0 A0
   rw [hd,obs]
   have hstep:=hG.step hyp (fun h=>by
    have:=hk0 h
    injection this with e1 e2
    exact hab _ _ (by rw [e1]) (by rw [e2]))
   have hrl:r.length≤400:=by
    refine P7 r1 r2 ?_
    have h1:=O7 y1 y3
    have h2:=M3 (lv x) hyp
    omega
   refine ⟨_,rfl,?_,⟨y1,y2,y3⟩,⟨r1,r2,hrl⟩,?_,fun h=>absurd h A0⟩
   ·rcases ma k with h | h
    ·omega
    ·have:=hG.rounds h hyp; omega
   ·show GI _ n (k+1) (lv y) (lv r)
    rw [r3]; exact hstep
  ·have:y=[]:=U6 A0
   subst this
   have hg:=hG.gg
   show lv x=_
   have hz:lv ([]:LI)=0:=rfl
   rw [hz,Int.gcd_zero_right] at hg
   rw [← hg]
   have:=X1 x1
   omega
 ·rintro o ⟨o1,o2,o3,o4⟩
  rw [J0]
  refine (Q7 false o1 A0).mono fun r hr=>⟨_,rfl,hr.cast ?_⟩
  rw [← o4]; rfl
theorem Ns {s t:Bool} {a b:LI} (ha:LW a) (hb:LW b) (hn:a.length≤400) (hm:b.length≤400):Ret (m_do s a t b) (fun r=>Bg ((Int.gcd (sv s a) (sv t b):Nat):Int) r.1 r.2):=by
 have hgv:Int.gcd (sv s a) (sv t b)=Int.gcd (lv a) (lv b):=by unfold sv; cases s<;>cases t<;>simp [Int.gcd_neg,Int.neg_gcd]
 rw [hgv]
 have h1a:=O7 ha hn
 have h1b:=O7 hb hm
 have nna:=X1 ha
 have nnb:=X1 hb
 obtain ⟨n,hn1,hn2⟩:∃ n:Nat,n < 100000∧lv a*lv b*2≤2 ^ n:=by
  refine ⟨32*400+32*400+1,A0,?_⟩
  rw [H8,X4,← D7]
  have:=J8 (U7 h1a) (U7 h1b) nnb (U7 (W1 400))
  omega
 unfold m_do
 rw [J0]
 refine (Be (s:=s) ha A0).mono ?_
 rintro ⟨sa,xa⟩ ⟨hA,lA⟩
 rw [J0]
 refine (Be (s:=t) hb A0).mono ?_
 rintro ⟨sb,xb⟩ ⟨hB,lB⟩
 simp only at hA lA hB lB ⊢
 rw [J0]
 refine (Q0 (Post:=fun o:Bool×LI=>Bg ((Int.gcd (lv a) (lv b):Nat):Int) o.1 o.2) (n+1) (fun k (p:Bool×LI×Bool×LI)=>∃ x y,Bg x p.1 p.2.1∧Bg y p.2.2.1 p.2.2.2∧x < pw 400∧y < pw 400∧GI (Int.gcd (lv a) (lv b)) n k x y∧(k=0→x=lv a∧y=lv b)) ⟨lv a,lv b,hA,hB,h1a,h1b,⟨nna,nnb,rfl,fun h=>absurd h A0,by rw [Mu]; have:=K3 nna nnb; omega⟩,fun _=>⟨rfl,rfl⟩⟩ ?_ A0).mono ?_
 ·rintro k ⟨sx,xx,sy,yy⟩ hk ⟨x,y,hX,hY,xp,yp,hG,hk0⟩
  simp only at hX hY
  have hx0:=hG.gx
  have hy0:=hG.gy
  have lX:xx.length≤400:=hX.len (by have:=W1 400; omega) xp
  have lY:yy.length≤400:=hY.len (by have:=W1 400; omega) yp
  unfold m_dn
  simp only
  rw [Qb hY A0,obs,O0]
  refine ⟨fun hz=>⟨_,rfl,?_⟩,fun hz=>?_⟩
  ·have:y=0:=by revert hz; split<;>(try split)<;>omega
   subst this
   have hg:=hG.gg
   rw [Int.gcd_zero_right] at hg
   exact hX.cast A0
  ·have hyp:0 < y:=by
    refine H1 fun hc=>hz ?_
    rw [B0,B0]
   rw [J0]
   refine (Pj (s:=sx) (t:=sy) hX.1 hY.1 A0 A0 (by rw [hY.sv]; omega)).mono fun r hr=>?_
   rw [hX.sv,hY.sv] at hr
   have h2:=M3 x hyp
   refine ⟨_,rfl,?_,y,x % y,hY,hr.2,yp,A0,hG.step hyp (fun h=>?_),fun h=>absurd h A0⟩
   ·rcases ma k with h | h
    ·omega
    ·have:=hG.rounds h hyp; omega
   ·obtain ⟨rfl,rfl⟩:=hk0 h
    exact hn2
 ·rintro o ho
  exact ⟨_,rfl,ho⟩
theorem Qg {k a b c d:Nat} (hb:b < 2 ^ k) (hd:d < 2 ^ k):(2 ^ k*a+b) &&& (2 ^ k*c+d)=2 ^ k*(a &&& c)+(b &&& d):=by
 refine Nat.eq_of_testBit_eq fun i=>?_
 rw [tu,De a hb,De c hd,De _ (Nat.lt_of_le_of_lt Nat.and_le_left hb)]
 by_cases h:i < k
 ·simp only [h,if_true,tu]
 ·simp only [h,if_false,tu]
theorem cA {k a b c d:Nat} (hb:b < 2 ^ k) (hd:d < 2 ^ k):(2 ^ k*a+b) ||| (2 ^ k*c+d)=2 ^ k*(a ||| c)+(b ||| d):=by
 refine Nat.eq_of_testBit_eq fun i=>?_
 rw [Ug,De a hb,De c hd,De _ (uu hb hd)]
 by_cases h:i < k
 ·simp only [h,if_true,Ug]
 ·simp only [h,if_false,Ug]
theorem Nd {x y:Nat} (hx:x < 18446744073709551616) (hy:y < 18446744073709551616):wand .u64 (x:Int) (y:Int)=((x &&& y:Nat):Int):=by
 unfold wand
 show IntKind.u64.wrap ((BitVec.ofInt 64 (x:Int) &&& BitVec.ofInt 64 (y:Int)).toNat:Int)=_
 rw [BitVec.toNat_and,U8 A0,U8 A0,A1,A1]
 have:x &&& y≤x:=Nat.and_le_left
 rw [IntWalk.u64_in _ A0]
theorem cf {x y:Nat} (hx:x < 18446744073709551616) (hy:y < 18446744073709551616):wor .u64 (x:Int) (y:Int)=((x ||| y:Nat):Int):=by
 unfold wor
 show IntKind.u64.wrap ((BitVec.ofInt 64 (x:Int) ||| BitVec.ofInt 64 (y:Int)).toNat:Int)=_
 rw [BitVec.toNat_or,U8 A0,U8 A0,A1,A1]
 have:x ||| y < 2 ^ 64:=uu A0 A0
 rw [IntWalk.u64_in _ A0]
def Fn_ (s e m:Nat):Nat:=2 ^ 52*(2 ^ 11*s+e)+m
def Fl (s e m:Nat):Int:=(Fn_ s e m:Nat)
theorem ue {s e m:Nat} (hs:s < 2) (he:e < 2048) (hm:m < 4503599627370496):Fn_ s e m < 18446744073709551616:=by unfold Fn_; omega
theorem jt {x:Int} (h0:0≤x) (h1:x < 18446744073709551616):∃ s e m,s < 2∧e < 2048∧m < 4503599627370496∧x=Fl s e m:=by
 refine ⟨x.toNat / 9223372036854775808,x.toNat / 4503599627370496 % 2048,x.toNat % 4503599627370496,A0,A0,A0,?_⟩
 unfold Fl Fn_
 omega
theorem Xs {s e m:Nat} (hs:s < 2) (he:e < 2048) (hm:m < 4503599627370496):wsrc .u64 (Fl s e m) 52=((2048*s+e:Nat):Int):=by
 unfold wsrc Fl Fn_
 show (_:Int).fdiv (2 ^ 52)=_
 rw [Gd _ A0]
 omega
theorem xg {s e m:Nat} (hs:s < 2) (he:e < 2048) (hm:m < 4503599627370496):wand .u64 (wsrc .u64 (Fl s e m) 52) 2047=(e:Int):=by
 rw [Xs hs he hm]
 have:=Nd (x:=2048*s+e) (y:=2047) A0 A0
 refine this.trans ?_
 have h:=vd (2048*s+e) 11
 rw [show (2:Nat) ^ 11 - 1=2047 from rfl] at h
 rw [h]
 omega
theorem Mj {s e m:Nat} (hs:s < 2) (he:e < 2048) (hm:m < 4503599627370496):wand .u64 (Fl s e m) 4503599627370495=(m:Int):=by
 have:=Nd (x:=Fn_ s e m) (y:=4503599627370495) (ue hs he hm) A0
 refine this.trans ?_
 have h:=vd (Fn_ s e m) 52
 rw [show (2:Nat) ^ 52 - 1=4503599627370495 from rfl] at h
 rw [h]
 unfold Fn_
 omega
theorem PB {s e m:Nat} (hs:s < 2) (he:e < 2048) (hm:m < 4503599627370496):wand .u64 (Fl s e m) 9223372036854775808=((9223372036854775808*s:Nat):Int):=by
 have:=Nd (x:=Fn_ s e m) (y:=9223372036854775808) (ue hs he hm) A0
 refine this.trans ?_
 have h1:=Qg (k:=63) (a:=s) (b:=2 ^ 52*e+m) (c:=1) (d:=0) A0 A0
 rw [show 2 ^ 63*1+0=9223372036854775808 from rfl,wu,show 2 ^ 63*s+(2 ^ 52*e+m)=Fn_ s e m by unfold Fn_; omega,Nat.and_one_is_mod] at h1
 rw [h1]
 omega
theorem Zs {s e m:Nat} (hs:s < 2) (he:e < 2048) (hm:m < 4503599627370496) {q:Nat} (hq:q≤52) {e':Nat} (he':e' < 2048) {y:Nat} (hy:y=2 ^ 63+2 ^ q*(2 ^ (52 - q) - 1)) (hm':2 ^ q*(2 ^ (52 - q))=4503599627370496):wor .u64 (wand .u64 (Fl s e m) (y:Int)) ((4503599627370496*e':Nat):Int)=Fl s e' (2 ^ q*(m / 2 ^ q)):=by
 have hp:0 < 2 ^ q:=Nat.two_pow_pos q
 have hm2:m / 2 ^ q < 2 ^ (52 - q):=by rw [Nat.div_lt_iff_lt_mul hp,Z8,hm']; exact hm
 have hle:2 ^ q*(2 ^ (52 - q) - 1) < 4503599627370496:=by rw [Nat.mul_sub,hm']; omega
 have hml:2 ^ q*(m / 2 ^ q) < 4503599627370496:=Nat.lt_of_le_of_lt (Nat.mul_div_le _ _) hm
 have h1:=Nd (x:=Fn_ s e m) (y:=y) (ue hs he hm) (by rw [hy]; omega)
 have e1:Fn_ s e m &&& y=Fn_ s 0 (2 ^ q*(m / 2 ^ q)):=by
  have a1:=Qg (k:=52) (a:=2 ^ 11*s+e) (b:=m) (c:=2 ^ 11*1+0) (d:=2 ^ q*(2 ^ (52 - q) - 1)) A0 A0
  have a2:=Qg (k:=11) (a:=s) (b:=e) (c:=1) (d:=0) A0 A0
  have a3:=Qg (k:=q) (a:=m / 2 ^ q) (b:=m % 2 ^ q) (c:=2 ^ (52 - q) - 1) (d:=0) (ub _ hp) hp
  rw [Xg,w9,wu,vd,vu hm2,w9] at a3
  rw [wu,Nat.and_one_is_mod] at a2
  rw [a2,a3] at a1
  rw [show y=2 ^ 52*(2 ^ 11*1+0)+2 ^ q*(2 ^ (52 - q) - 1) by rw [hy]]
  unfold Fn_
  rw [a1,show s % 2=s by omega]
 have h2:wand .u64 (Fl s e m) (y:Int)=((Fn_ s 0 (2 ^ q*(m / 2 ^ q)):Nat):Int):=by rw [← e1]; exact h1
 rw [h2,cf (ue hs A0 hml) A0]
 have b1:=cA (k:=52) (a:=2 ^ 11*s+0) (b:=2 ^ q*(m / 2 ^ q)) (c:=e') (d:=0) A0 A0
 have b2:=pc (b:=e') (i:=11) A0 s
 rw [w9,← b2,Nat.or_zero] at b1
 have b3:Fn_ s 0 (2 ^ q*(m / 2 ^ q)) ||| 4503599627370496*e'=Fn_ s e' (2 ^ q*(m / 2 ^ q)):=b1
 rw [b3]
 rfl
theorem OB {e m:Nat} (he:e < 2048) (hm:m < 4503599627370496):wor .u64 (Fl 0 e m) 9223372036854775808=Fl 1 e m:=by
 have:=cf (x:=Fn_ 0 e m) (y:=9223372036854775808) (ue A0 he hm) A0
 refine this.trans ?_
 have h:=pc (b:=Fn_ 0 e m) (i:=63) (by unfold Fn_; omega) 1
 rw [Ak]
 rw [show 2 ^ 63*1=9223372036854775808 from rfl] at h
 rw [← h]
 unfold Fl Fn_
 omega
theorem dt {m:Nat} (hm:m < 4503599627370496):wor .u64 (m:Int) 4503599627370496=((4503599627370496+m:Nat):Int):=by
 have:=cf (x:=m) (y:=4503599627370496) A0 A0
 refine this.trans ?_
 have h:=pc (b:=m) (i:=52) hm 1
 rw [show 2 ^ 52*1=4503599627370496 from rfl] at h
 rw [Ak,← h]
theorem QB {u m:Nat} (hu:u < 2048) (hm:m < 4503599627370496):wor .u64 (wslc .u64 (u:Int) 52) (m:Int)=Fl 0 u m:=by
 have e1:wslc .u64 (u:Int) 52=((4503599627370496*u:Nat):Int):=by
  unfold wslc
  show IntKind.u64.wrap ((u:Int)*2 ^ 52)=_
  rw [IntWalk.u64_in _ A0]
  omega
 rw [e1,cf A0 A0]
 have h:=pc (b:=m) (i:=52) hm u
 rw [show 2 ^ 52*u=4503599627370496*u from rfl] at h
 rw [← h]
 unfold Fl Fn_
 omega
def Tz (z:Nat) (v:Int):Prop:=∃ m,v=2 ^ z*(2*m+1)
theorem Tz.uniq {z z':Nat} {v:Int} (h:Tz z v) (h':Tz z' v):z=z':=by
 have key:∀ {z z':Nat} {v:Int},Tz z v→Tz z' v→¬ z < z':=by
  rintro z z' v ⟨m,rfl⟩ ⟨m',e⟩ hlt
  rw [show z'=z+(1+(z' - z - 1)) by omega,X4,N6] at e
  have e2:=UD (Int.ne_of_gt (C5 (by omega:(0:Int) < 2))) e
  rw [X4,N6] at e2
  omega
 have:=key h h'
 have:=key h' h
 omega
theorem Tz.neg {z:Nat} {v:Int} (h:Tz z v):Tz z (-v):=by
 obtain ⟨m,rfl⟩:=h
 exact ⟨-m - 1,by grind⟩
theorem Tz.mul {z:Nat} {v:Int} (h:Tz z v) (k:Nat):Tz (z+k) (v*2 ^ k):=by
 obtain ⟨m,rfl⟩:=h
 exact ⟨m,by rw [X4]; grind⟩
theorem fg:∀ {l:LI},(∀ y,y∈l→y=0)→lv l=0
 | [],_=>rfl
 | y::l,h=>by
  show y+B*lv l=0
  rw [h y (Ad ..),fg fun y hy=>h y (Cd _ hy)]
  rfl
theorem Lp {l:LI} (hl:LW l) {i:Nat} {x:Int} (hx:l[i]?=some x) (hz:∀ y,y∈l.take i→y=0) {c:Nat} {m:Int} (hc:c < 32) (hm:x=2 ^ c*(2*m+1)):Tz (32*i+c) (lv l):=by
 obtain ⟨p1,p2,p3,p4⟩:=Y7 hc
 have hi:=(S2.1 hx).1
 refine ⟨m+2 ^ (32 - c - 1)*lv (l.drop (i+1)),?_⟩
 rw [J7 l (k:=i) A0,fg hz,T5 hx,hm,D7,X4]
 have e1:B=2 ^ c*(2*2 ^ (32 - c - 1)):=by
  have:(2:Int) ^ (32 - c)=2*2 ^ (32 - c - 1):=by
   have e2:=X4 (2:Int) 1 (32 - c - 1)
   rw [show 1+(32 - c - 1)=32 - c by omega] at e2
   exact e2
  rw [← this,p3]
 rw [e1]
 grind
theorem Np {x:Int} (h0:0 < x) (h1:x < B):∃ c:Nat,∃ m:Int,tz32 x=some (c:Int)∧c < 32∧x=2 ^ c*(2*m+1):=by
 obtain ⟨m,h2,h3⟩:=Go.Lib.ctzFrom_spec 32 x.toNat A0 (by unfold B at h1; omega)
 refine ⟨Go.Lib.ctzFrom 32 x.toNat,m,?_,h3,?_⟩
 ·unfold tz32 Go.Lib.ctz
  rw [M0 ⟨A0,h1⟩,B0]
 ·have:((x.toNat:Nat):Int)=((2 ^ Go.Lib.ctzFrom 32 x.toNat*(2*m+1):Nat):Int):=by rw [← h2]
  rw [Me A0] at this
  rw [Pu,jl] at this
  exact this
theorem Kp {l:LI} {k:Nat} {x:Int} (hz:∀ y,y∈l.take k→y=0) (hx:l[k]?=some x) (h0:x=0):∀ y,y∈l.take (k+1)→y=0:=fun y hy=>by
 rcases (mts hx).1 hy with h | h
 ·exact hz y h
 ·rw [h,h0]
theorem Ew {s:Bool} {l:LI} (hl:LW l) (hn:l.length≤1000) (h0:lv l≠0):∃ z:Nat,m_gc s l=some (z:Int)∧z < 32*l.length∧Tz z (lv l):=by
 have h1:Ret (loop (m_gb l) 0) (fun o=>∃ z:Nat,o=.inr (z:Int)∧z < 32*l.length∧Tz z (lv l)):=by
  refine Q0 l.length (fun k (t:Int)=>t=(k:Int)∧∀ y,y∈l.take k→y=0) ⟨rfl,by intro y hy; simp at hy⟩ ?_ A0
  rintro k _ hk ⟨rfl,hz⟩
  unfold m_gb
  rw [O0]
  refine ⟨fun hlt=>?_,fun hge=>?_⟩
  ·obtain ⟨x,hx⟩:=N4 (l:=l) (k:=k) A0
   have hxB:=LW.get hl hx
   rw [Q5 hx rfl,obs,O0]
   refine ⟨fun hx0=>⟨_,rfl,A0,by rw [U0 A0 A0]; rfl,Kp hz hx hx0⟩,fun hx0=>?_⟩
   obtain ⟨c,m,h2,h3,h4⟩:=Np (x:=x) A0 hxB.2
   rw [h2,obs]
   refine ⟨_,rfl,32*k+c,?_,A0,Lp hl hx hz h3 h4⟩
   rw [K8 A0 A0,U0 A0 A0]
   exact Z0 Sum.inr A0
  ·exfalso
   refine h0 ?_
   rw [y9 A0] at hz
   exact fg hz
 obtain ⟨o,h2,z,rfl,h3,h4⟩:=h1
 exact ⟨z,by unfold m_gc; rw [h2,obs],h3,h4⟩
theorem Cw {s:Bool} {l:LI} (hl:LW l) (ht:Tm l) (hn:l.length≤1000) (h0:lv l≠0):∃ z:Nat,m_n s l=some (z:Int)∧z < 32*l.length∧Tz z (lv l):=by
 have hlt:trimL l=l:=(Qd hl hl ht rfl).symm
 have h1:Ret (loop (m_m l) 0) (fun o=>∃ z:Nat,o=.inr (z:Int)∧z < 32*l.length∧Tz z (lv l)):=by
  refine Q0 l.length (fun k (t:Int)=>t=(k:Int)∧∀ y,y∈l.take k→y=0) ⟨rfl,by intro y hy; simp at hy⟩ ?_ A0
  rintro k _ hk ⟨rfl,hz⟩
  unfold m_m
  rw [O0]
  refine ⟨fun hlt=>?_,fun hge=>?_⟩
  ·obtain ⟨x,hx⟩:=N4 (l:=l) (k:=k) A0
   have hxB:=LW.get hl hx
   rw [Q5 hx rfl,obs,O0]
   refine ⟨fun hx0=>⟨_,rfl,A0,by rw [U0 A0 A0]; rfl,Kp hz hx hx0⟩,fun hx0=>?_⟩
   obtain ⟨c,m,h2,h3,h4⟩:=Np (x:=x) A0 hxB.2
   rw [obs,h2,obs]
   refine ⟨_,rfl,32*k+c,?_,A0,Lp hl hx hz h3 h4⟩
   rw [K8 A0 A0,U0 A0 A0]
   exact Z0 Sum.inr A0
  ·exfalso
   refine h0 ?_
   rw [y9 A0] at hz
   exact fg hz
 obtain ⟨o,h2,z,rfl,h3,h4⟩:=h1
 exact ⟨z,by unfold m_n; rw [Z7 hl A0,obs,hlt,h2,obs],h3,h4⟩
def Bl_ (b:Nat) (v:Int):Prop:=v < 2 ^ b∧2 ^ b≤2*v
theorem Bl_.uniq {b b':Nat} {v:Int} (h:Bl_ b v) (h':Bl_ b' v):b=b':=by
 have key:∀ {b b':Nat} {v:Int},Bl_ b v→Bl_ b' v→¬ b < b':=by
  rintro b b' v ⟨h1,h2⟩ ⟨h3,h4⟩ hlt
  have:(2:Int) ^ b*2≤2 ^ b':=by
   rw [← H8]
   have h9:((2 ^ (b+1):Nat):Int)≤((2 ^ b':Nat):Int):=Nu.2 (Vg A0 A0)
   push_cast at h9
   exact h9
  omega
 have:=key h h'
 have:=key h' h
 omega
theorem Tp {l:LI} (hl:LW l) {n:Nat} (hn:l.length=n+1) {x:Int} (hx:l[n]?=some x) {v:Nat} (h1:x < 2 ^ v) (h2:2 ^ v≤2*x):Bl_ (32*n+v) (lv l):=by
 have e1:lv l=lv (l.take n)+pw n*x:=by
  rw [J7 l (k:=n) A0,T5 hx,O9 A0]
  show _+pw n*(x+B*0)=_
  rw [w4,V7]
 have hb:=C4 (LW.take hl n)
 rw [Z3,G6 A0] at hb
 have hnn:=X1 (LW.take hl n)
 have p:=W1 n
 constructor
 ·rw [X4,← D7]
  have:pw n*(x+1)≤pw n*2 ^ v:=B3 A0 A0
  rw [O6,C6] at this
  omega
 ·rw [X4,← D7]
  have:pw n*2 ^ v≤pw n*(2*x):=B3 A0 A0
  have e2:pw n*(2*x)=2*(pw n*x):=by grind
  omega
theorem PA {l:LI} (hl:LW l) (ht:Tm l) (hn:l.length≤1000) (hne:l≠[]):∃ b:Nat,m_gd l=some (b:Int)∧b≤32*l.length∧Bl_ b (lv l):=by
 have hal:0 < l.length:=Cb.2 hne
 obtain ⟨x,hx⟩:=N4 (l:=l) (k:=l.length - 1) A0
 have hxB:=LW.get hl hx
 have hx0:x≠0:=ht x (by rw [Tk]; exact hx)
 obtain ⟨v,h1,h2,h3,h4⟩:=xj hxB.1 hxB.2
 unfold m_gd
 rw [B0,V2 A0 A0,Q5 hx A0,obs,h1,obs]
 refine ⟨32*(l.length - 1)+v,?_,A0,Tp hl A0 hx h3 (h4 A0)⟩
 rw [K8 A0 A0,U0 A0 A0]
 congr 1; omega
theorem YC {s:Bool} {l:LI} (hl:LW l) (ht:Tm l) (hn:l.length≤1000) (hne:l≠[]):∃ b:Nat,m_ge s l=some (b:Int)∧b≤32*l.length∧Bl_ b (lv l):=by
 obtain ⟨b,h1,h2⟩:=PA hl ht hn hne
 exact ⟨b,by unfold m_ge; rw [S4 hl A0,obs,(Qd hl hl ht rfl).symm,h1,obs],h2⟩
theorem Xj {s:Bool} {l:LI} (hl:LW l) (ht:Tm l) (hn:l.length≤1000) (hne:l≠[]):∃ b:Nat,m_bf s l=some (b:Int)∧b≤32*l.length∧Bl_ b (lv l):=by
 have hal:0 < l.length:=Cb.2 hne
 obtain ⟨x,hx⟩:=N4 (l:=l) (k:=l.length - 1) A0
 have hxB:=LW.get hl hx
 have hx0:x≠0:=ht x (by rw [Tk]; exact hx)
 obtain ⟨v,h1,h2,h3,h4⟩:=xj hxB.1 hxB.2
 unfold m_bf
 rw [Z7 hl A0,obs,(Qd hl hl ht rfl).symm,B0,V2 A0 A0,Q5 hx A0,obs,h1,obs]
 refine ⟨32*(l.length - 1)+v,?_,A0,Tp hl A0 hx h3 (h4 A0)⟩
 rw [K8 A0 A0,U0 A0 A0]
 congr 1; omega
theorem n32 (N:Nat):N=32*(N / 32)+N % 32:=A0
theorem Xf (N:Nat):pw (N / 32)*2 ^ (N % 32)=2 ^ N:=by rw [D7,← X4]; congr 1; omega
theorem Zp {s:Bool} {l u:LI} {c:Int} (h:lv u=lv l*c):sv s u=sv s l*c:=by
 unfold sv; split
 ·rw [h,lh]
 ·exact h
theorem T9 {N M:Nat} (h:N≤M):(2:Int) ^ N≤2 ^ M:=by
 have h9:((2 ^ N:Nat):Int)≤((2 ^ M:Nat):Int):=Nu.2 (Vg A0 h)
 rw [jl,jl] at h9
 exact h9
theorem yq {s:Bool} {l:LI} (hl:LW l) (hn:l.length≤900) {N:Nat} (hN:N≤32000):Ret (m_gt s l (N:Int)) (fun r=>Bg (sv s l*2 ^ N) r.1 r.2.1∧r.2.2=0):=by
 have hlt:=O5 hl
 unfold m_gt
 rw [K0 (by simp only [H5,decide_eq_true_eq]; omega),S4 hl A0,obs,C0,J0]
 have hup:Ret (m_gg (trimL l) (N:Int)) (fun u=>LW u∧u.length≤1000000∧lv u=lv l*2 ^ N):=by
  by_cases hne:trimL l=[]
  ·unfold m_gg
   rw [hne,M0 (by rfl)]
   have:lv l=0:=by rw [← O1,hne]; rfl
   exact ⟨[],rfl,(fun x hx=>by cases hx),H0,by rw [this,Q3]; rfl⟩
  ·have:=Jp (S3 hl) A0 hne (q:=N / 32) (s:=N % 32) A0 A0
   rw [← n32,Xf,O1] at this
   refine this.mono fun u hu=>⟨hu.1,?_,hu.2.2⟩
   exact N9 (Bg.len (v:=lv u) (m:=2000) (Bg.of (s:=false) hu.1 hu.2.1 H0) (by have:=X1 hu.1; have:=W1 2000; omega) (by
    rw [hu.2.2]
    have h1:=C4 hl
    have h2:pw l.length≤pw 1000:=S5 A0
    have h3:(2:Int) ^ N≤pw 1000:=by
     have h9:=T9 (N:=N) (M:=32*1000) A0
     rw [D7]; exact h9
    have p:(0:Int) < 2 ^ N:=C5 A0
    rw [show pw 2000=pw 1000*pw 1000 from L7 1000 1000]
    have a1:lv l*2 ^ N < pw 1000*2 ^ N:=qa A0 p
    have a2:pw 1000*2 ^ N≤pw 1000*pw 1000:=B3 h3 (U7 (W1 _))
    omega)) A0
 refine hup.mono fun u hu=>?_
 rw [J0]
 refine (Q7 s hu.1 hu.2.1).mono fun r hr=>⟨_,rfl,?_,rfl⟩
 rw [Zp hu.2.2] at hr
 exact hr
theorem Ux {s:Bool} {l:LI} (hl:LW l) (hn:l.length≤900) {N:Nat} (hN:N≤32000) {c:Int} (hd:lv l=c*2 ^ N):Ret (m_gt s l (-(N:Int))) (fun r=>Bg (if s=true then - c else c) r.1 r.2.1∧r.2.2=0):=by
 by_cases h0:N=0
 ·subst h0
  have:=yq (s:=s) hl hn (N:=0) A0
  have e1:sv s l*2 ^ 0=if s=true then - c else c:=by
   rw [show ((2:Int) ^ 0)=1 from rfl,C6] at*
   unfold sv; rw [hd]
  rw [e1] at this
  exact this
 have hlt:=O5 hl
 have p:(0:Int) < 2 ^ N:=C5 A0
 unfold m_gt
 rw [K0 (by simp only [H5,decide_eq_true_eq]; omega),S4 hl A0,obs,B0,J0]
 have e2:wneg .i64 (-(N:Int))=(N:Int):=by
  show IntKind.wrap .i64 (- -(N:Int))=_
  rw [Int.neg_neg,IntWalk.i64_in _ A0]
 have:=Gt (S3 hl) A0 (q:=N / 32) (s:=N % 32) A0 A0
 rw [← n32,Xf,O1] at this
 rw [e2]
 refine this.mono fun u hu=>?_
 obtain ⟨u1,u2,u3,u4⟩:=hu
 rw [hd,ll _ A0] at u3
 rw [u4 (B4 _) (by rw [hd]; exact Int.mul_emod_left _ _),Bool.and_false,K0 H0]
 unfold m_gs
 rw [J0]
 have hul:u.1.length≤1000000:=by
  refine N9 (Bg.len (v:=lv u.1) (m:=1000) (Bg.of (s:=false) u1 u2 H0) (by have:=X1 u1; have:=W1 1000; omega) ?_) A0
  have h1:=C4 hl
  have h2:pw l.length≤pw 1000:=S5 A0
  have h3:c*1≤c*2 ^ N:=B3 A0 (by rw [← u3]; exact X1 u1)
  omega
 refine (Q7 s u1 hul).mono fun r hr=>⟨_,rfl,?_,rfl⟩
 unfold sv at hr
 rw [u3] at hr
 exact hr
theorem dx {s:Bool} {l:LI} (h:sv s l=0):lv l=0:=by unfold sv at h; split at h<;>omega
theorem Ii {s:Bool} {l:LI} (hl:LW l) (hn:l.length≤900) {N:Nat} (hN:N≤32000):Ret (m_9 s l (N:Int)) (fun r=>Bg (sv s l*2 ^ N) r.1 r.2):=by
 unfold m_9
 rw [J0]
 refine (Yb (s:=s) hl A0).mono fun a ha=>?_
 have hup:=vq ha.1.1 A0 (q:=N / 32) (s:=N % 32) A0 A0
 rw [← n32,Xf] at hup
 rw [C0,J0]
 refine hup.mono fun u hu=>?_
 rw [J0]
 refine (R8 a.1 hu.1 A0).mono fun r hr=>⟨_,rfl,?_⟩
 rw [Zp hu.2.2,ha.1.sv] at hr
 exact hr
theorem xq {s:Bool} {l:LI} (hl:LW l) (hn:l.length≤900) {N:Nat} (hN:N≤32000) {c:Int} (hd:sv s l=c*2 ^ N):Ret (m_9 s l (-(N:Int))) (fun r=>Bg c r.1 r.2):=by
 by_cases h0:N=0
 ·subst h0
  have:=Ii (s:=s) hl hn (N:=0) A0
  rw [hd] at this
  refine Ret.mono this fun r hr=>hr.cast (by rw [show ((2:Int) ^ 0)=1 from rfl]; omega)
 have p:(0:Int) < 2 ^ N:=C5 A0
 unfold m_9
 rw [J0]
 refine (Yb (s:=s) hl A0).mono fun a ha=>?_
 have e2:wneg .i64 (-(N:Int))=(N:Int):=by
  show IntKind.wrap .i64 (- -(N:Int))=_
  rw [Int.neg_neg,IntWalk.i64_in _ A0]
 have hdn:=Hi ha.1.1 A0 (q:=N / 32) (s:=N % 32) A0 A0
 rw [← n32,Xf] at hdn
 have hsv:=ha.1.sv
 rw [hd] at hsv
 have hex:∃ c',lv a.2=c'*2 ^ N∧(if a.1=true then - c' else c')=c:=by
  unfold sv at hsv
  split at hsv
  ·rename_i h; exact ⟨-c,by rw [lh]; omega,by rw [M0 h]; omega⟩
  ·rename_i h; exact ⟨c,hsv,by rw [K0 h]⟩
 obtain ⟨c',hc1,hc2⟩:=hex
 rw [B0,e2,J0]
 refine hdn.mono fun u hu=>?_
 obtain ⟨u1,u2,u3,u4⟩:=hu
 rw [hc1,ll _ A0] at u3
 rw [J0]
 refine (R8 a.1 u1 A0).mono fun r hr=>?_
 rw [u4 ha.1.2.1 (by rw [hc1]; exact Int.mul_emod_left _ _),Bool.and_false,K0 H0]
 refine ⟨_,rfl,?_⟩
 unfold sv at hr
 rw [u3,hc2] at hr
 exact hr
def Dv (v x:Int) (d:Bool×Bool×LI×Int):Prop:=d.1=false∧∃ (z:Nat) (u:Int),v=2 ^ z*(2*u+1)∧Bg (2*u+1) d.2.1 d.2.2.1∧d.2.2.2=x+z
theorem Dv.uniq {v x:Int} {d d':Bool×Bool×LI×Int} (h:Dv v x d) (h':Dv v x d'):d=d':=by
 obtain ⟨a,b,l,e⟩:=d
 obtain ⟨a',b',l',e'⟩:=d'
 obtain ⟨h1,z,u,h2,h3,h4⟩:=h
 obtain ⟨h1',z',u',h2',h3',h4'⟩:=h'
 simp only at*
 have hz:z=z':=Tz.uniq ⟨u,h2⟩ ⟨u',h2'⟩
 subst hz
 rw [h2] at h2'
 have hp:(0:Int) < 2 ^ z:=C5 A0
 have hu:=UD A0 h2'
 rw [← hu] at h3'
 obtain ⟨e1,e2⟩:=h3.uniq h3'
 rw [h1,h1',e1,e2,h4,h4']
theorem My (s:Bool) (l:LI) {z:Nat} (hz:z≤100000):m_gv s l (z:Int)=(m_gt s l (-(z:Int))).bind fun r=>some (r.1,r.2.1):=by
 have h1:loop m_gu ((z:Int),s,l)=some ((z:Int),s,l):=by
  refine Ret.eq (Q0 0 (fun k t=>t=((z:Int),s,l)) rfl ?_ A0)
  rintro k _ hk rfl
  unfold m_gu
  simp only
  rw [B0]
  exact ⟨_,rfl,rfl⟩
 unfold m_gv
 rw [h1,obs]
 have e2:wneg .i64 (z:Int)= -(z:Int):=by
  show IntKind.wrap .i64 _=_
  rw [IntWalk.i64_in _ A0]
 simp only
 rw [e2]
theorem br (s:Bool) (l:LI) {z:Nat} (hz:z≤100000):m_bb s l (z:Int)=(m_9 s l (-(z:Int))).bind fun r=>some (r.1,r.2):=by
 have h1:loop m_ba ((z:Int),s,l)=some ((z:Int),s,l):=by
  refine Ret.eq (Q0 0 (fun k t=>t=((z:Int),s,l)) rfl ?_ A0)
  rintro k _ hk rfl
  unfold m_ba
  simp only
  rw [B0]
  exact ⟨_,rfl,rfl⟩
 unfold m_bb
 rw [h1,obs]
 have e2:wneg .i64 (z:Int)= -(z:Int):=by
  show IntKind.wrap .i64 _=_
  rw [IntWalk.i64_in _ A0]
 simp only
 rw [e2]
theorem Mc {v:Int} {s:Bool} {l:LI} (h:Bg v s l) (hv:v≠0):lv l≠0∧l≠[]:=by
 have h1:lv l≠0:=fun h0=>hv (by rw [← h.sv]; unfold sv; rw [h0]; split<;>rfl)
 exact ⟨h1,fun h2=>h1 (by rw [h2]; rfl)⟩
theorem Qr {s:Bool} {l:LI} (hl:LW l) (hn:l.length≤100) (hv:sv s l≠0) {x:Int} (hx: -20000≤x∧x≤20000):Ret (m_gw false s l x) (fun r=>Dv (sv s l) x (r.1,r.2.1,r.2.2.1,r.2.2.2.1)∧r.2.2.2.2=true):=by
 unfold m_gw
 rw [K0 H0,J0]
 refine (Zf (s:=s) hl A0).mono fun a ha=>?_
 obtain ⟨hne,hnil⟩:=Mc ha hv
 have hal:a.2.length≤100:=by
  refine Bg.len ha ?_ ?_<;>(have h1:=C4 hl; have h2:pw l.length≤pw 100:=S5 hn; have h3:=X1 hl; have:=W1 100; unfold sv; split<;>omega)
 rw [ae ha.1 A0,obs,ha.sv]
 have hs0:¬ (if sv s l < 0 then -1 else if 0 < sv s l then 1 else 0:Int)=0:=by split<;>(try split)<;>omega
 rw [K0 hs0]
 obtain ⟨z,hz1,hz2,m,hz3⟩:=Ew (s:=a.1) ha.1 A0 hne
 obtain ⟨b,hb1,hb2,hb3⟩:=YC (s:=a.1) ha.1 ha.2.1 A0 hnil
 rw [hz1,obs,hb1,obs,V2 A0 A0,V2 A0 A0,B0,obs,K0 (by simp only [decide_eq_true_eq]; omega),My a.1 a.2 A0]
 have hsh:=Ux (s:=a.1) ha.1 A0 (N:=z) A0 (c:=2*m+1) (by rw [hz3]; grind)
 obtain ⟨r,hr1,hr2,hr3⟩:=hsh
 rw [hr1,obs,obs,U0 A0 A0]
 refine ⟨_,rfl,⟨rfl,z,if a.1=true then -m - 1 else m,?_,?_,rfl⟩,rfl⟩
 ·rw [← ha.sv]
  unfold sv
  rw [hz3]
  split<;>grind
 ·refine hr2.cast ?_
  split<;>omega
theorem uj {s:Bool} {l:LI} (hl:LW l) (hn:l.length≤100) (hv:sv s l≠0) {x:Int} (hx: -20000≤x∧x≤20000):Ret (m_bg s l x) (Dv (sv s l) x):=by
 unfold m_bg
 rw [J0]
 refine (Yb (s:=s) hl A0).mono fun a ha=>?_
 obtain ⟨hne,hnil⟩:=Mc ha.1 hv
 have hal:0 < a.2.length:=Cb.2 hnil
 rw [B0,B0]
 obtain ⟨z,hz1,hz2,m,hz3⟩:=Cw (s:=a.1) ha.1.1 ha.1.2.1 A0 hne
 rw [hz1,obs,J0]
 refine (Be (s:=a.1) ha.1.1 A0).mono fun c hc=>?_
 rw [br c.1 c.2 A0]
 have hp:(0:Int) < 2 ^ z:=C5 A0
 have hm0:0≤m:=by
  have:=X1 ha.1.1
  rw [hz3] at this
  refine H1 fun hc=>?_
  have:2 ^ z*(2*m+1) < 0:=Ru hp A0
  omega
 obtain ⟨r,hr1,hr2⟩:=xq (s:=c.1) hc.1.1 A0 (N:=z) A0 (c:=2*m+1) (by rw [hc.1.sv,hz3]; grind)
 have hr0:=Mc hr2 A0
 have hrl:r.2.length≤100:=by
  refine Bg.len hr2 ?_ ?_<;>(have h1:=C4 ha.1.1; have h2:pw a.2.length≤pw 100:=S5 A0; have:=W1 100; have h3:(2*m+1)*1≤(2*m+1)*2 ^ z:=B3 A0 A0; have h4:2 ^ z*(2*m+1)=(2*m+1)*2 ^ z:=I2 ..; omega)
 obtain ⟨b,hb1,hb2,hb3⟩:=Xj (s:=r.1) hr2.1 hr2.2.1 A0 hr0.2
 rw [hr1,obs,obs,U0 A0 A0,B0,hb1,obs,obs,U0 A0 A0,K0 (by simp only [decide_eq_true_eq]; omega)]
 have has:a.1=s:=by
  have h1:=ha.1.neg
  have h2:=(dx (s:=s) (l:=l))
  cases hs:s
  ·cases hq:a.1
   ·rfl
   ·have:=h1.1 hq
    rw [hs] at this
    have:=X1 hl
    simp only [sv] at*
    simp at*
    omega
  ·refine h1.2 ?_
   rw [hs] at hv ⊢
   have:=X1 hl
   simp only [sv] at*
   simp at*
   omega
 refine ⟨_,rfl,rfl,z,if s=true then -m - 1 else m,?_,?_,rfl⟩
 ·rw [← ha.1.sv]
  unfold sv
  rw [hz3,has]
  split<;>grind
 ·refine ⟨hr2.1,hr2.2.1,?_,fun _=>hr0.2⟩
  have h5:=hr2.abs
  rw [B0] at h5
  show sv s r.2=_
  unfold sv
  rw [h5]
  split<;>omega
theorem qA {s:Bool} {a:LI} (ha:LW a) (hn:a.length≤1000000):Ret (m_f7 s a) (fun r=>Bg (- sv s a) r.1 r.2):=by
 unfold m_f7
 rw [jc hn,obs,J0]
 refine (Q7 (!s) ha hn).mono fun r hr=>⟨_,rfl,?_⟩
 rw [Cf] at hr
 exact hr
def sgF (s:Nat):Int:=if s=1 then -1 else 1
theorem Aq {s m:Nat}:sgF s*((4503599627370496+m:Nat):Int)≠0:=by unfold sgF; split<;>omega
theorem Wr {s e m:Nat} (hs:s < 2) (he:e < 2048) (hm:m < 4503599627370496):(!(decide ((wand .u64 (Fl s e m) 9223372036854775808)=0)))=decide (s=1):=by
 rw [PB hs he hm]
 rcases (show s=0∨s=1 by omega) with rfl | rfl<;>rfl
theorem fA {s e m:Nat} (hs:s < 2) (h0:0 < e) (he:e < 2047) (hm:m < 4503599627370496):Ret (m_g0 (Fl s e m)) (Dv (sgF s*((4503599627370496+m:Nat):Int)) ((e:Int) - 1075)):=by
 unfold m_g0 m_ft
 rw [obs,xg hs A0 hm,Mj hs A0 hm,M8 (x:=(e:Int)) A0]
 simp only
 rw [B0,B0,V2 A0 A0,dt hm]
 unfold m_gz
 rw [M8 A0,J0]
 refine (Rs (n:=((4503599627370496+m:Nat):Int)) A0 A0).mono fun a ha=>?_
 have hal:a.2.length≤2:=Bg.len ha (by have:pw 2=18446744073709551616:=rfl; omega) (by have:pw 2=18446744073709551616:=rfl; omega)
 unfold m_f5
 rw [obs,Wr hs A0 hm]
 have fin:∀ (b:Bool) (l:LI),Bg (sgF s*((4503599627370496+m:Nat):Int)) b l→l.length≤2→Ret (m_gy ((e:Int) - 1075) b l) (Dv (sgF s*((4503599627370496+m:Nat):Int)) ((e:Int) - 1075)):=by
  intro b l hB hl
  unfold m_gy m_gx
  rw [J0,J0]
  have:=Qr (s:=b) hB.1 A0 (by rw [hB.sv]; exact Aq) (x:=(e:Int) - 1075) A0
  rw [hB.sv] at this
  exact this.mono fun r hr=>⟨_,rfl,_,rfl,hr.1⟩
 rw [O0]
 refine ⟨fun h1=>?_,fun h1=>?_⟩
 ·have h1:s=1:=by simpa using h1
  subst h1
  rw [J0]
  refine (qA (s:=a.1) ha.1 A0).mono fun r hr=>?_
  rw [ha.sv] at hr
  have e1:sgF 1*((4503599627370496+m:Nat):Int)= - ((4503599627370496+m:Nat):Int):=by unfold sgF; rw [M0 rfl]; omega
  refine fin r.1 r.2 (hr.cast e1.symm) ?_
  exact Bg.len hr (by have:pw 2=18446744073709551616:=rfl; omega) (by have:pw 2=18446744073709551616:=rfl; omega)
 ·have h2:¬ s=1:=by simpa using h1
  have h1:s=0:=A0
  subst h1
  exact fin a.1 a.2 (ha.cast (by unfold sgF; rw [B0]; omega)) hal
theorem Iy {s e m:Nat} (hs:s < 2) (h0:0 < e) (he:e < 2047) (hm:m < 4503599627370496):Ret (m_ci (Fl s e m)) (Dv (sgF s*((4503599627370496+m:Nat):Int)) ((e:Int) - 1075)):=by
 unfold m_ci m_d
 rw [xg hs A0 hm,Mj hs A0 hm,obs,M0 (by simp; omega),M8 (x:=(e:Int)) A0,C0,V2 A0 A0,dt hm]
 unfold m_ch m_cg
 rw [obs,Wr hs A0 hm,J0]
 have hw:LW [wc .u32 ((4503599627370496+m:Nat):Int),wc .u32 (wsrc .u64 ((4503599627370496+m:Nat):Int) 32)]:=by
  intro x hx
  rw [L8,L8] at hx
  have b0:(0:Int) < B:=by unfold B; omega
  rcases P3.1 hx with rfl | hx
  ·exact ⟨L3 _ A0,M3 _ b0⟩
  ·rw [w6.1 hx]
   exact ⟨L3 _ A0,M3 _ b0⟩
 have hv:lv [wc .u32 ((4503599627370496+m:Nat):Int),wc .u32 (wsrc .u64 ((4503599627370496+m:Nat):Int) 32)]=((4503599627370496+m:Nat):Int):=by
  rw [W6 A0,L8,L8]
  simp only [lv]
  unfold B
  omega
 have hsv:sv (decide (s=1)) [wc .u32 ((4503599627370496+m:Nat):Int),wc .u32 (wsrc .u64 ((4503599627370496+m:Nat):Int) 32)]=sgF s*((4503599627370496+m:Nat):Int):=by
  unfold sv sgF
  rw [hv]
  rcases (show s=0∨s=1 by omega) with rfl | rfl
  ·simp
  ·simp
 have:=uj (s:=decide (s=1)) hw H0 (by rw [hsv]; exact Aq) (x:=(e:Int) - 1075) A0
 rw [hsv] at this
 exact this.mono fun r hr=>⟨_,rfl,hr⟩
theorem Nr {s e m:Nat} (hs:s < 2) (h0:0 < e) (he:e < 2047) (hm:m < 4503599627370496):∃ d,m_g0 (Fl s e m)=some d∧m_ci (Fl s e m)=some d∧Dv (sgF s*((4503599627370496+m:Nat):Int)) ((e:Int) - 1075) d:=by
 obtain ⟨d,h1,h2⟩:=fA hs h0 he hm
 obtain ⟨d',h3,h4⟩:=Iy hs h0 he hm
 obtain rfl:=h2.uniq h4
 exact ⟨d,h1,h3,h2⟩
theorem Yf:m_g0 0=some (false,false,[],0)∧m_ci 0=some (false,false,[],0):=⟨I0,I0⟩
def Gf (a b:Nat) (f:Int):Prop:=f=0∨∃ s e m,s < 2∧a≤e∧e≤b∧m < 4503599627370496∧f=Fl s e m
structure Fd_ (x0:Int) (f v:Int) (d:Bool×Bool×LI×Int):Prop where
 p:m_g0 f=some d
 r:m_ci f=some d
 bad:d.1=false
 zero:v=0→d=(false,false,[],0)
 bg:v≠0→∃ (k:Nat) (u:Int),d.2.2.2=x0+k∧k≤300∧Bg u d.2.1 d.2.2.1∧v=u*2 ^ k∧(-9007199254740992 < u∧u < 9007199254740992)∧-(2 ^ 145) < v∧v < 2 ^ 145
theorem Gf.dy {a b:Nat} {f:Int} (h:Gf a b f) (ha:0 < a) (hb:b < 2047) (hab:b≤a+92):∃ v d,Fd_ ((a:Int) - 1075) f v d:=by
 rcases h with rfl | ⟨s,e,m,hs,h1,h2,hm,rfl⟩
 ·exact ⟨0,_,Yf.1,Yf.2,rfl,fun _=>rfl,fun h=>absurd rfl h⟩
 ·obtain ⟨d,d1,d2,d3⟩:=Nr hs (e:=e) A0 A0 hm
  obtain ⟨d4,z,u,d5,d6,d7⟩:=d3
  have hz:z < 53:=by
   refine H1 fun hc=>?_
   have h3:=T9 (N:=53) (M:=z) A0
   have h4:(2:Int) ^ z*1≤2 ^ z*(2*u+1)∨2 ^ z*(2*u+1)≤2 ^ z*(-1):=by
    have hp:(0:Int) < 2 ^ z:=C5 A0
    by_cases hu:0≤u
    ·exact .inl (B3 A0 A0)
    ·exact .inr (B3 A0 A0)
   have h5:(2:Int) ^ 53=9007199254740992:=rfl
   unfold sgF at d5
   split at d5<;>omega
  have hp:(1:Int)≤2 ^ z:=by have:(0:Int) < 2 ^ z:=C5 A0; omega
  refine ⟨(2*u+1)*2 ^ (e - a+z),d,d1,d2,d4,fun h=>?_,fun _=>⟨e - a+z,2*u+1,by rw [d7]; omega,A0,d6,rfl,⟨?_,?_⟩,?_⟩⟩
  ·exfalso
   have hp:(0:Int) < 2 ^ (e - a+z):=C5 A0
   rcases L4.1 h with h | h<;>omega
  ·have h4:u < 0→2 ^ z*(2*u+1)≤1*(2*u+1):=fun hu=>kl hp A0
   unfold sgF at d5
   split at d5<;>omega
  ·have h4:0≤u→1*(2*u+1)≤2 ^ z*(2*u+1):=fun hu=>X2 hp A0
   unfold sgF at d5
   split at d5<;>omega
  ·have e1:(2*u+1)*2 ^ (e - a+z)=2 ^ z*(2*u+1)*2 ^ (e - a):=by rw [X4]; grind
   have e2:(2:Int) ^ 145=9007199254740992*2 ^ 92:=by rw [show 145=53+92 from rfl,X4]; rfl
   have hp2:=T9 (N:=e - a) (M:=92) A0
   have hp3:(0:Int) < 2 ^ (e - a):=C5 A0
   rw [e1,← d5,e2]
   generalize (2:Int) ^ 92=P at*
   generalize (2:Int) ^ (e - a)=Q at*
   have hm2: -9007199254740991≤sgF s*((4503599627370496+m:Nat):Int)∧sgF s*((4503599627370496+m:Nat):Int)≤9007199254740991:=by unfold sgF; split<;>omega
   have c1:sgF s*((4503599627370496+m:Nat):Int)*Q≤9007199254740991*Q:=X2 hm2.2 A0
   have c2: -9007199254740991*Q≤sgF s*((4503599627370496+m:Nat):Int)*Q:=X2 hm2.1 A0
   exact ⟨A0,A0⟩
theorem zg:m_g1 false false [] 0=some 0∧m_cp false false [] 0=some 0:=⟨I0,I0⟩
theorem Bg.len2 {u:Int} {s:Bool} {l:LI} (h:Bg u s l) (h1: -9007199254740992 < u) (h2:u < 9007199254740992):l.length≤2:=Bg.len h (by have:pw 2=18446744073709551616:=rfl; omega) (by have:pw 2=18446744073709551616:=rfl; omega)
theorem Fd_.sign {x0 f v:Int} {d:Bool×Bool×LI×Int} (h:Fd_ x0 f v d) (hx: -2000≤x0∧x0≤2000):∃ g,m_g1 d.1 d.2.1 d.2.2.1 d.2.2.2=some g∧m_cp d.1 d.2.1 d.2.2.1 d.2.2.2=some g∧(g=0↔v=0):=by
 by_cases hv:v=0
 ·rw [h.zero hv]
  exact ⟨0,zg.1,zg.2,by simp [hv]⟩
 ·obtain ⟨k,u,h1,h2,h3,h4,⟨h5,h6⟩,_⟩:=h.bg hv
  have hu:u≠0:=fun h0=>hv (by rw [h4,h0,Q3])
  have hl:=h3.len2 h5 h6
  obtain ⟨r,r1,r2⟩:=Qr (s:=d.2.1) h3.1 A0 (by rw [h3.sv]; exact hu) (x:=d.2.2.2) A0
  obtain ⟨q,q1,q2⟩:=uj (s:=d.2.1) h3.1 A0 (by rw [h3.sv]; exact hu) (x:=d.2.2.2) A0
  have e1:=r2.1.uniq q2
  obtain ⟨q0,z,y,e3,e4,_⟩:=q2
  have hy:=Mc e4 A0
  have hql:q.2.2.1.length≤2:=by
   have hp:(1:Int)≤2 ^ z:=by have:(0:Int) < 2 ^ z:=C5 A0; omega
   rw [h3.sv] at e3
   refine e4.len2 ?_ ?_
   ·have h4:y < 0→2 ^ z*(2*y+1)≤1*(2*y+1):=fun hu=>kl hp A0
    omega
   ·have h4:0≤y→1*(2*y+1)≤2 ^ z*(2*y+1):=fun hu=>X2 hp A0
    omega
  have f1:=ae (s:=q.2.1) e4.1 A0
  have f2:=Qb e4 A0
  rw [e4.sv] at f1
  refine ⟨if 2*y+1 < 0 then -1 else if 0 < 2*y+1 then 1 else 0,?_,?_,?_⟩
  ·unfold m_g1
   rw [h.bad,r1,obs]
   have e5:r.2.1=q.2.1:=Z0 (·.2.1) e1
   have e6:r.2.2.1=q.2.2.1:=Z0 (·.2.2.1) e1
   rw [e5,e6,f1,obs]
  ·unfold m_cp m_bi
   rw [h.bad,K0 H0,q1,obs,obs]
   simp only
   rw [q0,K0 H0,f2,obs]
  ·constructor
   ·intro h0; exfalso; split at h0<;>(try split at h0)<;>omega
   ·intro h0; exact absurd h0 hv
theorem dB {r:Int} (h0:4294967296≤r) (h1:r < 9223372036854775808) {l:LI} (h:Bg r false l):m_bu false l=some (r,true):=by
 have e:B=4294967296:=rfl
 have p2:pw 2=18446744073709551616:=rfl
 have p1:pw 1=4294967296:=rfl
 have hr:lv l=r:=by have:=h.sv; unfold sv at this; rw [K0 H0] at this; exact this
 have hle:l.length≤2:=Bg.len h A0 A0
 have hl2:l.length=2:=by
  have hb:=C4 h.1
  have:¬ l.length≤1:=fun hc=>by have:=S5 hc; omega
  omega
 obtain ⟨a,b,rfl⟩:∃ a b,l=[a,b]:=by
  match l,hl2 with
  | [a,b],_=>exact ⟨a,b,rfl⟩
 have ha:=h.1 a H0
 have hb:=h.1 b H0
 have hv:a+B*b=r:=by
  have:a+B*(b+B*0)=r:=hr
  rw [w4,V7] at this
  exact this
 have hN:m_k false [a,b]=some (false,[a,b]):=by
  obtain ⟨q,q1,q2⟩:=Yb (s:=false) h.1 H0
  have h':Bg (sv false [a,b]) false [a,b]:=h.cast h.sv.symm
  obtain ⟨e1,e2⟩:=q2.1.uniq h'
  rw [q1,← e1,← e2]
 unfold m_bu
 rw [hN,obs,K0 H0]
 have hL:loop (m_bt (false,[a,b])) (0,0)=some r:=by
  refine Ret.eq (Q0 2 (fun k (t:Int×Int)=>t=(if k=0 then 0 else if k=1 then a else r,(k:Int))) rfl ?_ A0)
  rintro k _ hk rfl
  unfold m_bt
  simp only [E2,N2]
  rcases (show k=0∨k=1∨k=2 by omega) with rfl | rfl | rfl
  ·rw [C0,show getI [a,b] ((0:Nat):Int)=some a from rfl,obs]
   have e1:wshl .u64 (wc .u64 a) (wm .i64 32 ((0:Nat):Int))=some a:=by
    rw [K8 A0 A0,P2 ⟨ha.1,A0⟩]
    unfold wshl
    rw [B0]
    show some (IntKind.u64.wrap (a*2 ^ 0))=_
    rw [show ((2:Int) ^ 0)=1 from rfl,C6,IntWalk.u64_in _ ⟨ha.1,A0⟩]
   have e2:wor .u64 0 a=a:=by
    have:=Q9 (x:=0) (y:=a) ⟨A0,A0⟩ ha
    rw [Q3,Le] at this
    exact this
   rw [e1,obs]
   show Ret (some (Sum.inl (wor .u64 0 a,wa .i64 ((0:Nat):Int) 1))) _
   rw [e2]
   exact ⟨_,rfl,A0,rfl⟩
  ·rw [C0,show getI [a,b] ((1:Nat):Int)=some b from rfl,obs]
   have hbB:b*B=B*b:=I2 _ _
   have e1:wshl .u64 (wc .u64 b) (wm .i64 32 ((1:Nat):Int))=some (b*B):=by
    rw [K8 A0 A0,P2 ⟨hb.1,A0⟩]
    unfold wshl
    rw [B0]
    show some (IntKind.u64.wrap (b*2 ^ 32))=_
    rw [show ((2:Int) ^ 32)=B from rfl,IntWalk.u64_in _ ⟨by have:=K3 hb.1 (show 0≤B by omega); omega,A0⟩]
   have e2:wor .u64 a (b*B)=r:=by
    have:=Q9 (x:=b) (y:=a) hb ha
    have h3:wor .u64 a (b*B)=wor .u64 (b*B) a:=by unfold wor; rw [BitVec.or_comm]
    rw [h3,this]
    have:b*B=B*b:=I2 _ _
    omega
   rw [e1,obs]
   show Ret (some (Sum.inl (wor .u64 a (b*B),wa .i64 ((1:Nat):Int) 1))) _
   rw [e2]
   exact ⟨_,rfl,A0,rfl⟩
  ·rw [B0]
   exact ⟨_,rfl,rfl⟩
 simp only
 rw [hL,obs,K0 H0,B0,M8 ⟨A0,A0⟩]
theorem Dv.self {v x:Int} {d:Bool×Bool×LI×Int} (h:Dv v x d) (k:Int):∃ (z:Nat) (u:Int),v=2 ^ z*(2*u+1)∧Bg (2*u+1) d.2.1 d.2.2.1∧d.2.2.2=x+z∧Dv (2*u+1) (d.2.2.2+k) (false,d.2.1,d.2.2.1,d.2.2.2+k):=by
 obtain ⟨h1,z,u,h2,h3,h4⟩:=h
 exact ⟨z,u,h2,h3,h4,rfl,0,u,by rw [show ((2:Int) ^ 0)=1 from rfl,E4],h3,H0⟩
theorem js {u y:Int} {s:Bool} {l:LI} (h:Bg (2*u+1) s l) (hl:l.length≤100) (hy: -20000≤y∧y≤20000):m_bg s l y=some (false,s,l,y):=by
 obtain ⟨q,q1,q2⟩:=uj (s:=s) h.1 hl (by rw [h.sv]; omega) hy
 rw [h.sv] at q2
 rw [q1]
 congr 1
 exact q2.uniq ⟨rfl,0,u,by rw [show ((2:Int) ^ 0)=1 from rfl,E4],h,H0⟩
theorem ay (k:Int):m_ck 0 k 0=some 0:=by
 unfold m_ck
 rw [show m_cf 0=some false by kernel_rfl,obs,K0 H0,show m_ce 0=some 0 by kernel_rfl,obs,B0]
theorem VA {s e m:Nat} (hs:s < 2) (h0:0 < e) (he:e < 2047) (hm:m < 4503599627370496):m_ce (Fl s e m)=some 1:=by
 unfold m_ce
 rw [xg hs A0 hm,Mj hs A0 hm,K0 (by simp; omega),B0,K0 (by simp; omega)]
theorem Hy {s:Bool} {l:LI} {b u:Nat} (h:Bg (u:Int) false l) (hb:Bl_ b (u:Int)) (hb53:b≤53) {y:Int} (h1: -900≤y+b) (h2:y+b≤900):∃ m:Nat,m < 4503599627370496∧m_bx s false l y false 0=some (Fl (if s=true then 1 else 0) (y+b+1022).toNat m):=by
 have hu0:(u:Int)≠0:=fun h0=>by have:=hb.2; have:(0:Int) < 2 ^ b:=C5 A0; omega
 obtain ⟨hne,hnil⟩:=Mc h hu0
 have hlv:lv l=(u:Int):=by have:=h.sv; unfold sv at this; rw [K0 H0] at this; exact this
 have h53:=T9 (N:=b) (M:=53) hb53
 have hu53:(u:Int) < 9007199254740992:=by have:=hb.1; have:(2:Int) ^ 53=9007199254740992:=rfl; omega
 have hl2:l.length≤2:=h.len2 A0 hu53
 obtain ⟨b',c1,c2,c3⟩:=Xj (s:=false) h.1 h.2.1 A0 hnil
 rw [hlv] at c3
 have hbb:=c3.uniq hb
 subst hbb
 have hpb:(2:Int) ^ b'*2 ^ (53 - b')=9007199254740992:=by rw [← X4,show b'+(53 - b')=53 by omega]; rfl
 have hK0:(0:Int) < 2 ^ (53 - b'):=C5 A0
 have hK1:(u:Int)*2 ^ (53 - b') < 9007199254740992:=by rw [← hpb]; exact qa hb.1 hK0
 have hK2:4503599627370496≤(u:Int)*2 ^ (53 - b'):=by
  have:(2:Int) ^ b'*2 ^ (53 - b')≤2*(u:Int)*2 ^ (53 - b'):=X2 hb.2 A0
  rw [hpb,N6] at this
  omega
 generalize hK:(u:Int)*2 ^ (53 - b')=K at*
 have hunit:imax (ws .i64 (ws .i64 (wa .i64 y (b':Int)) 1) 52) (-1074)=y+b' - 53:=by
  rw [U0 A0 A0,V2 (x:=y+(b':Int)) A0 A0,V2 A0 A0]
  unfold imax
  split<;>omega
 have fin:∀ {c:Bool} {t:LI},Bg K c t→m_bw s 0 y (b':Int) c t=some (Fl (if s=true then 1 else 0) (y+b'+1022).toNat (K - 4503599627370496).toNat):=by
  intro c t ht
  have hc:c=false:=by
   cases c
   ·rfl
   ·have:=ht.neg.1 rfl; omega
  subst hc
  unfold m_bw
  rw [dB A0 A0 ht,obs]
  simp only
  rw [B0,hunit]
  unfold m_bv
  rw [U0 A0 A0,U0 A0 A0,K0 (by simp only [V3,decide_eq_true_eq]; omega),C0,P2 (x:=y+(b':Int) - 53+1075) ⟨A0,A0⟩,V2 A0 A0,P2 ⟨A0,A0⟩]
  have e1:y+(b':Int) - 53+1075=(((y+b'+1022).toNat:Nat):Int):=A0
  have e2:K - 4503599627370496=(((K - 4503599627370496).toNat:Nat):Int):=A0
  have e3:=QB (u:=(y+b'+1022).toNat) (m:=(K - 4503599627370496).toNat) A0 A0
  rw [← e2,← e1] at e3
  rw [e3]
  unfold m_bk
  cases s
  ·rw [K0 H0,obs]; rfl
  ·rw [M0 rfl,obs,OB A0 A0]; rfl
 refine ⟨(K - 4503599627370496).toNat,A0,?_⟩
 unfold m_bx
 rw [c1,obs,U0 A0 A0,V2 A0 A0,B0]
 have hunit':=hunit
 rw [U0 A0 A0,V2 (x:=y+(b':Int)) A0 A0] at hunit'
 rw [hunit']
 by_cases hc:y≤y+b' - 53
 ·have e53:b'=53:=A0
  rw [M0 hc,V2 A0 A0,show y+(b':Int) - 53 - y=((0:Nat):Int) by omega]
  have hl0:m_bm false l ((0:Nat):Int)=some false:=by
   unfold m_bm
   rw [Z7 h.1 A0,obs,(Qd h.1 h.1 h.2.1 rfl).symm]
   obtain ⟨r,r1,r2⟩:=Hi h.1 A0 (q:=0) (s:=0) A0 A0
   rw [show 32*0+0=0 from rfl] at r1
   rw [r1,obs,r2.2.2.2 h.2.1 (by rw [show pw 0*2 ^ 0=1 from rfl]; exact Int.emod_one _)]
  obtain ⟨r,r1,r2⟩:=xq (s:=false) h.1 A0 (N:=0) A0 (c:=(u:Int)) (by rw [h.sv]; rw [show ((2:Int) ^ 0)=1 from rfl,C6])
  unfold m_bs
  rw [br false l A0,r1,obs,obs,hl0,obs,M0 (by rfl),obs]
  refine fin (r2.cast ?_)
  rw [← hK,e53]
  show (u:Int)=u*1
  omega
 ·rw [K0 hc,V2 A0 A0,show y - (y+(b':Int) - 53)=((53 - b':Nat):Int) by omega]
  obtain ⟨r,r1,r2⟩:=Ii (s:=false) h.1 A0 (N:=53 - b') A0
  rw [h.sv,hK] at r2
  rw [r1,obs]
  exact fin r2
theorem ky {s e m:Nat} (hs:s < 2) (h0:500≤e) (he:e≤1500) (hm:m < 4503599627370496) {k:Int} (hk: -10≤k∧k≤10):∃ s' m':Nat,s' < 2∧m' < 4503599627370496∧m_ck (Fl s e m) k 0=some (Fl s' ((e:Int)+k).toNat m'):=by
 obtain ⟨d,d1,d2,d3⟩:=Nr hs (e:=e) A0 A0 hm
 have hbad:=d3.1
 obtain ⟨z,u,e1,e2,e3,_⟩:=d3.self 0
 have hp:(1:Int)≤2 ^ z:=by have:(0:Int) < 2 ^ z:=C5 A0; omega
 have habs:∃ U:Nat,lv d.2.2.1=(U:Int)∧(U:Int)*2 ^ z=((4503599627370496+m:Nat):Int):=by
  refine ⟨(lv d.2.2.1).toNat,(Me (X1 e2.1)).symm,?_⟩
  rw [Me (X1 e2.1),e2.abs]
  unfold sgF at e1
  split
  ·rename_i hneg
   have:(-(2*u+1))*2 ^ z= - (2 ^ z*(2*u+1)):=by grind
   have h5:2 ^ z*(2*u+1) < 0:=Ru A0 hneg
   split at e1<;>omega
  ·rename_i hneg
   have:(2*u+1)*2 ^ z=2 ^ z*(2*u+1):=I2 _ _
   have h5:0≤2 ^ z*(2*u+1):=K3 A0 A0
   split at e1<;>omega
 obtain ⟨U,hU1,hU2⟩:=habs
 have hU0:0 < U:=by
  rcases ma U with h | h
  ·subst h; simp at hU2; omega
  ·exact h
 have hUle:(U:Int)*1≤U*2 ^ z:=B3 hp A0
 have hlen:d.2.2.1.length≤2:=e2.len2 (by have:=e2.abs; rw [hU1] at this; split at this<;>omega) (by have:=e2.abs; rw [hU1] at this; split at this<;>omega)
 have hz:z < 53:=by
  refine H1 fun hc=>?_
  have h3:=T9 (N:=53) (M:=z) A0
  have h5:(2:Int) ^ 53=9007199254740992:=rfl
  have h6:1*2 ^ z≤(U:Int)*2 ^ z:=X2 A0 A0
  omega
 obtain ⟨b,_,hb0,hb⟩:=Xj (s:=false) e2.1 e2.2.1 A0 (Mc e2 A0).2
 rw [hU1] at hb
 have hbz:b+z=53:=by
  have hA:Bl_ (b+z) ((4503599627370496+m:Nat):Int):=by
   refine ⟨?_,?_⟩
   ·rw [X4,← hU2]; exact qa hb.1 A0
   ·rw [X4,← hU2,← N6]; exact X2 hb.2 A0
  have hB:Bl_ 53 ((4503599627370496+m:Nat):Int):=by
   have h5:(2:Int) ^ 53=9007199254740992:=rfl
   exact ⟨A0,A0⟩
  exact hA.uniq hB
 have hBU:Bg (U:Int) false d.2.2.1:=⟨e2.1,e2.2.1,by unfold sv; rw [K0 H0]; exact hU1,H0⟩
 obtain ⟨m',hm',hR⟩:=Hy (s:=d.2.1) hBU hb A0 (y:=d.2.2.2+k) A0 A0
 refine ⟨if d.2.1=true then 1 else 0,m',by split<;>omega,hm',?_⟩
 have hsg:¬ (if 2*u+1 < 0 then -1 else if 0 < 2*u+1 then 1 else 0:Int)=0:=by split<;>(try split)<;>omega
 have hS:=Qb e2 A0
 have hM0:=js e2 A0 (y:=d.2.2.2) A0
 have hMk:=js e2 A0 (y:=d.2.2.2+k) A0
 have hA:m_o d.2.1 d.2.2.1=some (false,d.2.2.1):=by
  obtain ⟨q,q1,q2,_⟩:=Be (s:=d.2.1) e2.1 A0
  rw [hU1] at q2
  obtain ⟨f1,f2⟩:=q2.uniq hBU
  rw [q1,← f1,← f2]
 have hScale:m_cj d.1 d.2.1 d.2.2.1 d.2.2.2 k=some (false,d.2.1,d.2.2.1,d.2.2.2+k):=by
  unfold m_cj m_bi
  rw [hbad,K0 H0,hM0,obs,obs]
  simp only
  rw [K0 H0,hS,obs,obs,K0 (by simpa using hsg),K0 (by simp only [H5,decide_eq_true_eq]; omega),U0 A0 A0,hMk,obs]
 have hRound:m_by false d.2.1 d.2.2.1 (d.2.2.2+k) 0=some (Fl (if d.2.1=true then 1 else 0) (d.2.2.2+k+b+1022).toNat m'):=by
  unfold m_by m_bi
  rw [K0 H0,hMk,obs,obs]
  simp only
  rw [K0 H0,hS,obs,K0 hsg,hA,obs]
  simp only
  rw [hR,obs]
 have himm:imax (-5000) (imin 5000 k)=k:=by unfold imax imin; split<;>split<;>omega
 unfold m_ck m_cf
 rw [VA hs A0 A0 hm,obs,obs,K0 H0,obs,M0 rfl,d2,obs,himm,hScale,obs,hRound,obs]
 congr 2
 omega
end Km
