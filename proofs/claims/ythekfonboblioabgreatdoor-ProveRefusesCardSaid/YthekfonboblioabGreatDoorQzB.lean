/- Lists of limbs of 32 bits: their values, and the machine's steps upon them. -/
import Derived.Test.YthekfonboblioabGreatDoorQzA
import Derived.Test.YthekfonboblioabGreatDoorM13
import Derived.KernelRfl
set_option linter.unusedVariables false
set_option linter.unusedSimpArgs false
set_option maxHeartbeats 4000000
set_option maxRecDepth 10000
namespace Lm
open Sx Go Vc
def B:Int:=4294967296
theorem M8 (x:Int):wc .u32 x=x % B:=by unfold wc B; rw [IntKind.wrap_u32]
theorem ji (x:Int):wc .u64 x=x % 18446744073709551616:=by unfold wc; rw [IntKind.wrap_u64]
theorem Z2 {x:Int} (h:0≤x∧x < 18446744073709551616):wc .u64 x=x:=by rw [ji]; omega
theorem B5 {x:Int} (h:0≤x∧x < B):wc .u32 x=x:=by rw [M8]; unfold B at *; omega
theorem Ga {x:Int} (h: -9223372036854775808≤x∧x≤9223372036854775807):wc .i64 x=x:=IntWalk.i64_in _ h
theorem V6 {x y:Int} (h:0≤x+y∧x+y < 18446744073709551616):wa .u64 x y=x+y:=IntWalk.u64_in _ ⟨h.1,A0⟩
theorem de {x y:Int} (h:0≤x*y∧x*y < 18446744073709551616):wm .u64 x y=x*y:=IntWalk.u64_in _ ⟨h.1,A0⟩
theorem C7 (x y:Int):ws .u64 x y=(x - y) % 18446744073709551616:=by unfold ws; rw [IntKind.wrap_u64]
theorem zy (x y:Int):wa .u32 x y=(x+y) % B:=by unfold wa B; rw [IntKind.wrap_u32]
theorem V8 {x:Int} (h:0≤x∧x < 18446744073709551616):(BitVec.ofInt 64 x).toNat=x.toNat:=by
 rw [BitVec.toNat_ofInt]
 omega
theorem N8 {x:Int} (h:0≤x∧x < 18446744073709551616):wand .u64 x 4294967295=x % B:=by
 unfold wand
 have e:(BitVec.ofInt 64 x &&& BitVec.ofInt 64 4294967295).toNat=x.toNat % 4294967296:=by
  rw [BitVec.toNat_and,V8 h,V8 A0]
  show x.toNat &&& 4294967295=_
  exact Pd x.toNat 32
 show IntKind.u64.wrap ((BitVec.ofInt 64 x &&& BitVec.ofInt 64 4294967295).toNat:Int)=_
 rw [e,IntWalk.u64_in _ A0]
 unfold B
 omega
theorem ki {x:Int} (h:0≤x∧x < 18446744073709551616):wand .u64 x 1=x % 2:=by
 unfold wand
 have e:(BitVec.ofInt 64 x &&& BitVec.ofInt 64 1).toNat=x.toNat % 2:=by
  rw [BitVec.toNat_and,V8 h,V8 A0]
  exact Pd x.toNat 1
 show IntKind.u64.wrap ((BitVec.ofInt 64 x &&& BitVec.ofInt 64 1).toNat:Int)=_
 rw [e,IntWalk.u64_in _ A0]
 omega
theorem z7 {x:Int} (h:0≤x):wsrc .u64 x 32=x / B:=by
 unfold wsrc B
 show x.fdiv (2 ^ 32)=_
 rw [Wd _ A0]
 rfl
theorem En {x:Int} (h:0≤x):wsrc .u64 x 63=x / 9223372036854775808:=by
 unfold wsrc
 show x.fdiv (2 ^ 63)=_
 rw [Wd _ A0]
 rfl
theorem Qc {x:Int} (h:0≤x∧x < B):wslc .u64 x 32=x*B:=by
 unfold wslc B at*
 show IntKind.u64.wrap (x*2 ^ 32)=_
 rw [IntWalk.u64_in _ A0]
 omega
theorem Za {x y:Int} (hx:0≤x∧x < B) (hy:0≤y∧y < B):wor .u64 (x*B) y=x*B+y:=by
 unfold B at*
 unfold wor
 have e:(BitVec.ofInt 64 (x*4294967296) ||| BitVec.ofInt 64 y).toNat=x.toNat*4294967296+y.toNat:=by
  rw [BitVec.toNat_or,V8 A0,V8 A0]
  have e1:(x*4294967296).toNat=2 ^ 32*x.toNat:=A0
  rw [e1,← Re A0]
  omega
 show IntKind.u64.wrap ((BitVec.ofInt 64 (x*4294967296) ||| BitVec.ofInt 64 y).toNat:Int)=_
 rw [e,IntWalk.u64_in _ A0]
 omega
def LW (l:LI):Prop:=∀ x,x∈l→0≤x∧x < B
def lv:LI→Int
 | []=>0
 | x::l=>x+B*lv l
def pw:Nat→Int
 | 0=>1
 | n+1=>B*pw n
theorem M1:∀ n,0 < pw n
 | 0=>by simp [pw]
 | n+1=>by have:=M1 n; unfold pw B; omega
theorem W6 (m:Nat):∀ n,pw (m+n)=pw m*pw n
 | 0=>by simp [pw]
 | n+1=>by
  have:=W6 m n
  simp only [pw,Nat.add_eq]
  rw [this]
  grind
theorem Y1:∀ {l:LI},LW l→0≤lv l
 | [],_=>by simp [lv]
 | x::l,h=>by
  have h1:=Y1 (l:=l) (fun y hy=>h y (by simp [hy]))
  have h2:=h x H0
  unfold lv B
  omega
theorem G4:∀ {l:LI},LW l→lv l < pw l.length
 | [],_=>by simp [lv,pw]
 | x::l,h=>by
  have h1:=G4 (l:=l) (fun y hy=>h y (by simp [hy]))
  have h2:=h x H0
  simp only [lv,I2,pw]
  unfold B at*
  omega
theorem pb:∀ (a b:LI),lv (a++b)=lv a+pw a.length*lv b
 | [],b=>by simp [lv,pw]
 | x::a,b=>by
  have:=pb a b
  simp only [List.cons_append,lv,I2,pw,this]
  grind
theorem Ce:∀ n,lv (List.replicate n 0)=0
 | 0=>rfl
 | n+1=>by simp [List.replicate_succ,lv,Ce n]
theorem LW.tail {x:Int} {l:LI} (h:LW (x::l)):LW l:=fun y hy=>h y (by simp [hy])
theorem LW.app {a b:LI}:LW (a++b)↔LW a∧LW b:=by
 unfold LW
 constructor
 ·intro h; exact ⟨fun x hx=>h x (by simp [hx]),fun x hx=>h x (by simp [hx])⟩
 ·rintro ⟨h1,h2⟩ x hx
  rcases H8.1 hx with hx | hx
  ·exact h1 x hx
  ·exact h2 x hx
theorem LW.one {x:Int}:LW [x]↔0≤x∧x < B:=by simp [LW]
def Tm (l:LI):Prop:=∀ x,l.getLast?=some x→x≠0
theorem P8:Tm []:=by simp [Tm]
theorem Py {l:LI} {x:Int} (h:x≠0):Tm (l++[x]):=by simp [Tm,h]
theorem G9:∀ {l:LI},LW l→Tm l→l≠[]→pw (l.length - 1)≤lv l:=by
 intro l h ht kx
 obtain ⟨m,x,rfl⟩:∃ m x,l=m++[x]:=⟨l.dropLast,l.getLast kx,(List.dropLast_concat_getLast kx).symm⟩
 have hx:=ht x H0
 obtain ⟨h1,h2⟩:=LW.app.1 h
 have h3:=Y1 h1
 have h4:=LW.one.1 h2
 rw [pb]
 simp only [Q1,List.length_singleton,Nat.add_sub_cancel,lv]
 have h5:=M1 m.length
 have:pw m.length*1≤pw m.length*x:=K3 A0 A0
 simp at this ⊢
 omega
theorem y6 {m n:Nat} (h:m≤n):pw m≤pw n:=by
 obtain ⟨k,rfl⟩:∃ k,n=m+k:=⟨n - m,A0⟩
 rw [W6]
 have h1:=M1 m
 have h2:=M1 k
 have:pw m*1≤pw m*pw k:=K3 A0 A0
 omega
theorem D7 {a b:LI} (ha:LW a) (hb:LW b) (ta:Tm a) (tb:Tm b) (h:a.length < b.length):lv a < lv b:=by
 have h1:=G4 ha
 have h2:=G9 hb tb (by rintro rfl; simp at h)
 have h3:=y6 (m:=a.length) (n:=b.length - 1) A0
 omega
theorem dt:∀ {a b:LI},LW a→LW b→a.length=b.length→lv a=lv b→a=b
 | [],[],_,_,_,_=>rfl
 | [],_::_,_,_,h,_=>by simp at h
 | _::_,[],_,_,h,_=>by simp at h
 | x::a,y::b,ha,hb,hl,he=>by
  have hx:=ha x H0
  have hy:=hb y H0
  simp only [lv] at he
  unfold B at*
  have e1:x=y:=A0
  subst e1
  have e2:lv a=lv b:=A0
  rw [dt ha.tail hb.tail (by simpa using hl) e2]
theorem fb {a b:LI} (ha:LW a) (hb:LW b) (ta:Tm a) (tb:Tm b) (he:lv a=lv b):a=b:=by
 have h1:¬ a.length < b.length:=fun h=>by have:=D7 ha hb ta tb h; omega
 have h2:¬ b.length < a.length:=fun h=>by have:=D7 hb ha tb ta h; omega
 exact dt ha hb A0 he
theorem td {a:LI} (ha:LW a) (ta:Tm a):lv a=0↔a=[]:=by
 constructor
 ·intro h
  exact fb ha (by intro x hx; simp at hx) ta P8 h
 ·rintro rfl; rfl
def trimL:LI→LI
 | []=>[]
 | x::l=>match trimL l with
  | []=>if x=0 then [] else [x]
  | m=>x::m
theorem N1:∀ l:LI,lv (trimL l)=lv l
 | []=>rfl
 | x::l=>by
  have ih:=N1 l
  unfold trimL
  cases h:trimL l with
  | nil=>
   rw [h] at ih
   simp only [lv] at ih
   simp only
   by_cases hx:x=0
   ·rw [M0 hx]; simp only [lv,← ih,hx]; rfl
   ·rw [K0 hx]; simp only [lv,← ih]
  | cons y m=>
   rw [h] at ih
   simp only [lv] at ih ⊢
   rw [ih]
theorem X3:∀ {l:LI},LW l→LW (trimL l)
 | [],h=>h
 | x::l,h=>by
  have ih:=X3 h.tail
  unfold trimL
  cases e:trimL l with
  | nil=>
   simp only
   split
   ·intro y hy; simp at hy
   ·exact LW.one.2 (h x H0)
  | cons y m=>
   rw [e] at ih
   simp only
   intro z hz
   rcases U3.1 hz with rfl | hz
   ·exact h z H0
   ·exact ih z hz
theorem A4:∀ l:LI,Tm (trimL l)
 | []=>P8
 | x::l=>by
  have ih:=A4 l
  unfold trimL
  cases e:trimL l with
  | nil=>
   simp only
   split
   ·exact P8
   ·rename_i h; intro y hy; simp at hy; omega
  | cons y m=>
   rw [e] at ih
   simp only
   intro z hz
   refine ih z ?_
   rw [← hz,List.getLast?_cons_cons]
theorem me {l:LI} (hl:LW l) (ht:Tm l):trimL l=l:=fb (X3 hl) hl (A4 l) ht (N1 l)
theorem Qf {a:LI} {b:LI} (ha:LW a) (hb:LW b) (ta:Tm a) (h:lv a=lv b):a=trimL b:=
 fb ha (X3 hb) ta (A4 b) (by rw [N1,h])
def Qt (u v q:Int):Prop:=q*v≤u∧u < (q+1)*v
theorem Qt.le_of {u v q x:Int} (h:Qt u v q) (hv:0 < v) (hx:x*v≤u):x≤q:=by
 refine H1 fun eA=>?_
 have h1:(q+1)*v≤x*v:=D3 A0 A0
 have:=h.2
 omega
theorem Qt.lt_of {u v q x:Int} (h:Qt u v q) (hv:0 < v) (hx:u < x*v):q < x:=by
 refine H1 fun eA=>?_
 have h1:x*v≤q*v:=D3 A0 A0
 have:=h.1
 omega
theorem Qt.nn {u v q:Int} (h:Qt u v q) (hv:0 < v) (hu:0≤u):0≤q:=h.le_of hv A0
theorem Qt.uniq {u v q q':Int} (h:Qt u v q) (h':Qt u v q') (hv:0 < v):q=q':=Int.le_antisymm (h'.le_of hv h.1) (h.le_of hv h'.1)
theorem Qt.ediv {u v:Int} (hv:0 < v):Qt u v (u / v):=⟨Int.ediv_mul_le u A0,by rw [Ob,M4]; exact Int.lt_ediv_add_one_mul_self u hv |> fun h=>by rw [Ob,M4] at h; exact h⟩
theorem Qt.eq {u v q:Int} (h:Qt u v q) (hv:0 < v):q=u / v:=h.uniq (Qt.ediv hv) hv
theorem Mt {u v q top vt P ur vr:Int} (h:Qt u v q) (hP:0 < P) (hu:u=top*P+ur) (qT:ur < P) (hv:v=vt*P+vr) (kR:0≤vr) (hvt:0 < vt) (hq:0≤q):q*vt≤top:=by
 refine H1 fun eA=>?_
 have h1:(top+1)*P≤q*vt*P:=D3 A0 A0
 have h2:0≤q*vr:=O3 hq kR
 have h3:=h.1
 have e1:q*v=q*vt*P+q*vr:=by rw [hv]; grind
 have e2:(top+1)*P=top*P+P:=by grind
 omega
theorem jD {u v q g t3 v2 S us vs:Int} (h:Qt u v q) (hS:0 < S) (hu:u=t3*S+us) (hus:0≤us) (hv:v=v2*S+vs) (hvs:vs < S) (NM:0≤vs) (hg:g*v2≤t3) (GG:0≤g) (sM:g*S≤v) (VH:0 < v):g≤q+1:=by
 have h1:g*v2*S≤t3*S:=D3 hg A0
 have h2:g*vs≤g*S:=K3 A0 GG
 have e1:g*v=g*v2*S+g*vs:=by rw [hv]; grind
 refine H1 fun eA=>?_
 have h3:(q+2)*v≤g*v:=D3 A0 A0
 have e2:(q+2)*v=(q+1)*v+v:=by grind
 have h4:=h.2
 omega
theorem kD {u v q g t3 v2 S us vs:Int} (h:Qt u v q) (hS:0 < S) (hu:u=t3*S+us) (hus:us < S) (hv:v=v2*S+vs) (NM:0≤vs) (hg:t3 < g*v2) (GG:0≤g) (VH:0 < v):q < g:=by
 refine h.lt_of VH ?_
 have h1:(t3+1)*S≤g*v2*S:=D3 A0 A0
 have h2:0≤g*vs:=O3 GG NM
 have e1:g*v=g*v2*S+g*vs:=by rw [hv]; grind
 have e2:(t3+1)*S=t3*S+S:=by grind
 omega
end Lm
namespace Km
open Sx Go Vc Lm
theorem oh {q s:Nat} (hq:q≤1000000) (hs:s < 32):wqc .i64 ((32*q+s:Nat):Int) 32=(q:Int)∧wrc ((32*q+s:Nat):Int) 32=(s:Int):=by
 constructor
 ·show IntKind.wrap .i64 (Int.tdiv _ 32)=_
  rw [Nh A0,IntWalk.i64_in _ A0]; omega
 ·show Int.tmod _ 32=_
  rw [Td A0]; omega
theorem A8 {s:Nat} (hs:s < 32):0 < (2:Int) ^ s∧(2:Int) ^ s≤2147483648∧(2:Int) ^ s*2 ^ (32 - s)=B∧0 < (2:Int) ^ (32 - s):=by
 refine ⟨S5 A0,?_,?_,S5 A0⟩
 ·have h9:((2 ^ s:Nat):Int)≤((2147483648:Nat):Int):=Sv.2 (Ca (Ah (n:=2) (j:=31) A0 A0) (by decide))
  rw [bm] at h9
  exact h9
 ·rw [← E5,show s+(32 - s)=32 by omega]; rfl
theorem wy {s:Nat} (hs:s < 32) {c x:Int} (hc:0≤c∧c < 2 ^ s) (hx:0≤x∧x < B) (hb:x*2 ^ s < 18446744073709551616):wor .u64 c (x*2 ^ s)=c+x*2 ^ s:=by
 unfold wor
 obtain ⟨C,rfl⟩:=W4 hc.1
 obtain ⟨X,rfl⟩:=W4 hx.1
 have hC:C < 2 ^ s:=by exact_mod_cast hc.2
 have e2:((X:Int)*2 ^ s)=((2 ^ s*X:Nat):Int):=by push_cast; rw [P2]
 have hb:2 ^ s*X < 18446744073709551616:=by have h9:((2 ^ s*X:Nat):Int) < ((18446744073709551616:Nat):Int):=(by rw [← e2]; omega); exact Int.ofNat_lt.1 h9
 have XT:2 ^ s≤2 ^ 31:=Ah A0 A0
 have e3:(BitVec.ofInt 64 (C:Int) ||| BitVec.ofInt 64 ((X:Int)*2 ^ s)).toNat=2 ^ s*X+C:=by
  rw [BitVec.toNat_or,V8 A0,V8 A0,e2,Z0,Z0,Nat.or_comm,← Re hC]
 have h9:2 ^ s*X+C < 18446744073709551616:=by
  have:=Re hC X
  rw [this]
  exact kv (n:=64) hb A0
 show IntKind.u64.wrap ((BitVec.ofInt 64 (C:Int) ||| BitVec.ofInt 64 ((X:Int)*2 ^ s)).toNat:Int)=_
 rw [e3,IntWalk.u64_in _ ⟨A0,A0⟩,e2]
 push_cast
 omega
theorem ob (n:Nat):LW (List.replicate n 0):=fun x hx=>by rw [Hv] at hx; rw [hx.2]; unfold B; omega
open M
theorem pa (l:LI) (x:Int):lv (l++[x])=lv l+pw l.length*x:=by
 rw [pb]; simp [lv]
theorem LW.take {l:LI} (h:LW l) (k:Nat):LW (l.take k):=fun x hx=>h x (List.mem_of_mem_take hx)
theorem LW.get {l:LI} (h:LW l) {k:Nat} {x:Int} (hx:l[k]?=some x):0≤x∧x < B:=h x (S8 hx)
theorem Z4 {l:LI} (hl:LW l) (hn:l.length≤1000000):m_cm l=some (trimL l):=by
 refine Ret.eq ?_
 unfold m_cm
 refine Zw (Q0 (Post:=fun i=>∃ k:Nat,i=(k:Int)∧k≤l.length∧lv (l.take k)=lv l∧Tm (l.take k)) l.length (fun m (i:Int)=>i=((l.length - m:Nat):Int)∧m≤l.length∧lv (l.take (l.length - m))=lv l) ⟨by rw [Db],A0,by rw [Db,w9]⟩ ?_ A0) ?_
 ·rintro m _ hm ⟨rfl,h1,h2⟩
  unfold m_cl
  rw [J0,O0]
  refine ⟨fun hlt=>?_,fun tx=>?_⟩
  ·have e1:ws .i64 ((l.length - m:Nat):Int) 1=((l.length - (m+1):Nat):Int):=by rw [C3 A0 A0]; omega
   rw [e1,J0,L3]
   refine ⟨A0,A0,fun x hx=>?_⟩
   rw [Z0] at hx
   have ht:l.take (l.length - m)=l.take (l.length - (m+1))++[x]:=by
    rw [show l.length - m=l.length - (m+1)+1 by omega]; exact tks hx
   rw [U2,O0]
   refine ⟨fun hz=>?_,fun hz=>?_⟩
   ·have hz:x=0:=by simpa using hz
    refine ⟨_,rfl,A0,rfl,A0,?_⟩
    rw [← h2,ht,pa,hz]; simp
   ·have hz:x≠0:=by simpa using hz
    exact ⟨_,rfl,l.length - m,rfl,A0,h2,by rw [ht]; exact Py hz⟩
  ·rw [U2,K0 H0]
   have e:l.length - m=0:=A0
   exact ⟨_,rfl,0,by rw [e],A0,by rw [← h2,e],by simp [Tm]⟩
 ·rintro _ ⟨k,rfl,h1,h2,h3⟩
  rw [J0,ic]
  refine ⟨A0,A0,A0,_,rfl,?_⟩
  rw [Z0,show (0:Int).toNat=0 from rfl,W9]
  exact Qf (LW.take hl k) hl h3 h2
theorem lh {l:LI} (s:Bool) (hl:LW l) (hn:l.length≤1000000):m_cn s l=some (if trimL l=[] then (false,[]) else (s,trimL l)):=by
 unfold m_cn
 rw [Z4 hl hn,obs]
 by_cases h:trimL l=[]
 ·rw [M0 (by rw [h]; rfl),M0 h]
 ·rw [K0 (by simpa using h),K0 h]
theorem sD {p:Int} (hp:0 < p) (hB:p < B):m_cp p=some (false,[p]):=by
 unfold B at hB
 unfold m_cp m_co
 rw [B0,Z2 ⟨A0,A0⟩,N8 ⟨A0,A0⟩,z7 A0]
 have e1:p % B=p:=X4 A0 (by unfold B; omega)
 have e2:p / B=0:=Ya A0 (by unfold B; omega)
 rw [e1,e2,B5 ⟨A0,by unfold B; omega⟩,B5 ⟨A0,by unfold B; omega⟩]
 have hl:LW [p,0]:=by
  intro x hx
  simp at hx
  unfold B
  omega
 have ht:trimL [p,0]=[p]:=by
  simp [trimL]
  omega
 rw [lh _ hl H0,ht,obs,K0 H0]
 simp
 omega
theorem Hz {a:LI} {d:Int} (ha:LW a) (hn:a.length≤1000) (hd:0 < d) (hB:d < B):∃ q,m_en a d=some (q,lv a % d)∧LW q∧Tm q∧lv q=lv a / d:=by
 have key:Ret (m_en a d) (fun r=>LW r.1∧Tm r.1∧lv r.1=lv a / d∧r.2=lv a % d):=by
  unfold B at hB
  unfold m_en
  rw [J0,J5]
  refine ⟨A0,A0,?_⟩
  rw [Z0,J0]
  have cS:wc .u64 d=d:=Z2 ⟨A0,A0⟩
  refine (Q0 (Post:=fun s:LI×Int=>LW s.1∧s.1.length=a.length∧(0≤s.2∧s.2 < d)∧lv a=lv s.1*d+s.2) a.length (fun m (s:LI×Int×Int)=>s.2.2=(a.length:Int) - 1 - m∧m≤a.length∧LW s.1∧s.1.length=a.length∧(0≤s.2.1∧s.2.1 < d)∧lv (a.drop (a.length - m))=lv (s.1.drop (a.length - m))*d+s.2.1) ⟨by show ws .i64 (a.length:Int) 1=_; rw [C3 A0 A0]; simp,A0,fun x hx=>by rw [Hv] at hx; rw [hx.2]; unfold B; omega,U4 ..,⟨by show (0:Int)≤0; omega,hd⟩,by rw [Db,Wl,X9 H0]; simp [lv]⟩ ?_ A0).mono ?_
  ·rintro m ⟨q,r,_⟩ hm ⟨h1,h2,h3,h4,h5,h6⟩
   simp only at h1 h3 h4 h5 h6
   subst h1
   unfold m_em
   simp only
   rw [O0]
   refine ⟨fun tx=>?_,fun hlt=>⟨_,rfl,h3,h4,h5,?_⟩⟩
   ·obtain ⟨i,hi⟩:∃ i:Nat,a.length=i+(m+1):=⟨a.length - (m+1),A0⟩
    have ei:(a.length:Int) - 1 - (m:Int)=(i:Int):=A0
    rw [ei,J0,L3]
    refine ⟨A0,A0,fun x hx=>?_⟩
    rw [Z0] at hx
    have Nx:=LW.get ha hx
    have NG:0≤r∧r < B:=⟨h5.1,by unfold B; omega⟩
    have ht:wor .u64 (wslc .u64 r 32) (wc .u64 x)=r*B+x:=by
     rw [Qc NG,Z2 ⟨Nx.1,by unfold B at Nx; omega⟩,Za NG Nx]
    rw [ht,cS]
    have kQ:r+1≤d:=A0
    have hmul:(r+1)*B≤d*B:=D3 kQ (by unfold B; omega)
    have uT:0≤r*B:=O3 h5.1 (by unfold B; omega)
    rw [Ob,M4] at hmul
    have nI:0≤r*B+x:=A0
    have zH:0≤(r*B+x) / d:=T5 nI A0
    have lQ:(r*B+x) / d < B:=U6 hd (by rw [P2 B d]; omega)
    have lP:0≤(r*B+x) % d∧(r*B+x) % d < d:=⟨P3 _ A0,W3 _ hd⟩
    have VL:wq .u64 (r*B+x) d=some ((r*B+x) / d):=by
     unfold wq
     rw [B0,Nh nI,IntWalk.u64_in _ ⟨zH,by have e:B=4294967296:=rfl; omega⟩]
    have fO:wr (r*B+x) d=some ((r*B+x) % d):=by
     unfold wr
     rw [B0,Td nI]
    rw [VL,obs,J0,E4]
    refine ⟨A0,A0,?_⟩
    rw [fO,obs,Z0,B5 ⟨zH,lQ⟩]
    refine ⟨_,rfl,A0,?_⟩
    simp only
    refine ⟨by rw [C3 A0 A0]; omega,A0,?_,by rw [N3]; exact h4,lP,?_⟩
    ·intro y hy
     rcases Iv hy with hy | rfl
     ·exact h3 y hy
     ·exact ⟨zH,lQ⟩
    ·have e1:a.length - (m+1)=i:=A0
     have e2:a.length - m=i+1:=A0
     rw [e2] at h6
     rw [e1]
     have ea:a.drop i=x::a.drop (i+1):=by
      obtain ⟨hlt,he⟩:=Z1.1 hx
      rw [← he]; exact Ua hlt
     have eq:(q.set i ((r*B+x) / d)).drop i=((r*B+x) / d)::q.drop (i+1):=by
      have hlt:i < (q.set i ((r*B+x) / d)).length:=by rw [N3]; omega
      rw [Ua hlt,List.getElem_set_self,Lb A0]
     rw [ea,eq]
     simp only [lv]
     rw [h6]
     have h7:=V4 (r*B+x) d
     have e9:((r*B+x) / d+B*lv (q.drop (i+1)))*d=d*((r*B+x) / d)+B*(lv (q.drop (i+1))*d):=by grind
     rw [e9]
     have e10:B*(lv (q.drop (i+1))*d+r)=B*(lv (q.drop (i+1))*d)+r*B:=by grind
     rw [e10]
     omega
   ·have e:a.length - m=0:=A0
    rw [e,W9,W9] at h6
    exact h6
  ·rintro ⟨q,r⟩ ⟨h1,h2,h3,h4⟩
   simp only at h1 h2 h3 h4 ⊢
   rw [Z4 h1 A0,obs]
   refine ⟨_,rfl,X3 h1,A4 q,?_,?_⟩
   ·show lv (trimL q)=_
    rw [N1,h4,Zv,Int.add_mul_ediv_right _ _ A0,Ya h3.1 h3.2,Mh]
   ·show wc .u32 r=_
    rw [B5 ⟨h3.1,by unfold B; omega⟩,h4,Zv,Int.add_mul_emod_self_right,X4 h3.1 h3.2]
 obtain ⟨⟨q,r⟩,h0,h1,h2,h3,h4⟩:=key
 simp only at h1 h2 h3 h4
 exact ⟨q,by rw [h0,h4],h1,h2,h3⟩
theorem FE (x y:Int):m_ee x y=some (if x < y then -1 else if y < x then 1 else 0):=by
 unfold m_ee m_b7
 simp only [decide_true,Y5,obs,if_false,Q2]
 split
 ·rfl
 ·split<;>rfl
theorem EE (x y:Int):m_ed x y=some (if x < y then -1 else if y < x then 1 else 0):=by
 unfold m_ed m_ec
 simp only [decide_true,Y5,obs,if_false,Q2]
 split
 ·rfl
 ·split<;>rfl
theorem Zf {a:LI} {i:Nat} {x:Int} (hx:a[i]?=some x):lv a=lv (a.take i)+pw i*(x+B*lv (a.drop (i+1))):=by
 obtain ⟨hlt,he⟩:=Z1.1 hx
 have e:a=a.take i++(x::a.drop (i+1)):=by
  rw [← he,← Ua hlt,Ra]
 have e2:lv a=lv (a.take i++(x::a.drop (i+1))):=C1 lv e
 rw [e2,pb]
 simp only [lv,B4]
 rw [G6 A0]
theorem ga {a:LI} (ha:LW a) {i:Nat} (hi:i≤a.length):0≤lv (a.take i)∧lv (a.take i) < pw i:=by
 have h1:=G4 (LW.take ha i)
 rw [B4,G6 hi] at h1
 exact ⟨Y1 (LW.take ha i),h1⟩
theorem Pg {a b:LI} (ha:LW a) (hb:LW b) {i:Nat} {x y:Int} (hx:a[i]?=some x) (hy:b[i]?=some y) (he:a.drop (i+1)=b.drop (i+1)) (h:x < y):lv a < lv b:=by
 have h1:=(Z1.1 hx).1
 have h2:=(Z1.1 hy).1
 rw [Zf hx,Zf hy,he]
 have t1:=ga ha (i:=i) A0
 have t2:=ga hb (i:=i) A0
 have hp:=M1 i
 have e1:pw i*(y+B*lv (b.drop (i+1)))=pw i*(x+B*lv (b.drop (i+1)))+pw i*(y - x):=by grind
 have e2:pw i*1≤pw i*(y - x):=K3 A0 A0
 rw [e1]
 omega
theorem fh {a b:LI} (ha:LW a) (hb:LW b) (ta:Tm a) (tb:Tm b) (hn:a.length≤1000) (hm:b.length≤1000):m_eg a b=some (if lv a < lv b then -1 else if lv b < lv a then 1 else 0):=by
 refine Ret.eq ?_
 unfold m_eg
 rw [O0]
 refine ⟨fun hl=>?_,fun hl=>?_⟩
 ·have hl:a.length=b.length:=A0
  refine Zw (Q0 (Post:=fun o=>(o=.inl ()∧a=b)∨∃ c,o=.inr c∧c=(if lv a < lv b then -1 else if lv b < lv a then 1 else 0)) a.length (fun m (i:Int)=>i=(a.length:Int) - 1 - m∧m≤a.length∧a.drop (a.length - m)=b.drop (a.length - m)) ⟨by rw [C3 A0 A0]; omega,A0,by rw [Db,Wl,X9 A0]⟩ ?_ A0) ?_
  ·rintro m i OH ⟨rfl,h1,h2⟩
   unfold m_ef
   rw [O0]
   refine ⟨fun tx=>?_,fun hlt=>⟨_,rfl,.inl ⟨rfl,by have e:a.length - m=0:=A0; rwa [e,W9,W9] at h2⟩⟩⟩
   obtain ⟨j,hj⟩:∃ j:Nat,a.length=j+(m+1):=⟨a.length - (m+1),A0⟩
   have ej:(a.length:Int) - 1 - (m:Int)=(j:Int):=A0
   have e2:a.length - m=j+1:=A0
   rw [e2] at h2
   rw [ej,J0,L3]
   refine ⟨A0,A0,fun x hx=>?_⟩
   rw [J0,L3]
   refine ⟨A0,A0,fun y hy=>?_⟩
   rw [Z0] at hx hy
   rw [O0]
   refine ⟨fun he=>⟨_,rfl,A0,by rw [C3 A0 A0]; omega,A0,?_⟩,fun kx=>?_⟩
   ·subst he
    obtain ⟨k1,k2⟩:=Z1.1 hx
    obtain ⟨k3,k4⟩:=Z1.1 hy
    rw [show a.length - (m+1)=j by omega,Ua k1,Ua k3,k2,k4,h2]
   ·rw [J0,L3]
    refine ⟨A0,A0,fun x' UA=>?_⟩
    rw [Z0,hx] at UA
    obtain rfl:=N2 UA
    rw [J0,L3]
    refine ⟨A0,A0,fun y' VJ=>?_⟩
    rw [Z0,hy] at VJ
    obtain rfl:=N2 VJ
    rw [EE,obs]
    refine ⟨_,rfl,.inr ⟨_,rfl,?_⟩⟩
    rcases Int.lt_or_gt_of_ne kx with h | h
    ·rw [M0 h,M0 (Pg ha hb hx hy h2 h)]
    ·have:=Pg hb ha hy hx h2.symm h
     rw [B0,M0 h,B0,M0 this]
  ·rintro _ (⟨rfl,h⟩ | ⟨c,rfl,h⟩)
   ·refine ⟨_,rfl,?_⟩
    rw [h,B0,B0]
   ·exact ⟨_,rfl,h⟩
 ·rw [FE,obs]
  refine ⟨_,rfl,?_⟩
  rcases Pa a.length b.length with h | h
  ·rw [C0,M0 (D7 ha hb ta tb h)]
  ·have:=D7 hb ha tb ta (show b.length < a.length by omega)
   rw [B0,C0,B0,M0 this]
theorem O4 {a:LI} {i:Nat} {x:Int} (hx:a[i]?=some x):lv (a.take (i+1))=lv (a.take i)+pw i*x:=by
 rw [tks hx,pa,B4,G6 (by have:=(Z1.1 hx).1; omega)]
theorem pe {a:LI} {i:Nat} (h:a.length≤i):lv (a.take (i+1))=lv (a.take i):=by
 rw [I5 h,I5 A0]
theorem Hs {a b:LI} (ha:LW a) (hb:LW b) (hl:b.length≤a.length) (hn:a.length≤1000):Ret (m_db a b) (fun r=>LW r∧Tm r∧lv r=lv a+lv b):=by
 unfold m_db
 have h0:mkLc (0:Int) 0 (wa .i64 (a.length:Int) 1)=some []:=by
  rw [U0 A0 A0]; unfold mkLc BIG; rw [M0 ⟨A0,A0,A0⟩]; rfl
 rw [h0,obs]
 refine Zw (Q0 (Post:=fun s:LI×Int=>LW s.1∧s.1.length=a.length∧(s.2=0∨s.2=1)∧lv s.1+pw a.length*s.2=lv a+lv b) a.length (fun i (s:LI×Int×Int)=>s.2.2=(i:Int)∧LW s.1∧s.1.length=i∧(s.2.1=0∨s.2.1=1)∧lv s.1+pw i*s.2.1=lv (a.take i)+lv (b.take i)) ⟨rfl,by intro x hx; simp at hx,rfl,.inl rfl,by simp [lv]⟩ ?_ A0) ?_
 ·rintro i ⟨o,c,_⟩ hi ⟨rfl,h1,h2,h3,h4⟩
  simp only at h1 h2 h3 h4
  unfold m_da m_c9
  simp only
  rw [O0]
  refine ⟨fun hlt=>?_,fun tx=>⟨_,rfl,h1,by show o.length=_; omega,h3,?_⟩⟩
  ·have vI:i < a.length:=A0
   rw [J0,L3]
   refine ⟨A0,hlt,fun x hx=>?_⟩
   rw [Z0] at hx
   have Nx:=LW.get ha hx
   have e:B=4294967296:=rfl
   have RH:wc .u64 x=x:=Z2 ⟨Nx.1,A0⟩
   have fin:∀ (t:Int),0≤t→t < 2*B→lv o+pw i*t=lv (a.take (i+1))+lv (b.take (i+1))→Ret ((app o [wc .u32 (wand .u64 t 4294967295)]).bind fun x52=>some (Sum.inl (β:=LI×Int) (x52,wsrc .u64 t 32,wa .i64 (i:Int) 1))) (VQ (fun s:LI×Int×Int=>i < a.length∧s.2.2=((i+1:Nat):Int)∧LW s.1∧s.1.length=i+1∧(s.2.1=0∨s.2.1=1)∧lv s.1+pw (i+1)*s.2.1=lv (a.take (i+1))+lv (b.take (i+1))) (fun s:LI×Int=>LW s.1∧s.1.length=a.length∧(s.2=0∨s.2=1)∧lv s.1+pw a.length*s.2=lv a+lv b)):=by
    intro t t0 t1 ht
    have hm:=P3 t (show B≠0 by omega)
    have qD:=W3 t (show 0 < B by omega)
    have hd:=V4 t B
    rw [N8 ⟨t0,A0⟩,z7 t0,B5 ⟨hm,qD⟩,J0,D2]
    refine ⟨by rw [h2]; simp only [I2,Y2]; omega,_,rfl,vI,Xw,LW.app.2 ⟨h1,LW.one.2 ⟨hm,qD⟩⟩,by show (o++[_]).length=_; rw [Q1,h2]; rfl,by have q0:0≤t / B:=T5 t0 A0; have q1:t / B < 2:=U6 A0 t1; show t / B=0∨t / B=1; omega,?_⟩
    show lv (o++[t % B])+pw (i+1)*(t / B)=_
    rw [pa,h2,← ht]
    simp only [pw]
    have e3:pw i*(B*(t / B)+t % B)=pw i*t:=by rw [hd]
    have e4:B*pw i*(t / B)=pw i*(B*(t / B)):=by grind
    rw [T6] at e3
    omega
   have CG:=O4 hx
   rw [O0]
   refine ⟨fun KK=>?_,fun rM=>?_⟩
   ·rw [J0,L3]
    refine ⟨A0,KK,fun y hy=>?_⟩
    rw [Z0] at hy
    have Zz:=LW.get hb hy
    rw [RH,Z2 ⟨Zz.1,A0⟩,V6 (x:=x) (y:=c) ⟨A0,A0⟩,V6 ⟨A0,A0⟩]
    refine fin _ A0 A0 ?_
    rw [CG,O4 hy]
    have:pw i*(x+c+y)=pw i*x+pw i*c+pw i*y:=by grind
    omega
   ·rw [RH,V6 (x:=x) (y:=c) ⟨A0,A0⟩]
    refine fin _ A0 A0 ?_
    rw [CG,pe (a:=b) A0]
    have:pw i*(x+c)=pw i*x+pw i*c:=by grind
    omega
  ·have e:i=a.length:=A0
   subst e
   rw [w9,I5 hl] at h4
   exact h4
 ·rintro ⟨o,c⟩ ⟨h1,h2,h3,h4⟩
  simp only at h1 h2 h3 h4 ⊢
  have hc:wc .u32 c=c:=B5 ⟨A0,by unfold B; omega⟩
  have JK:LW (o++[c]):=LW.app.2 ⟨h1,LW.one.2 ⟨A0,by unfold B; omega⟩⟩
  rw [hc,J0,D2]
  refine ⟨by rw [h2]; simp only [I2,Y2]; omega,?_⟩
  rw [Z4 JK (by rw [Q1,h2]; simp; omega),obs]
  exact ⟨_,rfl,X3 JK,A4 _,by rw [N1,pa,h2]; exact h4⟩
theorem Ij {a b:LI} (ha:LW a) (hb:LW b) (hn:a.length≤1000) (hm:b.length≤1000):Ret (m_dc a b) (fun r=>LW r∧Tm r∧lv r=lv a+lv b):=by
 unfold m_dc
 rw [O0]
 refine ⟨fun h=>(Hs hb ha A0 hm).mono fun r hr=>⟨hr.1,hr.2.1,A0⟩,fun h=>Hs ha hb A0 hn⟩
theorem Xj {v:Int} (h0: -B≤v) (h1:v < B):((v % 18446744073709551616) % B=v+B*(if v < 0 then 1 else 0))∧((v % 18446744073709551616) / B % 2=if v < 0 then 1 else 0)∧0≤v % 18446744073709551616∧v % 18446744073709551616 < 18446744073709551616:=by
 unfold B at*
 split<;>omega
theorem minus_ok {a b:LI} (ha:LW a) (hb:LW b) (hn:a.length≤1000) (hl:b.length≤a.length) (hv:lv b≤lv a):Ret (m_ej a b) (fun r=>LW r∧Tm r∧lv r=lv a - lv b):=by
 have e:B=4294967296:=rfl
 unfold m_ej
 rw [J0,J5]
 refine ⟨A0,A0,?_⟩
 rw [Z0]
 refine Zw (Q0 (Post:=fun o:LI=>LW o∧o.length=a.length∧lv o=lv a - lv b) a.length (fun i (s:LI×Int×Int)=>s.2.2=(i:Int)∧LW s.1∧s.1.length=a.length∧(s.2.1=0∨s.2.1=1)∧lv (s.1.take i)=lv (a.take i) - lv (b.take i)+pw i*s.2.1) ⟨rfl,fun x hx=>by rw [Hv] at hx; rw [hx.2]; omega,U4 ..,.inl rfl,by simp [lv]⟩ ?_ A0) ?_
 ·rintro i ⟨o,c,_⟩ hi ⟨rfl,h1,h2,h3,h4⟩
  simp only at h1 h2 h3 h4
  unfold m_ei m_eh
  simp only
  rw [O0]
  refine ⟨fun hlt=>?_,fun tx=>⟨_,rfl,h1,h2,?_⟩⟩
  ·have vI:i < a.length:=A0
   rw [J0,L3]
   refine ⟨A0,hlt,fun x hx=>?_⟩
   rw [Z0] at hx
   have Nx:=LW.get ha hx
   have RH:wc .u64 x=x:=Z2 ⟨Nx.1,A0⟩
   have CG:=O4 hx
   have fin:∀ (t v:Int),t=v % 18446744073709551616→-B≤v→v < B→lv (o.take i)+pw i*v=lv (a.take (i+1)) - lv (b.take (i+1))→Ret ((setI o (i:Int) (wc .u32 (wand .u64 t 4294967295))).bind fun x35=>some (Sum.inl (β:=LI) (x35,wand .u64 (wsrc .u64 t 32) 1,wa .i64 (i:Int) 1))) (VQ (fun s:LI×Int×Int=>i < a.length∧s.2.2=((i+1:Nat):Int)∧LW s.1∧s.1.length=a.length∧(s.2.1=0∨s.2.1=1)∧lv (s.1.take (i+1))=lv (a.take (i+1)) - lv (b.take (i+1))+pw (i+1)*s.2.1) (fun o:LI=>LW o∧o.length=a.length∧lv o=lv a - lv b)):=by
    intro t v ht v0 v1 hv
    obtain ⟨k1,k2,k3,k4⟩:=Xj v0 v1
    rw [← ht] at k1 k2 k3 k4
    have hm:=P3 t (show B≠0 by omega)
    have qD:=W3 t (show 0 < B by omega)
    have rD:0≤t / B:=T5 k3 A0
    have QG:t / B < 18446744073709551616:=U6 A0 A0
    rw [N8 ⟨k3,k4⟩,z7 k3,ki ⟨rD,QG⟩,B5 ⟨hm,qD⟩,k2,J0,E4,Z0]
    refine ⟨A0,A0,_,rfl,vI,Xw,?_,by show (o.set i _).length=_; rw [N3,h2],by show (if v < 0 then (1:Int) else 0)=0∨(if v < 0 then (1:Int) else 0)=1; split<;>omega,?_⟩
    ·intro y hy
     rcases Iv hy with hy | rfl
     ·exact h1 y hy
     ·exact ⟨hm,qD⟩
    ·show lv ((o.set i (t % B)).take (i+1))=_+pw (i+1)*(if v < 0 then 1 else 0)
     have hs:(o.set i (t % B))[i]?=some (t % B):=by rw [D5]; omega
     rw [O4 hs,Jl,Ml (by rw [B4]; omega),k1,← hv]
     simp only [pw]
     generalize (if v < 0 then (1:Int) else 0)=z
     grind
   rw [O0]
   refine ⟨fun KK=>?_,fun rM=>?_⟩
   ·rw [J0,L3]
    refine ⟨A0,KK,fun y hy=>?_⟩
    rw [Z0] at hy
    have Zz:=LW.get hb hy
    refine fin _ (x - c - y) ?_ A0 A0 ?_
    ·rw [RH,Z2 ⟨Zz.1,A0⟩,C7,C7]; omega
    ·rw [CG,O4 hy,h4]; grind
   ·refine fin _ (x - c) ?_ A0 A0 ?_
    ·rw [RH,C7]
    ·rw [CG,pe (a:=b) A0,h4]; grind
  ·have ei:i=a.length:=A0
   subst ei
   rw [w9,I5 hl,I5 A0] at h4
   have hlt:=G4 h1
   rw [h2] at hlt
   have hp:=M1 a.length
   show lv o=_
   rcases h3 with rfl | rfl
   ·omega
   ·omega
 ·rintro o ⟨h1,h2,h3⟩
  rw [Z4 h1 A0,obs]
  exact ⟨_,rfl,X3 h1,A4 _,by rw [N1]; exact h3⟩
theorem U7 {l:LI} {m:Nat} (hl:LW l) (ht:Tm l) (h:lv l < pw m):l.length≤m:=by
 refine H1 fun hc=>?_
 have kx:l≠[]:=by rintro rfl; simp at hc
 have h5:=G9 hl ht kx
 have h7:=y6 (show m≤l.length - 1 by omega)
 omega
theorem Nq {p:Int} (hp:0 < p):Tm [p]:=by intro x hx; simp at hx; omega
theorem Jg {p:Int} (hp:0 < p) (hB:p < B):LW [p]:=LW.one.2 ⟨A0,hB⟩
theorem Pf {l:LI} (hl:LW l):(trimL l).length≤l.length:=U7 (X3 hl) (A4 l) (by rw [N1]; exact G4 hl)
theorem Du {a:LI} {p:Int} (ha:LW a) (ta:Tm a) (hn:a.length≤999) (hp:0 < p) (hB:p < B):∃ q r,m_eu a [p]=some (q,r)∧LW q∧Tm q∧LW r∧Tm r∧lv q=lv a / p∧lv r=lv a % p∧q.length≤1000:=by
 have lp:lv [p]=p:=by simp [lv]
 have h0:=Y1 ha
 unfold m_eu
 rw [fh ha (Jg hp hB) ta (Nq hp) A0 H0,obs,lp]
 by_cases hlt:lv a < p
 ·rw [M0 hlt,C0]
  have hc:m_cr a=some a:=by
   unfold m_cr app BIG
   rw [M0 (by simp; omega),obs,Gc]
  rw [hc,obs]
  exact ⟨[],a,rfl,by intro x hx; simp at hx,P8,ha,ta,by rw [Ya h0 hlt]; rfl,by rw [X4 h0 hlt],H0⟩
 ·have CD:¬ (if lv a < p then (-1:Int) else if p < lv a then 1 else 0) < 0:=by rw [K0 hlt]; split<;>omega
  rw [K0 CD,M0 H0]
  have hg:getI [p] 0=some p:=rfl
  obtain ⟨q,hq,q1,q2,q3⟩:=Hz ha A0 hp hB
  have hr:=P3 (lv a) (show p≠0 by omega)
  have NG:=W3 (lv a) hp
  have JK:LW [lv a % p]:=LW.one.2 ⟨hr,A0⟩
  rw [hg,obs,hq,obs,Z4 JK H0,obs]
  refine ⟨q,_,rfl,q1,q2,X3 JK,A4 _,q3,by rw [N1]; simp [lv],?_⟩
  refine H1 fun hc=>?_
  have kx:q≠[]:=by rintro rfl; simp at hc
  have h5:=G9 q1 q2 kx
  have h6:=G4 ha
  have h7:=y6 (show a.length≤q.length - 1 by omega)
  have h8:lv a / p≤lv a:=Xd _ h0
  omega
theorem TC {r:Int} (h0:0≤r) (h1:r < B) {l:LI} (hl:LW l) (ht:Tm l) (he:lv l=r):m_fx false l=some (r,true):=by
 have e:B=4294967296:=rfl
 have Px:l=if r=0 then [] else [r]:=by
  refine fb hl ?_ ht ?_ ?_
  ·intro x hx; split at hx
   ·simp at hx
   ·simp at hx; omega
  ·split
   ·exact P8
   ·rename_i h; intro x hx; simp at hx; omega
  ·rw [he]; split
   ·rename_i h; rw [h]; rfl
   ·simp [lv]
 refine Ret.eq ?_
 unfold m_fx
 rw [Z4 hl (by rw [Px]; split<;>simp),obs,me hl ht,Px]
 by_cases hz:r=0
 ·subst hz
  rw [M0 rfl,K0 H0]
  refine Zw (Q0 (Post:=fun u:Int=>u=0) 0 (fun k (s:Int×Int)=>s=(0,0)) rfl ?_ A0) ?_
  ·rintro k _ hk rfl
   exact ⟨_,rfl,rfl⟩
  ·rintro _ rfl
   exact ⟨_,rfl,rfl⟩
 ·rw [K0 hz,K0 H0]
  refine Zw (Q0 (Post:=fun u:Int=>u=r) 1 (fun k (s:Int×Int)=>s=(if k=0 then 0 else r,(k:Int))) rfl ?_ A0) ?_
  ·rintro k _ hk rfl
   unfold m_fw
   simp only
   rw [O0]
   refine ⟨fun hlt=>?_,fun tx=>?_⟩
   ·simp at hlt
    obtain rfl:k=0:=A0
    rw [J0,L3]
    refine ⟨A0,H0,fun x hx=>?_⟩
    have hx:r=x:=by simpa using hx
    subst hx
    have gO:wm .i64 32 ((0:Nat):Int)=0:=by rw [Z9 A0 A0]; rfl
    have zJ:wshl .u64 (wc .u64 r) 0=some r:=by
     rw [Z2 ⟨h0,A0⟩]
     unfold wshl
     rw [B0]
     show some (IntKind.u64.wrap (r*2 ^ (min (0:Int).toNat 64)))=_
     rw [show (2:Int) ^ (min (0:Int).toNat 64)=1 from rfl,J6,IntWalk.u64_in _ ⟨h0,A0⟩]
    rw [gO,zJ,obs]
    have iH:wor .u64 0 r=r:=by
     have:=Za (x:=0) (y:=r) ⟨A0,A0⟩ ⟨h0,h1⟩
     rw [V3,Mh] at this
     exact this
    refine ⟨_,rfl,A0,?_⟩
    rw [M0 rfl,iH,B0,U0 A0 A0]
    rfl
   ·simp at tx
    refine ⟨_,rfl,?_⟩
    show (if k=0 then (0:Int) else r)=r
    rw [B0]
  ·rintro _ rfl
   rw [K0 H0,M0 (by simp; omega)]
   refine ⟨_,rfl,?_⟩
   rw [Ga ⟨A0,A0⟩]
theorem AA {s:Bool} {a:LI} {p:Int} (ha:LW a) (hn:a.length≤900) (hp:0 < p) (hB:p < 2147483648):m_fy s a p=some ((if s=true then - lv a else lv a) % p):=by
 have e:B=4294967296:=rfl
 refine Ret.eq ?_
 unfold m_fy m_ew
 have bQ:=X3 ha
 have yL:(trimL a).length≤999:=by
  refine H1 fun hc=>?_
  have kx:trimL a≠[]:=by intro h; rw [h] at hc; simp at hc
  have h5:=G9 bQ (A4 a) kx
  rw [N1] at h5
  have h6:=G4 ha
  have h7:=y6 (show a.length≤(trimL a).length - 1 by omega)
  omega
 obtain ⟨q,r,hd,q1,q2,r1,r2,q3,r3,q4⟩:=Du bQ (A4 a) yL hp A0
 rw [N1] at q3 r3
 have h0:=Y1 ha
 have hr:=P3 (lv a) (show p≠0 by omega)
 have NG:=W3 (lv a) hp
 have fin:∀ (sg:Bool) (x y:LI) (v:Int),LW x→x.length≤1000000→LW y→Tm y→lv y=v→0≤v→v < p→v=(if s=true then - lv a else lv a) % p→Ret ((m_ev sg false x y).bind fun r8=>(m_fx r8.2.2.1 r8.2.2.2.1).bind fun r16=>some r16.1) (fun y=>y=(if s=true then - lv a else lv a) % p):=by
  intro sg x y v hx UL hy ty dR v0 v1 hv
  unfold m_ev
  have SG:=lh (!((sg == false))) hx UL
  have sL:y.length≤1:=by
   refine H1 fun hc=>?_
   have kx:y≠[]:=by rintro rfl; simp at hc
   have h5:=G9 hy ty kx
   have h7:=y6 (show 1≤y.length - 1 by omega)
   have:pw 1=B:=by simp [pw]
   omega
  have AH:=lh false hy A0
  rw [me hy ty] at AH
  have KP:m_cn false y=some (false,y):=by
   rw [AH]; split
   ·rename_i h; rw [h]
   ·rfl
  rw [SG,obs,KP,obs,obs]
  simp only
  rw [TC v0 A0 hy ty dR,obs]
  exact ⟨_,rfl,hv⟩
 rw [sD hp A0,obs]
 simp only
 rw [Z4 (Jg hp A0) H0,me (Jg hp A0) (Nq hp),obs,K0 H0,Z4 ha A0,obs,hd,obs]
 simp only
 by_cases hc:s=true∧0 < r.length
 ·obtain ⟨hs,CH⟩:=hc
  subst hs
  rw [M0 (by simp; omega)]
  have QM:r≠[]:=by rintro rfl; simp at CH
  have DH:lv r≠0:=fun h=>QM ((td r1 r2).1 h)
  have kM:lv [p]=p:=by simp [lv]
  have kP:r.length≤1:=by
   refine H1 fun hc=>?_
   have h5:=G9 r1 r2 QM
   have h7:=y6 (show 1≤r.length - 1 by omega)
   have:pw 1=B:=by simp [pw]
   omega
  obtain ⟨x,hx,x1,x2,x3⟩:=Ij q1 (b:=[1]) (LW.one.2 ⟨A0,A0⟩) q4 H0
  obtain ⟨y,hy,y1,y2,y3⟩:=minus_ok (Jg hp A0) r1 H0 (by simpa using kP) A0
  have hE:((m_dc q [1]).bind fun r36=>(m_ej [p] r).bind fun r38=>m_ev true false r36 r38)=m_ev true false x y:=by rw [hx,obs,hy,obs]
  rw [hE]
  have UL:x.length≤1000+1:=by
   refine U7 x1 x2 ?_
   have:=G4 q1
   have h9:=y6 q4
   have h8:=M1 1000
   rw [x3]
   show lv q+lv [1] < B*pw 1000
   have:lv [1]=1:=by simp [lv]
   rw [e]; omega
  refine fin true x y (p - lv a % p) x1 A0 y1 y2 (by rw [y3,kM,r3]) A0 A0 ?_
  rw [M0 rfl]
  have hm:=V4 (lv a) p
  have h8: - lv a=(p - lv a % p)+p*(-(lv a / p) - 1):=by rw [A9,df]; omega
  rw [h8,mm]
  exact (X4 (a:=p - lv a % p) (b:=p) A0 A0).symm
 ·rw [K0 (by simp only [w4,decide_eq_true_eq]; rintro ⟨h1,h2⟩; exact hc ⟨h1,A0⟩)]
  refine fin s q r (lv a % p) q1 A0 r1 r2 r3 hr NG ?_
  by_cases hs:s=true
  ·have DH:r=[]:=S6 (Nat.eq_zero_of_not_pos fun h=>hc ⟨hs,h⟩)
   have hz:lv a % p=0:=by rw [← r3,DH]; rfl
   rw [M0 hs,hz,Int.neg_emod,M0 (km hz)]
  ·rw [K0 hs]
def lenTab:LI:=[0,1,2,2,3,3,3,3,4,4,4,4,4,4,4,4,5,5,5,5,5,5,5,5,5,5,5,5,5,5,5,5,6,6,6,6,6,6,6,6,6,6,6,6,6,6,6,6,6,6,6,6,6,6,6,6,6,6,6,6,6,6,6,6]++List.replicate 64 7++List.replicate 128 8
theorem BC:(List.range 256).all (fun k=>match lenTab[k]? with | some v=>decide (0≤v) && decide (v≤8) && decide ((k:Int) < 2 ^ v.toNat) && decide (k=0∨2 ^ v.toNat≤2*(k:Int)) | none=>false)=true:=by decide +kernel
theorem lenT {x:Int} (h0:0≤x) (h1:x < 256):∃ v:Nat,getI lenTab x=some (v:Int)∧v≤8∧x < 2 ^ v∧(0 < x→2 ^ v≤2*x):=by
 obtain ⟨k,rfl⟩:=W4 h0
 have:=w7.1 BC k (Z6.2 A0)
 cases h:lenTab[k]? with
 | none=>rw [h] at this; simp at this
 | some v=>
  rw [h] at this
  simp only [w4,decide_eq_true_eq] at this
  obtain ⟨⟨⟨a1,a2⟩,a3⟩,a4⟩:=this
  obtain ⟨w,rfl⟩:=W4 a1
  rw [Z0] at a3 a4
  exact ⟨w,h,A0,a3,fun hk=>a4.resolve_left A0⟩
theorem er {x:Int} {n:Nat} (h:0≤x) (hn:n≤32):wsrc .u32 x n=x / 2 ^ n:=by
 unfold wsrc
 show x.fdiv (2 ^ min n 32)=_
 rw [G6 hn,Wd _ (y8 (S5 A0))]
theorem AC (x c:Int):m_bc x c=(getI lenTab (wc .u8 x)).bind fun x6=>some (wa .i64 c (wc .i64 x6)):=rfl
theorem ot {x:Int} {c:Nat} (h0:0≤x) (h1:x < 256) (hc:c≤24):∃ v:Nat,m_bc x (c:Int)=some ((c+v:Nat):Int)∧v≤8∧x < 2 ^ v∧(0 < x→2 ^ v≤2*x):=by
 obtain ⟨v,h2,h3,h4⟩:=lenT h0 h1
 refine ⟨v,?_,h3,h4⟩
 have mK:wc .u8 x=x:=by unfold wc; rw [IntKind.wrap_u8]; omega
 rw [AC,mK,h2,obs,Ga ⟨A0,A0⟩,U0 A0 A0]
 congr 1
theorem ak {x:Int} (h0:0≤x) (h1:x < B):∃ v:Nat,m_be x=some (v:Int)∧v≤32∧x < 2 ^ v∧(0 < x→2 ^ v≤2*x):=by
 have e:B=4294967296:=rfl
 have step:∀ (y:Int) (c:Nat),0≤y→y < 65536→c≤16→∃ v:Nat,m_bd y (c:Int)=some ((c+v:Nat):Int)∧v≤16∧y < 2 ^ v∧(0 < y→2 ^ v≤2*y):=by
  intro y c y0 y1 hc
  unfold m_bd
  by_cases h:256≤y
  ·rw [M0 h,er y0 A0,show wa .i64 (c:Int) 8=((c+8:Nat):Int) by rw [U0 A0 A0]; omega]
   obtain ⟨v,h2,h3,h4,h5⟩:=ot (x:=y / 2 ^ 8) (c:=c+8) A0 A0 A0
   refine ⟨8+v,by rw [h2]; congr 1; omega,A0,?_⟩
   rw [E5]
   have:=h5 A0
   exact ⟨A0,fun _=>A0⟩
  ·rw [K0 h]
   obtain ⟨v,h2,h3,h4⟩:=ot (x:=y) (c:=c) y0 A0 A0
   exact ⟨v,h2,A0,h4⟩
 unfold m_be
 by_cases h:65536≤x
 ·rw [M0 h,er h0 A0]
  obtain ⟨v,h2,h3,h4,h5⟩:=step (x / 2 ^ 16) 16 A0 A0 A0
  refine ⟨16+v,h2,A0,?_⟩
  rw [E5]
  have:=h5 A0
  exact ⟨A0,fun _=>A0⟩
 ·rw [K0 h]
  obtain ⟨v,h2,h3,h4⟩:=step x 0 h0 A0 A0
  exact ⟨v,by rw [show (0:Int)=((0:Nat):Int) from rfl,h2]; congr 1; omega,A0,h4⟩
theorem qt {p:Int} (hp:0 < p) (hB:p < B):∃ s:Nat,m_eo p=some (s:Int)∧s < 32∧p*2 ^ s < B∧B≤2*(p*2 ^ s):=by
 obtain ⟨v,h1,h2,h3,h4⟩:=ak (y8 hp) hB
 have hv:0 < v:=by
  rcases Qa v with h | h
  ·subst h; simp at h3; omega
  ·exact h
 refine ⟨32 - v,?_,A0,?_⟩
 ·unfold m_eo
  rw [h1,obs,C3 A0 A0]
  congr 1; omega
 ·have e:(2:Int) ^ v*2 ^ (32 - v)=B:=by
   rw [← E5,show v+(32 - v)=32 by omega]; rfl
  have hc:(0:Int) < 2 ^ (32 - v):=S5 A0
  have:=Mb h3 hc
  have h6:=D3 (h4 hp) (y8 hc)
  rw [y7] at h6
  omega
theorem O8 {l:LI} (hl:LW l) (hn:l.length≤1000000):m_g l=some (trimL l):=by
 refine Ret.eq ?_
 have h:=Z4 hl hn
 unfold m_cm at h
 unfold m_g
 have e3:m_f=m_cl:=rfl
 rw [e3]
 cases hL:loop (m_cl l) (l.length:Int) with
 | none=>rw [hL] at h; cases h
 | some i=>
  rw [hL,obs] at h
  have hs:∃ t,sli l 0 i=some t∧t=trimL l:=by
   cases hs:sli l 0 i with
   | none=>rw [hs] at h; cases h
   | some t=>rw [hs,obs] at h; exact ⟨t,rfl,N2 h⟩
  obtain ⟨t,ht,nR⟩:=hs
  obtain ⟨t1,_,t2,t3⟩:=dg ht
  obtain ⟨k,rfl⟩:=W4 t2
  have WH:t=l.take k:=by rw [t1]; unfold subL; simp
  rw [obs]
  refine Zw (Q0 (Post:=fun o=>o=l.take k) k (fun m (s:LI×Int)=>s=(l.take m,(m:Int))) H0 ?_ A0) fun o ho=>⟨_,rfl,by rw [ho,← WH,nR]⟩
  rintro m _ hm rfl
  unfold m_e
  simp only
  rw [O0]
  refine ⟨fun hlt=>?_,fun tx=>⟨_,rfl,by have e:m=k:=A0; rw [e]; rfl⟩⟩
  rw [J0,L3]
  refine ⟨A0,A0,fun x hx=>?_⟩
  rw [Z0] at hx
  rw [J0,D2]
  refine ⟨by rw [B4]; simp only [I2,Y2]; omega,_,rfl,A0,?_⟩
  rw [U0 A0 A0,← tks hx]; rfl
theorem Be {l:LI} (s:Bool) (hl:LW l) (hn:l.length≤1000000):m_h s l=some (s && decide ((0:Int) < ((trimL l).length:Int)),trimL l):=by
 unfold m_h
 rw [O8 hl hn,obs]
theorem Kj {l:LI} (s:Bool) (hl:LW l) (hn:l.length≤1000000):m_k s l=some (s && decide ((0:Int) < ((trimL l).length:Int)),trimL l):=by
 unfold m_k
 rw [Be s hl hn,obs]
theorem Sk {a b:LI} (ha:LW a) (hb:LW b) (ta:Tm a) (tb:Tm b) (hn:a.length≤1000) (hm:b.length≤1000):m_2 a b=some (if lv a < lv b then -1 else if lv b < lv a then 1 else 0):=by
 refine Ret.eq ?_
 unfold m_2
 rw [O0]
 refine ⟨fun hl=>?_,fun hl=>?_⟩
 ·have hl:a.length=b.length:=A0
  refine Zw (Q0 (Post:=fun o=>(o=.inl ()∧a=b)∨∃ c,o=.inr c∧c=(if lv a < lv b then -1 else if lv b < lv a then 1 else 0)) a.length (fun m (i:Int)=>i=(a.length:Int) - 1 - m∧m≤a.length∧a.drop (a.length - m)=b.drop (a.length - m)) ⟨by rw [C3 A0 A0]; omega,A0,by rw [Db,Wl,X9 A0]⟩ ?_ A0) ?_
  ·rintro m i OH ⟨rfl,h1,h2⟩
   unfold m_1
   rw [O0]
   refine ⟨fun tx=>?_,fun hlt=>⟨_,rfl,.inl ⟨rfl,by have e:a.length - m=0:=A0; rwa [e,W9,W9] at h2⟩⟩⟩
   obtain ⟨j,hj⟩:∃ j:Nat,a.length=j+(m+1):=⟨a.length - (m+1),A0⟩
   have ej:(a.length:Int) - 1 - (m:Int)=(j:Int):=A0
   have e2:a.length - m=j+1:=A0
   rw [e2] at h2
   rw [ej,J0,L3]
   refine ⟨A0,A0,fun x hx=>?_⟩
   rw [J0,L3]
   refine ⟨A0,A0,fun y hy=>?_⟩
   rw [Z0] at hx hy
   rw [O0]
   refine ⟨fun he=>⟨_,rfl,A0,by rw [C3 A0 A0]; omega,A0,?_⟩,fun kx=>?_⟩
   ·subst he
    obtain ⟨k1,k2⟩:=Z1.1 hx
    obtain ⟨k3,k4⟩:=Z1.1 hy
    rw [show a.length - (m+1)=j by omega,Ua k1,Ua k3,k2,k4,h2]
   ·rw [J0,L3]
    refine ⟨A0,A0,fun x' UA=>?_⟩
    rw [Z0,hx] at UA
    obtain rfl:=N2 UA
    rw [J0,L3]
    refine ⟨A0,A0,fun y' VJ=>?_⟩
    rw [Z0,hy] at VJ
    obtain rfl:=N2 VJ
    rw [O0]
    refine ⟨fun h=>⟨_,rfl,.inr ⟨_,rfl,?_⟩⟩,fun h=>⟨_,rfl,.inr ⟨_,rfl,?_⟩⟩⟩
    ·rw [M0 (Pg ha hb hx hy h2 h)]
    ·have:=Pg hb ha hy hx h2.symm (show y < x by omega)
     rw [B0,M0 this]
  ·rintro _ (⟨rfl,h⟩ | ⟨c,rfl,h⟩)
   ·refine ⟨_,rfl,?_⟩
    rw [h,B0,B0]
   ·exact ⟨_,rfl,h⟩
 ·rw [O0]
  refine ⟨fun h=>⟨_,rfl,?_⟩,fun h=>⟨_,rfl,?_⟩⟩
  ·rw [M0 (D7 ha hb ta tb A0)]
  ·have:=D7 hb ha tb ta (show b.length < a.length by omega)
   rw [B0,M0 this]
theorem Oq {a:LI} {i:Nat}:lv (a.take (i+1))=lv (a.take i)+pw i*a.getD i 0:=by
 rcases Pa i a.length with h | h
 ·rw [O4 (B3 h)]; simp [List.getD,h]
 ·rw [pe h]; simp [List.getD,K7 h]
theorem Wu {a b:LI} (ha:LW a) (hb:LW b) (hn:a.length≤1000) (hm:b.length≤1000):Ret (m_0 a b) (fun r=>LW r∧r.length≤1001∧lv r=lv a+lv b):=by
 have e:B=4294967296:=rfl
 obtain ⟨N,hN⟩:∃ N:Nat,imax (a.length:Int) (b.length:Int)=(N:Int)∧a.length≤N∧b.length≤N∧N≤1000:=by
  unfold imax
  split
  ·exact ⟨b.length,rfl,A0,A0,hm⟩
  ·exact ⟨a.length,rfl,A0,A0,hn⟩
 obtain ⟨hN,ES,DS,TT⟩:=hN
 unfold m_0
 refine Zw (Q0 (Post:=fun s:LI×Int=>LW s.1∧s.1.length=N∧(s.2=0∨s.2=1)∧lv s.1+pw N*s.2=lv a+lv b) N (fun i (s:LI×Int×Int)=>s.2.2=(i:Int)∧LW s.1∧s.1.length=i∧(s.2.1=0∨s.2.1=1)∧lv s.1+pw i*s.2.1=lv (a.take i)+lv (b.take i)) ⟨rfl,by intro x hx; simp at hx,rfl,.inl rfl,by simp [lv]⟩ ?_ A0) ?_
 ·rintro i ⟨o,c,_⟩ hi ⟨rfl,h1,h2,h3,h4⟩
  simp only at h1 h2 h3 h4
  unfold m_z
  simp only
  rw [hN,O0]
  refine ⟨fun hlt=>?_,fun tx=>⟨_,rfl,h1,by show o.length=_; omega,h3,?_⟩⟩
  ·have TR:i < N:=A0
   have fin:∀ (t:Int),0≤t→t < 2*B→t=c+a.getD i 0+b.getD i 0→Ret (m_x o (i:Int) t) (VQ (fun s:LI×Int×Int=>i < N∧s.2.2=((i+1:Nat):Int)∧LW s.1∧s.1.length=i+1∧(s.2.1=0∨s.2.1=1)∧lv s.1+pw (i+1)*s.2.1=lv (a.take (i+1))+lv (b.take (i+1))) (fun s:LI×Int=>LW s.1∧s.1.length=N∧(s.2=0∨s.2=1)∧lv s.1+pw N*s.2=lv a+lv b)):=by
    intro t t0 t1 ht
    have hm:=P3 t (show B≠0 by omega)
    have qD:=W3 t (show 0 < B by omega)
    have hd:=V4 t B
    unfold m_x
    rw [M8,z7 t0,J0,D2]
    refine ⟨by rw [h2]; simp only [I2,Y2]; omega,_,rfl,TR,Xw,LW.app.2 ⟨h1,LW.one.2 ⟨hm,qD⟩⟩,by show (o++[_]).length=_; rw [Q1,h2]; rfl,by have q0:0≤t / B:=T5 t0 A0; have q1:t / B < 2:=U6 A0 t1; show t / B=0∨t / B=1; omega,?_⟩
    show lv (o++[t % B])+pw (i+1)*(t / B)=_
    rw [pa,h2,Oq (a:=a),Oq (a:=b)]
    simp only [pw]
    have e3:pw i*(B*(t / B)+t % B)=pw i*t:=by rw [hd]
    have e4:B*pw i*(t / B)=pw i*(B*(t / B)):=by grind
    have e5:pw i*t=pw i*c+pw i*a.getD i 0+pw i*b.getD i 0:=by rw [ht]; grind
    rw [T6] at e3
    omega
   have second:∀ (t:Int),0≤t→t < B+1→t=c+a.getD i 0→Ret (m_y (i:Int) b o t) (VQ (fun s:LI×Int×Int=>i < N∧s.2.2=((i+1:Nat):Int)∧LW s.1∧s.1.length=i+1∧(s.2.1=0∨s.2.1=1)∧lv s.1+pw (i+1)*s.2.1=lv (a.take (i+1))+lv (b.take (i+1))) (fun s:LI×Int=>LW s.1∧s.1.length=N∧(s.2=0∨s.2=1)∧lv s.1+pw N*s.2=lv a+lv b)):=by
    intro t t0 t1 ht
    unfold m_y
    rw [O0]
    refine ⟨fun KK=>?_,fun rM=>?_⟩
    ·rw [J0,L3]
     refine ⟨A0,KK,fun y hy=>?_⟩
     rw [Z0] at hy
     have Zz:=LW.get hb hy
     have SL:b.getD i 0=y:=by rw [I6,hy]; rfl
     rw [Z2 ⟨Zz.1,A0⟩,V6 ⟨A0,A0⟩]
     exact fin _ A0 A0 (by rw [ht,SL])
    ·have SL:b.getD i 0=0:=by rw [I6,K7 A0]; rfl
     exact fin _ t0 A0 (by rw [ht,SL,L8])
   rw [O0]
   refine ⟨fun sO=>?_,fun ET=>?_⟩
   ·rw [J0,L3]
    refine ⟨A0,sO,fun x hx=>?_⟩
    rw [Z0] at hx
    have Nx:=LW.get ha hx
    have uL:a.getD i 0=x:=by rw [I6,hx]; rfl
    rw [Z2 ⟨Nx.1,A0⟩,V6 ⟨A0,A0⟩]
    exact second _ A0 A0 (by rw [uL])
   ·have uL:a.getD i 0=0:=by rw [I6,K7 A0]; rfl
    exact second _ A0 A0 (by rw [uL,L8])
  ·have ei:i=N:=A0
   subst ei
   rw [I5 ES,I5 DS] at h4
   exact h4
 ·rintro ⟨o,c⟩ ⟨h1,h2,h3,h4⟩
  simp only at h1 h2 h3 h4 ⊢
  have hc:wc .u32 c=c:=B5 ⟨A0,A0⟩
  have JK:LW (o++[c]):=LW.app.2 ⟨h1,LW.one.2 ⟨A0,A0⟩⟩
  rw [hc,J0,D2]
  refine ⟨by rw [h2]; simp only [I2,Y2]; omega,_,rfl,JK,by rw [Q1,h2]; simp; omega,by rw [pa,h2]; exact h4⟩
theorem Tq {v:Int} (h0: -B≤v) (h1:v < B):((v % 18446744073709551616) % B=v+B*(if v < 0 then 1 else 0))∧((v % 18446744073709551616) / 9223372036854775808=if v < 0 then 1 else 0):=by
 unfold B at*
 split<;>omega
theorem Xf {a b:LI} (ha:LW a) (hb:LW b) (hn:a.length≤1000) (hl:b.length≤a.length) (hv:lv b≤lv a):Ret (m_5 a b) (fun r=>LW r∧r.length≤1001∧lv r=lv a - lv b):=by
 have e:B=4294967296:=rfl
 unfold m_5
 refine Zw (Q0 (Post:=fun o:LI=>LW o∧o.length=a.length∧lv o=lv a - lv b) a.length (fun i (s:LI×Int×Int)=>s.2.2=(i:Int)∧LW s.1∧s.1.length=i∧(s.2.1=0∨s.2.1=1)∧lv s.1=lv (a.take i) - lv (b.take i)+pw i*s.2.1) ⟨rfl,by intro x hx; simp at hx,rfl,.inl rfl,by simp [lv]⟩ ?_ A0) fun o h=>⟨_,rfl,h.1,A0,h.2.2⟩
 rintro i ⟨o,c,_⟩ hi ⟨rfl,h1,h2,h3,h4⟩
 simp only at h1 h2 h3 h4
 unfold m_4 m_3
 simp only
 rw [O0]
 refine ⟨fun hlt=>?_,fun tx=>⟨_,rfl,h1,by show o.length=_; omega,?_⟩⟩
 ·have vI:i < a.length:=A0
  rw [J0,L3]
  refine ⟨A0,hlt,fun x hx=>?_⟩
  rw [Z0] at hx
  have Nx:=LW.get ha hx
  have RH:wc .u64 x=x:=Z2 ⟨Nx.1,A0⟩
  have CG:=O4 hx
  have fin:∀ (t v:Int),t=v % 18446744073709551616→-B≤v→v < B→lv o+pw i*v=lv (a.take (i+1)) - lv (b.take (i+1))→Ret ((app o [wc .u32 t]).bind fun x39=>some (Sum.inl (β:=LI) (x39,wsrc .u64 t 63,wa .i64 (i:Int) 1))) (VQ (fun s:LI×Int×Int=>i < a.length∧s.2.2=((i+1:Nat):Int)∧LW s.1∧s.1.length=i+1∧(s.2.1=0∨s.2.1=1)∧lv s.1=lv (a.take (i+1)) - lv (b.take (i+1))+pw (i+1)*s.2.1) (fun o:LI=>LW o∧o.length=a.length∧lv o=lv a - lv b)):=by
   intro t v ht v0 v1 hv
   obtain ⟨k1,k2⟩:=Tq v0 v1
   rw [← ht] at k1 k2
   have k3:0≤t:=by rw [ht]; exact P3 _ A0
   have hm:=P3 t (show B≠0 by omega)
   have qD:=W3 t (show 0 < B by omega)
   rw [M8,En k3,k2,J0,D2]
   refine ⟨by rw [h2]; simp only [I2,Y2]; omega,_,rfl,vI,Xw,LW.app.2 ⟨h1,LW.one.2 ⟨hm,qD⟩⟩,by show (o++[_]).length=_; rw [Q1,h2]; rfl,by show (if v < 0 then (1:Int) else 0)=0∨(if v < 0 then (1:Int) else 0)=1; split<;>omega,?_⟩
   show lv (o++[t % B])=_+pw (i+1)*(if v < 0 then 1 else 0)
   rw [pa,h2,k1,← hv]
   simp only [pw]
   generalize (if v < 0 then (1:Int) else 0)=z
   grind
  rw [O0]
  refine ⟨fun KK=>?_,fun rM=>?_⟩
  ·rw [J0,L3]
   refine ⟨A0,KK,fun y hy=>?_⟩
   rw [Z0] at hy
   have Zz:=LW.get hb hy
   refine fin _ (x - c - y) ?_ A0 A0 ?_
   ·rw [RH,Z2 ⟨Zz.1,A0⟩,C7,C7]; omega
   ·rw [CG,O4 hy,h4]; grind
  ·refine fin _ (x - c) ?_ A0 A0 ?_
   ·rw [RH,C7]
   ·rw [CG,pe (a:=b) A0,h4]; grind
 ·have ei:i=a.length:=A0
  subst ei
  rw [w9,I5 hl] at h4
  have hlt:=G4 h1
  rw [h2] at hlt
  have hp:=M1 a.length
  show lv o=_
  rcases h3 with rfl | rfl
  ·omega
  ·omega
theorem kr {a:LI} (ha:LW a) (hn:a.length≤1000) {q s:Nat} (EH:q≤1000) (hs:s < 32):Ret (m_q a ((32*q+s:Nat):Int)) (fun u=>LW u∧u.length=q+a.length+1∧lv u=lv a*(pw q*2 ^ s)):=by
 have e:B=4294967296:=rfl
 obtain ⟨hq,hr⟩:=oh (q:=q) A0 hs
 obtain ⟨p1,p2,p3,p4⟩:=A8 hs
 unfold m_q
 rw [hq,J0,J5]
 refine ⟨A0,A0,?_⟩
 rw [Z0]
 refine Zw (Q0 (Post:=fun s':LI×Int=>LW s'.1∧s'.1.length=q+a.length∧(0≤s'.2∧s'.2 < 2 ^ s)∧lv s'.1+pw (q+a.length)*s'.2=pw q*(lv a*2 ^ s)) a.length (fun i (s':LI×Int×Int)=>s'.2.2=(i:Int)∧LW s'.1∧s'.1.length=q+i∧(0≤s'.2.1∧s'.2.1 < 2 ^ s)∧lv s'.1+pw (q+i)*s'.2.1=pw q*(lv (a.take i)*2 ^ s)) ⟨rfl,ob _,U4 ..,⟨by show (0:Int)≤0; omega,p1⟩,by rw [Ce,Dh]; simp [lv]⟩ ?_ A0) ?_
 ·rintro i ⟨o,c,_⟩ hi ⟨rfl,h1,h2,h3,h4⟩
  simp only at h1 h2 h3 h4
  unfold m_p
  simp only
  rw [O0,hr]
  refine ⟨fun hlt=>?_,fun tx=>⟨_,rfl,h1,by show o.length=_; omega,h3,by have ei:i=a.length:=A0; subst ei; rw [w9] at h4; exact h4⟩⟩
  have vI:i < a.length:=A0
  rw [J0,L3]
  refine ⟨A0,hlt,fun x hx=>?_⟩
  rw [Z0] at hx
  have Nx:=LW.get ha hx
  have kJ:0≤x*2 ^ s:=O3 Nx.1 A0
  have gR:x*2 ^ s≤(B - 1)*2 ^ s:=D3 A0 A0
  have fR:(B - 1)*2 ^ s≤(B - 1)*2147483648:=K3 p2 A0
  have FI:wshl .u64 (wc .u64 x) (s:Int)=some (x*2 ^ s):=by
   rw [Z2 ⟨Nx.1,A0⟩]
   unfold wshl
   rw [B0,Z0]
   show some (IntKind.u64.wrap (x*2 ^ min s 64))=_
   rw [G6 A0,IntWalk.u64_in _ ⟨kJ,A0⟩]
  rw [FI,obs,wy hs h3 Nx A0]
  have t0:0≤c+x*2 ^ s:=A0
  have hm:=P3 (c+x*2 ^ s) (show B≠0 by omega)
  have qD:=W3 (c+x*2 ^ s) (show 0 < B by omega)
  have hd:=V4 (c+x*2 ^ s) B
  have q0:0≤(c+x*2 ^ s) / B:=T5 t0 A0
  have q1:(c+x*2 ^ s) / B < 2 ^ s:=by
   refine U6 A0 ?_
   have:(B - 1)*2 ^ s=2 ^ s*B - 2 ^ s:=by grind
   omega
  rw [M8,z7 t0,J0,D2]
  refine ⟨by rw [h2]; simp only [I2,Y2]; omega,_,rfl,vI,Xw,LW.app.2 ⟨h1,LW.one.2 ⟨hm,qD⟩⟩,by show (o++[_]).length=_; rw [Q1,h2]; rfl,⟨q0,q1⟩,?_⟩
  show lv (o++[(c+x*2 ^ s) % B])+pw (q+(i+1))*((c+x*2 ^ s) / B)=_
  have pq1:pw (q+(i+1))=B*pw (q+i):=rfl
  have pq:pw (q+i)=pw q*pw i:=W6 q i
  rw [pa,h2,O4 hx,pq1]
  have e3:pw (q+i)*(B*((c+x*2 ^ s) / B)+(c+x*2 ^ s) % B)=pw (q+i)*(c+x*2 ^ s):=by rw [hd]
  generalize (c+x*2 ^ s) / B=Q at*
  generalize (c+x*2 ^ s) % B=r at*
  rw [pq] at h4 e3 ⊢
  have e4:pw q*((lv (a.take i)+pw i*x)*2 ^ s)=pw q*(lv (a.take i)*2 ^ s)+pw q*pw i*(x*2 ^ s):=by grind
  rw [e4,← h4]
  grind
 ·rintro ⟨o,c⟩ ⟨h1,h2,h3,h4⟩
  simp only at h1 h2 h3 h4 ⊢
  rw [B5 ⟨h3.1,A0⟩,J0,D2]
  refine ⟨by rw [h2]; simp only [I2,Y2]; omega,_,rfl,LW.app.2 ⟨h1,LW.one.2 ⟨h3.1,A0⟩⟩,by rw [Q1,h2]; rfl,?_⟩
  rw [pa,h2,h4]
  grind
theorem ir {a:LI} (ha:LW a) (hn:a.length≤1000) {s:Nat} (hs:s < 32):Ret (m_q a (s:Int)) (fun u=>LW u∧u.length=a.length+1∧lv u=lv a*2 ^ s):=by
 have:=kr ha hn (q:=0) A0 hs
 rw [show 32*0+s=s by omega] at this
 exact this.mono fun u hu=>⟨hu.1,A0,by rw [hu.2.2]; show _*(1*_)=_; rw [M4]⟩
theorem UC {r:Int} (h0:0≤r) (h1:r < B) {l:LI} (hl:LW l) (ht:Tm l) (he:lv l=r):m_bu false l=some (r,true):=by
 have e:B=4294967296:=rfl
 have Px:l=if r=0 then [] else [r]:=by
  refine fb hl ?_ ht ?_ ?_
  ·intro x hx; split at hx
   ·simp at hx
   ·simp at hx; omega
  ·split
   ·exact P8
   ·rename_i h; intro x hx; simp at hx; omega
  ·rw [he]; split
   ·rename_i h; rw [h]; rfl
   ·simp [lv]
 refine Ret.eq ?_
 unfold m_bu
 rw [Kj false hl (by rw [Px]; split<;>simp),obs,me hl ht,Px]
 simp only [Bool.false_and]
 by_cases hz:r=0
 ·subst hz
  rw [M0 rfl,K0 H0]
  refine Zw (Q0 (Post:=fun u:Int=>u=0) 0 (fun k (s:Int×Int)=>s=(0,0)) rfl ?_ A0) ?_
  ·rintro k _ hk rfl
   exact ⟨_,rfl,rfl⟩
  ·rintro _ rfl
   exact ⟨_,rfl,rfl⟩
 ·rw [K0 hz,K0 H0]
  refine Zw (Q0 (Post:=fun u:Int=>u=r) 1 (fun k (s:Int×Int)=>s=(if k=0 then 0 else r,(k:Int))) rfl ?_ A0) ?_
  ·rintro k _ hk rfl
   unfold m_bt
   simp only
   rw [O0]
   refine ⟨fun hlt=>?_,fun tx=>?_⟩
   ·simp at hlt
    obtain rfl:k=0:=A0
    rw [J0,L3]
    refine ⟨A0,H0,fun x hx=>?_⟩
    have hx:r=x:=by simpa using hx
    subst hx
    have gO:wm .i64 32 ((0:Nat):Int)=0:=by rw [Z9 A0 A0]; rfl
    have zJ:wshl .u64 (wc .u64 r) 0=some r:=by
     rw [Z2 ⟨h0,A0⟩]
     unfold wshl
     rw [B0]
     show some (IntKind.u64.wrap (r*2 ^ (min (0:Int).toNat 64)))=_
     rw [show (2:Int) ^ (min (0:Int).toNat 64)=1 from rfl,J6,IntWalk.u64_in _ ⟨h0,A0⟩]
    rw [gO,zJ,obs]
    have iH:wor .u64 0 r=r:=by
     have:=Za (x:=0) (y:=r) ⟨A0,A0⟩ ⟨h0,h1⟩
     rw [V3,Mh] at this
     exact this
    refine ⟨_,rfl,A0,?_⟩
    rw [M0 rfl,iH,B0,U0 A0 A0]
    rfl
   ·simp at tx
    refine ⟨_,rfl,?_⟩
    show (if k=0 then (0:Int) else r)=r
    rw [B0]
  ·rintro _ rfl
   rw [K0 H0,B0]
   refine ⟨_,rfl,?_⟩
   rw [Ga ⟨A0,A0⟩]
theorem Ez {l:LI} (s:Bool) (hl:LW l) (ht:Tm l) (hn:l.length≤1000):m_bj s l=some (if l=[] then 0 else if s=true then -1 else 1):=by
 unfold m_bj
 rw [Kj s hl A0,obs,me hl ht]
 simp only
 by_cases h:l=[]
 ·rw [M0 (by rw [h]; rfl),M0 h]
 ·have hp:=Jb.2 h
  rw [B0,K0 h]
  have:decide ((0:Int) < (l.length:Int))=true:=by simp; exact hp
  rw [this,Bool.and_true]
  split<;>rfl
theorem add_ok {a b:LI} (s t:Bool) (ha:LW a) (hb:LW b) (hn:a.length≤900) (hm:b.length≤900):Ret (m_6 s a t b) (fun r=>LW r.2∧Tm r.2∧r.2.length≤1001∧(s=true→t=false→lv a < lv b→r.1=false∧lv r.2=lv b - lv a)):=by
 have la:=Pf ha
 have lb:=Pf hb
 have ta:=X3 ha
 have tb:=X3 hb
 have va:=N1 a
 have vb:=N1 b
 unfold m_6
 rw [O8 ha A0,obs,O8 hb A0,obs,O0]
 have mk:∀ (u:Bool) {r:LI},LW r→r.length≤1001→Ret ((m_h u r).bind fun r17=>some (r17.1,r17.2)) (fun x:Bool×LI=>LW x.2∧Tm x.2∧x.2.length≤1001∧lv x.2=lv r∧(u=false→x.1=false)):=by
  intro u r hr CH
  rw [Be u hr A0,obs]
  have:=Pf hr
  exact ⟨_,rfl,X3 hr,A4 r,by show (trimL r).length≤1001; omega,N1 r,fun h=>by rw [h]; rfl⟩
 refine ⟨fun cx=>?_,fun cx=>?_⟩
 ·refine Zw (Wu ta tb A0 A0) fun r hr=>?_
  refine (mk s hr.1 hr.2.1).mono fun x hx=>⟨hx.1,hx.2.1,hx.2.2.1,fun h1 h2 _=>?_⟩
  rw [h1,h2] at cx; cases cx
 ·rw [Sk ta tb (A4 a) (A4 b) A0 A0,obs,va,vb,O0]
  refine ⟨fun h=>?_,fun h=>?_⟩
  ·have hle:lv b≤lv a:=by
    refine H1 fun hc=>?_
    rw [C0] at h; omega
   rw [J0]
   have FD:(trimL b).length≤(trimL a).length:=by
    refine H1 fun hc=>?_
    have:=D7 ta tb (A4 a) (A4 b) A0
    omega
   refine (Xf ta tb A0 FD A0).mono fun r hr=>?_
   refine (mk s hr.1 hr.2.1).mono fun x hx=>⟨hx.1,hx.2.1,hx.2.2.1,fun _ _ h3=>absurd h3 A0⟩
  ·have hlt:lv a < lv b:=by
    refine H1 fun hc=>?_
    rw [K0 hc] at h
    split at h<;>omega
   rw [J0]
   have FD:(trimL a).length≤(trimL b).length:=by
    refine H1 fun hc=>?_
    have:=D7 tb ta (A4 b) (A4 a) A0
    omega
   refine (Xf tb ta A0 FD A0).mono fun r hr=>?_
   refine (mk t hr.1 hr.2.1).mono fun x hx=>⟨hx.1,hx.2.1,hx.2.2.1,fun _ h2 _=>⟨hx.2.2.2.2 h2,by rw [hx.2.2.2.1,hr.2.2,va,vb]⟩⟩
def sv (s:Bool) (l:LI):Int:=if s=true then - lv l else lv l
def Bg (v:Int) (s:Bool) (l:LI):Prop:=LW l∧Tm l∧sv s l=v∧(s=true→l≠[])
theorem cz (s:Bool) (l:LI):sv s (trimL l)=sv s l:=by unfold sv; rw [N1]
theorem Sf (s:Bool) (l:LI):sv (!s) l= - sv s l:=by unfold sv; cases s<;>simp
theorem Bg.pos {v:Int} {s:Bool} {l:LI} (h:Bg v s l) (hs:s=true):0 < lv l:=by
 have h1:=Y1 h.1
 have h2:lv l≠0:=fun h0=>h.2.2.2 hs ((td h.1 h.2.1).1 h0)
 omega
theorem Bg.neg {v:Int} {s:Bool} {l:LI} (h:Bg v s l):s=true↔v < 0:=by
 have h1:=Y1 h.1
 have h3:=h.2.2.1
 constructor
 ·intro hs
  have:=h.pos hs
  unfold sv at h3; rw [M0 hs] at h3; omega
 ·intro hv
  refine H1 fun hs=>?_
  unfold sv at h3; rw [K0 hs] at h3; omega
theorem Bg.abs {v:Int} {s:Bool} {l:LI} (h:Bg v s l):lv l=if v < 0 then - v else v:=by
 have h3:=h.2.2.1
 by_cases hs:s=true
 ·rw [M0 (h.neg.1 hs)]; unfold sv at h3; rw [M0 hs] at h3; omega
 ·rw [K0 fun hv=>hs (h.neg.2 hv)]; unfold sv at h3; rw [K0 hs] at h3; exact h3
theorem Bg.uniq {v:Int} {s s':Bool} {l l':LI} (h:Bg v s l) (h':Bg v s' l'):s=s'∧l=l':=by
 refine ⟨?_,fb h.1 h'.1 h.2.1 h'.2.1 (h.abs.trans h'.abs.symm)⟩
 have e:s=true↔s'=true:=h.neg.trans h'.neg.symm
 cases s<;>cases s'<;>simp_all
theorem Bg.len {v:Int} {s:Bool} {l:LI} (h:Bg v s l) {m:Nat} (h1: - pw m < v) (h2:v < pw m):l.length≤m:=by
 refine U7 h.1 h.2.1 ?_
 rw [h.abs]; split<;>omega
theorem Bg.of {s:Bool} {l:LI} (hl:LW l) (ht:Tm l) (hs:s=true→l≠[]):Bg (sv s l) s l:=⟨hl,ht,rfl,hs⟩
theorem Bg.cast {v w:Int} {s:Bool} {l:LI} (h:Bg v s l) (e:v=w):Bg w s l:=e▸h
theorem Ac:Bg 0 false []:=⟨by intro x hx; simp at hx,P8,rfl,H0⟩
theorem Bg.sv {v:Int} {s:Bool} {l:LI} (h:Bg v s l):sv s l=v:=h.2.2.1
theorem Kg {l:LI} {k:Nat} {x y:Int} (hx:l[k]?=some x):lv (l.set k y)=lv l+pw k*(y - x):=by
 have hlt:=(Z1.1 hx).1
 have hy:(l.set k y)[k]?=some y:=by rw [D5 hlt]
 rw [Zf hx,Zf hy,Jl,Ml (by rw [B4]; omega),Lb A0]
 grind
theorem U8 {l:LI} (h:LW l) {k:Nat} {y:Int} (hy:0≤y∧y < B):LW (l.set k y):=by
 intro z hz
 rcases Iv hz with hz | rfl
 ·exact h z hz
 ·exact hy
theorem U5 {l:LI} (hl:LW l):(trimL l).length≤l.length:=Pf hl
theorem Bg.norm {s:Bool} {l:LI} (hl:LW l):Bg (Km.sv s l) (if trimL l=[] then false else s) (trimL l):=by
 refine ⟨X3 hl,A4 l,?_,?_⟩
 ·split
  ·rename_i h
   have h0:lv l=0:=by rw [← N1,h]; rfl
   unfold Km.sv
   rw [K0 H0,N1,h0]; split<;>simp
  ·exact cz s l
 ·split
  ·intro h; simp at h
  ·rename_i h; exact fun _=>h
theorem W7 {l:LI} (s:Bool) (hl:LW l) (hn:l.length≤1000000):Ret (m_cn s l) (fun r=>Bg (sv s l) r.1 r.2):=by
 rw [lh s hl hn]
 have h:=Bg.norm (s:=s) hl
 split
 ·rename_i h0
  rw [M0 h0,h0] at h
  exact ⟨_,rfl,h⟩
 ·rename_i h0
  rw [K0 h0] at h
  exact ⟨_,rfl,h⟩
theorem xc {a:LI} (h:a.length≤1000000):m_cr a=some a:=by
 unfold m_cr app BIG
 rw [M0 (by simp; omega),obs,Gc]
theorem Fg {s:Bool} {a:LI} (ha:LW a) (hn:a.length≤1000000):Ret (m_cu s a) (fun r=>Bg (sv s a) r.1 r.2):=by
 unfold m_cu
 rw [xc hn,obs,J0]
 exact (W7 s ha hn).mono fun r hr=>⟨_,rfl,hr⟩
def MI (a b:LI) (i j:Nat) (x:Int) (out:LI) (c:Int):Prop:=
 LW out∧out.length=a.length+b.length∧(0≤c∧c < B)∧lv out+pw (i+j)*c=lv (a.take i)*lv b+pw i*(x*lv (b.take j))∧out.drop (i+b.length)=List.replicate (a.length - i) 0
def MO (a b:LI) (i:Nat) (out:LI):Prop:=
 LW out∧out.length=a.length+b.length∧lv out=lv (a.take i)*lv b∧out.drop (i+b.length)=List.replicate (a.length - i) 0
theorem MO.start (a b:LI):MO a b 0 (List.replicate (a.length+b.length) 0):=by
 refine ⟨ob _,U4 ..,?_,?_⟩
 ·rw [Ce,Dh]; simp [lv]
 ·rw [Sd,Db]; congr 1; omega
theorem MO.row {a b:LI} {i:Nat} {out:LI} (h:MO a b i out) (x:Int):MI a b i 0 x out 0:=
 ⟨h.1,h.2.1,⟨A0,by unfold B; omega⟩,by rw [Dh]; simp only [lv,Q3,L8]; exact h.2.2.1,h.2.2.2⟩
theorem MI.step {a b:LI} {i j:Nat} {x c y o:Int} {out:LI} (h:MI a b i j x out c) (hx:0≤x∧x < B) (hb:LW b) (hy:b[j]?=some y) (ho:out[i+j]?=some o):
  (0≤x*y∧0≤o∧0≤y∧y < B∧o < B∧x*y+o+c < 18446744073709551616)∧MI a b i (j+1) x (out.set (i+j) ((x*y+o+c) % B)) ((x*y+o+c) / B):=by
 obtain ⟨h1,h2,h3,h4,h5⟩:=h
 have e:B=4294967296:=rfl
 have Zz:=LW.get hb hy
 have oQ:=LW.get h1 ho
 have iK:=(Z1.1 hy).1
 have VO:=O3 hx.1 Zz.1
 have XP:x*y≤4294967295*4294967295:=K8 A0 A0 Zz.1 A0
 have hm:=P3 (x*y+o+c) (show B≠0 by omega)
 have qD:=W3 (x*y+o+c) (show 0 < B by omega)
 have hd:=V4 (x*y+o+c) B
 have zH:0≤(x*y+o+c) / B:=T5 A0 A0
 have EH:(x*y+o+c) / B < B:=U6 A0 (by rw [e]; omega)
 refine ⟨⟨VO,oQ.1,Zz.1,Zz.2,oQ.2,A0⟩,U8 h1 ⟨hm,qD⟩,by rw [N3,h2],⟨zH,EH⟩,?_,?_⟩
 ·rw [Kg ho,O4 hy,show i+(j+1)=(i+j)+1 from rfl]
  simp only [pw]
  have hp:pw (i+j)=pw i*pw j:=W6 i j
  generalize (x*y+o+c) / B=q at hd ⊢
  generalize hr:(x*y+o+c) % B=r at hd ⊢
  have e1:lv out+pw (i+j)*(r - o)+B*pw (i+j)*q=lv out+pw (i+j)*((B*q+r) - o):=by grind
  rw [e1,hd]
  have e2:pw i*(x*(lv (b.take j)+pw j*y))=pw i*(x*lv (b.take j))+(pw i*pw j)*(x*y):=by grind
  rw [e2,← hp]
  have e3:pw (i+j)*(x*y+o+c - o)=pw (i+j)*(x*y)+pw (i+j)*c:=by grind
  rw [e3]
  omega
 ·rw [Lb A0]; exact h5
theorem MI.done {a b:LI} {i:Nat} {x c:Int} {out:LI} (h:MI a b i b.length x out c) (hx:a[i]?=some x):i+b.length < out.length∧MO a b (i+1) (out.set (i+b.length) c):=by
 obtain ⟨h1,h2,h3,h4,h5⟩:=h
 have MK:=(Z1.1 hx).1
 have hz:out[i+b.length]?=some 0:=by
  have e1:(out.drop (i+b.length))[0]?=out[i+b.length]?:=by rw [V9]; rfl
  rw [← e1,h5,Kb,C0]
 refine ⟨A0,U8 h1 h3,by rw [N3,h2],?_,?_⟩
 ·rw [Kg hz,O4 hx,Ea]
  rw [w9] at h4
  have e1:(lv (a.take i)+pw i*x)*lv b=lv (a.take i)*lv b+pw i*(x*lv b):=by grind
  rw [e1,← h4]
 ·rw [show i+1+b.length=(i+b.length)+1 by omega,Lb A0,← Wa,h5,Sd]
  congr 1
theorem Ty {a b:LI} (ha:LW a) (hb:LW b) (hn:a.length≤400) (hm:b.length≤400):Ret (m_ea a b) (fun r=>LW r∧Tm r∧lv r=lv a*lv b):=by
 unfold m_ea
 rw [O0]
 refine ⟨fun hz=>⟨_,rfl,by intro x hx; simp at hx,P8,?_⟩,fun hz=>?_⟩
 ·simp only [H5,decide_eq_true_eq] at hz
  rcases hz with hz | hz
  ·rw [show a=[] from S6 A0]; simp [lv]
  ·rw [show b=[] from S6 A0]; simp [lv]
 rw [U0 A0 A0,J0,J5]
 refine ⟨A0,A0,?_⟩
 rw [show ((a.length:Int)+(b.length:Int)).toNat=a.length+b.length by omega]
 refine Zw (Q0 (Post:=fun o=>MO a b a.length o) a.length (fun i (s:LI×Int)=>s.2=(i:Int)∧MO a b i s.1) ⟨rfl,MO.start a b⟩ ?_ A0) ?_
 ·rintro i ⟨o,_⟩ hi ⟨rfl,hO⟩
  simp only at hO
  unfold m_d9
  simp only
  rw [O0]
  refine ⟨fun hlt=>?_,fun tx=>⟨_,rfl,by have e:i=a.length:=A0; subst e; exact hO⟩⟩
  rw [J0,L3]
  refine ⟨A0,hlt,fun x hx=>?_⟩
  rw [Z0] at hx
  have Nx:=LW.get ha hx
  refine Zw (Q0 (Post:=fun s:LI×Int=>MI a b i b.length x s.1 s.2) b.length (fun j (s:LI×Int×Int)=>s.2.2=(j:Int)∧MI a b i j x s.1 s.2.1) ⟨rfl,hO.row x⟩ ?_ A0) ?_
  ·rintro j ⟨o,c,_⟩ hj ⟨rfl,hI⟩
   simp only at hI
   unfold m_d8
   simp only
   rw [O0]
   refine ⟨fun iK=>?_,fun tx=>⟨_,rfl,by have e:j=b.length:=A0; subst e; exact hI⟩⟩
   have cK:=hI.2.1
   rw [J0,L3]
   refine ⟨A0,iK,fun y hy=>?_⟩
   rw [Z0] at hy
   rw [U0 (x:=(i:Int)) (y:=(j:Int)) A0 A0,J0,L3]
   refine ⟨A0,A0,fun z hz=>?_⟩
   rw [show ((i:Int)+(j:Int)).toNat=i+j by omega] at hz
   obtain ⟨⟨t1,t2,t3,t4,t5,t6⟩,hN⟩:=hI.step Nx hb hy hz
   have hc:=hI.2.2.1
   have e:B=4294967296:=rfl
   have et:wa .u64 (wa .u64 (wm .u64 (wc .u64 x) (wc .u64 y)) (wc .u64 z)) c=x*y+z+c:=by
    rw [Z2 (x:=x) ⟨Nx.1,A0⟩,Z2 (x:=y) ⟨t3,A0⟩,Z2 (x:=z) ⟨t2,A0⟩,de ⟨t1,A0⟩,V6 (x:=x*y) (y:=z) ⟨A0,A0⟩,V6 ⟨A0,A0⟩]
   have GH:=P3 (x*y+z+c) (show B≠0 by omega)
   have UG:=W3 (x*y+z+c) (show 0 < B by omega)
   rw [et,N8 ⟨A0,t6⟩,z7 A0,B5 ⟨GH,UG⟩,J0,E4]
   refine ⟨A0,A0,_,rfl,A0,Xw,?_⟩
   rw [show ((i:Int)+(j:Int)).toNat=i+j by omega]
   exact hN
  ·rintro ⟨o,c⟩ hI
   simp only at hI ⊢
   obtain ⟨hl,hN⟩:=hI.done hx
   have cK:=hI.2.1
   rw [U0 (x:=(i:Int)) (y:=(b.length:Int)) A0 A0,B5 hI.2.2.1,J0,E4]
   refine ⟨A0,A0,_,rfl,A0,Xw,?_⟩
   rw [show ((i:Int)+(b.length:Int)).toNat=i+b.length by omega]
   exact hN
 ·rintro o ⟨h1,h2,h3,h4⟩
  rw [w9] at h3
  rw [Z4 h1 A0,obs]
  exact ⟨_,rfl,X3 h1,A4 _,by rw [N1]; exact h3⟩
theorem Vt {n:Int} (h0: -9223372036854775808≤n) (h1:n < 9223372036854775808):Ret (m_cp n) (fun r=>Bg n r.1 r.2):=by
 have e:B=4294967296:=rfl
 have key:∀ u:Int,0≤u→u < 18446744073709551616→(if n < 0 then - u else u)=n→Ret (m_co n u) (fun r=>Bg n r.1 r.2):=by
  intro u u0 u1 hu
  unfold m_co
  have hm:=P3 u (show B≠0 by omega)
  have qD:=W3 u (show 0 < B by omega)
  have rD:0≤u / B:=T5 u0 A0
  have QG:u / B < B:=U6 A0 (by rw [e]; omega)
  have hd:=V4 u B
  rw [N8 ⟨u0,u1⟩,z7 u0,B5 ⟨hm,qD⟩,B5 ⟨rD,QG⟩,J0]
  have hl:LW [u % B,u / B]:=by
   intro x hx
   simp only [U3,Fv,or_false] at hx
   rcases hx with rfl | rfl
   ·exact ⟨hm,qD⟩
   ·exact ⟨rD,QG⟩
  refine (W7 (decide (n < 0)) hl H0).mono fun r hr=>⟨_,rfl,hr.cast ?_⟩
  have hv:lv [u % B,u / B]=u:=by simp only [lv,Q3,L8]; omega
  unfold sv
  rw [hv]
  simpa using hu
 unfold m_cp
 rw [O0]
 refine ⟨fun CD=>?_,fun uH=>?_⟩
 ·have e3:wneg .u64 (wc .u64 n)= - n:=by rw [ji]; unfold wneg; rw [IntKind.wrap_u64]; omega
  rw [e3]
  exact key (- n) A0 A0 (by rw [M0 CD]; omega)
 ·rw [Z2 ⟨A0,A0⟩]
  exact key n A0 A0 (by rw [K0 uH])
theorem T7 {l:LI} (hl:LW l) {m:Nat} (h:l.length≤m):lv l < pw m:=by
 have h1:=G4 hl
 have h2:=y6 h
 omega
theorem Gg {s t:Bool} {a b:LI} (ha:LW a) (hb:LW b) (hn:a.length≤400) (hm:b.length≤400):Ret (m_eb s a t b) (fun r=>Bg (sv s a*sv t b) r.1 r.2):=by
 unfold m_eb
 rw [Z4 ha A0,obs,Z4 hb A0,obs,J0]
 have la:=U5 ha
 have lb:=U5 hb
 refine (Ty (X3 ha) (X3 hb) A0 A0).mono ?_
 rintro r ⟨r1,r2,r3⟩
 rw [N1,N1] at r3
 have hlen:r.length≤800:=by
  refine U7 r1 r2 ?_
  have h1:=T7 ha hn
  have h2:=T7 hb hm
  have h3:=Y1 ha
  have h4:=Y1 hb
  rw [r3,show (800:Nat)=400+400 from rfl,W6]
  have h5:lv a*lv b≤lv a*pw 400:=K3 A0 h3
  have h6:lv a*pw 400 < pw 400*pw 400:=Mb h1 (M1 _)
  omega
 refine Zw (W7 (!(s == t)) r1 A0) fun q hq=>⟨_,rfl,hq.cast ?_⟩
 unfold sv
 rw [r3]
 cases s<;>cases t<;>simp<;>grind
theorem al {s t:Bool} {a b:LI} (ha:LW a) (hb:LW b) (hn:a.length≤900) (hm:b.length≤900):Ret (m_ek s a t b) (fun r=>Bg (sv s a+sv t b) r.1 r.2):=by
 unfold m_ek
 rw [Z4 ha A0,obs,Z4 hb A0,obs]
 have la:=U5 ha
 have lb:=U5 hb
 have ta:=A4 a
 have tb:=A4 b
 have wa':=X3 ha
 have wb':=X3 hb
 have h1:=T7 ha hn
 have h2:=T7 hb hm
 have h3:=Y1 ha
 have h4:=Y1 hb
 have hp:2*pw 900≤pw 901:=by
  have:=M1 900
  show 2*pw 900≤B*pw 900
  unfold B; omega
 rw [O0]
 refine ⟨fun he=>?_,fun kx=>?_⟩
 ·obtain rfl:s=t:=by simpa using he
  refine Zw (Ij wa' wb' A0 A0) ?_
  rintro r ⟨r1,r2,r3⟩
  rw [N1,N1] at r3
  have hlen:r.length≤901:=U7 r1 r2 A0
  refine Zw (W7 s r1 A0) fun q hq=>⟨_,rfl,hq.cast ?_⟩
  unfold sv
  rw [r3]
  cases s<;>simp<;>omega
 ·have cx:t=!s:=by cases s<;>cases t<;>simp_all
  subst cx
  rw [fh wa' wb' ta tb A0 A0,obs,N1,N1,O0]
  refine ⟨fun tx=>?_,fun hlt=>?_⟩
  ·have DG:lv b≤lv a:=by
    refine H1 fun hc=>?_
    rw [C0] at tx; omega
   have FD:(trimL b).length≤(trimL a).length:=by
    refine H1 fun hc=>?_
    have:=D7 wa' wb' ta tb A0
    rw [N1,N1] at this; omega
   refine Zw (minus_ok wa' wb' A0 FD (by rw [N1,N1]; exact DG)) ?_
   rintro r ⟨r1,r2,r3⟩
   rw [N1,N1] at r3
   have hlen:r.length≤901:=U7 r1 r2 A0
   refine Zw (W7 s r1 A0) fun q hq=>⟨_,rfl,hq.cast ?_⟩
   unfold sv
   rw [r3]
   cases s<;>simp<;>omega
  ·have DG:lv a < lv b:=by
    refine H1 fun hc=>?_
    rw [K0 hc] at hlt
    revert hlt; split<;>omega
   have FD:(trimL a).length≤(trimL b).length:=by
    refine H1 fun hc=>?_
    have:=D7 wb' wa' tb ta A0
    rw [N1,N1] at this; omega
   refine Zw (minus_ok wb' wa' A0 FD (by rw [N1,N1]; omega)) ?_
   rintro r ⟨r1,r2,r3⟩
   rw [N1,N1] at r3
   have hlen:r.length≤901:=U7 r1 r2 A0
   refine Zw (W7 (!s) r1 A0) fun q hq=>⟨_,rfl,hq.cast ?_⟩
   unfold sv
   rw [r3]
   cases s<;>simp<;>omega
theorem kz {s t:Bool} {a b:LI} (ha:LW a) (hb:LW b) (hn:a.length≤900) (hm:b.length≤900):Ret (m_el s a t b) (fun r=>Bg (sv s a - sv t b) r.1 r.2):=by
 unfold m_el
 refine Zw (al (s:=s) (t:=!t) ha hb hn hm) fun r hr=>⟨_,rfl,hr.cast ?_⟩
 rw [Sf]; omega
theorem ue {s:Bool} {l:LI} (hl:LW l) (hn:l.length≤1000):m_cv s l=some (if sv s l < 0 then -1 else if 0 < sv s l then 1 else 0):=by
 refine Ret.eq ?_
 unfold m_cv
 rw [Z4 hl A0,obs]
 have h0:=Y1 hl
 have hz:=td (X3 hl) (A4 l)
 rw [N1] at hz
 unfold sv
 rw [O0]
 refine ⟨fun h=>⟨_,rfl,?_⟩,fun h=>?_⟩
 ·have:lv l=0:=hz.2 (S6 A0)
  rw [this]; cases s<;>simp
 ·have:lv l≠0:=fun h1=>h (by rw [hz.1 h1]; rfl)
  rw [O0]
  refine ⟨fun hs=>⟨_,rfl,?_⟩,fun hs=>⟨_,rfl,?_⟩⟩
  ·rw [M0 hs,C0]
  ·rw [K0 hs,B0,C0]
theorem T8 {l:LI} (s:Bool) (hl:LW l) (hn:l.length≤1000000):Ret (m_h s l) (fun r=>Bg (sv s l) r.1 r.2):=by
 rw [Be s hl hn]
 have h:=Bg.norm (s:=s) hl
 by_cases h0:trimL l=[]
 ·rw [M0 h0] at h
  refine ⟨_,rfl,?_⟩
  show Bg _ (s && decide ((0:Int) < ((trimL l).length:Int))) (trimL l)
  have:(s && decide ((0:Int) < ((trimL l).length:Int)))=false:=by rw [h0]; simp
  rw [this]; exact h
 ·rw [K0 h0] at h
  refine ⟨_,rfl,?_⟩
  show Bg _ (s && decide ((0:Int) < ((trimL l).length:Int))) (trimL l)
  have hp:0 < (trimL l).length:=by
   cases hL:trimL l with
   | nil=>exact absurd hL h0
   | cons a b=>simp
  have:(s && decide ((0:Int) < ((trimL l).length:Int)))=s:=by
   rw [decide_eq_true A0,Bool.and_true]
  rw [this]; exact h
theorem cC {a b:LI} (ha:LW a) (hb:LW b) (hn:a.length≤400) (hm:b.length≤400):Ret (m_h0 a b) (fun r=>LW r∧r.length=a.length+b.length∧lv r=lv a*lv b):=by
 unfold m_h0
 rw [U0 A0 A0,J0,J5]
 refine ⟨A0,A0,?_⟩
 rw [show ((a.length:Int)+(b.length:Int)).toNat=a.length+b.length by omega]
 refine Zw (Q0 (Post:=fun o=>MO a b a.length o) a.length (fun i (s:LI×Int)=>s.2=(i:Int)∧MO a b i s.1) ⟨rfl,MO.start a b⟩ ?_ A0) ?_
 ·rintro i ⟨o,_⟩ hi ⟨rfl,hO⟩
  simp only at hO
  unfold m_hz
  simp only
  rw [O0]
  refine ⟨fun hlt=>?_,fun tx=>⟨_,rfl,by have e:i=a.length:=A0; subst e; exact hO⟩⟩
  obtain ⟨x,hx⟩:∃ x,a[i]?=some x:=⟨a[i]'(A0),B3 A0⟩
  have Nx:=LW.get ha hx
  refine Zw (Q0 (Post:=fun s:LI×Int=>MI a b i b.length x s.1 s.2) b.length (fun j (s:LI×Int×Int)=>s.2.2=(j:Int)∧MI a b i j x s.1 s.2.1) ⟨rfl,hO.row x⟩ ?_ A0) ?_
  ·rintro j ⟨o,c,_⟩ hj ⟨rfl,hI⟩
   simp only at hI
   unfold m_hy
   simp only
   rw [O0]
   refine ⟨fun iK=>?_,fun tx=>⟨_,rfl,by have e:j=b.length:=A0; subst e; exact hI⟩⟩
   have cK:=hI.2.1
   rw [J0,L3]
   refine ⟨A0,hlt,fun x' UA=>?_⟩
   rw [Z0,hx] at UA
   obtain rfl:=N2 UA
   rw [J0,L3]
   refine ⟨A0,iK,fun y hy=>?_⟩
   rw [Z0] at hy
   rw [U0 (x:=(i:Int)) (y:=(j:Int)) A0 A0,J0,L3]
   refine ⟨A0,A0,fun z hz=>?_⟩
   rw [show ((i:Int)+(j:Int)).toNat=i+j by omega] at hz
   obtain ⟨⟨t1,t2,t3,t4,t5,t6⟩,hN⟩:=hI.step Nx hb hy hz
   have hc:=hI.2.2.1
   have e:B=4294967296:=rfl
   have et:wa .u64 (wa .u64 c (wm .u64 (wc .u64 x) (wc .u64 y))) (wc .u64 z)=x*y+z+c:=by
    rw [Z2 (x:=x) ⟨Nx.1,A0⟩,Z2 (x:=y) ⟨t3,A0⟩,Z2 (x:=z) ⟨t2,A0⟩,de ⟨t1,A0⟩,V6 (x:=c) (y:=x*y) ⟨A0,A0⟩,V6 ⟨A0,A0⟩]
    omega
   rw [et,z7 A0,M8,J0,E4]
   refine ⟨A0,A0,_,rfl,A0,Xw,?_⟩
   rw [show ((i:Int)+(j:Int)).toNat=i+j by omega]
   exact hN
  ·rintro ⟨o,c⟩ hI
   simp only at hI ⊢
   obtain ⟨hl,hN⟩:=hI.done hx
   have cK:=hI.2.1
   rw [U0 (x:=(i:Int)) (y:=(b.length:Int)) A0 A0,B5 hI.2.2.1,J0,E4]
   refine ⟨A0,A0,_,rfl,A0,Xw,?_⟩
   rw [show ((i:Int)+(b.length:Int)).toNat=i+b.length by omega]
   exact hN
 ·rintro o ⟨h1,h2,h3,h4⟩
  rw [w9] at h3
  exact ⟨_,rfl,h1,h2,h3⟩
theorem ra {n:Int} (h0: -9223372036854775808≤n) (h1:n < 9223372036854775808):Ret (m_j n) (fun r=>Bg n r.1 r.2):=by
 have e:B=4294967296:=rfl
 have key:∀ u:Int,0≤u→u < 18446744073709551616→(if n < 0 then - u else u)=n→Ret (m_i n u) (fun r=>Bg n r.1 r.2):=by
  intro u u0 u1 hu
  unfold m_i
  have hm:=P3 u (show B≠0 by omega)
  have qD:=W3 u (show 0 < B by omega)
  have rD:0≤u / B:=T5 u0 A0
  have QG:u / B < B:=U6 A0 (by rw [e]; omega)
  have hd:=V4 u B
  rw [z7 u0,M8 u,B5 ⟨rD,QG⟩,J0]
  have hl:LW [u % B,u / B]:=by
   intro x hx
   simp only [U3,Fv,or_false] at hx
   rcases hx with rfl | rfl
   ·exact ⟨hm,qD⟩
   ·exact ⟨rD,QG⟩
  refine (T8 (decide (n < 0)) hl H0).mono fun r hr=>⟨_,rfl,hr.cast ?_⟩
  have hv:lv [u % B,u / B]=u:=by simp only [lv,Q3,L8]; omega
  unfold sv
  rw [hv]
  simpa using hu
 unfold m_j
 rw [O0]
 refine ⟨fun CD=>?_,fun uH=>?_⟩
 ·have e3:wa .u64 (wc .u64 (wneg .i64 (wa .i64 n 1))) 1= - n:=by
   have e4:wneg .i64 (wa .i64 n 1)= - (n+1):=by
    rw [U0 A0 A0]
    exact IntWalk.i64_in _ ⟨A0,A0⟩
   rw [e4,Z2 ⟨A0,A0⟩,V6 ⟨A0,A0⟩]; omega
  rw [e3]
  exact key (- n) A0 A0 (by rw [M0 CD]; omega)
 ·rw [Z2 ⟨A0,A0⟩]
  exact key n A0 A0 (by rw [K0 uH])
theorem P7 {s t:Bool} {a b:LI} (ha:LW a) (hb:LW b) (hn:a.length≤400) (hm:b.length≤400):Ret (m_h1 s a t b) (fun r=>Bg (sv s a*sv t b) r.1 r.2):=by
 unfold m_h1
 rw [O8 ha A0,obs,O8 hb A0,obs,J0]
 have la:=U5 ha
 have lb:=U5 hb
 refine (cC (X3 ha) (X3 hb) A0 A0).mono ?_
 rintro r ⟨r1,r2,r3⟩
 rw [N1,N1] at r3
 refine Zw (T8 (!(s == t)) r1 A0) fun q hq=>⟨_,rfl,hq.cast ?_⟩
 unfold sv
 rw [r3]
 cases s<;>cases t<;>simp<;>grind
theorem qh {s t:Bool} {a b:LI} (ha:LW a) (hb:LW b) (hn:a.length≤900) (hm:b.length≤900):Ret (m_6 s a t b) (fun r=>Bg (sv s a+sv t b) r.1 r.2):=by
 unfold m_6
 rw [O8 ha A0,obs,O8 hb A0,obs]
 have la:=U5 ha
 have lb:=U5 hb
 have ta:=A4 a
 have tb:=A4 b
 have wa':=X3 ha
 have wb':=X3 hb
 have h3:=Y1 ha
 have h4:=Y1 hb
 rw [O0]
 refine ⟨fun he=>?_,fun kx=>?_⟩
 ·obtain rfl:s=t:=by simpa using he
  refine Zw (Wu wa' wb' A0 A0) ?_
  rintro r ⟨r1,r2,r3⟩
  rw [N1,N1] at r3
  refine Zw (T8 s r1 A0) fun q hq=>⟨_,rfl,hq.cast ?_⟩
  unfold sv
  rw [r3]
  cases s<;>simp<;>omega
 ·have cx:t=!s:=by cases s<;>cases t<;>simp_all
  subst cx
  rw [Sk wa' wb' ta tb A0 A0,obs,N1,N1,O0]
  refine ⟨fun tx=>?_,fun hlt=>?_⟩
  ·have DG:lv b≤lv a:=by
    refine H1 fun hc=>?_
    rw [C0] at tx; omega
   have FD:(trimL b).length≤(trimL a).length:=by
    refine H1 fun hc=>?_
    have:=D7 wa' wb' ta tb A0
    rw [N1,N1] at this; omega
   refine Zw (Xf wa' wb' A0 FD (by rw [N1,N1]; exact DG)) ?_
   rintro r ⟨r1,r2,r3⟩
   rw [N1,N1] at r3
   refine Zw (T8 s r1 A0) fun q hq=>⟨_,rfl,hq.cast ?_⟩
   unfold sv
   rw [r3]
   cases s<;>simp<;>omega
  ·have DG:lv a < lv b:=by
    refine H1 fun hc=>?_
    rw [K0 hc] at hlt
    revert hlt; split<;>omega
   have FD:(trimL a).length≤(trimL b).length:=by
    refine H1 fun hc=>?_
    have:=D7 wb' wa' tb ta A0
    rw [N1,N1] at this; omega
   refine Zw (Xf wb' wa' A0 FD (by rw [N1,N1]; omega)) ?_
   rintro r ⟨r1,r2,r3⟩
   rw [N1,N1] at r3
   refine Zw (T8 (!s) r1 A0) fun q hq=>⟨_,rfl,hq.cast ?_⟩
   unfold sv
   rw [r3]
   cases s<;>simp<;>omega
theorem Nj {s:Bool} {a:LI} (ha:LW a) (hn:a.length≤1000000):Ret (m_w s a) (fun r=>Bg (- sv s a) r.1 r.2∧r.2.length≤a.length):=by
 unfold m_w
 rw [J0]
 have h:=Be (!s) ha hn
 obtain ⟨q,hq,hB⟩:=T8 (!s) ha hn
 refine ⟨q,hq,_,rfl,hB.cast (Sf s a),?_⟩
 rw [h] at hq
 obtain rfl:=N2 hq
 exact U5 ha
theorem Wq {s t:Bool} {a b:LI} (ha:LW a) (hb:LW b) (hn:a.length≤900) (hm:b.length≤900):Ret (m_7 s a t b) (fun r=>Bg (sv s a - sv t b) r.1 r.2):=by
 unfold m_7
 refine Zw (Nj (s:=t) hb A0) ?_
 rintro q ⟨hq,hl⟩
 refine Zw (qh (s:=s) (t:=q.1) ha hq.1 hn A0) fun r hr=>⟨_,rfl,hr.cast ?_⟩
 rw [hq.sv]; omega
theorem bc {v:Int} {s:Bool} {l:LI} (h:Bg v s l) (hn:l.length≤1000):m_bj s l=some (if v < 0 then -1 else if 0 < v then 1 else 0):=by
 rw [Ez s h.1 h.2.1 hn]
 have h0:=Y1 h.1
 have hz:=td h.1 h.2.1
 have ha:=h.abs
 have hg:=h.neg
 by_cases hv:v < 0
 ·rw [K0 (fun e=>by rw [hz.2 e] at ha; split at ha<;>omega),M0 (hg.2 hv),M0 hv]
 ·rw [K0 hv] at ha ⊢
  by_cases hp:0 < v
  ·rw [M0 hp,K0 (fun e=>by rw [hz.2 e] at ha; omega),K0 (fun e=>hv (hg.1 e))]
  ·rw [K0 hp,M0 (hz.1 A0)]
theorem zC {l:LI} (hl:l.length≤1000):m_kd l l=some true:=by
 refine Ret.eq ?_
 unfold m_kd
 rw [M0 rfl]
 refine Zw (Q0 (Post:=fun o=>o=.inl ()) l.length (fun k (i:Int)=>i=(k:Int)) rfl ?_ A0) ?_
 ·rintro k _ hk rfl
  unfold m_kc
  rw [O0]
  refine ⟨fun hlt=>?_,fun tx=>⟨_,rfl,rfl⟩⟩
  rw [J0,L3]
  refine ⟨A0,hlt,fun x hx=>?_⟩
  rw [J0,L3]
  refine ⟨A0,hlt,fun y hy=>?_⟩
  obtain rfl:=N2 (hx.symm.trans hy)
  rw [M0 rfl]
  refine ⟨_,rfl,A0,?_⟩
  show wa .i64 (k:Int) 1=_
  rw [U0 A0 A0]; rfl
 ·rintro _ rfl
  exact ⟨_,rfl,rfl⟩
theorem kh {x:Int} (h:0≤x∧x < 4294967296):(BitVec.ofInt 32 x).toNat=x.toNat:=by
 rw [BitVec.toNat_ofInt]
 have:x % ((2 ^ 32:Nat):Int)=x:=X4 h.1 (by exact h.2)
 rw [this]
theorem xy {s:Nat} {c k:Int} (hs:s < 32) (hc:0≤c∧c < 2 ^ s) (hk:0≤k) (hb:c+2 ^ s*k < 4294967296):wor .u32 c (2 ^ s*k)=c+2 ^ s*k:=by
 obtain ⟨C,rfl⟩:=W4 hc.1
 obtain ⟨K,rfl⟩:=W4 hk
 have hC:C < 2 ^ s:=by exact_mod_cast hc.2
 have e2:((2:Int) ^ s*(K:Int))=((2 ^ s*K:Nat):Int):=by push_cast; rfl
 rw [e2] at hb ⊢
 unfold wor
 have e3:(BitVec.ofInt 32 (C:Int) ||| BitVec.ofInt 32 ((2 ^ s*K:Nat):Int)).toNat=2 ^ s*K+C:=by
  rw [BitVec.toNat_or,kh A0,kh A0,Z0,Z0,Nat.or_comm,← Re hC]
 show IntKind.u32.wrap ((BitVec.ofInt 32 (C:Int) ||| BitVec.ofInt 32 ((2 ^ s*K:Nat):Int)).toNat:Int)=_
 rw [e3,IntKind.wrap_u32]
 omega
theorem Kz {s:Nat} (hs:s < 32) {x:Int} (hx:0≤x∧x < B):∃ k,0≤k∧x*2 ^ s % B=2 ^ s*k∧2 ^ s*k+2 ^ s≤B∧0≤x*2 ^ s / B∧x*2 ^ s / B < 2 ^ s:=by
 obtain ⟨h1,h2,h3,h4⟩:=A8 hs
 have e:x*2 ^ s % B=2 ^ s*(x % 2 ^ (32 - s)):=by
  rw [← h3,P2 x,Int.mul_emod_mul_of_pos _ _ h1]
 have m0:=P3 x (show (2:Int) ^ (32 - s)≠0 by omega)
 have m1:=W3 x h4
 refine ⟨x % 2 ^ (32 - s),m0,e,?_,T5 (O3 hx.1 A0) (by unfold B; omega),?_⟩
 ·have:2 ^ s*(x % 2 ^ (32 - s)+1)≤2 ^ s*2 ^ (32 - s):=K3 A0 A0
  rw [T6,h3,J6] at this
  exact this
 ·refine U6 (by unfold B; omega) ?_
  rw [P2]
  exact OF hx.2 h1
theorem Bq {a:LI} (ha:LW a) (hn:a.length≤1000) (kx:a≠[]) {q s:Nat} (EH:q≤1000) (hs:s < 32):Ret (m_c1 a ((32*q+s:Nat):Int)) (fun u=>LW u∧Tm u∧lv u=lv a*(pw q*2 ^ s)):=by
 have e:B=4294967296:=rfl
 obtain ⟨hq,hr⟩:=oh (q:=q) A0 hs
 obtain ⟨p1,p2,p3,p4⟩:=A8 hs
 have KL:0 < a.length:=Jb.2 kx
 unfold m_c1
 rw [B0,hq,U0 (x:=(q:Int)) (y:=(a.length:Int)) A0 A0,U0 A0 A0,J0,J5]
 refine ⟨A0,A0,?_⟩
 rw [show ((q:Int)+(a.length:Int)+1).toNat=q+a.length+1 by omega]
 refine Zw (Q0 (Post:=fun o:LI=>LW o∧o.length=q+a.length+1∧lv o=pw q*(lv a*2 ^ s)) a.length (fun i (t:LI×Int)=>t.2=(i:Int)∧LW t.1∧t.1.length=q+a.length+1∧lv t.1=pw q*(lv (a.take i)*2 ^ s)∧t.1.drop (q+i+1)=List.replicate (a.length - i) 0∧(∀ x,t.1[q+i]?=some x→x < 2 ^ s)) ⟨rfl,ob _,U4 ..,by rw [Ce,Dh]; simp [lv],by rw [Sd]; congr 1; omega,fun x hx=>by rw [Kb] at hx; split at hx<;>simp at hx; omega⟩ ?_ A0) ?_
 ·rintro i ⟨o,_⟩ hi ⟨rfl,h1,h2,h3,h4,h5⟩
  simp only at h1 h2 h3 h4 h5
  unfold m_c0
  simp only
  rw [O0]
  refine ⟨fun hlt=>?_,fun tx=>⟨_,rfl,h1,h2,by have ei:i=a.length:=A0; subst ei; rw [w9] at h3; exact h3⟩⟩
  have vI:i < a.length:=A0
  rw [J0,L3]
  refine ⟨A0,hlt,fun x hx=>?_⟩
  rw [Z0] at hx
  have Nx:=LW.get ha hx
  have kJ:0≤x*2 ^ s:=O3 Nx.1 A0
  have gR:x*2 ^ s≤(B - 1)*2 ^ s:=D3 A0 A0
  have fR:(B - 1)*2 ^ s≤(B - 1)*2147483648:=K3 p2 A0
  have FI:wshl .u64 (wc .u64 x) (wc .u64 (s:Int))=some (x*2 ^ s):=by
   rw [Z2 ⟨Nx.1,A0⟩,Z2 (x:=(s:Int)) ⟨A0,A0⟩]
   unfold wshl
   rw [B0,Z0]
   show some (IntKind.u64.wrap (x*2 ^ min s 64))=_
   rw [G6 A0,IntWalk.u64_in _ ⟨kJ,A0⟩]
  obtain ⟨k,k0,k1,k2,k3,k4⟩:=Kz hs Nx
  have hd:=V4 (x*2 ^ s) B
  have GH:=P3 (x*2 ^ s) (show B≠0 by omega)
  have eqi:wa .i64 (q:Int) (i:Int)=((q+i:Nat):Int):=by rw [U0 A0 A0]; omega
  rw [hq,hr,FI,obs,eqi,J0,L3]
  refine ⟨A0,A0,fun y hy=>?_⟩
  rw [Z0] at hy
  have Zz:=LW.get h1 hy
  have eR:=h5 y hy
  rw [N8 ⟨kJ,A0⟩,z7 kJ,B5 ⟨k3,A0⟩,B5 (x:=x*2 ^ s % B) ⟨A0,A0⟩]
  have iH:wor .u32 y (x*2 ^ s % B)=y+x*2 ^ s % B:=by rw [k1]; exact xy hs ⟨Zz.1,eR⟩ k0 A0
  rw [iH,J0,E4,Z0]
  refine ⟨A0,A0,?_⟩
  have ew:wa .i64 ((q+i:Nat):Int) 1=((q+i+1:Nat):Int):=by rw [U0 A0 A0]; omega
  rw [ew,J0,E4,Z0]
  have tI:(o.set (q+i) (y+x*2 ^ s % B)).length=q+a.length+1:=by rw [N3,h2]
  have hz:(o.set (q+i) (y+x*2 ^ s % B))[q+i+1]?=some 0:=by
   rw [A6 A0]
   have e1:(o.drop (q+i+1))[0]?=o[q+i+1]?:=by rw [V9]
   rw [← e1,h4,Kb,C0]
  refine ⟨A0,A0,_,rfl,vI,?_,?_,?_,?_,?_,?_⟩
  ·show wa .i64 (i:Int) 1=_
   rw [U0 A0 A0]; rfl
  ·exact U8 (U8 h1 ⟨A0,A0⟩) ⟨k3,A0⟩
  ·show ((o.set (q+i) (y+x*2 ^ s % B)).set (q+i+1) _).length=_
   rw [N3,tI]
  ·show lv ((o.set (q+i) (y+x*2 ^ s % B)).set (q+i+1) (x*2 ^ s / B))=_
   have pq:pw (q+i)=pw q*pw i:=W6 q i
   have pq1:pw (q+i+1)=pw q*pw i*B:=by show B*pw (q+i)=_; rw [pq,P2]
   rw [Kg hz,Kg hy,h3,O4 hx,pq,pq1]
   have e3:B*(x*2 ^ s / B)+x*2 ^ s % B=x*2 ^ s:=hd
   generalize x*2 ^ s / B=Q at*
   generalize x*2 ^ s % B=r at*
   have e4:pw q*((lv (a.take i)+pw i*x)*2 ^ s)=pw q*(lv (a.take i)*2 ^ s)+pw q*pw i*(x*2 ^ s):=by grind
   rw [e4,← e3]
   grind
  ·show ((o.set (q+i) (y+x*2 ^ s % B)).set (q+i+1) (x*2 ^ s / B)).drop (q+(i+1)+1)=_
   rw [Lb A0,Lb A0,show q+(i+1)+1=q+i+1+1 by omega,← Wa,h4,Sd]
   congr 1
  ·intro z rL
   have rL:((o.set (q+i) (y+x*2 ^ s % B)).set (q+i+1) (x*2 ^ s / B))[q+i+1]?=some z:=rL
   rw [D5 A0] at rL
   obtain rfl:=N2 rL
   exact k4
 ·rintro o ⟨h1,h2,h3⟩
  rw [Z4 h1 A0,obs]
  exact ⟨_,rfl,X3 h1,A4 _,by rw [N1,h3]; grind⟩
theorem Aq {a:LI} (ha:LW a) (hn:a.length≤1000) (kx:a≠[]) {s:Nat} (hs:s < 32):Ret (m_c1 a (s:Int)) (fun u=>LW u∧Tm u∧lv u=lv a*2 ^ s):=by
 have:=Bq ha hn kx (q:=0) A0 hs
 rw [show 32*0+s=s by omega] at this
 exact this.mono fun u hu=>⟨hu.1,hu.2.1,by rw [hu.2.2]; show _*(1*_)=_; rw [M4]⟩
theorem cr {s:Nat} (hs:s < 32) {x y E:Int} (hx:0≤x∧x < B) (hy:0≤y):(x+B*(y+B*E)) / 2 ^ s=((x+B*y) / 2 ^ s) % B+B*((y+B*E) / 2 ^ s):=by
 obtain ⟨p1,p2,p3,p4⟩:=A8 hs
 have e:B=4294967296:=rfl
 generalize hP:(2:Int) ^ s=P at*
 generalize hQ:(2:Int) ^ (32 - s)=Q at*
 have EK:=V4 y P
 have r0:=P3 y (show P≠0 by omega)
 have r1:=W3 y p1
 generalize hk:y / P=k at*
 generalize hr:y % P=r at*
 have w0:0≤B*r:=O3 A0 r0
 have hA:(y+B*E) / P=k+Q*E:=by
  have e1:y+B*E=r+P*(k+Q*E):=by rw [← EK,← p3]; grind
  rw [e1,om _ _ A0,Ya r0 r1]; omega
 have US:(x+B*y) / P=(x+B*r) / P+B*k:=by
  have e1:x+B*y=(x+B*r)+P*(B*k):=by rw [← EK]; grind
  rw [e1,om _ _ A0]
 have hC:(x+B*(y+B*E)) / P=(x+B*r) / P+B*(k+Q*E):=by
  have e1:x+B*(y+B*E)=(x+B*r)+P*(B*(k+Q*E)):=by rw [← EK]; have:B*E=P*(Q*E):=(by rw [← p3]; grind); rw [this]; grind
  rw [e1,om _ _ A0]
 have q0:0≤(x+B*r) / P:=T5 A0 A0
 have q1:(x+B*r) / P < B:=by
  refine U6 A0 ?_
  have:B*(r+1)≤B*P:=K3 A0 A0
  rw [T6,J6] at this
  omega
 rw [hA,US,hC,mm,X4 q0 q1]
theorem W5 {l:LI} {i:Nat} {x:Int} (hx:l[i]?=some x):lv (l.drop i)=x+B*lv (l.drop (i+1)):=by
 obtain ⟨h1,h2⟩:=Z1.1 hx
 rw [Ua h1,h2]; rfl
theorem LW.drop {l:LI} (h:LW l) (k:Nat):LW (l.drop k):=fun x hx=>h x (List.mem_of_mem_drop hx)
theorem M7 (l:LI) {k:Nat} (h:k≤l.length):lv l=lv (l.take k)+pw k*lv (l.drop k):=by
 have h1:lv l=lv (l.take k++l.drop k):=by rw [Ra]
 rw [h1,pb,B4,G6 h]
theorem fD {l:LI} (hl:l.length≤100000):∃ b,m_c5 l=some b∧((∀ x,x∈l→x=0)→b=false):=by
 have h1:Ret (loop (m_c3 l) 0) (fun o=>(∀ x,x∈l→x=0)→o=.inl ()):=by
  refine Q0 l.length (fun k (i:Int)=>i=(k:Int)) rfl ?_ A0
  rintro k _ hk rfl
  unfold m_c3
  rw [O0]
  refine ⟨fun hlt=>?_,fun _=>⟨_,rfl,fun _=>rfl⟩⟩
  rw [J0,L3]
  refine ⟨A0,A0,fun x hx=>?_⟩
  have e1:m_c2 x=some (!(decide (x=0))):=rfl
  rw [e1,obs,O0]
  refine ⟨fun h2=>⟨_,rfl,fun h3=>?_⟩,fun _=>⟨_,rfl,A0,by rw [U0 A0 A0]; rfl⟩⟩
  have:=h3 x (S8 hx)
  simp [this] at h2
 obtain ⟨o,h2,h3⟩:=h1
 unfold m_c5 m_c4
 rw [h2,obs]
 cases o with
 | inl u=>exact ⟨_,rfl,fun _=>rfl⟩
 | inr i=>exact ⟨_,rfl,fun h=>by cases h3 h⟩
theorem vC {l:LI} (hl:LW l) (h:lv l=0):∀ x,x∈l→x=0:=by
 induction l with
 | nil=>intro x hx; cases hx
 | cons y l ih=>
  have h1:y+B*lv l=0:=h
  have hy:=hl y (Hc ..)
  have gK:LW l:=fun x hx=>hl x (Ic _ hx)
  have h2:=Y1 gK
  have h3:lv l=0:=by unfold B at *; omega
  intro x hx
  rcases U3.1 hx with rfl | hx
  ·rw [h3] at h1; omega
  ·exact ih gK h3 x hx
theorem bh {a:LI} (ha:LW a) {q s:Nat} (hs:s < 32) (hq:q < a.length) (h:lv a % (pw q*2 ^ s)=0):(∀ x,x∈a.take q→x=0)∧∀ x,a[q]?=some x→x % 2 ^ s=0:=by
 obtain ⟨p1,p2,p3,p4⟩:=A8 hs
 obtain ⟨k,hk⟩:=km h
 have h1:=M7 a (k:=q) A0
 have hb:=G4 (LW.take ha q)
 rw [B4,G6 A0] at hb
 have oJ:=Y1 (LW.take ha q)
 have e1:lv (a.take q)=pw q*(2 ^ s*k - lv (a.drop q)):=by
  have:pw q*2 ^ s*k=pw q*(2 ^ s*k):=y7 ..
  rw [A9,← this]; omega
 have e2:lv (a.take q)=0:=by
  have p:=M1 q
  rcases Int.lt_trichotomy (2 ^ s*k - lv (a.drop q)) 0 with hc | hc | hc
  ·have:=NF p hc; omega
  ·rw [e1,hc,Q3]
  ·have:pw q*1≤pw q*(2 ^ s*k - lv (a.drop q)):=K3 A0 A0
   omega
 refine ⟨vC (LW.take ha q) e2,fun x hx=>?_⟩
 rw [e2] at e1
 have e3:2 ^ s*k - lv (a.drop q)=0:=by
  rcases K4.1 e1.symm with h | h
  ·have:=M1 q; omega
  ·exact h
 rw [W5 hx] at e3
 have e4:x=2 ^ s*(k - 2 ^ (32 - s)*lv (a.drop (q+1))):=by
  have:B*lv (a.drop (q+1))=2 ^ s*(2 ^ (32 - s)*lv (a.drop (q+1))):=by rw [← p3]; grind
  rw [A9,← this]; omega
 rw [e4]
 exact Int.mul_emod_right _ _
theorem Jn {x:Int} {s:Nat} (hs:s < 32) (hx:0≤x∧x < B) (h:x % 2 ^ s=0):wand .u32 x (ws .u32 (2 ^ s) 1)=0:=by
 obtain ⟨p1,p2,p3,p4⟩:=A8 hs
 have e1:ws .u32 (2 ^ s) 1=((2 ^ s - 1:Nat):Int):=by
  unfold ws
  rw [IntKind.wrap_u32]
  have e2:((2 ^ s:Nat):Int)=(2:Int) ^ s:=by push_cast; rfl
  have:0 < 2 ^ s:=Nat.two_pow_pos s
  omega
 have hX:((x.toNat:Nat):Int)=x:=Yl hx.1
 have h0:x.toNat % 2 ^ s=0:=by
  have:((x.toNat % 2 ^ s:Nat):Int)=0:=by push_cast; rw [hX]; exact h
  omega
 have hlt:2 ^ s - 1 < 4294967296:=by
  have:(2:Nat) ^ s≤2 ^ 31:=Ah A0 A0
  omega
 rw [e1]
 unfold wand
 show IntKind.u32.wrap ((BitVec.ofInt 32 x &&& BitVec.ofInt 32 ((2 ^ s - 1:Nat):Int)).toNat:Int)=_
 rw [BitVec.toNat_and,kh hx,kh ⟨A0,A0⟩,Z0,Pd,h0]
 rfl
theorem rr {s:Nat} (hs:s < 32):wshl .u32 1 (s:Int)=some (2 ^ s):=by
 obtain ⟨p1,p2,p3,p4⟩:=A8 hs
 unfold wshl
 rw [B0,Z0]
 show some (IntKind.u32.wrap (1*2 ^ min s 32))=_
 rw [G6 A0,M4,IntKind.wrap_u32]
 congr 1
 omega
theorem Fu {a:LI} (ha:LW a) {q:Nat} (hq:q≤a.length) (s:Nat):lv a / (pw q*2 ^ s)=lv (a.drop q) / 2 ^ s:=by
 have h1:=M7 a hq
 have hb:=G4 (LW.take ha q)
 rw [B4,G6 hq] at hb
 have oJ:=Y1 (LW.take ha q)
 rw [← Int.ediv_ediv_of_nonneg (y8 (M1 q)),h1,om _ _ (by have:=M1 q; omega),Ya oJ hb,Mh]
theorem Bu {a:LI} (ha:LW a) (hn:a.length≤1000) {q s:Nat} (EH:q≤1000000) (hs:s < 32):Ret (m_c8 a ((32*q+s:Nat):Int)) (fun r=>LW r.1∧Tm r.1∧lv r.1=lv a / (pw q*2 ^ s)∧(Tm a→lv a % (pw q*2 ^ s)=0→r.2=false)):=by
 have e:B=4294967296:=rfl
 obtain ⟨hq,hr⟩:=oh EH hs
 obtain ⟨p1,p2,p3,p4⟩:=A8 hs
 have ppos:=M1 q
 unfold m_c8
 rw [hq,O0]
 refine ⟨fun h0=>?_,fun h0=>?_⟩
 ·have hb:=G4 ha
  have hle:pw a.length≤pw q:=y6 A0
  have QJ:pw q*1≤pw q*2 ^ s:=K3 A0 A0
  have hz:lv a / (pw q*2 ^ s)=0:=Ya (Y1 ha) A0
  refine ⟨_,rfl,by intro x hx; simp at hx,P8,hz.symm,fun ht hm=>?_⟩
  rw [X4 (Y1 ha) A0] at hm
  have:=fb ha (b:=[]) (by intro x hx; cases hx) ht P8 hm
  subst this
  rfl
 have rN:q < a.length:=A0
 have XJ:sli a 0 (q:Int)=some (a.take q):=by unfold sli subL; rw [M0 ⟨A0,A0,A0⟩]; simp
 obtain ⟨b1,SG,AH⟩:=fD (l:=a.take q) (by rw [B4]; omega)
 obtain ⟨x0,mI⟩:∃ x0,a[q]?=some x0:=⟨a[q]'rN,B3 rN⟩
 have WO:=LW.get ha mI
 have GG:getI a (q:Int)=some x0:=Ret.eq (by rw [L3]; exact ⟨A0,A0,fun x hx=>by rw [Z0] at hx; exact N2 (hx.symm.trans mI)⟩)
 have gN:∃ b2,(if b1=true then some true else (getI a (q:Int)).bind fun x12=>(wshl .u32 1 (wc .u64 (wrc ((32*q+s:Nat):Int) 32))).bind fun x13=>some (!(decide ((wand .u32 x12 (ws .u32 x13 1))=0))))=some b2∧(lv a % (pw q*2 ^ s)=0→b2=false):=by
  split
  ·rename_i h1
   refine ⟨_,rfl,fun hm=>?_⟩
   rw [AH (bh ha hs rN hm).1] at h1; cases h1
  ·rw [GG,obs,hr,Z2 (x:=(s:Int)) ⟨A0,A0⟩,rr hs,obs]
   refine ⟨_,rfl,fun hm=>?_⟩
   rw [Jn hs WO ((bh ha hs rN hm).2 x0 mI)]; rfl
 obtain ⟨b2,OO,gS⟩:=gN
 rw [XJ,obs,SG,obs,OO,obs,J0,C3 A0 A0,J5]
 refine ⟨A0,A0,?_⟩
 rw [show ((a.length:Int) - (q:Int)).toNat=a.length - q by omega,J0]
 have wI:=Fu ha (q:=q) A0 s
 refine (Q0 (Post:=fun o:LI=>LW o∧o.length=a.length - q∧lv o=lv a / (pw q*2 ^ s)) (a.length - q) (fun i (t:LI×Int)=>t.2=(i:Int)∧LW t.1∧t.1.length=a.length - q∧lv (t.1.take i)+pw i*(lv (a.drop (q+i)) / 2 ^ s)=lv a / (pw q*2 ^ s)) ⟨rfl,ob _,U4 ..,by rw [wI]; simp [lv,pw]⟩ ?_ A0).mono ?_
 ·rintro i ⟨o,_⟩ hi ⟨rfl,h1,h2,h3⟩
  simp only at h1 h2 h3
  unfold m_c7
  simp only
  rw [U4,O0]
  refine ⟨fun hlt=>?_,fun tx=>⟨_,rfl,h1,h2,?_⟩⟩
  ·have vI:q+i < a.length:=A0
   have eqi:wa .i64 (q:Int) (i:Int)=((q+i:Nat):Int):=by rw [U0 A0 A0]; omega
   have eqj:wa .i64 ((q+i:Nat):Int) 1=((q+i+1:Nat):Int):=by rw [U0 A0 A0]; omega
   rw [hq,eqi,eqj,J0,L3]
   refine ⟨A0,A0,fun x hx=>?_⟩
   rw [Z0] at hx
   have Nx:=LW.get ha hx
   have key:∀ y E:Int,0≤y→y < B→0≤E→lv (a.drop (q+i+1))=y+B*E→Ret (m_c6 ((32*q+s:Nat):Int) o (i:Int) (x+B*y)) (VQ (fun t':LI×Int=>i < a.length - q∧t'.2=((i+1:Nat):Int)∧LW t'.1∧t'.1.length=a.length - q∧lv (t'.1.take (i+1))+pw (i+1)*(lv (a.drop (q+(i+1))) / 2 ^ s)=lv a / (pw q*2 ^ s)) (fun o:LI=>LW o∧o.length=a.length - q∧lv o=lv a / (pw q*2 ^ s))):=by
    intro y E y0 y1 E0 hE
    unfold m_c6
    have t0:0≤x+B*y:=by have:=O3 (show 0≤B by omega) y0; omega
    have t1:x+B*y < 18446744073709551616:=by rw [e]; omega
    have FI:wshr .u64 (x+B*y) (wc .u64 (wrc ((32*q+s:Nat):Int) 32))=some ((x+B*y) / 2 ^ s):=by
     rw [hr,Z2 (x:=(s:Int)) ⟨A0,A0⟩]
     unfold wshr
     rw [B0,Z0]
     show some (Int.fdiv _ (2 ^ min s 64))=_
     rw [G6 A0,Wd _ A0]
    have d0:0≤(x+B*y) / 2 ^ s:=T5 t0 A0
    have d1:(x+B*y) / 2 ^ s≤x+B*y:=Xd _ t0
    have hm:=P3 ((x+B*y) / 2 ^ s) (show B≠0 by omega)
    have qD:=W3 ((x+B*y) / 2 ^ s) (show 0 < B by omega)
    rw [FI,obs,N8 ⟨d0,A0⟩,B5 ⟨hm,qD⟩,J0,E4,Z0]
    refine ⟨A0,A0,_,rfl,A0,Xw,U8 h1 ⟨hm,qD⟩,by show (o.set i _).length=_; rw [N3,h2],?_⟩
    show lv ((o.set i ((x+B*y) / 2 ^ s % B)).take (i+1))+pw (i+1)*(lv (a.drop (q+i+1)) / 2 ^ s)=_
    have gH:(o.set i ((x+B*y) / 2 ^ s % B))[i]?=some ((x+B*y) / 2 ^ s % B):=by rw [D5]; omega
    rw [O4 gH,Jl,Ml (by rw [B4]; omega),← h3,W5 hx,hE,cr hs Nx y0]
    simp only [pw]
    generalize (x+B*y) / 2 ^ s % B=u
    generalize (y+B*E) / 2 ^ s=v
    grind
   have RH:wc .u64 x=x:=Z2 ⟨Nx.1,A0⟩
   rw [O0]
   refine ⟨fun Px=>?_,fun Px=>?_⟩
   ·rw [J0,L3]
    refine ⟨A0,A0,fun y hy=>?_⟩
    rw [Z0] at hy
    have Zz:=LW.get ha hy
    have iH:wor .u64 (wc .u64 x) (wslc .u64 (wc .u64 y) 32)=x+B*y:=by
     rw [RH,Z2 (x:=y) ⟨Zz.1,A0⟩,Qc Zz]
     have:wor .u64 x (y*B)=wor .u64 (y*B) x:=by unfold wor; rw [BitVec.or_comm]
     rw [this,Za Zz Nx,P2]; omega
    rw [iH]
    exact key y (lv (a.drop (q+i+1+1))) Zz.1 Zz.2 (Y1 (LW.drop ha _)) (W5 hy)
   ·have hE:lv (a.drop (q+i+1))=0:=by rw [X9 A0]; rfl
    have:=key 0 0 A0 A0 A0 (by rw [hE]; rfl)
    rw [Q3,L8] at this
    rw [RH]
    exact this
  ·have ei:i=a.length - q:=A0
   subst ei
   rw [show q+(a.length - q)=a.length by omega,Wl,I5 A0] at h3
   show lv o=_
   rw [← h3]
   show lv o=lv o+pw (a.length - q)*(0 / 2 ^ s)
   rw [Xl]; omega
 ·rintro o ⟨h1,h2,h3⟩
  rw [Z4 h1 A0,obs]
  exact ⟨_,rfl,X3 h1,A4 _,by rw [N1]; exact h3,fun _ hm=>gS hm⟩
theorem cE {a:LI} (ha:LW a) (hn:a.length≤1000) {s:Nat} (hs:s < 32):Ret (m_c8 a (s:Int)) (fun r=>LW r.1∧Tm r.1∧lv r.1=lv a / 2 ^ s):=by
 have:=Bu ha hn (q:=0) A0 hs
 rw [show 32*0+s=s by omega] at this
 exact this.mono fun u hu=>⟨hu.1,hu.2.1,by rw [hu.2.2.1]; show _ / (1*_)=_; rw [M4]⟩
theorem yA {A W Z:LI} {lo hi i:Int} (Xz:lo=(A.length:Int)) (vG:hi=(A.length:Int)+W.length) {Q:Int→Prop}:Ret (getW (A++W++Z) lo hi i) Q=(0≤i∧i < W.length∧∀ x,W[i.toNat]?=some x→Q x):=by
 subst Xz vG
 unfold getW
 by_cases h:0≤i∧i < W.length
 ·rw [M0 ⟨A0,h.1,A0,by simp only [Q1]; omega⟩,L3]
  have e1:(A++W++Z)[((A.length:Int)+i).toNat]?=W[i.toNat]?:=by
   rw [show ((A.length:Int)+i).toNat=A.length+i.toNat by omega,Z7,X5 A0,wv,Q5 A0]
  rw [e1]
  apply propext
  constructor
  ·rintro ⟨_,_,h3⟩; exact ⟨h.1,h.2,h3⟩
  ·rintro ⟨_,_,h3⟩; exact ⟨A0,by simp only [Q1]; omega,h3⟩
 ·rw [K0 (by rintro ⟨_,h1,h2,_⟩; exact h ⟨h1,A0⟩),Pr]
  apply propext
  exact ⟨False.elim,fun ⟨h1,h2,_⟩=>h ⟨h1,h2⟩⟩
theorem wA {A W Z:LI} {lo hi i z:Int} (Xz:lo=(A.length:Int)) (vG:hi=(A.length:Int)+W.length) {Q:LI→Prop}:Ret (setW (A++W++Z) lo hi i z) Q=(0≤i∧i < W.length∧Q (A++W.set i.toNat z++Z)):=by
 subst Xz vG
 unfold setW
 by_cases h:0≤i∧i < W.length
 ·rw [M0 ⟨A0,h.1,A0,by simp only [Q1]; omega⟩,E4]
  have e1:(A++W++Z).set ((A.length:Int)+i).toNat z=A++W.set i.toNat z++Z:=by
   rw [show ((A.length:Int)+i).toNat=A.length+i.toNat by omega,Z7,Av _ _ A0,wv,List.set_append_left _ _ A0,Z7]
  rw [e1]
  apply propext
  constructor
  ·rintro ⟨_,_,h3⟩; exact ⟨h.1,h.2,h3⟩
  ·rintro ⟨_,_,h3⟩; exact ⟨A0,by simp only [Q1]; omega,h3⟩
 ·rw [K0 (by rintro ⟨_,h1,h2,_⟩; exact h ⟨h1,A0⟩),Pr]
  apply propext
  exact ⟨False.elim,fun ⟨h1,h2,_⟩=>h ⟨h1,h2⟩⟩
structure KD (U V S us vs w1 w2 wt v2 vt Q:Int):Prop where
 hS:0 < S
 hv:V=(vt*B+v2)*S+vs
 hvs:0≤vs∧vs < S
 hv2:0≤v2∧v2 < B
 hvt:2147483648≤vt∧vt < B
 hu:U=((wt*B+w1)*B+w2)*S+us
 hus:0≤us∧us < S
 hw2:0≤w2∧w2 < B
 hw1:0≤w1∧w1 < B
 hwt:0≤wt∧wt < B
 hlt:U < V*B
 hq:Qt U V Q
section
variable {U V S us vs w1 w2 wt v2 vt Q:Int}
theorem KD.vpos (h:KD U V S us vs w1 w2 wt v2 vt Q):S*B≤V:=by
 have e:B=4294967296:=rfl
 have h1:=h.hv
 have hS:=h.hS
 have h2:=h.hvt
 have h3:=h.hv2
 have h4:1*B≤vt*B:=D3 A0 A0
 have h5:B*S≤(vt*B+v2)*S:=D3 A0 A0
 have h6:=h.hvs
 rw [P2 S B]; omega
theorem KD.v0 (h:KD U V S us vs w1 w2 wt v2 vt Q):0 < V:=by
 have h1:=h.vpos
 have h2:0 < S*B:=Vd h.hS (by unfold B; omega)
 omega
theorem KD.u0 (h:KD U V S us vs w1 w2 wt v2 vt Q):0≤U:=by
 have h1:=h.hwt.1
 have h2:=h.hw1.1
 have h3:=h.hw2.1
 have h4:0≤wt*B:=O3 h1 (by unfold B; omega)
 have h5:0≤(wt*B+w1)*B:=O3 A0 (by unfold B; omega)
 have h6:0≤((wt*B+w1)*B+w2)*S:=O3 A0 (by have:=h.hS; omega)
 have:=h.hus.1
 rw [h.hu]; omega
theorem KD.q0 (h:KD U V S us vs w1 w2 wt v2 vt Q):0≤Q:=h.hq.nn h.v0 h.u0
theorem KD.qB (h:KD U V S us vs w1 w2 wt v2 vt Q):Q < B:=h.hq.lt_of h.v0 (by rw [P2]; exact h.hlt)
theorem KD.top (h:KD U V S us vs w1 w2 wt v2 vt Q):wt*B+w1 < (vt+1)*B:=by
 have e:B=4294967296:=rfl
 refine H1 fun hc=>?_
 have hS:=h.hS
 have h1:((vt+1)*B)*B*S≤(wt*B+w1)*B*S:=D3 (D3 A0 A0) A0
 have h2:0≤w2*S:=O3 h.hw2.1 A0
 have h3:U=(wt*B+w1)*B*S+w2*S+us:=by rw [h.hu]; grind
 have h4:(v2+1)*S≤B*S:=D3 (by have:=h.hv2; omega) A0
 have h5:V*B=vt*B*S*B+(v2*S+vs)*B:=by rw [h.hv]; grind
 have h6:(v2*S+vs)*B≤(B*S)*B:=D3 (by have:=h.hvs; rw [Ob] at h4; omega) A0
 have h7:((vt+1)*B)*B*S=vt*B*S*B+(B*S)*B:=by grind
 have:=h.hlt
 have:=h.hus.1
 omega
theorem KD.ge (h:KD U V S us vs w1 w2 wt v2 vt Q):Q*vt≤wt*B+w1:=by
 have hS:=h.hS
 have xS:0 < S*B:=Vd hS (by unfold B; omega)
 refine Mt (P:=S*B) (ur:=w2*S+us) (vr:=v2*S+vs) h.hq xS (by rw [h.hu]; grind) ?_ (by rw [h.hv]; grind) ?_ (by have:=h.hvt; omega) h.q0
 ·have h1:(w2+1)*S≤B*S:=D3 (by have:=h.hw2; omega) A0
  rw [Ob] at h1
  have:=h.hus
  rw [P2 S B]; omega
 ·have:=O3 h.hv2.1 (show 0≤S by omega)
  have:=h.hvs
  omega
theorem KD.gt (h:KD U V S us vs w1 w2 wt v2 vt Q) {g r:Int} (hg:g*vt+r=wt*B+w1) (g0:0≤g) (hc:r*B+w2 < g*v2):Q < g:=by
 refine kD (S:=S) (us:=us) (vs:=vs) h.hq h.hS h.hu h.hus.2 h.hv h.hvs.1 ?_ g0 h.v0
 have e1:g*(vt*B+v2)=(g*vt+r)*B - r*B+g*v2:=by grind
 rw [e1,hg]; omega
theorem KD.le (h:KD U V S us vs w1 w2 wt v2 vt Q) {g r:Int} (hg:g*vt+r=wt*B+w1) (g0:0≤g) (gB:g < B) (hc:g*v2≤r*B+w2):g≤Q+1:=by
 refine jD (S:=S) (us:=us) (vs:=vs) h.hq h.hS h.hu h.hus.1 h.hv h.hvs.2 h.hvs.1 ?_ g0 ?_ h.v0
 ·have e1:g*(vt*B+v2)=(g*vt+r)*B - r*B+g*v2:=by grind
  rw [e1,hg]; omega
 ·have h1:g*S≤B*S:=D3 A0 (by have:=h.hS; omega)
  have:=h.vpos
  rw [P2 S B] at this; omega
end
theorem Qr {τ ρ:Type} {step:τ→Option (τ⊕ρ)} {Post:ρ→Prop} (I:τ→Prop) (μ:τ→Nat) {s:τ} (h0:I s) (hμ:μ s < 1099511627776)
  (h:∀ t,I t→Ret (step t) (VQ (fun t'=>I t'∧μ t' < μ t) Post)):Ret (loop step s) Post:=by
 have key:∀ (fuel:Nat) (t:τ),μ t < fuel→I t→Ret (loopN step fuel t) Post:=by
  intro fuel
  induction fuel with
  | zero=>intro t h1; omega
  | succ n ih=>
   intro t h1 h2
   obtain ⟨x,hx,h3⟩:=h t h2
   cases x with
   | inr r=>exact ⟨r,by simp [loopN,hx],h3⟩
   | inl t'=>
    obtain ⟨h4,h5⟩:=h3
    obtain ⟨y,hy,hp⟩:=ih t' A0 h4
    exact ⟨y,by simp [loopN,hx,hy],hp⟩
 exact key FUEL s (Gl hμ (by unfold FUEL; omega)) h0
theorem Q4 {l:LI} {k:Nat} (h:k < l.length):∃ x,l[k]?=some x:=⟨l[k],B3 h⟩
theorem V5 {l:LI} {k:Nat} {x:Int} (hx:l[k]?=some x) {i:Int} (hi:i=(k:Int)):getI l i=some x:=by
 subst hi
 have:=(Z1.1 hx).1
 exact Ret.eq (by rw [L3]; exact ⟨A0,A0,fun y hy=>by rw [Z0] at hy; exact N2 (hy.symm.trans hx)⟩)
theorem Wb {A W Z:LI} {k:Nat} {x:Int} (hx:W[k]?=some x) {lo hi i:Int} (Xz:lo=(A.length:Int)) (vG:hi=(A.length:Int)+W.length) (RA:i=(k:Int)):getW (A++W++Z) lo hi i=some x:=by
 subst RA
 have:=(Z1.1 hx).1
 exact Ret.eq (by rw [yA Xz vG]; exact ⟨A0,A0,fun y hy=>by rw [Z0] at hy; exact N2 (hy.symm.trans hx)⟩)
theorem qf {A W Z:LI} {k:Nat} (hk:k < W.length) {z lo hi i:Int} (Xz:lo=(A.length:Int)) (vG:hi=(A.length:Int)+W.length) (RA:i=(k:Int)):setW (A++W++Z) lo hi i z=some (A++W.set k z++Z):=by
 subst RA
 exact Ret.eq (by rw [wA Xz vG,Z0]; exact ⟨A0,A0,rfl⟩)
theorem ve {l:LI} {k:Nat} {y:Int} (hk:k < l.length):lv ((l.set k y).take (k+1))=lv (l.take k)+pw k*y:=by
 have hs:(l.set k y)[k]?=some y:=by rw [D5]; exact hk
 rw [O4 hs,Jl,Ml (by rw [B4]; omega)]
theorem eh {l m:LI} {k:Nat} (h:l.drop k=m.drop k):l[k]?=m[k]?:=by
 have e1:(l.drop k)[0]?=l[k]?:=by rw [V9]; rfl
 have e2:(m.drop k)[0]?=m[k]?:=by rw [V9]; rfl
 rw [← e1,← e2,h]
theorem xr {l m:LI} {k:Nat} {y:Int} (h:l.drop k=m.drop k):(l.set k y).drop (k+1)=m.drop (k+1):=by
 rw [Lb A0,← Wa,h,Wa]
section
variable {A W Z v:LI} {lo hi:Int}
theorem iD {U V S us vs w1 w2 wt v2 vt Q:Int} (hK:KD U V S us vs w1 w2 wt v2 vt Q) {m:Nat} (hv:v.length=m+2) (hm:m≤10000) (g2:v[m]?=some v2) (gt:v[m+1]?=some vt) (k2:W[m]?=some w2) (Xz:lo=(A.length:Int)) (vG:hi=(A.length:Int)+W.length):
  Ret (loop (m_er v (A++W++Z) lo hi) ((wt*B+w1) / vt,(wt*B+w1) % vt)) (fun g=>Q≤g∧g≤Q+1∧g < B):=by
 have e:B=4294967296:=rfl
 have hvt:=hK.hvt
 have hwt:=hK.hwt
 have hw1:=hK.hw1
 have hw2:=hK.hw2
 have hv2:=hK.hv2
 have SA:=hK.top
 have HQ:=hK.q0
 have GQ:=hK.qB
 have tx:=hK.ge
 have t0:0≤wt*B+w1:=by have:=O3 hwt.1 (show 0≤B by omega); omega
 have hd:=V4 (wt*B+w1) vt
 have r0:=P3 (wt*B+w1) (show vt≠0 by omega)
 have r1:=W3 (wt*B+w1) (show 0 < vt by omega)
 have zH:Q≤(wt*B+w1) / vt:=(ff A0).2 tx
 have EH:(wt*B+w1) / vt≤wt*B+w1:=Xd _ t0
 have bI:(wt*B+w1) / vt < 2*B:=by
  refine U6 A0 ?_
  have:(vt+1)*B≤(2*vt)*B:=D3 A0 A0
  have e9:2*B*vt=2*vt*B:=by grind
  omega
 refine Qr (fun (s:Int×Int)=>s.1*vt+s.2=wt*B+w1∧(0≤s.2∧s.2 < B)∧Q≤s.1∧s.1 < 2*B) (fun s=>s.1.toNat) ⟨by show (wt*B+w1) / vt*vt+(wt*B+w1) % vt=_; rw [P2]; exact hd,⟨r0,by show (wt*B+w1) % vt < B; omega⟩,zH,bI⟩ (by show ((wt*B+w1) / vt).toNat < _; omega) ?_
 rintro ⟨g,r⟩ ⟨hg,hr,FQ,CO⟩
 simp only at hg hr FQ CO
 unfold m_er
 simp only
 have jB:ws .i64 (v.length:Int) 2=(m:Int):=by rw [hv,C3 A0 A0]; omega
 have HI:ws .i64 (v.length:Int) 1=((m+1:Nat):Int):=by rw [hv,C3 A0 A0]; omega
 rw [jB,HI,V5 g2 rfl,Wb k2 Xz vG rfl,V5 gt rfl]
 have mK:wc .u64 vt=vt:=Z2 ⟨A0,A0⟩
 have down:Q < g→Ret ((if (4294967295:Int) < (wa .u64 r (wc .u64 vt)) then some (.inr (ws .u64 g 1)) else some (.inl (ws .u64 g 1,wa .u64 r (wc .u64 vt))):Option ((Int×Int)⊕Int))) (VQ (fun t':Int×Int=>(t'.1*vt+t'.2=wt*B+w1∧(0≤t'.2∧t'.2 < B)∧Q≤t'.1∧t'.1 < 2*B)∧t'.1.toNat < g.toNat) (fun g=>Q≤g∧g≤Q+1∧g < B)):=by
  intro hlt
  have hw:ws .u64 g 1=g - 1:=by rw [C7]; omega
  have e1:(g - 1)*vt+(r+vt)=wt*B+w1:=by rw [← hg]; grind
  rw [mK,V6 ⟨A0,A0⟩,hw,O0]
  refine ⟨fun hb=>⟨_,rfl,A0,?_,?_⟩,fun hb=>⟨_,rfl,⟨e1,⟨A0,A0⟩,A0,A0⟩,A0⟩⟩
  ·have sM:g - 1 < B:=by
    refine H1 fun hc=>?_
    have h1:B*vt≤(g - 1)*vt:=D3 A0 A0
    have h2:(vt+1)*B=B*vt+B:=by grind
    omega
   refine hK.le e1 A0 sM ?_
   have h1:(g - 1)*v2≤4294967295*4294967295:=K8 A0 A0 hv2.1 A0
   have h2:4294967296*4294967296≤(r+vt)*B:=K8 A0 A0 A0 A0
   omega
  ·refine H1 fun hc=>?_
   have h1:B*vt≤(g - 1)*vt:=D3 A0 A0
   have h2:(vt+1)*B=B*vt+B:=by grind
   omega
 by_cases vQ:(4294967295:Int) < g
 ·rw [M0 vQ,obs,M0 rfl,obs]
  exact down A0
 ·rw [K0 vQ,obs,obs,obs]
  have vL:wor .u64 (wslc .u64 r 32) (wc .u64 w2)=r*B+w2:=by
   rw [Qc hr,Z2 (x:=w2) ⟨hw2.1,A0⟩,Za hr hw2]
  have kJ:wm .u64 g (wc .u64 v2)=g*v2:=by
   rw [Z2 (x:=v2) ⟨hv2.1,A0⟩]
   have h1:=O3 (show 0≤g by omega) hv2.1
   have h2:g*v2≤4294967295*4294967295:=K8 A0 A0 hv2.1 A0
   exact de ⟨h1,A0⟩
  rw [vL,kJ,O0]
  refine ⟨fun hc=>?_,fun hc=>?_⟩
  ·rw [obs]
   exact down (hK.gt hg A0 (by simpa using hc))
  ·have hc:¬ r*B+w2 < g*v2:=by simpa using hc
   exact ⟨_,rfl,FQ,hK.le hg A0 A0 A0,A0⟩
theorem eC {g:Int} (hg:0≤g∧g < B) (hW:LW W) (hv:LW v) (hl:W.length=v.length+1) (hm:v.length≤10000) (Xz:lo=(A.length:Int)) (vG:hi=(A.length:Int)+W.length):
  Ret (loop (m_eq v lo hi g) (A++W++Z,0,0,0)) (fun r=>∃ X c b,r=(A++X++Z,c,b)∧LW X∧X.length=W.length∧X.drop v.length=W.drop v.length∧(0≤c∧c < B)∧(b=0∨b=1)∧lv (X.take v.length)=lv (W.take v.length) - g*lv v+pw v.length*(c+b)):=by
 have e:B=4294967296:=rfl
 refine (Q0 (Post:=fun r:LI×Int×Int=>∃ X c b,r=(A++X++Z,c,b)∧LW X∧X.length=W.length∧X.drop v.length=W.drop v.length∧(0≤c∧c < B)∧(b=0∨b=1)∧lv (X.take v.length)=lv (W.take v.length) - g*lv v+pw v.length*(c+b)) v.length (fun k (s:LI×Int×Int×Int)=>∃ X c b,s=(A++X++Z,c,b,(k:Int))∧LW X∧X.length=W.length∧X.drop k=W.drop k∧(0≤c∧c < B)∧(b=0∨b=1)∧lv (X.take k)=lv (W.take k) - g*lv (v.take k)+pw k*(c+b)) ⟨W,0,0,rfl,hW,rfl,rfl,⟨A0,A0⟩,.inl rfl,by simp [lv]⟩ ?_ A0)
 rintro k _ hk ⟨X,c,b,rfl,x1,x2,x3,x4,x5,x6⟩
 unfold m_eq
 simp only
 rw [O0]
 refine ⟨fun hlt=>?_,fun tx=>⟨_,rfl,X,c,b,rfl,x1,x2,by have ek:k=v.length:=A0; subst ek; exact x3,x4,x5,by have ek:k=v.length:=A0; subst ek; rw [w9] at x6; exact x6⟩⟩
 obtain ⟨y,hy⟩:=Q4 (l:=v) (k:=k) A0
 obtain ⟨z,hz⟩:=Q4 (l:=W) (k:=k) A0
 have YN:X[k]?=some z:=(eh x3).trans hz
 have Zz:=LW.get hv hy
 have ZN:=LW.get hW hz
 have vH:hi=(A.length:Int)+X.length:=by rw [x2]; exact vG
 have p0:=O3 hg.1 Zz.1
 have p1:g*y≤4294967295*4294967295:=K8 A0 A0 Zz.1 A0
 have ep:wa .u64 (wm .u64 g (wc .u64 y)) c=g*y+c:=by
  rw [Z2 (x:=y) ⟨Zz.1,A0⟩,de ⟨p0,A0⟩,V6 ⟨A0,A0⟩]
 have LR:=P3 (g*y+c) (show B≠0 by omega)
 have qD:=W3 (g*y+c) (show 0 < B by omega)
 have jK:=V4 (g*y+c) B
 have d0:0≤(g*y+c) / B:=T5 A0 A0
 have d1:(g*y+c) / B < B:=U6 A0 (by rw [e]; omega)
 obtain ⟨k1,k2,k3,k4⟩:=Xj (v:=z - (g*y+c) % B - b) A0 A0
 have et:ws .u64 (ws .u64 (wc .u64 z) (wand .u64 (g*y+c) 4294967295)) b=(z - (g*y+c) % B - b) % 18446744073709551616:=by
  rw [Z2 (x:=z) ⟨ZN.1,A0⟩,N8 ⟨A0,A0⟩,C7,C7]; omega
 rw [V5 hy rfl,obs,Wb YN Xz vH rfl,obs,ep,et]
 generalize ht:(z - (g*y+c) % B - b) % 18446744073709551616=t at*
 have GH:=P3 t (show B≠0 by omega)
 have UG:=W3 t (show 0 < B by omega)
 have rD:0≤t / B:=T5 k3 A0
 have QG:t / B < 18446744073709551616:=U6 A0 A0
 rw [N8 ⟨k3,k4⟩,z7 k3,ki ⟨rD,QG⟩,B5 ⟨GH,UG⟩,z7 A0,k2,qf (k:=k) A0 Xz vH rfl,obs]
 have uO:k < X.length:=A0
 refine ⟨_,rfl,A0,X.set k (t % B),(g*y+c) / B,_,by rw [U0 A0 A0]; rfl,U8 x1 ⟨GH,UG⟩,by rw [N3,x2],xr x3,⟨d0,d1⟩,by split<;>omega,?_⟩
 rw [ve uO,x6,k1,O4 hz,O4 hy]
 simp only [pw]
 generalize (if z - (g*y+c) % B - b < 0 then (1:Int) else 0)=β
 generalize (g*y+c) / B=q at*
 generalize (g*y+c) % B=r at*
 have:g*y=B*q+r - c:=A0
 have e5:g*(lv (v.take k)+pw k*y)=g*lv (v.take k)+pw k*(g*y):=by grind
 rw [e5,this]
 grind
theorem uC (hW:LW W) (hv:LW v) (hl:W.length=v.length+1) (hm:v.length≤10000) (Xz:lo=(A.length:Int)) (vG:hi=(A.length:Int)+W.length):
  Ret (loop (m_ep v lo hi) (A++W++Z,0,0)) (fun r=>∃ X c,r=(A++X++Z,c)∧LW X∧X.length=W.length∧X.drop v.length=W.drop v.length∧(c=0∨c=1)∧lv (X.take v.length)+pw v.length*c=lv (W.take v.length)+lv v):=by
 have e:B=4294967296:=rfl
 refine (Q0 (Post:=fun r:LI×Int=>∃ X c,r=(A++X++Z,c)∧LW X∧X.length=W.length∧X.drop v.length=W.drop v.length∧(c=0∨c=1)∧lv (X.take v.length)+pw v.length*c=lv (W.take v.length)+lv v) v.length (fun k (s:LI×Int×Int)=>∃ X c,s=(A++X++Z,c,(k:Int))∧LW X∧X.length=W.length∧X.drop k=W.drop k∧(c=0∨c=1)∧lv (X.take k)+pw k*c=lv (W.take k)+lv (v.take k)) ⟨W,0,rfl,hW,rfl,rfl,.inl rfl,by simp [lv]⟩ ?_ A0)
 rintro k _ hk ⟨X,c,rfl,x1,x2,x3,x4,x6⟩
 unfold m_ep
 simp only
 rw [O0]
 refine ⟨fun hlt=>?_,fun tx=>⟨_,rfl,X,c,rfl,x1,x2,by have ek:k=v.length:=A0; subst ek; exact x3,x4,by have ek:k=v.length:=A0; subst ek; rw [w9] at x6; exact x6⟩⟩
 obtain ⟨y,hy⟩:=Q4 (l:=v) (k:=k) A0
 obtain ⟨z,hz⟩:=Q4 (l:=W) (k:=k) A0
 have YN:X[k]?=some z:=(eh x3).trans hz
 have Zz:=LW.get hv hy
 have ZN:=LW.get hW hz
 have vH:hi=(A.length:Int)+X.length:=by rw [x2]; exact vG
 have ep:wa .u64 (wa .u64 (wc .u64 z) (wc .u64 y)) c=z+y+c:=by
  rw [Z2 (x:=y) ⟨Zz.1,A0⟩,Z2 (x:=z) ⟨ZN.1,A0⟩,V6 (x:=z) (y:=y) ⟨A0,A0⟩,V6 ⟨A0,A0⟩]
 have GH:=P3 (z+y+c) (show B≠0 by omega)
 have UG:=W3 (z+y+c) (show 0 < B by omega)
 have jK:=V4 (z+y+c) B
 have d0:0≤(z+y+c) / B:=T5 A0 A0
 have d1:(z+y+c) / B < 2:=U6 A0 A0
 rw [V5 hy rfl,obs,Wb YN Xz vH rfl,obs,ep,N8 ⟨A0,A0⟩,z7 A0,B5 ⟨GH,UG⟩,qf (k:=k) A0 Xz vH rfl,obs]
 have uO:k < X.length:=A0
 refine ⟨_,rfl,A0,X.set k ((z+y+c) % B),(z+y+c) / B,by rw [U0 A0 A0]; rfl,U8 x1 ⟨GH,UG⟩,by rw [N3,x2],xr x3,A0,?_⟩
 rw [ve uO,O4 hz,O4 hy]
 simp only [pw]
 generalize (z+y+c) / B=q at*
 generalize (z+y+c) % B=r at*
 have e3:pw k*(B*q+r)=pw k*(z+y+c):=by rw [jK]
 have e4:B*pw k*q=pw k*(B*q):=by grind
 rw [T6] at e3
 have e5:pw k*(z+y+c)=pw k*z+pw k*y+pw k*c:=by grind
 omega
theorem jE (hW:LW W) (hv:LW v) {m:Nat} (dB:v.length=m+2) (hl:W.length=m+3) (hm:m≤9000) (hA:A.length≤10000) (SA:∀ x,v[m+1]?=some x→2147483648≤x) (hlt:lv W < lv v*B) (Xz:lo=(A.length:Int)) (vG:hi=(A.length:Int)+W.length):
  ∃ X,m_es (A++W++Z) lo hi v=some (A++X++Z,lv W / lv v)∧LW X∧X.length=W.length∧lv X=lv W % lv v:=by
 have e:B=4294967296:=rfl
 obtain ⟨v2,g2⟩:=Q4 (l:=v) (k:=m) A0
 obtain ⟨vt,gt⟩:=Q4 (l:=v) (k:=m+1) A0
 obtain ⟨w2,k2⟩:=Q4 (l:=W) (k:=m) A0
 obtain ⟨w1,k1⟩:=Q4 (l:=W) (k:=m+1) A0
 obtain ⟨wt,kt⟩:=Q4 (l:=W) (k:=m+2) A0
 have b2:=LW.get hv g2
 have bt:=LW.get hv gt
 have c2:=LW.get hW k2
 have c1:=LW.get hW k1
 have ct:=LW.get hW kt
 have hvt:=SA vt gt
 have hV:lv v=(vt*B+v2)*pw m+lv (v.take m):=by
  rw [M7 v (show m≤v.length by omega),W5 g2,W5 gt,X9 A0]
  simp only [lv]; grind
 have hU:lv W=((wt*B+w1)*B+w2)*pw m+lv (W.take m):=by
  rw [M7 W (show m≤W.length by omega),W5 k2,W5 k1,W5 kt,X9 A0]
  simp only [lv]; grind
 have tv:=ga hv (i:=m) A0
 have tw:=ga hW (i:=m) A0
 have NB:0 < lv v:=by
  have h1:0 < (vt*B+v2)*pw m:=Vd (by have:=Vd (show 0 < vt by omega) (show 0 < B by omega); omega) (M1 m)
  omega
 have hK:KD (lv W) (lv v) (pw m) (lv (W.take m)) (lv (v.take m)) w1 w2 wt v2 vt (lv W / lv v):=⟨M1 m,hV,tv,b2,⟨hvt,bt.2⟩,hU,tw,c2,c1,ct,hlt,Qt.ediv NB⟩
 have HQ:=hK.q0
 have GQ:=hK.qB
 have jT:=V4 (lv W) (lv v)
 have QT:=P3 (lv W) (show lv v≠0 by omega)
 have PT:=W3 (lv W) NB
 have PI:=G4 hv
 have CJ:pw (m+3)=B*pw (m+2):=rfl
 have TQ:=M1 (m+2)
 have pT:v.length=m+2:=dB
 refine (?_:Ret (m_es (A++W++Z) lo hi v) (fun r=>∃ X,r=(A++X++Z,lv W / lv v)∧LW X∧X.length=W.length∧lv X=lv W % lv v)).elim fun r hr=>?_
 ·unfold m_es
  have HI:ws .i64 (v.length:Int) 1=((m+1:Nat):Int):=by rw [dB,C3 A0 A0]; omega
  have oJ:(v.length:Int)=((m+2:Nat):Int):=by rw [dB]
  rw [HI,oJ,Wb kt Xz vG rfl,obs,Wb k1 Xz vG rfl,obs,V5 gt rfl,obs]
  have et:wor .u64 (wslc .u64 (wc .u64 wt) 32) (wc .u64 w1)=wt*B+w1:=by
   rw [Z2 (x:=wt) ⟨ct.1,A0⟩,Z2 (x:=w1) ⟨c1.1,A0⟩,Qc ct,Za ct c1]
  have t0:0≤wt*B+w1:=by have:=O3 ct.1 (show 0≤B by omega); omega
  have t1:wt*B+w1 < 18446744073709551616:=by rw [e]; omega
  have mK:wc .u64 vt=vt:=Z2 ⟨A0,A0⟩
  have VL:wq .u64 (wt*B+w1) vt=some ((wt*B+w1) / vt):=by
   unfold wq
   have h0:0≤(wt*B+w1) / vt:=T5 t0 A0
   have h1:(wt*B+w1) / vt≤wt*B+w1:=Xd _ t0
   rw [B0,Nh t0,IntWalk.u64_in _ ⟨h0,A0⟩]
  have fO:wr (wt*B+w1) vt=some ((wt*B+w1) % vt):=by
   unfold wr
   rw [B0,Td t0]
  rw [et,mK,VL,obs,obs,mK,fO,obs]
  refine Zw (iD hK dB A0 g2 gt k2 Xz vG) ?_
  rintro g ⟨gQ,gQ1,gB⟩
  refine Zw (eC (Z:=Z) ⟨A0,gB⟩ hW hv A0 A0 Xz vG) ?_
  rintro _ ⟨X,c,b,rfl,x1,x2,x3,x4,x5,x6⟩
  simp only
  have lS:X[m+2]?=some wt:=by rw [← kt]; rw [dB] at x3; exact eh x3
  have vH:hi=(A.length:Int)+X.length:=by rw [x2]; exact vG
  rw [Wb lS Xz vH rfl,obs]
  obtain ⟨q1,q2,q3,q4⟩:=Xj (v:=wt - c - b) A0 A0
  have et2:ws .u64 (ws .u64 (wc .u64 wt) c) b=(wt - c - b) % 18446744073709551616:=by
   rw [Z2 (x:=wt) ⟨ct.1,A0⟩,C7,C7]; omega
  rw [et2]
  generalize ht:(wt - c - b) % 18446744073709551616=t at*
  have GH:=P3 t (show B≠0 by omega)
  have UG:=W3 t (show 0 < B by omega)
  have rD:0≤t / B:=T5 q3 A0
  have QG:t / B < 18446744073709551616:=U6 A0 A0
  rw [N8 ⟨q3,q4⟩,z7 q3,ki ⟨rD,QG⟩,B5 ⟨GH,UG⟩,q2,qf (k:=m+2) A0 Xz vH rfl,obs]
  have TJ:LW (X.set (m+2) (t % B)):=U8 x1 ⟨GH,UG⟩
  have cH:(X.set (m+2) (t % B)).length=W.length:=by rw [N3,x2]
  have OP:=G4 TJ
  have iT:=Y1 TJ
  have oN:lv W=lv (W.take (m+2))+pw (m+2)*wt:=by rw [← O4 kt,I5 A0]
  have hY:lv (X.set (m+2) (t % B))=lv W - g*lv v+pw (m+3)*(if wt - c - b < 0 then 1 else 0):=by
   have h1:lv (X.set (m+2) (t % B))=lv ((X.set (m+2) (t % B)).take (m+2+1)):=by rw [I5 (by rw [cH]; omega)]
   rw [h1,ve A0,q1]
   rw [dB] at x6
   rw [x6,oN,CJ]
   generalize (if wt - c - b < 0 then (1:Int) else 0)=β
   grind
  rw [cH,hl] at OP
  have CQ:lv W - g*lv v=lv W % lv v+(lv W / lv v - g)*lv v:=by
   have:(lv W / lv v - g)*lv v=lv v*(lv W / lv v) - g*lv v:=by grind
   omega
  rw [dB] at PI
  rw [O0]
  refine ⟨fun hb=>?_,fun hb=>?_⟩
  ·have hβ:(if wt - c - b < 0 then (1:Int) else 0)=0:=hb
   rw [hβ,Q3,L8,CQ] at hY
   have qM:g=lv W / lv v:=by
    refine H1 fun hc=>?_
    have:lv W / lv v - g= -1:=A0
    rw [this] at hY; omega
   subst qM
   rw [Zl,V3,L8] at hY
   rw [B5 ⟨HQ,GQ⟩]
   exact ⟨_,rfl,_,rfl,TJ,cH,hY⟩
  ·have hβ:(if wt - c - b < 0 then (1:Int) else 0)=1:=by revert hb; split<;>simp
   rw [hβ,J6,CQ] at hY
   have qM:g=lv W / lv v+1:=by
    refine H1 fun hc=>?_
    have:lv W / lv v - g=0:=A0
    rw [this] at hY; omega
   have AP:lv W / lv v - g= -1:=A0
   rw [AP] at hY
   rw [J0]
   have UM:hi=(A.length:Int)+(X.set (m+2) (t % B)).length:=by rw [cH]; exact vG
   refine (uC (Z:=Z) TJ hv A0 A0 Xz UM).mono ?_
   rintro _ ⟨Y,c',rfl,y1,y2,y3,y4,y5⟩
   simp only
   have kS:Y[m+2]?=some (t % B):=by
    rw [dB] at y3
    rw [eh y3,D5 A0]
   have TM:hi=(A.length:Int)+Y.length:=by rw [y2]; exact UM
   rw [Wb kS Xz TM rfl,obs,B5 (x:=c') ⟨A0,A0⟩,zy,qf (k:=m+2) A0 Xz TM rfl,obs]
   have jR:wc .u32 (ws .u64 g 1)=lv W / lv v:=by
    rw [C7,B5 ⟨A0,A0⟩]; omega
   rw [jR]
   have aO:=P3 (t % B+c') (show B≠0 by omega)
   have RL:=W3 (t % B+c') (show 0 < B by omega)
   have XN:=V4 (t % B+c') B
   have lL:LW (Y.set (m+2) ((t % B+c') % B)):=U8 y1 ⟨aO,RL⟩
   have fJ:(Y.set (m+2) ((t % B+c') % B)).length=W.length:=by rw [N3,y2,cH]
   refine ⟨_,rfl,_,rfl,lL,fJ,?_⟩
   have UP:=G4 lL
   have mT:=Y1 lL
   rw [fJ,hl] at UP
   have hF:lv (Y.set (m+2) ((t % B+c') % B))=lv W % lv v+pw (m+3)*(1 - (t % B+c') / B):=by
    have h1:lv (Y.set (m+2) ((t % B+c') % B))=lv ((Y.set (m+2) ((t % B+c') % B)).take (m+2+1)):=by rw [I5 (by rw [fJ]; omega)]
    have h2:lv (X.set (m+2) (t % B))=lv ((X.set (m+2) (t % B)).take (m+2))+pw (m+2)*(t % B):=by
     have h3:(X.set (m+2) (t % B))[m+2]?=some (t % B):=by rw [D5 A0]
     rw [← O4 h3,I5 (by rw [cH]; omega)]
    rw [dB] at y5
    rw [h1,ve A0,CJ]
    generalize (t % B+c') / B=k at*
    generalize (t % B+c') % B=r at*
    have e3:pw (m+2)*(B*k+r)=pw (m+2)*(t % B+c'):=by rw [XN]
    rw [T6,T6] at e3
    have e4:B*pw (m+2)*(1 - k)=B*pw (m+2) - pw (m+2)*(B*k):=by grind
    omega
   have hk:(t % B+c') / B=1:=by
    have k0:0≤(t % B+c') / B:=T5 A0 A0
    have k1:(t % B+c') / B < 2:=U6 A0 A0
    refine H1 fun hc=>?_
    have:(t % B+c') / B=0:=A0
    rw [this] at hF
    omega
   rw [hk] at hF
   rw [hF]; omega
 ·obtain ⟨h1,X,rfl,h2⟩:=hr
  exact ⟨X,h1,h2⟩
end
theorem UB {b:LI} (hb:LW b) {m:Nat} (hl:b.length=m+2) {bt:Int} (gt:b[m+1]?=some bt) {s:Nat} (hs:s < 32) (h1:bt*2 ^ s < B) (h2:B≤2*(bt*2 ^ s)):
  lv b*2 ^ s < pw (m+2)∧2147483648*pw (m+1)≤lv b*2 ^ s:=by
 have e:B=4294967296:=rfl
 obtain ⟨p1,p2,p3,p4⟩:=A8 hs
 have LN:=LW.get hb gt
 have hV:lv b=lv (b.take (m+1))+pw (m+1)*bt:=by rw [← O4 gt,I5 A0]
 have ht:=ga hb (i:=m+1) A0
 have hp:=M1 (m+1)
 have JP:bt < 2 ^ (32 - s):=by
  refine H1 fun hc=>?_
  have:2 ^ (32 - s)*2 ^ s≤bt*2 ^ s:=D3 A0 A0
  rw [P2] at this; omega
 have h3:(bt+1)*2 ^ s≤B:=by
  have:(bt+1)*2 ^ s≤2 ^ (32 - s)*2 ^ s:=D3 A0 A0
  rw [P2 (2 ^ (32 - s))] at this; omega
 constructor
 ·have h4:lv b*2 ^ s < (pw (m+1)*(bt+1))*2 ^ s:=Mb (by rw [T6]; omega) p1
  have h5:pw (m+1)*((bt+1)*2 ^ s)≤pw (m+1)*B:=K3 h3 A0
  have h6:pw (m+2)=B*pw (m+1):=rfl
  rw [y7] at h4
  rw [h6,P2 B]; omega
 ·have h4:pw (m+1)*bt*2 ^ s≤lv b*2 ^ s:=D3 A0 A0
  have h5:pw (m+1)*2147483648≤pw (m+1)*(bt*2 ^ s):=K3 A0 A0
  rw [y7] at h4
  rw [P2 2147483648]; omega
theorem My {v:LI} (hv:LW v) {m:Nat} (hl:v.length=m+2) (h:2147483648*pw (m+1)≤lv v):∀ x,v[m+1]?=some x→2147483648≤x:=by
 intro x hx
 refine H1 fun hc=>?_
 have hV:lv v=lv (v.take (m+1))+pw (m+1)*x:=by rw [← O4 hx,I5 A0]
 have ht:=ga hv (i:=m+1) A0
 have h4:pw (m+1)*(x+1)≤pw (m+1)*2147483648:=K3 A0 (by have:=M1 (m+1); omega)
 rw [T6,P2 (pw (m+1)) 2147483648] at h4
 omega
theorem Qy {v:LI} (hv:LW v) (tv:Tm v) {m:Nat} (h1:lv v < pw (m+2)) (h2:pw (m+1)≤lv v):v.length=m+2:=by
 have h3:=U7 hv tv h1
 refine H1 fun hc=>?_
 have h4:=T7 hv (m:=m+1) A0
 omega
theorem gE {u0 v:LI} {K m:Nat} (hu:LW u0) (hv:LW v) (dB:v.length=m+2) (YL:u0.length=K+m+2) (hK:K+m≤5000) (SA:∀ x,v[m+1]?=some x→2147483648≤x) (h0:lv (u0.drop K) < lv v):
  Ret (loop (m_et v) (List.replicate K 0,u0,(K:Int) - 1)) (fun r=>LW r.1∧r.1.length=K∧LW r.2∧r.2.length=u0.length∧lv u0=lv r.1*lv v+lv r.2∧lv r.2 < lv v):=by
 have e:B=4294967296:=rfl
 refine (Q0 (Post:=fun r:LI×LI=>LW r.1∧r.1.length=K∧LW r.2∧r.2.length=u0.length∧lv u0=lv r.1*lv v+lv r.2∧lv r.2 < lv v) K (fun k (s:LI×LI×Int)=>s.2.2=(K:Int) - 1 - k∧k≤K∧LW s.1∧s.1.length=K∧LW s.2.1∧s.2.1.length=u0.length∧s.2.1.take (K - k)=u0.take (K - k)∧lv (u0.drop (K - k))=lv (s.1.drop (K - k))*lv v+lv (s.2.1.drop (K - k))∧lv (s.2.1.drop (K - k)) < lv v) ⟨by show (K:Int) - 1=_; omega,A0,ob K,U4 ..,hu,rfl,rfl,by show lv (u0.drop (K - 0))=lv ((List.replicate K (0:Int)).drop (K - 0))*lv v+lv (u0.drop (K - 0)); rw [Db,Sd,E6]; simp [lv],h0⟩ ?_ A0)
 rintro k ⟨q,u,_⟩ hk ⟨rfl,DL,q1,q2,u1,u2,u3,u4,u5⟩
 simp only at q1 q2 u1 u2 u3 u4 u5
 unfold m_et
 simp only
 rw [O0]
 refine ⟨fun tx=>?_,fun hlt=>⟨_,rfl,q1,q2,u1,u2,?_,?_⟩⟩
 ·obtain ⟨J,hJ⟩:∃ J:Nat,K=J+(k+1):=⟨K - (k+1),A0⟩
  have e1:(K:Int) - 1 - (k:Int)=(J:Int):=A0
  have e2:K - k=J+1:=A0
  have e3:K - (k+1)=J:=A0
  rw [e2] at u3 u4 u5
  have hw:wa .i64 (wa .i64 (J:Int) (v.length:Int)) 1=(J:Int)+(m+3:Nat):=by
   rw [dB,U0 (x:=(J:Int)) A0 A0,U0 A0 A0]; omega
  obtain ⟨x,hx⟩:=Q4 (l:=u) (k:=J) A0
  have Nx:=LW.get u1 hx
  have VK:u0[J]?=some x:=by
   have h1:(u.take (J+1))[J]?=u[J]?:=by rw [H6,C0]
   have h2:(u0.take (J+1))[J]?=u0[J]?:=by rw [H6,C0]
   rw [← h2,← u3,h1]; exact hx
  have hD:=W5 hx
  have IM:=W5 VK
  have PI:=G4 hv
  rw [dB] at PI
  have IR:=Y1 (LW.drop u1 (J+1))
  have dC:u=u.take J++(u.drop J).take (m+3)++u.drop (J+(m+3)):=by
   rw [Z7]
   have h1:(u.drop J).take (m+3)++u.drop (J+(m+3))=u.drop J:=by rw [← Wa,Ra]
   rw [h1,Ra]
  have xJ:(u.take J).length=J:=by rw [B4]; omega
  have ON:((u.drop J).take (m+3)).length=m+3:=by rw [B4,U9]; omega
  have XI:LW ((u.drop J).take (m+3)):=LW.take (LW.drop u1 J) _
  have WI:LW (u.drop (J+(m+3))):=LW.drop u1 _
  have sK:lv (u.drop J)=lv ((u.drop J).take (m+3))+pw (m+3)*lv (u.drop (J+(m+3))):=by
   rw [M7 (u.drop J) (k:=m+3) (by rw [U9]; omega),Wa]
  have UJ:lv (u.drop J) < lv v*B:=by
   have:B*(lv (u.drop (J+1))+1)≤B*lv v:=K3 A0 A0
   rw [T6,J6] at this
   rw [P2 (lv v)]; omega
  have QP:=Y1 XI
  have NP:=Y1 WI
  have sN:pw (m+3)=B*pw (m+2):=rfl
  have sS:lv v*B≤pw (m+3):=by
   rw [sN,P2 B]; exact D3 A0 A0
  have LL:lv (u.drop (J+(m+3)))=0:=by
   refine H1 fun hc=>?_
   have:pw (m+3)*1≤pw (m+3)*lv (u.drop (J+(m+3))):=K3 A0 (by have:=M1 (m+3); omega)
   omega
  rw [LL,Q3,L8] at sK
  obtain ⟨X,hX,x1,x2,x3⟩:=jE (A:=u.take J) (W:=(u.drop J).take (m+3)) (Z:=u.drop (J+(m+3))) (lo:=(J:Int)) (hi:=(J:Int)+(m+3:Nat)) XI hv dB ON A0 A0 SA (by rw [← sK]; exact UJ) (by rw [xJ]) (by rw [xJ,ON])
  rw [← dC,← sK] at hX
  rw [← sK] at x3
  have NB:0 < lv v:=A0
  have rD:0≤lv (u.drop J) / lv v:=T5 A0 A0
  have QG:lv (u.drop J) / lv v < B:=U6 NB (by rw [P2]; exact UJ)
  have jK:=V4 (lv (u.drop J)) (lv v)
  have DH:=P3 (lv (u.drop J)) (show lv v≠0 by omega)
  have oI:=W3 (lv (u.drop J)) NB
  rw [e1,hw,J0,ic]
  refine ⟨A0,A0,A0,?_⟩
  rw [hX,obs,J0,E4,Z0]
  have ZG:(u.take J++X++u.drop (J+(m+3))).length=u0.length:=by
   rw [Q1,Q1,xJ,x2,ON,U9]; omega
  have EM:lv ((u.take J++X++u.drop (J+(m+3))).drop J)=lv X:=by
   rw [Z7,Qv xJ,pb,LL]; omega
  refine ⟨A0,A0,_,rfl,A0,?_,A0,U8 q1 ⟨rD,QG⟩,by show (q.set J _).length=K; rw [N3,q2],LW.app.2 ⟨LW.app.2 ⟨LW.take u1 _,x1⟩,WI⟩,ZG,?_,?_,?_⟩
  ·show ws .i64 (J:Int) 1=_; rw [C3 A0 A0]; omega
  ·rw [e3]
   show (u.take J++X++u.drop (J+(m+3))).take J=_
   rw [Z7,xv xJ]
   have h1:u.take J=(u.take (J+1)).take J:=by rw [Ue,G6 A0]
   rw [h1,u3,Ue,G6 A0]
  ·rw [e3]
   show lv (u0.drop J)=lv ((q.set J (lv (u.drop J) / lv v)).drop J)*lv v+lv ((u.take J++X++u.drop (J+(m+3))).drop J)
   have oO:(q.set J (lv (u.drop J) / lv v))[J]?=some (lv (u.drop J) / lv v):=by rw [D5]; omega
   rw [EM,x3,W5 oO,Lb A0,IM,u4]
   generalize lv (u.drop J) / lv v=Q at*
   generalize lv (u.drop J) % lv v=R at*
   have h9:(Q+B*lv (q.drop (J+1)))*lv v=lv v*Q+B*(lv (q.drop (J+1))*lv v):=by grind
   rw [h9,T6]
   omega
  ·rw [e3]
   show lv ((u.take J++X++u.drop (J+(m+3))).drop J) < lv v
   rw [EM,x3]; exact oI
 ·have ek:K - k=0:=A0
  rw [ek] at u4
  exact u4
 ·have ek:K - k=0:=A0
  rw [ek] at u5
  exact u5
theorem Cu {a b:LI} (ha:LW a) (hb:LW b) (ta:Tm a) (tb:Tm b) (kx:b≠[]) (hn:a.length≤900) (hm:b.length≤900):∃ q r,m_eu a b=some (q,r)∧LW q∧Tm q∧LW r∧Tm r∧lv q=lv a / lv b∧lv r=lv a % lv b:=by
 have e:B=4294967296:=rfl
 have QK:0 < b.length:=Jb.2 kx
 have oF:0 < lv b:=by
  have h1:=G9 hb tb kx
  have:=M1 (b.length - 1)
  omega
 by_cases h1:b.length=1
 ·obtain ⟨p,rfl⟩:∃ p,b=[p]:=by
   match b,h1 with
   | [p],_=>exact ⟨p,rfl⟩
  have hp:=LW.one.1 hb
  have lp:lv [p]=p:=by simp [lv]
  rw [lp] at oF ⊢
  obtain ⟨q,r,h,q1,q2,r1,r2,q3,r3,_⟩:=Du ha ta A0 oF hp.2
  exact ⟨q,r,h,q1,q2,r1,r2,q3,r3⟩
 have h0:=Y1 ha
 by_cases hlt:lv a < lv b
 ·refine ⟨[],a,?_,by intro x hx; simp at hx,P8,ha,ta,by rw [Ya h0 hlt]; rfl,by rw [X4 h0 hlt]⟩
  unfold m_eu
  rw [fh ha hb ta tb A0 A0,obs,M0 hlt,C0,xc A0,obs]
 obtain ⟨m,oK⟩:∃ m,b.length=m+2:=⟨b.length - 2,A0⟩
 have DG:b.length≤a.length:=by
  refine H1 fun hc=>?_
  have:=D7 ha hb ta tb A0
  omega
 obtain ⟨bt,gt⟩:=Q4 (l:=b) (k:=m+1) A0
 have LN:=LW.get hb gt
 have fL:0 < bt:=by
  have:=tb bt (by rw [Sl,oK]; exact gt)
  omega
 obtain ⟨s,hs,TG,ZH,gH⟩:=qt fL LN.2
 obtain ⟨p1,p2,p3,p4⟩:=A8 TG
 obtain ⟨t1,t2⟩:=UB hb oK gt TG ZH gH
 have AR:=M1 (m+1)
 refine (?_:Ret (m_eu a b) (fun r=>LW r.1∧Tm r.1∧LW r.2∧Tm r.2∧lv r.1=lv a / lv b∧lv r.2=lv a % lv b)).elim fun r hr=>⟨r.1,r.2,hr.1,hr.2⟩
 unfold m_eu
 have eL:¬ (if lv a < lv b then (-1:Int) else if lv b < lv a then 1 else 0) < 0:=by rw [K0 hlt]; split<;>omega
 have HI:ws .i64 (b.length:Int) 1=((m+1:Nat):Int):=by rw [oK,C3 A0 A0]; omega
 rw [fh ha hb ta tb A0 A0,obs,K0 eL,B0,HI,V5 gt rfl,obs,hs,obs]
 refine Zw (Aq hb A0 kx TG) ?_
 rintro v ⟨v1,v2,v3⟩
 have dB:=Qy v1 v2 (m:=m) (by rw [v3]; exact t1) (by rw [v3]; omega)
 have SA:=My v1 dB (by rw [v3]; exact t2)
 rw [U0 A0 A0,J0,J5]
 refine ⟨A0,A0,?_⟩
 rw [show ((a.length:Int)+1).toNat=a.length+1 by omega,J0]
 have LP:a≠[]:=by intro h; rw [h,Y2] at DG; omega
 refine (Aq ha A0 LP TG).mono ?_
 rintro w ⟨w1,w2,w3⟩
 have halt:=G4 ha
 have MM:lv w < pw a.length*2 ^ s:=by rw [w3]; exact Mb halt p1
 have aQ:w.length≤a.length+1:=by
  refine U7 w1 w2 ?_
  have h9:pw a.length*2 ^ s≤pw a.length*B:=K3 A0 (by have:=M1 a.length; omega)
  have h8:pw (a.length+1)=B*pw a.length:=rfl
  rw [h8,P2 B]; omega
 have bS:cpI (List.replicate (a.length+1) (0:Int)) 0 ((List.replicate (a.length+1) (0:Int)).length:Int) w=some (w++List.replicate (a.length+1 - w.length) 0,(w.length:Int)):=by
  unfold cpI
  rw [U4,M0 ⟨A0,A0,A0⟩]
  have e1:(((a.length+1:Nat):Int)).toNat - ((0:Int)).toNat=a.length+1:=A0
  rw [e1,Y7 aQ,G6 aQ,show ((0:Int)).toNat=0 from rfl,Dh,Gc,Q9,Sd]
 rw [bS,obs]
 have ZO:(w++List.replicate (a.length+1 - w.length) (0:Int)).length=a.length+1:=by rw [Q1,U4]; omega
 have OM:LW (w++List.replicate (a.length+1 - w.length) (0:Int)):=LW.app.2 ⟨w1,ob _⟩
 have YO:lv (w++List.replicate (a.length+1 - w.length) (0:Int))=lv a*2 ^ s:=by rw [pb,Ce,w3]; omega
 simp only
 generalize w++List.replicate (a.length+1 - w.length) (0:Int)=u0 at*
 obtain ⟨K,hK⟩:∃ K,a.length=K+m+1:=⟨a.length - m - 1,A0⟩
 rw [show ws .i64 (u0.length:Int) (v.length:Int)=(K:Int) by rw [ZO,dB,C3 A0 A0]; omega,J0,J5]
 refine ⟨A0,A0,?_⟩
 rw [Z0,U4,C3 (x:=(K:Int)) A0 A0,J0]
 have bJ:lv (u0.drop K) < lv v:=by
  have h9:lv u0=lv (u0.take K)+pw K*lv (u0.drop K):=M7 u0 A0
  have h8:=Y1 (LW.take OM K)
  have h7:pw K*lv (u0.drop K) < pw a.length*2 ^ s:=by rw [w3] at MM; omega
  have h6:pw a.length=pw K*pw (m+1):=by rw [hK,show K+m+1=K+(m+1) by omega,W6]
  rw [h6,y7] at h7
  have h5:lv (u0.drop K) < pw (m+1)*2 ^ s:=TF h7 (y8 (M1 K))
  have h4:pw (m+1)*2 ^ s≤pw (m+1)*2147483648:=K3 p2 A0
  rw [P2 (pw (m+1)) 2147483648] at h4
  rw [v3]; omega
 refine (gE OM v1 dB A0 A0 SA bJ).mono ?_
 rintro ⟨q,u⟩ ⟨q1,q2,u1,u2,u3,u4⟩
 simp only at q1 q2 u1 u2 u3 u4 ⊢
 have HR:(v.length:Int)=((m+2:Nat):Int):=by rw [dB]
 rw [HR,J0,ic]
 refine ⟨A0,A0,A0,?_⟩
 rw [Z0,show ((0:Int)).toNat=0 from rfl,W9]
 have yL:LW (u.take (m+2)):=LW.take u1 _
 have lR:lv (u.take (m+2))=lv u:=by
  have h9:lv u=lv (u.take (m+2))+pw (m+2)*lv (u.drop (m+2)):=M7 u A0
  have h8:=Y1 yL
  have h7:=Y1 (LW.drop u1 (m+2))
  have h6:lv (u.drop (m+2))=0:=by
   refine H1 fun hc=>?_
   have:pw (m+2)*1≤pw (m+2)*lv (u.drop (m+2)):=K3 A0 (by have:=M1 (m+2); omega)
   rw [v3] at u4; omega
  rw [h6] at h9; omega
 rw [Z4 yL (by rw [B4]; omega),obs]
 refine Zw (cE (X3 yL) (by have:=U5 yL; rw [B4] at this; omega) TG) ?_
 rintro d ⟨d1,d2,d3⟩
 rw [Z4 q1 A0,obs]
 rw [N1,lR] at d3
 refine ⟨_,rfl,X3 q1,A4 _,d1,d2,?_⟩
 show lv (trimL q)=_∧lv d.1=_
 rw [N1]
 have XO:=Y1 u1
 rw [YO,v3] at u3
 rw [v3] at u4
 have hR:lv u=(lv a - lv q*lv b)*2 ^ s:=by
  have:(lv a - lv q*lv b)*2 ^ s=lv a*2 ^ s - lv q*(lv b*2 ^ s):=by grind
  omega
 have r0:0≤lv a - lv q*lv b:=by
  refine H1 fun hc=>?_
  have:(lv a - lv q*lv b)*2 ^ s≤(-1)*2 ^ s:=D3 A0 A0
  omega
 have r1:lv a - lv q*lv b < lv b:=by
  rw [hR] at u4
  exact SF u4 (y8 p1)
 have hq:lv q=lv a / lv b:=Qt.eq (u:=lv a) (v:=lv b) ⟨A0,by rw [Ob,M4]; omega⟩ oF
 refine ⟨hq,?_⟩
 rw [d3,hR,dm _ A0]
 have h9:=V4 (lv a) (lv b)
 rw [← hq] at h9
 have h8:lv q*lv b=lv b*lv q:=P2 _ _
 omega
theorem eE {s t:Bool} {a b:LI} (ha:LW a) (hb:LW b) (hn:a.length≤800) (hm:b.length≤800) (kx:sv t b≠0):Ret (m_ew s a t b) (fun r=>Bg (sv s a / sv t b) r.1 r.2.1∧Bg (sv s a % sv t b) r.2.2.1 r.2.2.2.1∧r.2.2.2.2=0):=by
 have la:=U5 ha
 have lb:=U5 hb
 have wa':=X3 ha
 have wb':=X3 hb
 have ta:=A4 a
 have tb:=A4 b
 have sJ:trimL b≠[]:=by
  intro h
  have:lv b=0:=by rw [← N1,h]; rfl
  apply kx
  unfold sv; rw [this]; split<;>rfl
 have QK:=Jb.2 sJ
 have oF:0 < lv b:=by
  have h1:=G9 wb' tb sJ
  rw [N1] at h1
  have:=M1 ((trimL b).length - 1)
  omega
 obtain ⟨q,r,hd,q1,q2,r1,r2,q3,r3⟩:=Cu wa' wb' ta tb sJ A0 A0
 rw [N1,N1] at q3 r3
 have h0:=Y1 ha
 have e0:=P3 (lv a) (show lv b≠0 by omega)
 have e1:=W3 (lv a) oF
 have jK:=V4 (lv a) (lv b)
 have zH:0≤lv a / lv b:=T5 h0 A0
 have mP:lv a / lv b≤lv a:=Xd _ h0
 have jS:=T7 ha hn
 have fS:=T7 hb hm
 have CR:2*pw 800≤pw 801:=by
  have:=M1 800
  show 2*pw 800≤B*pw 800
  unfold B; omega
 have aK:q.length≤801:=U7 q1 q2 A0
 have CH:r.length≤801:=U7 r1 r2 A0
 have fin:∀ x y:LI,LW x→x.length≤1000→LW y→y.length≤1000→sv (!(s == t)) x=sv s a / sv t b→lv y=sv s a % sv t b→Ret (m_ev s t x y) (fun r=>Bg (sv s a / sv t b) r.1 r.2.1∧Bg (sv s a % sv t b) r.2.2.1 r.2.2.2.1∧r.2.2.2.2=0):=by
  intro x y hx UL hy sL h1 h2
  unfold m_ev
  refine Zw (W7 _ hx A0) fun g hg=>?_
  refine Zw (W7 false hy A0) fun f hf=>⟨_,rfl,hg.cast h1,hf.cast ?_,rfl⟩
  rw [← h2]; rfl
 have quot:∀ z w:Int,sv s a=sv t b*z+w→0≤w→w < lv b→z=sv s a / sv t b∧w=sv s a % sv t b:=by
  intro z w h1 h2 h3
  have h4:w=sv s a % sv t b:=by
   rw [h1,PF]
   unfold sv
   split
   ·rw [Int.emod_neg,X4 h2 h3]
   ·rw [X4 h2 h3]
  refine ⟨?_,h4⟩
  have h5:=V4 (sv s a) (sv t b)
  have h6:sv t b*(z - sv s a / sv t b)=0:=by rw [A9]; omega
  rcases K4.1 h6 with h | h
  ·exact absurd h kx
  ·omega
 unfold m_ew
 rw [Z4 hb A0,obs,B0,Z4 ha A0,obs,hd,obs]
 simp only
 rw [O0]
 refine ⟨fun hc=>?_,fun hc=>?_⟩
 ·simp only [w4,decide_eq_true_eq] at hc
  obtain ⟨hs,fQ⟩:=hc
  subst hs
  have DH:lv r≠0:=fun h=>by rw [(td r1 r2).1 h] at fQ; simp at fQ
  refine Zw (Ij q1 (b:=[1]) (LW.one.2 ⟨A0,by unfold B; omega⟩) A0 H0) ?_
  rintro x ⟨x1,x2,x3⟩
  have l1:lv [1]=1:=by simp [lv]
  rw [l1] at x3
  rw [J0]
  have FD:r.length≤(trimL b).length:=by
   refine H1 fun hc=>?_
   have:=D7 wb' r1 tb r2 A0
   rw [N1] at this; omega
  refine (minus_ok wb' r1 A0 FD (by rw [N1]; omega)).mono ?_
  rintro y ⟨y1,y2,y3⟩
  rw [N1] at y3
  have UL:x.length≤801:=U7 x1 x2 (by have:=M1 800; omega)
  have sL:y.length≤801:=U7 y1 y2 A0
  obtain ⟨k1,k2⟩:=quot (sv (!(true == t)) x) (lv y) (by
   unfold sv
   rw [x3,y3,r3,q3]
   cases t
   ·simp
    have h7:lv b*(lv a / lv b+1)=lv b*(lv a / lv b)+lv b:=by grind
    rw [df]; omega
   ·simp
    have h7:lv b*(lv a / lv b+1)=lv b*(lv a / lv b)+lv b:=by grind
    rw [Ph]; omega) (Y1 y1) A0
  exact fin x y x1 A0 y1 A0 k1 k2
 ·simp only [w4,decide_eq_true_eq,not_and] at hc
  obtain ⟨k1,k2⟩:=quot (sv (!(s == t)) q) (lv r) (by
   have n1: -lv b*(lv a / lv b)= -(lv b*(lv a / lv b)):=by grind
   have n2:lv b* -(lv a / lv b)= -(lv b*(lv a / lv b)):=by grind
   have n3: -lv b* -(lv a / lv b)=lv b*(lv a / lv b):=by grind
   unfold sv
   rw [q3]
   cases s
   ·cases t
    ·simp
     first | omega | grind
    ·simp
     first | omega | grind
   ·have DH:lv r=0:=by
     have h1:=hc rfl
     have:r=[]:=S6 A0
     rw [this]; rfl
    cases t
    ·simp
     first | omega | grind
    ·simp; omega) A0 A0
  exact fin q r q1 A0 r1 A0 k1 k2
theorem Vy {A W Z v:LI} {g:Int} (hg:0≤g∧g < B) (hW:LW W) (hv:LW v) (hl:W.length=v.length+1) (hm:v.length≤5000) (hA:A.length≤10000):
  ∃ X,m_h5 (A++W++Z) v (A.length:Int) g=some (if g*lv v≤lv W then (A++X++Z,true) else (A++W++Z,false))∧LW X∧X.length=W.length∧(g*lv v≤lv W→lv X=lv W - g*lv v):=by
 have e:B=4294967296:=rfl
 have iS:∀ {i:Nat} {x:Int},W[i]?=some x→(A++W++Z)[i+A.length]?=some x:=by
  intro i x hx
  have hi:=(Z1.1 hx).1
  rw [Z7,X5 A0,Nat.add_sub_cancel,Q5 hi]; exact hx
 have l3:Ret (loop (m_h4 v (A++W++Z) (A.length:Int) g) (List.replicate (v.length+1) 0,0,0,0)) (fun r=>LW r.1∧r.1.length=v.length+1∧(r.2=0∨r.2=1)∧lv r.1=lv W - g*lv v+pw (v.length+1)*r.2):=by
  refine (Q0 (Post:=fun r:LI×Int=>LW r.1∧r.1.length=v.length+1∧(r.2=0∨r.2=1)∧lv r.1=lv W - g*lv v+pw (v.length+1)*r.2) (v.length+1) (fun k (s:LI×Int×Int×Int)=>s.2.2.2=(k:Int)∧k≤v.length+1∧LW s.1∧s.1.length=v.length+1∧(s.2.1=0∨s.2.1=1)∧(0≤s.2.2.1∧s.2.2.1 < B)∧(k=v.length+1→s.2.2.1=0)∧lv (s.1.take k)=lv (W.take k) - g*lv (v.take k)+pw k*(s.2.2.1+s.2.1)) ⟨rfl,A0,ob _,U4 ..,.inl rfl,⟨by show (0:Int)≤0; omega,by show (0:Int) < B; omega⟩,fun _=>rfl,by simp [lv]⟩ ?_ A0)
  rintro k ⟨o,b,c,_⟩ hk ⟨rfl,EL,o1,o2,b1,c1,c2,hI⟩
  simp only at o1 o2 b1 c1 c2 hI
  unfold m_h4
  simp only
  rw [O0]
  refine ⟨fun hle=>?_,fun NK=>⟨_,rfl,o1,o2,b1,?_⟩⟩
  ·have OR:k < v.length+1:=A0
   obtain ⟨x,hx⟩:=Q4 (l:=W) (k:=k) A0
   have Nx:=LW.get hW hx
   have key:∀ d:Int,0≤d→d < 18446744073709551616→(k=v.length→d < B)→lv (W.take (k+1)) - g*lv (v.take (k+1))=lv (o.take k)+pw k*x - pw k*b - pw k*d→Ret (m_h3 (A++W++Z) (k:Int) (A.length:Int) o b d) (VQ (fun s:LI×Int×Int×Int=>k < v.length+1∧s.2.2.2=((k+1:Nat):Int)∧k+1≤v.length+1∧LW s.1∧s.1.length=v.length+1∧(s.2.1=0∨s.2.1=1)∧(0≤s.2.2.1∧s.2.2.1 < B)∧(k+1=v.length+1→s.2.2.1=0)∧lv (s.1.take (k+1))=lv (W.take (k+1)) - g*lv (v.take (k+1))+pw (k+1)*(s.2.2.1+s.2.1)) (fun r:LI×Int=>LW r.1∧r.1.length=v.length+1∧(r.2=0∨r.2=1)∧lv r.1=lv W - g*lv v+pw (v.length+1)*r.2)):=by
    intro d d0 d1 dk hd
    unfold m_h3
    have LR:=P3 d (show B≠0 by omega)
    have qD:=W3 d (show 0 < B by omega)
    have jK:=V4 d B
    have q0:0≤d / B:=T5 d0 A0
    have q1:d / B < B:=U6 A0 (by rw [e]; omega)
    obtain ⟨k1,k2⟩:=Tq (v:=x - b - d % B) A0 A0
    have aO:0≤(x - b - d % B) % 18446744073709551616:=P3 _ A0
    have et:ws .u64 (ws .u64 (wc .u64 x) b) (wand .u64 d 4294967295)=(x - b - d % B) % 18446744073709551616:=by
     rw [Z2 (x:=x) ⟨Nx.1,A0⟩,N8 ⟨d0,d1⟩,C7,C7]; omega
    rw [U0 (x:=(k:Int)) (y:=(A.length:Int)) A0 A0,V5 (iS hx) A0,obs,et,M8,En aO,z7 d0,k1,k2,J0,E4,Z0]
    have jJ:0≤x - b - d % B+B*(if x - b - d % B < 0 then 1 else 0)∧x - b - d % B+B*(if x - b - d % B < 0 then 1 else 0) < B:=by split<;>omega
    refine ⟨A0,A0,_,rfl,OR,Xw,A0,U8 o1 jJ,by show (o.set k _).length=_; rw [N3,o2],by show (if x - b - d % B < 0 then (1:Int) else 0)=0∨(if x - b - d % B < 0 then (1:Int) else 0)=1; split<;>omega,⟨q0,q1⟩,fun lM=>by show d / B=0; exact Ya d0 (dk A0),?_⟩
    show lv ((o.set k _).take (k+1))=_+pw (k+1)*(d / B+(if x - b - d % B < 0 then 1 else 0))
    rw [ve A0,hd]
    simp only [pw]
    generalize (if x - b - d % B < 0 then (1:Int) else 0)=β
    generalize d / B=q at*
    generalize d % B=r at*
    rw [← jK]
    grind
   rw [O0]
   refine ⟨fun hlt=>?_,fun tx=>?_⟩
   ·obtain ⟨y,hy⟩:=Q4 (l:=v) (k:=k) A0
    have Zz:=LW.get hv hy
    have p0:=O3 hg.1 Zz.1
    have p1:g*y≤4294967295*4294967295:=K8 A0 A0 Zz.1 A0
    rw [V5 hy rfl,obs,Z2 (x:=y) ⟨Zz.1,A0⟩,de ⟨p0,A0⟩,V6 ⟨A0,A0⟩]
    refine key (c+g*y) A0 A0 (fun h=>absurd h A0) ?_
    rw [O4 hx,O4 hy,hI]
    grind
   ·refine key c c1.1 A0 (fun _=>c1.2) ?_
    rw [O4 hx,pe (a:=v) A0,hI]
    grind
  ·have BN:k=v.length+1:=A0
   have KO:=c2 BN
   subst BN
   rw [I5 A0,I5 A0,I5 (l:=v) A0,KO] at hI
   show lv o=_+pw (v.length+1)*b
   rw [hI]; simp
 obtain ⟨⟨o,b⟩,hL,o1,o2,b1,hO⟩:=l3
 simp only at o1 o2 b1 hO
 have RP:=G4 o1
 have lT:=Y1 o1
 rw [o2] at RP
 have uH:=M1 (v.length+1)
 have qO:mkL (0:Int) (wa .i64 (v.length:Int) 1)=some (List.replicate (v.length+1) 0):=by
  rw [U0 A0 A0]
  exact Ret.eq (by rw [J5]; exact ⟨A0,A0,by rw [show ((v.length:Int)+1).toNat=v.length+1 by omega]⟩)
 refine ⟨o,?_,o1,A0,?_⟩
 ·unfold m_h5
  rw [qO,obs,hL,obs]
  simp only
  rcases b1 with hb | hb
  ·rw [hb] at hO
   rw [M0 hb,C0]
   refine Ret.eq ?_
   refine Zw (Q0 (Post:=fun r=>r=A++o++Z) (v.length+1) (fun k (s:LI×Int)=>s=(A++(o.take k++W.drop k)++Z,(k:Int))∧k≤v.length+1) ⟨H0,A0⟩ ?_ A0) ?_
   ·rintro k _ hk ⟨rfl,EL⟩
    unfold m_h2
    simp only
    rw [O0]
    refine ⟨fun hle=>?_,fun NK=>⟨_,rfl,?_⟩⟩
    ·obtain ⟨x,hx⟩:=Q4 (l:=o) (k:=k) A0
     obtain ⟨y,hy⟩:=Q4 (l:=W) (k:=k) A0
     have h1:=(Z1.1 hy)
     rw [V5 hx rfl,obs,U0 (x:=(k:Int)) (y:=(A.length:Int)) A0 A0,J0,E4]
     have hlen:(A++(o.take k++W.drop k)++Z).length=A.length+W.length+Z.length:=by
      simp only [Q1,B4,U9]; omega
     refine ⟨A0,by rw [hlen]; omega,_,rfl,A0,?_,A0⟩
     rw [U0 A0 A0,show ((k:Int)+(A.length:Int)).toNat=A.length+k by omega]
     have oP:(o.take k).length=k:=by rw [B4]; omega
     have iP:(A++(o.take k++W.drop k)++Z).set (A.length+k) x=A++(o.take (k+1)++W.drop (k+1))++Z:=by
      have AG:W.drop k=y::W.drop (k+1):=by rw [Ua h1.1,h1.2]
      rw [Z7,Av _ _ A0,wv,Z7,Av _ _ A0,oP,E6,AG,tks hx]
      simp only [Z7,List.cons_append,Gc,List.set_cons_zero]
     rw [iP]; rfl
    ·have BN:k=v.length+1:=A0
     subst BN
     show A++(o.take (v.length+1)++W.drop (v.length+1))++Z=_
     rw [I5 A0,X9 A0,Ze]
   ·rintro _ rfl
    exact ⟨_,rfl,rfl⟩
  ·rw [hb] at hO
   rw [B0,B0]
 ·intro hle
  rcases b1 with hb | hb
  ·rw [hb] at hO; omega
  ·rw [hb] at hO; omega
theorem iE {b u0 v:LI} {K m:Nat} (hu:LW u0) (hv:LW v) (dB:v.length=m+1) (QK:b.length=m+1) (YL:u0.length=K+m+1) (hK:K+m≤4000) (SA:∀ x,v[m]?=some x→0 < x) (h0:lv (u0.drop K) < lv v):
  Ret (loop (m_h7 b v) (u0,List.replicate K 0,(K:Int) - 1)) (fun r=>LW r.2∧r.2.length=K∧LW r.1∧r.1.length=u0.length∧lv u0=lv r.2*lv v+lv r.1∧lv r.1 < lv v):=by
 have e:B=4294967296:=rfl
 refine (Q0 (Post:=fun r:LI×LI=>LW r.2∧r.2.length=K∧LW r.1∧r.1.length=u0.length∧lv u0=lv r.2*lv v+lv r.1∧lv r.1 < lv v) K (fun k (s:LI×LI×Int)=>s.2.2=(K:Int) - 1 - k∧k≤K∧LW s.2.1∧s.2.1.length=K∧LW s.1∧s.1.length=u0.length∧s.1.take (K - k)=u0.take (K - k)∧lv (u0.drop (K - k))=lv (s.2.1.drop (K - k))*lv v+lv (s.1.drop (K - k))∧lv (s.1.drop (K - k)) < lv v) ⟨by show (K:Int) - 1=_; omega,A0,ob K,U4 ..,hu,rfl,rfl,by show lv (u0.drop (K - 0))=lv ((List.replicate K (0:Int)).drop (K - 0))*lv v+lv (u0.drop (K - 0)); rw [Db,Sd,E6]; simp [lv],h0⟩ ?_ A0)
 rintro k ⟨u,q,_⟩ hk ⟨rfl,DL,q1,q2,u1,u2,u3,u4,u5⟩
 simp only at q1 q2 u1 u2 u3 u4 u5
 unfold m_h7
 simp only
 rw [O0]
 refine ⟨fun tx=>?_,fun hlt=>⟨_,rfl,q1,q2,u1,u2,?_,?_⟩⟩
 ·obtain ⟨J,hJ⟩:∃ J:Nat,K=J+(k+1):=⟨K - (k+1),A0⟩
  have e1:(K:Int) - 1 - (k:Int)=(J:Int):=A0
  have e2:K - k=J+1:=A0
  have e3:K - (k+1)=J:=A0
  rw [e2] at u3 u4 u5
  obtain ⟨x,hx⟩:=Q4 (l:=u) (k:=J) A0
  have Nx:=LW.get u1 hx
  have VK:u0[J]?=some x:=by
   have h1:(u.take (J+1))[J]?=u[J]?:=by rw [H6,C0]
   have h2:(u0.take (J+1))[J]?=u0[J]?:=by rw [H6,C0]
   rw [← h2,← u3,h1]; exact hx
  have hD:=W5 hx
  have IM:=W5 VK
  have PI:=G4 hv
  rw [dB] at PI
  have IR:=Y1 (LW.drop u1 (J+1))
  have dC:u=u.take J++(u.drop J).take (m+2)++u.drop (J+(m+2)):=by
   rw [Z7]
   have h1:(u.drop J).take (m+2)++u.drop (J+(m+2))=u.drop J:=by rw [← Wa,Ra]
   rw [h1,Ra]
  have xJ:(u.take J).length=J:=by rw [B4]; omega
  have ON:((u.drop J).take (m+2)).length=m+2:=by rw [B4,U9]; omega
  have XI:LW ((u.drop J).take (m+2)):=LW.take (LW.drop u1 J) _
  have WI:LW (u.drop (J+(m+2))):=LW.drop u1 _
  have sK:lv (u.drop J)=lv ((u.drop J).take (m+2))+pw (m+2)*lv (u.drop (J+(m+2))):=by
   rw [M7 (u.drop J) (k:=m+2) (by rw [U9]; omega),Wa]
  have UJ:lv (u.drop J) < lv v*B:=by
   have:B*(lv (u.drop (J+1))+1)≤B*lv v:=K3 A0 A0
   rw [T6,J6] at this
   rw [P2 (lv v)]; omega
  have QP:=Y1 XI
  have NP:=Y1 WI
  have sN:pw (m+2)=B*pw (m+1):=rfl
  have sS:lv v*B≤pw (m+2):=by
   rw [sN,P2 B]; exact D3 A0 A0
  have LL:lv (u.drop (J+(m+2)))=0:=by
   refine H1 fun hc=>?_
   have:pw (m+2)*1≤pw (m+2)*lv (u.drop (J+(m+2))):=K3 A0 (by have:=M1 (m+2); omega)
   omega
  rw [LL,Q3,L8] at sK
  have NB:0 < lv v:=A0
  have rD:0≤lv (u.drop J) / lv v:=T5 A0 A0
  have QG:lv (u.drop J) / lv v < B:=U6 NB (by rw [P2]; exact UJ)
  have jK:=V4 (lv (u.drop J)) (lv v)
  have DH:=P3 (lv (u.drop J)) (show lv v≠0 by omega)
  have oI:=W3 (lv (u.drop J)) NB
  obtain ⟨vt,gt⟩:=Q4 (l:=v) (k:=m) A0
  obtain ⟨w1,k1⟩:=Q4 (l:=u) (k:=J+m) A0
  obtain ⟨wt,kt⟩:=Q4 (l:=u) (k:=J+(m+1)) A0
  have bt:=LW.get hv gt
  have c1:=LW.get u1 k1
  have ct:=LW.get u1 kt
  have hvt:=SA vt gt
  have hV:lv v=vt*pw m+lv (v.take m):=by
   rw [M7 v (show m≤v.length by omega),W5 gt,X9 A0]
   simp only [lv]; grind
  have hU:lv (u.drop J)=(wt*B+w1)*pw m+lv ((u.drop J).take m):=by
   rw [M7 (u.drop J) (show m≤(u.drop J).length by rw [U9]; omega),Wa,W5 k1,show J+m+1=J+(m+1) by omega,W5 kt,show J+(m+1)+1=J+(m+2) by omega,LL]
   grind
  have tv:=ga hv (i:=m) A0
  have tw:=ga (LW.drop u1 J) (i:=m) (by rw [U9]; omega)
  have tx:lv (u.drop J) / lv v*vt≤wt*B+w1:=Mt (P:=pw m) (Qt.ediv NB) (M1 m) hU tw.2 hV tv.1 hvt rD
  have et:wor .u64 (wslc .u64 (wc .u64 wt) 32) (wc .u64 w1)=wt*B+w1:=by
   rw [Z2 (x:=wt) ⟨ct.1,A0⟩,Z2 (x:=w1) ⟨c1.1,A0⟩,Qc ct,Za ct c1]
  have t0:0≤wt*B+w1:=by have:=O3 ct.1 (show 0≤B by omega); omega
  have t1:wt*B+w1 < 18446744073709551616:=by rw [e]; omega
  have mK:wc .u64 vt=vt:=Z2 ⟨A0,A0⟩
  have VL:wq .u64 (wt*B+w1) vt=some ((wt*B+w1) / vt):=by
   unfold wq
   have h0:0≤(wt*B+w1) / vt:=T5 t0 A0
   have h1:(wt*B+w1) / vt≤wt*B+w1:=Xd _ t0
   rw [B0,Nh t0,IntWalk.u64_in _ ⟨h0,A0⟩]
  have EH:lv (u.drop J) / lv v≤(wt*B+w1) / vt:=(ff A0).2 tx
  have JL:(b.length:Int)=((m+1:Nat):Int):=by rw [QK]
  have i1:wa .i64 (J:Int) ((m+1:Nat):Int)=((J+(m+1):Nat):Int):=by rw [U0 A0 A0]; omega
  have i2:ws .i64 ((J+(m+1):Nat):Int) 1=((J+m:Nat):Int):=by rw [C3 A0 A0]; omega
  have i3:ws .i64 ((m+1:Nat):Int) 1=(m:Int):=by rw [C3 A0 A0]; omega
  rw [e1,JL,i1,i2,i3,V5 kt rfl,obs,V5 k1 rfl,obs,V5 gt rfl,obs,et,mK,VL,obs,J0]
  have GG:0≤imin ((wt*B+w1) / vt) 4294967295∧imin ((wt*B+w1) / vt) 4294967295 < B∧lv (u.drop J) / lv v≤imin ((wt*B+w1) / vt) 4294967295:=by unfold imin; split<;>omega
  refine (Qr (Post:=fun r:LI×Int=>∃ X,r=(u.take J++X++u.drop (J+(m+2)),lv (u.drop J) / lv v)∧LW X∧X.length=m+2∧lv X=lv (u.drop J) % lv v) (fun (s:LI×Int)=>s.1=u∧s.2 < B∧lv (u.drop J) / lv v≤s.2) (fun s=>s.2.toNat) ⟨rfl,GG.2.1,GG.2.2⟩ (by show (imin _ _).toNat < _; omega) ?_).mono ?_
  ·rintro ⟨u',g⟩ ⟨BJ,sM,xQ⟩
   simp only at BJ sM xQ
   unfold m_h6
   simp only
   rw [BJ]
   obtain ⟨X,hX,x1,x2,x3⟩:=Vy (A:=u.take J) (W:=(u.drop J).take (m+2)) (Z:=u.drop (J+(m+2))) (g:=g) ⟨A0,sM⟩ XI hv A0 A0 A0
   rw [← dC,← sK,xJ] at hX
   rw [← sK] at x3
   rw [hX,obs]
   by_cases hle:g*lv v≤lv (u.drop J)
   ·rw [M0 hle,M0 rfl]
    have qM:g=lv (u.drop J) / lv v:=Int.le_antisymm ((ff NB).2 hle) xQ
    refine ⟨_,rfl,X,by rw [qM],x1,A0,?_⟩
    rw [x3 hle,qM]
    have h8:lv (u.drop J) / lv v*lv v=lv v*(lv (u.drop J) / lv v):=P2 _ _
    omega
   ·rw [K0 hle,K0 H0]
    have hlt:lv (u.drop J) / lv v < g:=by
     refine H1 fun hc=>hle ?_
     exact (ff NB).1 A0
    have hw:ws .u64 g 1=g - 1:=by rw [C7]; omega
    refine ⟨_,rfl,⟨rfl,?_,?_⟩,?_⟩
    ·show ws .u64 g 1 < B; omega
    ·show _≤ws .u64 g 1; omega
    ·show (ws .u64 g 1).toNat < g.toNat; omega
  ·rintro _ ⟨X,rfl,x1,x2,x3⟩
   simp only
   rw [B5 ⟨rD,QG⟩,J0,E4,Z0]
   have ZG:(u.take J++X++u.drop (J+(m+2))).length=u0.length:=by
    rw [Q1,Q1,xJ,x2,U9]; omega
   have EM:lv ((u.take J++X++u.drop (J+(m+2))).drop J)=lv X:=by
    rw [Z7,Qv xJ,pb,LL]; omega
   refine ⟨A0,A0,_,rfl,A0,?_,A0,U8 q1 ⟨rD,QG⟩,by show (q.set J _).length=K; rw [N3,q2],LW.app.2 ⟨LW.app.2 ⟨LW.take u1 _,x1⟩,WI⟩,ZG,?_,?_,?_⟩
   ·show ws .i64 (J:Int) 1=_; rw [C3 A0 A0]; omega
   ·rw [e3]
    show (u.take J++X++u.drop (J+(m+2))).take J=_
    rw [Z7,xv xJ]
    have h1:u.take J=(u.take (J+1)).take J:=by rw [Ue,G6 A0]
    rw [h1,u3,Ue,G6 A0]
   ·rw [e3]
    show lv (u0.drop J)=lv ((q.set J (lv (u.drop J) / lv v)).drop J)*lv v+lv ((u.take J++X++u.drop (J+(m+2))).drop J)
    have oO:(q.set J (lv (u.drop J) / lv v))[J]?=some (lv (u.drop J) / lv v):=by rw [D5]; omega
    rw [EM,x3,W5 oO,Lb A0,IM,u4]
    generalize lv (u.drop J) / lv v=Q at*
    generalize lv (u.drop J) % lv v=R at*
    have h9:(Q+B*lv (q.drop (J+1)))*lv v=lv v*Q+B*(lv (q.drop (J+1))*lv v):=by grind
    rw [h9,T6]
    omega
   ·rw [e3]
    show lv ((u.take J++X++u.drop (J+(m+2))).drop J) < lv v
    rw [EM,x3]; exact oI
 ·have ek:K - k=0:=A0
  rw [ek] at u4
  exact u4
 ·have ek:K - k=0:=A0
  rw [ek] at u5
  exact u5
theorem wC {l:LI} (hn:l.length≤1000000) {N:Int} {q:Nat} (hq:wqc .i64 N 32=(q:Int)):∃ b,loop (m_u N l) (false,0)=some b∧((∀ x,x∈l.take q→x=0)→b=false):=by
 refine Q0 l.length (fun k (t:Bool×Int)=>t.2=(k:Int)∧k≤l.length∧((∀ x,x∈l.take q→x=0)→t.1=false)) ⟨rfl,A0,fun _=>rfl⟩ ?_ A0
 rintro k ⟨b,_⟩ hk ⟨rfl,_,h1⟩
 simp only at h1
 unfold m_u
 simp only
 rw [hq,O0]
 refine ⟨fun hc=>?_,fun _=>⟨_,rfl,h1⟩⟩
 rw [w4,decide_eq_true_eq,decide_eq_true_eq] at hc
 obtain ⟨x,hx⟩:=Q4 (l:=l) (k:=k) A0
 have e1:∃ c,(if b=true then some true else (getI l (k:Int)).bind fun x93=>some (!(decide (x93=0))))=some c∧((∀ x,x∈l.take q→x=0)→c=false):=by
  split
  ·rename_i hb
   exact ⟨_,rfl,fun h=>by rw [h1 h] at hb; cases hb⟩
  ·rw [V5 hx rfl,obs]
   refine ⟨_,rfl,fun h=>?_⟩
   have hm:x∈l.take q:=by
    have:(l.take q)[k]?=some x:=by rw [H6,C0]; exact hx
    exact S8 this
   rw [h x hm]; rfl
 obtain ⟨c,rJ,HE⟩:=e1
 rw [rJ,obs]
 exact ⟨_,rfl,A0,Xw,A0,HE⟩
theorem dr {l:LI} (hl:LW l) (hn:l.length≤5000) {q s:Nat} (EH:q≤1000000) (hs:s < 32):Ret (m_v l ((32*q+s:Nat):Int)) (fun r=>LW r.1∧r.1.length≤l.length∧lv r.1=lv l / (pw q*2 ^ s)∧(Tm l→lv l % (pw q*2 ^ s)=0→r.2=false)):=by
 have e:B=4294967296:=rfl
 obtain ⟨hq,hr⟩:=oh (q:=q) A0 hs
 obtain ⟨p1,p2,p3,p4⟩:=A8 hs
 obtain ⟨b0,sJ,SG⟩:=wC (l:=l) A0 hq
 have ppos:=M1 q
 unfold m_v
 rw [sJ,obs,hq,J0]
 have hZ:Tm l→lv l % (pw q*2 ^ s)=0→l.length≤q→l=[]:=fun ht hm h0=>by
  have hb:=G4 hl
  have hle:pw l.length≤pw q:=y6 A0
  have QJ:pw q*1≤pw q*2 ^ s:=K3 A0 A0
  rw [X4 (Y1 hl) A0] at hm
  exact fb hl (b:=[]) (by intro x hx; cases hx) ht P8 hm
 have AH:Tm l→lv l % (pw q*2 ^ s)=0→b0=false:=fun ht hm=>by
  by_cases h0:l.length≤q
  ·refine SG ?_
   rw [hZ ht hm h0]
   intro x hx; simp at hx
  ·exact SG (bh hl hs A0 hm).1
 refine (Q0 (Post:=fun o:Bool×LI=>LW o.2∧o.2.length≤l.length∧lv o.2=lv l / (pw q*2 ^ s)∧(Tm l→lv l % (pw q*2 ^ s)=0→o.1=false)) (l.length - q) (fun i (t:Bool×LI×Int)=>t.2.2=((q+i:Nat):Int)∧LW t.2.1∧t.2.1.length=i∧lv t.2.1+pw i*(lv (l.drop (q+i)) / 2 ^ s)=lv l / (pw q*2 ^ s)∧(Tm l→lv l % (pw q*2 ^ s)=0→t.1=false)) ⟨rfl,by intro x hx; simp at hx,rfl,?_,AH⟩ ?_ A0).mono ?_
 ·show lv []+pw 0*(lv (l.drop (q+0)) / 2 ^ s)=_
  rw [T9]
  by_cases h0:q≤l.length
  ·rw [Fu hl h0 s]; simp [lv,pw]
  ·have hb:=G4 hl
   have hle:pw l.length≤pw q:=y6 A0
   have QJ:pw q*1≤pw q*2 ^ s:=K3 A0 A0
   rw [Ya (Y1 hl) A0,X9 A0]
   show (0:Int)+1*(0 / 2 ^ s)=0
   rw [Xl]; rfl
 ·rintro i ⟨b,o,_⟩ hi ⟨rfl,h1,h2,h3,h4⟩
  simp only at h1 h2 h3 h4
  unfold m_t
  simp only
  rw [O0]
  refine ⟨fun hlt=>?_,fun tx=>⟨_,rfl,h1,by show o.length≤_; omega,?_,h4⟩⟩
  ·have vI:q+i < l.length:=A0
   obtain ⟨x,hx⟩:=Q4 (l:=l) (k:=q+i) vI
   have Nx:=LW.get hl hx
   have eqj:wa .i64 ((q+i:Nat):Int) 1=((q+i+1:Nat):Int):=by rw [U0 A0 A0]; omega
   rw [V5 hx rfl,obs,eqj]
   have key:∀ y E:Int,0≤y→y < B→0≤E→lv (l.drop (q+i+1))=y+B*E→Ret (m_s ((q+i:Nat):Int) ((32*q+s:Nat):Int) l o b (x+B*y)) (VQ (fun t':Bool×LI×Int=>i < l.length - q∧t'.2.2=((q+(i+1):Nat):Int)∧LW t'.2.1∧t'.2.1.length=i+1∧lv t'.2.1+pw (i+1)*(lv (l.drop (q+(i+1))) / 2 ^ s)=lv l / (pw q*2 ^ s)∧(Tm l→lv l % (pw q*2 ^ s)=0→t'.1=false)) (fun o:Bool×LI=>LW o.2∧o.2.length≤l.length∧lv o.2=lv l / (pw q*2 ^ s)∧(Tm l→lv l % (pw q*2 ^ s)=0→o.1=false))):=by
    intro y E y0 y1 E0 hE
    have t0:0≤x+B*y:=by have:=O3 (show 0≤B by omega) y0; omega
    have t1:x+B*y < 18446744073709551616:=by rw [e]; omega
    have FI:wshr .u64 (x+B*y) (wrc ((32*q+s:Nat):Int) 32)=some ((x+B*y) / 2 ^ s):=by
     rw [hr]
     unfold wshr
     rw [B0,Z0]
     show some (Int.fdiv _ (2 ^ min s 64))=_
     rw [G6 A0,Wd _ A0]
    have hm:=P3 ((x+B*y) / 2 ^ s) (show B≠0 by omega)
    have qD:=W3 ((x+B*y) / 2 ^ s) (show 0 < B by omega)
    have fin:∀ c:Bool,(Tm l→lv l % (pw q*2 ^ s)=0→c=false)→Ret (m_r (x+B*y) ((32*q+s:Nat):Int) o ((q+i:Nat):Int) c) (VQ (fun t':Bool×LI×Int=>i < l.length - q∧t'.2.2=((q+(i+1):Nat):Int)∧LW t'.2.1∧t'.2.1.length=i+1∧lv t'.2.1+pw (i+1)*(lv (l.drop (q+(i+1))) / 2 ^ s)=lv l / (pw q*2 ^ s)∧(Tm l→lv l % (pw q*2 ^ s)=0→t'.1=false)) (fun o:Bool×LI=>LW o.2∧o.2.length≤l.length∧lv o.2=lv l / (pw q*2 ^ s)∧(Tm l→lv l % (pw q*2 ^ s)=0→o.1=false))):=by
     intro c hc
     unfold m_r
     rw [FI,obs,M8,J0,D2]
     refine ⟨by rw [h2]; simp only [I2,Y2]; omega,_,rfl,A0,by show wa .i64 ((q+i:Nat):Int) 1=_; rw [eqj]; rfl,LW.app.2 ⟨h1,LW.one.2 ⟨hm,qD⟩⟩,by show (o++[_]).length=_; rw [Q1,h2]; rfl,?_,hc⟩
     show lv (o++[(x+B*y) / 2 ^ s % B])+pw (i+1)*(lv (l.drop (q+i+1)) / 2 ^ s)=_
     rw [pa,h2,← h3,W5 hx,hE,cr hs Nx y0]
     simp only [pw]
     generalize (x+B*y) / 2 ^ s % B=u
     generalize (y+B*E) / 2 ^ s=v
     grind
    unfold m_s
    have hb:∃ c:Bool,(if ((q+i:Nat):Int)=wqc .i64 ((32*q+s:Nat):Int) 32 then (getI l ((q+i:Nat):Int)).bind fun x76=>(wshl .u32 1 (wrc ((32*q+s:Nat):Int) 32)).bind fun x77=>some (!(decide ((wand .u32 x76 (ws .u32 x77 1))=0))) else some false)=some c∧(lv l % (pw q*2 ^ s)=0→c=false):=by
     split
     ·rename_i he
      rw [hq] at he
      have HJ:i=0:=A0
      subst HJ
      rw [V5 hx rfl,obs,hr,rr hs,obs]
      refine ⟨_,rfl,fun hm=>?_⟩
      rw [Jn hs Nx ((bh hl hs A0 hm).2 x hx)]; rfl
     ·exact ⟨_,rfl,fun _=>rfl⟩
    obtain ⟨c,hc,HE⟩:=hb
    rw [hc,obs,O0]
    exact ⟨fun ht=>fin _ fun _ hm=>(by rw [HE hm] at ht; cases ht),fun _=>fin _ h4⟩
   have RH:wc .u64 x=x:=Z2 ⟨Nx.1,A0⟩
   rw [O0]
   refine ⟨fun Px=>?_,fun Px=>?_⟩
   ·obtain ⟨y,hy⟩:=Q4 (l:=l) (k:=q+i+1) A0
    have Zz:=LW.get hl hy
    have iH:wor .u64 (wc .u64 x) (wslc .u64 (wc .u64 y) 32)=x+B*y:=by
     rw [RH,Z2 (x:=y) ⟨Zz.1,A0⟩,Qc Zz]
     have:wor .u64 x (y*B)=wor .u64 (y*B) x:=by unfold wor; rw [BitVec.or_comm]
     rw [this,Za Zz Nx,P2]; omega
    rw [V5 hy rfl,obs,iH]
    exact key y (lv (l.drop (q+i+1+1))) Zz.1 Zz.2 (Y1 (LW.drop hl _)) (W5 hy)
   ·have hE:lv (l.drop (q+i+1))=0:=by rw [X9 A0]; rfl
    have:=key 0 0 A0 A0 A0 (by rw [hE]; rfl)
    rw [Q3,L8] at this
    rw [RH]
    exact this
  ·rw [← h3,X9 A0]
   show lv o=lv o+pw i*(0 / 2 ^ s)
   rw [Xl]; omega
 ·rintro ⟨b,o⟩ ⟨h1,h2,h3,h4⟩
  exact ⟨_,rfl,h1,h2,h3,h4⟩
theorem Gz {l:LI} (hl:LW l) (hn:l.length≤5000) {s:Nat} (hs:s < 32):Ret (m_v l (s:Int)) (fun r=>LW r.1∧r.1.length≤l.length∧lv r.1=lv l / 2 ^ s):=by
 have:=dr hl hn (q:=0) A0 hs
 rw [show 32*0+s=s by omega] at this
 exact this.mono fun u hu=>⟨hu.1,hu.2.1,by rw [hu.2.2.1]; show _ / (1*_)=_; rw [M4]⟩
theorem fE {a b:LI} (ha:LW a) (hb:LW b) (ta:Tm a) (tb:Tm b) (kx:b≠[]) (hn:a.length≤900) (hm:b.length≤900):Ret (m_h9 a b) (fun r=>LW r.1∧r.1.length≤901∧LW r.2∧r.2.length≤901∧lv r.1=lv a / lv b∧lv r.2=lv a % lv b):=by
 have e:B=4294967296:=rfl
 have QK:0 < b.length:=Jb.2 kx
 have oF:0 < lv b:=by
  have h1:=G9 hb tb kx
  have:=M1 (b.length - 1)
  omega
 have h0:=Y1 ha
 unfold m_h9
 rw [Sk ha hb ta tb A0 A0,obs]
 by_cases hlt:lv a < lv b
 ·rw [M0 hlt,C0]
  exact ⟨_,rfl,by intro x hx; simp at hx,H0,ha,by show a.length≤901; omega,by rw [Ya h0 hlt]; rfl,by rw [X4 h0 hlt]⟩
 obtain ⟨m,oK⟩:∃ m,b.length=m+1:=⟨b.length - 1,A0⟩
 have DG:b.length≤a.length:=by
  refine H1 fun hc=>?_
  have:=D7 ha hb ta tb A0
  omega
 obtain ⟨bt,gt⟩:=Q4 (l:=b) (k:=m) A0
 have LN:=LW.get hb gt
 have fL:0 < bt:=by
  have:=tb bt (by rw [Sl,oK]; exact gt)
  omega
 obtain ⟨s,hs,TG,ZH,gH⟩:=qt fL LN.2
 obtain ⟨p1,p2,p3,p4⟩:=A8 TG
 have AR:=M1 m
 have hV:lv b=lv (b.take m)+pw m*bt:=by rw [← O4 gt,I5 A0]
 have fT:=ga hb (i:=m) A0
 have JP:bt < 2 ^ (32 - s):=by
  refine H1 fun hc=>?_
  have:2 ^ (32 - s)*2 ^ s≤bt*2 ^ s:=D3 A0 A0
  rw [P2] at this; omega
 have h3:(bt+1)*2 ^ s≤B:=by
  have:(bt+1)*2 ^ s≤2 ^ (32 - s)*2 ^ s:=D3 A0 A0
  rw [P2 (2 ^ (32 - s))] at this; omega
 have t1:lv b*2 ^ s < pw (m+1):=by
  have h4:lv b*2 ^ s < (pw m*(bt+1))*2 ^ s:=Mb (by rw [T6]; omega) p1
  have h5:pw m*((bt+1)*2 ^ s)≤pw m*B:=K3 h3 A0
  have h6:pw (m+1)=B*pw m:=rfl
  rw [y7] at h4
  rw [h6,P2 B]; omega
 have t2:2147483648*pw m≤lv b*2 ^ s:=by
  have h4:pw m*bt*2 ^ s≤lv b*2 ^ s:=D3 A0 A0
  have h5:pw m*2147483648≤pw m*(bt*2 ^ s):=K3 A0 A0
  rw [y7] at h4
  rw [P2 2147483648]; omega
 have eL:¬ (if lv a < lv b then (-1:Int) else if lv b < lv a then 1 else 0) < 0:=by rw [K0 hlt]; split<;>omega
 have HI:ws .i64 (b.length:Int) 1=(m:Int):=by rw [oK,C3 A0 A0]; omega
 rw [K0 eL,HI,V5 gt rfl,obs,hs,obs]
 refine Zw (ir ha A0 TG) ?_
 rintro u0 ⟨w1,w2,w3⟩
 refine Zw (ir hb A0 TG) ?_
 rintro v0 ⟨y1,y2,y3⟩
 rw [J0,ic]
 refine ⟨A0,A0,A0,?_⟩
 rw [Z0,show ((0:Int)).toNat=0 from rfl,W9,oK,B0]
 have v1:LW (v0.take (m+1)):=LW.take y1 _
 have dB:(v0.take (m+1)).length=m+1:=by rw [B4]; omega
 have v3:lv (v0.take (m+1))=lv b*2 ^ s:=by
  have h9:lv v0=lv (v0.take (m+1))+pw (m+1)*lv (v0.drop (m+1)):=M7 v0 A0
  have h8:=Y1 v1
  have h7:=Y1 (LW.drop y1 (m+1))
  have h6:lv (v0.drop (m+1))=0:=by
   refine H1 fun hc=>?_
   have:pw (m+1)*1≤pw (m+1)*lv (v0.drop (m+1)):=K3 A0 (by have:=M1 (m+1); omega)
   omega
  rw [h6] at h9; omega
 generalize v0.take (m+1)=v at*
 obtain ⟨K,hK⟩:∃ K,a.length=K+m:=⟨a.length - m,A0⟩
 unfold m_h8
 have IS:wa .i64 (ws .i64 (a.length:Int) (b.length:Int)) 1=(K:Int):=by
  rw [C3 A0 A0,U0 A0 A0]; omega
 have TP:ws .i64 (a.length:Int) (b.length:Int)=(K:Int) - 1:=by rw [C3 A0 A0]; omega
 rw [IS,TP,J0,J5]
 refine ⟨A0,A0,?_⟩
 rw [Z0,J0]
 have SA:∀ x,v[m]?=some x→0 < x:=by
  intro x hx
  refine H1 fun hc=>?_
  have MT:lv v=lv (v.take m)+pw m*x:=by rw [← O4 hx,I5 A0]
  have ht:=ga v1 (i:=m) A0
  have h4:pw m*x≤pw m*0:=K3 A0 A0
  omega
 have bJ:lv (u0.drop K) < lv v:=by
  have h9:lv u0=lv (u0.take K)+pw K*lv (u0.drop K):=M7 u0 A0
  have h8:=Y1 (LW.take w1 K)
  have MM:lv u0 < pw a.length*2 ^ s:=by rw [w3]; exact Mb (G4 ha) p1
  have h7:pw K*lv (u0.drop K) < pw a.length*2 ^ s:=A0
  have h6:pw a.length=pw K*pw m:=by rw [hK,W6]
  rw [h6,y7] at h7
  have h5:lv (u0.drop K) < pw m*2 ^ s:=TF h7 (y8 (M1 K))
  have h4:pw m*2 ^ s≤pw m*2147483648:=K3 p2 A0
  rw [P2 (pw m) 2147483648] at h4
  rw [v3]; omega
 refine (iE w1 v1 dB oK A0 A0 SA bJ).mono ?_
 rintro ⟨u,q⟩ ⟨q1,q2,u1,u2,u3,u4⟩
 simp only at q1 q2 u1 u2 u3 u4 ⊢
 rw [O8 u1 A0,obs,J0]
 have lu:=U5 u1
 refine (Gz (X3 u1) A0 TG).mono ?_
 rintro ⟨d,lost⟩ ⟨d1,d2,d3⟩
 simp only at d1 d2 d3 ⊢
 rw [O8 q1 A0,obs,O8 d1 A0,obs]
 rw [N1] at d3
 have lq:=U5 q1
 have ld:=U5 d1
 refine ⟨_,rfl,X3 q1,by show (trimL q).length≤901; omega,X3 d1,by show (trimL d).length≤901; omega,?_⟩
 show lv (trimL q)=_∧lv (trimL d)=_
 rw [N1,N1]
 have XO:=Y1 u1
 rw [w3,v3] at u3
 rw [v3] at u4
 have hR:lv u=(lv a - lv q*lv b)*2 ^ s:=by
  have:(lv a - lv q*lv b)*2 ^ s=lv a*2 ^ s - lv q*(lv b*2 ^ s):=by grind
  omega
 have r0:0≤lv a - lv q*lv b:=by
  refine H1 fun hc=>?_
  have:(lv a - lv q*lv b)*2 ^ s≤(-1)*2 ^ s:=D3 A0 A0
  omega
 have r1:lv a - lv q*lv b < lv b:=by
  rw [hR] at u4
  exact SF u4 (y8 p1)
 have hq:lv q=lv a / lv b:=Qt.eq (u:=lv a) (v:=lv b) ⟨A0,by rw [Ob,M4]; omega⟩ oF
 refine ⟨hq,?_⟩
 rw [d3,hR,dm _ A0]
 have h9:=V4 (lv a) (lv b)
 rw [← hq] at h9
 have h8:lv q*lv b=lv b*lv q:=P2 _ _
 omega
theorem Zr {x y z w:Int} (hy:y≠0) (h:x=y*z+w) (h0:0≤w) (h1:w < y∨w < -y):z=x / y∧w=x % y:=by
 have h4:w=x % y:=by
  rw [h,PF]
  rcases h1 with h1 | h1
  ·rw [X4 h0 h1]
  ·have:=Int.emod_neg w y
   rw [← this,X4 h0 h1]
 refine ⟨?_,h4⟩
 have h5:=V4 x y
 have h6:y*(z - x / y)=0:=by rw [A9]; omega
 rcases K4.1 h6 with h | h
 ·exact absurd h hy
 ·omega
theorem nd {s:Bool} {a:LI} (ha:LW a) (hn:a.length≤1000000):Ret (m_k s a) (fun r=>Bg (sv s a) r.1 r.2∧r.2.length≤a.length):=by
 have h:=Kj s ha hn
 obtain ⟨q,hq,hB⟩:=T8 s ha hn
 have hN:m_k s a=some q:=by unfold m_k; rw [hq,obs]
 refine ⟨q,hN,hB,?_⟩
 rw [hN] at h
 obtain rfl:=N2 h
 exact U5 ha
theorem rh {s:Bool} {a:LI} (ha:LW a) (hn:a.length≤1000000):Ret (m_o s a) (fun r=>Bg (lv a) r.1 r.2∧r.2.length≤a.length):=by
 unfold m_o
 rw [J0]
 have h:=Be false ha hn
 obtain ⟨q,hq,hB⟩:=T8 false ha hn
 refine ⟨q,hq,_,rfl,hB,?_⟩
 rw [h] at hq
 obtain rfl:=N2 hq
 exact U5 ha
theorem Gk {s t:Bool} {a b:LI} (ha:LW a) (hb:LW b) (hn:a.length≤800) (hm:b.length≤800) (kx:sv t b≠0):Ret (m_ic s a t b) (fun r=>Bg (sv s a / sv t b) r.1 r.2.1∧Bg (sv s a % sv t b) r.2.2.1 r.2.2.2):=by
 unfold m_ic
 refine Zw (nd (s:=s) ha A0) ?_
 rintro ⟨s',a'⟩ ⟨hA,lA⟩
 refine Zw (nd (s:=t) hb A0) ?_
 rintro ⟨t',b'⟩ ⟨hB,lB⟩
 simp only at hA lA hB lB ⊢
 generalize sv s a=x at*
 generalize sv t b=y at*
 have sJ:b'≠[]:=by
  rintro rfl
  have:=hB.sv
  apply kx; rw [← this]; unfold sv; split<;>rfl
 have oF:0 < lv b':=by
  have h1:=G9 hB.1 hB.2.1 sJ
  have:=M1 (b'.length - 1)
  omega
 have h0:=Y1 hA.1
 have e0:=P3 (lv a') (show lv b'≠0 by omega)
 have e1:=W3 (lv a') oF
 have jK:=V4 (lv a') (lv b')
 have zH:0≤lv a' / lv b':=T5 h0 A0
 refine Zw (fE hA.1 hB.1 hA.2.1 hB.2.1 sJ A0 A0) ?_
 rintro ⟨q,r⟩ ⟨q1,q2,r1,r2,q3,r3⟩
 simp only at q1 q2 r1 r2 q3 r3 ⊢
 refine Zw (T8 (!(s' == t')) q1 A0) ?_
 rintro ⟨qs,ql⟩ hQ
 refine Zw (T8 s' r1 A0) ?_
 rintro ⟨rs,rl⟩ hR
 simp only at hQ hR ⊢
 have jS:=T7 hA.1 (m:=800) A0
 have fS:=T7 hB.1 (m:=800) A0
 have mP:lv a' / lv b'≤lv a':=Xd _ h0
 have CR:2*pw 800≤pw 801:=by
  have:=M1 800
  show 2*pw 800≤B*pw 800
  unfold B; omega
 have CH:rl.length≤801:=by refine hR.len ?_ ?_<;>(unfold sv; split<;>omega)
 have aK:ql.length≤801:=by refine hQ.len ?_ ?_<;>(unfold sv; split<;>omega)
 rw [bc hR A0,obs,O0]
 have vx:=hA.sv
 have vy:=hB.sv
 have n1: -lv b'*(lv a' / lv b')= -(lv b'*(lv a' / lv b')):=by grind
 have n2:lv b'* -(lv a' / lv b')= -(lv b'*(lv a' / lv b')):=by grind
 have n3: -lv b'* -(lv a' / lv b')=lv b'*(lv a' / lv b'):=by grind
 refine ⟨fun hc=>?_,fun hc=>?_⟩
 ·have CD:sv s' r < 0:=by revert hc; split<;>(try split)<;>omega
  have aI:s'=true:=by
   refine H1 fun h=>?_
   unfold sv at CD; rw [K0 h] at CD
   have:=Y1 r1; omega
  subst aI
  refine Zw (rh (s:=t') hB.1 A0) ?_
  rintro ⟨bs,bl⟩ ⟨SG,AH⟩
  simp only at SG AH ⊢
  refine Zw (qh (s:=rs) (t:=bs) hR.1 SG.1 A0 A0) ?_
  rintro ⟨us,ul⟩ hU
  simp only at hU ⊢
  rw [hR.sv,SG.sv] at hU
  unfold sv at CD
  rw [M0 rfl,r3] at CD
  have vr:sv true r= - (lv a' % lv b'):=by unfold sv; rw [M0 rfl,r3]
  rw [vr] at hU
  unfold sv at vx
  rw [M0 rfl] at vx
  have fin:∀ (u:Bool) (w:LI),Bg (if t'=true then sv (!(true == t')) q+1 else sv (!(true == t')) q - 1) u w→Ret (m_ib (us,ul) u w) (fun r=>Bg (x / y) r.1 r.2.1∧Bg (x % y) r.2.2.1 r.2.2.2):=by
   intro u w hw
   obtain ⟨k1,k2⟩:=Zr (x:=x) (y:=y) (z:=if t'=true then sv (!(true == t')) q+1 else sv (!(true == t')) q - 1) (w:=- (lv a' % lv b')+lv b') kx (by
    rw [← vx,← vy]
    unfold sv
    rw [q3]
    cases t'
    ·simp
     have h7:lv b'*(-(lv a' / lv b') - 1)= -(lv b'*(lv a' / lv b')) - lv b':=by grind
     omega
    ·simp
     have h7: -lv b'*(lv a' / lv b'+1)= -(lv b'*(lv a' / lv b')) - lv b':=by grind
     omega) A0 (by
    rw [← vy]; unfold sv; split
    ·right; omega
    ·left; omega)
   exact ⟨_,rfl,hw.cast k1,hU.cast k2⟩
  rw [O0]
  refine ⟨fun ht=>?_,fun ht=>?_⟩
  ·refine Zw (ra (n:=1) A0 A0) ?_
   rintro ⟨os,ol⟩ hO
   simp only at hO ⊢
   have fM:ol.length≤1:=hO.len (by decide) (by decide)
   refine Zw (qh (s:=qs) (t:=os) hQ.1 hO.1 A0 A0) fun r hr=>?_
   rw [hQ.sv,hO.sv] at hr
   exact fin _ _ (by rw [M0 ht]; exact hr)
  ·refine Zw (ra (n:=1) A0 A0) ?_
   rintro ⟨os,ol⟩ hO
   simp only at hO ⊢
   have fM:ol.length≤1:=hO.len (by decide) (by decide)
   refine Zw (Wq (s:=qs) (t:=os) hQ.1 hO.1 A0 A0) fun r hr=>?_
   rw [hQ.sv,hO.sv] at hr
   exact fin _ _ (by rw [K0 ht]; exact hr)
 ·have oJ:0≤sv s' r:=by
   refine H1 fun h=>hc ?_
   rw [C0]; omega
  obtain ⟨k1,k2⟩:=Zr (x:=x) (y:=y) (z:=sv (!(s' == t')) q) (w:=sv s' r) kx (by
   rw [← vx,← vy]
   unfold sv
   rw [q3,r3]
   cases s'
   ·cases t'
    ·simp; omega
    ·simp; omega
   ·unfold sv at oJ
    rw [M0 rfl,r3] at oJ
    cases t'
    ·simp; omega
    ·simp; omega) oJ (by
   rw [← vy]; unfold sv; rw [r3]; split<;>split<;>omega)
  exact ⟨_,rfl,hQ.cast k1,hR.cast k2⟩
theorem L6:∀ n,pw n=2 ^ (32*n)
 | 0=>rfl
 | n+1=>by
  rw [Nat.mul_add,E5,← L6 n,P2]
  rfl
theorem DB {k n:Nat} (h:(2:Int) ^ k≤2 ^ n):k≤n:=by
 have h2:(2:Nat) ^ k≤2 ^ n:=by exact_mod_cast h
 exact (Nat.pow_le_pow_iff_right A0).1 h2
theorem gD {x y:Int} (hy:0 < y) (h:y≤x):2*(y*(x % y))≤x*y:=by
 have h1:=V4 x y
 have h2:=P3 x (show y≠0 by omega)
 have h3:=W3 x hy
 have h4:1≤x / y:=(ff hy).2 A0
 have h5:y*1≤y*(x / y):=K3 h4 A0
 have h6:2*(x % y)≤x:=A0
 have h7:2*(x % y)*y≤x*y:=D3 h6 A0
 have h8:2*(x % y)*y=2*(y*(x % y)):=by grind
 omega
theorem pD {x y:Int} (hy:0 < y):Int.gcd y (x % y)=Int.gcd x y:=by
 have h:=V4 x y
 have h2:=Int.gcd_add_mul_left_left y (x % y) (x / y)
 rw [Zv,h] at h2
 rw [Xv,h2]
structure GI (G:Nat) (n k:Nat) (x y:Int):Prop where
 gx:0≤x
 gy:0≤y
 gg:Int.gcd x y=G
 glt:0 < k→y < x
 gp:x*y*2 ^ k≤2 ^ n
theorem GI.rounds {G n k:Nat} {x y:Int} (h:GI G n k x y) (hk:0 < k) (hy:0 < y):k≤n:=by
 have h1:=h.glt hk
 have h2:0 < x*y:=Vd A0 hy
 have h3:(0:Int) < 2 ^ k:=S5 A0
 have h4:1*2 ^ k≤x*y*2 ^ k:=D3 A0 A0
 exact DB (Int.le_trans A0 h.gp)
theorem GI.step {G n k:Nat} {x y:Int} (h:GI G n k x y) (hy:0 < y) (h0:k=0→x*y*2≤2 ^ n):GI G n (k+1) y (x % y):=by
 have h2:=P3 x (show y≠0 by omega)
 have h3:=W3 x hy
 refine ⟨h.gy,h2,(pD hy).trans h.gg,fun _=>h3,?_⟩
 have hp:(0:Int) < 2 ^ k:=S5 A0
 by_cases XP:y≤x
 ·have h4:=gD hy XP
  have h5:2*(y*(x % y))*2 ^ k≤x*y*2 ^ k:=D3 h4 A0
  have h6:y*(x % y)*2 ^ (k+1)=2*(y*(x % y))*2 ^ k:=by rw [w8]; grind
  have:=h.gp
  omega
 ·have hk:k=0:=by
   refine H1 fun hc=>?_
   have:=h.glt A0
   omega
  have h4:=h0 hk
  subst hk
  rw [X4 h.gx A0]
  have:y*x*2 ^ (0+1)=x*y*2:=by rw [P2 y]; rfl
  omega
theorem Tt {s t:Bool} {a b:LI} (ha:LW a) (hb:LW b) (hn:a.length≤400) (hm:b.length≤400):Ret (m_ff s a t b) (fun r=>Bg ((Int.gcd (sv s a) (sv t b):Nat):Int) r.1 r.2):=by
 have pM:Int.gcd (sv s a) (sv t b)=Int.gcd (lv a) (lv b):=by unfold sv; cases s<;>cases t<;>simp [Int.gcd_neg,Int.neg_gcd]
 rw [pM]
 have la:=U5 ha
 have lb:=U5 hb
 obtain ⟨n,HI,jB⟩:∃ n:Nat,n < 100000∧lv a*lv b*2≤2 ^ n:=by
  refine ⟨32*400+32*400+1,A0,?_⟩
  rw [w8,E5,← L6]
  have h1:=T7 ha hn
  have h2:=T7 hb hm
  have:=K8 (y8 h1) (y8 h2) (Y1 hb) (y8 (M1 400))
  omega
 unfold m_ff
 rw [Z4 ha A0,obs,xc A0,obs,Z4 hb A0,obs,xc A0,obs,J0]
 have oL:GI (Int.gcd (lv a) (lv b)) n 0 (lv (trimL a)) (lv (trimL b)):=by
  rw [N1,N1]
  refine ⟨Y1 ha,Y1 hb,rfl,fun h=>absurd h A0,?_⟩
  rw [Rv]
  have:=O3 (Y1 ha) (Y1 hb)
  omega
 have DG:∀ x y:Int,x=lv (trimL a)→y=lv (trimL b)→x*y*2≤2 ^ n:=by
  rintro _ _ rfl rfl
  rw [N1,N1]; exact jB
 refine (Q0 (Post:=fun o:LI=>LW o∧Tm o∧o.length≤400∧lv o=((Int.gcd (lv a) (lv b):Nat):Int)) (n+1) (fun k (p:LI×LI)=>(LW p.1∧Tm p.1∧p.1.length≤400)∧(LW p.2∧Tm p.2∧p.2.length≤400)∧GI (Int.gcd (lv a) (lv b)) n k (lv p.1) (lv p.2)∧(k=0→p=(trimL a,trimL b))) ⟨⟨X3 ha,A4 a,by show (trimL a).length≤400; omega⟩,⟨X3 hb,A4 b,by show (trimL b).length≤400; omega⟩,oL,fun _=>rfl⟩ ?_ A0).mono ?_
 ·rintro k ⟨x,y⟩ hk ⟨⟨x1,x2,x3⟩,⟨y1,y2,y3⟩,hG,pJ⟩
  simp only at x1 x2 x3 y1 y2 y3 hG
  unfold m_fe
  simp only
  rw [O0]
  refine ⟨fun hy=>?_,fun hy=>⟨_,rfl,x1,x2,x3,?_⟩⟩
  ·have kx:y≠[]:=by rintro rfl; simp at hy
   have hyp:0 < lv y:=by
    have h1:=G9 y1 y2 kx
    have:=M1 (y.length - 1)
    omega
   obtain ⟨q,r,hd,q1,q2,r1,r2,q3,r3⟩:=Cu x1 y1 x2 y2 kx A0 A0
   rw [hd,obs]
   have kB:=hG.step hyp (fun h=>by
    have:=pJ h
    injection this with e1 e2
    exact DG _ _ (by rw [e1]) (by rw [e2]))
   have CH:r.length≤400:=by
    refine U7 r1 r2 ?_
    have h1:=T7 y1 y3
    have h2:=W3 (lv x) hyp
    omega
   refine ⟨_,rfl,?_,⟨y1,y2,y3⟩,⟨r1,r2,CH⟩,?_,fun h=>absurd h A0⟩
   ·rcases Qa k with h | h
    ·omega
    ·have:=hG.rounds h hyp; omega
   ·show GI _ n (k+1) (lv y) (lv r)
    rw [r3]; exact kB
  ·have:y=[]:=S6 A0
   subst this
   have hg:=hG.gg
   show lv x=_
   have hz:lv ([]:LI)=0:=rfl
   rw [hz,Int.gcd_zero_right] at hg
   rw [← hg]
   have:=Y1 x1
   omega
 ·rintro o ⟨o1,o2,o3,o4⟩
  refine Zw (W7 false o1 A0) fun r hr=>⟨_,rfl,hr.cast ?_⟩
  rw [← o4]; rfl
theorem Rt {s t:Bool} {a b:LI} (ha:LW a) (hb:LW b) (hn:a.length≤400) (hm:b.length≤400):Ret (m_ie s a t b) (fun r=>Bg ((Int.gcd (sv s a) (sv t b):Nat):Int) r.1 r.2):=by
 have pM:Int.gcd (sv s a) (sv t b)=Int.gcd (lv a) (lv b):=by unfold sv; cases s<;>cases t<;>simp [Int.gcd_neg,Int.neg_gcd]
 rw [pM]
 have RQ:=T7 ha hn
 have QQ:=T7 hb hm
 have nna:=Y1 ha
 have nnb:=Y1 hb
 obtain ⟨n,HI,jB⟩:∃ n:Nat,n < 100000∧lv a*lv b*2≤2 ^ n:=by
  refine ⟨32*400+32*400+1,A0,?_⟩
  rw [w8,E5,← L6]
  have:=K8 (y8 RQ) (y8 QQ) nnb (y8 (M1 400))
  omega
 unfold m_ie
 refine Zw (rh (s:=s) ha A0) ?_
 rintro ⟨sa,xa⟩ ⟨hA,lA⟩
 refine Zw (rh (s:=t) hb A0) ?_
 rintro ⟨sb,xb⟩ ⟨hB,lB⟩
 simp only at hA lA hB lB ⊢
 refine Zw (Q0 (Post:=fun o:Bool×LI=>Bg ((Int.gcd (lv a) (lv b):Nat):Int) o.1 o.2) (n+1) (fun k (p:Bool×LI×Bool×LI)=>∃ x y,Bg x p.1 p.2.1∧Bg y p.2.2.1 p.2.2.2∧x < pw 400∧y < pw 400∧GI (Int.gcd (lv a) (lv b)) n k x y∧(k=0→x=lv a∧y=lv b)) ⟨lv a,lv b,hA,hB,RQ,QQ,⟨nna,nnb,rfl,fun h=>absurd h A0,by rw [Rv]; have:=O3 nna nnb; omega⟩,fun _=>⟨rfl,rfl⟩⟩ ?_ A0) ?_
 ·rintro k ⟨sx,xx,sy,yy⟩ hk ⟨x,y,hX,hY,xp,yp,hG,pJ⟩
  simp only at hX hY
  have mI:=hG.gx
  have jJ:=hG.gy
  have lX:xx.length≤400:=hX.len (by have:=M1 400; omega) xp
  have lY:yy.length≤400:=hY.len (by have:=M1 400; omega) yp
  unfold m_id
  simp only
  rw [bc hY A0,obs,O0]
  refine ⟨fun hz=>⟨_,rfl,?_⟩,fun hz=>?_⟩
  ·have:y=0:=by revert hz; split<;>(try split)<;>omega
   subst this
   have hg:=hG.gg
   rw [Int.gcd_zero_right] at hg
   exact hX.cast A0
  ·have hyp:0 < y:=by
    refine H1 fun hc=>hz ?_
    rw [B0,B0]
   refine Zw (Gk (s:=sx) (t:=sy) hX.1 hY.1 A0 A0 (by rw [hY.sv]; omega)) fun r hr=>?_
   rw [hX.sv,hY.sv] at hr
   have h2:=W3 x hyp
   refine ⟨_,rfl,?_,y,x % y,hY,hr.2,yp,A0,hG.step hyp (fun h=>?_),fun h=>absurd h A0⟩
   ·rcases Qa k with h | h
    ·omega
    ·have:=hG.rounds h hyp; omega
   ·obtain ⟨rfl,rfl⟩:=pJ h
    exact jB
 ·rintro o ho
  exact ⟨_,rfl,ho⟩
theorem ph {k a b c d:Nat} (hb:b < 2 ^ k) (hd:d < 2 ^ k):(2 ^ k*a+b) &&& (2 ^ k*c+d)=2 ^ k*(a &&& c)+(b &&& d):=by
 refine Nat.eq_of_testBit_eq fun i=>?_
 rw [jv,Se a hb,Se c hd,Se _ (Nat.lt_of_le_of_lt Nat.and_le_left hb)]
 by_cases h:i < k
 ·simp only [h,if_true,jv]
 ·simp only [h,if_false,jv]
theorem JB {k a b c d:Nat} (hb:b < 2 ^ k) (hd:d < 2 ^ k):(2 ^ k*a+b) ||| (2 ^ k*c+d)=2 ^ k*(a ||| c)+(b ||| d):=by
 refine Nat.eq_of_testBit_eq fun i=>?_
 rw [zh,Se a hb,Se c hd,Se _ (kv hb hd)]
 by_cases h:i < k
 ·simp only [h,if_true,zh]
 ·simp only [h,if_false,zh]
theorem ee {x y:Nat} (hx:x < 18446744073709551616) (hy:y < 18446744073709551616):wand .u64 (x:Int) (y:Int)=((x &&& y:Nat):Int):=by
 unfold wand
 show IntKind.u64.wrap ((BitVec.ofInt 64 (x:Int) &&& BitVec.ofInt 64 (y:Int)).toNat:Int)=_
 rw [BitVec.toNat_and,V8 A0,V8 A0,Z0,Z0]
 have:x &&& y≤x:=Nat.and_le_left
 rw [IntWalk.u64_in _ A0]
theorem Hn {x y:Nat} (hx:x < 18446744073709551616) (hy:y < 18446744073709551616):wor .u64 (x:Int) (y:Int)=((x ||| y:Nat):Int):=by
 unfold wor
 show IntKind.u64.wrap ((BitVec.ofInt 64 (x:Int) ||| BitVec.ofInt 64 (y:Int)).toNat:Int)=_
 rw [BitVec.toNat_or,V8 A0,V8 A0,Z0,Z0]
 have:x ||| y < 2 ^ 64:=kv A0 A0
 rw [IntWalk.u64_in _ A0]
def Fn_ (s e m:Nat):Nat:=2 ^ 52*(2 ^ 11*s+e)+m
def Fl (s e m:Nat):Int:=(Fn_ s e m:Nat)
theorem ah {s e m:Nat} (hs:s < 2) (he:e < 2048) (hm:m < 4503599627370496):Fn_ s e m < 18446744073709551616:=by unfold Fn_; omega
theorem ku {x:Int} (h0:0≤x) (h1:x < 18446744073709551616):∃ s e m,s < 2∧e < 2048∧m < 4503599627370496∧x=Fl s e m:=by
 refine ⟨x.toNat / 9223372036854775808,x.toNat / 4503599627370496 % 2048,x.toNat % 4503599627370496,A0,A0,A0,?_⟩
 unfold Fl Fn_
 omega
theorem fu {s e m:Nat} (hs:s < 2) (he:e < 2048) (hm:m < 4503599627370496):wsrc .u64 (Fl s e m) 52=((2048*s+e:Nat):Int):=by
 unfold wsrc Fl Fn_
 show (_:Int).fdiv (2 ^ 52)=_
 rw [Wd _ A0]
 omega
theorem Dk {s e m:Nat} (hs:s < 2) (he:e < 2048) (hm:m < 4503599627370496):wand .u64 (wsrc .u64 (Fl s e m) 52) 2047=(e:Int):=by
 rw [fu hs he hm]
 have:=ee (x:=2048*s+e) (y:=2047) A0 A0
 refine this.trans ?_
 have h:=Pd (2048*s+e) 11
 rw [show (2:Nat) ^ 11 - 1=2047 from rfl] at h
 rw [h]
 omega
theorem ju {s e m:Nat} (hs:s < 2) (he:e < 2048) (hm:m < 4503599627370496):wand .u64 (Fl s e m) 4503599627370495=(m:Int):=by
 have:=ee (x:=Fn_ s e m) (y:=4503599627370495) (ah hs he hm) A0
 refine this.trans ?_
 have h:=Pd (Fn_ s e m) 52
 rw [show (2:Nat) ^ 52 - 1=4503599627370495 from rfl] at h
 rw [h]
 unfold Fn_
 omega
theorem xD {s e m:Nat} (hs:s < 2) (he:e < 2048) (hm:m < 4503599627370496):wand .u64 (Fl s e m) 9223372036854775808=((9223372036854775808*s:Nat):Int):=by
 have:=ee (x:=Fn_ s e m) (y:=9223372036854775808) (ah hs he hm) A0
 refine this.trans ?_
 have h1:=ph (k:=63) (a:=s) (b:=2 ^ 52*e+m) (c:=1) (d:=0) A0 A0
 rw [show 2 ^ 63*1+0=9223372036854775808 from rfl,vv,show 2 ^ 63*s+(2 ^ 52*e+m)=Fn_ s e m by unfold Fn_; omega,Nat.and_one_is_mod] at h1
 rw [h1]
 omega
theorem gu {s e m:Nat} (hs:s < 2) (he:e < 2048) (hm:m < 4503599627370496) {q:Nat} (hq:q≤52) {e':Nat} (EN:e' < 2048) {y:Nat} (hy:y=2 ^ 63+2 ^ q*(2 ^ (52 - q) - 1)) (OH:2 ^ q*(2 ^ (52 - q))=4503599627370496):wor .u64 (wand .u64 (Fl s e m) (y:Int)) ((4503599627370496*e':Nat):Int)=Fl s e' (2 ^ q*(m / 2 ^ q)):=by
 have hp:0 < 2 ^ q:=Nat.two_pow_pos q
 have qD:m / 2 ^ q < 2 ^ (52 - q):=by rw [Nat.div_lt_iff_lt_mul hp,G8,OH]; exact hm
 have hle:2 ^ q*(2 ^ (52 - q) - 1) < 4503599627370496:=by rw [Nat.mul_sub,OH]; omega
 have sI:2 ^ q*(m / 2 ^ q) < 4503599627370496:=Nat.lt_of_le_of_lt (Nat.mul_div_le _ _) hm
 have h1:=ee (x:=Fn_ s e m) (y:=y) (ah hs he hm) (by rw [hy]; omega)
 have e1:Fn_ s e m &&& y=Fn_ s 0 (2 ^ q*(m / 2 ^ q)):=by
  have a1:=ph (k:=52) (a:=2 ^ 11*s+e) (b:=m) (c:=2 ^ 11*1+0) (d:=2 ^ q*(2 ^ (52 - q) - 1)) A0 A0
  have a2:=ph (k:=11) (a:=s) (b:=e) (c:=1) (d:=0) A0 A0
  have a3:=ph (k:=q) (a:=m / 2 ^ q) (b:=m % 2 ^ q) (c:=2 ^ (52 - q) - 1) (d:=0) (Gb _ hp) hp
  rw [Ch,T9,vv,Pd,uv qD,T9] at a3
  rw [vv,Nat.and_one_is_mod] at a2
  rw [a2,a3] at a1
  rw [show y=2 ^ 52*(2 ^ 11*1+0)+2 ^ q*(2 ^ (52 - q) - 1) by rw [hy]]
  unfold Fn_
  rw [a1,show s % 2=s by omega]
 have h2:wand .u64 (Fl s e m) (y:Int)=((Fn_ s 0 (2 ^ q*(m / 2 ^ q)):Nat):Int):=by rw [← e1]; exact h1
 rw [h2,Hn (ah hs A0 sI) A0]
 have b1:=JB (k:=52) (a:=2 ^ 11*s+0) (b:=2 ^ q*(m / 2 ^ q)) (c:=e') (d:=0) A0 A0
 have b2:=Re (b:=e') (i:=11) A0 s
 rw [T9,← b2,Nat.or_zero] at b1
 have b3:Fn_ s 0 (2 ^ q*(m / 2 ^ q)) ||| 4503599627370496*e'=Fn_ s e' (2 ^ q*(m / 2 ^ q)):=b1
 rw [b3]
 rfl
theorem iu {m:Nat} (hm:m < 4503599627370496):wor .u64 (m:Int) 4503599627370496=((4503599627370496+m:Nat):Int):=by
 have:=Hn (x:=m) (y:=4503599627370496) A0 A0
 refine this.trans ?_
 have h:=Re (b:=m) (i:=52) hm 1
 rw [show 2 ^ 52*1=4503599627370496 from rfl] at h
 rw [Nat.or_comm,← h]
def Tz (z:Nat) (v:Int):Prop:=∃ m,v=2 ^ z*(2*m+1)
theorem Tz.uniq {z z':Nat} {v:Int} (h:Tz z v) (h':Tz z' v):z=z':=by
 have key:∀ {z z':Nat} {v:Int},Tz z v→Tz z' v→¬ z < z':=by
  rintro z z' v ⟨m,rfl⟩ ⟨m',e⟩ hlt
  rw [show z'=z+(1+(z' - z - 1)) by omega,E5,y7] at e
  have e2:=VF (Int.ne_of_gt (S5 (by omega:(0:Int) < 2))) e
  rw [E5,y7] at e2
  omega
 have:=key h h'
 have:=key h' h
 omega
theorem Tz.neg {z:Nat} {v:Int} (h:Tz z v):Tz z (-v):=by
 obtain ⟨m,rfl⟩:=h
 exact ⟨-m - 1,by grind⟩
theorem Tz.mul {z:Nat} {v:Int} (h:Tz z v) (k:Nat):Tz (z+k) (v*2 ^ k):=by
 obtain ⟨m,rfl⟩:=h
 exact ⟨m,by rw [E5]; grind⟩
theorem Mg:∀ {l:LI},(∀ y,y∈l→y=0)→lv l=0
 | [],_=>rfl
 | y::l,h=>by
  show y+B*lv l=0
  rw [h y (Hc ..),Mg fun y hy=>h y (Ic _ hy)]
  rfl
theorem Dq {l:LI} (hl:LW l) {i:Nat} {x:Int} (hx:l[i]?=some x) (hz:∀ y,y∈l.take i→y=0) {c:Nat} {m:Int} (hc:c < 32) (hm:x=2 ^ c*(2*m+1)):Tz (32*i+c) (lv l):=by
 obtain ⟨p1,p2,p3,p4⟩:=A8 hc
 have hi:=(Z1.1 hx).1
 refine ⟨m+2 ^ (32 - c - 1)*lv (l.drop (i+1)),?_⟩
 rw [M7 l (k:=i) A0,Mg hz,W5 hx,hm,L6,E5]
 have e1:B=2 ^ c*(2*2 ^ (32 - c - 1)):=by
  have:(2:Int) ^ (32 - c)=2*2 ^ (32 - c - 1):=by
   have e2:=E5 (2:Int) 1 (32 - c - 1)
   rw [show 1+(32 - c - 1)=32 - c by omega] at e2
   exact e2
  rw [← this,p3]
 rw [e1]
 grind
theorem Hq {x:Int} (h0:0 < x) (h1:x < B):∃ c:Nat,∃ m:Int,tz32 x=some (c:Int)∧c < 32∧x=2 ^ c*(2*m+1):=by
 obtain ⟨m,h2,h3⟩:=Go.Lib.ctzFrom_spec 32 x.toNat A0 (by unfold B at h1; omega)
 refine ⟨Go.Lib.ctzFrom 32 x.toNat,m,?_,h3,?_⟩
 ·unfold tz32 Go.Lib.ctz
  rw [M0 ⟨A0,h1⟩,B0]
 ·have:((x.toNat:Nat):Int)=((2 ^ Go.Lib.ctzFrom 32 x.toNat*(2*m+1):Nat):Int):=by rw [← h2]
  rw [Yl A0] at this
  rw [Uv,bm] at this
  exact this
theorem Cq {l:LI} {k:Nat} {x:Int} (hz:∀ y,y∈l.take k→y=0) (hx:l[k]?=some x) (h0:x=0):∀ y,y∈l.take (k+1)→y=0:=fun y hy=>by
 rcases (mts hx).1 hy with h | h
 ·exact hz y h
 ·rw [h,h0]
theorem Ey {s:Bool} {l:LI} (hl:LW l) (hn:l.length≤1000) (h0:lv l≠0):∃ z:Nat,m_cx s l=some (z:Int)∧z < 32*l.length∧Tz z (lv l):=by
 have h1:Ret (loop (m_cw l) 0) (fun o=>∃ z:Nat,o=.inr (z:Int)∧z < 32*l.length∧Tz z (lv l)):=by
  refine Q0 l.length (fun k (t:Int)=>t=(k:Int)∧∀ y,y∈l.take k→y=0) ⟨rfl,by intro y hy; simp at hy⟩ ?_ A0
  rintro k _ hk ⟨rfl,hz⟩
  unfold m_cw
  rw [O0]
  refine ⟨fun hlt=>?_,fun tx=>?_⟩
  ·obtain ⟨x,hx⟩:=Q4 (l:=l) (k:=k) A0
   have Nx:=LW.get hl hx
   rw [V5 hx rfl,obs,O0]
   refine ⟨fun mI=>⟨_,rfl,A0,by rw [U0 A0 A0]; rfl,Cq hz hx mI⟩,fun mI=>?_⟩
   obtain ⟨c,m,h2,h3,h4⟩:=Hq (x:=x) A0 Nx.2
   rw [h2,obs]
   refine ⟨_,rfl,32*k+c,?_,A0,Dq hl hx hz h3 h4⟩
   rw [Z9 A0 A0,U0 A0 A0]
   exact C1 Sum.inr A0
  ·exfalso
   refine h0 ?_
   rw [Y7 A0] at hz
   exact Mg hz
 obtain ⟨o,h2,z,rfl,h3,h4⟩:=h1
 exact ⟨z,by unfold m_cx; rw [h2,obs],h3,h4⟩
theorem Dy {s:Bool} {l:LI} (hl:LW l) (ht:Tm l) (hn:l.length≤1000) (h0:lv l≠0):∃ z:Nat,m_n s l=some (z:Int)∧z < 32*l.length∧Tz z (lv l):=by
 have hlt:trimL l=l:=(Qf hl hl ht rfl).symm
 have h1:Ret (loop (m_m l) 0) (fun o=>∃ z:Nat,o=.inr (z:Int)∧z < 32*l.length∧Tz z (lv l)):=by
  refine Q0 l.length (fun k (t:Int)=>t=(k:Int)∧∀ y,y∈l.take k→y=0) ⟨rfl,by intro y hy; simp at hy⟩ ?_ A0
  rintro k _ hk ⟨rfl,hz⟩
  unfold m_m
  rw [O0]
  refine ⟨fun hlt=>?_,fun tx=>?_⟩
  ·obtain ⟨x,hx⟩:=Q4 (l:=l) (k:=k) A0
   have Nx:=LW.get hl hx
   rw [V5 hx rfl,obs,O0]
   refine ⟨fun mI=>⟨_,rfl,A0,by rw [U0 A0 A0]; rfl,Cq hz hx mI⟩,fun mI=>?_⟩
   obtain ⟨c,m,h2,h3,h4⟩:=Hq (x:=x) A0 Nx.2
   rw [obs,h2,obs]
   refine ⟨_,rfl,32*k+c,?_,A0,Dq hl hx hz h3 h4⟩
   rw [Z9 A0 A0,U0 A0 A0]
   exact C1 Sum.inr A0
  ·exfalso
   refine h0 ?_
   rw [Y7 A0] at hz
   exact Mg hz
 obtain ⟨o,h2,z,rfl,h3,h4⟩:=h1
 exact ⟨z,by unfold m_n; rw [O8 hl A0,obs,hlt,h2,obs],h3,h4⟩
def Bl_ (b:Nat) (v:Int):Prop:=v < 2 ^ b∧2 ^ b≤2*v
theorem Bl_.uniq {b b':Nat} {v:Int} (h:Bl_ b v) (h':Bl_ b' v):b=b':=by
 have key:∀ {b b':Nat} {v:Int},Bl_ b v→Bl_ b' v→¬ b < b':=by
  rintro b b' v ⟨h1,h2⟩ ⟨h3,h4⟩ hlt
  have:(2:Int) ^ b*2≤2 ^ b':=by
   rw [← w8]
   have h9:((2 ^ (b+1):Nat):Int)≤((2 ^ b':Nat):Int):=Sv.2 (Ah A0 A0)
   push_cast at h9
   exact h9
  omega
 have:=key h h'
 have:=key h' h
 omega
theorem Kq {l:LI} (hl:LW l) {n:Nat} (hn:l.length=n+1) {x:Int} (hx:l[n]?=some x) {v:Nat} (h1:x < 2 ^ v) (h2:2 ^ v≤2*x):Bl_ (32*n+v) (lv l):=by
 have e1:lv l=lv (l.take n)+pw n*x:=by
  rw [M7 l (k:=n) A0,W5 hx,X9 A0]
  show _+pw n*(x+B*0)=_
  rw [Q3,L8]
 have hb:=G4 (LW.take hl n)
 rw [B4,G6 A0] at hb
 have oJ:=Y1 (LW.take hl n)
 have p:=M1 n
 constructor
 ·rw [E5,← L6]
  have:pw n*(x+1)≤pw n*2 ^ v:=K3 A0 A0
  rw [T6,J6] at this
  omega
 ·rw [E5,← L6]
  have:pw n*2 ^ v≤pw n*(2*x):=K3 A0 A0
  have e2:pw n*(2*x)=2*(pw n*x):=by grind
  omega
theorem DC {l:LI} (hl:LW l) (ht:Tm l) (hn:l.length≤1000) (kx:l≠[]):∃ b:Nat,m_cy l=some (b:Int)∧b≤32*l.length∧Bl_ b (lv l):=by
 have KL:0 < l.length:=Jb.2 kx
 obtain ⟨x,hx⟩:=Q4 (l:=l) (k:=l.length - 1) A0
 have Nx:=LW.get hl hx
 have mI:x≠0:=ht x (by rw [Sl]; exact hx)
 obtain ⟨v,h1,h2,h3,h4⟩:=ak Nx.1 Nx.2
 unfold m_cy
 rw [B0,C3 A0 A0,V5 hx A0,obs,h1,obs]
 refine ⟨32*(l.length - 1)+v,?_,A0,Kq hl A0 hx h3 (h4 A0)⟩
 rw [Z9 A0 A0,U0 A0 A0]
 congr 1; omega
theorem WE {s:Bool} {l:LI} (hl:LW l) (ht:Tm l) (hn:l.length≤1000) (kx:l≠[]):∃ b:Nat,m_cz s l=some (b:Int)∧b≤32*l.length∧Bl_ b (lv l):=by
 obtain ⟨b,h1,h2⟩:=DC hl ht hn kx
 exact ⟨b,by unfold m_cz; rw [Z4 hl A0,obs,(Qf hl hl ht rfl).symm,h1,obs],h2⟩
theorem VE {s:Bool} {l:LI} (hl:LW l) (ht:Tm l) (hn:l.length≤1000) (kx:l≠[]):∃ b:Nat,m_bf s l=some (b:Int)∧b≤32*l.length∧Bl_ b (lv l):=by
 have KL:0 < l.length:=Jb.2 kx
 obtain ⟨x,hx⟩:=Q4 (l:=l) (k:=l.length - 1) A0
 have Nx:=LW.get hl hx
 have mI:x≠0:=ht x (by rw [Sl]; exact hx)
 obtain ⟨v,h1,h2,h3,h4⟩:=ak Nx.1 Nx.2
 unfold m_bf
 rw [O8 hl A0,obs,(Qf hl hl ht rfl).symm,B0,C3 A0 A0,V5 hx A0,obs,h1,obs]
 refine ⟨32*(l.length - 1)+v,?_,A0,Kq hl A0 hx h3 (h4 A0)⟩
 rw [Z9 A0 A0,U0 A0 A0]
 congr 1; omega
theorem n32 (N:Nat):N=32*(N / 32)+N % 32:=A0
theorem yg (N:Nat):pw (N / 32)*2 ^ (N % 32)=2 ^ N:=by rw [L6,← E5]; congr 1; omega
theorem Qq {s:Bool} {l u:LI} {c:Int} (h:lv u=lv l*c):sv s u=sv s l*c:=by
 unfold sv; split
 ·rw [h,Ph]
 ·exact h
theorem ka {N M:Nat} (h:N≤M):(2:Int) ^ N≤2 ^ M:=by
 have h9:((2 ^ N:Nat):Int)≤((2 ^ M:Nat):Int):=Sv.2 (Ah A0 h)
 rw [bm,bm] at h9
 exact h9
theorem nr {s:Bool} {l:LI} (hl:LW l) (hn:l.length≤900) {N:Nat} (hN:N≤32000):Ret (m_de s l (N:Int)) (fun r=>Bg (sv s l*2 ^ N) r.1 r.2.1∧r.2.2=0):=by
 have hlt:=U5 hl
 unfold m_de
 rw [K0 (by simp only [H5,decide_eq_true_eq]; omega),Z4 hl A0,obs,C0,J0]
 have WJ:Ret (m_c1 (trimL l) (N:Int)) (fun u=>LW u∧u.length≤1000000∧lv u=lv l*2 ^ N):=by
  by_cases kx:trimL l=[]
  ·unfold m_c1
   rw [kx,M0 (by rfl)]
   have:lv l=0:=by rw [← N1,kx]; rfl
   exact ⟨[],rfl,(fun x hx=>by cases hx),H0,by rw [this,V3]; rfl⟩
  ·have:=Bq (X3 hl) A0 kx (q:=N / 32) (s:=N % 32) A0 A0
   rw [← n32,yg,N1] at this
   refine this.mono fun u hu=>⟨hu.1,?_,hu.2.2⟩
   exact Ca (Bg.len (v:=lv u) (m:=2000) (Bg.of (s:=false) hu.1 hu.2.1 H0) (by have:=Y1 hu.1; have:=M1 2000; omega) (by
    rw [hu.2.2]
    have h1:=G4 hl
    have h2:pw l.length≤pw 1000:=y6 A0
    have h3:(2:Int) ^ N≤pw 1000:=by
     have h9:=ka (N:=N) (M:=32*1000) A0
     rw [L6]; exact h9
    have p:(0:Int) < 2 ^ N:=S5 A0
    rw [show pw 2000=pw 1000*pw 1000 from W6 1000 1000]
    have a1:lv l*2 ^ N < pw 1000*2 ^ N:=Mb A0 p
    have a2:pw 1000*2 ^ N≤pw 1000*pw 1000:=K3 h3 (y8 (M1 _))
    omega)) A0
 refine WJ.mono fun u hu=>?_
 refine Zw (W7 s hu.1 hu.2.1) fun r hr=>⟨_,rfl,?_,rfl⟩
 rw [Qq hu.2.2] at hr
 exact hr
theorem Mz {s:Bool} {l:LI} (hl:LW l) (hn:l.length≤900) {N:Nat} (hN:N≤32000) {c:Int} (hd:lv l=c*2 ^ N):Ret (m_de s l (-(N:Int))) (fun r=>Bg (if s=true then - c else c) r.1 r.2.1∧r.2.2=0):=by
 by_cases h0:N=0
 ·subst h0
  have:=nr (s:=s) hl hn (N:=0) A0
  have e1:sv s l*2 ^ 0=if s=true then - c else c:=by
   rw [show ((2:Int) ^ 0)=1 from rfl,J6] at*
   unfold sv; rw [hd]
  rw [e1] at this
  exact this
 have hlt:=U5 hl
 have p:(0:Int) < 2 ^ N:=S5 A0
 unfold m_de
 rw [K0 (by simp only [H5,decide_eq_true_eq]; omega),Z4 hl A0,obs,B0,J0]
 have e2:wneg .i64 (-(N:Int))=(N:Int):=by
  show IntKind.wrap .i64 (- -(N:Int))=_
  rw [Int.neg_neg,IntWalk.i64_in _ A0]
 have:=Bu (X3 hl) A0 (q:=N / 32) (s:=N % 32) A0 A0
 rw [← n32,yg,N1] at this
 rw [e2]
 refine this.mono fun u hu=>?_
 obtain ⟨u1,u2,u3,u4⟩:=hu
 rw [hd,dm _ A0] at u3
 rw [u4 (A4 _) (by rw [hd]; exact Int.mul_emod_left _ _),Bool.and_false,K0 H0]
 unfold m_dd
 rw [J0]
 have YL:u.1.length≤1000000:=by
  refine Ca (Bg.len (v:=lv u.1) (m:=1000) (Bg.of (s:=false) u1 u2 H0) (by have:=Y1 u1; have:=M1 1000; omega) ?_) A0
  have h1:=G4 hl
  have h2:pw l.length≤pw 1000:=y6 A0
  have h3:c*1≤c*2 ^ N:=K3 A0 (by rw [← u3]; exact Y1 u1)
  omega
 refine (W7 s u1 YL).mono fun r hr=>⟨_,rfl,?_,rfl⟩
 unfold sv at hr
 rw [u3] at hr
 exact hr
theorem dz {s:Bool} {l:LI} (h:sv s l=0):lv l=0:=by unfold sv at h; split at h<;>omega
theorem mr {s:Bool} {l:LI} (hl:LW l) (hn:l.length≤900) {N:Nat} (hN:N≤32000):Ret (m_9 s l (N:Int)) (fun r=>Bg (sv s l*2 ^ N) r.1 r.2):=by
 unfold m_9
 refine Zw (nd (s:=s) hl A0) fun a ha=>?_
 have WJ:=kr ha.1.1 A0 (q:=N / 32) (s:=N % 32) A0 A0
 rw [← n32,yg] at WJ
 rw [C0,J0]
 refine WJ.mono fun u hu=>?_
 refine Zw (T8 a.1 hu.1 A0) fun r hr=>⟨_,rfl,?_⟩
 rw [Qq hu.2.2,ha.1.sv] at hr
 exact hr
theorem Lz {s:Bool} {l:LI} (hl:LW l) (hn:l.length≤900) {N:Nat} (hN:N≤32000) {c:Int} (hd:sv s l=c*2 ^ N):Ret (m_9 s l (-(N:Int))) (fun r=>Bg c r.1 r.2):=by
 by_cases h0:N=0
 ·subst h0
  have:=mr (s:=s) hl hn (N:=0) A0
  rw [hd] at this
  refine Ret.mono this fun r hr=>hr.cast (by rw [show ((2:Int) ^ 0)=1 from rfl]; omega)
 have p:(0:Int) < 2 ^ N:=S5 A0
 unfold m_9
 refine Zw (nd (s:=s) hl A0) fun a ha=>?_
 have e2:wneg .i64 (-(N:Int))=(N:Int):=by
  show IntKind.wrap .i64 (- -(N:Int))=_
  rw [Int.neg_neg,IntWalk.i64_in _ A0]
 have JJ:=dr ha.1.1 A0 (q:=N / 32) (s:=N % 32) A0 A0
 rw [← n32,yg] at JJ
 have GK:=ha.1.sv
 rw [hd] at GK
 have hex:∃ c',lv a.2=c'*2 ^ N∧(if a.1=true then - c' else c')=c:=by
  unfold sv at GK
  split at GK
  ·rename_i h; exact ⟨-c,by rw [Ph]; omega,by rw [M0 h]; omega⟩
  ·rename_i h; exact ⟨c,GK,by rw [K0 h]⟩
 obtain ⟨c',rJ,HE⟩:=hex
 rw [B0,e2,J0]
 refine JJ.mono fun u hu=>?_
 obtain ⟨u1,u2,u3,u4⟩:=hu
 rw [rJ,dm _ A0] at u3
 refine Zw (T8 a.1 u1 A0) fun r hr=>?_
 rw [u4 ha.1.2.1 (by rw [rJ]; exact Int.mul_emod_left _ _),Bool.and_false,K0 H0]
 refine ⟨_,rfl,?_⟩
 unfold sv at hr
 rw [u3,HE] at hr
 exact hr
def Dv (v x:Int) (d:Bool×Bool×LI×Int):Prop:=d.1=false∧∃ (z:Nat) (u:Int),v=2 ^ z*(2*u+1)∧Bg (2*u+1) d.2.1 d.2.2.1∧d.2.2.2=x+z
theorem Dv.uniq {v x:Int} {d d':Bool×Bool×LI×Int} (h:Dv v x d) (h':Dv v x d'):d=d':=by
 obtain ⟨a,b,l,e⟩:=d
 obtain ⟨a',b',l',e'⟩:=d'
 obtain ⟨h1,z,u,h2,h3,h4⟩:=h
 obtain ⟨OJ,z',u',LM,PQ,WS⟩:=h'
 simp only at*
 have hz:z=z':=Tz.uniq ⟨u,h2⟩ ⟨u',LM⟩
 subst hz
 rw [h2] at LM
 have hp:(0:Int) < 2 ^ z:=S5 A0
 have hu:=VF A0 LM
 rw [← hu] at PQ
 obtain ⟨e1,e2⟩:=h3.uniq PQ
 rw [h1,OJ,e1,e2,h4,WS]
theorem sA (s:Bool) (l:LI) {z:Nat} (hz:z≤100000):m_dg s l (z:Int)=(m_de s l (-(z:Int))).bind fun r=>some (r.1,r.2.1):=by
 have h1:loop m_df ((z:Int),s,l)=some ((z:Int),s,l):=by
  refine Ret.eq (Q0 0 (fun k t=>t=((z:Int),s,l)) rfl ?_ A0)
  rintro k _ hk rfl
  unfold m_df
  simp only
  rw [B0]
  exact ⟨_,rfl,rfl⟩
 unfold m_dg
 rw [h1,obs]
 have e2:wneg .i64 (z:Int)= -(z:Int):=by
  show IntKind.wrap .i64 _=_
  rw [IntWalk.i64_in _ A0]
 simp only
 rw [e2]
theorem JA (s:Bool) (l:LI) {z:Nat} (hz:z≤100000):m_bb s l (z:Int)=(m_9 s l (-(z:Int))).bind fun r=>some (r.1,r.2):=by
 have h1:loop m_ba ((z:Int),s,l)=some ((z:Int),s,l):=by
  refine Ret.eq (Q0 0 (fun k t=>t=((z:Int),s,l)) rfl ?_ A0)
  rintro k _ hk rfl
  unfold m_ba
  simp only
  rw [B0]
  exact ⟨_,rfl,rfl⟩
 unfold m_bb
 rw [h1,obs]
 have e2:wneg .i64 (z:Int)= -(z:Int):=by
  show IntKind.wrap .i64 _=_
  rw [IntWalk.i64_in _ A0]
 simp only
 rw [e2]
theorem Uf {v:Int} {s:Bool} {l:LI} (h:Bg v s l) (hv:v≠0):lv l≠0∧l≠[]:=by
 have h1:lv l≠0:=fun h0=>hv (by rw [← h.sv]; unfold sv; rw [h0]; split<;>rfl)
 exact ⟨h1,fun h2=>h1 (by rw [h2]; rfl)⟩
theorem Qs {s:Bool} {l:LI} (hl:LW l) (hn:l.length≤100) (hv:sv s l≠0) {x:Int} (hx: -20000≤x∧x≤20000):Ret (m_dh false s l x) (fun r=>Dv (sv s l) x (r.1,r.2.1,r.2.2.1,r.2.2.2.1)∧r.2.2.2.2=true):=by
 unfold m_dh
 rw [K0 H0]
 refine Zw (Fg (s:=s) hl A0) fun a ha=>?_
 obtain ⟨kx,hnil⟩:=Uf ha hv
 have KL:a.2.length≤100:=by
  refine Bg.len ha ?_ ?_<;>(have h1:=G4 hl; have h2:pw l.length≤pw 100:=y6 hn; have h3:=Y1 hl; have:=M1 100; unfold sv; split<;>omega)
 rw [ue ha.1 A0,obs,ha.sv]
 have qN:¬ (if sv s l < 0 then -1 else if 0 < sv s l then 1 else 0:Int)=0:=by split<;>(try split)<;>omega
 rw [K0 qN]
 obtain ⟨z,RL,rL,m,qL⟩:=Ey (s:=a.1) ha.1 A0 kx
 obtain ⟨b,SG,AH,OO⟩:=WE (s:=a.1) ha.1 ha.2.1 A0 hnil
 rw [RL,obs,SG,obs,C3 A0 A0,C3 A0 A0,B0,obs,K0 (by simp only [decide_eq_true_eq]; omega),sA a.1 a.2 A0]
 have FI:=Mz (s:=a.1) ha.1 A0 (N:=z) A0 (c:=2*m+1) (by rw [qL]; grind)
 obtain ⟨r,oI,NG,kQ⟩:=FI
 rw [oI,obs,obs,U0 A0 A0]
 refine ⟨_,rfl,⟨rfl,z,if a.1=true then -m - 1 else m,?_,?_,rfl⟩,rfl⟩
 ·rw [← ha.sv]
  unfold sv
  rw [qL]
  split<;>grind
 ·refine NG.cast ?_
  split<;>omega
theorem Zs {s:Bool} {l:LI} (hl:LW l) (hn:l.length≤100) (hv:sv s l≠0) {x:Int} (hx: -20000≤x∧x≤20000):Ret (m_bg s l x) (Dv (sv s l) x):=by
 unfold m_bg
 refine Zw (nd (s:=s) hl A0) fun a ha=>?_
 obtain ⟨kx,hnil⟩:=Uf ha.1 hv
 have KL:0 < a.2.length:=Jb.2 hnil
 rw [B0,B0]
 obtain ⟨z,RL,rL,m,qL⟩:=Dy (s:=a.1) ha.1.1 ha.1.2.1 A0 kx
 rw [RL,obs]
 refine Zw (rh (s:=a.1) ha.1.1 A0) fun c hc=>?_
 rw [JA c.1 c.2 A0]
 have hp:(0:Int) < 2 ^ z:=S5 A0
 have fK:0≤m:=by
  have:=Y1 ha.1.1
  rw [qL] at this
  refine H1 fun hc=>?_
  have:2 ^ z*(2*m+1) < 0:=NF hp A0
  omega
 obtain ⟨r,oI,NG⟩:=Lz (s:=c.1) hc.1.1 A0 (N:=z) A0 (c:=2*m+1) (by rw [hc.1.sv,qL]; grind)
 have DH:=Uf NG A0
 have CH:r.2.length≤100:=by
  refine Bg.len NG ?_ ?_<;>(have h1:=G4 ha.1.1; have h2:pw a.2.length≤pw 100:=y6 A0; have:=M1 100; have h3:(2*m+1)*1≤(2*m+1)*2 ^ z:=K3 A0 A0; have h4:2 ^ z*(2*m+1)=(2*m+1)*2 ^ z:=P2 ..; omega)
 obtain ⟨b,SG,AH,OO⟩:=VE (s:=r.1) NG.1 NG.2.1 A0 DH.2
 rw [oI,obs,obs,U0 A0 A0,B0,SG,obs,obs,U0 A0 A0,K0 (by simp only [decide_eq_true_eq]; omega)]
 have has:a.1=s:=by
  have h1:=ha.1.neg
  have h2:=(dz (s:=s) (l:=l))
  cases hs:s
  ·cases hq:a.1
   ·rfl
   ·have:=h1.1 hq
    rw [hs] at this
    have:=Y1 hl
    simp only [sv] at*
    simp at*
    omega
  ·refine h1.2 ?_
   rw [hs] at hv ⊢
   have:=Y1 hl
   simp only [sv] at*
   simp at*
   omega
 refine ⟨_,rfl,rfl,z,if s=true then -m - 1 else m,?_,?_,rfl⟩
 ·rw [← ha.1.sv]
  unfold sv
  rw [qL,has]
  split<;>grind
 ·refine ⟨NG.1,NG.2.1,?_,fun _=>DH.2⟩
  have h5:=NG.abs
  rw [B0] at h5
  show sv s r.2=_
  unfold sv
  rw [h5]
  split<;>omega
theorem bC {s:Bool} {a:LI} (ha:LW a) (hn:a.length≤1000000):Ret (m_cs s a) (fun r=>Bg (- sv s a) r.1 r.2):=by
 unfold m_cs
 rw [xc hn,obs]
 refine Zw (W7 (!s) ha hn) fun r hr=>⟨_,rfl,?_⟩
 rw [Sf] at hr
 exact hr
def sgF (s:Nat):Int:=if s=1 then -1 else 1
theorem sr {s m:Nat}:sgF s*((4503599627370496+m:Nat):Int)≠0:=by unfold sgF; split<;>omega
theorem Vs {s e m:Nat} (hs:s < 2) (he:e < 2048) (hm:m < 4503599627370496):(!(decide ((wand .u64 (Fl s e m) 9223372036854775808)=0)))=decide (s=1):=by
 rw [xD hs he hm]
 rcases (show s=0∨s=1 by omega) with rfl | rfl<;>rfl
theorem PB {s e m:Nat} (hs:s < 2) (h0:0 < e) (he:e < 2047) (hm:m < 4503599627370496):Ret (m_dl (Fl s e m)) (Dv (sgF s*((4503599627370496+m:Nat):Int)) ((e:Int) - 1075)):=by
 unfold m_dl m_ce
 rw [obs,Dk hs A0 hm,ju hs A0 hm,Ga (x:=(e:Int)) A0]
 simp only
 rw [B0,B0,C3 A0 A0,iu hm]
 unfold m_dk
 rw [Ga A0]
 refine Zw (Vt (n:=((4503599627370496+m:Nat):Int)) A0 A0) fun a ha=>?_
 have KL:a.2.length≤2:=Bg.len ha (by have:pw 2=18446744073709551616:=rfl; omega) (by have:pw 2=18446744073709551616:=rfl; omega)
 unfold m_cq
 rw [obs,Vs hs A0 hm]
 have fin:∀ (b:Bool) (l:LI),Bg (sgF s*((4503599627370496+m:Nat):Int)) b l→l.length≤2→Ret (m_dj ((e:Int) - 1075) b l) (Dv (sgF s*((4503599627370496+m:Nat):Int)) ((e:Int) - 1075)):=by
  intro b l hB hl
  unfold m_dj m_di
  rw [J0,J0]
  have:=Qs (s:=b) hB.1 A0 (by rw [hB.sv]; exact sr) (x:=(e:Int) - 1075) A0
  rw [hB.sv] at this
  exact this.mono fun r hr=>⟨_,rfl,_,rfl,hr.1⟩
 rw [O0]
 refine ⟨fun h1=>?_,fun h1=>?_⟩
 ·have h1:s=1:=by simpa using h1
  subst h1
  refine Zw (bC (s:=a.1) ha.1 A0) fun r hr=>?_
  rw [ha.sv] at hr
  have e1:sgF 1*((4503599627370496+m:Nat):Int)= - ((4503599627370496+m:Nat):Int):=by unfold sgF; rw [M0 rfl]; omega
  refine fin r.1 r.2 (hr.cast e1.symm) ?_
  exact Bg.len hr (by have:pw 2=18446744073709551616:=rfl; omega) (by have:pw 2=18446744073709551616:=rfl; omega)
 ·have h2:¬ s=1:=by simpa using h1
  have h1:s=0:=A0
  subst h1
  exact fin a.1 a.2 (ha.cast (by unfold sgF; rw [B0]; omega)) KL
theorem oA {s e m:Nat} (hs:s < 2) (h0:0 < e) (he:e < 2047) (hm:m < 4503599627370496):Ret (m_hc (Fl s e m)) (Dv (sgF s*((4503599627370496+m:Nat):Int)) ((e:Int) - 1075)):=by
 unfold m_hc m_d
 rw [Dk hs A0 hm,ju hs A0 hm,obs,M0 (by simp; omega),Ga (x:=(e:Int)) A0,C0,C3 A0 A0,iu hm]
 unfold m_hb m_ha
 rw [obs,Vs hs A0 hm,J0]
 have hw:LW [wc .u32 ((4503599627370496+m:Nat):Int),wc .u32 (wsrc .u64 ((4503599627370496+m:Nat):Int) 32)]:=by
  intro x hx
  rw [M8,M8] at hx
  have b0:(0:Int) < B:=by unfold B; omega
  rcases U3.1 hx with rfl | hx
  ·exact ⟨P3 _ A0,W3 _ b0⟩
  ·rw [Y6.1 hx]
   exact ⟨P3 _ A0,W3 _ b0⟩
 have hv:lv [wc .u32 ((4503599627370496+m:Nat):Int),wc .u32 (wsrc .u64 ((4503599627370496+m:Nat):Int) 32)]=((4503599627370496+m:Nat):Int):=by
  rw [z7 A0,M8,M8]
  simp only [lv]
  unfold B
  omega
 have GK:sv (decide (s=1)) [wc .u32 ((4503599627370496+m:Nat):Int),wc .u32 (wsrc .u64 ((4503599627370496+m:Nat):Int) 32)]=sgF s*((4503599627370496+m:Nat):Int):=by
  unfold sv sgF
  rw [hv]
  rcases (show s=0∨s=1 by omega) with rfl | rfl
  ·simp
  ·simp
 have:=Zs (s:=decide (s=1)) hw H0 (by rw [GK]; exact sr) (x:=(e:Int) - 1075) A0
 rw [GK] at this
 exact this.mono fun r hr=>⟨_,rfl,hr⟩
theorem QB {s e m:Nat} (hs:s < 2) (h0:0 < e) (he:e < 2047) (hm:m < 4503599627370496):∃ d,m_dl (Fl s e m)=some d∧m_hc (Fl s e m)=some d∧Dv (sgF s*((4503599627370496+m:Nat):Int)) ((e:Int) - 1075) d:=by
 obtain ⟨d,h1,h2⟩:=PB hs h0 he hm
 obtain ⟨d',h3,h4⟩:=oA hs h0 he hm
 obtain rfl:=h2.uniq h4
 exact ⟨d,h1,h3,h2⟩
theorem Eg:m_dl 0=some (false,false,[],0)∧m_hc 0=some (false,false,[],0):=⟨I0,I0⟩
def Gf (a b:Nat) (f:Int):Prop:=f=0∨∃ s e m,s < 2∧a≤e∧e≤b∧m < 4503599627370496∧f=Fl s e m
structure Fd_ (x0:Int) (f v:Int) (d:Bool×Bool×LI×Int):Prop where
 p:m_dl f=some d
 r:m_hc f=some d
 bad:d.1=false
 zero:v=0→d=(false,false,[],0)
 bg:v≠0→∃ (k:Nat) (u:Int),d.2.2.2=x0+k∧k≤300∧Bg u d.2.1 d.2.2.1∧v=u*2 ^ k∧(-9007199254740992 < u∧u < 9007199254740992)∧-(2 ^ 145) < v∧v < 2 ^ 145
theorem Gf.dy {a b:Nat} {f:Int} (h:Gf a b f) (ha:0 < a) (hb:b < 2047) (DG:b≤a+92):∃ v d,Fd_ ((a:Int) - 1075) f v d:=by
 rcases h with rfl | ⟨s,e,m,hs,h1,h2,hm,rfl⟩
 ·exact ⟨0,_,Eg.1,Eg.2,rfl,fun _=>rfl,fun h=>absurd rfl h⟩
 ·obtain ⟨d,d1,d2,d3⟩:=QB hs (e:=e) A0 A0 hm
  obtain ⟨d4,z,u,d5,d6,d7⟩:=d3
  have hz:z < 53:=by
   refine H1 fun hc=>?_
   have h3:=ka (N:=53) (M:=z) A0
   have h4:(2:Int) ^ z*1≤2 ^ z*(2*u+1)∨2 ^ z*(2*u+1)≤2 ^ z*(-1):=by
    have hp:(0:Int) < 2 ^ z:=S5 A0
    by_cases hu:0≤u
    ·exact .inl (K3 A0 A0)
    ·exact .inr (K3 A0 A0)
   have h5:(2:Int) ^ 53=9007199254740992:=rfl
   unfold sgF at d5
   split at d5<;>omega
  have hp:(1:Int)≤2 ^ z:=by have:(0:Int) < 2 ^ z:=S5 A0; omega
  refine ⟨(2*u+1)*2 ^ (e - a+z),d,d1,d2,d4,fun h=>?_,fun _=>⟨e - a+z,2*u+1,by rw [d7]; omega,A0,d6,rfl,⟨?_,?_⟩,?_⟩⟩
  ·exfalso
   have hp:(0:Int) < 2 ^ (e - a+z):=S5 A0
   rcases K4.1 h with h | h<;>omega
  ·have h4:u < 0→2 ^ z*(2*u+1)≤1*(2*u+1):=fun hu=>cm hp A0
   unfold sgF at d5
   split at d5<;>omega
  ·have h4:0≤u→1*(2*u+1)≤2 ^ z*(2*u+1):=fun hu=>D3 hp A0
   unfold sgF at d5
   split at d5<;>omega
  ·have e1:(2*u+1)*2 ^ (e - a+z)=2 ^ z*(2*u+1)*2 ^ (e - a):=by rw [E5]; grind
   have e2:(2:Int) ^ 145=9007199254740992*2 ^ 92:=by rw [show 145=53+92 from rfl,E5]; rfl
   have CJ:=ka (N:=e - a) (M:=92) A0
   have sN:(0:Int) < 2 ^ (e - a):=S5 A0
   rw [e1,← d5,e2]
   generalize (2:Int) ^ 92=P at*
   generalize (2:Int) ^ (e - a)=Q at*
   have qD: -9007199254740991≤sgF s*((4503599627370496+m:Nat):Int)∧sgF s*((4503599627370496+m:Nat):Int)≤9007199254740991:=by unfold sgF; split<;>omega
   have c1:sgF s*((4503599627370496+m:Nat):Int)*Q≤9007199254740991*Q:=D3 qD.2 A0
   have c2: -9007199254740991*Q≤sgF s*((4503599627370496+m:Nat):Int)*Q:=D3 qD.1 A0
   exact ⟨A0,A0⟩
theorem dh:m_dm false false [] 0=some 0∧m_hd false false [] 0=some 0:=⟨I0,I0⟩
theorem Bg.len2 {u:Int} {s:Bool} {l:LI} (h:Bg u s l) (h1: -9007199254740992 < u) (h2:u < 9007199254740992):l.length≤2:=Bg.len h (by have:pw 2=18446744073709551616:=rfl; omega) (by have:pw 2=18446744073709551616:=rfl; omega)
theorem Fd_.sign {x0 f v:Int} {d:Bool×Bool×LI×Int} (h:Fd_ x0 f v d) (hx: -2000≤x0∧x0≤2000):∃ g,m_dm d.1 d.2.1 d.2.2.1 d.2.2.2=some g∧m_hd d.1 d.2.1 d.2.2.1 d.2.2.2=some g∧(g=0↔v=0):=by
 by_cases hv:v=0
 ·rw [h.zero hv]
  exact ⟨0,dh.1,dh.2,by simp [hv]⟩
 ·obtain ⟨k,u,h1,h2,h3,h4,⟨h5,h6⟩,_⟩:=h.bg hv
  have hu:u≠0:=fun h0=>hv (by rw [h4,h0,V3])
  have hl:=h3.len2 h5 h6
  obtain ⟨r,r1,r2⟩:=Qs (s:=d.2.1) h3.1 A0 (by rw [h3.sv]; exact hu) (x:=d.2.2.2) A0
  obtain ⟨q,q1,q2⟩:=Zs (s:=d.2.1) h3.1 A0 (by rw [h3.sv]; exact hu) (x:=d.2.2.2) A0
  have e1:=r2.1.uniq q2
  obtain ⟨q0,z,y,e3,e4,_⟩:=q2
  have hy:=Uf e4 A0
  have aK:q.2.2.1.length≤2:=by
   have hp:(1:Int)≤2 ^ z:=by have:(0:Int) < 2 ^ z:=S5 A0; omega
   rw [h3.sv] at e3
   refine e4.len2 ?_ ?_
   ·have h4:y < 0→2 ^ z*(2*y+1)≤1*(2*y+1):=fun hu=>cm hp A0
    omega
   ·have h4:0≤y→1*(2*y+1)≤2 ^ z*(2*y+1):=fun hu=>D3 hp A0
    omega
  have f1:=ue (s:=q.2.1) e4.1 A0
  have f2:=bc e4 A0
  rw [e4.sv] at f1
  refine ⟨if 2*y+1 < 0 then -1 else if 0 < 2*y+1 then 1 else 0,?_,?_,?_⟩
  ·unfold m_dm
   rw [h.bad,r1,obs]
   have e5:r.2.1=q.2.1:=C1 (·.2.1) e1
   have e6:r.2.2.1=q.2.2.1:=C1 (·.2.2.1) e1
   rw [e5,e6,f1,obs]
  ·unfold m_hd m_bi
   rw [h.bad,K0 H0,q1,obs,obs]
   simp only
   rw [q0,K0 H0,f2,obs]
  ·constructor
   ·intro h0; exfalso; split at h0<;>(try split at h0)<;>omega
   ·intro h0; exact absurd h0 hv
end Km
