/- Lists of limbs of 32 bits: their values, and the machine's steps upon them. -/
import Derived.Test.YtcoaljcfifecgaeGreatDoorVcA
import Derived.Test.YtcoaljcfifecgaeGreatDoorM12
import Derived.KernelRfl
set_option linter.unusedVariables false
set_option linter.unusedSimpArgs false
set_option maxHeartbeats 4000000
set_option maxRecDepth 10000
namespace Lm
open Sx Go Vc
def B:Int:=4294967296
theorem wc_u32 (x:Int):wc .u32 x=x % B:=by unfold wc B; rw [IntKind.wrap_u32]
theorem wc_u64 (x:Int):wc .u64 x=x % 18446744073709551616:=by unfold wc; rw [IntKind.wrap_u64]
theorem wc_u64_in {x:Int} (h:0≤x∧x < 18446744073709551616):wc .u64 x=x:=by rw [wc_u64]; omega
theorem wc_u32_in {x:Int} (h:0≤x∧x < B):wc .u32 x=x:=by rw [wc_u32]; unfold B at *; omega
theorem wc_i64_in {x:Int} (h: -9223372036854775808≤x∧x≤9223372036854775807):wc .i64 x=x:=IntWalk.i64_in _ h
theorem wa_u64 {x y:Int} (h:0≤x+y∧x+y < 18446744073709551616):wa .u64 x y=x+y:=IntWalk.u64_in _ ⟨h.1,by omega⟩
theorem wm_u64 {x y:Int} (h:0≤x*y∧x*y < 18446744073709551616):wm .u64 x y=x*y:=IntWalk.u64_in _ ⟨h.1,by omega⟩
theorem ws_u64 (x y:Int):ws .u64 x y=(x - y) % 18446744073709551616:=by unfold ws; rw [IntKind.wrap_u64]
theorem wa_u32 (x y:Int):wa .u32 x y=(x+y) % B:=by unfold wa B; rw [IntKind.wrap_u32]
theorem bv64 {x:Int} (h:0≤x∧x < 18446744073709551616):(BitVec.ofInt 64 x).toNat=x.toNat:=by
 rw [BitVec.toNat_ofInt]
 omega
theorem wand_low {x:Int} (h:0≤x∧x < 18446744073709551616):wand .u64 x 4294967295=x % B:=by
 unfold wand
 have e:(BitVec.ofInt 64 x &&& BitVec.ofInt 64 4294967295).toNat=x.toNat % 4294967296:=by
  rw [BitVec.toNat_and,bv64 h,bv64 (by omega)]
  show x.toNat &&& 4294967295=_
  exact Nat.and_two_pow_sub_one_eq_mod x.toNat 32
 show IntKind.u64.wrap ((BitVec.ofInt 64 x &&& BitVec.ofInt 64 4294967295).toNat:Int)=_
 rw [e,IntWalk.u64_in _ (by omega)]
 unfold B
 omega
theorem wand_one {x:Int} (h:0≤x∧x < 18446744073709551616):wand .u64 x 1=x % 2:=by
 unfold wand
 have e:(BitVec.ofInt 64 x &&& BitVec.ofInt 64 1).toNat=x.toNat % 2:=by
  rw [BitVec.toNat_and,bv64 h,bv64 (by omega)]
  exact Nat.and_two_pow_sub_one_eq_mod x.toNat 1
 show IntKind.u64.wrap ((BitVec.ofInt 64 x &&& BitVec.ofInt 64 1).toNat:Int)=_
 rw [e,IntWalk.u64_in _ (by omega)]
 omega
theorem wsrc32 {x:Int} (h:0≤x):wsrc .u64 x 32=x / B:=by
 unfold wsrc B
 show x.fdiv (2 ^ 32)=_
 rw [Int.fdiv_eq_ediv_of_nonneg _ (by omega)]
 rfl
theorem wsrc63 {x:Int} (h:0≤x):wsrc .u64 x 63=x / 9223372036854775808:=by
 unfold wsrc
 show x.fdiv (2 ^ 63)=_
 rw [Int.fdiv_eq_ediv_of_nonneg _ (by omega)]
 rfl
theorem wslc32 {x:Int} (h:0≤x∧x < B):wslc .u64 x 32=x*B:=by
 unfold wslc B at*
 show IntKind.u64.wrap (x*2 ^ 32)=_
 rw [IntWalk.u64_in _ (by omega)]
 omega
theorem wor_hi {x y:Int} (hx:0≤x∧x < B) (hy:0≤y∧y < B):wor .u64 (x*B) y=x*B+y:=by
 unfold B at*
 unfold wor
 have e:(BitVec.ofInt 64 (x*4294967296) ||| BitVec.ofInt 64 y).toNat=x.toNat*4294967296+y.toNat:=by
  rw [BitVec.toNat_or,bv64 (by omega),bv64 (by omega)]
  have e1:(x*4294967296).toNat=2 ^ 32*x.toNat:=by omega
  rw [e1,← Nat.two_pow_add_eq_or_of_lt (by omega)]
  omega
 show IntKind.u64.wrap ((BitVec.ofInt 64 (x*4294967296) ||| BitVec.ofInt 64 y).toNat:Int)=_
 rw [e,IntWalk.u64_in _ (by omega)]
 omega
def LW (l:List Int):Prop:=∀ x,x∈l→0≤x∧x < B
def lv:List Int→Int
 | []=>0
 | x::l=>x+B*lv l
def pw:Nat→Int
 | 0=>1
 | n+1=>B*pw n
theorem pw_pos:∀ n,0 < pw n
 | 0=>by simp [pw]
 | n+1=>by have:=pw_pos n; unfold pw B; omega
theorem pw_add (m:Nat):∀ n,pw (m+n)=pw m*pw n
 | 0=>by simp [pw]
 | n+1=>by
  have:=pw_add m n
  simp only [pw,Nat.add_eq]
  rw [this]
  grind
theorem lv_nn:∀ {l:List Int},LW l→0≤lv l
 | [],_=>by simp [lv]
 | x::l,h=>by
  have h1:=lv_nn (l:=l) (fun y hy=>h y (by simp [hy]))
  have h2:=h x (by simp)
  unfold lv B
  omega
theorem lv_lt:∀ {l:List Int},LW l→lv l < pw l.length
 | [],_=>by simp [lv,pw]
 | x::l,h=>by
  have h1:=lv_lt (l:=l) (fun y hy=>h y (by simp [hy]))
  have h2:=h x (by simp)
  simp only [lv,List.length_cons,pw]
  unfold B at*
  omega
theorem lv_app:∀ (a b:List Int),lv (a++b)=lv a+pw a.length*lv b
 | [],b=>by simp [lv,pw]
 | x::a,b=>by
  have:=lv_app a b
  simp only [List.cons_append,lv,List.length_cons,pw,this]
  grind
theorem lv_zeros:∀ n,lv (List.replicate n 0)=0
 | 0=>rfl
 | n+1=>by simp [List.replicate_succ,lv,lv_zeros n]
theorem LW.tail {x:Int} {l:List Int} (h:LW (x::l)):LW l:=fun y hy=>h y (by simp [hy])
theorem LW.app {a b:List Int}:LW (a++b)↔LW a∧LW b:=by
 unfold LW
 constructor
 ·intro h; exact ⟨fun x hx=>h x (by simp [hx]),fun x hx=>h x (by simp [hx])⟩
 ·rintro ⟨h1,h2⟩ x hx
  rcases List.mem_append.1 hx with hx | hx
  ·exact h1 x hx
  ·exact h2 x hx
theorem LW.one {x:Int}:LW [x]↔0≤x∧x < B:=by simp [LW]
def Tm (l:List Int):Prop:=∀ x,l.getLast?=some x→x≠0
theorem tm_nil:Tm []:=by simp [Tm]
theorem tm_snoc {l:List Int} {x:Int} (h:x≠0):Tm (l++[x]):=by simp [Tm,h]
theorem tm_lower:∀ {l:List Int},LW l→Tm l→l≠[]→pw (l.length - 1)≤lv l:=by
 intro l h ht hne
 obtain ⟨m,x,rfl⟩:∃ m x,l=m++[x]:=⟨l.dropLast,l.getLast hne,(List.dropLast_concat_getLast hne).symm⟩
 have hx:=ht x (by simp)
 obtain ⟨h1,h2⟩:=LW.app.1 h
 have h3:=lv_nn h1
 have h4:=LW.one.1 h2
 rw [lv_app]
 simp only [List.length_append,List.length_singleton,Nat.add_sub_cancel,lv]
 have h5:=pw_pos m.length
 have:pw m.length*1≤pw m.length*x:=Int.mul_le_mul_of_nonneg_left (by omega) (by omega)
 simp at this ⊢
 omega
theorem pw_mono {m n:Nat} (h:m≤n):pw m≤pw n:=by
 obtain ⟨k,rfl⟩:∃ k,n=m+k:=⟨n - m,by omega⟩
 rw [pw_add]
 have h1:=pw_pos m
 have h2:=pw_pos k
 have:pw m*1≤pw m*pw k:=Int.mul_le_mul_of_nonneg_left (by omega) (by omega)
 omega
theorem tm_len {a b:List Int} (ha:LW a) (hb:LW b) (ta:Tm a) (tb:Tm b) (h:a.length < b.length):lv a < lv b:=by
 have h1:=lv_lt ha
 have h2:=tm_lower hb tb (by rintro rfl; simp at h)
 have h3:=pw_mono (m:=a.length) (n:=b.length - 1) (by omega)
 omega
theorem lv_inj:∀ {a b:List Int},LW a→LW b→a.length=b.length→lv a=lv b→a=b
 | [],[],_,_,_,_=>rfl
 | [],_::_,_,_,h,_=>by simp at h
 | _::_,[],_,_,h,_=>by simp at h
 | x::a,y::b,ha,hb,hl,he=>by
  have hx:=ha x (by simp)
  have hy:=hb y (by simp)
  simp only [lv] at he
  unfold B at*
  have e1:x=y:=by omega
  subst e1
  have e2:lv a=lv b:=by omega
  rw [lv_inj ha.tail hb.tail (by simpa using hl) e2]
theorem tm_inj {a b:List Int} (ha:LW a) (hb:LW b) (ta:Tm a) (tb:Tm b) (he:lv a=lv b):a=b:=by
 have h1:¬ a.length < b.length:=fun h=>by have:=tm_len ha hb ta tb h; omega
 have h2:¬ b.length < a.length:=fun h=>by have:=tm_len hb ha tb ta h; omega
 exact lv_inj ha hb (by omega) he
theorem lv_zero {a:List Int} (ha:LW a) (ta:Tm a):lv a=0↔a=[]:=by
 constructor
 ·intro h
  exact tm_inj ha (by intro x hx; simp at hx) ta tm_nil h
 ·rintro rfl; rfl
def trimL:List Int→List Int
 | []=>[]
 | x::l=>match trimL l with
  | []=>if x=0 then [] else [x]
  | m=>x::m
theorem trimL_lv:∀ l:List Int,lv (trimL l)=lv l
 | []=>rfl
 | x::l=>by
  have ih:=trimL_lv l
  unfold trimL
  cases h:trimL l with
  | nil=>
   rw [h] at ih
   simp only [lv] at ih
   simp only
   by_cases hx:x=0
   ·rw [if_pos hx]; simp only [lv,← ih,hx]; rfl
   ·rw [if_neg hx]; simp only [lv,← ih]
  | cons y m=>
   rw [h] at ih
   simp only [lv] at ih ⊢
   rw [ih]
theorem trimL_lw:∀ {l:List Int},LW l→LW (trimL l)
 | [],h=>h
 | x::l,h=>by
  have ih:=trimL_lw h.tail
  unfold trimL
  cases e:trimL l with
  | nil=>
   simp only
   split
   ·intro y hy; simp at hy
   ·exact LW.one.2 (h x (by simp))
  | cons y m=>
   rw [e] at ih
   simp only
   intro z hz
   rcases List.mem_cons.1 hz with rfl | hz
   ·exact h z (by simp)
   ·exact ih z hz
theorem trimL_tm:∀ l:List Int,Tm (trimL l)
 | []=>tm_nil
 | x::l=>by
  have ih:=trimL_tm l
  unfold trimL
  cases e:trimL l with
  | nil=>
   simp only
   split
   ·exact tm_nil
   ·rename_i h; intro y hy; simp at hy; omega
  | cons y m=>
   rw [e] at ih
   simp only
   intro z hz
   refine ih z ?_
   rw [← hz,List.getLast?_cons_cons]
theorem trimL_of {l:List Int} (hl:LW l) (ht:Tm l):trimL l=l:=tm_inj (trimL_lw hl) hl (trimL_tm l) ht (trimL_lv l)
theorem tm_ext {a:List Int} {b:List Int} (ha:LW a) (hb:LW b) (ta:Tm a) (h:lv a=lv b):a=trimL b:=
 tm_inj ha (trimL_lw hb) ta (trimL_tm b) (by rw [trimL_lv,h])
end Lm
namespace Lm
def Qt (u v q:Int):Prop:=q*v≤u∧u < (q+1)*v
theorem Qt.le_of {u v q x:Int} (h:Qt u v q) (hv:0 < v) (hx:x*v≤u):x≤q:=by
 refine Classical.byContradiction fun hno=>?_
 have h1:(q+1)*v≤x*v:=Int.mul_le_mul_of_nonneg_right (by omega) (by omega)
 have:=h.2
 omega
theorem Qt.lt_of {u v q x:Int} (h:Qt u v q) (hv:0 < v) (hx:u < x*v):q < x:=by
 refine Classical.byContradiction fun hno=>?_
 have h1:x*v≤q*v:=Int.mul_le_mul_of_nonneg_right (by omega) (by omega)
 have:=h.1
 omega
theorem Qt.nn {u v q:Int} (h:Qt u v q) (hv:0 < v) (hu:0≤u):0≤q:=h.le_of hv (by omega)
theorem Qt.uniq {u v q q':Int} (h:Qt u v q) (h':Qt u v q') (hv:0 < v):q=q':=Int.le_antisymm (h'.le_of hv h.1) (h.le_of hv h'.1)
theorem Qt.ediv {u v:Int} (hv:0 < v):Qt u v (u / v):=⟨Int.ediv_mul_le u (by omega),by rw [Int.add_mul,Int.one_mul]; exact Int.lt_ediv_add_one_mul_self u hv |> fun h=>by rw [Int.add_mul,Int.one_mul] at h; exact h⟩
theorem Qt.eq {u v q:Int} (h:Qt u v q) (hv:0 < v):q=u / v:=h.uniq (Qt.ediv hv) hv
theorem guess_ge {u v q top vt P ur vr:Int} (h:Qt u v q) (hP:0 < P) (hu:u=top*P+ur) (hur:ur < P) (hv:v=vt*P+vr) (hvr:0≤vr) (hvt:0 < vt) (hq:0≤q):q*vt≤top:=by
 refine Classical.byContradiction fun hno=>?_
 have h1:(top+1)*P≤q*vt*P:=Int.mul_le_mul_of_nonneg_right (by omega) (by omega)
 have h2:0≤q*vr:=Int.mul_nonneg hq hvr
 have h3:=h.1
 have e1:q*v=q*vt*P+q*vr:=by rw [hv]; grind
 have e2:(top+1)*P=top*P+P:=by grind
 omega
theorem guess_le {u v q g t3 v2 S us vs:Int} (h:Qt u v q) (hS:0 < S) (hu:u=t3*S+us) (hus:0≤us) (hv:v=v2*S+vs) (hvs:vs < S) (hvs0:0≤vs) (hg:g*v2≤t3) (hg0:0≤g) (hgB:g*S≤v) (hv0:0 < v):g≤q+1:=by
 have h1:g*v2*S≤t3*S:=Int.mul_le_mul_of_nonneg_right hg (by omega)
 have h2:g*vs≤g*S:=Int.mul_le_mul_of_nonneg_left (by omega) hg0
 have e1:g*v=g*v2*S+g*vs:=by rw [hv]; grind
 refine Classical.byContradiction fun hno=>?_
 have h3:(q+2)*v≤g*v:=Int.mul_le_mul_of_nonneg_right (by omega) (by omega)
 have e2:(q+2)*v=(q+1)*v+v:=by grind
 have h4:=h.2
 omega
theorem guess_gt {u v q g t3 v2 S us vs:Int} (h:Qt u v q) (hS:0 < S) (hu:u=t3*S+us) (hus:us < S) (hv:v=v2*S+vs) (hvs0:0≤vs) (hg:t3 < g*v2) (hg0:0≤g) (hv0:0 < v):q < g:=by
 refine h.lt_of hv0 ?_
 have h1:(t3+1)*S≤g*v2*S:=Int.mul_le_mul_of_nonneg_right (by omega) (by omega)
 have h2:0≤g*vs:=Int.mul_nonneg hg0 hvs0
 have e1:g*v=g*v2*S+g*vs:=by rw [hv]; grind
 have e2:(t3+1)*S=t3*S+S:=by grind
 omega
end Lm
namespace Km
open Sx Go Vc Lm
theorem any_shift {q s:Nat} (hq:q≤1000000) (hs:s < 32):wqc .i64 ((32*q+s:Nat):Int) 32=(q:Int)∧wrc ((32*q+s:Nat):Int) 32=(s:Int):=by
 constructor
 ·show IntKind.wrap .i64 (Int.tdiv _ 32)=_
  rw [Int.tdiv_eq_ediv_of_nonneg (by omega),IntWalk.i64_in _ (by omega)]; omega
 ·show Int.tmod _ 32=_
  rw [Int.tmod_eq_emod_of_nonneg (by omega)]; omega
theorem two_pow {s:Nat} (hs:s < 32):0 < (2:Int) ^ s∧(2:Int) ^ s≤2147483648∧(2:Int) ^ s*2 ^ (32 - s)=B∧0 < (2:Int) ^ (32 - s):=by
 refine ⟨Int.pow_pos (by omega),?_,?_,Int.pow_pos (by omega)⟩
 ·have h9:((2 ^ s:Nat):Int)≤((2147483648:Nat):Int):=Int.ofNat_le.2 (Nat.le_trans (Nat.pow_le_pow_right (n:=2) (j:=31) (by omega) (by omega)) (by decide))
  rw [Int.natCast_pow] at h9
  exact h9
 ·rw [← Int.pow_add,show s+(32 - s)=32 by omega]; rfl
theorem wor_low {s:Nat} (hs:s < 32) {c x:Int} (hc:0≤c∧c < 2 ^ s) (hx:0≤x∧x < B) (hb:x*2 ^ s < 18446744073709551616):wor .u64 c (x*2 ^ s)=c+x*2 ^ s:=by
 unfold wor
 obtain ⟨C,rfl⟩:=Int.eq_ofNat_of_zero_le hc.1
 obtain ⟨X,rfl⟩:=Int.eq_ofNat_of_zero_le hx.1
 have hC:C < 2 ^ s:=by exact_mod_cast hc.2
 have e2:((X:Int)*2 ^ s)=((2 ^ s*X:Nat):Int):=by push_cast; rw [Int.mul_comm]
 have hb:2 ^ s*X < 18446744073709551616:=by have h9:((2 ^ s*X:Nat):Int) < ((18446744073709551616:Nat):Int):=(by rw [← e2]; omega); exact Int.ofNat_lt.1 h9
 have h31:2 ^ s≤2 ^ 31:=Nat.pow_le_pow_right (by omega) (by omega)
 have e3:(BitVec.ofInt 64 (C:Int) ||| BitVec.ofInt 64 ((X:Int)*2 ^ s)).toNat=2 ^ s*X+C:=by
  rw [BitVec.toNat_or,bv64 (by omega),bv64 (by omega),e2,Int.toNat_natCast,Int.toNat_natCast,Nat.or_comm,← Nat.two_pow_add_eq_or_of_lt hC]
 have h9:2 ^ s*X+C < 18446744073709551616:=by
  have:=Nat.two_pow_add_eq_or_of_lt hC X
  rw [this]
  exact Nat.or_lt_two_pow (n:=64) hb (by omega)
 show IntKind.u64.wrap ((BitVec.ofInt 64 (C:Int) ||| BitVec.ofInt 64 ((X:Int)*2 ^ s)).toNat:Int)=_
 rw [e3,IntWalk.u64_in _ ⟨by omega,by omega⟩,e2]
 push_cast
 omega
theorem lw_zeros (n:Nat):LW (List.replicate n 0):=fun x hx=>by rw [List.mem_replicate] at hx; rw [hx.2]; unfold B; omega
end Km
namespace Km
open Sx Go M Vc Lm
theorem lv_snoc (l:List Int) (x:Int):lv (l++[x])=lv l+pw l.length*x:=by
 rw [lv_app]; simp [lv]
theorem LW.take {l:List Int} (h:LW l) (k:Nat):LW (l.take k):=fun x hx=>h x (List.mem_of_mem_take hx)
theorem LW.get {l:List Int} (h:LW l) {k:Nat} {x:Int} (hx:l[k]?=some x):0≤x∧x < B:=h x (mem_get hx)
theorem trim_ok {l:List Int} (hl:LW l) (hn:l.length≤1000000):m_c5 l=some (trimL l):=by
 refine Ret.eq ?_
 unfold m_c5
 rw [ret_bind]
 refine (ret_loop (Post:=fun i=>∃ k:Nat,i=(k:Int)∧k≤l.length∧lv (l.take k)=lv l∧Tm (l.take k)) l.length (fun m (i:Int)=>i=((l.length - m:Nat):Int)∧m≤l.length∧lv (l.take (l.length - m))=lv l) ⟨by rw [Nat.sub_zero],by omega,by rw [Nat.sub_zero,List.take_length]⟩ ?_ (by omega)).mono ?_
 ·rintro m _ hm ⟨rfl,h1,h2⟩
  unfold m_c4
  rw [ret_bind,ret_if]
  refine ⟨fun hlt=>?_,fun hge=>?_⟩
  ·have e1:ws .i64 ((l.length - m:Nat):Int) 1=((l.length - (m+1):Nat):Int):=by rw [ws_i (by omega) (by omega)]; omega
   rw [e1,ret_bind,ret_get]
   refine ⟨by omega,by omega,fun x hx=>?_⟩
   rw [Int.toNat_natCast] at hx
   have ht:l.take (l.length - m)=l.take (l.length - (m+1))++[x]:=by
    rw [show l.length - m=l.length - (m+1)+1 by omega]; exact tks hx
   rw [ret_some,ret_if]
   refine ⟨fun hz=>?_,fun hz=>?_⟩
   ·have hz:x=0:=by simpa using hz
    refine ⟨_,rfl,by omega,rfl,by omega,?_⟩
    rw [← h2,ht,lv_snoc,hz]; simp
   ·have hz:x≠0:=by simpa using hz
    exact ⟨_,rfl,l.length - m,rfl,by omega,h2,by rw [ht]; exact tm_snoc hz⟩
  ·rw [ret_some,if_neg (by simp)]
   have e:l.length - m=0:=by omega
   exact ⟨_,rfl,0,by rw [e],by omega,by rw [← h2,e],by simp [Tm]⟩
 ·rintro _ ⟨k,rfl,h1,h2,h3⟩
  rw [ret_bind,ret_sli]
  refine ⟨by omega,by omega,by omega,_,rfl,?_⟩
  rw [Int.toNat_natCast,show (0:Int).toNat=0 from rfl,List.drop_zero]
  exact tm_ext (LW.take hl k) hl h3 h2
theorem big_ok {l:List Int} (s:Bool) (hl:LW l) (hn:l.length≤1000000):m_c6 s l=some (if trimL l=[] then (false,[]) else (s,trimL l)):=by
 unfold m_c6
 rw [trim_ok hl hn,obs]
 by_cases h:trimL l=[]
 ·rw [if_pos (by rw [h]; rfl),if_pos h]
 ·rw [if_neg (by simpa using h),if_neg h]
theorem from_ok {p:Int} (hp:0 < p) (hB:p < B):m_c8 p=some (false,[p]):=by
 unfold B at hB
 unfold m_c8 m_c7
 rw [if_neg (by omega),wc_u64_in ⟨by omega,by omega⟩,wand_low ⟨by omega,by omega⟩,wsrc32 (by omega)]
 have e1:p % B=p:=Int.emod_eq_of_lt (by omega) (by unfold B; omega)
 have e2:p / B=0:=Int.ediv_eq_zero_of_lt (by omega) (by unfold B; omega)
 rw [e1,e2,wc_u32_in ⟨by omega,by unfold B; omega⟩,wc_u32_in ⟨by omega,by unfold B; omega⟩]
 have hl:LW [p,0]:=by
  intro x hx
  simp at hx
  unfold B
  omega
 have ht:trimL [p,0]=[p]:=by
  simp [trimL]
  omega
 rw [big_ok _ hl (by simp),ht,obs,if_neg (by simp)]
 simp
 omega
theorem short_ok {a:List Int} {d:Int} (ha:LW a) (hn:a.length≤1000) (hd:0 < d) (hB:d < B):∃ q,m_e6 a d=some (q,lv a % d)∧LW q∧Tm q∧lv q=lv a / d:=by
 have key:Ret (m_e6 a d) (fun r=>LW r.1∧Tm r.1∧lv r.1=lv a / d∧r.2=lv a % d):=by
  unfold B at hB
  unfold m_e6
  rw [ret_bind,ret_mkL]
  refine ⟨by omega,by omega,?_⟩
  rw [Int.toNat_natCast,ret_bind]
  have hcd:wc .u64 d=d:=wc_u64_in ⟨by omega,by omega⟩
  refine (ret_loop (Post:=fun s:List Int×Int=>LW s.1∧s.1.length=a.length∧(0≤s.2∧s.2 < d)∧lv a=lv s.1*d+s.2) a.length (fun m (s:List Int×Int×Int)=>s.2.2=(a.length:Int) - 1 - m∧m≤a.length∧LW s.1∧s.1.length=a.length∧(0≤s.2.1∧s.2.1 < d)∧lv (a.drop (a.length - m))=lv (s.1.drop (a.length - m))*d+s.2.1) ⟨by show ws .i64 (a.length:Int) 1=_; rw [ws_i (by omega) (by omega)]; simp,by omega,fun x hx=>by rw [List.mem_replicate] at hx; rw [hx.2]; unfold B; omega,List.length_replicate ..,⟨by show (0:Int)≤0; omega,hd⟩,by rw [Nat.sub_zero,List.drop_length,List.drop_of_length_le (by simp)]; simp [lv]⟩ ?_ (by omega)).mono ?_
  ·rintro m ⟨q,r,_⟩ hm ⟨h1,h2,h3,h4,h5,h6⟩
   simp only at h1 h3 h4 h5 h6
   subst h1
   unfold m_e5
   simp only
   rw [ret_if]
   refine ⟨fun hge=>?_,fun hlt=>⟨_,rfl,h3,h4,h5,?_⟩⟩
   ·obtain ⟨i,hi⟩:∃ i:Nat,a.length=i+(m+1):=⟨a.length - (m+1),by omega⟩
    have ei:(a.length:Int) - 1 - (m:Int)=(i:Int):=by omega
    rw [ei,ret_bind,ret_get]
    refine ⟨by omega,by omega,fun x hx=>?_⟩
    rw [Int.toNat_natCast] at hx
    have hxB:=LW.get ha hx
    have hr2:0≤r∧r < B:=⟨h5.1,by unfold B; omega⟩
    have ht:wor .u64 (wslc .u64 r 32) (wc .u64 x)=r*B+x:=by
     rw [wslc32 hr2,wc_u64_in ⟨hxB.1,by unfold B at hxB; omega⟩,wor_hi hr2 hxB]
    rw [ht,hcd]
    have hr3:r+1≤d:=by omega
    have hmul:(r+1)*B≤d*B:=Int.mul_le_mul_of_nonneg_right hr3 (by unfold B; omega)
    have hrB:0≤r*B:=Int.mul_nonneg h5.1 (by unfold B; omega)
    rw [Int.add_mul,Int.one_mul] at hmul
    have htn:0≤r*B+x:=by omega
    have hq0:0≤(r*B+x) / d:=Int.ediv_nonneg htn (by omega)
    have hqB:(r*B+x) / d < B:=Int.ediv_lt_of_lt_mul hd (by rw [Int.mul_comm B d]; omega)
    have hrem:0≤(r*B+x) % d∧(r*B+x) % d < d:=⟨Int.emod_nonneg _ (by omega),Int.emod_lt_of_pos _ hd⟩
    have hwq:wq .u64 (r*B+x) d=some ((r*B+x) / d):=by
     unfold wq
     rw [if_neg (by omega),Int.tdiv_eq_ediv_of_nonneg htn,IntWalk.u64_in _ ⟨hq0,by have e:B=4294967296:=rfl; omega⟩]
    have hwr:wr (r*B+x) d=some ((r*B+x) % d):=by
     unfold wr
     rw [if_neg (by omega),Int.tmod_eq_emod_of_nonneg htn]
    rw [hwq,obs,ret_bind,ret_set]
    refine ⟨by omega,by omega,?_⟩
    rw [hwr,obs,Int.toNat_natCast,wc_u32_in ⟨hq0,hqB⟩]
    refine ⟨_,rfl,by omega,?_⟩
    simp only
    refine ⟨by rw [ws_i (by omega) (by omega)]; omega,by omega,?_,by rw [List.length_set]; exact h4,hrem,?_⟩
    ·intro y hy
     rcases List.mem_or_eq_of_mem_set hy with hy | rfl
     ·exact h3 y hy
     ·exact ⟨hq0,hqB⟩
    ·have e1:a.length - (m+1)=i:=by omega
     have e2:a.length - m=i+1:=by omega
     rw [e2] at h6
     rw [e1]
     have ea:a.drop i=x::a.drop (i+1):=by
      obtain ⟨hlt,he⟩:=List.getElem?_eq_some_iff.1 hx
      rw [← he]; exact List.drop_eq_getElem_cons hlt
     have eq:(q.set i ((r*B+x) / d)).drop i=((r*B+x) / d)::q.drop (i+1):=by
      have hlt:i < (q.set i ((r*B+x) / d)).length:=by rw [List.length_set]; omega
      rw [List.drop_eq_getElem_cons hlt,List.getElem_set_self,List.drop_set_of_lt (by omega)]
     rw [ea,eq]
     simp only [lv]
     rw [h6]
     have h7:=Int.mul_ediv_add_emod (r*B+x) d
     have e9:((r*B+x) / d+B*lv (q.drop (i+1)))*d=d*((r*B+x) / d)+B*(lv (q.drop (i+1))*d):=by grind
     rw [e9]
     have e10:B*(lv (q.drop (i+1))*d+r)=B*(lv (q.drop (i+1))*d)+r*B:=by grind
     rw [e10]
     omega
   ·have e:a.length - m=0:=by omega
    rw [e,List.drop_zero,List.drop_zero] at h6
    exact h6
  ·rintro ⟨q,r⟩ ⟨h1,h2,h3,h4⟩
   simp only at h1 h2 h3 h4 ⊢
   rw [trim_ok h1 (by omega),obs]
   refine ⟨_,rfl,trimL_lw h1,trimL_tm q,?_,?_⟩
   ·show lv (trimL q)=_
    rw [trimL_lv,h4,Int.add_comm,Int.add_mul_ediv_right _ _ (by omega),Int.ediv_eq_zero_of_lt h3.1 h3.2,Int.zero_add]
   ·show wc .u32 r=_
    rw [wc_u32_in ⟨h3.1,by unfold B; omega⟩,h4,Int.add_comm,Int.add_mul_emod_self_right,Int.emod_eq_of_lt h3.1 h3.2]
 obtain ⟨⟨q,r⟩,h0,h1,h2,h3,h4⟩:=key
 simp only at h1 h2 h3 h4
 exact ⟨q,by rw [h0,h4],h1,h2,h3⟩
end Km
namespace Km
open Sx Go M Vc Lm
theorem cmpInt_ok (x y:Int):m_ex x y=some (if x < y then -1 else if y < x then 1 else 0):=by
 unfold m_ex m_cq
 simp only [decide_true,Bool.not_true,obs,if_false,Bool.false_eq_true]
 split
 ·rfl
 ·split<;>rfl
theorem cmpU_ok (x y:Int):m_ew x y=some (if x < y then -1 else if y < x then 1 else 0):=by
 unfold m_ew m_ev
 simp only [decide_true,Bool.not_true,obs,if_false,Bool.false_eq_true]
 split
 ·rfl
 ·split<;>rfl
theorem split_at {a:List Int} {i:Nat} {x:Int} (hx:a[i]?=some x):lv a=lv (a.take i)+pw i*(x+B*lv (a.drop (i+1))):=by
 obtain ⟨hlt,he⟩:=List.getElem?_eq_some_iff.1 hx
 have e:a=a.take i++(x::a.drop (i+1)):=by
  rw [← he,← List.drop_eq_getElem_cons hlt,List.take_append_drop]
 have e2:lv a=lv (a.take i++(x::a.drop (i+1))):=congrArg lv e
 rw [e2,lv_app]
 simp only [lv,List.length_take]
 rw [Nat.min_eq_left (by omega)]
theorem take_lt {a:List Int} (ha:LW a) {i:Nat} (hi:i≤a.length):0≤lv (a.take i)∧lv (a.take i) < pw i:=by
 have h1:=lv_lt (LW.take ha i)
 rw [List.length_take,Nat.min_eq_left hi] at h1
 exact ⟨lv_nn (LW.take ha i),h1⟩
theorem lex_lt {a b:List Int} (ha:LW a) (hb:LW b) {i:Nat} {x y:Int} (hx:a[i]?=some x) (hy:b[i]?=some y) (he:a.drop (i+1)=b.drop (i+1)) (h:x < y):lv a < lv b:=by
 have h1:=(List.getElem?_eq_some_iff.1 hx).1
 have h2:=(List.getElem?_eq_some_iff.1 hy).1
 rw [split_at hx,split_at hy,he]
 have t1:=take_lt ha (i:=i) (by omega)
 have t2:=take_lt hb (i:=i) (by omega)
 have hp:=pw_pos i
 have e1:pw i*(y+B*lv (b.drop (i+1)))=pw i*(x+B*lv (b.drop (i+1)))+pw i*(y - x):=by grind
 have e2:pw i*1≤pw i*(y - x):=Int.mul_le_mul_of_nonneg_left (by omega) (by omega)
 rw [e1]
 omega
theorem compare_ok {a b:List Int} (ha:LW a) (hb:LW b) (ta:Tm a) (tb:Tm b) (hn:a.length≤1000) (hm:b.length≤1000):m_ez a b=some (if lv a < lv b then -1 else if lv b < lv a then 1 else 0):=by
 refine Ret.eq ?_
 unfold m_ez
 rw [ret_if]
 refine ⟨fun hl=>?_,fun hl=>?_⟩
 ·have hl:a.length=b.length:=by omega
  rw [ret_bind]
  refine (ret_loop (Post:=fun o=>(o=.inl ()∧a=b)∨∃ c,o=.inr c∧c=(if lv a < lv b then -1 else if lv b < lv a then 1 else 0)) a.length (fun m (i:Int)=>i=(a.length:Int) - 1 - m∧m≤a.length∧a.drop (a.length - m)=b.drop (a.length - m)) ⟨by rw [ws_i (by omega) (by omega)]; omega,by omega,by rw [Nat.sub_zero,List.drop_length,List.drop_of_length_le (by omega)]⟩ ?_ (by omega)).mono ?_
  ·rintro m i hm' ⟨rfl,h1,h2⟩
   unfold m_ey
   rw [ret_if]
   refine ⟨fun hge=>?_,fun hlt=>⟨_,rfl,.inl ⟨rfl,by have e:a.length - m=0:=(by omega); rwa [e,List.drop_zero,List.drop_zero] at h2⟩⟩⟩
   obtain ⟨j,hj⟩:∃ j:Nat,a.length=j+(m+1):=⟨a.length - (m+1),by omega⟩
   have ej:(a.length:Int) - 1 - (m:Int)=(j:Int):=by omega
   have e2:a.length - m=j+1:=by omega
   rw [e2] at h2
   rw [ej,ret_bind,ret_get]
   refine ⟨by omega,by omega,fun x hx=>?_⟩
   rw [ret_bind,ret_get]
   refine ⟨by omega,by omega,fun y hy=>?_⟩
   rw [Int.toNat_natCast] at hx hy
   rw [ret_if]
   refine ⟨fun he=>⟨_,rfl,by omega,by rw [ws_i (by omega) (by omega)]; omega,by omega,?_⟩,fun hne=>?_⟩
   ·subst he
    obtain ⟨k1,k2⟩:=List.getElem?_eq_some_iff.1 hx
    obtain ⟨k3,k4⟩:=List.getElem?_eq_some_iff.1 hy
    rw [show a.length - (m+1)=j by omega,List.drop_eq_getElem_cons k1,List.drop_eq_getElem_cons k3,k2,k4,h2]
   ·rw [ret_bind,ret_get]
    refine ⟨by omega,by omega,fun x' hx'=>?_⟩
    rw [Int.toNat_natCast,hx] at hx'
    obtain rfl:=Option.some.inj hx'
    rw [ret_bind,ret_get]
    refine ⟨by omega,by omega,fun y' hy'=>?_⟩
    rw [Int.toNat_natCast,hy] at hy'
    obtain rfl:=Option.some.inj hy'
    rw [cmpU_ok,obs]
    refine ⟨_,rfl,.inr ⟨_,rfl,?_⟩⟩
    rcases Int.lt_or_gt_of_ne hne with h | h
    ·rw [if_pos h,if_pos (lex_lt ha hb hx hy h2 h)]
    ·have:=lex_lt hb ha hy hx h2.symm h
     rw [if_neg (by omega),if_pos h,if_neg (by omega),if_pos this]
  ·rintro _ (⟨rfl,h⟩ | ⟨c,rfl,h⟩)
   ·refine ⟨_,rfl,?_⟩
    rw [h,if_neg (by omega),if_neg (by omega)]
   ·exact ⟨_,rfl,h⟩
 ·rw [cmpInt_ok,obs]
  refine ⟨_,rfl,?_⟩
  rcases Nat.lt_or_ge a.length b.length with h | h
  ·rw [if_pos (by omega),if_pos (tm_len ha hb ta tb h)]
  ·have:=tm_len hb ha tb ta (show b.length < a.length by omega)
   rw [if_neg (by omega),if_pos (by omega),if_neg (by omega),if_pos this]
theorem take_succ {a:List Int} {i:Nat} {x:Int} (hx:a[i]?=some x):lv (a.take (i+1))=lv (a.take i)+pw i*x:=by
 rw [tks hx,lv_snoc,List.length_take,Nat.min_eq_left (by have:=(List.getElem?_eq_some_iff.1 hx).1; omega)]
theorem take_stay {a:List Int} {i:Nat} (h:a.length≤i):lv (a.take (i+1))=lv (a.take i):=by
 rw [take_all h,take_all (by omega)]
theorem plusJ_ok {a b:List Int} (ha:LW a) (hb:LW b) (hl:b.length≤a.length) (hn:a.length≤1000):Ret (m_du a b) (fun r=>LW r∧Tm r∧lv r=lv a+lv b):=by
 unfold m_du
 have h0:mkLc (0:Int) 0 (wa .i64 (a.length:Int) 1)=some []:=by
  rw [wa_i (by omega) (by omega)]; unfold mkLc BIG; rw [if_pos ⟨by omega,by omega,by omega⟩]; rfl
 rw [h0,obs,ret_bind]
 refine (ret_loop (Post:=fun s:List Int×Int=>LW s.1∧s.1.length=a.length∧(s.2=0∨s.2=1)∧lv s.1+pw a.length*s.2=lv a+lv b) a.length (fun i (s:List Int×Int×Int)=>s.2.2=(i:Int)∧LW s.1∧s.1.length=i∧(s.2.1=0∨s.2.1=1)∧lv s.1+pw i*s.2.1=lv (a.take i)+lv (b.take i)) ⟨rfl,by intro x hx; simp at hx,rfl,.inl rfl,by simp [lv]⟩ ?_ (by omega)).mono ?_
 ·rintro i ⟨o,c,_⟩ hi ⟨rfl,h1,h2,h3,h4⟩
  simp only at h1 h2 h3 h4
  unfold m_dt m_ds
  simp only
  rw [ret_if]
  refine ⟨fun hlt=>?_,fun hge=>⟨_,rfl,h1,by show o.length=_; omega,h3,?_⟩⟩
  ·have hia:i < a.length:=by omega
   rw [ret_bind,ret_get]
   refine ⟨by omega,hlt,fun x hx=>?_⟩
   rw [Int.toNat_natCast] at hx
   have hxB:=LW.get ha hx
   have e:B=4294967296:=rfl
   have hcx:wc .u64 x=x:=wc_u64_in ⟨hxB.1,by omega⟩
   have fin:∀ (t:Int),0≤t→t < 2*B→lv o+pw i*t=lv (a.take (i+1))+lv (b.take (i+1))→Ret ((app o [wc .u32 (wand .u64 t 4294967295)]).bind fun x52=>some (Sum.inl (β:=List Int×Int) (x52,wsrc .u64 t 32,wa .i64 (i:Int) 1))) (VQ (fun s:List Int×Int×Int=>i < a.length∧s.2.2=((i+1:Nat):Int)∧LW s.1∧s.1.length=i+1∧(s.2.1=0∨s.2.1=1)∧lv s.1+pw (i+1)*s.2.1=lv (a.take (i+1))+lv (b.take (i+1))) (fun s:List Int×Int=>LW s.1∧s.1.length=a.length∧(s.2=0∨s.2=1)∧lv s.1+pw a.length*s.2=lv a+lv b)):=by
    intro t t0 t1 ht
    have hm:=Int.emod_nonneg t (show B≠0 by omega)
    have hm2:=Int.emod_lt_of_pos t (show 0 < B by omega)
    have hd:=Int.mul_ediv_add_emod t B
    rw [wand_low ⟨t0,by omega⟩,wsrc32 t0,wc_u32_in ⟨hm,hm2⟩,ret_bind,ret_app]
    refine ⟨by rw [h2]; simp only [List.length_cons,List.length_nil]; omega,_,rfl,hia,by show wa .i64 (i:Int) 1=_; rw [wa_i (by omega) (by omega)]; rfl,LW.app.2 ⟨h1,LW.one.2 ⟨hm,hm2⟩⟩,by show (o++[_]).length=_; rw [List.length_append,h2]; rfl,by have q0:0≤t / B:=Int.ediv_nonneg t0 (by omega); have q1:t / B < 2:=Int.ediv_lt_of_lt_mul (by omega) t1; show t / B=0∨t / B=1; omega,?_⟩
    show lv (o++[t % B])+pw (i+1)*(t / B)=_
    rw [lv_snoc,h2,← ht]
    simp only [pw]
    have e3:pw i*(B*(t / B)+t % B)=pw i*t:=by rw [hd]
    have e4:B*pw i*(t / B)=pw i*(B*(t / B)):=by grind
    rw [Int.mul_add] at e3
    omega
   have hts:=take_succ hx
   rw [ret_if]
   refine ⟨fun hlb=>?_,fun hgb=>?_⟩
   ·rw [ret_bind,ret_get]
    refine ⟨by omega,hlb,fun y hy=>?_⟩
    rw [Int.toNat_natCast] at hy
    have hyB:=LW.get hb hy
    rw [hcx,wc_u64_in ⟨hyB.1,by omega⟩,wa_u64 (x:=x) (y:=c) ⟨by omega,by omega⟩,wa_u64 ⟨by omega,by omega⟩]
    refine fin _ (by omega) (by omega) ?_
    rw [hts,take_succ hy]
    have:pw i*(x+c+y)=pw i*x+pw i*c+pw i*y:=by grind
    omega
   ·rw [hcx,wa_u64 (x:=x) (y:=c) ⟨by omega,by omega⟩]
    refine fin _ (by omega) (by omega) ?_
    rw [hts,take_stay (a:=b) (by omega)]
    have:pw i*(x+c)=pw i*x+pw i*c:=by grind
    omega
  ·have e:i=a.length:=by omega
   subst e
   rw [List.take_length,take_all hl] at h4
   exact h4
 ·rintro ⟨o,c⟩ ⟨h1,h2,h3,h4⟩
  simp only at h1 h2 h3 h4 ⊢
  have hc:wc .u32 c=c:=wc_u32_in ⟨by omega,by unfold B; omega⟩
  have hlw:LW (o++[c]):=LW.app.2 ⟨h1,LW.one.2 ⟨by omega,by unfold B; omega⟩⟩
  rw [hc,ret_bind,ret_app]
  refine ⟨by rw [h2]; simp only [List.length_cons,List.length_nil]; omega,?_⟩
  rw [trim_ok hlw (by rw [List.length_append,h2]; simp; omega),obs]
  exact ⟨_,rfl,trimL_lw hlw,trimL_tm _,by rw [trimL_lv,lv_snoc,h2]; exact h4⟩
theorem plus_ok {a b:List Int} (ha:LW a) (hb:LW b) (hn:a.length≤1000) (hm:b.length≤1000):Ret (m_dv a b) (fun r=>LW r∧Tm r∧lv r=lv a+lv b):=by
 unfold m_dv
 rw [ret_if]
 refine ⟨fun h=>(plusJ_ok hb ha (by omega) hm).mono fun r hr=>⟨hr.1,hr.2.1,by omega⟩,fun h=>plusJ_ok ha hb (by omega) hn⟩
end Km
namespace Km
open Sx Go M Vc Lm
theorem low_borrow {v:Int} (h0: -B≤v) (h1:v < B):((v % 18446744073709551616) % B=v+B*(if v < 0 then 1 else 0))∧((v % 18446744073709551616) / B % 2=if v < 0 then 1 else 0)∧0≤v % 18446744073709551616∧v % 18446744073709551616 < 18446744073709551616:=by
 unfold B at*
 split<;>omega
theorem minus_ok {a b:List Int} (ha:LW a) (hb:LW b) (hn:a.length≤1000) (hl:b.length≤a.length) (hv:lv b≤lv a):Ret (m_e2 a b) (fun r=>LW r∧Tm r∧lv r=lv a - lv b):=by
 have e:B=4294967296:=rfl
 unfold m_e2
 rw [ret_bind,ret_mkL]
 refine ⟨by omega,by omega,?_⟩
 rw [Int.toNat_natCast,ret_bind]
 refine (ret_loop (Post:=fun o:List Int=>LW o∧o.length=a.length∧lv o=lv a - lv b) a.length (fun i (s:List Int×Int×Int)=>s.2.2=(i:Int)∧LW s.1∧s.1.length=a.length∧(s.2.1=0∨s.2.1=1)∧lv (s.1.take i)=lv (a.take i) - lv (b.take i)+pw i*s.2.1) ⟨rfl,fun x hx=>by rw [List.mem_replicate] at hx; rw [hx.2]; omega,List.length_replicate ..,.inl rfl,by simp [lv]⟩ ?_ (by omega)).mono ?_
 ·rintro i ⟨o,c,_⟩ hi ⟨rfl,h1,h2,h3,h4⟩
  simp only at h1 h2 h3 h4
  unfold m_e1 m_e0
  simp only
  rw [ret_if]
  refine ⟨fun hlt=>?_,fun hge=>⟨_,rfl,h1,h2,?_⟩⟩
  ·have hia:i < a.length:=by omega
   rw [ret_bind,ret_get]
   refine ⟨by omega,hlt,fun x hx=>?_⟩
   rw [Int.toNat_natCast] at hx
   have hxB:=LW.get ha hx
   have hcx:wc .u64 x=x:=wc_u64_in ⟨hxB.1,by omega⟩
   have hts:=take_succ hx
   have fin:∀ (t v:Int),t=v % 18446744073709551616→-B≤v→v < B→lv (o.take i)+pw i*v=lv (a.take (i+1)) - lv (b.take (i+1))→Ret ((setI o (i:Int) (wc .u32 (wand .u64 t 4294967295))).bind fun x35=>some (Sum.inl (β:=List Int) (x35,wand .u64 (wsrc .u64 t 32) 1,wa .i64 (i:Int) 1))) (VQ (fun s:List Int×Int×Int=>i < a.length∧s.2.2=((i+1:Nat):Int)∧LW s.1∧s.1.length=a.length∧(s.2.1=0∨s.2.1=1)∧lv (s.1.take (i+1))=lv (a.take (i+1)) - lv (b.take (i+1))+pw (i+1)*s.2.1) (fun o:List Int=>LW o∧o.length=a.length∧lv o=lv a - lv b)):=by
    intro t v ht v0 v1 hv
    obtain ⟨k1,k2,k3,k4⟩:=low_borrow v0 v1
    rw [← ht] at k1 k2 k3 k4
    have hm:=Int.emod_nonneg t (show B≠0 by omega)
    have hm2:=Int.emod_lt_of_pos t (show 0 < B by omega)
    have hd0:0≤t / B:=Int.ediv_nonneg k3 (by omega)
    have hd1:t / B < 18446744073709551616:=Int.ediv_lt_of_lt_mul (by omega) (by omega)
    rw [wand_low ⟨k3,k4⟩,wsrc32 k3,wand_one ⟨hd0,hd1⟩,wc_u32_in ⟨hm,hm2⟩,k2,ret_bind,ret_set,Int.toNat_natCast]
    refine ⟨by omega,by omega,_,rfl,hia,by show wa .i64 (i:Int) 1=_; rw [wa_i (by omega) (by omega)]; rfl,?_,by show (o.set i _).length=_; rw [List.length_set,h2],by show (if v < 0 then (1:Int) else 0)=0∨(if v < 0 then (1:Int) else 0)=1; split<;>omega,?_⟩
    ·intro y hy
     rcases List.mem_or_eq_of_mem_set hy with hy | rfl
     ·exact h1 y hy
     ·exact ⟨hm,hm2⟩
    ·show lv ((o.set i (t % B)).take (i+1))=_+pw (i+1)*(if v < 0 then 1 else 0)
     have hs:(o.set i (t % B))[i]?=some (t % B):=by rw [List.getElem?_set_self]; omega
     rw [take_succ hs,List.take_set,List.set_eq_of_length_le (by rw [List.length_take]; omega),k1,← hv]
     simp only [pw]
     generalize (if v < 0 then (1:Int) else 0)=z
     grind
   rw [ret_if]
   refine ⟨fun hlb=>?_,fun hgb=>?_⟩
   ·rw [ret_bind,ret_get]
    refine ⟨by omega,hlb,fun y hy=>?_⟩
    rw [Int.toNat_natCast] at hy
    have hyB:=LW.get hb hy
    refine fin _ (x - c - y) ?_ (by omega) (by omega) ?_
    ·rw [hcx,wc_u64_in ⟨hyB.1,by omega⟩,ws_u64,ws_u64]; omega
    ·rw [hts,take_succ hy,h4]; grind
   ·refine fin _ (x - c) ?_ (by omega) (by omega) ?_
    ·rw [hcx,ws_u64]
    ·rw [hts,take_stay (a:=b) (by omega),h4]; grind
  ·have ei:i=a.length:=by omega
   subst ei
   rw [List.take_length,take_all hl,take_all (by omega)] at h4
   have hlt:=lv_lt h1
   rw [h2] at hlt
   have hp:=pw_pos a.length
   show lv o=_
   rcases h3 with rfl | rfl
   ·omega
   ·omega
 ·rintro o ⟨h1,h2,h3⟩
  rw [trim_ok h1 (by omega),obs]
  exact ⟨_,rfl,trimL_lw h1,trimL_tm _,by rw [trimL_lv]; exact h3⟩
theorem len_le {l:List Int} {m:Nat} (hl:LW l) (ht:Tm l) (h:lv l < pw m):l.length≤m:=by
 refine Classical.byContradiction fun hc=>?_
 have hne:l≠[]:=by rintro rfl; simp at hc
 have h5:=tm_lower hl ht hne
 have h7:=pw_mono (show m≤l.length - 1 by omega)
 omega
theorem tm_one {p:Int} (hp:0 < p):Tm [p]:=by intro x hx; simp at hx; omega
theorem lw_one {p:Int} (hp:0 < p) (hB:p < B):LW [p]:=LW.one.2 ⟨by omega,hB⟩
theorem trimL_len {l:List Int} (hl:LW l):(trimL l).length≤l.length:=len_le (trimL_lw hl) (trimL_tm l) (by rw [trimL_lv]; exact lv_lt hl)
theorem divide1_ok {a:List Int} {p:Int} (ha:LW a) (ta:Tm a) (hn:a.length≤999) (hp:0 < p) (hB:p < B):∃ q r,m_fd a [p]=some (q,r)∧LW q∧Tm q∧LW r∧Tm r∧lv q=lv a / p∧lv r=lv a % p∧q.length≤1000:=by
 have lp:lv [p]=p:=by simp [lv]
 have h0:=lv_nn ha
 unfold m_fd
 rw [compare_ok ha (lw_one hp hB) ta (tm_one hp) (by omega) (by simp),obs,lp]
 by_cases hlt:lv a < p
 ·rw [if_pos hlt,if_pos (by omega)]
  have hc:m_da a=some a:=by
   unfold m_da app BIG
   rw [if_pos (by simp; omega),obs,List.nil_append]
  rw [hc,obs]
  exact ⟨[],a,rfl,by intro x hx; simp at hx,tm_nil,ha,ta,by rw [Int.ediv_eq_zero_of_lt h0 hlt]; rfl,by rw [Int.emod_eq_of_lt h0 hlt],by simp⟩
 ·have hneg:¬ (if lv a < p then (-1:Int) else if p < lv a then 1 else 0) < 0:=by rw [if_neg hlt]; split<;>omega
  rw [if_neg hneg,if_pos (by simp)]
  have hg:getI [p] 0=some p:=rfl
  obtain ⟨q,hq,q1,q2,q3⟩:=short_ok ha (by omega) hp hB
  have hr:=Int.emod_nonneg (lv a) (show p≠0 by omega)
  have hr2:=Int.emod_lt_of_pos (lv a) hp
  have hlw:LW [lv a % p]:=LW.one.2 ⟨hr,by omega⟩
  rw [hg,obs,hq,obs,trim_ok hlw (by simp),obs]
  refine ⟨q,_,rfl,q1,q2,trimL_lw hlw,trimL_tm _,q3,by rw [trimL_lv]; simp [lv],?_⟩
  refine Classical.byContradiction fun hc=>?_
  have hne:q≠[]:=by rintro rfl; simp at hc
  have h5:=tm_lower q1 q2 hne
  have h6:=lv_lt ha
  have h7:=pw_mono (show a.length≤q.length - 1 by omega)
  have h8:lv a / p≤lv a:=Int.ediv_le_self _ h0
  omega
end Km
namespace Km
open Sx Go M Vc Lm
theorem int_ok {r:Int} (h0:0≤r) (h1:r < B) {l:List Int} (hl:LW l) (ht:Tm l) (he:lv l=r):m_gg false l=some (r,true):=by
 have e:B=4294967296:=rfl
 have hl2:l=if r=0 then [] else [r]:=by
  refine tm_inj hl ?_ ht ?_ ?_
  ·intro x hx; split at hx
   ·simp at hx
   ·simp at hx; omega
  ·split
   ·exact tm_nil
   ·rename_i h; intro x hx; simp at hx; omega
  ·rw [he]; split
   ·rename_i h; rw [h]; rfl
   ·simp [lv]
 refine Ret.eq ?_
 unfold m_gg
 rw [trim_ok hl (by rw [hl2]; split<;>simp),obs,trimL_of hl ht,hl2]
 by_cases hz:r=0
 ·subst hz
  rw [if_pos rfl,if_neg (by simp),ret_bind]
  refine (ret_loop (Post:=fun u:Int=>u=0) 0 (fun k (s:Int×Int)=>s=(0,0)) rfl ?_ (by omega)).mono ?_
  ·rintro k _ hk rfl
   exact ⟨_,rfl,rfl⟩
  ·rintro _ rfl
   exact ⟨_,rfl,rfl⟩
 ·rw [if_neg hz,if_neg (by simp),ret_bind]
  refine (ret_loop (Post:=fun u:Int=>u=r) 1 (fun k (s:Int×Int)=>s=(if k=0 then 0 else r,(k:Int))) rfl ?_ (by omega)).mono ?_
  ·rintro k _ hk rfl
   unfold m_gf
   simp only
   rw [ret_if]
   refine ⟨fun hlt=>?_,fun hge=>?_⟩
   ·simp at hlt
    obtain rfl:k=0:=by omega
    rw [ret_bind,ret_get]
    refine ⟨by omega,by simp,fun x hx=>?_⟩
    have hx:r=x:=by simpa using hx
    subst hx
    have hwm:wm .i64 32 ((0:Nat):Int)=0:=by rw [wm_i (by omega) (by omega)]; rfl
    have hws:wshl .u64 (wc .u64 r) 0=some r:=by
     rw [wc_u64_in ⟨h0,by omega⟩]
     unfold wshl
     rw [if_neg (by omega)]
     show some (IntKind.u64.wrap (r*2 ^ (min (0:Int).toNat 64)))=_
     rw [show (2:Int) ^ (min (0:Int).toNat 64)=1 from rfl,Int.mul_one,IntWalk.u64_in _ ⟨h0,by omega⟩]
    rw [hwm,hws,obs]
    have hor:wor .u64 0 r=r:=by
     have:=wor_hi (x:=0) (y:=r) ⟨by omega,by omega⟩ ⟨h0,h1⟩
     rw [Int.zero_mul,Int.zero_add] at this
     exact this
    refine ⟨_,rfl,by omega,?_⟩
    rw [if_pos rfl,hor,if_neg (by omega),wa_i (by omega) (by omega)]
    rfl
   ·simp at hge
    refine ⟨_,rfl,?_⟩
    show (if k=0 then (0:Int) else r)=r
    rw [if_neg (by omega)]
  ·rintro _ rfl
   rw [if_neg (by simp),if_pos (by simp; omega)]
   refine ⟨_,rfl,?_⟩
   rw [wc_i64_in ⟨by omega,by omega⟩]
theorem remainder_ok {s:Bool} {a:List Int} {p:Int} (ha:LW a) (hn:a.length≤900) (hp:0 < p) (hB:p < 2147483648):m_gh s a p=some ((if s=true then - lv a else lv a) % p):=by
 have e:B=4294967296:=rfl
 refine Ret.eq ?_
 unfold m_gh m_ff
 have hta:=trimL_lw ha
 have htl:(trimL a).length≤999:=by
  refine Classical.byContradiction fun hc=>?_
  have hne:trimL a≠[]:=by intro h; rw [h] at hc; simp at hc
  have h5:=tm_lower hta (trimL_tm a) hne
  rw [trimL_lv] at h5
  have h6:=lv_lt ha
  have h7:=pw_mono (show a.length≤(trimL a).length - 1 by omega)
  omega
 obtain ⟨q,r,hd,q1,q2,r1,r2,q3,r3,q4⟩:=divide1_ok hta (trimL_tm a) htl hp (by omega)
 rw [trimL_lv] at q3 r3
 have h0:=lv_nn ha
 have hr:=Int.emod_nonneg (lv a) (show p≠0 by omega)
 have hr2:=Int.emod_lt_of_pos (lv a) hp
 have fin:∀ (sg:Bool) (x y:List Int) (v:Int),LW x→x.length≤1000000→LW y→Tm y→lv y=v→0≤v→v < p→v=(if s=true then - lv a else lv a) % p→Ret ((m_fe sg false x y).bind fun r8=>(m_gg r8.2.2.1 r8.2.2.2.1).bind fun r16=>some r16.1) (fun y=>y=(if s=true then - lv a else lv a) % p):=by
  intro sg x y v hx hxl hy ty hyv v0 v1 hv
  unfold m_fe
  have hb1:=big_ok (!((sg == false))) hx hxl
  have hyl:y.length≤1:=by
   refine Classical.byContradiction fun hc=>?_
   have hne:y≠[]:=by rintro rfl; simp at hc
   have h5:=tm_lower hy ty hne
   have h7:=pw_mono (show 1≤y.length - 1 by omega)
   have:pw 1=B:=by simp [pw]
   omega
  have hb2:=big_ok false hy (by omega)
  rw [trimL_of hy ty] at hb2
  have hb2':m_c6 false y=some (false,y):=by
   rw [hb2]; split
   ·rename_i h; rw [h]
   ·rfl
  rw [hb1,obs,hb2',obs,obs]
  simp only
  rw [int_ok v0 (by omega) hy ty hyv,obs]
  exact ⟨_,rfl,hv⟩
 rw [from_ok hp (by omega),obs]
 simp only
 rw [trim_ok (lw_one hp (by omega)) (by simp),trimL_of (lw_one hp (by omega)) (tm_one hp),obs,if_neg (by simp),trim_ok ha (by omega),obs,hd,obs]
 simp only
 by_cases hc:s=true∧0 < r.length
 ·obtain ⟨hs,hrl⟩:=hc
  subst hs
  rw [if_pos (by simp; omega)]
  have hrne:r≠[]:=by rintro rfl; simp at hrl
  have hr0:lv r≠0:=fun h=>hrne ((lv_zero r1 r2).1 h)
  have hlp:lv [p]=p:=by simp [lv]
  have hrl1:r.length≤1:=by
   refine Classical.byContradiction fun hc=>?_
   have h5:=tm_lower r1 r2 hrne
   have h7:=pw_mono (show 1≤r.length - 1 by omega)
   have:pw 1=B:=by simp [pw]
   omega
  obtain ⟨x,hx,x1,x2,x3⟩:=plus_ok q1 (b:=[1]) (LW.one.2 ⟨by omega,by omega⟩) q4 (by simp)
  obtain ⟨y,hy,y1,y2,y3⟩:=minus_ok (lw_one hp (by omega)) r1 (by simp) (by simpa using hrl1) (by omega)
  have hE:((m_dv q [1]).bind fun r36=>(m_e2 [p] r).bind fun r38=>m_fe true false r36 r38)=m_fe true false x y:=by rw [hx,obs,hy,obs]
  rw [hE]
  have hxl:x.length≤1000+1:=by
   refine len_le x1 x2 ?_
   have:=lv_lt q1
   have h9:=pw_mono q4
   have h8:=pw_pos 1000
   rw [x3]
   show lv q+lv [1] < B*pw 1000
   have:lv [1]=1:=by simp [lv]
   rw [e]; omega
  refine fin true x y (p - lv a % p) x1 (by omega) y1 y2 (by rw [y3,hlp,r3]) (by omega) (by omega) ?_
  rw [if_pos rfl]
  have hm:=Int.mul_ediv_add_emod (lv a) p
  have h8: - lv a=(p - lv a % p)+p*(-(lv a / p) - 1):=by rw [Int.mul_sub,Int.mul_neg]; omega
  rw [h8,Int.add_mul_emod_self_left]
  exact (Int.emod_eq_of_lt (a:=p - lv a % p) (b:=p) (by omega) (by omega)).symm
 ·rw [if_neg (by simp only [Bool.and_eq_true,decide_eq_true_eq]; rintro ⟨h1,h2⟩; exact hc ⟨h1,by omega⟩)]
  refine fin s q r (lv a % p) q1 (by omega) r1 r2 r3 hr hr2 ?_
  by_cases hs:s=true
  ·have hr0:r=[]:=List.eq_nil_of_length_eq_zero (Nat.eq_zero_of_not_pos fun h=>hc ⟨hs,h⟩)
   have hz:lv a % p=0:=by rw [← r3,hr0]; rfl
   rw [if_pos hs,hz,Int.neg_emod,if_pos (Int.dvd_of_emod_eq_zero hz)]
  ·rw [if_neg hs]
end Km
namespace Km
open Sx Go M Vc Lm
def lenTab:List Int:=[0,1,2,2,3,3,3,3,4,4,4,4,4,4,4,4,5,5,5,5,5,5,5,5,5,5,5,5,5,5,5,5,6,6,6,6,6,6,6,6,6,6,6,6,6,6,6,6,6,6,6,6,6,6,6,6,6,6,6,6,6,6,6,6]++List.replicate 64 7++List.replicate 128 8
theorem lenTab_ok:(List.range 256).all (fun k=>match lenTab[k]? with | some v=>decide (0≤v) && decide (v≤8) && decide ((k:Int) < 2 ^ v.toNat) && decide (k=0∨2 ^ v.toNat≤2*(k:Int)) | none=>false)=true:=by decide +kernel
theorem lenT {x:Int} (h0:0≤x) (h1:x < 256):∃ v:Nat,getI lenTab x=some (v:Int)∧v≤8∧x < 2 ^ v∧(0 < x→2 ^ v≤2*x):=by
 obtain ⟨k,rfl⟩:=Int.eq_ofNat_of_zero_le h0
 have:=List.all_eq_true.1 lenTab_ok k (List.mem_range.2 (by omega))
 cases h:lenTab[k]? with
 | none=>rw [h] at this; simp at this
 | some v=>
  rw [h] at this
  simp only [Bool.and_eq_true,decide_eq_true_eq] at this
  obtain ⟨⟨⟨a1,a2⟩,a3⟩,a4⟩:=this
  obtain ⟨w,rfl⟩:=Int.eq_ofNat_of_zero_le a1
  rw [Int.toNat_natCast] at a3 a4
  exact ⟨w,h,by omega,a3,fun hk=>a4.resolve_left (by omega)⟩
theorem shr8 {x:Int} {n:Nat} (h:0≤x) (hn:n≤32):wsrc .u32 x n=x / 2 ^ n:=by
 unfold wsrc
 show x.fdiv (2 ^ min n 32)=_
 rw [Nat.min_eq_left hn,Int.fdiv_eq_ediv_of_nonneg _ (Int.le_of_lt (Int.pow_pos (by omega)))]
theorem len_j2_eq (x c:Int):m_bc x c=(getI lenTab (wc .u8 x)).bind fun x6=>some (wa .i64 c (wc .i64 x6)):=rfl
theorem len_j2 {x:Int} {c:Nat} (h0:0≤x) (h1:x < 256) (hc:c≤24):∃ v:Nat,m_bc x (c:Int)=some ((c+v:Nat):Int)∧v≤8∧x < 2 ^ v∧(0 < x→2 ^ v≤2*x):=by
 obtain ⟨v,h2,h3,h4⟩:=lenT h0 h1
 refine ⟨v,?_,h3,h4⟩
 have hcv:wc .u8 x=x:=by unfold wc; rw [IntKind.wrap_u8]; omega
 rw [len_j2_eq,hcv,h2,obs,wc_i64_in ⟨by omega,by omega⟩,wa_i (by omega) (by omega)]
 congr 1
theorem len32_ok {x:Int} (h0:0≤x) (h1:x < B):∃ v:Nat,m_be x=some (v:Int)∧v≤32∧x < 2 ^ v∧(0 < x→2 ^ v≤2*x):=by
 have e:B=4294967296:=rfl
 have step:∀ (y:Int) (c:Nat),0≤y→y < 65536→c≤16→∃ v:Nat,m_bd y (c:Int)=some ((c+v:Nat):Int)∧v≤16∧y < 2 ^ v∧(0 < y→2 ^ v≤2*y):=by
  intro y c y0 y1 hc
  unfold m_bd
  by_cases h:256≤y
  ·rw [if_pos h,shr8 y0 (by omega),show wa .i64 (c:Int) 8=((c+8:Nat):Int) by rw [wa_i (by omega) (by omega)]; omega]
   obtain ⟨v,h2,h3,h4,h5⟩:=len_j2 (x:=y / 2 ^ 8) (c:=c+8) (by omega) (by omega) (by omega)
   refine ⟨8+v,by rw [h2]; congr 1; omega,by omega,?_⟩
   rw [Int.pow_add]
   have:=h5 (by omega)
   exact ⟨by omega,fun _=>by omega⟩
  ·rw [if_neg h]
   obtain ⟨v,h2,h3,h4⟩:=len_j2 (x:=y) (c:=c) y0 (by omega) (by omega)
   exact ⟨v,h2,by omega,h4⟩
 unfold m_be
 by_cases h:65536≤x
 ·rw [if_pos h,shr8 h0 (by omega)]
  obtain ⟨v,h2,h3,h4,h5⟩:=step (x / 2 ^ 16) 16 (by omega) (by omega) (by omega)
  refine ⟨16+v,h2,by omega,?_⟩
  rw [Int.pow_add]
  have:=h5 (by omega)
  exact ⟨by omega,fun _=>by omega⟩
 ·rw [if_neg h]
  obtain ⟨v,h2,h3,h4⟩:=step x 0 h0 (by omega) (by omega)
  exact ⟨v,by rw [show (0:Int)=((0:Nat):Int) from rfl,h2]; congr 1; omega,by omega,h4⟩
theorem lead_ok {p:Int} (hp:0 < p) (hB:p < B):∃ s:Nat,m_e7 p=some (s:Int)∧s < 32∧p*2 ^ s < B∧B≤2*(p*2 ^ s):=by
 obtain ⟨v,h1,h2,h3,h4⟩:=len32_ok (Int.le_of_lt hp) hB
 have hv:0 < v:=by
  rcases Nat.eq_zero_or_pos v with h | h
  ·subst h; simp at h3; omega
  ·exact h
 refine ⟨32 - v,?_,by omega,?_⟩
 ·unfold m_e7
  rw [h1,obs,ws_i (by omega) (by omega)]
  congr 1; omega
 ·have e:(2:Int) ^ v*2 ^ (32 - v)=B:=by
   rw [← Int.pow_add,show v+(32 - v)=32 by omega]; rfl
  have hc:(0:Int) < 2 ^ (32 - v):=Int.pow_pos (by omega)
  have:=Int.mul_lt_mul_of_pos_right h3 hc
  have h6:=Int.mul_le_mul_of_nonneg_right (h4 hp) (Int.le_of_lt hc)
  rw [Int.mul_assoc] at h6
  omega
end Km
namespace Km
open Sx Go M Vc Lm
theorem trimR_ok {l:List Int} (hl:LW l) (hn:l.length≤1000000):m_g l=some (trimL l):=by
 refine Ret.eq ?_
 have h:=trim_ok hl hn
 unfold m_c5 at h
 unfold m_g
 have e3:m_f=m_c4:=rfl
 rw [e3]
 cases hL:loop (m_c4 l) (l.length:Int) with
 | none=>rw [hL] at h; cases h
 | some i=>
  rw [hL,obs] at h
  have hs:∃ t,sli l 0 i=some t∧t=trimL l:=by
   cases hs:sli l 0 i with
   | none=>rw [hs] at h; cases h
   | some t=>rw [hs,obs] at h; exact ⟨t,rfl,Option.some.inj h⟩
  obtain ⟨t,ht,htr⟩:=hs
  obtain ⟨t1,_,t2,t3⟩:=sli_some ht
  obtain ⟨k,rfl⟩:=Int.eq_ofNat_of_zero_le t2
  have htk:t=l.take k:=by rw [t1]; unfold subL; simp
  rw [obs,ret_bind]
  refine (ret_loop (Post:=fun o=>o=l.take k) k (fun m (s:List Int×Int)=>s=(l.take m,(m:Int))) (by simp) ?_ (by omega)).mono fun o ho=>⟨_,rfl,by rw [ho,← htk,htr]⟩
  rintro m _ hm rfl
  unfold m_e
  simp only
  rw [ret_if]
  refine ⟨fun hlt=>?_,fun hge=>⟨_,rfl,by have e:m=k:=(by omega); rw [e]; rfl⟩⟩
  rw [ret_bind,ret_get]
  refine ⟨by omega,by omega,fun x hx=>?_⟩
  rw [Int.toNat_natCast] at hx
  rw [ret_bind,ret_app]
  refine ⟨by rw [List.length_take]; simp only [List.length_cons,List.length_nil]; omega,_,rfl,by omega,?_⟩
  rw [wa_i (by omega) (by omega),← tks hx]; rfl
theorem make1_ok {l:List Int} (s:Bool) (hl:LW l) (hn:l.length≤1000000):m_h s l=some (s && decide ((0:Int) < ((trimL l).length:Int)),trimL l):=by
 unfold m_h
 rw [trimR_ok hl hn,obs]
theorem norm_ok {l:List Int} (s:Bool) (hl:LW l) (hn:l.length≤1000000):m_k s l=some (s && decide ((0:Int) < ((trimL l).length:Int)),trimL l):=by
 unfold m_k
 rw [make1_ok s hl hn,obs]
theorem cmpMag_ok {a b:List Int} (ha:LW a) (hb:LW b) (ta:Tm a) (tb:Tm b) (hn:a.length≤1000) (hm:b.length≤1000):m_2 a b=some (if lv a < lv b then -1 else if lv b < lv a then 1 else 0):=by
 refine Ret.eq ?_
 unfold m_2
 rw [ret_if]
 refine ⟨fun hl=>?_,fun hl=>?_⟩
 ·have hl:a.length=b.length:=by omega
  rw [ret_bind]
  refine (ret_loop (Post:=fun o=>(o=.inl ()∧a=b)∨∃ c,o=.inr c∧c=(if lv a < lv b then -1 else if lv b < lv a then 1 else 0)) a.length (fun m (i:Int)=>i=(a.length:Int) - 1 - m∧m≤a.length∧a.drop (a.length - m)=b.drop (a.length - m)) ⟨by rw [ws_i (by omega) (by omega)]; omega,by omega,by rw [Nat.sub_zero,List.drop_length,List.drop_of_length_le (by omega)]⟩ ?_ (by omega)).mono ?_
  ·rintro m i hm' ⟨rfl,h1,h2⟩
   unfold m_1
   rw [ret_if]
   refine ⟨fun hge=>?_,fun hlt=>⟨_,rfl,.inl ⟨rfl,by have e:a.length - m=0:=(by omega); rwa [e,List.drop_zero,List.drop_zero] at h2⟩⟩⟩
   obtain ⟨j,hj⟩:∃ j:Nat,a.length=j+(m+1):=⟨a.length - (m+1),by omega⟩
   have ej:(a.length:Int) - 1 - (m:Int)=(j:Int):=by omega
   have e2:a.length - m=j+1:=by omega
   rw [e2] at h2
   rw [ej,ret_bind,ret_get]
   refine ⟨by omega,by omega,fun x hx=>?_⟩
   rw [ret_bind,ret_get]
   refine ⟨by omega,by omega,fun y hy=>?_⟩
   rw [Int.toNat_natCast] at hx hy
   rw [ret_if]
   refine ⟨fun he=>⟨_,rfl,by omega,by rw [ws_i (by omega) (by omega)]; omega,by omega,?_⟩,fun hne=>?_⟩
   ·subst he
    obtain ⟨k1,k2⟩:=List.getElem?_eq_some_iff.1 hx
    obtain ⟨k3,k4⟩:=List.getElem?_eq_some_iff.1 hy
    rw [show a.length - (m+1)=j by omega,List.drop_eq_getElem_cons k1,List.drop_eq_getElem_cons k3,k2,k4,h2]
   ·rw [ret_bind,ret_get]
    refine ⟨by omega,by omega,fun x' hx'=>?_⟩
    rw [Int.toNat_natCast,hx] at hx'
    obtain rfl:=Option.some.inj hx'
    rw [ret_bind,ret_get]
    refine ⟨by omega,by omega,fun y' hy'=>?_⟩
    rw [Int.toNat_natCast,hy] at hy'
    obtain rfl:=Option.some.inj hy'
    rw [ret_if]
    refine ⟨fun h=>⟨_,rfl,.inr ⟨_,rfl,?_⟩⟩,fun h=>⟨_,rfl,.inr ⟨_,rfl,?_⟩⟩⟩
    ·rw [if_pos (lex_lt ha hb hx hy h2 h)]
    ·have:=lex_lt hb ha hy hx h2.symm (show y < x by omega)
     rw [if_neg (by omega),if_pos this]
  ·rintro _ (⟨rfl,h⟩ | ⟨c,rfl,h⟩)
   ·refine ⟨_,rfl,?_⟩
    rw [h,if_neg (by omega),if_neg (by omega)]
   ·exact ⟨_,rfl,h⟩
 ·rw [ret_if]
  refine ⟨fun h=>⟨_,rfl,?_⟩,fun h=>⟨_,rfl,?_⟩⟩
  ·rw [if_pos (tm_len ha hb ta tb (by omega))]
  ·have:=tm_len hb ha tb ta (show b.length < a.length by omega)
   rw [if_neg (by omega),if_pos this]
theorem take_of {a:List Int} {i:Nat}:lv (a.take (i+1))=lv (a.take i)+pw i*a.getD i 0:=by
 rcases Nat.lt_or_ge i a.length with h | h
 ·rw [take_succ (List.getElem?_eq_getElem h)]; simp [List.getD,h]
 ·rw [take_stay h]; simp [List.getD,List.getElem?_eq_none h]
theorem addMag_ok {a b:List Int} (ha:LW a) (hb:LW b) (hn:a.length≤1000) (hm:b.length≤1000):Ret (m_0 a b) (fun r=>LW r∧r.length≤1001∧lv r=lv a+lv b):=by
 have e:B=4294967296:=rfl
 obtain ⟨N,hN⟩:∃ N:Nat,imax (a.length:Int) (b.length:Int)=(N:Int)∧a.length≤N∧b.length≤N∧N≤1000:=by
  unfold imax
  split
  ·exact ⟨b.length,rfl,by omega,by omega,hm⟩
  ·exact ⟨a.length,rfl,by omega,by omega,hn⟩
 obtain ⟨hN,hNa,hNb,hN1⟩:=hN
 unfold m_0
 rw [ret_bind]
 refine (ret_loop (Post:=fun s:List Int×Int=>LW s.1∧s.1.length=N∧(s.2=0∨s.2=1)∧lv s.1+pw N*s.2=lv a+lv b) N (fun i (s:List Int×Int×Int)=>s.2.2=(i:Int)∧LW s.1∧s.1.length=i∧(s.2.1=0∨s.2.1=1)∧lv s.1+pw i*s.2.1=lv (a.take i)+lv (b.take i)) ⟨rfl,by intro x hx; simp at hx,rfl,.inl rfl,by simp [lv]⟩ ?_ (by omega)).mono ?_
 ·rintro i ⟨o,c,_⟩ hi ⟨rfl,h1,h2,h3,h4⟩
  simp only at h1 h2 h3 h4
  unfold m_z
  simp only
  rw [hN,ret_if]
  refine ⟨fun hlt=>?_,fun hge=>⟨_,rfl,h1,by show o.length=_; omega,h3,?_⟩⟩
  ·have hiN:i < N:=by omega
   have fin:∀ (t:Int),0≤t→t < 2*B→t=c+a.getD i 0+b.getD i 0→Ret (m_x o (i:Int) t) (VQ (fun s:List Int×Int×Int=>i < N∧s.2.2=((i+1:Nat):Int)∧LW s.1∧s.1.length=i+1∧(s.2.1=0∨s.2.1=1)∧lv s.1+pw (i+1)*s.2.1=lv (a.take (i+1))+lv (b.take (i+1))) (fun s:List Int×Int=>LW s.1∧s.1.length=N∧(s.2=0∨s.2=1)∧lv s.1+pw N*s.2=lv a+lv b)):=by
    intro t t0 t1 ht
    have hm:=Int.emod_nonneg t (show B≠0 by omega)
    have hm2:=Int.emod_lt_of_pos t (show 0 < B by omega)
    have hd:=Int.mul_ediv_add_emod t B
    unfold m_x
    rw [wc_u32,wsrc32 t0,ret_bind,ret_app]
    refine ⟨by rw [h2]; simp only [List.length_cons,List.length_nil]; omega,_,rfl,hiN,by show wa .i64 (i:Int) 1=_; rw [wa_i (by omega) (by omega)]; rfl,LW.app.2 ⟨h1,LW.one.2 ⟨hm,hm2⟩⟩,by show (o++[_]).length=_; rw [List.length_append,h2]; rfl,by have q0:0≤t / B:=Int.ediv_nonneg t0 (by omega); have q1:t / B < 2:=Int.ediv_lt_of_lt_mul (by omega) t1; show t / B=0∨t / B=1; omega,?_⟩
    show lv (o++[t % B])+pw (i+1)*(t / B)=_
    rw [lv_snoc,h2,take_of (a:=a),take_of (a:=b)]
    simp only [pw]
    have e3:pw i*(B*(t / B)+t % B)=pw i*t:=by rw [hd]
    have e4:B*pw i*(t / B)=pw i*(B*(t / B)):=by grind
    have e5:pw i*t=pw i*c+pw i*a.getD i 0+pw i*b.getD i 0:=by rw [ht]; grind
    rw [Int.mul_add] at e3
    omega
   have second:∀ (t:Int),0≤t→t < B+1→t=c+a.getD i 0→Ret (m_y (i:Int) b o t) (VQ (fun s:List Int×Int×Int=>i < N∧s.2.2=((i+1:Nat):Int)∧LW s.1∧s.1.length=i+1∧(s.2.1=0∨s.2.1=1)∧lv s.1+pw (i+1)*s.2.1=lv (a.take (i+1))+lv (b.take (i+1))) (fun s:List Int×Int=>LW s.1∧s.1.length=N∧(s.2=0∨s.2=1)∧lv s.1+pw N*s.2=lv a+lv b)):=by
    intro t t0 t1 ht
    unfold m_y
    rw [ret_if]
    refine ⟨fun hlb=>?_,fun hgb=>?_⟩
    ·rw [ret_bind,ret_get]
     refine ⟨by omega,hlb,fun y hy=>?_⟩
     rw [Int.toNat_natCast] at hy
     have hyB:=LW.get hb hy
     have hyd:b.getD i 0=y:=by rw [List.getD_eq_getElem?_getD,hy]; rfl
     rw [wc_u64_in ⟨hyB.1,by omega⟩,wa_u64 ⟨by omega,by omega⟩]
     exact fin _ (by omega) (by omega) (by rw [ht,hyd])
    ·have hyd:b.getD i 0=0:=by rw [List.getD_eq_getElem?_getD,List.getElem?_eq_none (by omega)]; rfl
     exact fin _ t0 (by omega) (by rw [ht,hyd,Int.add_zero])
   rw [ret_if]
   refine ⟨fun hla=>?_,fun hga=>?_⟩
   ·rw [ret_bind,ret_get]
    refine ⟨by omega,hla,fun x hx=>?_⟩
    rw [Int.toNat_natCast] at hx
    have hxB:=LW.get ha hx
    have hxd:a.getD i 0=x:=by rw [List.getD_eq_getElem?_getD,hx]; rfl
    rw [wc_u64_in ⟨hxB.1,by omega⟩,wa_u64 ⟨by omega,by omega⟩]
    exact second _ (by omega) (by omega) (by rw [hxd])
   ·have hxd:a.getD i 0=0:=by rw [List.getD_eq_getElem?_getD,List.getElem?_eq_none (by omega)]; rfl
    exact second _ (by omega) (by omega) (by rw [hxd,Int.add_zero])
  ·have ei:i=N:=by omega
   subst ei
   rw [take_all hNa,take_all hNb] at h4
   exact h4
 ·rintro ⟨o,c⟩ ⟨h1,h2,h3,h4⟩
  simp only at h1 h2 h3 h4 ⊢
  have hc:wc .u32 c=c:=wc_u32_in ⟨by omega,by omega⟩
  have hlw:LW (o++[c]):=LW.app.2 ⟨h1,LW.one.2 ⟨by omega,by omega⟩⟩
  rw [hc,ret_bind,ret_app]
  refine ⟨by rw [h2]; simp only [List.length_cons,List.length_nil]; omega,_,rfl,hlw,by rw [List.length_append,h2]; simp; omega,by rw [lv_snoc,h2]; exact h4⟩
theorem sub_top {v:Int} (h0: -B≤v) (h1:v < B):((v % 18446744073709551616) % B=v+B*(if v < 0 then 1 else 0))∧((v % 18446744073709551616) / 9223372036854775808=if v < 0 then 1 else 0):=by
 unfold B at*
 split<;>omega
theorem subMag_ok {a b:List Int} (ha:LW a) (hb:LW b) (hn:a.length≤1000) (hl:b.length≤a.length) (hv:lv b≤lv a):Ret (m_5 a b) (fun r=>LW r∧r.length≤1001∧lv r=lv a - lv b):=by
 have e:B=4294967296:=rfl
 unfold m_5
 rw [ret_bind]
 refine (ret_loop (Post:=fun o:List Int=>LW o∧o.length=a.length∧lv o=lv a - lv b) a.length (fun i (s:List Int×Int×Int)=>s.2.2=(i:Int)∧LW s.1∧s.1.length=i∧(s.2.1=0∨s.2.1=1)∧lv s.1=lv (a.take i) - lv (b.take i)+pw i*s.2.1) ⟨rfl,by intro x hx; simp at hx,rfl,.inl rfl,by simp [lv]⟩ ?_ (by omega)).mono fun o h=>⟨_,rfl,h.1,by omega,h.2.2⟩
 rintro i ⟨o,c,_⟩ hi ⟨rfl,h1,h2,h3,h4⟩
 simp only at h1 h2 h3 h4
 unfold m_4 m_3
 simp only
 rw [ret_if]
 refine ⟨fun hlt=>?_,fun hge=>⟨_,rfl,h1,by show o.length=_; omega,?_⟩⟩
 ·have hia:i < a.length:=by omega
  rw [ret_bind,ret_get]
  refine ⟨by omega,hlt,fun x hx=>?_⟩
  rw [Int.toNat_natCast] at hx
  have hxB:=LW.get ha hx
  have hcx:wc .u64 x=x:=wc_u64_in ⟨hxB.1,by omega⟩
  have hts:=take_succ hx
  have fin:∀ (t v:Int),t=v % 18446744073709551616→-B≤v→v < B→lv o+pw i*v=lv (a.take (i+1)) - lv (b.take (i+1))→Ret ((app o [wc .u32 t]).bind fun x39=>some (Sum.inl (β:=List Int) (x39,wsrc .u64 t 63,wa .i64 (i:Int) 1))) (VQ (fun s:List Int×Int×Int=>i < a.length∧s.2.2=((i+1:Nat):Int)∧LW s.1∧s.1.length=i+1∧(s.2.1=0∨s.2.1=1)∧lv s.1=lv (a.take (i+1)) - lv (b.take (i+1))+pw (i+1)*s.2.1) (fun o:List Int=>LW o∧o.length=a.length∧lv o=lv a - lv b)):=by
   intro t v ht v0 v1 hv
   obtain ⟨k1,k2⟩:=sub_top v0 v1
   rw [← ht] at k1 k2
   have k3:0≤t:=by rw [ht]; exact Int.emod_nonneg _ (by omega)
   have hm:=Int.emod_nonneg t (show B≠0 by omega)
   have hm2:=Int.emod_lt_of_pos t (show 0 < B by omega)
   rw [wc_u32,wsrc63 k3,k2,ret_bind,ret_app]
   refine ⟨by rw [h2]; simp only [List.length_cons,List.length_nil]; omega,_,rfl,hia,by show wa .i64 (i:Int) 1=_; rw [wa_i (by omega) (by omega)]; rfl,LW.app.2 ⟨h1,LW.one.2 ⟨hm,hm2⟩⟩,by show (o++[_]).length=_; rw [List.length_append,h2]; rfl,by show (if v < 0 then (1:Int) else 0)=0∨(if v < 0 then (1:Int) else 0)=1; split<;>omega,?_⟩
   show lv (o++[t % B])=_+pw (i+1)*(if v < 0 then 1 else 0)
   rw [lv_snoc,h2,k1,← hv]
   simp only [pw]
   generalize (if v < 0 then (1:Int) else 0)=z
   grind
  rw [ret_if]
  refine ⟨fun hlb=>?_,fun hgb=>?_⟩
  ·rw [ret_bind,ret_get]
   refine ⟨by omega,hlb,fun y hy=>?_⟩
   rw [Int.toNat_natCast] at hy
   have hyB:=LW.get hb hy
   refine fin _ (x - c - y) ?_ (by omega) (by omega) ?_
   ·rw [hcx,wc_u64_in ⟨hyB.1,by omega⟩,ws_u64,ws_u64]; omega
   ·rw [hts,take_succ hy,h4]; grind
  ·refine fin _ (x - c) ?_ (by omega) (by omega) ?_
   ·rw [hcx,ws_u64]
   ·rw [hts,take_stay (a:=b) (by omega),h4]; grind
 ·have ei:i=a.length:=by omega
  subst ei
  rw [List.take_length,take_all hl] at h4
  have hlt:=lv_lt h1
  rw [h2] at hlt
  have hp:=pw_pos a.length
  show lv o=_
  rcases h3 with rfl | rfl
  ·omega
  ·omega
end Km
namespace Km
open Sx Go M Vc Lm
theorem shlG_ok {a:List Int} (ha:LW a) (hn:a.length≤1000) {q s:Nat} (hq1:q≤1000) (hs:s < 32):Ret (m_q a ((32*q+s:Nat):Int)) (fun u=>LW u∧u.length=q+a.length+1∧lv u=lv a*(pw q*2 ^ s)):=by
 have e:B=4294967296:=rfl
 obtain ⟨hq,hr⟩:=any_shift (q:=q) (by omega) hs
 obtain ⟨p1,p2,p3,p4⟩:=two_pow hs
 unfold m_q
 rw [hq,ret_bind,ret_mkL]
 refine ⟨by omega,by omega,?_⟩
 rw [Int.toNat_natCast,ret_bind]
 refine (ret_loop (Post:=fun s':List Int×Int=>LW s'.1∧s'.1.length=q+a.length∧(0≤s'.2∧s'.2 < 2 ^ s)∧lv s'.1+pw (q+a.length)*s'.2=pw q*(lv a*2 ^ s)) a.length (fun i (s':List Int×Int×Int)=>s'.2.2=(i:Int)∧LW s'.1∧s'.1.length=q+i∧(0≤s'.2.1∧s'.2.1 < 2 ^ s)∧lv s'.1+pw (q+i)*s'.2.1=pw q*(lv (a.take i)*2 ^ s)) ⟨rfl,lw_zeros _,List.length_replicate ..,⟨by show (0:Int)≤0; omega,p1⟩,by rw [lv_zeros,List.take_zero]; simp [lv]⟩ ?_ (by omega)).mono ?_
 ·rintro i ⟨o,c,_⟩ hi ⟨rfl,h1,h2,h3,h4⟩
  simp only at h1 h2 h3 h4
  unfold m_p
  simp only
  rw [ret_if,hr]
  refine ⟨fun hlt=>?_,fun hge=>⟨_,rfl,h1,by show o.length=_; omega,h3,by have ei:i=a.length:=(by omega); subst ei; rw [List.take_length] at h4; exact h4⟩⟩
  have hia:i < a.length:=by omega
  rw [ret_bind,ret_get]
  refine ⟨by omega,hlt,fun x hx=>?_⟩
  rw [Int.toNat_natCast] at hx
  have hxB:=LW.get ha hx
  have hx2:0≤x*2 ^ s:=Int.mul_nonneg hxB.1 (by omega)
  have hx3:x*2 ^ s≤(B - 1)*2 ^ s:=Int.mul_le_mul_of_nonneg_right (by omega) (by omega)
  have hx4:(B - 1)*2 ^ s≤(B - 1)*2147483648:=Int.mul_le_mul_of_nonneg_left p2 (by omega)
  have hsh:wshl .u64 (wc .u64 x) (s:Int)=some (x*2 ^ s):=by
   rw [wc_u64_in ⟨hxB.1,by omega⟩]
   unfold wshl
   rw [if_neg (by omega),Int.toNat_natCast]
   show some (IntKind.u64.wrap (x*2 ^ min s 64))=_
   rw [Nat.min_eq_left (by omega),IntWalk.u64_in _ ⟨hx2,by omega⟩]
  rw [hsh,obs,wor_low hs h3 hxB (by omega)]
  have t0:0≤c+x*2 ^ s:=by omega
  have hm:=Int.emod_nonneg (c+x*2 ^ s) (show B≠0 by omega)
  have hm2:=Int.emod_lt_of_pos (c+x*2 ^ s) (show 0 < B by omega)
  have hd:=Int.mul_ediv_add_emod (c+x*2 ^ s) B
  have q0:0≤(c+x*2 ^ s) / B:=Int.ediv_nonneg t0 (by omega)
  have q1:(c+x*2 ^ s) / B < 2 ^ s:=by
   refine Int.ediv_lt_of_lt_mul (by omega) ?_
   have:(B - 1)*2 ^ s=2 ^ s*B - 2 ^ s:=by grind
   omega
  rw [wc_u32,wsrc32 t0,ret_bind,ret_app]
  refine ⟨by rw [h2]; simp only [List.length_cons,List.length_nil]; omega,_,rfl,hia,by show wa .i64 (i:Int) 1=_; rw [wa_i (by omega) (by omega)]; rfl,LW.app.2 ⟨h1,LW.one.2 ⟨hm,hm2⟩⟩,by show (o++[_]).length=_; rw [List.length_append,h2]; rfl,⟨q0,q1⟩,?_⟩
  show lv (o++[(c+x*2 ^ s) % B])+pw (q+(i+1))*((c+x*2 ^ s) / B)=_
  have pq1:pw (q+(i+1))=B*pw (q+i):=rfl
  have pq:pw (q+i)=pw q*pw i:=pw_add q i
  rw [lv_snoc,h2,take_succ hx,pq1]
  have e3:pw (q+i)*(B*((c+x*2 ^ s) / B)+(c+x*2 ^ s) % B)=pw (q+i)*(c+x*2 ^ s):=by rw [hd]
  generalize (c+x*2 ^ s) / B=Q at*
  generalize (c+x*2 ^ s) % B=r at*
  rw [pq] at h4 e3 ⊢
  have e4:pw q*((lv (a.take i)+pw i*x)*2 ^ s)=pw q*(lv (a.take i)*2 ^ s)+pw q*pw i*(x*2 ^ s):=by grind
  rw [e4,← h4]
  grind
 ·rintro ⟨o,c⟩ ⟨h1,h2,h3,h4⟩
  simp only at h1 h2 h3 h4 ⊢
  rw [wc_u32_in ⟨h3.1,by omega⟩,ret_bind,ret_app]
  refine ⟨by rw [h2]; simp only [List.length_cons,List.length_nil]; omega,_,rfl,LW.app.2 ⟨h1,LW.one.2 ⟨h3.1,by omega⟩⟩,by rw [List.length_append,h2]; rfl,?_⟩
  rw [lv_snoc,h2,h4]
  grind
theorem shl_ok {a:List Int} (ha:LW a) (hn:a.length≤1000) {s:Nat} (hs:s < 32):Ret (m_q a (s:Int)) (fun u=>LW u∧u.length=a.length+1∧lv u=lv a*2 ^ s):=by
 have:=shlG_ok ha hn (q:=0) (by omega) hs
 rw [show 32*0+s=s by omega] at this
 exact this.mono fun u hu=>⟨hu.1,by omega,by rw [hu.2.2]; show _*(1*_)=_; rw [Int.one_mul]⟩
end Km
namespace Km
open Sx Go M Vc Lm
theorem sign_ok {l:List Int} (s:Bool) (hl:LW l) (ht:Tm l) (hn:l.length≤1000):m_bj s l=some (if l=[] then 0 else if s=true then -1 else 1):=by
 unfold m_bj
 rw [norm_ok s hl (by omega),obs,trimL_of hl ht]
 simp only
 by_cases h:l=[]
 ·rw [if_pos (by rw [h]; rfl),if_pos h]
 ·have hp:=List.length_pos_iff.2 h
  rw [if_neg (by omega),if_neg h]
  have:decide ((0:Int) < (l.length:Int))=true:=by simp; exact hp
  rw [this,Bool.and_true]
  split<;>rfl
theorem add_ok {a b:List Int} (s t:Bool) (ha:LW a) (hb:LW b) (hn:a.length≤900) (hm:b.length≤900):Ret (m_6 s a t b) (fun r=>LW r.2∧Tm r.2∧r.2.length≤1001∧(s=true→t=false→lv a < lv b→r.1=false∧lv r.2=lv b - lv a)):=by
 have la:=trimL_len ha
 have lb:=trimL_len hb
 have ta:=trimL_lw ha
 have tb:=trimL_lw hb
 have va:=trimL_lv a
 have vb:=trimL_lv b
 unfold m_6
 rw [trimR_ok ha (by omega),obs,trimR_ok hb (by omega),obs,ret_if]
 have mk:∀ (u:Bool) {r:List Int},LW r→r.length≤1001→Ret ((m_h u r).bind fun r17=>some (r17.1,r17.2)) (fun x:Bool×List Int=>LW x.2∧Tm x.2∧x.2.length≤1001∧lv x.2=lv r∧(u=false→x.1=false)):=by
  intro u r hr hrl
  rw [make1_ok u hr (by omega),obs]
  have:=trimL_len hr
  exact ⟨_,rfl,trimL_lw hr,trimL_tm r,by show (trimL r).length≤1001; omega,trimL_lv r,fun h=>by rw [h]; rfl⟩
 refine ⟨fun hst=>?_,fun hst=>?_⟩
 ·rw [ret_bind]
  refine (addMag_ok ta tb (by omega) (by omega)).mono fun r hr=>?_
  refine (mk s hr.1 hr.2.1).mono fun x hx=>⟨hx.1,hx.2.1,hx.2.2.1,fun h1 h2 _=>?_⟩
  rw [h1,h2] at hst; cases hst
 ·rw [cmpMag_ok ta tb (trimL_tm a) (trimL_tm b) (by omega) (by omega),obs,va,vb,ret_if]
  refine ⟨fun h=>?_,fun h=>?_⟩
  ·have hle:lv b≤lv a:=by
    refine Classical.byContradiction fun hc=>?_
    rw [if_pos (by omega)] at h; omega
   rw [ret_bind]
   have hll:(trimL b).length≤(trimL a).length:=by
    refine Classical.byContradiction fun hc=>?_
    have:=tm_len ta tb (trimL_tm a) (trimL_tm b) (by omega)
    omega
   refine (subMag_ok ta tb (by omega) hll (by omega)).mono fun r hr=>?_
   refine (mk s hr.1 hr.2.1).mono fun x hx=>⟨hx.1,hx.2.1,hx.2.2.1,fun _ _ h3=>absurd h3 (by omega)⟩
  ·have hlt:lv a < lv b:=by
    refine Classical.byContradiction fun hc=>?_
    rw [if_neg hc] at h
    split at h<;>omega
   rw [ret_bind]
   have hll:(trimL a).length≤(trimL b).length:=by
    refine Classical.byContradiction fun hc=>?_
    have:=tm_len tb ta (trimL_tm b) (trimL_tm a) (by omega)
    omega
   refine (subMag_ok tb ta (by omega) hll (by omega)).mono fun r hr=>?_
   refine (mk t hr.1 hr.2.1).mono fun x hx=>⟨hx.1,hx.2.1,hx.2.2.1,fun _ h2 _=>⟨hx.2.2.2.2 h2,by rw [hx.2.2.2.1,hr.2.2,va,vb]⟩⟩
end Km
namespace Km
open Sx Go M Vc Lm
def sv (s:Bool) (l:List Int):Int:=if s=true then - lv l else lv l
def Bg (v:Int) (s:Bool) (l:List Int):Prop:=LW l∧Tm l∧sv s l=v∧(s=true→l≠[])
theorem sv_trim (s:Bool) (l:List Int):sv s (trimL l)=sv s l:=by unfold sv; rw [trimL_lv]
theorem sv_not (s:Bool) (l:List Int):sv (!s) l= - sv s l:=by unfold sv; cases s<;>simp
theorem Bg.pos {v:Int} {s:Bool} {l:List Int} (h:Bg v s l) (hs:s=true):0 < lv l:=by
 have h1:=lv_nn h.1
 have h2:lv l≠0:=fun h0=>h.2.2.2 hs ((lv_zero h.1 h.2.1).1 h0)
 omega
theorem Bg.neg {v:Int} {s:Bool} {l:List Int} (h:Bg v s l):s=true↔v < 0:=by
 have h1:=lv_nn h.1
 have h3:=h.2.2.1
 constructor
 ·intro hs
  have:=h.pos hs
  unfold sv at h3; rw [if_pos hs] at h3; omega
 ·intro hv
  refine Classical.byContradiction fun hs=>?_
  unfold sv at h3; rw [if_neg hs] at h3; omega
theorem Bg.abs {v:Int} {s:Bool} {l:List Int} (h:Bg v s l):lv l=if v < 0 then - v else v:=by
 have h3:=h.2.2.1
 by_cases hs:s=true
 ·rw [if_pos (h.neg.1 hs)]; unfold sv at h3; rw [if_pos hs] at h3; omega
 ·rw [if_neg fun hv=>hs (h.neg.2 hv)]; unfold sv at h3; rw [if_neg hs] at h3; exact h3
theorem Bg.uniq {v:Int} {s s':Bool} {l l':List Int} (h:Bg v s l) (h':Bg v s' l'):s=s'∧l=l':=by
 refine ⟨?_,tm_inj h.1 h'.1 h.2.1 h'.2.1 (h.abs.trans h'.abs.symm)⟩
 have e:s=true↔s'=true:=h.neg.trans h'.neg.symm
 cases s<;>cases s'<;>simp_all
theorem Bg.len {v:Int} {s:Bool} {l:List Int} (h:Bg v s l) {m:Nat} (h1: - pw m < v) (h2:v < pw m):l.length≤m:=by
 refine len_le h.1 h.2.1 ?_
 rw [h.abs]; split<;>omega
theorem Bg.of {s:Bool} {l:List Int} (hl:LW l) (ht:Tm l) (hs:s=true→l≠[]):Bg (sv s l) s l:=⟨hl,ht,rfl,hs⟩
theorem Bg.cast {v w:Int} {s:Bool} {l:List Int} (h:Bg v s l) (e:v=w):Bg w s l:=e▸h
theorem bg_zero:Bg 0 false []:=⟨by intro x hx; simp at hx,tm_nil,rfl,by simp⟩
theorem Bg.sv {v:Int} {s:Bool} {l:List Int} (h:Bg v s l):sv s l=v:=h.2.2.1
theorem lv_set {l:List Int} {k:Nat} {x y:Int} (hx:l[k]?=some x):lv (l.set k y)=lv l+pw k*(y - x):=by
 have hlt:=(List.getElem?_eq_some_iff.1 hx).1
 have hy:(l.set k y)[k]?=some y:=by rw [List.getElem?_set_self hlt]
 rw [split_at hx,split_at hy,List.take_set,List.set_eq_of_length_le (by rw [List.length_take]; omega),List.drop_set_of_lt (by omega)]
 grind
theorem lw_set {l:List Int} (h:LW l) {k:Nat} {y:Int} (hy:0≤y∧y < B):LW (l.set k y):=by
 intro z hz
 rcases List.mem_or_eq_of_mem_set hz with hz | rfl
 ·exact h z hz
 ·exact hy
theorem trim_len {l:List Int} (hl:LW l):(trimL l).length≤l.length:=trimL_len hl
theorem Bg.norm {s:Bool} {l:List Int} (hl:LW l):Bg (Km.sv s l) (if trimL l=[] then false else s) (trimL l):=by
 refine ⟨trimL_lw hl,trimL_tm l,?_,?_⟩
 ·split
  ·rename_i h
   have h0:lv l=0:=by rw [← trimL_lv,h]; rfl
   unfold Km.sv
   rw [if_neg (by simp),trimL_lv,h0]; split<;>simp
  ·exact sv_trim s l
 ·split
  ·intro h; simp at h
  ·rename_i h; exact fun _=>h
theorem big_bg {l:List Int} (s:Bool) (hl:LW l) (hn:l.length≤1000000):Ret (m_c6 s l) (fun r=>Bg (sv s l) r.1 r.2):=by
 rw [big_ok s hl hn]
 have h:=Bg.norm (s:=s) hl
 split
 ·rename_i h0
  rw [if_pos h0,h0] at h
  exact ⟨_,rfl,h⟩
 ·rename_i h0
  rw [if_neg h0] at h
  exact ⟨_,rfl,h⟩
theorem clone_ok {a:List Int} (h:a.length≤1000000):m_da a=some a:=by
 unfold m_da app BIG
 rw [if_pos (by simp; omega),obs,List.nil_append]
theorem normP_bg {s:Bool} {a:List Int} (ha:LW a) (hn:a.length≤1000000):Ret (m_dd s a) (fun r=>Bg (sv s a) r.1 r.2):=by
 unfold m_dd
 rw [clone_ok hn,obs,ret_bind]
 exact (big_bg s ha hn).mono fun r hr=>⟨_,rfl,hr⟩
end Km
namespace Km
open Sx Go M Vc Lm
def MI (a b:List Int) (i j:Nat) (x:Int) (out:List Int) (c:Int):Prop:=
 LW out∧out.length=a.length+b.length∧(0≤c∧c < B)∧lv out+pw (i+j)*c=lv (a.take i)*lv b+pw i*(x*lv (b.take j))∧out.drop (i+b.length)=List.replicate (a.length - i) 0
def MO (a b:List Int) (i:Nat) (out:List Int):Prop:=
 LW out∧out.length=a.length+b.length∧lv out=lv (a.take i)*lv b∧out.drop (i+b.length)=List.replicate (a.length - i) 0
theorem MO.start (a b:List Int):MO a b 0 (List.replicate (a.length+b.length) 0):=by
 refine ⟨lw_zeros _,List.length_replicate ..,?_,?_⟩
 ·rw [lv_zeros,List.take_zero]; simp [lv]
 ·rw [List.drop_replicate,Nat.sub_zero]; congr 1; omega
theorem MO.row {a b:List Int} {i:Nat} {out:List Int} (h:MO a b i out) (x:Int):MI a b i 0 x out 0:=
 ⟨h.1,h.2.1,⟨by omega,by unfold B; omega⟩,by rw [List.take_zero]; simp only [lv,Int.mul_zero,Int.add_zero]; exact h.2.2.1,h.2.2.2⟩
theorem MI.step {a b:List Int} {i j:Nat} {x c y o:Int} {out:List Int} (h:MI a b i j x out c) (hx:0≤x∧x < B) (hb:LW b) (hy:b[j]?=some y) (ho:out[i+j]?=some o):
  (0≤x*y∧0≤o∧0≤y∧y < B∧o < B∧x*y+o+c < 18446744073709551616)∧MI a b i (j+1) x (out.set (i+j) ((x*y+o+c) % B)) ((x*y+o+c) / B):=by
 obtain ⟨h1,h2,h3,h4,h5⟩:=h
 have e:B=4294967296:=rfl
 have hyB:=LW.get hb hy
 have hoB:=LW.get h1 ho
 have hjl:=(List.getElem?_eq_some_iff.1 hy).1
 have hxy0:=Int.mul_nonneg hx.1 hyB.1
 have hxy:x*y≤4294967295*4294967295:=Int.mul_le_mul (by omega) (by omega) hyB.1 (by omega)
 have hm:=Int.emod_nonneg (x*y+o+c) (show B≠0 by omega)
 have hm2:=Int.emod_lt_of_pos (x*y+o+c) (show 0 < B by omega)
 have hd:=Int.mul_ediv_add_emod (x*y+o+c) B
 have hq0:0≤(x*y+o+c) / B:=Int.ediv_nonneg (by omega) (by omega)
 have hq1:(x*y+o+c) / B < B:=Int.ediv_lt_of_lt_mul (by omega) (by rw [e]; omega)
 refine ⟨⟨hxy0,hoB.1,hyB.1,hyB.2,hoB.2,by omega⟩,lw_set h1 ⟨hm,hm2⟩,by rw [List.length_set,h2],⟨hq0,hq1⟩,?_,?_⟩
 ·rw [lv_set ho,take_succ hy,show i+(j+1)=(i+j)+1 from rfl]
  simp only [pw]
  have hp:pw (i+j)=pw i*pw j:=pw_add i j
  generalize (x*y+o+c) / B=q at hd ⊢
  generalize hr:(x*y+o+c) % B=r at hd ⊢
  have e1:lv out+pw (i+j)*(r - o)+B*pw (i+j)*q=lv out+pw (i+j)*((B*q+r) - o):=by grind
  rw [e1,hd]
  have e2:pw i*(x*(lv (b.take j)+pw j*y))=pw i*(x*lv (b.take j))+(pw i*pw j)*(x*y):=by grind
  rw [e2,← hp]
  have e3:pw (i+j)*(x*y+o+c - o)=pw (i+j)*(x*y)+pw (i+j)*c:=by grind
  rw [e3]
  omega
 ·rw [List.drop_set_of_lt (by omega)]; exact h5
theorem MI.done {a b:List Int} {i:Nat} {x c:Int} {out:List Int} (h:MI a b i b.length x out c) (hx:a[i]?=some x):i+b.length < out.length∧MO a b (i+1) (out.set (i+b.length) c):=by
 obtain ⟨h1,h2,h3,h4,h5⟩:=h
 have hil:=(List.getElem?_eq_some_iff.1 hx).1
 have hz:out[i+b.length]?=some 0:=by
  have e1:(out.drop (i+b.length))[0]?=out[i+b.length]?:=by rw [List.getElem?_drop]; rfl
  rw [← e1,h5,List.getElem?_replicate,if_pos (by omega)]
 refine ⟨by omega,lw_set h1 h3,by rw [List.length_set,h2],?_,?_⟩
 ·rw [lv_set hz,take_succ hx,Int.sub_zero]
  rw [List.take_length] at h4
  have e1:(lv (a.take i)+pw i*x)*lv b=lv (a.take i)*lv b+pw i*(x*lv b):=by grind
  rw [e1,← h4]
 ·rw [show i+1+b.length=(i+b.length)+1 by omega,List.drop_set_of_lt (by omega),← List.drop_drop,h5,List.drop_replicate]
  congr 1
theorem times_ok {a b:List Int} (ha:LW a) (hb:LW b) (hn:a.length≤400) (hm:b.length≤400):Ret (m_et a b) (fun r=>LW r∧Tm r∧lv r=lv a*lv b):=by
 unfold m_et
 rw [ret_if]
 refine ⟨fun hz=>⟨_,rfl,by intro x hx; simp at hx,tm_nil,?_⟩,fun hz=>?_⟩
 ·simp only [Bool.or_eq_true,decide_eq_true_eq] at hz
  rcases hz with hz | hz
  ·rw [show a=[] from List.eq_nil_of_length_eq_zero (by omega)]; simp [lv]
  ·rw [show b=[] from List.eq_nil_of_length_eq_zero (by omega)]; simp [lv]
 rw [wa_i (by omega) (by omega),ret_bind,ret_mkL]
 refine ⟨by omega,by omega,?_⟩
 rw [show ((a.length:Int)+(b.length:Int)).toNat=a.length+b.length by omega,ret_bind]
 refine (ret_loop (Post:=fun o=>MO a b a.length o) a.length (fun i (s:List Int×Int)=>s.2=(i:Int)∧MO a b i s.1) ⟨rfl,MO.start a b⟩ ?_ (by omega)).mono ?_
 ·rintro i ⟨o,_⟩ hi ⟨rfl,hO⟩
  simp only at hO
  unfold m_es
  simp only
  rw [ret_if]
  refine ⟨fun hlt=>?_,fun hge=>⟨_,rfl,by have e:i=a.length:=(by omega); subst e; exact hO⟩⟩
  rw [ret_bind,ret_get]
  refine ⟨by omega,hlt,fun x hx=>?_⟩
  rw [Int.toNat_natCast] at hx
  have hxB:=LW.get ha hx
  rw [ret_bind]
  refine (ret_loop (Post:=fun s:List Int×Int=>MI a b i b.length x s.1 s.2) b.length (fun j (s:List Int×Int×Int)=>s.2.2=(j:Int)∧MI a b i j x s.1 s.2.1) ⟨rfl,hO.row x⟩ ?_ (by omega)).mono ?_
  ·rintro j ⟨o,c,_⟩ hj ⟨rfl,hI⟩
   simp only at hI
   unfold m_er
   simp only
   rw [ret_if]
   refine ⟨fun hjl=>?_,fun hge=>⟨_,rfl,by have e:j=b.length:=(by omega); subst e; exact hI⟩⟩
   have ho1:=hI.2.1
   rw [ret_bind,ret_get]
   refine ⟨by omega,hjl,fun y hy=>?_⟩
   rw [Int.toNat_natCast] at hy
   rw [wa_i (x:=(i:Int)) (y:=(j:Int)) (by omega) (by omega),ret_bind,ret_get]
   refine ⟨by omega,by omega,fun z hz=>?_⟩
   rw [show ((i:Int)+(j:Int)).toNat=i+j by omega] at hz
   obtain ⟨⟨t1,t2,t3,t4,t5,t6⟩,hN⟩:=hI.step hxB hb hy hz
   have hc:=hI.2.2.1
   have e:B=4294967296:=rfl
   have et:wa .u64 (wa .u64 (wm .u64 (wc .u64 x) (wc .u64 y)) (wc .u64 z)) c=x*y+z+c:=by
    rw [wc_u64_in (x:=x) ⟨hxB.1,by omega⟩,wc_u64_in (x:=y) ⟨t3,by omega⟩,wc_u64_in (x:=z) ⟨t2,by omega⟩,wm_u64 ⟨t1,by omega⟩,wa_u64 (x:=x*y) (y:=z) ⟨by omega,by omega⟩,wa_u64 ⟨by omega,by omega⟩]
   have hmm:=Int.emod_nonneg (x*y+z+c) (show B≠0 by omega)
   have hmm2:=Int.emod_lt_of_pos (x*y+z+c) (show 0 < B by omega)
   rw [et,wand_low ⟨by omega,t6⟩,wsrc32 (by omega),wc_u32_in ⟨hmm,hmm2⟩,ret_bind,ret_set]
   refine ⟨by omega,by omega,_,rfl,by omega,by show wa .i64 (j:Int) 1=_; rw [wa_i (by omega) (by omega)]; rfl,?_⟩
   rw [show ((i:Int)+(j:Int)).toNat=i+j by omega]
   exact hN
  ·rintro ⟨o,c⟩ hI
   simp only at hI ⊢
   obtain ⟨hl,hN⟩:=hI.done hx
   have ho1:=hI.2.1
   rw [wa_i (x:=(i:Int)) (y:=(b.length:Int)) (by omega) (by omega),wc_u32_in hI.2.2.1,ret_bind,ret_set]
   refine ⟨by omega,by omega,_,rfl,by omega,by show wa .i64 (i:Int) 1=_; rw [wa_i (by omega) (by omega)]; rfl,?_⟩
   rw [show ((i:Int)+(b.length:Int)).toNat=i+b.length by omega]
   exact hN
 ·rintro o ⟨h1,h2,h3,h4⟩
  rw [List.take_length] at h3
  rw [trim_ok h1 (by omega),obs]
  exact ⟨_,rfl,trimL_lw h1,trimL_tm _,by rw [trimL_lv]; exact h3⟩
theorem from_bg {n:Int} (h0: -9223372036854775808≤n) (h1:n < 9223372036854775808):Ret (m_c8 n) (fun r=>Bg n r.1 r.2):=by
 have e:B=4294967296:=rfl
 have key:∀ u:Int,0≤u→u < 18446744073709551616→(if n < 0 then - u else u)=n→Ret (m_c7 n u) (fun r=>Bg n r.1 r.2):=by
  intro u u0 u1 hu
  unfold m_c7
  have hm:=Int.emod_nonneg u (show B≠0 by omega)
  have hm2:=Int.emod_lt_of_pos u (show 0 < B by omega)
  have hd0:0≤u / B:=Int.ediv_nonneg u0 (by omega)
  have hd1:u / B < B:=Int.ediv_lt_of_lt_mul (by omega) (by rw [e]; omega)
  have hd:=Int.mul_ediv_add_emod u B
  rw [wand_low ⟨u0,u1⟩,wsrc32 u0,wc_u32_in ⟨hm,hm2⟩,wc_u32_in ⟨hd0,hd1⟩,ret_bind]
  have hl:LW [u % B,u / B]:=by
   intro x hx
   simp only [List.mem_cons,List.not_mem_nil,or_false] at hx
   rcases hx with rfl | rfl
   ·exact ⟨hm,hm2⟩
   ·exact ⟨hd0,hd1⟩
  refine (big_bg (decide (n < 0)) hl (by simp)).mono fun r hr=>⟨_,rfl,hr.cast ?_⟩
  have hv:lv [u % B,u / B]=u:=by simp only [lv,Int.mul_zero,Int.add_zero]; omega
  unfold sv
  rw [hv]
  simpa using hu
 unfold m_c8
 rw [ret_if]
 refine ⟨fun hneg=>?_,fun hpos=>?_⟩
 ·have e3:wneg .u64 (wc .u64 n)= - n:=by rw [wc_u64]; unfold wneg; rw [IntKind.wrap_u64]; omega
  rw [e3]
  exact key (- n) (by omega) (by omega) (by rw [if_pos hneg]; omega)
 ·rw [wc_u64_in ⟨by omega,by omega⟩]
  exact key n (by omega) (by omega) (by rw [if_neg hpos])
theorem lt_pw {l:List Int} (hl:LW l) {m:Nat} (h:l.length≤m):lv l < pw m:=by
 have h1:=lv_lt hl
 have h2:=pw_mono h
 omega
theorem mul_bg {s t:Bool} {a b:List Int} (ha:LW a) (hb:LW b) (hn:a.length≤400) (hm:b.length≤400):Ret (m_eu s a t b) (fun r=>Bg (sv s a*sv t b) r.1 r.2):=by
 unfold m_eu
 rw [trim_ok ha (by omega),obs,trim_ok hb (by omega),obs,ret_bind]
 have la:=trim_len ha
 have lb:=trim_len hb
 refine (times_ok (trimL_lw ha) (trimL_lw hb) (by omega) (by omega)).mono ?_
 rintro r ⟨r1,r2,r3⟩
 rw [trimL_lv,trimL_lv] at r3
 have hlen:r.length≤800:=by
  refine len_le r1 r2 ?_
  have h1:=lt_pw ha hn
  have h2:=lt_pw hb hm
  have h3:=lv_nn ha
  have h4:=lv_nn hb
  rw [r3,show (800:Nat)=400+400 from rfl,pw_add]
  have h5:lv a*lv b≤lv a*pw 400:=Int.mul_le_mul_of_nonneg_left (by omega) h3
  have h6:lv a*pw 400 < pw 400*pw 400:=Int.mul_lt_mul_of_pos_right h1 (pw_pos _)
  omega
 rw [ret_bind]
 refine (big_bg (!(s == t)) r1 (by omega)).mono fun q hq=>⟨_,rfl,hq.cast ?_⟩
 unfold sv
 rw [r3]
 cases s<;>cases t<;>simp<;>grind
theorem add_bg {s t:Bool} {a b:List Int} (ha:LW a) (hb:LW b) (hn:a.length≤900) (hm:b.length≤900):Ret (m_e3 s a t b) (fun r=>Bg (sv s a+sv t b) r.1 r.2):=by
 unfold m_e3
 rw [trim_ok ha (by omega),obs,trim_ok hb (by omega),obs]
 have la:=trim_len ha
 have lb:=trim_len hb
 have ta:=trimL_tm a
 have tb:=trimL_tm b
 have wa':=trimL_lw ha
 have wb':=trimL_lw hb
 have h1:=lt_pw ha hn
 have h2:=lt_pw hb hm
 have h3:=lv_nn ha
 have h4:=lv_nn hb
 have hp:2*pw 900≤pw 901:=by
  have:=pw_pos 900
  show 2*pw 900≤B*pw 900
  unfold B; omega
 rw [ret_if]
 refine ⟨fun he=>?_,fun hne=>?_⟩
 ·obtain rfl:s=t:=by simpa using he
  rw [ret_bind]
  refine (plus_ok wa' wb' (by omega) (by omega)).mono ?_
  rintro r ⟨r1,r2,r3⟩
  rw [trimL_lv,trimL_lv] at r3
  have hlen:r.length≤901:=len_le r1 r2 (by omega)
  rw [ret_bind]
  refine (big_bg s r1 (by omega)).mono fun q hq=>⟨_,rfl,hq.cast ?_⟩
  unfold sv
  rw [r3]
  cases s<;>simp<;>omega
 ·have hst:t=!s:=by cases s<;>cases t<;>simp_all
  subst hst
  rw [compare_ok wa' wb' ta tb (by omega) (by omega),obs,trimL_lv,trimL_lv,ret_if]
  refine ⟨fun hge=>?_,fun hlt=>?_⟩
  ·have hab:lv b≤lv a:=by
    refine Classical.byContradiction fun hc=>?_
    rw [if_pos (by omega)] at hge; omega
   have hll:(trimL b).length≤(trimL a).length:=by
    refine Classical.byContradiction fun hc=>?_
    have:=tm_len wa' wb' ta tb (by omega)
    rw [trimL_lv,trimL_lv] at this; omega
   rw [ret_bind]
   refine (minus_ok wa' wb' (by omega) hll (by rw [trimL_lv,trimL_lv]; exact hab)).mono ?_
   rintro r ⟨r1,r2,r3⟩
   rw [trimL_lv,trimL_lv] at r3
   have hlen:r.length≤901:=len_le r1 r2 (by omega)
   rw [ret_bind]
   refine (big_bg s r1 (by omega)).mono fun q hq=>⟨_,rfl,hq.cast ?_⟩
   unfold sv
   rw [r3]
   cases s<;>simp<;>omega
  ·have hab:lv a < lv b:=by
    refine Classical.byContradiction fun hc=>?_
    rw [if_neg hc] at hlt
    revert hlt; split<;>omega
   have hll:(trimL a).length≤(trimL b).length:=by
    refine Classical.byContradiction fun hc=>?_
    have:=tm_len wb' wa' tb ta (by omega)
    rw [trimL_lv,trimL_lv] at this; omega
   rw [ret_bind]
   refine (minus_ok wb' wa' (by omega) hll (by rw [trimL_lv,trimL_lv]; omega)).mono ?_
   rintro r ⟨r1,r2,r3⟩
   rw [trimL_lv,trimL_lv] at r3
   have hlen:r.length≤901:=len_le r1 r2 (by omega)
   rw [ret_bind]
   refine (big_bg (!s) r1 (by omega)).mono fun q hq=>⟨_,rfl,hq.cast ?_⟩
   unfold sv
   rw [r3]
   cases s<;>simp<;>omega
theorem sub_bg {s t:Bool} {a b:List Int} (ha:LW a) (hb:LW b) (hn:a.length≤900) (hm:b.length≤900):Ret (m_e4 s a t b) (fun r=>Bg (sv s a - sv t b) r.1 r.2):=by
 unfold m_e4
 rw [ret_bind]
 refine (add_bg (s:=s) (t:=!t) ha hb hn hm).mono fun r hr=>⟨_,rfl,hr.cast ?_⟩
 rw [sv_not]; omega
theorem sign_bg {s:Bool} {l:List Int} (hl:LW l) (hn:l.length≤1000):m_de s l=some (if sv s l < 0 then -1 else if 0 < sv s l then 1 else 0):=by
 refine Ret.eq ?_
 unfold m_de
 rw [trim_ok hl (by omega),obs]
 have h0:=lv_nn hl
 have hz:=lv_zero (trimL_lw hl) (trimL_tm l)
 rw [trimL_lv] at hz
 unfold sv
 rw [ret_if]
 refine ⟨fun h=>⟨_,rfl,?_⟩,fun h=>?_⟩
 ·have:lv l=0:=hz.2 (List.eq_nil_of_length_eq_zero (by omega))
  rw [this]; cases s<;>simp
 ·have:lv l≠0:=fun h1=>h (by rw [hz.1 h1]; rfl)
  rw [ret_if]
  refine ⟨fun hs=>⟨_,rfl,?_⟩,fun hs=>⟨_,rfl,?_⟩⟩
  ·rw [if_pos hs,if_pos (by omega)]
  ·rw [if_neg hs,if_neg (by omega),if_pos (by omega)]
end Km
namespace Km
open Sx Go M Vc Lm
theorem make_bg {l:List Int} (s:Bool) (hl:LW l) (hn:l.length≤1000000):Ret (m_h s l) (fun r=>Bg (sv s l) r.1 r.2):=by
 rw [make1_ok s hl hn]
 have h:=Bg.norm (s:=s) hl
 by_cases h0:trimL l=[]
 ·rw [if_pos h0] at h
  refine ⟨_,rfl,?_⟩
  show Bg _ (s && decide ((0:Int) < ((trimL l).length:Int))) (trimL l)
  have:(s && decide ((0:Int) < ((trimL l).length:Int)))=false:=by rw [h0]; simp
  rw [this]; exact h
 ·rw [if_neg h0] at h
  refine ⟨_,rfl,?_⟩
  show Bg _ (s && decide ((0:Int) < ((trimL l).length:Int))) (trimL l)
  have hp:0 < (trimL l).length:=by
   cases hL:trimL l with
   | nil=>exact absurd hL h0
   | cons a b=>simp
  have:(s && decide ((0:Int) < ((trimL l).length:Int)))=s:=by
   rw [decide_eq_true (by omega),Bool.and_true]
  rw [this]; exact h
theorem mulMag_ok {a b:List Int} (ha:LW a) (hb:LW b) (hn:a.length≤400) (hm:b.length≤400):Ret (m_h7 a b) (fun r=>LW r∧r.length=a.length+b.length∧lv r=lv a*lv b):=by
 unfold m_h7
 rw [wa_i (by omega) (by omega),ret_bind,ret_mkL]
 refine ⟨by omega,by omega,?_⟩
 rw [show ((a.length:Int)+(b.length:Int)).toNat=a.length+b.length by omega,ret_bind]
 refine (ret_loop (Post:=fun o=>MO a b a.length o) a.length (fun i (s:List Int×Int)=>s.2=(i:Int)∧MO a b i s.1) ⟨rfl,MO.start a b⟩ ?_ (by omega)).mono ?_
 ·rintro i ⟨o,_⟩ hi ⟨rfl,hO⟩
  simp only at hO
  unfold m_h6
  simp only
  rw [ret_if]
  refine ⟨fun hlt=>?_,fun hge=>⟨_,rfl,by have e:i=a.length:=(by omega); subst e; exact hO⟩⟩
  obtain ⟨x,hx⟩:∃ x,a[i]?=some x:=⟨a[i]'(by omega),List.getElem?_eq_getElem (by omega)⟩
  have hxB:=LW.get ha hx
  rw [ret_bind]
  refine (ret_loop (Post:=fun s:List Int×Int=>MI a b i b.length x s.1 s.2) b.length (fun j (s:List Int×Int×Int)=>s.2.2=(j:Int)∧MI a b i j x s.1 s.2.1) ⟨rfl,hO.row x⟩ ?_ (by omega)).mono ?_
  ·rintro j ⟨o,c,_⟩ hj ⟨rfl,hI⟩
   simp only at hI
   unfold m_h5
   simp only
   rw [ret_if]
   refine ⟨fun hjl=>?_,fun hge=>⟨_,rfl,by have e:j=b.length:=(by omega); subst e; exact hI⟩⟩
   have ho1:=hI.2.1
   rw [ret_bind,ret_get]
   refine ⟨by omega,hlt,fun x' hx'=>?_⟩
   rw [Int.toNat_natCast,hx] at hx'
   obtain rfl:=Option.some.inj hx'
   rw [ret_bind,ret_get]
   refine ⟨by omega,hjl,fun y hy=>?_⟩
   rw [Int.toNat_natCast] at hy
   rw [wa_i (x:=(i:Int)) (y:=(j:Int)) (by omega) (by omega),ret_bind,ret_get]
   refine ⟨by omega,by omega,fun z hz=>?_⟩
   rw [show ((i:Int)+(j:Int)).toNat=i+j by omega] at hz
   obtain ⟨⟨t1,t2,t3,t4,t5,t6⟩,hN⟩:=hI.step hxB hb hy hz
   have hc:=hI.2.2.1
   have e:B=4294967296:=rfl
   have et:wa .u64 (wa .u64 c (wm .u64 (wc .u64 x) (wc .u64 y))) (wc .u64 z)=x*y+z+c:=by
    rw [wc_u64_in (x:=x) ⟨hxB.1,by omega⟩,wc_u64_in (x:=y) ⟨t3,by omega⟩,wc_u64_in (x:=z) ⟨t2,by omega⟩,wm_u64 ⟨t1,by omega⟩,wa_u64 (x:=c) (y:=x*y) ⟨by omega,by omega⟩,wa_u64 ⟨by omega,by omega⟩]
    omega
   rw [et,wsrc32 (by omega),wc_u32,ret_bind,ret_set]
   refine ⟨by omega,by omega,_,rfl,by omega,by show wa .i64 (j:Int) 1=_; rw [wa_i (by omega) (by omega)]; rfl,?_⟩
   rw [show ((i:Int)+(j:Int)).toNat=i+j by omega]
   exact hN
  ·rintro ⟨o,c⟩ hI
   simp only at hI ⊢
   obtain ⟨hl,hN⟩:=hI.done hx
   have ho1:=hI.2.1
   rw [wa_i (x:=(i:Int)) (y:=(b.length:Int)) (by omega) (by omega),wc_u32_in hI.2.2.1,ret_bind,ret_set]
   refine ⟨by omega,by omega,_,rfl,by omega,by show wa .i64 (i:Int) 1=_; rw [wa_i (by omega) (by omega)]; rfl,?_⟩
   rw [show ((i:Int)+(b.length:Int)).toNat=i+b.length by omega]
   exact hN
 ·rintro o ⟨h1,h2,h3,h4⟩
  rw [List.take_length] at h3
  exact ⟨_,rfl,h1,h2,h3⟩
theorem fromR_bg {n:Int} (h0: -9223372036854775808≤n) (h1:n < 9223372036854775808):Ret (m_j n) (fun r=>Bg n r.1 r.2):=by
 have e:B=4294967296:=rfl
 have key:∀ u:Int,0≤u→u < 18446744073709551616→(if n < 0 then - u else u)=n→Ret (m_i n u) (fun r=>Bg n r.1 r.2):=by
  intro u u0 u1 hu
  unfold m_i
  have hm:=Int.emod_nonneg u (show B≠0 by omega)
  have hm2:=Int.emod_lt_of_pos u (show 0 < B by omega)
  have hd0:0≤u / B:=Int.ediv_nonneg u0 (by omega)
  have hd1:u / B < B:=Int.ediv_lt_of_lt_mul (by omega) (by rw [e]; omega)
  have hd:=Int.mul_ediv_add_emod u B
  rw [wsrc32 u0,wc_u32 u,wc_u32_in ⟨hd0,hd1⟩,ret_bind]
  have hl:LW [u % B,u / B]:=by
   intro x hx
   simp only [List.mem_cons,List.not_mem_nil,or_false] at hx
   rcases hx with rfl | rfl
   ·exact ⟨hm,hm2⟩
   ·exact ⟨hd0,hd1⟩
  refine (make_bg (decide (n < 0)) hl (by simp)).mono fun r hr=>⟨_,rfl,hr.cast ?_⟩
  have hv:lv [u % B,u / B]=u:=by simp only [lv,Int.mul_zero,Int.add_zero]; omega
  unfold sv
  rw [hv]
  simpa using hu
 unfold m_j
 rw [ret_if]
 refine ⟨fun hneg=>?_,fun hpos=>?_⟩
 ·have e3:wa .u64 (wc .u64 (wneg .i64 (wa .i64 n 1))) 1= - n:=by
   have e4:wneg .i64 (wa .i64 n 1)= - (n+1):=by
    rw [wa_i (by omega) (by omega)]
    exact IntWalk.i64_in _ ⟨by omega,by omega⟩
   rw [e4,wc_u64_in ⟨by omega,by omega⟩,wa_u64 ⟨by omega,by omega⟩]; omega
  rw [e3]
  exact key (- n) (by omega) (by omega) (by rw [if_pos hneg]; omega)
 ·rw [wc_u64_in ⟨by omega,by omega⟩]
  exact key n (by omega) (by omega) (by rw [if_neg hpos])
theorem mulR_bg {s t:Bool} {a b:List Int} (ha:LW a) (hb:LW b) (hn:a.length≤400) (hm:b.length≤400):Ret (m_h8 s a t b) (fun r=>Bg (sv s a*sv t b) r.1 r.2):=by
 unfold m_h8
 rw [trimR_ok ha (by omega),obs,trimR_ok hb (by omega),obs,ret_bind]
 have la:=trim_len ha
 have lb:=trim_len hb
 refine (mulMag_ok (trimL_lw ha) (trimL_lw hb) (by omega) (by omega)).mono ?_
 rintro r ⟨r1,r2,r3⟩
 rw [trimL_lv,trimL_lv] at r3
 rw [ret_bind]
 refine (make_bg (!(s == t)) r1 (by omega)).mono fun q hq=>⟨_,rfl,hq.cast ?_⟩
 unfold sv
 rw [r3]
 cases s<;>cases t<;>simp<;>grind
theorem addR_bg {s t:Bool} {a b:List Int} (ha:LW a) (hb:LW b) (hn:a.length≤900) (hm:b.length≤900):Ret (m_6 s a t b) (fun r=>Bg (sv s a+sv t b) r.1 r.2):=by
 unfold m_6
 rw [trimR_ok ha (by omega),obs,trimR_ok hb (by omega),obs]
 have la:=trim_len ha
 have lb:=trim_len hb
 have ta:=trimL_tm a
 have tb:=trimL_tm b
 have wa':=trimL_lw ha
 have wb':=trimL_lw hb
 have h3:=lv_nn ha
 have h4:=lv_nn hb
 rw [ret_if]
 refine ⟨fun he=>?_,fun hne=>?_⟩
 ·obtain rfl:s=t:=by simpa using he
  rw [ret_bind]
  refine (addMag_ok wa' wb' (by omega) (by omega)).mono ?_
  rintro r ⟨r1,r2,r3⟩
  rw [trimL_lv,trimL_lv] at r3
  rw [ret_bind]
  refine (make_bg s r1 (by omega)).mono fun q hq=>⟨_,rfl,hq.cast ?_⟩
  unfold sv
  rw [r3]
  cases s<;>simp<;>omega
 ·have hst:t=!s:=by cases s<;>cases t<;>simp_all
  subst hst
  rw [cmpMag_ok wa' wb' ta tb (by omega) (by omega),obs,trimL_lv,trimL_lv,ret_if]
  refine ⟨fun hge=>?_,fun hlt=>?_⟩
  ·have hab:lv b≤lv a:=by
    refine Classical.byContradiction fun hc=>?_
    rw [if_pos (by omega)] at hge; omega
   have hll:(trimL b).length≤(trimL a).length:=by
    refine Classical.byContradiction fun hc=>?_
    have:=tm_len wa' wb' ta tb (by omega)
    rw [trimL_lv,trimL_lv] at this; omega
   rw [ret_bind]
   refine (subMag_ok wa' wb' (by omega) hll (by rw [trimL_lv,trimL_lv]; exact hab)).mono ?_
   rintro r ⟨r1,r2,r3⟩
   rw [trimL_lv,trimL_lv] at r3
   rw [ret_bind]
   refine (make_bg s r1 (by omega)).mono fun q hq=>⟨_,rfl,hq.cast ?_⟩
   unfold sv
   rw [r3]
   cases s<;>simp<;>omega
  ·have hab:lv a < lv b:=by
    refine Classical.byContradiction fun hc=>?_
    rw [if_neg hc] at hlt
    revert hlt; split<;>omega
   have hll:(trimL a).length≤(trimL b).length:=by
    refine Classical.byContradiction fun hc=>?_
    have:=tm_len wb' wa' tb ta (by omega)
    rw [trimL_lv,trimL_lv] at this; omega
   rw [ret_bind]
   refine (subMag_ok wb' wa' (by omega) hll (by rw [trimL_lv,trimL_lv]; omega)).mono ?_
   rintro r ⟨r1,r2,r3⟩
   rw [trimL_lv,trimL_lv] at r3
   rw [ret_bind]
   refine (make_bg (!s) r1 (by omega)).mono fun q hq=>⟨_,rfl,hq.cast ?_⟩
   unfold sv
   rw [r3]
   cases s<;>simp<;>omega
theorem negR_bg {s:Bool} {a:List Int} (ha:LW a) (hn:a.length≤1000000):Ret (m_w s a) (fun r=>Bg (- sv s a) r.1 r.2∧r.2.length≤a.length):=by
 unfold m_w
 rw [ret_bind]
 have h:=make1_ok (!s) ha hn
 obtain ⟨q,hq,hB⟩:=make_bg (!s) ha hn
 refine ⟨q,hq,_,rfl,hB.cast (sv_not s a),?_⟩
 rw [h] at hq
 obtain rfl:=Option.some.inj hq
 exact trim_len ha
theorem subR_bg {s t:Bool} {a b:List Int} (ha:LW a) (hb:LW b) (hn:a.length≤900) (hm:b.length≤900):Ret (m_7 s a t b) (fun r=>Bg (sv s a - sv t b) r.1 r.2):=by
 unfold m_7
 rw [ret_bind]
 refine (negR_bg (s:=t) hb (by omega)).mono ?_
 rintro q ⟨hq,hl⟩
 rw [ret_bind]
 refine (addR_bg (s:=s) (t:=q.1) ha hq.1 hn (by omega)).mono fun r hr=>⟨_,rfl,hr.cast ?_⟩
 rw [hq.sv]; omega
theorem signR_bg {v:Int} {s:Bool} {l:List Int} (h:Bg v s l) (hn:l.length≤1000):m_bj s l=some (if v < 0 then -1 else if 0 < v then 1 else 0):=by
 rw [sign_ok s h.1 h.2.1 hn]
 have h0:=lv_nn h.1
 have hz:=lv_zero h.1 h.2.1
 have ha:=h.abs
 have hg:=h.neg
 by_cases hv:v < 0
 ·rw [if_neg (fun e=>by rw [hz.2 e] at ha; split at ha<;>omega),if_pos (hg.2 hv),if_pos hv]
 ·rw [if_neg hv] at ha ⊢
  by_cases hp:0 < v
  ·rw [if_pos hp,if_neg (fun e=>by rw [hz.2 e] at ha; omega),if_neg (fun e=>hv (hg.1 e))]
  ·rw [if_neg hp,if_pos (hz.1 (by omega))]
end Km
namespace Km
open Sx Go M Vc Lm
theorem limbs_self {l:List Int} (hl:l.length≤1000):m_jc l l=some true:=by
 refine Ret.eq ?_
 unfold m_jc
 rw [if_pos rfl,ret_bind]
 refine (ret_loop (Post:=fun o=>o=.inl ()) l.length (fun k (i:Int)=>i=(k:Int)) rfl ?_ (by omega)).mono ?_
 ·rintro k _ hk rfl
  unfold m_jb
  rw [ret_if]
  refine ⟨fun hlt=>?_,fun hge=>⟨_,rfl,rfl⟩⟩
  rw [ret_bind,ret_get]
  refine ⟨by omega,hlt,fun x hx=>?_⟩
  rw [ret_bind,ret_get]
  refine ⟨by omega,hlt,fun y hy=>?_⟩
  obtain rfl:=Option.some.inj (hx.symm.trans hy)
  rw [if_pos rfl]
  refine ⟨_,rfl,by omega,?_⟩
  show wa .i64 (k:Int) 1=_
  rw [wa_i (by omega) (by omega)]; rfl
 ·rintro _ rfl
  exact ⟨_,rfl,rfl⟩
end Km
namespace Km
open Sx Go M Vc Lm
theorem bv32 {x:Int} (h:0≤x∧x < 4294967296):(BitVec.ofInt 32 x).toNat=x.toNat:=by
 rw [BitVec.toNat_ofInt]
 have:x % ((2 ^ 32:Nat):Int)=x:=Int.emod_eq_of_lt h.1 (by exact h.2)
 rw [this]
theorem wor32 {s:Nat} {c k:Int} (hs:s < 32) (hc:0≤c∧c < 2 ^ s) (hk:0≤k) (hb:c+2 ^ s*k < 4294967296):wor .u32 c (2 ^ s*k)=c+2 ^ s*k:=by
 obtain ⟨C,rfl⟩:=Int.eq_ofNat_of_zero_le hc.1
 obtain ⟨K,rfl⟩:=Int.eq_ofNat_of_zero_le hk
 have hC:C < 2 ^ s:=by exact_mod_cast hc.2
 have e2:((2:Int) ^ s*(K:Int))=((2 ^ s*K:Nat):Int):=by push_cast; rfl
 rw [e2] at hb ⊢
 unfold wor
 have e3:(BitVec.ofInt 32 (C:Int) ||| BitVec.ofInt 32 ((2 ^ s*K:Nat):Int)).toNat=2 ^ s*K+C:=by
  rw [BitVec.toNat_or,bv32 (by omega),bv32 (by omega),Int.toNat_natCast,Int.toNat_natCast,Nat.or_comm,← Nat.two_pow_add_eq_or_of_lt hC]
 show IntKind.u32.wrap ((BitVec.ofInt 32 (C:Int) ||| BitVec.ofInt 32 ((2 ^ s*K:Nat):Int)).toNat:Int)=_
 rw [e3,IntKind.wrap_u32]
 omega
theorem shl_low {s:Nat} (hs:s < 32) {x:Int} (hx:0≤x∧x < B):∃ k,0≤k∧x*2 ^ s % B=2 ^ s*k∧2 ^ s*k+2 ^ s≤B∧0≤x*2 ^ s / B∧x*2 ^ s / B < 2 ^ s:=by
 obtain ⟨h1,h2,h3,h4⟩:=two_pow hs
 have e:x*2 ^ s % B=2 ^ s*(x % 2 ^ (32 - s)):=by
  rw [← h3,Int.mul_comm x,Int.mul_emod_mul_of_pos _ _ h1]
 have m0:=Int.emod_nonneg x (show (2:Int) ^ (32 - s)≠0 by omega)
 have m1:=Int.emod_lt_of_pos x h4
 refine ⟨x % 2 ^ (32 - s),m0,e,?_,Int.ediv_nonneg (Int.mul_nonneg hx.1 (by omega)) (by unfold B; omega),?_⟩
 ·have:2 ^ s*(x % 2 ^ (32 - s)+1)≤2 ^ s*2 ^ (32 - s):=Int.mul_le_mul_of_nonneg_left (by omega) (by omega)
  rw [Int.mul_add,h3,Int.mul_one] at this
  exact this
 ·refine Int.ediv_lt_of_lt_mul (by unfold B; omega) ?_
  rw [Int.mul_comm]
  exact Int.mul_lt_mul_of_pos_left hx.2 h1
theorem upG_ok {a:List Int} (ha:LW a) (hn:a.length≤1000) (hne:a≠[]) {q s:Nat} (hq1:q≤1000) (hs:s < 32):Ret (m_dk a ((32*q+s:Nat):Int)) (fun u=>LW u∧Tm u∧lv u=lv a*(pw q*2 ^ s)):=by
 have e:B=4294967296:=rfl
 obtain ⟨hq,hr⟩:=any_shift (q:=q) (by omega) hs
 obtain ⟨p1,p2,p3,p4⟩:=two_pow hs
 have hal:0 < a.length:=List.length_pos_iff.2 hne
 unfold m_dk
 rw [if_neg (by omega),hq,wa_i (x:=(q:Int)) (y:=(a.length:Int)) (by omega) (by omega),wa_i (by omega) (by omega),ret_bind,ret_mkL]
 refine ⟨by omega,by omega,?_⟩
 rw [show ((q:Int)+(a.length:Int)+1).toNat=q+a.length+1 by omega,ret_bind]
 refine (ret_loop (Post:=fun o:List Int=>LW o∧o.length=q+a.length+1∧lv o=pw q*(lv a*2 ^ s)) a.length (fun i (t:List Int×Int)=>t.2=(i:Int)∧LW t.1∧t.1.length=q+a.length+1∧lv t.1=pw q*(lv (a.take i)*2 ^ s)∧t.1.drop (q+i+1)=List.replicate (a.length - i) 0∧(∀ x,t.1[q+i]?=some x→x < 2 ^ s)) ⟨rfl,lw_zeros _,List.length_replicate ..,by rw [lv_zeros,List.take_zero]; simp [lv],by rw [List.drop_replicate]; congr 1; omega,fun x hx=>by rw [List.getElem?_replicate] at hx; split at hx<;>simp at hx; omega⟩ ?_ (by omega)).mono ?_
 ·rintro i ⟨o,_⟩ hi ⟨rfl,h1,h2,h3,h4,h5⟩
  simp only at h1 h2 h3 h4 h5
  unfold m_dj
  simp only
  rw [ret_if]
  refine ⟨fun hlt=>?_,fun hge=>⟨_,rfl,h1,h2,by have ei:i=a.length:=(by omega); subst ei; rw [List.take_length] at h3; exact h3⟩⟩
  have hia:i < a.length:=by omega
  rw [ret_bind,ret_get]
  refine ⟨by omega,hlt,fun x hx=>?_⟩
  rw [Int.toNat_natCast] at hx
  have hxB:=LW.get ha hx
  have hx2:0≤x*2 ^ s:=Int.mul_nonneg hxB.1 (by omega)
  have hx3:x*2 ^ s≤(B - 1)*2 ^ s:=Int.mul_le_mul_of_nonneg_right (by omega) (by omega)
  have hx4:(B - 1)*2 ^ s≤(B - 1)*2147483648:=Int.mul_le_mul_of_nonneg_left p2 (by omega)
  have hsh:wshl .u64 (wc .u64 x) (wc .u64 (s:Int))=some (x*2 ^ s):=by
   rw [wc_u64_in ⟨hxB.1,by omega⟩,wc_u64_in (x:=(s:Int)) ⟨by omega,by omega⟩]
   unfold wshl
   rw [if_neg (by omega),Int.toNat_natCast]
   show some (IntKind.u64.wrap (x*2 ^ min s 64))=_
   rw [Nat.min_eq_left (by omega),IntWalk.u64_in _ ⟨hx2,by omega⟩]
  obtain ⟨k,k0,k1,k2,k3,k4⟩:=shl_low hs hxB
  have hd:=Int.mul_ediv_add_emod (x*2 ^ s) B
  have hmm:=Int.emod_nonneg (x*2 ^ s) (show B≠0 by omega)
  have eqi:wa .i64 (q:Int) (i:Int)=((q+i:Nat):Int):=by rw [wa_i (by omega) (by omega)]; omega
  rw [hq,hr,hsh,obs,eqi,ret_bind,ret_get]
  refine ⟨by omega,by omega,fun y hy=>?_⟩
  rw [Int.toNat_natCast] at hy
  have hyB:=LW.get h1 hy
  have hys:=h5 y hy
  rw [wand_low ⟨hx2,by omega⟩,wsrc32 hx2,wc_u32_in ⟨k3,by omega⟩,wc_u32_in (x:=x*2 ^ s % B) ⟨by omega,by omega⟩]
  have hor:wor .u32 y (x*2 ^ s % B)=y+x*2 ^ s % B:=by rw [k1]; exact wor32 hs ⟨hyB.1,hys⟩ k0 (by omega)
  rw [hor,ret_bind,ret_set,Int.toNat_natCast]
  refine ⟨by omega,by omega,?_⟩
  have ew:wa .i64 ((q+i:Nat):Int) 1=((q+i+1:Nat):Int):=by rw [wa_i (by omega) (by omega)]; omega
  rw [ew,ret_bind,ret_set,Int.toNat_natCast]
  have hl1:(o.set (q+i) (y+x*2 ^ s % B)).length=q+a.length+1:=by rw [List.length_set,h2]
  have hz:(o.set (q+i) (y+x*2 ^ s % B))[q+i+1]?=some 0:=by
   rw [List.getElem?_set_ne (by omega)]
   have e1:(o.drop (q+i+1))[0]?=o[q+i+1]?:=by rw [List.getElem?_drop]
   rw [← e1,h4,List.getElem?_replicate,if_pos (by omega)]
  refine ⟨by omega,by omega,_,rfl,hia,?_,?_,?_,?_,?_,?_⟩
  ·show wa .i64 (i:Int) 1=_
   rw [wa_i (by omega) (by omega)]; rfl
  ·exact lw_set (lw_set h1 ⟨by omega,by omega⟩) ⟨k3,by omega⟩
  ·show ((o.set (q+i) (y+x*2 ^ s % B)).set (q+i+1) _).length=_
   rw [List.length_set,hl1]
  ·show lv ((o.set (q+i) (y+x*2 ^ s % B)).set (q+i+1) (x*2 ^ s / B))=_
   have pq:pw (q+i)=pw q*pw i:=pw_add q i
   have pq1:pw (q+i+1)=pw q*pw i*B:=by show B*pw (q+i)=_; rw [pq,Int.mul_comm]
   rw [lv_set hz,lv_set hy,h3,take_succ hx,pq,pq1]
   have e3:B*(x*2 ^ s / B)+x*2 ^ s % B=x*2 ^ s:=hd
   generalize x*2 ^ s / B=Q at*
   generalize x*2 ^ s % B=r at*
   have e4:pw q*((lv (a.take i)+pw i*x)*2 ^ s)=pw q*(lv (a.take i)*2 ^ s)+pw q*pw i*(x*2 ^ s):=by grind
   rw [e4,← e3]
   grind
  ·show ((o.set (q+i) (y+x*2 ^ s % B)).set (q+i+1) (x*2 ^ s / B)).drop (q+(i+1)+1)=_
   rw [List.drop_set_of_lt (by omega),List.drop_set_of_lt (by omega),show q+(i+1)+1=q+i+1+1 by omega,← List.drop_drop,h4,List.drop_replicate]
   congr 1
  ·intro z hz2
   have hz2:((o.set (q+i) (y+x*2 ^ s % B)).set (q+i+1) (x*2 ^ s / B))[q+i+1]?=some z:=hz2
   rw [List.getElem?_set_self (by omega)] at hz2
   obtain rfl:=Option.some.inj hz2
   exact k4
 ·rintro o ⟨h1,h2,h3⟩
  rw [trim_ok h1 (by omega),obs]
  exact ⟨_,rfl,trimL_lw h1,trimL_tm _,by rw [trimL_lv,h3]; grind⟩
theorem up_ok {a:List Int} (ha:LW a) (hn:a.length≤1000) (hne:a≠[]) {s:Nat} (hs:s < 32):Ret (m_dk a (s:Int)) (fun u=>LW u∧Tm u∧lv u=lv a*2 ^ s):=by
 have:=upG_ok ha hn hne (q:=0) (by omega) hs
 rw [show 32*0+s=s by omega] at this
 exact this.mono fun u hu=>⟨hu.1,hu.2.1,by rw [hu.2.2]; show _*(1*_)=_; rw [Int.one_mul]⟩
theorem shr_limb {s:Nat} (hs:s < 32) {x y E:Int} (hx:0≤x∧x < B) (hy:0≤y):(x+B*(y+B*E)) / 2 ^ s=((x+B*y) / 2 ^ s) % B+B*((y+B*E) / 2 ^ s):=by
 obtain ⟨p1,p2,p3,p4⟩:=two_pow hs
 have e:B=4294967296:=rfl
 generalize hP:(2:Int) ^ s=P at*
 generalize hQ:(2:Int) ^ (32 - s)=Q at*
 have hy1:=Int.mul_ediv_add_emod y P
 have r0:=Int.emod_nonneg y (show P≠0 by omega)
 have r1:=Int.emod_lt_of_pos y p1
 generalize hk:y / P=k at*
 generalize hr:y % P=r at*
 have w0:0≤B*r:=Int.mul_nonneg (by omega) r0
 have hA:(y+B*E) / P=k+Q*E:=by
  have e1:y+B*E=r+P*(k+Q*E):=by rw [← hy1,← p3]; grind
  rw [e1,Int.add_mul_ediv_left _ _ (by omega),Int.ediv_eq_zero_of_lt r0 r1]; omega
 have hBq:(x+B*y) / P=(x+B*r) / P+B*k:=by
  have e1:x+B*y=(x+B*r)+P*(B*k):=by rw [← hy1]; grind
  rw [e1,Int.add_mul_ediv_left _ _ (by omega)]
 have hC:(x+B*(y+B*E)) / P=(x+B*r) / P+B*(k+Q*E):=by
  have e1:x+B*(y+B*E)=(x+B*r)+P*(B*(k+Q*E)):=by rw [← hy1]; have:B*E=P*(Q*E):=(by rw [← p3]; grind); rw [this]; grind
  rw [e1,Int.add_mul_ediv_left _ _ (by omega)]
 have q0:0≤(x+B*r) / P:=Int.ediv_nonneg (by omega) (by omega)
 have q1:(x+B*r) / P < B:=by
  refine Int.ediv_lt_of_lt_mul (by omega) ?_
  have:B*(r+1)≤B*P:=Int.mul_le_mul_of_nonneg_left (by omega) (by omega)
  rw [Int.mul_add,Int.mul_one] at this
  omega
 rw [hA,hBq,hC,Int.add_mul_emod_self_left,Int.emod_eq_of_lt q0 q1]
theorem lv_drop {l:List Int} {i:Nat} {x:Int} (hx:l[i]?=some x):lv (l.drop i)=x+B*lv (l.drop (i+1)):=by
 obtain ⟨h1,h2⟩:=List.getElem?_eq_some_iff.1 hx
 rw [List.drop_eq_getElem_cons h1,h2]; rfl
theorem LW.drop {l:List Int} (h:LW l) (k:Nat):LW (l.drop k):=fun x hx=>h x (List.mem_of_mem_drop hx)
theorem take_drop (l:List Int) {k:Nat} (h:k≤l.length):lv l=lv (l.take k)+pw k*lv (l.drop k):=by
 have h1:lv l=lv (l.take k++l.drop k):=by rw [List.take_append_drop]
 rw [h1,lv_app,List.length_take,Nat.min_eq_left h]
theorem has_any {l:List Int} (hl:l.length≤100000):∃ b,m_do l=some b∧((∀ x,x∈l→x=0)→b=false):=by
 have h1:Ret (loop (m_dm l) 0) (fun o=>(∀ x,x∈l→x=0)→o=.inl ()):=by
  refine ret_loop l.length (fun k (i:Int)=>i=(k:Int)) rfl ?_ (by omega)
  rintro k _ hk rfl
  unfold m_dm
  rw [ret_if]
  refine ⟨fun hlt=>?_,fun _=>⟨_,rfl,fun _=>rfl⟩⟩
  rw [ret_bind,ret_get]
  refine ⟨by omega,by omega,fun x hx=>?_⟩
  have e1:m_dl x=some (!(decide (x=0))):=rfl
  rw [e1,obs,ret_if]
  refine ⟨fun h2=>⟨_,rfl,fun h3=>?_⟩,fun _=>⟨_,rfl,by omega,by rw [wa_i (by omega) (by omega)]; rfl⟩⟩
  have:=h3 x (mem_get hx)
  simp [this] at h2
 obtain ⟨o,h2,h3⟩:=h1
 unfold m_do m_dn
 rw [h2,obs]
 cases o with
 | inl u=>exact ⟨_,rfl,fun _=>rfl⟩
 | inr i=>exact ⟨_,rfl,fun h=>by cases h3 h⟩
theorem low_zero {l:List Int} (hl:LW l) (h:lv l=0):∀ x,x∈l→x=0:=by
 induction l with
 | nil=>intro x hx; cases hx
 | cons y l ih=>
  have h1:y+B*lv l=0:=h
  have hy:=hl y (List.mem_cons_self ..)
  have hl':LW l:=fun x hx=>hl x (List.mem_cons_of_mem _ hx)
  have h2:=lv_nn hl'
  have h3:lv l=0:=by unfold B at *; omega
  intro x hx
  rcases List.mem_cons.1 hx with rfl | hx
  ·rw [h3] at h1; omega
  ·exact ih hl' h3 x hx
theorem dv_low {a:List Int} (ha:LW a) {q s:Nat} (hs:s < 32) (hq:q < a.length) (h:lv a % (pw q*2 ^ s)=0):(∀ x,x∈a.take q→x=0)∧∀ x,a[q]?=some x→x % 2 ^ s=0:=by
 obtain ⟨p1,p2,p3,p4⟩:=two_pow hs
 obtain ⟨k,hk⟩:=Int.dvd_of_emod_eq_zero h
 have h1:=take_drop a (k:=q) (by omega)
 have hb:=lv_lt (LW.take ha q)
 rw [List.length_take,Nat.min_eq_left (by omega)] at hb
 have hnn:=lv_nn (LW.take ha q)
 have e1:lv (a.take q)=pw q*(2 ^ s*k - lv (a.drop q)):=by
  have:pw q*2 ^ s*k=pw q*(2 ^ s*k):=Int.mul_assoc ..
  rw [Int.mul_sub,← this]; omega
 have e2:lv (a.take q)=0:=by
  have p:=pw_pos q
  rcases Int.lt_trichotomy (2 ^ s*k - lv (a.drop q)) 0 with hc | hc | hc
  ·have:=Int.mul_neg_of_pos_of_neg p hc; omega
  ·rw [e1,hc,Int.mul_zero]
  ·have:pw q*1≤pw q*(2 ^ s*k - lv (a.drop q)):=Int.mul_le_mul_of_nonneg_left (by omega) (by omega)
   omega
 refine ⟨low_zero (LW.take ha q) e2,fun x hx=>?_⟩
 rw [e2] at e1
 have e3:2 ^ s*k - lv (a.drop q)=0:=by
  rcases Int.mul_eq_zero.1 e1.symm with h | h
  ·have:=pw_pos q; omega
  ·exact h
 rw [lv_drop hx] at e3
 have e4:x=2 ^ s*(k - 2 ^ (32 - s)*lv (a.drop (q+1))):=by
  have:B*lv (a.drop (q+1))=2 ^ s*(2 ^ (32 - s)*lv (a.drop (q+1))):=by rw [← p3]; grind
  rw [Int.mul_sub,← this]; omega
 rw [e4]
 exact Int.mul_emod_right _ _
theorem wand_pow {x:Int} {s:Nat} (hs:s < 32) (hx:0≤x∧x < B) (h:x % 2 ^ s=0):wand .u32 x (ws .u32 (2 ^ s) 1)=0:=by
 obtain ⟨p1,p2,p3,p4⟩:=two_pow hs
 have e1:ws .u32 (2 ^ s) 1=((2 ^ s - 1:Nat):Int):=by
  unfold ws
  rw [IntKind.wrap_u32]
  have e2:((2 ^ s:Nat):Int)=(2:Int) ^ s:=by push_cast; rfl
  have:0 < 2 ^ s:=Nat.two_pow_pos s
  omega
 have hX:((x.toNat:Nat):Int)=x:=Int.toNat_of_nonneg hx.1
 have h0:x.toNat % 2 ^ s=0:=by
  have:((x.toNat % 2 ^ s:Nat):Int)=0:=by push_cast; rw [hX]; exact h
  omega
 have hlt:2 ^ s - 1 < 4294967296:=by
  have:(2:Nat) ^ s≤2 ^ 31:=Nat.pow_le_pow_right (by omega) (by omega)
  omega
 rw [e1]
 unfold wand
 show IntKind.u32.wrap ((BitVec.ofInt 32 x &&& BitVec.ofInt 32 ((2 ^ s - 1:Nat):Int)).toNat:Int)=_
 rw [BitVec.toNat_and,bv32 hx,bv32 ⟨by omega,by omega⟩,Int.toNat_natCast,Nat.and_two_pow_sub_one_eq_mod,h0]
 rfl
theorem sh_one {s:Nat} (hs:s < 32):wshl .u32 1 (s:Int)=some (2 ^ s):=by
 obtain ⟨p1,p2,p3,p4⟩:=two_pow hs
 unfold wshl
 rw [if_neg (by omega),Int.toNat_natCast]
 show some (IntKind.u32.wrap (1*2 ^ min s 32))=_
 rw [Nat.min_eq_left (by omega),Int.one_mul,IntKind.wrap_u32]
 congr 1
 omega
theorem div_lim {a:List Int} (ha:LW a) {q:Nat} (hq:q≤a.length) (s:Nat):lv a / (pw q*2 ^ s)=lv (a.drop q) / 2 ^ s:=by
 have h1:=take_drop a hq
 have hb:=lv_lt (LW.take ha q)
 rw [List.length_take,Nat.min_eq_left hq] at hb
 have hnn:=lv_nn (LW.take ha q)
 rw [← Int.ediv_ediv_of_nonneg (Int.le_of_lt (pw_pos q)),h1,Int.add_mul_ediv_left _ _ (by have:=pw_pos q; omega),Int.ediv_eq_zero_of_lt hnn hb,Int.zero_add]
theorem downG_ok {a:List Int} (ha:LW a) (hn:a.length≤1000) {q s:Nat} (hq1:q≤1000000) (hs:s < 32):Ret (m_dr a ((32*q+s:Nat):Int)) (fun r=>LW r.1∧Tm r.1∧lv r.1=lv a / (pw q*2 ^ s)∧(Tm a→lv a % (pw q*2 ^ s)=0→r.2=false)):=by
 have e:B=4294967296:=rfl
 obtain ⟨hq,hr⟩:=any_shift hq1 hs
 obtain ⟨p1,p2,p3,p4⟩:=two_pow hs
 have ppos:=pw_pos q
 unfold m_dr
 rw [hq,ret_if]
 refine ⟨fun h0=>?_,fun h0=>?_⟩
 ·have hb:=lv_lt ha
  have hle:pw a.length≤pw q:=pw_mono (by omega)
  have hle2:pw q*1≤pw q*2 ^ s:=Int.mul_le_mul_of_nonneg_left (by omega) (by omega)
  have hz:lv a / (pw q*2 ^ s)=0:=Int.ediv_eq_zero_of_lt (lv_nn ha) (by omega)
  refine ⟨_,rfl,by intro x hx; simp at hx,tm_nil,hz.symm,fun ht hm=>?_⟩
  rw [Int.emod_eq_of_lt (lv_nn ha) (by omega)] at hm
  have:=tm_inj ha (b:=[]) (by intro x hx; cases hx) ht tm_nil hm
  subst this
  rfl
 have hqa:q < a.length:=by omega
 have hsl:sli a 0 (q:Int)=some (a.take q):=by unfold sli subL; rw [if_pos ⟨by omega,by omega,by omega⟩]; simp
 obtain ⟨b1,hb1,hb2⟩:=has_any (l:=a.take q) (by rw [List.length_take]; omega)
 obtain ⟨x0,hx0⟩:∃ x0,a[q]?=some x0:=⟨a[q]'hqa,List.getElem?_eq_getElem hqa⟩
 have hx0B:=LW.get ha hx0
 have hg0:getI a (q:Int)=some x0:=Ret.eq (by rw [ret_get]; exact ⟨by omega,by omega,fun x hx=>by rw [Int.toNat_natCast] at hx; exact Option.some.inj (hx.symm.trans hx0)⟩)
 have hlost:∃ b2,(if b1=true then some true else (getI a (q:Int)).bind fun x12=>(wshl .u32 1 (wc .u64 (wrc ((32*q+s:Nat):Int) 32))).bind fun x13=>some (!(decide ((wand .u32 x12 (ws .u32 x13 1))=0))))=some b2∧(lv a % (pw q*2 ^ s)=0→b2=false):=by
  split
  ·rename_i h1
   refine ⟨_,rfl,fun hm=>?_⟩
   rw [hb2 (dv_low ha hs hqa hm).1] at h1; cases h1
  ·rw [hg0,obs,hr,wc_u64_in (x:=(s:Int)) ⟨by omega,by omega⟩,sh_one hs,obs]
   refine ⟨_,rfl,fun hm=>?_⟩
   rw [wand_pow hs hx0B ((dv_low ha hs hqa hm).2 x0 hx0)]; rfl
 obtain ⟨b2,hb3,hb4⟩:=hlost
 rw [hsl,obs,hb1,obs,hb3,obs,ret_bind,ws_i (by omega) (by omega),ret_mkL]
 refine ⟨by omega,by omega,?_⟩
 rw [show ((a.length:Int) - (q:Int)).toNat=a.length - q by omega,ret_bind]
 have hdv:=div_lim ha (q:=q) (by omega) s
 refine (ret_loop (Post:=fun o:List Int=>LW o∧o.length=a.length - q∧lv o=lv a / (pw q*2 ^ s)) (a.length - q) (fun i (t:List Int×Int)=>t.2=(i:Int)∧LW t.1∧t.1.length=a.length - q∧lv (t.1.take i)+pw i*(lv (a.drop (q+i)) / 2 ^ s)=lv a / (pw q*2 ^ s)) ⟨rfl,lw_zeros _,List.length_replicate ..,by rw [hdv]; simp [lv,pw]⟩ ?_ (by omega)).mono ?_
 ·rintro i ⟨o,_⟩ hi ⟨rfl,h1,h2,h3⟩
  simp only at h1 h2 h3
  unfold m_dq
  simp only
  rw [List.length_replicate,ret_if]
  refine ⟨fun hlt=>?_,fun hge=>⟨_,rfl,h1,h2,?_⟩⟩
  ·have hia:q+i < a.length:=by omega
   have eqi:wa .i64 (q:Int) (i:Int)=((q+i:Nat):Int):=by rw [wa_i (by omega) (by omega)]; omega
   have eqj:wa .i64 ((q+i:Nat):Int) 1=((q+i+1:Nat):Int):=by rw [wa_i (by omega) (by omega)]; omega
   rw [hq,eqi,eqj,ret_bind,ret_get]
   refine ⟨by omega,by omega,fun x hx=>?_⟩
   rw [Int.toNat_natCast] at hx
   have hxB:=LW.get ha hx
   have key:∀ y E:Int,0≤y→y < B→0≤E→lv (a.drop (q+i+1))=y+B*E→Ret (m_dp ((32*q+s:Nat):Int) o (i:Int) (x+B*y)) (VQ (fun t':List Int×Int=>i < a.length - q∧t'.2=((i+1:Nat):Int)∧LW t'.1∧t'.1.length=a.length - q∧lv (t'.1.take (i+1))+pw (i+1)*(lv (a.drop (q+(i+1))) / 2 ^ s)=lv a / (pw q*2 ^ s)) (fun o:List Int=>LW o∧o.length=a.length - q∧lv o=lv a / (pw q*2 ^ s))):=by
    intro y E y0 y1 E0 hE
    unfold m_dp
    have t0:0≤x+B*y:=by have:=Int.mul_nonneg (show 0≤B by omega) y0; omega
    have t1:x+B*y < 18446744073709551616:=by rw [e]; omega
    have hsh:wshr .u64 (x+B*y) (wc .u64 (wrc ((32*q+s:Nat):Int) 32))=some ((x+B*y) / 2 ^ s):=by
     rw [hr,wc_u64_in (x:=(s:Int)) ⟨by omega,by omega⟩]
     unfold wshr
     rw [if_neg (by omega),Int.toNat_natCast]
     show some (Int.fdiv _ (2 ^ min s 64))=_
     rw [Nat.min_eq_left (by omega),Int.fdiv_eq_ediv_of_nonneg _ (by omega)]
    have d0:0≤(x+B*y) / 2 ^ s:=Int.ediv_nonneg t0 (by omega)
    have d1:(x+B*y) / 2 ^ s≤x+B*y:=Int.ediv_le_self _ t0
    have hm:=Int.emod_nonneg ((x+B*y) / 2 ^ s) (show B≠0 by omega)
    have hm2:=Int.emod_lt_of_pos ((x+B*y) / 2 ^ s) (show 0 < B by omega)
    rw [hsh,obs,wand_low ⟨d0,by omega⟩,wc_u32_in ⟨hm,hm2⟩,ret_bind,ret_set,Int.toNat_natCast]
    refine ⟨by omega,by omega,_,rfl,by omega,by show wa .i64 (i:Int) 1=_; rw [wa_i (by omega) (by omega)]; rfl,lw_set h1 ⟨hm,hm2⟩,by show (o.set i _).length=_; rw [List.length_set,h2],?_⟩
    show lv ((o.set i ((x+B*y) / 2 ^ s % B)).take (i+1))+pw (i+1)*(lv (a.drop (q+i+1)) / 2 ^ s)=_
    have hs2:(o.set i ((x+B*y) / 2 ^ s % B))[i]?=some ((x+B*y) / 2 ^ s % B):=by rw [List.getElem?_set_self]; omega
    rw [take_succ hs2,List.take_set,List.set_eq_of_length_le (by rw [List.length_take]; omega),← h3,lv_drop hx,hE,shr_limb hs hxB y0]
    simp only [pw]
    generalize (x+B*y) / 2 ^ s % B=u
    generalize (y+B*E) / 2 ^ s=v
    grind
   have hcx:wc .u64 x=x:=wc_u64_in ⟨hxB.1,by omega⟩
   rw [ret_if]
   refine ⟨fun hl2=>?_,fun hl2=>?_⟩
   ·rw [ret_bind,ret_get]
    refine ⟨by omega,by omega,fun y hy=>?_⟩
    rw [Int.toNat_natCast] at hy
    have hyB:=LW.get ha hy
    have hor:wor .u64 (wc .u64 x) (wslc .u64 (wc .u64 y) 32)=x+B*y:=by
     rw [hcx,wc_u64_in (x:=y) ⟨hyB.1,by omega⟩,wslc32 hyB]
     have:wor .u64 x (y*B)=wor .u64 (y*B) x:=by unfold wor; rw [BitVec.or_comm]
     rw [this,wor_hi hyB hxB,Int.mul_comm]; omega
    rw [hor]
    exact key y (lv (a.drop (q+i+1+1))) hyB.1 hyB.2 (lv_nn (LW.drop ha _)) (lv_drop hy)
   ·have hE:lv (a.drop (q+i+1))=0:=by rw [List.drop_of_length_le (by omega)]; rfl
    have:=key 0 0 (by omega) (by omega) (by omega) (by rw [hE]; rfl)
    rw [Int.mul_zero,Int.add_zero] at this
    rw [hcx]
    exact this
  ·have ei:i=a.length - q:=by omega
   subst ei
   rw [show q+(a.length - q)=a.length by omega,List.drop_length,take_all (by omega)] at h3
   show lv o=_
   rw [← h3]
   show lv o=lv o+pw (a.length - q)*(0 / 2 ^ s)
   rw [Int.zero_ediv]; omega
 ·rintro o ⟨h1,h2,h3⟩
  rw [trim_ok h1 (by omega),obs]
  exact ⟨_,rfl,trimL_lw h1,trimL_tm _,by rw [trimL_lv]; exact h3,fun _ hm=>hb4 hm⟩
theorem down_ok {a:List Int} (ha:LW a) (hn:a.length≤1000) {s:Nat} (hs:s < 32):Ret (m_dr a (s:Int)) (fun r=>LW r.1∧Tm r.1∧lv r.1=lv a / 2 ^ s):=by
 have:=downG_ok ha hn (q:=0) (by omega) hs
 rw [show 32*0+s=s by omega] at this
 exact this.mono fun u hu=>⟨hu.1,hu.2.1,by rw [hu.2.2.1]; show _ / (1*_)=_; rw [Int.one_mul]⟩
theorem ret_getW {A W Z:List Int} {lo hi i:Int} (hlo:lo=(A.length:Int)) (hhi:hi=(A.length:Int)+W.length) {Q:Int→Prop}:Ret (getW (A++W++Z) lo hi i) Q=(0≤i∧i < W.length∧∀ x,W[i.toNat]?=some x→Q x):=by
 subst hlo hhi
 unfold getW
 by_cases h:0≤i∧i < W.length
 ·rw [if_pos ⟨by omega,h.1,by omega,by simp only [List.length_append]; omega⟩,ret_get]
  have e1:(A++W++Z)[((A.length:Int)+i).toNat]?=W[i.toNat]?:=by
   rw [show ((A.length:Int)+i).toNat=A.length+i.toNat by omega,List.append_assoc,List.getElem?_append_right (by omega),Nat.add_sub_cancel_left,List.getElem?_append_left (by omega)]
  rw [e1]
  apply propext
  constructor
  ·rintro ⟨_,_,h3⟩; exact ⟨h.1,h.2,h3⟩
  ·rintro ⟨_,_,h3⟩; exact ⟨by omega,by simp only [List.length_append]; omega,h3⟩
 ·rw [if_neg (by rintro ⟨_,h1,h2,_⟩; exact h ⟨h1,by omega⟩),ret_none]
  apply propext
  exact ⟨False.elim,fun ⟨h1,h2,_⟩=>h ⟨h1,h2⟩⟩
theorem ret_setW {A W Z:List Int} {lo hi i z:Int} (hlo:lo=(A.length:Int)) (hhi:hi=(A.length:Int)+W.length) {Q:List Int→Prop}:Ret (setW (A++W++Z) lo hi i z) Q=(0≤i∧i < W.length∧Q (A++W.set i.toNat z++Z)):=by
 subst hlo hhi
 unfold setW
 by_cases h:0≤i∧i < W.length
 ·rw [if_pos ⟨by omega,h.1,by omega,by simp only [List.length_append]; omega⟩,ret_set]
  have e1:(A++W++Z).set ((A.length:Int)+i).toNat z=A++W.set i.toNat z++Z:=by
   rw [show ((A.length:Int)+i).toNat=A.length+i.toNat by omega,List.append_assoc,List.set_append_right _ _ (by omega),Nat.add_sub_cancel_left,List.set_append_left _ _ (by omega),List.append_assoc]
  rw [e1]
  apply propext
  constructor
  ·rintro ⟨_,_,h3⟩; exact ⟨h.1,h.2,h3⟩
  ·rintro ⟨_,_,h3⟩; exact ⟨by omega,by simp only [List.length_append]; omega,h3⟩
 ·rw [if_neg (by rintro ⟨_,h1,h2,_⟩; exact h ⟨h1,by omega⟩),ret_none]
  apply propext
  exact ⟨False.elim,fun ⟨h1,h2,_⟩=>h ⟨h1,h2⟩⟩
end Km
namespace Km
open Sx Go M Vc Lm
structure KD (U V S us vs w1 w2 wt v2 vt Q:Int):Prop where
 hS:0 < S
 hv:V=(vt*B+v2)*S+vs
 hvs:0≤vs∧vs < S
 hv2:0≤v2∧v2 < B
 hvt:2147483648≤vt∧vt < B
 hu:U=((wt*B+w1)*B+w2)*S+us
 hus:0≤us∧us < S
 hw2:0≤w2∧w2 < B
 hw1:0≤w1∧w1 < B
 hwt:0≤wt∧wt < B
 hlt:U < V*B
 hq:Qt U V Q
section
variable {U V S us vs w1 w2 wt v2 vt Q:Int}
theorem KD.vpos (h:KD U V S us vs w1 w2 wt v2 vt Q):S*B≤V:=by
 have e:B=4294967296:=rfl
 have h1:=h.hv
 have hS:=h.hS
 have h2:=h.hvt
 have h3:=h.hv2
 have h4:1*B≤vt*B:=Int.mul_le_mul_of_nonneg_right (by omega) (by omega)
 have h5:B*S≤(vt*B+v2)*S:=Int.mul_le_mul_of_nonneg_right (by omega) (by omega)
 have h6:=h.hvs
 rw [Int.mul_comm S B]; omega
theorem KD.v0 (h:KD U V S us vs w1 w2 wt v2 vt Q):0 < V:=by
 have h1:=h.vpos
 have h2:0 < S*B:=Int.mul_pos h.hS (by unfold B; omega)
 omega
theorem KD.u0 (h:KD U V S us vs w1 w2 wt v2 vt Q):0≤U:=by
 have h1:=h.hwt.1
 have h2:=h.hw1.1
 have h3:=h.hw2.1
 have h4:0≤wt*B:=Int.mul_nonneg h1 (by unfold B; omega)
 have h5:0≤(wt*B+w1)*B:=Int.mul_nonneg (by omega) (by unfold B; omega)
 have h6:0≤((wt*B+w1)*B+w2)*S:=Int.mul_nonneg (by omega) (by have:=h.hS; omega)
 have:=h.hus.1
 rw [h.hu]; omega
theorem KD.q0 (h:KD U V S us vs w1 w2 wt v2 vt Q):0≤Q:=h.hq.nn h.v0 h.u0
theorem KD.qB (h:KD U V S us vs w1 w2 wt v2 vt Q):Q < B:=h.hq.lt_of h.v0 (by rw [Int.mul_comm]; exact h.hlt)
theorem KD.top (h:KD U V S us vs w1 w2 wt v2 vt Q):wt*B+w1 < (vt+1)*B:=by
 have e:B=4294967296:=rfl
 refine Classical.byContradiction fun hc=>?_
 have hS:=h.hS
 have h1:((vt+1)*B)*B*S≤(wt*B+w1)*B*S:=Int.mul_le_mul_of_nonneg_right (Int.mul_le_mul_of_nonneg_right (by omega) (by omega)) (by omega)
 have h2:0≤w2*S:=Int.mul_nonneg h.hw2.1 (by omega)
 have h3:U=(wt*B+w1)*B*S+w2*S+us:=by rw [h.hu]; grind
 have h4:(v2+1)*S≤B*S:=Int.mul_le_mul_of_nonneg_right (by have:=h.hv2; omega) (by omega)
 have h5:V*B=vt*B*S*B+(v2*S+vs)*B:=by rw [h.hv]; grind
 have h6:(v2*S+vs)*B≤(B*S)*B:=Int.mul_le_mul_of_nonneg_right (by have:=h.hvs; rw [Int.add_mul] at h4; omega) (by omega)
 have h7:((vt+1)*B)*B*S=vt*B*S*B+(B*S)*B:=by grind
 have:=h.hlt
 have:=h.hus.1
 omega
theorem KD.ge (h:KD U V S us vs w1 w2 wt v2 vt Q):Q*vt≤wt*B+w1:=by
 have hS:=h.hS
 have hSB:0 < S*B:=Int.mul_pos hS (by unfold B; omega)
 refine guess_ge (P:=S*B) (ur:=w2*S+us) (vr:=v2*S+vs) h.hq hSB (by rw [h.hu]; grind) ?_ (by rw [h.hv]; grind) ?_ (by have:=h.hvt; omega) h.q0
 ·have h1:(w2+1)*S≤B*S:=Int.mul_le_mul_of_nonneg_right (by have:=h.hw2; omega) (by omega)
  rw [Int.add_mul] at h1
  have:=h.hus
  rw [Int.mul_comm S B]; omega
 ·have:=Int.mul_nonneg h.hv2.1 (show 0≤S by omega)
  have:=h.hvs
  omega
theorem KD.gt (h:KD U V S us vs w1 w2 wt v2 vt Q) {g r:Int} (hg:g*vt+r=wt*B+w1) (g0:0≤g) (hc:r*B+w2 < g*v2):Q < g:=by
 refine guess_gt (S:=S) (us:=us) (vs:=vs) h.hq h.hS h.hu h.hus.2 h.hv h.hvs.1 ?_ g0 h.v0
 have e1:g*(vt*B+v2)=(g*vt+r)*B - r*B+g*v2:=by grind
 rw [e1,hg]; omega
theorem KD.le (h:KD U V S us vs w1 w2 wt v2 vt Q) {g r:Int} (hg:g*vt+r=wt*B+w1) (g0:0≤g) (gB:g < B) (hc:g*v2≤r*B+w2):g≤Q+1:=by
 refine guess_le (S:=S) (us:=us) (vs:=vs) h.hq h.hS h.hu h.hus.1 h.hv h.hvs.2 h.hvs.1 ?_ g0 ?_ h.v0
 ·have e1:g*(vt*B+v2)=(g*vt+r)*B - r*B+g*v2:=by grind
  rw [e1,hg]; omega
 ·have h1:g*S≤B*S:=Int.mul_le_mul_of_nonneg_right (by omega) (by have:=h.hS; omega)
  have:=h.vpos
  rw [Int.mul_comm S B] at this; omega
end
theorem ret_loopG {τ ρ:Type} {step:τ→Option (τ⊕ρ)} {Post:ρ→Prop} (I:τ→Prop) (μ:τ→Nat) {s:τ} (h0:I s) (hμ:μ s < 1099511627776)
  (h:∀ t,I t→Ret (step t) (VQ (fun t'=>I t'∧μ t' < μ t) Post)):Ret (loop step s) Post:=by
 have key:∀ (fuel:Nat) (t:τ),μ t < fuel→I t→Ret (loopN step fuel t) Post:=by
  intro fuel
  induction fuel with
  | zero=>intro t h1; omega
  | succ n ih=>
   intro t h1 h2
   obtain ⟨x,hx,h3⟩:=h t h2
   cases x with
   | inr r=>exact ⟨r,by simp [loopN,hx],h3⟩
   | inl t'=>
    obtain ⟨h4,h5⟩:=h3
    obtain ⟨y,hy,hp⟩:=ih t' (by omega) h4
    exact ⟨y,by simp [loopN,hx,hy],hp⟩
 exact key FUEL s (Nat.lt_of_lt_of_le hμ (by unfold FUEL; omega)) h0
theorem get_of {l:List Int} {k:Nat} (h:k < l.length):∃ x,l[k]?=some x:=⟨l[k],List.getElem?_eq_getElem h⟩
theorem ret_at {l:List Int} {k:Nat} {x:Int} (hx:l[k]?=some x) {i:Int} (hi:i=(k:Int)):getI l i=some x:=by
 subst hi
 have:=(List.getElem?_eq_some_iff.1 hx).1
 exact Ret.eq (by rw [ret_get]; exact ⟨by omega,by omega,fun y hy=>by rw [Int.toNat_natCast] at hy; exact Option.some.inj (hy.symm.trans hx)⟩)
theorem win_at {A W Z:List Int} {k:Nat} {x:Int} (hx:W[k]?=some x) {lo hi i:Int} (hlo:lo=(A.length:Int)) (hhi:hi=(A.length:Int)+W.length) (hi':i=(k:Int)):getW (A++W++Z) lo hi i=some x:=by
 subst hi'
 have:=(List.getElem?_eq_some_iff.1 hx).1
 exact Ret.eq (by rw [ret_getW hlo hhi]; exact ⟨by omega,by omega,fun y hy=>by rw [Int.toNat_natCast] at hy; exact Option.some.inj (hy.symm.trans hx)⟩)
theorem win_set {A W Z:List Int} {k:Nat} (hk:k < W.length) {z lo hi i:Int} (hlo:lo=(A.length:Int)) (hhi:hi=(A.length:Int)+W.length) (hi':i=(k:Int)):setW (A++W++Z) lo hi i z=some (A++W.set k z++Z):=by
 subst hi'
 exact Ret.eq (by rw [ret_setW hlo hhi,Int.toNat_natCast]; exact ⟨by omega,by omega,rfl⟩)
theorem set_take {l:List Int} {k:Nat} {y:Int} (hk:k < l.length):lv ((l.set k y).take (k+1))=lv (l.take k)+pw k*y:=by
 have hs:(l.set k y)[k]?=some y:=by rw [List.getElem?_set_self]; exact hk
 rw [take_succ hs,List.take_set,List.set_eq_of_length_le (by rw [List.length_take]; omega)]
theorem drop_get {l m:List Int} {k:Nat} (h:l.drop k=m.drop k):l[k]?=m[k]?:=by
 have e1:(l.drop k)[0]?=l[k]?:=by rw [List.getElem?_drop]; rfl
 have e2:(m.drop k)[0]?=m[k]?:=by rw [List.getElem?_drop]; rfl
 rw [← e1,← e2,h]
theorem set_drop {l m:List Int} {k:Nat} {y:Int} (h:l.drop k=m.drop k):(l.set k y).drop (k+1)=m.drop (k+1):=by
 rw [List.drop_set_of_lt (by omega),← List.drop_drop,h,List.drop_drop]
section
variable {A W Z v:List Int} {lo hi:Int}
theorem guess_ok {U V S us vs w1 w2 wt v2 vt Q:Int} (hK:KD U V S us vs w1 w2 wt v2 vt Q) {m:Nat} (hv:v.length=m+2) (hm:m≤10000) (g2:v[m]?=some v2) (gt:v[m+1]?=some vt) (k2:W[m]?=some w2) (hlo:lo=(A.length:Int)) (hhi:hi=(A.length:Int)+W.length):
  Ret (loop (m_fa v (A++W++Z) lo hi) ((wt*B+w1) / vt,(wt*B+w1) % vt)) (fun g=>Q≤g∧g≤Q+1∧g < B):=by
 have e:B=4294967296:=rfl
 have hvt:=hK.hvt
 have hwt:=hK.hwt
 have hw1:=hK.hw1
 have hw2:=hK.hw2
 have hv2:=hK.hv2
 have htop:=hK.top
 have hQ0:=hK.q0
 have hQB:=hK.qB
 have hge:=hK.ge
 have t0:0≤wt*B+w1:=by have:=Int.mul_nonneg hwt.1 (show 0≤B by omega); omega
 have hd:=Int.mul_ediv_add_emod (wt*B+w1) vt
 have r0:=Int.emod_nonneg (wt*B+w1) (show vt≠0 by omega)
 have r1:=Int.emod_lt_of_pos (wt*B+w1) (show 0 < vt by omega)
 have hq0:Q≤(wt*B+w1) / vt:=(Int.le_ediv_iff_mul_le (by omega)).2 hge
 have hq1:(wt*B+w1) / vt≤wt*B+w1:=Int.ediv_le_self _ t0
 have hq2:(wt*B+w1) / vt < 2*B:=by
  refine Int.ediv_lt_of_lt_mul (by omega) ?_
  have:(vt+1)*B≤(2*vt)*B:=Int.mul_le_mul_of_nonneg_right (by omega) (by omega)
  have e9:2*B*vt=2*vt*B:=by grind
  omega
 refine ret_loopG (fun (s:Int×Int)=>s.1*vt+s.2=wt*B+w1∧(0≤s.2∧s.2 < B)∧Q≤s.1∧s.1 < 2*B) (fun s=>s.1.toNat) ⟨by show (wt*B+w1) / vt*vt+(wt*B+w1) % vt=_; rw [Int.mul_comm]; exact hd,⟨r0,by show (wt*B+w1) % vt < B; omega⟩,hq0,hq2⟩ (by show ((wt*B+w1) / vt).toNat < _; omega) ?_
 rintro ⟨g,r⟩ ⟨hg,hr,hQg,hg2⟩
 simp only at hg hr hQg hg2
 unfold m_fa
 simp only
 have hn2:ws .i64 (v.length:Int) 2=(m:Int):=by rw [hv,ws_i (by omega) (by omega)]; omega
 have hn1:ws .i64 (v.length:Int) 1=((m+1:Nat):Int):=by rw [hv,ws_i (by omega) (by omega)]; omega
 rw [hn2,hn1,ret_at g2 rfl,win_at k2 hlo hhi rfl,ret_at gt rfl]
 have hcv:wc .u64 vt=vt:=wc_u64_in ⟨by omega,by omega⟩
 have down:Q < g→Ret ((if (4294967295:Int) < (wa .u64 r (wc .u64 vt)) then some (.inr (ws .u64 g 1)) else some (.inl (ws .u64 g 1,wa .u64 r (wc .u64 vt))):Option ((Int×Int)⊕Int))) (VQ (fun t':Int×Int=>(t'.1*vt+t'.2=wt*B+w1∧(0≤t'.2∧t'.2 < B)∧Q≤t'.1∧t'.1 < 2*B)∧t'.1.toNat < g.toNat) (fun g=>Q≤g∧g≤Q+1∧g < B)):=by
  intro hlt
  have hw:ws .u64 g 1=g - 1:=by rw [ws_u64]; omega
  have e1:(g - 1)*vt+(r+vt)=wt*B+w1:=by rw [← hg]; grind
  rw [hcv,wa_u64 ⟨by omega,by omega⟩,hw,ret_if]
  refine ⟨fun hb=>⟨_,rfl,by omega,?_,?_⟩,fun hb=>⟨_,rfl,⟨e1,⟨by omega,by omega⟩,by omega,by omega⟩,by omega⟩⟩
  ·have hgB:g - 1 < B:=by
    refine Classical.byContradiction fun hc=>?_
    have h1:B*vt≤(g - 1)*vt:=Int.mul_le_mul_of_nonneg_right (by omega) (by omega)
    have h2:(vt+1)*B=B*vt+B:=by grind
    omega
   refine hK.le e1 (by omega) hgB ?_
   have h1:(g - 1)*v2≤4294967295*4294967295:=Int.mul_le_mul (by omega) (by omega) hv2.1 (by omega)
   have h2:4294967296*4294967296≤(r+vt)*B:=Int.mul_le_mul (by omega) (by omega) (by omega) (by omega)
   omega
  ·refine Classical.byContradiction fun hc=>?_
   have h1:B*vt≤(g - 1)*vt:=Int.mul_le_mul_of_nonneg_right (by omega) (by omega)
   have h2:(vt+1)*B=B*vt+B:=by grind
   omega
 by_cases hgl:(4294967295:Int) < g
 ·rw [if_pos hgl,obs,if_pos rfl,obs]
  exact down (by omega)
 ·rw [if_neg hgl,obs,obs,obs]
  have hx1:wor .u64 (wslc .u64 r 32) (wc .u64 w2)=r*B+w2:=by
   rw [wslc32 hr,wc_u64_in (x:=w2) ⟨hw2.1,by omega⟩,wor_hi hr hw2]
  have hx2:wm .u64 g (wc .u64 v2)=g*v2:=by
   rw [wc_u64_in (x:=v2) ⟨hv2.1,by omega⟩]
   have h1:=Int.mul_nonneg (show 0≤g by omega) hv2.1
   have h2:g*v2≤4294967295*4294967295:=Int.mul_le_mul (by omega) (by omega) hv2.1 (by omega)
   exact wm_u64 ⟨h1,by omega⟩
  rw [hx1,hx2,ret_if]
  refine ⟨fun hc=>?_,fun hc=>?_⟩
  ·rw [obs]
   exact down (hK.gt hg (by omega) (by simpa using hc))
  ·have hc:¬ r*B+w2 < g*v2:=by simpa using hc
   exact ⟨_,rfl,hQg,hK.le hg (by omega) (by omega) (by omega),by omega⟩
theorem msub_ok {g:Int} (hg:0≤g∧g < B) (hW:LW W) (hv:LW v) (hl:W.length=v.length+1) (hm:v.length≤10000) (hlo:lo=(A.length:Int)) (hhi:hi=(A.length:Int)+W.length):
  Ret (loop (m_e9 v lo hi g) (A++W++Z,0,0,0)) (fun r=>∃ X c b,r=(A++X++Z,c,b)∧LW X∧X.length=W.length∧X.drop v.length=W.drop v.length∧(0≤c∧c < B)∧(b=0∨b=1)∧lv (X.take v.length)=lv (W.take v.length) - g*lv v+pw v.length*(c+b)):=by
 have e:B=4294967296:=rfl
 refine (ret_loop (Post:=fun r:List Int×Int×Int=>∃ X c b,r=(A++X++Z,c,b)∧LW X∧X.length=W.length∧X.drop v.length=W.drop v.length∧(0≤c∧c < B)∧(b=0∨b=1)∧lv (X.take v.length)=lv (W.take v.length) - g*lv v+pw v.length*(c+b)) v.length (fun k (s:List Int×Int×Int×Int)=>∃ X c b,s=(A++X++Z,c,b,(k:Int))∧LW X∧X.length=W.length∧X.drop k=W.drop k∧(0≤c∧c < B)∧(b=0∨b=1)∧lv (X.take k)=lv (W.take k) - g*lv (v.take k)+pw k*(c+b)) ⟨W,0,0,rfl,hW,rfl,rfl,⟨by omega,by omega⟩,.inl rfl,by simp [lv]⟩ ?_ (by omega))
 rintro k _ hk ⟨X,c,b,rfl,x1,x2,x3,x4,x5,x6⟩
 unfold m_e9
 simp only
 rw [ret_if]
 refine ⟨fun hlt=>?_,fun hge=>⟨_,rfl,X,c,b,rfl,x1,x2,by have ek:k=v.length:=(by omega); subst ek; exact x3,x4,x5,by have ek:k=v.length:=(by omega); subst ek; rw [List.take_length] at x6; exact x6⟩⟩
 obtain ⟨y,hy⟩:=get_of (l:=v) (k:=k) (by omega)
 obtain ⟨z,hz⟩:=get_of (l:=W) (k:=k) (by omega)
 have hzX:X[k]?=some z:=(drop_get x3).trans hz
 have hyB:=LW.get hv hy
 have hzB:=LW.get hW hz
 have hhi':hi=(A.length:Int)+X.length:=by rw [x2]; exact hhi
 have p0:=Int.mul_nonneg hg.1 hyB.1
 have p1:g*y≤4294967295*4294967295:=Int.mul_le_mul (by omega) (by omega) hyB.1 (by omega)
 have ep:wa .u64 (wm .u64 g (wc .u64 y)) c=g*y+c:=by
  rw [wc_u64_in (x:=y) ⟨hyB.1,by omega⟩,wm_u64 ⟨p0,by omega⟩,wa_u64 ⟨by omega,by omega⟩]
 have hm1:=Int.emod_nonneg (g*y+c) (show B≠0 by omega)
 have hm2:=Int.emod_lt_of_pos (g*y+c) (show 0 < B by omega)
 have hdm:=Int.mul_ediv_add_emod (g*y+c) B
 have d0:0≤(g*y+c) / B:=Int.ediv_nonneg (by omega) (by omega)
 have d1:(g*y+c) / B < B:=Int.ediv_lt_of_lt_mul (by omega) (by rw [e]; omega)
 obtain ⟨k1,k2,k3,k4⟩:=low_borrow (v:=z - (g*y+c) % B - b) (by omega) (by omega)
 have et:ws .u64 (ws .u64 (wc .u64 z) (wand .u64 (g*y+c) 4294967295)) b=(z - (g*y+c) % B - b) % 18446744073709551616:=by
  rw [wc_u64_in (x:=z) ⟨hzB.1,by omega⟩,wand_low ⟨by omega,by omega⟩,ws_u64,ws_u64]; omega
 rw [ret_at hy rfl,obs,win_at hzX hlo hhi' rfl,obs,ep,et]
 generalize ht:(z - (g*y+c) % B - b) % 18446744073709551616=t at*
 have hmm:=Int.emod_nonneg t (show B≠0 by omega)
 have hmm2:=Int.emod_lt_of_pos t (show 0 < B by omega)
 have hd0:0≤t / B:=Int.ediv_nonneg k3 (by omega)
 have hd1:t / B < 18446744073709551616:=Int.ediv_lt_of_lt_mul (by omega) (by omega)
 rw [wand_low ⟨k3,k4⟩,wsrc32 k3,wand_one ⟨hd0,hd1⟩,wc_u32_in ⟨hmm,hmm2⟩,wsrc32 (by omega),k2,win_set (k:=k) (by omega) hlo hhi' rfl,obs]
 have hkX:k < X.length:=by omega
 refine ⟨_,rfl,by omega,X.set k (t % B),(g*y+c) / B,_,by rw [wa_i (by omega) (by omega)]; rfl,lw_set x1 ⟨hmm,hmm2⟩,by rw [List.length_set,x2],set_drop x3,⟨d0,d1⟩,by split<;>omega,?_⟩
 rw [set_take hkX,x6,k1,take_succ hz,take_succ hy]
 simp only [pw]
 generalize (if z - (g*y+c) % B - b < 0 then (1:Int) else 0)=β
 generalize (g*y+c) / B=q at*
 generalize (g*y+c) % B=r at*
 have:g*y=B*q+r - c:=by omega
 have e5:g*(lv (v.take k)+pw k*y)=g*lv (v.take k)+pw k*(g*y):=by grind
 rw [e5,this]
 grind
theorem madd_ok (hW:LW W) (hv:LW v) (hl:W.length=v.length+1) (hm:v.length≤10000) (hlo:lo=(A.length:Int)) (hhi:hi=(A.length:Int)+W.length):
  Ret (loop (m_e8 v lo hi) (A++W++Z,0,0)) (fun r=>∃ X c,r=(A++X++Z,c)∧LW X∧X.length=W.length∧X.drop v.length=W.drop v.length∧(c=0∨c=1)∧lv (X.take v.length)+pw v.length*c=lv (W.take v.length)+lv v):=by
 have e:B=4294967296:=rfl
 refine (ret_loop (Post:=fun r:List Int×Int=>∃ X c,r=(A++X++Z,c)∧LW X∧X.length=W.length∧X.drop v.length=W.drop v.length∧(c=0∨c=1)∧lv (X.take v.length)+pw v.length*c=lv (W.take v.length)+lv v) v.length (fun k (s:List Int×Int×Int)=>∃ X c,s=(A++X++Z,c,(k:Int))∧LW X∧X.length=W.length∧X.drop k=W.drop k∧(c=0∨c=1)∧lv (X.take k)+pw k*c=lv (W.take k)+lv (v.take k)) ⟨W,0,rfl,hW,rfl,rfl,.inl rfl,by simp [lv]⟩ ?_ (by omega))
 rintro k _ hk ⟨X,c,rfl,x1,x2,x3,x4,x6⟩
 unfold m_e8
 simp only
 rw [ret_if]
 refine ⟨fun hlt=>?_,fun hge=>⟨_,rfl,X,c,rfl,x1,x2,by have ek:k=v.length:=(by omega); subst ek; exact x3,x4,by have ek:k=v.length:=(by omega); subst ek; rw [List.take_length] at x6; exact x6⟩⟩
 obtain ⟨y,hy⟩:=get_of (l:=v) (k:=k) (by omega)
 obtain ⟨z,hz⟩:=get_of (l:=W) (k:=k) (by omega)
 have hzX:X[k]?=some z:=(drop_get x3).trans hz
 have hyB:=LW.get hv hy
 have hzB:=LW.get hW hz
 have hhi':hi=(A.length:Int)+X.length:=by rw [x2]; exact hhi
 have ep:wa .u64 (wa .u64 (wc .u64 z) (wc .u64 y)) c=z+y+c:=by
  rw [wc_u64_in (x:=y) ⟨hyB.1,by omega⟩,wc_u64_in (x:=z) ⟨hzB.1,by omega⟩,wa_u64 (x:=z) (y:=y) ⟨by omega,by omega⟩,wa_u64 ⟨by omega,by omega⟩]
 have hmm:=Int.emod_nonneg (z+y+c) (show B≠0 by omega)
 have hmm2:=Int.emod_lt_of_pos (z+y+c) (show 0 < B by omega)
 have hdm:=Int.mul_ediv_add_emod (z+y+c) B
 have d0:0≤(z+y+c) / B:=Int.ediv_nonneg (by omega) (by omega)
 have d1:(z+y+c) / B < 2:=Int.ediv_lt_of_lt_mul (by omega) (by omega)
 rw [ret_at hy rfl,obs,win_at hzX hlo hhi' rfl,obs,ep,wand_low ⟨by omega,by omega⟩,wsrc32 (by omega),wc_u32_in ⟨hmm,hmm2⟩,win_set (k:=k) (by omega) hlo hhi' rfl,obs]
 have hkX:k < X.length:=by omega
 refine ⟨_,rfl,by omega,X.set k ((z+y+c) % B),(z+y+c) / B,by rw [wa_i (by omega) (by omega)]; rfl,lw_set x1 ⟨hmm,hmm2⟩,by rw [List.length_set,x2],set_drop x3,by omega,?_⟩
 rw [set_take hkX,take_succ hz,take_succ hy]
 simp only [pw]
 generalize (z+y+c) / B=q at*
 generalize (z+y+c) % B=r at*
 have e3:pw k*(B*q+r)=pw k*(z+y+c):=by rw [hdm]
 have e4:B*pw k*q=pw k*(B*q):=by grind
 rw [Int.mul_add] at e3
 have e5:pw k*(z+y+c)=pw k*z+pw k*y+pw k*c:=by grind
 omega
theorem digit_ok (hW:LW W) (hv:LW v) {m:Nat} (hvl:v.length=m+2) (hl:W.length=m+3) (hm:m≤9000) (hA:A.length≤10000) (htop:∀ x,v[m+1]?=some x→2147483648≤x) (hlt:lv W < lv v*B) (hlo:lo=(A.length:Int)) (hhi:hi=(A.length:Int)+W.length):
  ∃ X,m_fb (A++W++Z) lo hi v=some (A++X++Z,lv W / lv v)∧LW X∧X.length=W.length∧lv X=lv W % lv v:=by
 have e:B=4294967296:=rfl
 obtain ⟨v2,g2⟩:=get_of (l:=v) (k:=m) (by omega)
 obtain ⟨vt,gt⟩:=get_of (l:=v) (k:=m+1) (by omega)
 obtain ⟨w2,k2⟩:=get_of (l:=W) (k:=m) (by omega)
 obtain ⟨w1,k1⟩:=get_of (l:=W) (k:=m+1) (by omega)
 obtain ⟨wt,kt⟩:=get_of (l:=W) (k:=m+2) (by omega)
 have b2:=LW.get hv g2
 have bt:=LW.get hv gt
 have c2:=LW.get hW k2
 have c1:=LW.get hW k1
 have ct:=LW.get hW kt
 have hvt:=htop vt gt
 have hV:lv v=(vt*B+v2)*pw m+lv (v.take m):=by
  rw [take_drop v (show m≤v.length by omega),lv_drop g2,lv_drop gt,List.drop_of_length_le (by omega)]
  simp only [lv]; grind
 have hU:lv W=((wt*B+w1)*B+w2)*pw m+lv (W.take m):=by
  rw [take_drop W (show m≤W.length by omega),lv_drop k2,lv_drop k1,lv_drop kt,List.drop_of_length_le (by omega)]
  simp only [lv]; grind
 have tv:=take_lt hv (i:=m) (by omega)
 have tw:=take_lt hW (i:=m) (by omega)
 have hVpos:0 < lv v:=by
  have h1:0 < (vt*B+v2)*pw m:=Int.mul_pos (by have:=Int.mul_pos (show 0 < vt by omega) (show 0 < B by omega); omega) (pw_pos m)
  omega
 have hK:KD (lv W) (lv v) (pw m) (lv (W.take m)) (lv (v.take m)) w1 w2 wt v2 vt (lv W / lv v):=⟨pw_pos m,hV,tv,b2,⟨hvt,bt.2⟩,hU,tw,c2,c1,ct,hlt,Qt.ediv hVpos⟩
 have hQ0:=hK.q0
 have hQB:=hK.qB
 have hUdm:=Int.mul_ediv_add_emod (lv W) (lv v)
 have hR0:=Int.emod_nonneg (lv W) (show lv v≠0 by omega)
 have hR1:=Int.emod_lt_of_pos (lv W) hVpos
 have hvlt:=lv_lt hv
 have hp2:pw (m+3)=B*pw (m+2):=rfl
 have hpos2:=pw_pos (m+2)
 have hvn:v.length=m+2:=hvl
 refine (?_:Ret (m_fb (A++W++Z) lo hi v) (fun r=>∃ X,r=(A++X++Z,lv W / lv v)∧LW X∧X.length=W.length∧lv X=lv W % lv v)).elim fun r hr=>?_
 ·unfold m_fb
  have hn1:ws .i64 (v.length:Int) 1=((m+1:Nat):Int):=by rw [hvl,ws_i (by omega) (by omega)]; omega
  have hnn:(v.length:Int)=((m+2:Nat):Int):=by rw [hvl]
  rw [hn1,hnn,win_at kt hlo hhi rfl,obs,win_at k1 hlo hhi rfl,obs,ret_at gt rfl,obs]
  have et:wor .u64 (wslc .u64 (wc .u64 wt) 32) (wc .u64 w1)=wt*B+w1:=by
   rw [wc_u64_in (x:=wt) ⟨ct.1,by omega⟩,wc_u64_in (x:=w1) ⟨c1.1,by omega⟩,wslc32 ct,wor_hi ct c1]
  have t0:0≤wt*B+w1:=by have:=Int.mul_nonneg ct.1 (show 0≤B by omega); omega
  have t1:wt*B+w1 < 18446744073709551616:=by rw [e]; omega
  have hcv:wc .u64 vt=vt:=wc_u64_in ⟨by omega,by omega⟩
  have hwq:wq .u64 (wt*B+w1) vt=some ((wt*B+w1) / vt):=by
   unfold wq
   have h0:0≤(wt*B+w1) / vt:=Int.ediv_nonneg t0 (by omega)
   have h1:(wt*B+w1) / vt≤wt*B+w1:=Int.ediv_le_self _ t0
   rw [if_neg (by omega),Int.tdiv_eq_ediv_of_nonneg t0,IntWalk.u64_in _ ⟨h0,by omega⟩]
  have hwr:wr (wt*B+w1) vt=some ((wt*B+w1) % vt):=by
   unfold wr
   rw [if_neg (by omega),Int.tmod_eq_emod_of_nonneg t0]
  rw [et,hcv,hwq,obs,obs,hcv,hwr,obs,ret_bind]
  refine (guess_ok hK hvl (by omega) g2 gt k2 hlo hhi).mono ?_
  rintro g ⟨gQ,gQ1,gB⟩
  rw [ret_bind]
  refine (msub_ok (Z:=Z) ⟨by omega,gB⟩ hW hv (by omega) (by omega) hlo hhi).mono ?_
  rintro _ ⟨X,c,b,rfl,x1,x2,x3,x4,x5,x6⟩
  simp only
  have hXt:X[m+2]?=some wt:=by rw [← kt]; rw [hvl] at x3; exact drop_get x3
  have hhi':hi=(A.length:Int)+X.length:=by rw [x2]; exact hhi
  rw [win_at hXt hlo hhi' rfl,obs]
  obtain ⟨q1,q2,q3,q4⟩:=low_borrow (v:=wt - c - b) (by omega) (by omega)
  have et2:ws .u64 (ws .u64 (wc .u64 wt) c) b=(wt - c - b) % 18446744073709551616:=by
   rw [wc_u64_in (x:=wt) ⟨ct.1,by omega⟩,ws_u64,ws_u64]; omega
  rw [et2]
  generalize ht:(wt - c - b) % 18446744073709551616=t at*
  have hmm:=Int.emod_nonneg t (show B≠0 by omega)
  have hmm2:=Int.emod_lt_of_pos t (show 0 < B by omega)
  have hd0:0≤t / B:=Int.ediv_nonneg q3 (by omega)
  have hd1:t / B < 18446744073709551616:=Int.ediv_lt_of_lt_mul (by omega) (by omega)
  rw [wand_low ⟨q3,q4⟩,wsrc32 q3,wand_one ⟨hd0,hd1⟩,wc_u32_in ⟨hmm,hmm2⟩,q2,win_set (k:=m+2) (by omega) hlo hhi' rfl,obs]
  have hYlw:LW (X.set (m+2) (t % B)):=lw_set x1 ⟨hmm,hmm2⟩
  have hYlen:(X.set (m+2) (t % B)).length=W.length:=by rw [List.length_set,x2]
  have hYlt:=lv_lt hYlw
  have hYnn:=lv_nn hYlw
  have hWall:lv W=lv (W.take (m+2))+pw (m+2)*wt:=by rw [← take_succ kt,take_all (by omega)]
  have hY:lv (X.set (m+2) (t % B))=lv W - g*lv v+pw (m+3)*(if wt - c - b < 0 then 1 else 0):=by
   have h1:lv (X.set (m+2) (t % B))=lv ((X.set (m+2) (t % B)).take (m+2+1)):=by rw [take_all (by rw [hYlen]; omega)]
   rw [h1,set_take (by omega),q1]
   rw [hvl] at x6
   rw [x6,hWall,hp2]
   generalize (if wt - c - b < 0 then (1:Int) else 0)=β
   grind
  rw [hYlen,hl] at hYlt
  have hUg:lv W - g*lv v=lv W % lv v+(lv W / lv v - g)*lv v:=by
   have:(lv W / lv v - g)*lv v=lv v*(lv W / lv v) - g*lv v:=by grind
   omega
  rw [hvl] at hvlt
  rw [ret_if]
  refine ⟨fun hb=>?_,fun hb=>?_⟩
  ·have hβ:(if wt - c - b < 0 then (1:Int) else 0)=0:=hb
   rw [hβ,Int.mul_zero,Int.add_zero,hUg] at hY
   have hgq:g=lv W / lv v:=by
    refine Classical.byContradiction fun hc=>?_
    have:lv W / lv v - g= -1:=by omega
    rw [this] at hY; omega
   subst hgq
   rw [Int.sub_self,Int.zero_mul,Int.add_zero] at hY
   rw [wc_u32_in ⟨hQ0,hQB⟩]
   exact ⟨_,rfl,_,rfl,hYlw,hYlen,hY⟩
  ·have hβ:(if wt - c - b < 0 then (1:Int) else 0)=1:=by revert hb; split<;>simp
   rw [hβ,Int.mul_one,hUg] at hY
   have hgq:g=lv W / lv v+1:=by
    refine Classical.byContradiction fun hc=>?_
    have:lv W / lv v - g=0:=by omega
    rw [this] at hY; omega
   have hgq2:lv W / lv v - g= -1:=by omega
   rw [hgq2] at hY
   rw [ret_bind]
   have hhi2:hi=(A.length:Int)+(X.set (m+2) (t % B)).length:=by rw [hYlen]; exact hhi
   refine (madd_ok (Z:=Z) hYlw hv (by omega) (by omega) hlo hhi2).mono ?_
   rintro _ ⟨Y,c',rfl,y1,y2,y3,y4,y5⟩
   simp only
   have hYt:Y[m+2]?=some (t % B):=by
    rw [hvl] at y3
    rw [drop_get y3,List.getElem?_set_self (by omega)]
   have hhi3:hi=(A.length:Int)+Y.length:=by rw [y2]; exact hhi2
   rw [win_at hYt hlo hhi3 rfl,obs,wc_u32_in (x:=c') ⟨by omega,by omega⟩,wa_u32,win_set (k:=m+2) (by omega) hlo hhi3 rfl,obs]
   have hwg:wc .u32 (ws .u64 g 1)=lv W / lv v:=by
    rw [ws_u64,wc_u32_in ⟨by omega,by omega⟩]; omega
   rw [hwg]
   have hz0:=Int.emod_nonneg (t % B+c') (show B≠0 by omega)
   have hz1:=Int.emod_lt_of_pos (t % B+c') (show 0 < B by omega)
   have hzd:=Int.mul_ediv_add_emod (t % B+c') B
   have hFlw:LW (Y.set (m+2) ((t % B+c') % B)):=lw_set y1 ⟨hz0,hz1⟩
   have hFlen:(Y.set (m+2) ((t % B+c') % B)).length=W.length:=by rw [List.length_set,y2,hYlen]
   refine ⟨_,rfl,_,rfl,hFlw,hFlen,?_⟩
   have hFlt:=lv_lt hFlw
   have hFnn:=lv_nn hFlw
   rw [hFlen,hl] at hFlt
   have hF:lv (Y.set (m+2) ((t % B+c') % B))=lv W % lv v+pw (m+3)*(1 - (t % B+c') / B):=by
    have h1:lv (Y.set (m+2) ((t % B+c') % B))=lv ((Y.set (m+2) ((t % B+c') % B)).take (m+2+1)):=by rw [take_all (by rw [hFlen]; omega)]
    have h2:lv (X.set (m+2) (t % B))=lv ((X.set (m+2) (t % B)).take (m+2))+pw (m+2)*(t % B):=by
     have h3:(X.set (m+2) (t % B))[m+2]?=some (t % B):=by rw [List.getElem?_set_self (by omega)]
     rw [← take_succ h3,take_all (by rw [hYlen]; omega)]
    rw [hvl] at y5
    rw [h1,set_take (by omega),hp2]
    generalize (t % B+c') / B=k at*
    generalize (t % B+c') % B=r at*
    have e3:pw (m+2)*(B*k+r)=pw (m+2)*(t % B+c'):=by rw [hzd]
    rw [Int.mul_add,Int.mul_add] at e3
    have e4:B*pw (m+2)*(1 - k)=B*pw (m+2) - pw (m+2)*(B*k):=by grind
    omega
   have hk:(t % B+c') / B=1:=by
    have k0:0≤(t % B+c') / B:=Int.ediv_nonneg (by omega) (by omega)
    have k1:(t % B+c') / B < 2:=Int.ediv_lt_of_lt_mul (by omega) (by omega)
    refine Classical.byContradiction fun hc=>?_
    have:(t % B+c') / B=0:=by omega
    rw [this] at hF
    omega
   rw [hk] at hF
   rw [hF]; omega
 ·obtain ⟨h1,X,rfl,h2⟩:=hr
  exact ⟨X,h1,h2⟩
end
end Km
namespace Km
open Sx Go M Vc Lm
theorem norm_top {b:List Int} (hb:LW b) {m:Nat} (hl:b.length=m+2) {bt:Int} (gt:b[m+1]?=some bt) {s:Nat} (hs:s < 32) (h1:bt*2 ^ s < B) (h2:B≤2*(bt*2 ^ s)):
  lv b*2 ^ s < pw (m+2)∧2147483648*pw (m+1)≤lv b*2 ^ s:=by
 have e:B=4294967296:=rfl
 obtain ⟨p1,p2,p3,p4⟩:=two_pow hs
 have hbt:=LW.get hb gt
 have hV:lv b=lv (b.take (m+1))+pw (m+1)*bt:=by rw [← take_succ gt,take_all (by omega)]
 have ht:=take_lt hb (i:=m+1) (by omega)
 have hp:=pw_pos (m+1)
 have hbt2:bt < 2 ^ (32 - s):=by
  refine Classical.byContradiction fun hc=>?_
  have:2 ^ (32 - s)*2 ^ s≤bt*2 ^ s:=Int.mul_le_mul_of_nonneg_right (by omega) (by omega)
  rw [Int.mul_comm] at this; omega
 have h3:(bt+1)*2 ^ s≤B:=by
  have:(bt+1)*2 ^ s≤2 ^ (32 - s)*2 ^ s:=Int.mul_le_mul_of_nonneg_right (by omega) (by omega)
  rw [Int.mul_comm (2 ^ (32 - s))] at this; omega
 constructor
 ·have h4:lv b*2 ^ s < (pw (m+1)*(bt+1))*2 ^ s:=Int.mul_lt_mul_of_pos_right (by rw [Int.mul_add]; omega) p1
  have h5:pw (m+1)*((bt+1)*2 ^ s)≤pw (m+1)*B:=Int.mul_le_mul_of_nonneg_left h3 (by omega)
  have h6:pw (m+2)=B*pw (m+1):=rfl
  rw [Int.mul_assoc] at h4
  rw [h6,Int.mul_comm B]; omega
 ·have h4:pw (m+1)*bt*2 ^ s≤lv b*2 ^ s:=Int.mul_le_mul_of_nonneg_right (by omega) (by omega)
  have h5:pw (m+1)*2147483648≤pw (m+1)*(bt*2 ^ s):=Int.mul_le_mul_of_nonneg_left (by omega) (by omega)
  rw [Int.mul_assoc] at h4
  rw [Int.mul_comm 2147483648]; omega
theorem top_ge {v:List Int} (hv:LW v) {m:Nat} (hl:v.length=m+2) (h:2147483648*pw (m+1)≤lv v):∀ x,v[m+1]?=some x→2147483648≤x:=by
 intro x hx
 refine Classical.byContradiction fun hc=>?_
 have hV:lv v=lv (v.take (m+1))+pw (m+1)*x:=by rw [← take_succ hx,take_all (by omega)]
 have ht:=take_lt hv (i:=m+1) (by omega)
 have h4:pw (m+1)*(x+1)≤pw (m+1)*2147483648:=Int.mul_le_mul_of_nonneg_left (by omega) (by have:=pw_pos (m+1); omega)
 rw [Int.mul_add,Int.mul_comm (pw (m+1)) 2147483648] at h4
 omega
theorem tm_eq {v:List Int} (hv:LW v) (tv:Tm v) {m:Nat} (h1:lv v < pw (m+2)) (h2:pw (m+1)≤lv v):v.length=m+2:=by
 have h3:=len_le hv tv h1
 refine Classical.byContradiction fun hc=>?_
 have h4:=lt_pw hv (m:=m+1) (by omega)
 omega
theorem divL_ok {u0 v:List Int} {K m:Nat} (hu:LW u0) (hv:LW v) (hvl:v.length=m+2) (hul:u0.length=K+m+2) (hK:K+m≤5000) (htop:∀ x,v[m+1]?=some x→2147483648≤x) (h0:lv (u0.drop K) < lv v):
  Ret (loop (m_fc v) (List.replicate K 0,u0,(K:Int) - 1)) (fun r=>LW r.1∧r.1.length=K∧LW r.2∧r.2.length=u0.length∧lv u0=lv r.1*lv v+lv r.2∧lv r.2 < lv v):=by
 have e:B=4294967296:=rfl
 refine (ret_loop (Post:=fun r:List Int×List Int=>LW r.1∧r.1.length=K∧LW r.2∧r.2.length=u0.length∧lv u0=lv r.1*lv v+lv r.2∧lv r.2 < lv v) K (fun k (s:List Int×List Int×Int)=>s.2.2=(K:Int) - 1 - k∧k≤K∧LW s.1∧s.1.length=K∧LW s.2.1∧s.2.1.length=u0.length∧s.2.1.take (K - k)=u0.take (K - k)∧lv (u0.drop (K - k))=lv (s.1.drop (K - k))*lv v+lv (s.2.1.drop (K - k))∧lv (s.2.1.drop (K - k)) < lv v) ⟨by show (K:Int) - 1=_; omega,by omega,lw_zeros K,List.length_replicate ..,hu,rfl,rfl,by show lv (u0.drop (K - 0))=lv ((List.replicate K (0:Int)).drop (K - 0))*lv v+lv (u0.drop (K - 0)); rw [Nat.sub_zero,List.drop_replicate,Nat.sub_self]; simp [lv],h0⟩ ?_ (by omega))
 rintro k ⟨q,u,_⟩ hk ⟨rfl,hkK,q1,q2,u1,u2,u3,u4,u5⟩
 simp only at q1 q2 u1 u2 u3 u4 u5
 unfold m_fc
 simp only
 rw [ret_if]
 refine ⟨fun hge=>?_,fun hlt=>⟨_,rfl,q1,q2,u1,u2,?_,?_⟩⟩
 ·obtain ⟨J,hJ⟩:∃ J:Nat,K=J+(k+1):=⟨K - (k+1),by omega⟩
  have e1:(K:Int) - 1 - (k:Int)=(J:Int):=by omega
  have e2:K - k=J+1:=by omega
  have e3:K - (k+1)=J:=by omega
  rw [e2] at u3 u4 u5
  have hw:wa .i64 (wa .i64 (J:Int) (v.length:Int)) 1=(J:Int)+(m+3:Nat):=by
   rw [hvl,wa_i (x:=(J:Int)) (by omega) (by omega),wa_i (by omega) (by omega)]; omega
  obtain ⟨x,hx⟩:=get_of (l:=u) (k:=J) (by omega)
  have hxB:=LW.get u1 hx
  have hxu0:u0[J]?=some x:=by
   have h1:(u.take (J+1))[J]?=u[J]?:=by rw [List.getElem?_take,if_pos (by omega)]
   have h2:(u0.take (J+1))[J]?=u0[J]?:=by rw [List.getElem?_take,if_pos (by omega)]
   rw [← h2,← u3,h1]; exact hx
  have hD:=lv_drop hx
  have hD0:=lv_drop hxu0
  have hvlt:=lv_lt hv
  rw [hvl] at hvlt
  have hn5:=lv_nn (LW.drop u1 (J+1))
  have hsplit:u=u.take J++(u.drop J).take (m+3)++u.drop (J+(m+3)):=by
   rw [List.append_assoc]
   have h1:(u.drop J).take (m+3)++u.drop (J+(m+3))=u.drop J:=by rw [← List.drop_drop,List.take_append_drop]
   rw [h1,List.take_append_drop]
  have hAl:(u.take J).length=J:=by rw [List.length_take]; omega
  have hWl:((u.drop J).take (m+3)).length=m+3:=by rw [List.length_take,List.length_drop]; omega
  have hWlw:LW ((u.drop J).take (m+3)):=LW.take (LW.drop u1 J) _
  have hZlw:LW (u.drop (J+(m+3))):=LW.drop u1 _
  have hDW:lv (u.drop J)=lv ((u.drop J).take (m+3))+pw (m+3)*lv (u.drop (J+(m+3))):=by
   rw [take_drop (u.drop J) (k:=m+3) (by rw [List.length_drop]; omega),List.drop_drop]
  have hDlt:lv (u.drop J) < lv v*B:=by
   have:B*(lv (u.drop (J+1))+1)≤B*lv v:=Int.mul_le_mul_of_nonneg_left (by omega) (by omega)
   rw [Int.mul_add,Int.mul_one] at this
   rw [Int.mul_comm (lv v)]; omega
  have hWnn:=lv_nn hWlw
  have hZnn:=lv_nn hZlw
  have hp3:pw (m+3)=B*pw (m+2):=rfl
  have hVB:lv v*B≤pw (m+3):=by
   rw [hp3,Int.mul_comm B]; exact Int.mul_le_mul_of_nonneg_right (by omega) (by omega)
  have hZ0:lv (u.drop (J+(m+3)))=0:=by
   refine Classical.byContradiction fun hc=>?_
   have:pw (m+3)*1≤pw (m+3)*lv (u.drop (J+(m+3))):=Int.mul_le_mul_of_nonneg_left (by omega) (by have:=pw_pos (m+3); omega)
   omega
  rw [hZ0,Int.mul_zero,Int.add_zero] at hDW
  obtain ⟨X,hX,x1,x2,x3⟩:=digit_ok (A:=u.take J) (W:=(u.drop J).take (m+3)) (Z:=u.drop (J+(m+3))) (lo:=(J:Int)) (hi:=(J:Int)+(m+3:Nat)) hWlw hv hvl hWl (by omega) (by omega) htop (by rw [← hDW]; exact hDlt) (by rw [hAl]) (by rw [hAl,hWl])
  rw [← hsplit,← hDW] at hX
  rw [← hDW] at x3
  have hVpos:0 < lv v:=by omega
  have hd0:0≤lv (u.drop J) / lv v:=Int.ediv_nonneg (by omega) (by omega)
  have hd1:lv (u.drop J) / lv v < B:=Int.ediv_lt_of_lt_mul hVpos (by rw [Int.mul_comm]; exact hDlt)
  have hdm:=Int.mul_ediv_add_emod (lv (u.drop J)) (lv v)
  have hr0:=Int.emod_nonneg (lv (u.drop J)) (show lv v≠0 by omega)
  have hr1:=Int.emod_lt_of_pos (lv (u.drop J)) hVpos
  rw [e1,hw,ret_bind,ret_sli]
  refine ⟨by omega,by omega,by omega,?_⟩
  rw [hX,obs,ret_bind,ret_set,Int.toNat_natCast]
  have hUl:(u.take J++X++u.drop (J+(m+3))).length=u0.length:=by
   rw [List.length_append,List.length_append,hAl,x2,hWl,List.length_drop]; omega
  have hUd:lv ((u.take J++X++u.drop (J+(m+3))).drop J)=lv X:=by
   rw [List.append_assoc,List.drop_left' hAl,lv_app,hZ0]; omega
  refine ⟨by omega,by omega,_,rfl,by omega,?_,by omega,lw_set q1 ⟨hd0,hd1⟩,by show (q.set J _).length=K; rw [List.length_set,q2],LW.app.2 ⟨LW.app.2 ⟨LW.take u1 _,x1⟩,hZlw⟩,hUl,?_,?_,?_⟩
  ·show ws .i64 (J:Int) 1=_; rw [ws_i (by omega) (by omega)]; omega
  ·rw [e3]
   show (u.take J++X++u.drop (J+(m+3))).take J=_
   rw [List.append_assoc,List.take_left' hAl]
   have h1:u.take J=(u.take (J+1)).take J:=by rw [List.take_take,Nat.min_eq_left (by omega)]
   rw [h1,u3,List.take_take,Nat.min_eq_left (by omega)]
  ·rw [e3]
   show lv (u0.drop J)=lv ((q.set J (lv (u.drop J) / lv v)).drop J)*lv v+lv ((u.take J++X++u.drop (J+(m+3))).drop J)
   have hqJ:(q.set J (lv (u.drop J) / lv v))[J]?=some (lv (u.drop J) / lv v):=by rw [List.getElem?_set_self]; omega
   rw [hUd,x3,lv_drop hqJ,List.drop_set_of_lt (by omega),hD0,u4]
   generalize lv (u.drop J) / lv v=Q at*
   generalize lv (u.drop J) % lv v=R at*
   have h9:(Q+B*lv (q.drop (J+1)))*lv v=lv v*Q+B*(lv (q.drop (J+1))*lv v):=by grind
   rw [h9,Int.mul_add]
   omega
  ·rw [e3]
   show lv ((u.take J++X++u.drop (J+(m+3))).drop J) < lv v
   rw [hUd,x3]; exact hr1
 ·have ek:K - k=0:=by omega
  rw [ek] at u4
  exact u4
 ·have ek:K - k=0:=by omega
  rw [ek] at u5
  exact u5
theorem divide_ok {a b:List Int} (ha:LW a) (hb:LW b) (ta:Tm a) (tb:Tm b) (hne:b≠[]) (hn:a.length≤900) (hm:b.length≤900):∃ q r,m_fd a b=some (q,r)∧LW q∧Tm q∧LW r∧Tm r∧lv q=lv a / lv b∧lv r=lv a % lv b:=by
 have e:B=4294967296:=rfl
 have hbl:0 < b.length:=List.length_pos_iff.2 hne
 have hbpos:0 < lv b:=by
  have h1:=tm_lower hb tb hne
  have:=pw_pos (b.length - 1)
  omega
 by_cases h1:b.length=1
 ·obtain ⟨p,rfl⟩:∃ p,b=[p]:=by
   match b,h1 with
   | [p],_=>exact ⟨p,rfl⟩
  have hp:=LW.one.1 hb
  have lp:lv [p]=p:=by simp [lv]
  rw [lp] at hbpos ⊢
  obtain ⟨q,r,h,q1,q2,r1,r2,q3,r3,_⟩:=divide1_ok ha ta (by omega) hbpos hp.2
  exact ⟨q,r,h,q1,q2,r1,r2,q3,r3⟩
 have h0:=lv_nn ha
 by_cases hlt:lv a < lv b
 ·refine ⟨[],a,?_,by intro x hx; simp at hx,tm_nil,ha,ta,by rw [Int.ediv_eq_zero_of_lt h0 hlt]; rfl,by rw [Int.emod_eq_of_lt h0 hlt]⟩
  unfold m_fd
  rw [compare_ok ha hb ta tb (by omega) (by omega),obs,if_pos hlt,if_pos (by omega),clone_ok (by omega),obs]
 obtain ⟨m,hbm⟩:∃ m,b.length=m+2:=⟨b.length - 2,by omega⟩
 have hab:b.length≤a.length:=by
  refine Classical.byContradiction fun hc=>?_
  have:=tm_len ha hb ta tb (by omega)
  omega
 obtain ⟨bt,gt⟩:=get_of (l:=b) (k:=m+1) (by omega)
 have hbt:=LW.get hb gt
 have hbt0:0 < bt:=by
  have:=tb bt (by rw [List.getLast?_eq_getElem?,hbm]; exact gt)
  omega
 obtain ⟨s,hs,hs32,hs1,hs2⟩:=lead_ok hbt0 hbt.2
 obtain ⟨p1,p2,p3,p4⟩:=two_pow hs32
 obtain ⟨t1,t2⟩:=norm_top hb hbm gt hs32 hs1 hs2
 have hpm:=pw_pos (m+1)
 refine (?_:Ret (m_fd a b) (fun r=>LW r.1∧Tm r.1∧LW r.2∧Tm r.2∧lv r.1=lv a / lv b∧lv r.2=lv a % lv b)).elim fun r hr=>⟨r.1,r.2,hr.1,hr.2⟩
 unfold m_fd
 have hcmp:¬ (if lv a < lv b then (-1:Int) else if lv b < lv a then 1 else 0) < 0:=by rw [if_neg hlt]; split<;>omega
 have hn1:ws .i64 (b.length:Int) 1=((m+1:Nat):Int):=by rw [hbm,ws_i (by omega) (by omega)]; omega
 rw [compare_ok ha hb ta tb (by omega) (by omega),obs,if_neg hcmp,if_neg (by omega),hn1,ret_at gt rfl,obs,hs,obs,ret_bind]
 refine (up_ok hb (by omega) hne hs32).mono ?_
 rintro v ⟨v1,v2,v3⟩
 have hvl:=tm_eq v1 v2 (m:=m) (by rw [v3]; exact t1) (by rw [v3]; omega)
 have htop:=top_ge v1 hvl (by rw [v3]; exact t2)
 rw [wa_i (by omega) (by omega),ret_bind,ret_mkL]
 refine ⟨by omega,by omega,?_⟩
 rw [show ((a.length:Int)+1).toNat=a.length+1 by omega,ret_bind]
 have hane:a≠[]:=by intro h; rw [h,List.length_nil] at hab; omega
 refine (up_ok ha (by omega) hane hs32).mono ?_
 rintro w ⟨w1,w2,w3⟩
 have halt:=lv_lt ha
 have hwlt:lv w < pw a.length*2 ^ s:=by rw [w3]; exact Int.mul_lt_mul_of_pos_right halt p1
 have hwl:w.length≤a.length+1:=by
  refine len_le w1 w2 ?_
  have h9:pw a.length*2 ^ s≤pw a.length*B:=Int.mul_le_mul_of_nonneg_left (by omega) (by have:=pw_pos a.length; omega)
  have h8:pw (a.length+1)=B*pw a.length:=rfl
  rw [h8,Int.mul_comm B]; omega
 have hcp:cpI (List.replicate (a.length+1) (0:Int)) 0 ((List.replicate (a.length+1) (0:Int)).length:Int) w=some (w++List.replicate (a.length+1 - w.length) 0,(w.length:Int)):=by
  unfold cpI
  rw [List.length_replicate,if_pos ⟨by omega,by omega,by omega⟩]
  have e1:(((a.length+1:Nat):Int)).toNat - ((0:Int)).toNat=a.length+1:=by omega
  rw [e1,List.take_of_length_le hwl,Nat.min_eq_left hwl,show ((0:Int)).toNat=0 from rfl,List.take_zero,List.nil_append,Nat.zero_add,List.drop_replicate]
 rw [hcp,obs]
 have hu0l:(w++List.replicate (a.length+1 - w.length) (0:Int)).length=a.length+1:=by rw [List.length_append,List.length_replicate]; omega
 have hu0w:LW (w++List.replicate (a.length+1 - w.length) (0:Int)):=LW.app.2 ⟨w1,lw_zeros _⟩
 have hu0v:lv (w++List.replicate (a.length+1 - w.length) (0:Int))=lv a*2 ^ s:=by rw [lv_app,lv_zeros,w3]; omega
 simp only
 generalize w++List.replicate (a.length+1 - w.length) (0:Int)=u0 at*
 obtain ⟨K,hK⟩:∃ K,a.length=K+m+1:=⟨a.length - m - 1,by omega⟩
 rw [show ws .i64 (u0.length:Int) (v.length:Int)=(K:Int) by rw [hu0l,hvl,ws_i (by omega) (by omega)]; omega,ret_bind,ret_mkL]
 refine ⟨by omega,by omega,?_⟩
 rw [Int.toNat_natCast,List.length_replicate,ws_i (x:=(K:Int)) (by omega) (by omega),ret_bind]
 have htopu:lv (u0.drop K) < lv v:=by
  have h9:lv u0=lv (u0.take K)+pw K*lv (u0.drop K):=take_drop u0 (by omega)
  have h8:=lv_nn (LW.take hu0w K)
  have h7:pw K*lv (u0.drop K) < pw a.length*2 ^ s:=by rw [w3] at hwlt; omega
  have h6:pw a.length=pw K*pw (m+1):=by rw [hK,show K+m+1=K+(m+1) by omega,pw_add]
  rw [h6,Int.mul_assoc] at h7
  have h5:lv (u0.drop K) < pw (m+1)*2 ^ s:=Int.lt_of_mul_lt_mul_left h7 (Int.le_of_lt (pw_pos K))
  have h4:pw (m+1)*2 ^ s≤pw (m+1)*2147483648:=Int.mul_le_mul_of_nonneg_left p2 (by omega)
  rw [Int.mul_comm (pw (m+1)) 2147483648] at h4
  rw [v3]; omega
 refine (divL_ok hu0w v1 hvl (by omega) (by omega) htop htopu).mono ?_
 rintro ⟨q,u⟩ ⟨q1,q2,u1,u2,u3,u4⟩
 simp only at q1 q2 u1 u2 u3 u4 ⊢
 have hnl:(v.length:Int)=((m+2:Nat):Int):=by rw [hvl]
 rw [hnl,ret_bind,ret_sli]
 refine ⟨by omega,by omega,by omega,?_⟩
 rw [Int.toNat_natCast,show ((0:Int)).toNat=0 from rfl,List.drop_zero]
 have htl:LW (u.take (m+2)):=LW.take u1 _
 have hut:lv (u.take (m+2))=lv u:=by
  have h9:lv u=lv (u.take (m+2))+pw (m+2)*lv (u.drop (m+2)):=take_drop u (by omega)
  have h8:=lv_nn htl
  have h7:=lv_nn (LW.drop u1 (m+2))
  have h6:lv (u.drop (m+2))=0:=by
   refine Classical.byContradiction fun hc=>?_
   have:pw (m+2)*1≤pw (m+2)*lv (u.drop (m+2)):=Int.mul_le_mul_of_nonneg_left (by omega) (by have:=pw_pos (m+2); omega)
   rw [v3] at u4; omega
  rw [h6] at h9; omega
 rw [trim_ok htl (by rw [List.length_take]; omega),obs,ret_bind]
 refine (down_ok (trimL_lw htl) (by have:=trim_len htl; rw [List.length_take] at this; omega) hs32).mono ?_
 rintro d ⟨d1,d2,d3⟩
 rw [trim_ok q1 (by omega),obs]
 rw [trimL_lv,hut] at d3
 refine ⟨_,rfl,trimL_lw q1,trimL_tm _,d1,d2,?_⟩
 show lv (trimL q)=_∧lv d.1=_
 rw [trimL_lv]
 have hunn:=lv_nn u1
 rw [hu0v,v3] at u3
 rw [v3] at u4
 have hR:lv u=(lv a - lv q*lv b)*2 ^ s:=by
  have:(lv a - lv q*lv b)*2 ^ s=lv a*2 ^ s - lv q*(lv b*2 ^ s):=by grind
  omega
 have r0:0≤lv a - lv q*lv b:=by
  refine Classical.byContradiction fun hc=>?_
  have:(lv a - lv q*lv b)*2 ^ s≤(-1)*2 ^ s:=Int.mul_le_mul_of_nonneg_right (by omega) (by omega)
  omega
 have r1:lv a - lv q*lv b < lv b:=by
  rw [hR] at u4
  exact Int.lt_of_mul_lt_mul_right u4 (Int.le_of_lt p1)
 have hq:lv q=lv a / lv b:=Qt.eq (u:=lv a) (v:=lv b) ⟨by omega,by rw [Int.add_mul,Int.one_mul]; omega⟩ hbpos
 refine ⟨hq,?_⟩
 rw [d3,hR,Int.mul_ediv_cancel _ (by omega)]
 have h9:=Int.mul_ediv_add_emod (lv a) (lv b)
 rw [← hq] at h9
 have h8:lv q*lv b=lv b*lv q:=Int.mul_comm _ _
 omega
theorem divmod_bg {s t:Bool} {a b:List Int} (ha:LW a) (hb:LW b) (hn:a.length≤800) (hm:b.length≤800) (hne:sv t b≠0):Ret (m_ff s a t b) (fun r=>Bg (sv s a / sv t b) r.1 r.2.1∧Bg (sv s a % sv t b) r.2.2.1 r.2.2.2.1∧r.2.2.2.2=0):=by
 have la:=trim_len ha
 have lb:=trim_len hb
 have wa':=trimL_lw ha
 have wb':=trimL_lw hb
 have ta:=trimL_tm a
 have tb:=trimL_tm b
 have hb0:trimL b≠[]:=by
  intro h
  have:lv b=0:=by rw [← trimL_lv,h]; rfl
  apply hne
  unfold sv; rw [this]; split<;>rfl
 have hbl:=List.length_pos_iff.2 hb0
 have hbpos:0 < lv b:=by
  have h1:=tm_lower wb' tb hb0
  rw [trimL_lv] at h1
  have:=pw_pos ((trimL b).length - 1)
  omega
 obtain ⟨q,r,hd,q1,q2,r1,r2,q3,r3⟩:=divide_ok wa' wb' ta tb hb0 (by omega) (by omega)
 rw [trimL_lv,trimL_lv] at q3 r3
 have h0:=lv_nn ha
 have e0:=Int.emod_nonneg (lv a) (show lv b≠0 by omega)
 have e1:=Int.emod_lt_of_pos (lv a) hbpos
 have hdm:=Int.mul_ediv_add_emod (lv a) (lv b)
 have hq0:0≤lv a / lv b:=Int.ediv_nonneg h0 (by omega)
 have hqle:lv a / lv b≤lv a:=Int.ediv_le_self _ h0
 have hap:=lt_pw ha hn
 have hbp:=lt_pw hb hm
 have hp8:2*pw 800≤pw 801:=by
  have:=pw_pos 800
  show 2*pw 800≤B*pw 800
  unfold B; omega
 have hql:q.length≤801:=len_le q1 q2 (by omega)
 have hrl:r.length≤801:=len_le r1 r2 (by omega)
 have fin:∀ x y:List Int,LW x→x.length≤1000→LW y→y.length≤1000→sv (!(s == t)) x=sv s a / sv t b→lv y=sv s a % sv t b→Ret (m_fe s t x y) (fun r=>Bg (sv s a / sv t b) r.1 r.2.1∧Bg (sv s a % sv t b) r.2.2.1 r.2.2.2.1∧r.2.2.2.2=0):=by
  intro x y hx hxl hy hyl h1 h2
  unfold m_fe
  rw [ret_bind]
  refine (big_bg _ hx (by omega)).mono fun g hg=>?_
  rw [ret_bind]
  refine (big_bg false hy (by omega)).mono fun f hf=>⟨_,rfl,hg.cast h1,hf.cast ?_,rfl⟩
  rw [← h2]; rfl
 have quot:∀ z w:Int,sv s a=sv t b*z+w→0≤w→w < lv b→z=sv s a / sv t b∧w=sv s a % sv t b:=by
  intro z w h1 h2 h3
  have h4:w=sv s a % sv t b:=by
   rw [h1,Int.mul_add_emod_self_left]
   unfold sv
   split
   ·rw [Int.emod_neg,Int.emod_eq_of_lt h2 h3]
   ·rw [Int.emod_eq_of_lt h2 h3]
  refine ⟨?_,h4⟩
  have h5:=Int.mul_ediv_add_emod (sv s a) (sv t b)
  have h6:sv t b*(z - sv s a / sv t b)=0:=by rw [Int.mul_sub]; omega
  rcases Int.mul_eq_zero.1 h6 with h | h
  ·exact absurd h hne
  ·omega
 unfold m_ff
 rw [trim_ok hb (by omega),obs,if_neg (by omega),trim_ok ha (by omega),obs,hd,obs]
 simp only
 rw [ret_if]
 refine ⟨fun hc=>?_,fun hc=>?_⟩
 ·simp only [Bool.and_eq_true,decide_eq_true_eq] at hc
  obtain ⟨hs,hrp⟩:=hc
  subst hs
  have hr0:lv r≠0:=fun h=>by rw [(lv_zero r1 r2).1 h] at hrp; simp at hrp
  rw [ret_bind]
  refine (plus_ok q1 (b:=[1]) (LW.one.2 ⟨by omega,by unfold B; omega⟩) (by omega) (by simp)).mono ?_
  rintro x ⟨x1,x2,x3⟩
  have l1:lv [1]=1:=by simp [lv]
  rw [l1] at x3
  rw [ret_bind]
  have hll:r.length≤(trimL b).length:=by
   refine Classical.byContradiction fun hc=>?_
   have:=tm_len wb' r1 tb r2 (by omega)
   rw [trimL_lv] at this; omega
  refine (minus_ok wb' r1 (by omega) hll (by rw [trimL_lv]; omega)).mono ?_
  rintro y ⟨y1,y2,y3⟩
  rw [trimL_lv] at y3
  have hxl:x.length≤801:=len_le x1 x2 (by have:=pw_pos 800; omega)
  have hyl:y.length≤801:=len_le y1 y2 (by omega)
  obtain ⟨k1,k2⟩:=quot (sv (!(true == t)) x) (lv y) (by
   unfold sv
   rw [x3,y3,r3,q3]
   cases t
   ·simp
    have h7:lv b*(lv a / lv b+1)=lv b*(lv a / lv b)+lv b:=by grind
    rw [Int.mul_neg]; omega
   ·simp
    have h7:lv b*(lv a / lv b+1)=lv b*(lv a / lv b)+lv b:=by grind
    rw [Int.neg_mul]; omega) (lv_nn y1) (by omega)
  exact fin x y x1 (by omega) y1 (by omega) k1 k2
 ·simp only [Bool.and_eq_true,decide_eq_true_eq,not_and] at hc
  obtain ⟨k1,k2⟩:=quot (sv (!(s == t)) q) (lv r) (by
   have n1: -lv b*(lv a / lv b)= -(lv b*(lv a / lv b)):=by grind
   have n2:lv b* -(lv a / lv b)= -(lv b*(lv a / lv b)):=by grind
   have n3: -lv b* -(lv a / lv b)=lv b*(lv a / lv b):=by grind
   unfold sv
   rw [q3]
   cases s
   ·cases t
    ·simp
     first | omega | grind
    ·simp
     first | omega | grind
   ·have hr0:lv r=0:=by
     have h1:=hc rfl
     have:r=[]:=List.eq_nil_of_length_eq_zero (by omega)
     rw [this]; rfl
    cases t
    ·simp
     first | omega | grind
    ·simp; omega) (by omega) (by omega)
  exact fin q r q1 (by omega) r1 (by omega) k1 k2
end Km
namespace Km
open Sx Go M Vc Lm
theorem take_ok {A W Z v:List Int} {g:Int} (hg:0≤g∧g < B) (hW:LW W) (hv:LW v) (hl:W.length=v.length+1) (hm:v.length≤5000) (hA:A.length≤10000):
  ∃ X,m_ic (A++W++Z) v (A.length:Int) g=some (if g*lv v≤lv W then (A++X++Z,true) else (A++W++Z,false))∧LW X∧X.length=W.length∧(g*lv v≤lv W→lv X=lv W - g*lv v):=by
 have e:B=4294967296:=rfl
 have hat:∀ {i:Nat} {x:Int},W[i]?=some x→(A++W++Z)[i+A.length]?=some x:=by
  intro i x hx
  have hi:=(List.getElem?_eq_some_iff.1 hx).1
  rw [List.append_assoc,List.getElem?_append_right (by omega),Nat.add_sub_cancel,List.getElem?_append_left hi]; exact hx
 have l3:Ret (loop (m_ib v (A++W++Z) (A.length:Int) g) (List.replicate (v.length+1) 0,0,0,0)) (fun r=>LW r.1∧r.1.length=v.length+1∧(r.2=0∨r.2=1)∧lv r.1=lv W - g*lv v+pw (v.length+1)*r.2):=by
  refine (ret_loop (Post:=fun r:List Int×Int=>LW r.1∧r.1.length=v.length+1∧(r.2=0∨r.2=1)∧lv r.1=lv W - g*lv v+pw (v.length+1)*r.2) (v.length+1) (fun k (s:List Int×Int×Int×Int)=>s.2.2.2=(k:Int)∧k≤v.length+1∧LW s.1∧s.1.length=v.length+1∧(s.2.1=0∨s.2.1=1)∧(0≤s.2.2.1∧s.2.2.1 < B)∧(k=v.length+1→s.2.2.1=0)∧lv (s.1.take k)=lv (W.take k) - g*lv (v.take k)+pw k*(s.2.2.1+s.2.1)) ⟨rfl,by omega,lw_zeros _,List.length_replicate ..,.inl rfl,⟨by show (0:Int)≤0; omega,by show (0:Int) < B; omega⟩,fun _=>rfl,by simp [lv]⟩ ?_ (by omega))
  rintro k ⟨o,b,c,_⟩ hk ⟨rfl,hk1,o1,o2,b1,c1,c2,hI⟩
  simp only at o1 o2 b1 c1 c2 hI
  unfold m_ib
  simp only
  rw [ret_if]
  refine ⟨fun hle=>?_,fun hgt=>⟨_,rfl,o1,o2,b1,?_⟩⟩
  ·have hkv:k < v.length+1:=by omega
   obtain ⟨x,hx⟩:=get_of (l:=W) (k:=k) (by omega)
   have hxB:=LW.get hW hx
   have key:∀ d:Int,0≤d→d < 18446744073709551616→(k=v.length→d < B)→lv (W.take (k+1)) - g*lv (v.take (k+1))=lv (o.take k)+pw k*x - pw k*b - pw k*d→Ret (m_ia (A++W++Z) (k:Int) (A.length:Int) o b d) (VQ (fun s:List Int×Int×Int×Int=>k < v.length+1∧s.2.2.2=((k+1:Nat):Int)∧k+1≤v.length+1∧LW s.1∧s.1.length=v.length+1∧(s.2.1=0∨s.2.1=1)∧(0≤s.2.2.1∧s.2.2.1 < B)∧(k+1=v.length+1→s.2.2.1=0)∧lv (s.1.take (k+1))=lv (W.take (k+1)) - g*lv (v.take (k+1))+pw (k+1)*(s.2.2.1+s.2.1)) (fun r:List Int×Int=>LW r.1∧r.1.length=v.length+1∧(r.2=0∨r.2=1)∧lv r.1=lv W - g*lv v+pw (v.length+1)*r.2)):=by
    intro d d0 d1 dk hd
    unfold m_ia
    have hm1:=Int.emod_nonneg d (show B≠0 by omega)
    have hm2:=Int.emod_lt_of_pos d (show 0 < B by omega)
    have hdm:=Int.mul_ediv_add_emod d B
    have q0:0≤d / B:=Int.ediv_nonneg d0 (by omega)
    have q1:d / B < B:=Int.ediv_lt_of_lt_mul (by omega) (by rw [e]; omega)
    obtain ⟨k1,k2⟩:=sub_top (v:=x - b - d % B) (by omega) (by omega)
    have hz0:0≤(x - b - d % B) % 18446744073709551616:=Int.emod_nonneg _ (by omega)
    have et:ws .u64 (ws .u64 (wc .u64 x) b) (wand .u64 d 4294967295)=(x - b - d % B) % 18446744073709551616:=by
     rw [wc_u64_in (x:=x) ⟨hxB.1,by omega⟩,wand_low ⟨d0,d1⟩,ws_u64,ws_u64]; omega
    rw [wa_i (x:=(k:Int)) (y:=(A.length:Int)) (by omega) (by omega),ret_at (hat hx) (by omega),obs,et,wc_u32,wsrc63 hz0,wsrc32 d0,k1,k2,ret_bind,ret_set,Int.toNat_natCast]
    have hy0:0≤x - b - d % B+B*(if x - b - d % B < 0 then 1 else 0)∧x - b - d % B+B*(if x - b - d % B < 0 then 1 else 0) < B:=by split<;>omega
    refine ⟨by omega,by omega,_,rfl,hkv,by show wa .i64 (k:Int) 1=_; rw [wa_i (by omega) (by omega)]; rfl,by omega,lw_set o1 hy0,by show (o.set k _).length=_; rw [List.length_set,o2],by show (if x - b - d % B < 0 then (1:Int) else 0)=0∨(if x - b - d % B < 0 then (1:Int) else 0)=1; split<;>omega,⟨q0,q1⟩,fun hk2=>by show d / B=0; exact Int.ediv_eq_zero_of_lt d0 (dk (by omega)),?_⟩
    show lv ((o.set k _).take (k+1))=_+pw (k+1)*(d / B+(if x - b - d % B < 0 then 1 else 0))
    rw [set_take (by omega),hd]
    simp only [pw]
    generalize (if x - b - d % B < 0 then (1:Int) else 0)=β
    generalize d / B=q at*
    generalize d % B=r at*
    rw [← hdm]
    grind
   rw [ret_if]
   refine ⟨fun hlt=>?_,fun hge=>?_⟩
   ·obtain ⟨y,hy⟩:=get_of (l:=v) (k:=k) (by omega)
    have hyB:=LW.get hv hy
    have p0:=Int.mul_nonneg hg.1 hyB.1
    have p1:g*y≤4294967295*4294967295:=Int.mul_le_mul (by omega) (by omega) hyB.1 (by omega)
    rw [ret_at hy rfl,obs,wc_u64_in (x:=y) ⟨hyB.1,by omega⟩,wm_u64 ⟨p0,by omega⟩,wa_u64 ⟨by omega,by omega⟩]
    refine key (c+g*y) (by omega) (by omega) (fun h=>absurd h (by omega)) ?_
    rw [take_succ hx,take_succ hy,hI]
    grind
   ·refine key c c1.1 (by omega) (fun _=>c1.2) ?_
    rw [take_succ hx,take_stay (a:=v) (by omega),hI]
    grind
  ·have hke:k=v.length+1:=by omega
   have hc0:=c2 hke
   subst hke
   rw [take_all (by omega),take_all (by omega),take_all (l:=v) (by omega),hc0] at hI
   show lv o=_+pw (v.length+1)*b
   rw [hI]; simp
 obtain ⟨⟨o,b⟩,hL,o1,o2,b1,hO⟩:=l3
 simp only at o1 o2 b1 hO
 have hOlt:=lv_lt o1
 have hOnn:=lv_nn o1
 rw [o2] at hOlt
 have hpos:=pw_pos (v.length+1)
 have hmk:mkL (0:Int) (wa .i64 (v.length:Int) 1)=some (List.replicate (v.length+1) 0):=by
  rw [wa_i (by omega) (by omega)]
  exact Ret.eq (by rw [ret_mkL]; exact ⟨by omega,by omega,by rw [show ((v.length:Int)+1).toNat=v.length+1 by omega]⟩)
 refine ⟨o,?_,o1,by omega,?_⟩
 ·unfold m_ic
  rw [hmk,obs,hL,obs]
  simp only
  rcases b1 with hb | hb
  ·rw [hb] at hO
   rw [if_pos hb,if_pos (by omega)]
   refine Ret.eq ?_
   rw [ret_bind]
   refine (ret_loop (Post:=fun r=>r=A++o++Z) (v.length+1) (fun k (s:List Int×Int)=>s=(A++(o.take k++W.drop k)++Z,(k:Int))∧k≤v.length+1) ⟨by simp,by omega⟩ ?_ (by omega)).mono ?_
   ·rintro k _ hk ⟨rfl,hk1⟩
    unfold m_h9
    simp only
    rw [ret_if]
    refine ⟨fun hle=>?_,fun hgt=>⟨_,rfl,?_⟩⟩
    ·obtain ⟨x,hx⟩:=get_of (l:=o) (k:=k) (by omega)
     obtain ⟨y,hy⟩:=get_of (l:=W) (k:=k) (by omega)
     have h1:=(List.getElem?_eq_some_iff.1 hy)
     rw [ret_at hx rfl,obs,wa_i (x:=(k:Int)) (y:=(A.length:Int)) (by omega) (by omega),ret_bind,ret_set]
     have hlen:(A++(o.take k++W.drop k)++Z).length=A.length+W.length+Z.length:=by
      simp only [List.length_append,List.length_take,List.length_drop]; omega
     refine ⟨by omega,by rw [hlen]; omega,_,rfl,by omega,?_,by omega⟩
     rw [wa_i (by omega) (by omega),show ((k:Int)+(A.length:Int)).toNat=A.length+k by omega]
     have hotk:(o.take k).length=k:=by rw [List.length_take]; omega
     have hset:(A++(o.take k++W.drop k)++Z).set (A.length+k) x=A++(o.take (k+1)++W.drop (k+1))++Z:=by
      have hdk:W.drop k=y::W.drop (k+1):=by rw [List.drop_eq_getElem_cons h1.1,h1.2]
      rw [List.append_assoc,List.set_append_right _ _ (by omega),Nat.add_sub_cancel_left,List.append_assoc,List.set_append_right _ _ (by omega),hotk,Nat.sub_self,hdk,tks hx]
      simp only [List.append_assoc,List.cons_append,List.nil_append,List.set_cons_zero]
     rw [hset]; rfl
    ·have hke:k=v.length+1:=by omega
     subst hke
     show A++(o.take (v.length+1)++W.drop (v.length+1))++Z=_
     rw [take_all (by omega),List.drop_of_length_le (by omega),List.append_nil]
   ·rintro _ rfl
    exact ⟨_,rfl,rfl⟩
  ·rw [hb] at hO
   rw [if_neg (by omega),if_neg (by omega)]
 ·intro hle
  rcases b1 with hb | hb
  ·rw [hb] at hO; omega
  ·rw [hb] at hO; omega
theorem divLR_ok {b u0 v:List Int} {K m:Nat} (hu:LW u0) (hv:LW v) (hvl:v.length=m+1) (hbl:b.length=m+1) (hul:u0.length=K+m+1) (hK:K+m≤4000) (htop:∀ x,v[m]?=some x→0 < x) (h0:lv (u0.drop K) < lv v):
  Ret (loop (m_ie b v) (u0,List.replicate K 0,(K:Int) - 1)) (fun r=>LW r.2∧r.2.length=K∧LW r.1∧r.1.length=u0.length∧lv u0=lv r.2*lv v+lv r.1∧lv r.1 < lv v):=by
 have e:B=4294967296:=rfl
 refine (ret_loop (Post:=fun r:List Int×List Int=>LW r.2∧r.2.length=K∧LW r.1∧r.1.length=u0.length∧lv u0=lv r.2*lv v+lv r.1∧lv r.1 < lv v) K (fun k (s:List Int×List Int×Int)=>s.2.2=(K:Int) - 1 - k∧k≤K∧LW s.2.1∧s.2.1.length=K∧LW s.1∧s.1.length=u0.length∧s.1.take (K - k)=u0.take (K - k)∧lv (u0.drop (K - k))=lv (s.2.1.drop (K - k))*lv v+lv (s.1.drop (K - k))∧lv (s.1.drop (K - k)) < lv v) ⟨by show (K:Int) - 1=_; omega,by omega,lw_zeros K,List.length_replicate ..,hu,rfl,rfl,by show lv (u0.drop (K - 0))=lv ((List.replicate K (0:Int)).drop (K - 0))*lv v+lv (u0.drop (K - 0)); rw [Nat.sub_zero,List.drop_replicate,Nat.sub_self]; simp [lv],h0⟩ ?_ (by omega))
 rintro k ⟨u,q,_⟩ hk ⟨rfl,hkK,q1,q2,u1,u2,u3,u4,u5⟩
 simp only at q1 q2 u1 u2 u3 u4 u5
 unfold m_ie
 simp only
 rw [ret_if]
 refine ⟨fun hge=>?_,fun hlt=>⟨_,rfl,q1,q2,u1,u2,?_,?_⟩⟩
 ·obtain ⟨J,hJ⟩:∃ J:Nat,K=J+(k+1):=⟨K - (k+1),by omega⟩
  have e1:(K:Int) - 1 - (k:Int)=(J:Int):=by omega
  have e2:K - k=J+1:=by omega
  have e3:K - (k+1)=J:=by omega
  rw [e2] at u3 u4 u5
  obtain ⟨x,hx⟩:=get_of (l:=u) (k:=J) (by omega)
  have hxB:=LW.get u1 hx
  have hxu0:u0[J]?=some x:=by
   have h1:(u.take (J+1))[J]?=u[J]?:=by rw [List.getElem?_take,if_pos (by omega)]
   have h2:(u0.take (J+1))[J]?=u0[J]?:=by rw [List.getElem?_take,if_pos (by omega)]
   rw [← h2,← u3,h1]; exact hx
  have hD:=lv_drop hx
  have hD0:=lv_drop hxu0
  have hvlt:=lv_lt hv
  rw [hvl] at hvlt
  have hn5:=lv_nn (LW.drop u1 (J+1))
  have hsplit:u=u.take J++(u.drop J).take (m+2)++u.drop (J+(m+2)):=by
   rw [List.append_assoc]
   have h1:(u.drop J).take (m+2)++u.drop (J+(m+2))=u.drop J:=by rw [← List.drop_drop,List.take_append_drop]
   rw [h1,List.take_append_drop]
  have hAl:(u.take J).length=J:=by rw [List.length_take]; omega
  have hWl:((u.drop J).take (m+2)).length=m+2:=by rw [List.length_take,List.length_drop]; omega
  have hWlw:LW ((u.drop J).take (m+2)):=LW.take (LW.drop u1 J) _
  have hZlw:LW (u.drop (J+(m+2))):=LW.drop u1 _
  have hDW:lv (u.drop J)=lv ((u.drop J).take (m+2))+pw (m+2)*lv (u.drop (J+(m+2))):=by
   rw [take_drop (u.drop J) (k:=m+2) (by rw [List.length_drop]; omega),List.drop_drop]
  have hDlt:lv (u.drop J) < lv v*B:=by
   have:B*(lv (u.drop (J+1))+1)≤B*lv v:=Int.mul_le_mul_of_nonneg_left (by omega) (by omega)
   rw [Int.mul_add,Int.mul_one] at this
   rw [Int.mul_comm (lv v)]; omega
  have hWnn:=lv_nn hWlw
  have hZnn:=lv_nn hZlw
  have hp3:pw (m+2)=B*pw (m+1):=rfl
  have hVB:lv v*B≤pw (m+2):=by
   rw [hp3,Int.mul_comm B]; exact Int.mul_le_mul_of_nonneg_right (by omega) (by omega)
  have hZ0:lv (u.drop (J+(m+2)))=0:=by
   refine Classical.byContradiction fun hc=>?_
   have:pw (m+2)*1≤pw (m+2)*lv (u.drop (J+(m+2))):=Int.mul_le_mul_of_nonneg_left (by omega) (by have:=pw_pos (m+2); omega)
   omega
  rw [hZ0,Int.mul_zero,Int.add_zero] at hDW
  have hVpos:0 < lv v:=by omega
  have hd0:0≤lv (u.drop J) / lv v:=Int.ediv_nonneg (by omega) (by omega)
  have hd1:lv (u.drop J) / lv v < B:=Int.ediv_lt_of_lt_mul hVpos (by rw [Int.mul_comm]; exact hDlt)
  have hdm:=Int.mul_ediv_add_emod (lv (u.drop J)) (lv v)
  have hr0:=Int.emod_nonneg (lv (u.drop J)) (show lv v≠0 by omega)
  have hr1:=Int.emod_lt_of_pos (lv (u.drop J)) hVpos
  obtain ⟨vt,gt⟩:=get_of (l:=v) (k:=m) (by omega)
  obtain ⟨w1,k1⟩:=get_of (l:=u) (k:=J+m) (by omega)
  obtain ⟨wt,kt⟩:=get_of (l:=u) (k:=J+(m+1)) (by omega)
  have bt:=LW.get hv gt
  have c1:=LW.get u1 k1
  have ct:=LW.get u1 kt
  have hvt:=htop vt gt
  have hV:lv v=vt*pw m+lv (v.take m):=by
   rw [take_drop v (show m≤v.length by omega),lv_drop gt,List.drop_of_length_le (by omega)]
   simp only [lv]; grind
  have hU:lv (u.drop J)=(wt*B+w1)*pw m+lv ((u.drop J).take m):=by
   rw [take_drop (u.drop J) (show m≤(u.drop J).length by rw [List.length_drop]; omega),List.drop_drop,lv_drop k1,show J+m+1=J+(m+1) by omega,lv_drop kt,show J+(m+1)+1=J+(m+2) by omega,hZ0]
   grind
  have tv:=take_lt hv (i:=m) (by omega)
  have tw:=take_lt (LW.drop u1 J) (i:=m) (by rw [List.length_drop]; omega)
  have hge:lv (u.drop J) / lv v*vt≤wt*B+w1:=guess_ge (P:=pw m) (Qt.ediv hVpos) (pw_pos m) hU tw.2 hV tv.1 hvt hd0
  have et:wor .u64 (wslc .u64 (wc .u64 wt) 32) (wc .u64 w1)=wt*B+w1:=by
   rw [wc_u64_in (x:=wt) ⟨ct.1,by omega⟩,wc_u64_in (x:=w1) ⟨c1.1,by omega⟩,wslc32 ct,wor_hi ct c1]
  have t0:0≤wt*B+w1:=by have:=Int.mul_nonneg ct.1 (show 0≤B by omega); omega
  have t1:wt*B+w1 < 18446744073709551616:=by rw [e]; omega
  have hcv:wc .u64 vt=vt:=wc_u64_in ⟨by omega,by omega⟩
  have hwq:wq .u64 (wt*B+w1) vt=some ((wt*B+w1) / vt):=by
   unfold wq
   have h0:0≤(wt*B+w1) / vt:=Int.ediv_nonneg t0 (by omega)
   have h1:(wt*B+w1) / vt≤wt*B+w1:=Int.ediv_le_self _ t0
   rw [if_neg (by omega),Int.tdiv_eq_ediv_of_nonneg t0,IntWalk.u64_in _ ⟨h0,by omega⟩]
  have hq1:lv (u.drop J) / lv v≤(wt*B+w1) / vt:=(Int.le_ediv_iff_mul_le (by omega)).2 hge
  have hbn:(b.length:Int)=((m+1:Nat):Int):=by rw [hbl]
  have i1:wa .i64 (J:Int) ((m+1:Nat):Int)=((J+(m+1):Nat):Int):=by rw [wa_i (by omega) (by omega)]; omega
  have i2:ws .i64 ((J+(m+1):Nat):Int) 1=((J+m:Nat):Int):=by rw [ws_i (by omega) (by omega)]; omega
  have i3:ws .i64 ((m+1:Nat):Int) 1=(m:Int):=by rw [ws_i (by omega) (by omega)]; omega
  rw [e1,hbn,i1,i2,i3,ret_at kt rfl,obs,ret_at k1 rfl,obs,ret_at gt rfl,obs,et,hcv,hwq,obs,ret_bind]
  have hg0:0≤imin ((wt*B+w1) / vt) 4294967295∧imin ((wt*B+w1) / vt) 4294967295 < B∧lv (u.drop J) / lv v≤imin ((wt*B+w1) / vt) 4294967295:=by unfold imin; split<;>omega
  refine (ret_loopG (Post:=fun r:List Int×Int=>∃ X,r=(u.take J++X++u.drop (J+(m+2)),lv (u.drop J) / lv v)∧LW X∧X.length=m+2∧lv X=lv (u.drop J) % lv v) (fun (s:List Int×Int)=>s.1=u∧s.2 < B∧lv (u.drop J) / lv v≤s.2) (fun s=>s.2.toNat) ⟨rfl,hg0.2.1,hg0.2.2⟩ (by show (imin _ _).toNat < _; omega) ?_).mono ?_
  ·rintro ⟨u',g⟩ ⟨hu',hgB,hgQ⟩
   simp only at hu' hgB hgQ
   unfold m_id
   simp only
   rw [hu']
   obtain ⟨X,hX,x1,x2,x3⟩:=take_ok (A:=u.take J) (W:=(u.drop J).take (m+2)) (Z:=u.drop (J+(m+2))) (g:=g) ⟨by omega,hgB⟩ hWlw hv (by omega) (by omega) (by omega)
   rw [← hsplit,← hDW,hAl] at hX
   rw [← hDW] at x3
   rw [hX,obs]
   by_cases hle:g*lv v≤lv (u.drop J)
   ·rw [if_pos hle,if_pos rfl]
    have hgq:g=lv (u.drop J) / lv v:=Int.le_antisymm ((Int.le_ediv_iff_mul_le hVpos).2 hle) hgQ
    refine ⟨_,rfl,X,by rw [hgq],x1,by omega,?_⟩
    rw [x3 hle,hgq]
    have h8:lv (u.drop J) / lv v*lv v=lv v*(lv (u.drop J) / lv v):=Int.mul_comm _ _
    omega
   ·rw [if_neg hle,if_neg (by simp)]
    have hlt:lv (u.drop J) / lv v < g:=by
     refine Classical.byContradiction fun hc=>hle ?_
     exact (Int.le_ediv_iff_mul_le hVpos).1 (by omega)
    have hw:ws .u64 g 1=g - 1:=by rw [ws_u64]; omega
    refine ⟨_,rfl,⟨rfl,?_,?_⟩,?_⟩
    ·show ws .u64 g 1 < B; omega
    ·show _≤ws .u64 g 1; omega
    ·show (ws .u64 g 1).toNat < g.toNat; omega
  ·rintro _ ⟨X,rfl,x1,x2,x3⟩
   simp only
   rw [wc_u32_in ⟨hd0,hd1⟩,ret_bind,ret_set,Int.toNat_natCast]
   have hUl:(u.take J++X++u.drop (J+(m+2))).length=u0.length:=by
    rw [List.length_append,List.length_append,hAl,x2,List.length_drop]; omega
   have hUd:lv ((u.take J++X++u.drop (J+(m+2))).drop J)=lv X:=by
    rw [List.append_assoc,List.drop_left' hAl,lv_app,hZ0]; omega
   refine ⟨by omega,by omega,_,rfl,by omega,?_,by omega,lw_set q1 ⟨hd0,hd1⟩,by show (q.set J _).length=K; rw [List.length_set,q2],LW.app.2 ⟨LW.app.2 ⟨LW.take u1 _,x1⟩,hZlw⟩,hUl,?_,?_,?_⟩
   ·show ws .i64 (J:Int) 1=_; rw [ws_i (by omega) (by omega)]; omega
   ·rw [e3]
    show (u.take J++X++u.drop (J+(m+2))).take J=_
    rw [List.append_assoc,List.take_left' hAl]
    have h1:u.take J=(u.take (J+1)).take J:=by rw [List.take_take,Nat.min_eq_left (by omega)]
    rw [h1,u3,List.take_take,Nat.min_eq_left (by omega)]
   ·rw [e3]
    show lv (u0.drop J)=lv ((q.set J (lv (u.drop J) / lv v)).drop J)*lv v+lv ((u.take J++X++u.drop (J+(m+2))).drop J)
    have hqJ:(q.set J (lv (u.drop J) / lv v))[J]?=some (lv (u.drop J) / lv v):=by rw [List.getElem?_set_self]; omega
    rw [hUd,x3,lv_drop hqJ,List.drop_set_of_lt (by omega),hD0,u4]
    generalize lv (u.drop J) / lv v=Q at*
    generalize lv (u.drop J) % lv v=R at*
    have h9:(Q+B*lv (q.drop (J+1)))*lv v=lv v*Q+B*(lv (q.drop (J+1))*lv v):=by grind
    rw [h9,Int.mul_add]
    omega
   ·rw [e3]
    show lv ((u.take J++X++u.drop (J+(m+2))).drop J) < lv v
    rw [hUd,x3]; exact hr1
 ·have ek:K - k=0:=by omega
  rw [ek] at u4
  exact u4
 ·have ek:K - k=0:=by omega
  rw [ek] at u5
  exact u5
theorem lost_ok {l:List Int} (hn:l.length≤1000000) {N:Int} {q:Nat} (hq:wqc .i64 N 32=(q:Int)):∃ b,loop (m_u N l) (false,0)=some b∧((∀ x,x∈l.take q→x=0)→b=false):=by
 refine ret_loop l.length (fun k (t:Bool×Int)=>t.2=(k:Int)∧k≤l.length∧((∀ x,x∈l.take q→x=0)→t.1=false)) ⟨rfl,by omega,fun _=>rfl⟩ ?_ (by omega)
 rintro k ⟨b,_⟩ hk ⟨rfl,_,h1⟩
 simp only at h1
 unfold m_u
 simp only
 rw [hq,ret_if]
 refine ⟨fun hc=>?_,fun _=>⟨_,rfl,h1⟩⟩
 rw [Bool.and_eq_true,decide_eq_true_eq,decide_eq_true_eq] at hc
 obtain ⟨x,hx⟩:=get_of (l:=l) (k:=k) (by omega)
 have e1:∃ c,(if b=true then some true else (getI l (k:Int)).bind fun x93=>some (!(decide (x93=0))))=some c∧((∀ x,x∈l.take q→x=0)→c=false):=by
  split
  ·rename_i hb
   exact ⟨_,rfl,fun h=>by rw [h1 h] at hb; cases hb⟩
  ·rw [ret_at hx rfl,obs]
   refine ⟨_,rfl,fun h=>?_⟩
   have hm:x∈l.take q:=by
    have:(l.take q)[k]?=some x:=by rw [List.getElem?_take,if_pos (by omega)]; exact hx
    exact mem_get this
   rw [h x hm]; rfl
 obtain ⟨c,hc1,hc2⟩:=e1
 rw [hc1,obs]
 exact ⟨_,rfl,by omega,by show wa .i64 (k:Int) 1=_; rw [wa_i (by omega) (by omega)]; rfl,by omega,hc2⟩
theorem shrG_ok {l:List Int} (hl:LW l) (hn:l.length≤5000) {q s:Nat} (hq1:q≤1000000) (hs:s < 32):Ret (m_v l ((32*q+s:Nat):Int)) (fun r=>LW r.1∧r.1.length≤l.length∧lv r.1=lv l / (pw q*2 ^ s)∧(Tm l→lv l % (pw q*2 ^ s)=0→r.2=false)):=by
 have e:B=4294967296:=rfl
 obtain ⟨hq,hr⟩:=any_shift (q:=q) (by omega) hs
 obtain ⟨p1,p2,p3,p4⟩:=two_pow hs
 obtain ⟨b0,hb0,hb1⟩:=lost_ok (l:=l) (by omega) hq
 have ppos:=pw_pos q
 unfold m_v
 rw [hb0,obs,hq,ret_bind]
 have hZ:Tm l→lv l % (pw q*2 ^ s)=0→l.length≤q→l=[]:=fun ht hm h0=>by
  have hb:=lv_lt hl
  have hle:pw l.length≤pw q:=pw_mono (by omega)
  have hle2:pw q*1≤pw q*2 ^ s:=Int.mul_le_mul_of_nonneg_left (by omega) (by omega)
  rw [Int.emod_eq_of_lt (lv_nn hl) (by omega)] at hm
  exact tm_inj hl (b:=[]) (by intro x hx; cases hx) ht tm_nil hm
 have hb2:Tm l→lv l % (pw q*2 ^ s)=0→b0=false:=fun ht hm=>by
  by_cases h0:l.length≤q
  ·refine hb1 ?_
   rw [hZ ht hm h0]
   intro x hx; simp at hx
  ·exact hb1 (dv_low hl hs (by omega) hm).1
 refine (ret_loop (Post:=fun o:Bool×List Int=>LW o.2∧o.2.length≤l.length∧lv o.2=lv l / (pw q*2 ^ s)∧(Tm l→lv l % (pw q*2 ^ s)=0→o.1=false)) (l.length - q) (fun i (t:Bool×List Int×Int)=>t.2.2=((q+i:Nat):Int)∧LW t.2.1∧t.2.1.length=i∧lv t.2.1+pw i*(lv (l.drop (q+i)) / 2 ^ s)=lv l / (pw q*2 ^ s)∧(Tm l→lv l % (pw q*2 ^ s)=0→t.1=false)) ⟨rfl,by intro x hx; simp at hx,rfl,?_,hb2⟩ ?_ (by omega)).mono ?_
 ·show lv []+pw 0*(lv (l.drop (q+0)) / 2 ^ s)=_
  rw [Nat.add_zero]
  by_cases h0:q≤l.length
  ·rw [div_lim hl h0 s]; simp [lv,pw]
  ·have hb:=lv_lt hl
   have hle:pw l.length≤pw q:=pw_mono (by omega)
   have hle2:pw q*1≤pw q*2 ^ s:=Int.mul_le_mul_of_nonneg_left (by omega) (by omega)
   rw [Int.ediv_eq_zero_of_lt (lv_nn hl) (by omega),List.drop_of_length_le (by omega)]
   show (0:Int)+1*(0 / 2 ^ s)=0
   rw [Int.zero_ediv]; rfl
 ·rintro i ⟨b,o,_⟩ hi ⟨rfl,h1,h2,h3,h4⟩
  simp only at h1 h2 h3 h4
  unfold m_t
  simp only
  rw [ret_if]
  refine ⟨fun hlt=>?_,fun hge=>⟨_,rfl,h1,by show o.length≤_; omega,?_,h4⟩⟩
  ·have hia:q+i < l.length:=by omega
   obtain ⟨x,hx⟩:=get_of (l:=l) (k:=q+i) hia
   have hxB:=LW.get hl hx
   have eqj:wa .i64 ((q+i:Nat):Int) 1=((q+i+1:Nat):Int):=by rw [wa_i (by omega) (by omega)]; omega
   rw [ret_at hx rfl,obs,eqj]
   have key:∀ y E:Int,0≤y→y < B→0≤E→lv (l.drop (q+i+1))=y+B*E→Ret (m_s ((q+i:Nat):Int) ((32*q+s:Nat):Int) l o b (x+B*y)) (VQ (fun t':Bool×List Int×Int=>i < l.length - q∧t'.2.2=((q+(i+1):Nat):Int)∧LW t'.2.1∧t'.2.1.length=i+1∧lv t'.2.1+pw (i+1)*(lv (l.drop (q+(i+1))) / 2 ^ s)=lv l / (pw q*2 ^ s)∧(Tm l→lv l % (pw q*2 ^ s)=0→t'.1=false)) (fun o:Bool×List Int=>LW o.2∧o.2.length≤l.length∧lv o.2=lv l / (pw q*2 ^ s)∧(Tm l→lv l % (pw q*2 ^ s)=0→o.1=false))):=by
    intro y E y0 y1 E0 hE
    have t0:0≤x+B*y:=by have:=Int.mul_nonneg (show 0≤B by omega) y0; omega
    have t1:x+B*y < 18446744073709551616:=by rw [e]; omega
    have hsh:wshr .u64 (x+B*y) (wrc ((32*q+s:Nat):Int) 32)=some ((x+B*y) / 2 ^ s):=by
     rw [hr]
     unfold wshr
     rw [if_neg (by omega),Int.toNat_natCast]
     show some (Int.fdiv _ (2 ^ min s 64))=_
     rw [Nat.min_eq_left (by omega),Int.fdiv_eq_ediv_of_nonneg _ (by omega)]
    have hm:=Int.emod_nonneg ((x+B*y) / 2 ^ s) (show B≠0 by omega)
    have hm2:=Int.emod_lt_of_pos ((x+B*y) / 2 ^ s) (show 0 < B by omega)
    have fin:∀ c:Bool,(Tm l→lv l % (pw q*2 ^ s)=0→c=false)→Ret (m_r (x+B*y) ((32*q+s:Nat):Int) o ((q+i:Nat):Int) c) (VQ (fun t':Bool×List Int×Int=>i < l.length - q∧t'.2.2=((q+(i+1):Nat):Int)∧LW t'.2.1∧t'.2.1.length=i+1∧lv t'.2.1+pw (i+1)*(lv (l.drop (q+(i+1))) / 2 ^ s)=lv l / (pw q*2 ^ s)∧(Tm l→lv l % (pw q*2 ^ s)=0→t'.1=false)) (fun o:Bool×List Int=>LW o.2∧o.2.length≤l.length∧lv o.2=lv l / (pw q*2 ^ s)∧(Tm l→lv l % (pw q*2 ^ s)=0→o.1=false))):=by
     intro c hc
     unfold m_r
     rw [hsh,obs,wc_u32,ret_bind,ret_app]
     refine ⟨by rw [h2]; simp only [List.length_cons,List.length_nil]; omega,_,rfl,by omega,by show wa .i64 ((q+i:Nat):Int) 1=_; rw [eqj]; rfl,LW.app.2 ⟨h1,LW.one.2 ⟨hm,hm2⟩⟩,by show (o++[_]).length=_; rw [List.length_append,h2]; rfl,?_,hc⟩
     show lv (o++[(x+B*y) / 2 ^ s % B])+pw (i+1)*(lv (l.drop (q+i+1)) / 2 ^ s)=_
     rw [lv_snoc,h2,← h3,lv_drop hx,hE,shr_limb hs hxB y0]
     simp only [pw]
     generalize (x+B*y) / 2 ^ s % B=u
     generalize (y+B*E) / 2 ^ s=v
     grind
    unfold m_s
    have hb:∃ c:Bool,(if ((q+i:Nat):Int)=wqc .i64 ((32*q+s:Nat):Int) 32 then (getI l ((q+i:Nat):Int)).bind fun x76=>(wshl .u32 1 (wrc ((32*q+s:Nat):Int) 32)).bind fun x77=>some (!(decide ((wand .u32 x76 (ws .u32 x77 1))=0))) else some false)=some c∧(lv l % (pw q*2 ^ s)=0→c=false):=by
     split
     ·rename_i he
      rw [hq] at he
      have hi0:i=0:=by omega
      subst hi0
      rw [ret_at hx rfl,obs,hr,sh_one hs,obs]
      refine ⟨_,rfl,fun hm=>?_⟩
      rw [wand_pow hs hxB ((dv_low hl hs (by omega) hm).2 x hx)]; rfl
     ·exact ⟨_,rfl,fun _=>rfl⟩
    obtain ⟨c,hc,hc2⟩:=hb
    rw [hc,obs,ret_if]
    exact ⟨fun ht=>fin _ fun _ hm=>(by rw [hc2 hm] at ht; cases ht),fun _=>fin _ h4⟩
   have hcx:wc .u64 x=x:=wc_u64_in ⟨hxB.1,by omega⟩
   rw [ret_if]
   refine ⟨fun hl2=>?_,fun hl2=>?_⟩
   ·obtain ⟨y,hy⟩:=get_of (l:=l) (k:=q+i+1) (by omega)
    have hyB:=LW.get hl hy
    have hor:wor .u64 (wc .u64 x) (wslc .u64 (wc .u64 y) 32)=x+B*y:=by
     rw [hcx,wc_u64_in (x:=y) ⟨hyB.1,by omega⟩,wslc32 hyB]
     have:wor .u64 x (y*B)=wor .u64 (y*B) x:=by unfold wor; rw [BitVec.or_comm]
     rw [this,wor_hi hyB hxB,Int.mul_comm]; omega
    rw [ret_at hy rfl,obs,hor]
    exact key y (lv (l.drop (q+i+1+1))) hyB.1 hyB.2 (lv_nn (LW.drop hl _)) (lv_drop hy)
   ·have hE:lv (l.drop (q+i+1))=0:=by rw [List.drop_of_length_le (by omega)]; rfl
    have:=key 0 0 (by omega) (by omega) (by omega) (by rw [hE]; rfl)
    rw [Int.mul_zero,Int.add_zero] at this
    rw [hcx]
    exact this
  ·rw [← h3,List.drop_of_length_le (by omega)]
   show lv o=lv o+pw i*(0 / 2 ^ s)
   rw [Int.zero_ediv]; omega
 ·rintro ⟨b,o⟩ ⟨h1,h2,h3,h4⟩
  exact ⟨_,rfl,h1,h2,h3,h4⟩
theorem shrR_ok {l:List Int} (hl:LW l) (hn:l.length≤5000) {s:Nat} (hs:s < 32):Ret (m_v l (s:Int)) (fun r=>LW r.1∧r.1.length≤l.length∧lv r.1=lv l / 2 ^ s):=by
 have:=shrG_ok hl hn (q:=0) (by omega) hs
 rw [show 32*0+s=s by omega] at this
 exact this.mono fun u hu=>⟨hu.1,hu.2.1,by rw [hu.2.2.1]; show _ / (1*_)=_; rw [Int.one_mul]⟩
theorem divMag_ok {a b:List Int} (ha:LW a) (hb:LW b) (ta:Tm a) (tb:Tm b) (hne:b≠[]) (hn:a.length≤900) (hm:b.length≤900):Ret (m_ig a b) (fun r=>LW r.1∧r.1.length≤901∧LW r.2∧r.2.length≤901∧lv r.1=lv a / lv b∧lv r.2=lv a % lv b):=by
 have e:B=4294967296:=rfl
 have hbl:0 < b.length:=List.length_pos_iff.2 hne
 have hbpos:0 < lv b:=by
  have h1:=tm_lower hb tb hne
  have:=pw_pos (b.length - 1)
  omega
 have h0:=lv_nn ha
 unfold m_ig
 rw [cmpMag_ok ha hb ta tb (by omega) (by omega),obs]
 by_cases hlt:lv a < lv b
 ·rw [if_pos hlt,if_pos (by omega)]
  exact ⟨_,rfl,by intro x hx; simp at hx,by simp,ha,by show a.length≤901; omega,by rw [Int.ediv_eq_zero_of_lt h0 hlt]; rfl,by rw [Int.emod_eq_of_lt h0 hlt]⟩
 obtain ⟨m,hbm⟩:∃ m,b.length=m+1:=⟨b.length - 1,by omega⟩
 have hab:b.length≤a.length:=by
  refine Classical.byContradiction fun hc=>?_
  have:=tm_len ha hb ta tb (by omega)
  omega
 obtain ⟨bt,gt⟩:=get_of (l:=b) (k:=m) (by omega)
 have hbt:=LW.get hb gt
 have hbt0:0 < bt:=by
  have:=tb bt (by rw [List.getLast?_eq_getElem?,hbm]; exact gt)
  omega
 obtain ⟨s,hs,hs32,hs1,hs2⟩:=lead_ok hbt0 hbt.2
 obtain ⟨p1,p2,p3,p4⟩:=two_pow hs32
 have hpm:=pw_pos m
 have hV:lv b=lv (b.take m)+pw m*bt:=by rw [← take_succ gt,take_all (by omega)]
 have hbtk:=take_lt hb (i:=m) (by omega)
 have hbt2:bt < 2 ^ (32 - s):=by
  refine Classical.byContradiction fun hc=>?_
  have:2 ^ (32 - s)*2 ^ s≤bt*2 ^ s:=Int.mul_le_mul_of_nonneg_right (by omega) (by omega)
  rw [Int.mul_comm] at this; omega
 have h3:(bt+1)*2 ^ s≤B:=by
  have:(bt+1)*2 ^ s≤2 ^ (32 - s)*2 ^ s:=Int.mul_le_mul_of_nonneg_right (by omega) (by omega)
  rw [Int.mul_comm (2 ^ (32 - s))] at this; omega
 have t1:lv b*2 ^ s < pw (m+1):=by
  have h4:lv b*2 ^ s < (pw m*(bt+1))*2 ^ s:=Int.mul_lt_mul_of_pos_right (by rw [Int.mul_add]; omega) p1
  have h5:pw m*((bt+1)*2 ^ s)≤pw m*B:=Int.mul_le_mul_of_nonneg_left h3 (by omega)
  have h6:pw (m+1)=B*pw m:=rfl
  rw [Int.mul_assoc] at h4
  rw [h6,Int.mul_comm B]; omega
 have t2:2147483648*pw m≤lv b*2 ^ s:=by
  have h4:pw m*bt*2 ^ s≤lv b*2 ^ s:=Int.mul_le_mul_of_nonneg_right (by omega) (by omega)
  have h5:pw m*2147483648≤pw m*(bt*2 ^ s):=Int.mul_le_mul_of_nonneg_left (by omega) (by omega)
  rw [Int.mul_assoc] at h4
  rw [Int.mul_comm 2147483648]; omega
 have hcmp:¬ (if lv a < lv b then (-1:Int) else if lv b < lv a then 1 else 0) < 0:=by rw [if_neg hlt]; split<;>omega
 have hn1:ws .i64 (b.length:Int) 1=(m:Int):=by rw [hbm,ws_i (by omega) (by omega)]; omega
 rw [if_neg hcmp,hn1,ret_at gt rfl,obs,hs,obs,ret_bind]
 refine (shl_ok ha (by omega) hs32).mono ?_
 rintro u0 ⟨w1,w2,w3⟩
 rw [ret_bind]
 refine (shl_ok hb (by omega) hs32).mono ?_
 rintro v0 ⟨y1,y2,y3⟩
 rw [ret_bind,ret_sli]
 refine ⟨by omega,by omega,by omega,?_⟩
 rw [Int.toNat_natCast,show ((0:Int)).toNat=0 from rfl,List.drop_zero,hbm,if_neg (by omega)]
 have v1:LW (v0.take (m+1)):=LW.take y1 _
 have hvl:(v0.take (m+1)).length=m+1:=by rw [List.length_take]; omega
 have v3:lv (v0.take (m+1))=lv b*2 ^ s:=by
  have h9:lv v0=lv (v0.take (m+1))+pw (m+1)*lv (v0.drop (m+1)):=take_drop v0 (by omega)
  have h8:=lv_nn v1
  have h7:=lv_nn (LW.drop y1 (m+1))
  have h6:lv (v0.drop (m+1))=0:=by
   refine Classical.byContradiction fun hc=>?_
   have:pw (m+1)*1≤pw (m+1)*lv (v0.drop (m+1)):=Int.mul_le_mul_of_nonneg_left (by omega) (by have:=pw_pos (m+1); omega)
   omega
  rw [h6] at h9; omega
 generalize v0.take (m+1)=v at*
 obtain ⟨K,hK⟩:∃ K,a.length=K+m:=⟨a.length - m,by omega⟩
 unfold m_if
 have hKe:wa .i64 (ws .i64 (a.length:Int) (b.length:Int)) 1=(K:Int):=by
  rw [ws_i (by omega) (by omega),wa_i (by omega) (by omega)]; omega
 have hKe2:ws .i64 (a.length:Int) (b.length:Int)=(K:Int) - 1:=by rw [ws_i (by omega) (by omega)]; omega
 rw [hKe,hKe2,ret_bind,ret_mkL]
 refine ⟨by omega,by omega,?_⟩
 rw [Int.toNat_natCast,ret_bind]
 have htop:∀ x,v[m]?=some x→0 < x:=by
  intro x hx
  refine Classical.byContradiction fun hc=>?_
  have hVx:lv v=lv (v.take m)+pw m*x:=by rw [← take_succ hx,take_all (by omega)]
  have ht:=take_lt v1 (i:=m) (by omega)
  have h4:pw m*x≤pw m*0:=Int.mul_le_mul_of_nonneg_left (by omega) (by omega)
  omega
 have htopu:lv (u0.drop K) < lv v:=by
  have h9:lv u0=lv (u0.take K)+pw K*lv (u0.drop K):=take_drop u0 (by omega)
  have h8:=lv_nn (LW.take w1 K)
  have hwlt:lv u0 < pw a.length*2 ^ s:=by rw [w3]; exact Int.mul_lt_mul_of_pos_right (lv_lt ha) p1
  have h7:pw K*lv (u0.drop K) < pw a.length*2 ^ s:=by omega
  have h6:pw a.length=pw K*pw m:=by rw [hK,pw_add]
  rw [h6,Int.mul_assoc] at h7
  have h5:lv (u0.drop K) < pw m*2 ^ s:=Int.lt_of_mul_lt_mul_left h7 (Int.le_of_lt (pw_pos K))
  have h4:pw m*2 ^ s≤pw m*2147483648:=Int.mul_le_mul_of_nonneg_left p2 (by omega)
  rw [Int.mul_comm (pw m) 2147483648] at h4
  rw [v3]; omega
 refine (divLR_ok w1 v1 hvl hbm (by omega) (by omega) htop htopu).mono ?_
 rintro ⟨u,q⟩ ⟨q1,q2,u1,u2,u3,u4⟩
 simp only at q1 q2 u1 u2 u3 u4 ⊢
 rw [trimR_ok u1 (by omega),obs,ret_bind]
 have lu:=trim_len u1
 refine (shrR_ok (trimL_lw u1) (by omega) hs32).mono ?_
 rintro ⟨d,lost⟩ ⟨d1,d2,d3⟩
 simp only at d1 d2 d3 ⊢
 rw [trimR_ok q1 (by omega),obs,trimR_ok d1 (by omega),obs]
 rw [trimL_lv] at d3
 have lq:=trim_len q1
 have ld:=trim_len d1
 refine ⟨_,rfl,trimL_lw q1,by show (trimL q).length≤901; omega,trimL_lw d1,by show (trimL d).length≤901; omega,?_⟩
 show lv (trimL q)=_∧lv (trimL d)=_
 rw [trimL_lv,trimL_lv]
 have hunn:=lv_nn u1
 rw [w3,v3] at u3
 rw [v3] at u4
 have hR:lv u=(lv a - lv q*lv b)*2 ^ s:=by
  have:(lv a - lv q*lv b)*2 ^ s=lv a*2 ^ s - lv q*(lv b*2 ^ s):=by grind
  omega
 have r0:0≤lv a - lv q*lv b:=by
  refine Classical.byContradiction fun hc=>?_
  have:(lv a - lv q*lv b)*2 ^ s≤(-1)*2 ^ s:=Int.mul_le_mul_of_nonneg_right (by omega) (by omega)
  omega
 have r1:lv a - lv q*lv b < lv b:=by
  rw [hR] at u4
  exact Int.lt_of_mul_lt_mul_right u4 (Int.le_of_lt p1)
 have hq:lv q=lv a / lv b:=Qt.eq (u:=lv a) (v:=lv b) ⟨by omega,by rw [Int.add_mul,Int.one_mul]; omega⟩ hbpos
 refine ⟨hq,?_⟩
 rw [d3,hR,Int.mul_ediv_cancel _ (by omega)]
 have h9:=Int.mul_ediv_add_emod (lv a) (lv b)
 rw [← hq] at h9
 have h8:lv q*lv b=lv b*lv q:=Int.mul_comm _ _
 omega
end Km
namespace Km
open Sx Go M Vc Lm
theorem quot_uniq {x y z w:Int} (hy:y≠0) (h:x=y*z+w) (h0:0≤w) (h1:w < y∨w < -y):z=x / y∧w=x % y:=by
 have h4:w=x % y:=by
  rw [h,Int.mul_add_emod_self_left]
  rcases h1 with h1 | h1
  ·rw [Int.emod_eq_of_lt h0 h1]
  ·have:=Int.emod_neg w y
   rw [← this,Int.emod_eq_of_lt h0 h1]
 refine ⟨?_,h4⟩
 have h5:=Int.mul_ediv_add_emod x y
 have h6:y*(z - x / y)=0:=by rw [Int.mul_sub]; omega
 rcases Int.mul_eq_zero.1 h6 with h | h
 ·exact absurd h hy
 ·omega
theorem normR_bg {s:Bool} {a:List Int} (ha:LW a) (hn:a.length≤1000000):Ret (m_k s a) (fun r=>Bg (sv s a) r.1 r.2∧r.2.length≤a.length):=by
 have h:=norm_ok s ha hn
 obtain ⟨q,hq,hB⟩:=make_bg s ha hn
 have hN:m_k s a=some q:=by unfold m_k; rw [hq,obs]
 refine ⟨q,hN,hB,?_⟩
 rw [hN] at h
 obtain rfl:=Option.some.inj h
 exact trim_len ha
theorem absR_bg {s:Bool} {a:List Int} (ha:LW a) (hn:a.length≤1000000):Ret (m_o s a) (fun r=>Bg (lv a) r.1 r.2∧r.2.length≤a.length):=by
 unfold m_o
 rw [ret_bind]
 have h:=make1_ok false ha hn
 obtain ⟨q,hq,hB⟩:=make_bg false ha hn
 refine ⟨q,hq,_,rfl,hB,?_⟩
 rw [h] at hq
 obtain rfl:=Option.some.inj hq
 exact trim_len ha
theorem divmodR_bg {s t:Bool} {a b:List Int} (ha:LW a) (hb:LW b) (hn:a.length≤800) (hm:b.length≤800) (hne:sv t b≠0):Ret (m_ij s a t b) (fun r=>Bg (sv s a / sv t b) r.1 r.2.1∧Bg (sv s a % sv t b) r.2.2.1 r.2.2.2):=by
 unfold m_ij
 rw [ret_bind]
 refine (normR_bg (s:=s) ha (by omega)).mono ?_
 rintro ⟨s',a'⟩ ⟨hA,lA⟩
 rw [ret_bind]
 refine (normR_bg (s:=t) hb (by omega)).mono ?_
 rintro ⟨t',b'⟩ ⟨hB,lB⟩
 simp only at hA lA hB lB ⊢
 generalize sv s a=x at*
 generalize sv t b=y at*
 have hb0:b'≠[]:=by
  rintro rfl
  have:=hB.sv
  apply hne; rw [← this]; unfold sv; split<;>rfl
 have hbpos:0 < lv b':=by
  have h1:=tm_lower hB.1 hB.2.1 hb0
  have:=pw_pos (b'.length - 1)
  omega
 have h0:=lv_nn hA.1
 have e0:=Int.emod_nonneg (lv a') (show lv b'≠0 by omega)
 have e1:=Int.emod_lt_of_pos (lv a') hbpos
 have hdm:=Int.mul_ediv_add_emod (lv a') (lv b')
 have hq0:0≤lv a' / lv b':=Int.ediv_nonneg h0 (by omega)
 rw [ret_bind]
 refine (divMag_ok hA.1 hB.1 hA.2.1 hB.2.1 hb0 (by omega) (by omega)).mono ?_
 rintro ⟨q,r⟩ ⟨q1,q2,r1,r2,q3,r3⟩
 simp only at q1 q2 r1 r2 q3 r3 ⊢
 rw [ret_bind]
 refine (make_bg (!(s' == t')) q1 (by omega)).mono ?_
 rintro ⟨qs,ql⟩ hQ
 rw [ret_bind]
 refine (make_bg s' r1 (by omega)).mono ?_
 rintro ⟨rs,rl⟩ hR
 simp only at hQ hR ⊢
 have hap:=lt_pw hA.1 (m:=800) (by omega)
 have hbp:=lt_pw hB.1 (m:=800) (by omega)
 have hqle:lv a' / lv b'≤lv a':=Int.ediv_le_self _ h0
 have hp8:2*pw 800≤pw 801:=by
  have:=pw_pos 800
  show 2*pw 800≤B*pw 800
  unfold B; omega
 have hrl:rl.length≤801:=by refine hR.len ?_ ?_<;>(unfold sv; split<;>omega)
 have hql:ql.length≤801:=by refine hQ.len ?_ ?_<;>(unfold sv; split<;>omega)
 rw [signR_bg hR (by omega),obs,ret_if]
 have vx:=hA.sv
 have vy:=hB.sv
 have n1: -lv b'*(lv a' / lv b')= -(lv b'*(lv a' / lv b')):=by grind
 have n2:lv b'* -(lv a' / lv b')= -(lv b'*(lv a' / lv b')):=by grind
 have n3: -lv b'* -(lv a' / lv b')=lv b'*(lv a' / lv b'):=by grind
 refine ⟨fun hc=>?_,fun hc=>?_⟩
 ·have hneg:sv s' r < 0:=by revert hc; split<;>(try split)<;>omega
  have hs':s'=true:=by
   refine Classical.byContradiction fun h=>?_
   unfold sv at hneg; rw [if_neg h] at hneg
   have:=lv_nn r1; omega
  subst hs'
  rw [ret_bind]
  refine (absR_bg (s:=t') hB.1 (by omega)).mono ?_
  rintro ⟨bs,bl⟩ ⟨hb1,hb2⟩
  simp only at hb1 hb2 ⊢
  rw [ret_bind]
  refine (addR_bg (s:=rs) (t:=bs) hR.1 hb1.1 (by omega) (by omega)).mono ?_
  rintro ⟨us,ul⟩ hU
  simp only at hU ⊢
  rw [hR.sv,hb1.sv] at hU
  unfold sv at hneg
  rw [if_pos rfl,r3] at hneg
  have vr:sv true r= - (lv a' % lv b'):=by unfold sv; rw [if_pos rfl,r3]
  rw [vr] at hU
  unfold sv at vx
  rw [if_pos rfl] at vx
  have fin:∀ (u:Bool) (w:List Int),Bg (if t'=true then sv (!(true == t')) q+1 else sv (!(true == t')) q - 1) u w→Ret (m_ii (us,ul) u w) (fun r=>Bg (x / y) r.1 r.2.1∧Bg (x % y) r.2.2.1 r.2.2.2):=by
   intro u w hw
   obtain ⟨k1,k2⟩:=quot_uniq (x:=x) (y:=y) (z:=if t'=true then sv (!(true == t')) q+1 else sv (!(true == t')) q - 1) (w:=- (lv a' % lv b')+lv b') hne (by
    rw [← vx,← vy]
    unfold sv
    rw [q3]
    cases t'
    ·simp
     have h7:lv b'*(-(lv a' / lv b') - 1)= -(lv b'*(lv a' / lv b')) - lv b':=by grind
     omega
    ·simp
     have h7: -lv b'*(lv a' / lv b'+1)= -(lv b'*(lv a' / lv b')) - lv b':=by grind
     omega) (by omega) (by
    rw [← vy]; unfold sv; split
    ·right; omega
    ·left; omega)
   exact ⟨_,rfl,hw.cast k1,hU.cast k2⟩
  rw [ret_if]
  refine ⟨fun ht=>?_,fun ht=>?_⟩
  ·rw [ret_bind]
   refine (fromR_bg (n:=1) (by omega) (by omega)).mono ?_
   rintro ⟨os,ol⟩ hO
   simp only at hO ⊢
   have hol:ol.length≤1:=hO.len (by decide) (by decide)
   rw [ret_bind]
   refine (addR_bg (s:=qs) (t:=os) hQ.1 hO.1 (by omega) (by omega)).mono fun r hr=>?_
   rw [hQ.sv,hO.sv] at hr
   exact fin _ _ (by rw [if_pos ht]; exact hr)
  ·rw [ret_bind]
   refine (fromR_bg (n:=1) (by omega) (by omega)).mono ?_
   rintro ⟨os,ol⟩ hO
   simp only at hO ⊢
   have hol:ol.length≤1:=hO.len (by decide) (by decide)
   rw [ret_bind]
   refine (subR_bg (s:=qs) (t:=os) hQ.1 hO.1 (by omega) (by omega)).mono fun r hr=>?_
   rw [hQ.sv,hO.sv] at hr
   exact fin _ _ (by rw [if_neg ht]; exact hr)
 ·have hnn:0≤sv s' r:=by
   refine Classical.byContradiction fun h=>hc ?_
   rw [if_pos (by omega)]; omega
  obtain ⟨k1,k2⟩:=quot_uniq (x:=x) (y:=y) (z:=sv (!(s' == t')) q) (w:=sv s' r) hne (by
   rw [← vx,← vy]
   unfold sv
   rw [q3,r3]
   cases s'
   ·cases t'
    ·simp; omega
    ·simp; omega
   ·unfold sv at hnn
    rw [if_pos rfl,r3] at hnn
    cases t'
    ·simp; omega
    ·simp; omega) hnn (by
   rw [← vy]; unfold sv; rw [r3]; split<;>split<;>omega)
  exact ⟨_,rfl,hQ.cast k1,hR.cast k2⟩
theorem pw_two:∀ n,pw n=2 ^ (32*n)
 | 0=>rfl
 | n+1=>by
  rw [Nat.mul_add,Int.pow_add,← pw_two n,Int.mul_comm]
  rfl
theorem pow2_le {k n:Nat} (h:(2:Int) ^ k≤2 ^ n):k≤n:=by
 have h2:(2:Nat) ^ k≤2 ^ n:=by exact_mod_cast h
 exact (Nat.pow_le_pow_iff_right (by omega)).1 h2
theorem half_step {x y:Int} (hy:0 < y) (h:y≤x):2*(y*(x % y))≤x*y:=by
 have h1:=Int.mul_ediv_add_emod x y
 have h2:=Int.emod_nonneg x (show y≠0 by omega)
 have h3:=Int.emod_lt_of_pos x hy
 have h4:1≤x / y:=(Int.le_ediv_iff_mul_le hy).2 (by omega)
 have h5:y*1≤y*(x / y):=Int.mul_le_mul_of_nonneg_left h4 (by omega)
 have h6:2*(x % y)≤x:=by omega
 have h7:2*(x % y)*y≤x*y:=Int.mul_le_mul_of_nonneg_right h6 (by omega)
 have h8:2*(x % y)*y=2*(y*(x % y)):=by grind
 omega
theorem gcd_step {x y:Int} (hy:0 < y):Int.gcd y (x % y)=Int.gcd x y:=by
 have h:=Int.mul_ediv_add_emod x y
 have h2:=Int.gcd_add_mul_left_left y (x % y) (x / y)
 rw [Int.add_comm,h] at h2
 rw [Int.gcd_comm,h2]
structure GI (G:Nat) (n k:Nat) (x y:Int):Prop where
 gx:0≤x
 gy:0≤y
 gg:Int.gcd x y=G
 glt:0 < k→y < x
 gp:x*y*2 ^ k≤2 ^ n
theorem GI.rounds {G n k:Nat} {x y:Int} (h:GI G n k x y) (hk:0 < k) (hy:0 < y):k≤n:=by
 have h1:=h.glt hk
 have h2:0 < x*y:=Int.mul_pos (by omega) hy
 have h3:(0:Int) < 2 ^ k:=Int.pow_pos (by omega)
 have h4:1*2 ^ k≤x*y*2 ^ k:=Int.mul_le_mul_of_nonneg_right (by omega) (by omega)
 exact pow2_le (Int.le_trans (by omega) h.gp)
theorem GI.step {G n k:Nat} {x y:Int} (h:GI G n k x y) (hy:0 < y) (h0:k=0→x*y*2≤2 ^ n):GI G n (k+1) y (x % y):=by
 have h2:=Int.emod_nonneg x (show y≠0 by omega)
 have h3:=Int.emod_lt_of_pos x hy
 refine ⟨h.gy,h2,(gcd_step hy).trans h.gg,fun _=>h3,?_⟩
 have hp:(0:Int) < 2 ^ k:=Int.pow_pos (by omega)
 by_cases hxy:y≤x
 ·have h4:=half_step hy hxy
  have h5:2*(y*(x % y))*2 ^ k≤x*y*2 ^ k:=Int.mul_le_mul_of_nonneg_right h4 (by omega)
  have h6:y*(x % y)*2 ^ (k+1)=2*(y*(x % y))*2 ^ k:=by rw [Int.pow_succ]; grind
  have:=h.gp
  omega
 ·have hk:k=0:=by
   refine Classical.byContradiction fun hc=>?_
   have:=h.glt (by omega)
   omega
  have h4:=h0 hk
  subst hk
  rw [Int.emod_eq_of_lt h.gx (by omega)]
  have:y*x*2 ^ (0+1)=x*y*2:=by rw [Int.mul_comm y]; rfl
  omega
theorem gcdP_ok {s t:Bool} {a b:List Int} (ha:LW a) (hb:LW b) (hn:a.length≤400) (hm:b.length≤400):Ret (m_fy s a t b) (fun r=>Bg ((Int.gcd (sv s a) (sv t b):Nat):Int) r.1 r.2):=by
 have hgv:Int.gcd (sv s a) (sv t b)=Int.gcd (lv a) (lv b):=by unfold sv; cases s<;>cases t<;>simp [Int.gcd_neg,Int.neg_gcd]
 rw [hgv]
 have la:=trim_len ha
 have lb:=trim_len hb
 obtain ⟨n,hn1,hn2⟩:∃ n:Nat,n < 100000∧lv a*lv b*2≤2 ^ n:=by
  refine ⟨32*400+32*400+1,by omega,?_⟩
  rw [Int.pow_succ,Int.pow_add,← pw_two]
  have h1:=lt_pw ha hn
  have h2:=lt_pw hb hm
  have:=Int.mul_le_mul (Int.le_of_lt h1) (Int.le_of_lt h2) (lv_nn hb) (Int.le_of_lt (pw_pos 400))
  omega
 unfold m_fy
 rw [trim_ok ha (by omega),obs,clone_ok (by omega),obs,trim_ok hb (by omega),obs,clone_ok (by omega),obs,ret_bind]
 have hstart:GI (Int.gcd (lv a) (lv b)) n 0 (lv (trimL a)) (lv (trimL b)):=by
  rw [trimL_lv,trimL_lv]
  refine ⟨lv_nn ha,lv_nn hb,rfl,fun h=>absurd h (by omega),?_⟩
  rw [Int.pow_zero]
  have:=Int.mul_nonneg (lv_nn ha) (lv_nn hb)
  omega
 have hab:∀ x y:Int,x=lv (trimL a)→y=lv (trimL b)→x*y*2≤2 ^ n:=by
  rintro _ _ rfl rfl
  rw [trimL_lv,trimL_lv]; exact hn2
 refine (ret_loop (Post:=fun o:List Int=>LW o∧Tm o∧o.length≤400∧lv o=((Int.gcd (lv a) (lv b):Nat):Int)) (n+1) (fun k (p:List Int×List Int)=>(LW p.1∧Tm p.1∧p.1.length≤400)∧(LW p.2∧Tm p.2∧p.2.length≤400)∧GI (Int.gcd (lv a) (lv b)) n k (lv p.1) (lv p.2)∧(k=0→p=(trimL a,trimL b))) ⟨⟨trimL_lw ha,trimL_tm a,by show (trimL a).length≤400; omega⟩,⟨trimL_lw hb,trimL_tm b,by show (trimL b).length≤400; omega⟩,hstart,fun _=>rfl⟩ ?_ (by omega)).mono ?_
 ·rintro k ⟨x,y⟩ hk ⟨⟨x1,x2,x3⟩,⟨y1,y2,y3⟩,hG,hk0⟩
  simp only at x1 x2 x3 y1 y2 y3 hG
  unfold m_fx
  simp only
  rw [ret_if]
  refine ⟨fun hy=>?_,fun hy=>⟨_,rfl,x1,x2,x3,?_⟩⟩
  ·have hne:y≠[]:=by rintro rfl; simp at hy
   have hyp:0 < lv y:=by
    have h1:=tm_lower y1 y2 hne
    have:=pw_pos (y.length - 1)
    omega
   obtain ⟨q,r,hd,q1,q2,r1,r2,q3,r3⟩:=divide_ok x1 y1 x2 y2 hne (by omega) (by omega)
   rw [hd,obs]
   have hstep:=hG.step hyp (fun h=>by
    have:=hk0 h
    injection this with e1 e2
    exact hab _ _ (by rw [e1]) (by rw [e2]))
   have hrl:r.length≤400:=by
    refine len_le r1 r2 ?_
    have h1:=lt_pw y1 y3
    have h2:=Int.emod_lt_of_pos (lv x) hyp
    omega
   refine ⟨_,rfl,?_,⟨y1,y2,y3⟩,⟨r1,r2,hrl⟩,?_,fun h=>absurd h (by omega)⟩
   ·rcases Nat.eq_zero_or_pos k with h | h
    ·omega
    ·have:=hG.rounds h hyp; omega
   ·show GI _ n (k+1) (lv y) (lv r)
    rw [r3]; exact hstep
  ·have:y=[]:=List.eq_nil_of_length_eq_zero (by omega)
   subst this
   have hg:=hG.gg
   show lv x=_
   have hz:lv ([]:List Int)=0:=rfl
   rw [hz,Int.gcd_zero_right] at hg
   rw [← hg]
   have:=lv_nn x1
   omega
 ·rintro o ⟨o1,o2,o3,o4⟩
  rw [ret_bind]
  refine (big_bg false o1 (by omega)).mono fun r hr=>⟨_,rfl,hr.cast ?_⟩
  rw [← o4]; rfl
theorem gcdR_ok {s t:Bool} {a b:List Int} (ha:LW a) (hb:LW b) (hn:a.length≤400) (hm:b.length≤400):Ret (m_il s a t b) (fun r=>Bg ((Int.gcd (sv s a) (sv t b):Nat):Int) r.1 r.2):=by
 have hgv:Int.gcd (sv s a) (sv t b)=Int.gcd (lv a) (lv b):=by unfold sv; cases s<;>cases t<;>simp [Int.gcd_neg,Int.neg_gcd]
 rw [hgv]
 have h1a:=lt_pw ha hn
 have h1b:=lt_pw hb hm
 have nna:=lv_nn ha
 have nnb:=lv_nn hb
 obtain ⟨n,hn1,hn2⟩:∃ n:Nat,n < 100000∧lv a*lv b*2≤2 ^ n:=by
  refine ⟨32*400+32*400+1,by omega,?_⟩
  rw [Int.pow_succ,Int.pow_add,← pw_two]
  have:=Int.mul_le_mul (Int.le_of_lt h1a) (Int.le_of_lt h1b) nnb (Int.le_of_lt (pw_pos 400))
  omega
 unfold m_il
 rw [ret_bind]
 refine (absR_bg (s:=s) ha (by omega)).mono ?_
 rintro ⟨sa,xa⟩ ⟨hA,lA⟩
 rw [ret_bind]
 refine (absR_bg (s:=t) hb (by omega)).mono ?_
 rintro ⟨sb,xb⟩ ⟨hB,lB⟩
 simp only at hA lA hB lB ⊢
 rw [ret_bind]
 refine (ret_loop (Post:=fun o:Bool×List Int=>Bg ((Int.gcd (lv a) (lv b):Nat):Int) o.1 o.2) (n+1) (fun k (p:Bool×List Int×Bool×List Int)=>∃ x y,Bg x p.1 p.2.1∧Bg y p.2.2.1 p.2.2.2∧x < pw 400∧y < pw 400∧GI (Int.gcd (lv a) (lv b)) n k x y∧(k=0→x=lv a∧y=lv b)) ⟨lv a,lv b,hA,hB,h1a,h1b,⟨nna,nnb,rfl,fun h=>absurd h (by omega),by rw [Int.pow_zero]; have:=Int.mul_nonneg nna nnb; omega⟩,fun _=>⟨rfl,rfl⟩⟩ ?_ (by omega)).mono ?_
 ·rintro k ⟨sx,xx,sy,yy⟩ hk ⟨x,y,hX,hY,xp,yp,hG,hk0⟩
  simp only at hX hY
  have hx0:=hG.gx
  have hy0:=hG.gy
  have lX:xx.length≤400:=hX.len (by have:=pw_pos 400; omega) xp
  have lY:yy.length≤400:=hY.len (by have:=pw_pos 400; omega) yp
  unfold m_ik
  simp only
  rw [signR_bg hY (by omega),obs,ret_if]
  refine ⟨fun hz=>⟨_,rfl,?_⟩,fun hz=>?_⟩
  ·have:y=0:=by revert hz; split<;>(try split)<;>omega
   subst this
   have hg:=hG.gg
   rw [Int.gcd_zero_right] at hg
   exact hX.cast (by omega)
  ·have hyp:0 < y:=by
    refine Classical.byContradiction fun hc=>hz ?_
    rw [if_neg (by omega),if_neg (by omega)]
   rw [ret_bind]
   refine (divmodR_bg (s:=sx) (t:=sy) hX.1 hY.1 (by omega) (by omega) (by rw [hY.sv]; omega)).mono fun r hr=>?_
   rw [hX.sv,hY.sv] at hr
   have h2:=Int.emod_lt_of_pos x hyp
   refine ⟨_,rfl,?_,y,x % y,hY,hr.2,yp,by omega,hG.step hyp (fun h=>?_),fun h=>absurd h (by omega)⟩
   ·rcases Nat.eq_zero_or_pos k with h | h
    ·omega
    ·have:=hG.rounds h hyp; omega
   ·obtain ⟨rfl,rfl⟩:=hk0 h
    exact hn2
 ·rintro o ho
  exact ⟨_,rfl,ho⟩
end Km
namespace Km
open Sx Go Vc Lm
theorem and_split {k a b c d:Nat} (hb:b < 2 ^ k) (hd:d < 2 ^ k):(2 ^ k*a+b) &&& (2 ^ k*c+d)=2 ^ k*(a &&& c)+(b &&& d):=by
 refine Nat.eq_of_testBit_eq fun i=>?_
 rw [Nat.testBit_and,Nat.testBit_two_pow_mul_add a hb,Nat.testBit_two_pow_mul_add c hd,Nat.testBit_two_pow_mul_add _ (Nat.lt_of_le_of_lt Nat.and_le_left hb)]
 by_cases h:i < k
 ·simp only [h,if_true,Nat.testBit_and]
 ·simp only [h,if_false,Nat.testBit_and]
theorem or_split {k a b c d:Nat} (hb:b < 2 ^ k) (hd:d < 2 ^ k):(2 ^ k*a+b) ||| (2 ^ k*c+d)=2 ^ k*(a ||| c)+(b ||| d):=by
 refine Nat.eq_of_testBit_eq fun i=>?_
 rw [Nat.testBit_or,Nat.testBit_two_pow_mul_add a hb,Nat.testBit_two_pow_mul_add c hd,Nat.testBit_two_pow_mul_add _ (Nat.or_lt_two_pow hb hd)]
 by_cases h:i < k
 ·simp only [h,if_true,Nat.testBit_or]
 ·simp only [h,if_false,Nat.testBit_or]
theorem wand64 {x y:Nat} (hx:x < 18446744073709551616) (hy:y < 18446744073709551616):wand .u64 (x:Int) (y:Int)=((x &&& y:Nat):Int):=by
 unfold wand
 show IntKind.u64.wrap ((BitVec.ofInt 64 (x:Int) &&& BitVec.ofInt 64 (y:Int)).toNat:Int)=_
 rw [BitVec.toNat_and,bv64 (by omega),bv64 (by omega),Int.toNat_natCast,Int.toNat_natCast]
 have:x &&& y≤x:=Nat.and_le_left
 rw [IntWalk.u64_in _ (by omega)]
theorem wor64 {x y:Nat} (hx:x < 18446744073709551616) (hy:y < 18446744073709551616):wor .u64 (x:Int) (y:Int)=((x ||| y:Nat):Int):=by
 unfold wor
 show IntKind.u64.wrap ((BitVec.ofInt 64 (x:Int) ||| BitVec.ofInt 64 (y:Int)).toNat:Int)=_
 rw [BitVec.toNat_or,bv64 (by omega),bv64 (by omega),Int.toNat_natCast,Int.toNat_natCast]
 have:x ||| y < 2 ^ 64:=Nat.or_lt_two_pow (by omega) (by omega)
 rw [IntWalk.u64_in _ (by omega)]
def Fn_ (s e m:Nat):Nat:=2 ^ 52*(2 ^ 11*s+e)+m
def Fl (s e m:Nat):Int:=(Fn_ s e m:Nat)
theorem fn_lt {s e m:Nat} (hs:s < 2) (he:e < 2048) (hm:m < 4503599627370496):Fn_ s e m < 18446744073709551616:=by unfold Fn_; omega
theorem fl_ex {x:Int} (h0:0≤x) (h1:x < 18446744073709551616):∃ s e m,s < 2∧e < 2048∧m < 4503599627370496∧x=Fl s e m:=by
 refine ⟨x.toNat / 9223372036854775808,x.toNat / 4503599627370496 % 2048,x.toNat % 4503599627370496,by omega,by omega,by omega,?_⟩
 unfold Fl Fn_
 omega
theorem fl_shr {s e m:Nat} (hs:s < 2) (he:e < 2048) (hm:m < 4503599627370496):wsrc .u64 (Fl s e m) 52=((2048*s+e:Nat):Int):=by
 unfold wsrc Fl Fn_
 show (_:Int).fdiv (2 ^ 52)=_
 rw [Int.fdiv_eq_ediv_of_nonneg _ (by omega)]
 omega
theorem fl_exp {s e m:Nat} (hs:s < 2) (he:e < 2048) (hm:m < 4503599627370496):wand .u64 (wsrc .u64 (Fl s e m) 52) 2047=(e:Int):=by
 rw [fl_shr hs he hm]
 have:=wand64 (x:=2048*s+e) (y:=2047) (by omega) (by omega)
 refine this.trans ?_
 have h:=Nat.and_two_pow_sub_one_eq_mod (2048*s+e) 11
 rw [show (2:Nat) ^ 11 - 1=2047 from rfl] at h
 rw [h]
 omega
theorem fl_frac {s e m:Nat} (hs:s < 2) (he:e < 2048) (hm:m < 4503599627370496):wand .u64 (Fl s e m) 4503599627370495=(m:Int):=by
 have:=wand64 (x:=Fn_ s e m) (y:=4503599627370495) (fn_lt hs he hm) (by omega)
 refine this.trans ?_
 have h:=Nat.and_two_pow_sub_one_eq_mod (Fn_ s e m) 52
 rw [show (2:Nat) ^ 52 - 1=4503599627370495 from rfl] at h
 rw [h]
 unfold Fn_
 omega
theorem fl_sign {s e m:Nat} (hs:s < 2) (he:e < 2048) (hm:m < 4503599627370496):wand .u64 (Fl s e m) 9223372036854775808=((9223372036854775808*s:Nat):Int):=by
 have:=wand64 (x:=Fn_ s e m) (y:=9223372036854775808) (fn_lt hs he hm) (by omega)
 refine this.trans ?_
 have h1:=and_split (k:=63) (a:=s) (b:=2 ^ 52*e+m) (c:=1) (d:=0) (by omega) (by omega)
 rw [show 2 ^ 63*1+0=9223372036854775808 from rfl,Nat.and_zero,show 2 ^ 63*s+(2 ^ 52*e+m)=Fn_ s e m by unfold Fn_; omega,Nat.and_one_is_mod] at h1
 rw [h1]
 omega
theorem fl_keep {s e m:Nat} (hs:s < 2) (he:e < 2048) (hm:m < 4503599627370496) {q:Nat} (hq:q≤52) {e':Nat} (he':e' < 2048) {y:Nat} (hy:y=2 ^ 63+2 ^ q*(2 ^ (52 - q) - 1)) (hm':2 ^ q*(2 ^ (52 - q))=4503599627370496):wor .u64 (wand .u64 (Fl s e m) (y:Int)) ((4503599627370496*e':Nat):Int)=Fl s e' (2 ^ q*(m / 2 ^ q)):=by
 have hp:0 < 2 ^ q:=Nat.two_pow_pos q
 have hm2:m / 2 ^ q < 2 ^ (52 - q):=by rw [Nat.div_lt_iff_lt_mul hp,Nat.mul_comm,hm']; exact hm
 have hle:2 ^ q*(2 ^ (52 - q) - 1) < 4503599627370496:=by rw [Nat.mul_sub,hm']; omega
 have hml:2 ^ q*(m / 2 ^ q) < 4503599627370496:=Nat.lt_of_le_of_lt (Nat.mul_div_le _ _) hm
 have h1:=wand64 (x:=Fn_ s e m) (y:=y) (fn_lt hs he hm) (by rw [hy]; omega)
 have e1:Fn_ s e m &&& y=Fn_ s 0 (2 ^ q*(m / 2 ^ q)):=by
  have a1:=and_split (k:=52) (a:=2 ^ 11*s+e) (b:=m) (c:=2 ^ 11*1+0) (d:=2 ^ q*(2 ^ (52 - q) - 1)) (by omega) (by omega)
  have a2:=and_split (k:=11) (a:=s) (b:=e) (c:=1) (d:=0) (by omega) (by omega)
  have a3:=and_split (k:=q) (a:=m / 2 ^ q) (b:=m % 2 ^ q) (c:=2 ^ (52 - q) - 1) (d:=0) (Nat.mod_lt _ hp) hp
  rw [Nat.div_add_mod,Nat.add_zero,Nat.and_zero,Nat.and_two_pow_sub_one_eq_mod,Nat.mod_eq_of_lt hm2,Nat.add_zero] at a3
  rw [Nat.and_zero,Nat.and_one_is_mod] at a2
  rw [a2,a3] at a1
  rw [show y=2 ^ 52*(2 ^ 11*1+0)+2 ^ q*(2 ^ (52 - q) - 1) by rw [hy]]
  unfold Fn_
  rw [a1,show s % 2=s by omega]
 have h2:wand .u64 (Fl s e m) (y:Int)=((Fn_ s 0 (2 ^ q*(m / 2 ^ q)):Nat):Int):=by rw [← e1]; exact h1
 rw [h2,wor64 (fn_lt hs (by omega) hml) (by omega)]
 have b1:=or_split (k:=52) (a:=2 ^ 11*s+0) (b:=2 ^ q*(m / 2 ^ q)) (c:=e') (d:=0) (by omega) (by omega)
 have b2:=Nat.two_pow_add_eq_or_of_lt (b:=e') (i:=11) (by omega) s
 rw [Nat.add_zero,← b2,Nat.or_zero] at b1
 have b3:Fn_ s 0 (2 ^ q*(m / 2 ^ q)) ||| 4503599627370496*e'=Fn_ s e' (2 ^ q*(m / 2 ^ q)):=b1
 rw [b3]
 rfl
theorem fl_signed {e m:Nat} (he:e < 2048) (hm:m < 4503599627370496):wor .u64 (Fl 0 e m) 9223372036854775808=Fl 1 e m:=by
 have:=wor64 (x:=Fn_ 0 e m) (y:=9223372036854775808) (fn_lt (by omega) he hm) (by omega)
 refine this.trans ?_
 have h:=Nat.two_pow_add_eq_or_of_lt (b:=Fn_ 0 e m) (i:=63) (by unfold Fn_; omega) 1
 rw [Nat.or_comm]
 rw [show 2 ^ 63*1=9223372036854775808 from rfl] at h
 rw [← h]
 unfold Fl Fn_
 omega
theorem fl_hid {m:Nat} (hm:m < 4503599627370496):wor .u64 (m:Int) 4503599627370496=((4503599627370496+m:Nat):Int):=by
 have:=wor64 (x:=m) (y:=4503599627370496) (by omega) (by omega)
 refine this.trans ?_
 have h:=Nat.two_pow_add_eq_or_of_lt (b:=m) (i:=52) hm 1
 rw [show 2 ^ 52*1=4503599627370496 from rfl] at h
 rw [Nat.or_comm,← h]
theorem fl_mk {u m:Nat} (hu:u < 2048) (hm:m < 4503599627370496):wor .u64 (wslc .u64 (u:Int) 52) (m:Int)=Fl 0 u m:=by
 have e1:wslc .u64 (u:Int) 52=((4503599627370496*u:Nat):Int):=by
  unfold wslc
  show IntKind.u64.wrap ((u:Int)*2 ^ 52)=_
  rw [IntWalk.u64_in _ (by omega)]
  omega
 rw [e1,wor64 (by omega) (by omega)]
 have h:=Nat.two_pow_add_eq_or_of_lt (b:=m) (i:=52) hm u
 rw [show 2 ^ 52*u=4503599627370496*u from rfl] at h
 rw [← h]
 unfold Fl Fn_
 omega
end Km
namespace Km
open Sx Go M Vc Lm
def Tz (z:Nat) (v:Int):Prop:=∃ m,v=2 ^ z*(2*m+1)
theorem Tz.uniq {z z':Nat} {v:Int} (h:Tz z v) (h':Tz z' v):z=z':=by
 have key:∀ {z z':Nat} {v:Int},Tz z v→Tz z' v→¬ z < z':=by
  rintro z z' v ⟨m,rfl⟩ ⟨m',e⟩ hlt
  rw [show z'=z+(1+(z' - z - 1)) by omega,Int.pow_add,Int.mul_assoc] at e
  have e2:=Int.eq_of_mul_eq_mul_left (Int.ne_of_gt (Int.pow_pos (by omega:(0:Int) < 2))) e
  rw [Int.pow_add,Int.mul_assoc] at e2
  omega
 have:=key h h'
 have:=key h' h
 omega
theorem Tz.neg {z:Nat} {v:Int} (h:Tz z v):Tz z (-v):=by
 obtain ⟨m,rfl⟩:=h
 exact ⟨-m - 1,by grind⟩
theorem Tz.mul {z:Nat} {v:Int} (h:Tz z v) (k:Nat):Tz (z+k) (v*2 ^ k):=by
 obtain ⟨m,rfl⟩:=h
 exact ⟨m,by rw [Int.pow_add]; grind⟩
theorem lv_nul:∀ {l:List Int},(∀ y,y∈l→y=0)→lv l=0
 | [],_=>rfl
 | y::l,h=>by
  show y+B*lv l=0
  rw [h y (List.mem_cons_self ..),lv_nul fun y hy=>h y (List.mem_cons_of_mem _ hy)]
  rfl
theorem tz_limb {l:List Int} (hl:LW l) {i:Nat} {x:Int} (hx:l[i]?=some x) (hz:∀ y,y∈l.take i→y=0) {c:Nat} {m:Int} (hc:c < 32) (hm:x=2 ^ c*(2*m+1)):Tz (32*i+c) (lv l):=by
 obtain ⟨p1,p2,p3,p4⟩:=two_pow hc
 have hi:=(List.getElem?_eq_some_iff.1 hx).1
 refine ⟨m+2 ^ (32 - c - 1)*lv (l.drop (i+1)),?_⟩
 rw [take_drop l (k:=i) (by omega),lv_nul hz,lv_drop hx,hm,pw_two,Int.pow_add]
 have e1:B=2 ^ c*(2*2 ^ (32 - c - 1)):=by
  have:(2:Int) ^ (32 - c)=2*2 ^ (32 - c - 1):=by
   have e2:=Int.pow_add (2:Int) 1 (32 - c - 1)
   rw [show 1+(32 - c - 1)=32 - c by omega] at e2
   exact e2
  rw [← this,p3]
 rw [e1]
 grind
theorem tz32_at {x:Int} (h0:0 < x) (h1:x < B):∃ c:Nat,∃ m:Int,tz32 x=some (c:Int)∧c < 32∧x=2 ^ c*(2*m+1):=by
 obtain ⟨m,h2,h3⟩:=Go.Lib.ctzFrom_spec 32 x.toNat (by omega) (by unfold B at h1; omega)
 refine ⟨Go.Lib.ctzFrom 32 x.toNat,m,?_,h3,?_⟩
 ·unfold tz32 Go.Lib.ctz
  rw [if_pos ⟨by omega,h1⟩,if_neg (by omega)]
 ·have:((x.toNat:Nat):Int)=((2 ^ Go.Lib.ctzFrom 32 x.toNat*(2*m+1):Nat):Int):=by rw [← h2]
  rw [Int.toNat_of_nonneg (by omega)] at this
  rw [Int.natCast_mul,Int.natCast_pow] at this
  exact this
theorem tz_start {l:List Int} {k:Nat} {x:Int} (hz:∀ y,y∈l.take k→y=0) (hx:l[k]?=some x) (h0:x=0):∀ y,y∈l.take (k+1)→y=0:=fun y hy=>by
 rcases (mts hx).1 hy with h | h
 ·exact hz y h
 ·rw [h,h0]
theorem tzP_ok {s:Bool} {l:List Int} (hl:LW l) (hn:l.length≤1000) (h0:lv l≠0):∃ z:Nat,m_dg s l=some (z:Int)∧z < 32*l.length∧Tz z (lv l):=by
 have h1:Ret (loop (m_df l) 0) (fun o=>∃ z:Nat,o=.inr (z:Int)∧z < 32*l.length∧Tz z (lv l)):=by
  refine ret_loop l.length (fun k (t:Int)=>t=(k:Int)∧∀ y,y∈l.take k→y=0) ⟨rfl,by intro y hy; simp at hy⟩ ?_ (by omega)
  rintro k _ hk ⟨rfl,hz⟩
  unfold m_df
  rw [ret_if]
  refine ⟨fun hlt=>?_,fun hge=>?_⟩
  ·obtain ⟨x,hx⟩:=get_of (l:=l) (k:=k) (by omega)
   have hxB:=LW.get hl hx
   rw [ret_at hx rfl,obs,ret_if]
   refine ⟨fun hx0=>⟨_,rfl,by omega,by rw [wa_i (by omega) (by omega)]; rfl,tz_start hz hx hx0⟩,fun hx0=>?_⟩
   obtain ⟨c,m,h2,h3,h4⟩:=tz32_at (x:=x) (by omega) hxB.2
   rw [h2,obs]
   refine ⟨_,rfl,32*k+c,?_,by omega,tz_limb hl hx hz h3 h4⟩
   rw [wm_i (by omega) (by omega),wa_i (by omega) (by omega)]
   exact congrArg Sum.inr (by omega)
  ·exfalso
   refine h0 ?_
   rw [List.take_of_length_le (by omega)] at hz
   exact lv_nul hz
 obtain ⟨o,h2,z,rfl,h3,h4⟩:=h1
 exact ⟨z,by unfold m_dg; rw [h2,obs],h3,h4⟩
theorem tzR_ok {s:Bool} {l:List Int} (hl:LW l) (ht:Tm l) (hn:l.length≤1000) (h0:lv l≠0):∃ z:Nat,m_n s l=some (z:Int)∧z < 32*l.length∧Tz z (lv l):=by
 have hlt:trimL l=l:=(tm_ext hl hl ht rfl).symm
 have h1:Ret (loop (m_m l) 0) (fun o=>∃ z:Nat,o=.inr (z:Int)∧z < 32*l.length∧Tz z (lv l)):=by
  refine ret_loop l.length (fun k (t:Int)=>t=(k:Int)∧∀ y,y∈l.take k→y=0) ⟨rfl,by intro y hy; simp at hy⟩ ?_ (by omega)
  rintro k _ hk ⟨rfl,hz⟩
  unfold m_m
  rw [ret_if]
  refine ⟨fun hlt=>?_,fun hge=>?_⟩
  ·obtain ⟨x,hx⟩:=get_of (l:=l) (k:=k) (by omega)
   have hxB:=LW.get hl hx
   rw [ret_at hx rfl,obs,ret_if]
   refine ⟨fun hx0=>⟨_,rfl,by omega,by rw [wa_i (by omega) (by omega)]; rfl,tz_start hz hx hx0⟩,fun hx0=>?_⟩
   obtain ⟨c,m,h2,h3,h4⟩:=tz32_at (x:=x) (by omega) hxB.2
   rw [obs,h2,obs]
   refine ⟨_,rfl,32*k+c,?_,by omega,tz_limb hl hx hz h3 h4⟩
   rw [wm_i (by omega) (by omega),wa_i (by omega) (by omega)]
   exact congrArg Sum.inr (by omega)
  ·exfalso
   refine h0 ?_
   rw [List.take_of_length_le (by omega)] at hz
   exact lv_nul hz
 obtain ⟨o,h2,z,rfl,h3,h4⟩:=h1
 exact ⟨z,by unfold m_n; rw [trimR_ok hl (by omega),obs,hlt,h2,obs],h3,h4⟩
def Bl_ (b:Nat) (v:Int):Prop:=v < 2 ^ b∧2 ^ b≤2*v
theorem Bl_.uniq {b b':Nat} {v:Int} (h:Bl_ b v) (h':Bl_ b' v):b=b':=by
 have key:∀ {b b':Nat} {v:Int},Bl_ b v→Bl_ b' v→¬ b < b':=by
  rintro b b' v ⟨h1,h2⟩ ⟨h3,h4⟩ hlt
  have:(2:Int) ^ b*2≤2 ^ b':=by
   rw [← Int.pow_succ]
   have h9:((2 ^ (b+1):Nat):Int)≤((2 ^ b':Nat):Int):=Int.ofNat_le.2 (Nat.pow_le_pow_right (by omega) (by omega))
   push_cast at h9
   exact h9
  omega
 have:=key h h'
 have:=key h' h
 omega
theorem top_bits {l:List Int} (hl:LW l) {n:Nat} (hn:l.length=n+1) {x:Int} (hx:l[n]?=some x) {v:Nat} (h1:x < 2 ^ v) (h2:2 ^ v≤2*x):Bl_ (32*n+v) (lv l):=by
 have e1:lv l=lv (l.take n)+pw n*x:=by
  rw [take_drop l (k:=n) (by omega),lv_drop hx,List.drop_of_length_le (by omega)]
  show _+pw n*(x+B*0)=_
  rw [Int.mul_zero,Int.add_zero]
 have hb:=lv_lt (LW.take hl n)
 rw [List.length_take,Nat.min_eq_left (by omega)] at hb
 have hnn:=lv_nn (LW.take hl n)
 have p:=pw_pos n
 constructor
 ·rw [Int.pow_add,← pw_two]
  have:pw n*(x+1)≤pw n*2 ^ v:=Int.mul_le_mul_of_nonneg_left (by omega) (by omega)
  rw [Int.mul_add,Int.mul_one] at this
  omega
 ·rw [Int.pow_add,← pw_two]
  have:pw n*2 ^ v≤pw n*(2*x):=Int.mul_le_mul_of_nonneg_left (by omega) (by omega)
  have e2:pw n*(2*x)=2*(pw n*x):=by grind
  omega
theorem lenP_ok {l:List Int} (hl:LW l) (ht:Tm l) (hn:l.length≤1000) (hne:l≠[]):∃ b:Nat,m_dh l=some (b:Int)∧b≤32*l.length∧Bl_ b (lv l):=by
 have hal:0 < l.length:=List.length_pos_iff.2 hne
 obtain ⟨x,hx⟩:=get_of (l:=l) (k:=l.length - 1) (by omega)
 have hxB:=LW.get hl hx
 have hx0:x≠0:=ht x (by rw [List.getLast?_eq_getElem?]; exact hx)
 obtain ⟨v,h1,h2,h3,h4⟩:=len32_ok hxB.1 hxB.2
 unfold m_dh
 rw [if_neg (by omega),ws_i (by omega) (by omega),ret_at hx (by omega),obs,h1,obs]
 refine ⟨32*(l.length - 1)+v,?_,by omega,top_bits hl (by omega) hx h3 (h4 (by omega))⟩
 rw [wm_i (by omega) (by omega),wa_i (by omega) (by omega)]
 congr 1; omega
theorem bitP_ok {s:Bool} {l:List Int} (hl:LW l) (ht:Tm l) (hn:l.length≤1000) (hne:l≠[]):∃ b:Nat,m_di s l=some (b:Int)∧b≤32*l.length∧Bl_ b (lv l):=by
 obtain ⟨b,h1,h2⟩:=lenP_ok hl ht hn hne
 exact ⟨b,by unfold m_di; rw [trim_ok hl (by omega),obs,(tm_ext hl hl ht rfl).symm,h1,obs],h2⟩
theorem bitR_ok {s:Bool} {l:List Int} (hl:LW l) (ht:Tm l) (hn:l.length≤1000) (hne:l≠[]):∃ b:Nat,m_bf s l=some (b:Int)∧b≤32*l.length∧Bl_ b (lv l):=by
 have hal:0 < l.length:=List.length_pos_iff.2 hne
 obtain ⟨x,hx⟩:=get_of (l:=l) (k:=l.length - 1) (by omega)
 have hxB:=LW.get hl hx
 have hx0:x≠0:=ht x (by rw [List.getLast?_eq_getElem?]; exact hx)
 obtain ⟨v,h1,h2,h3,h4⟩:=len32_ok hxB.1 hxB.2
 unfold m_bf
 rw [trimR_ok hl (by omega),obs,(tm_ext hl hl ht rfl).symm,if_neg (by omega),ws_i (by omega) (by omega),ret_at hx (by omega),obs,h1,obs]
 refine ⟨32*(l.length - 1)+v,?_,by omega,top_bits hl (by omega) hx h3 (h4 (by omega))⟩
 rw [wm_i (by omega) (by omega),wa_i (by omega) (by omega)]
 congr 1; omega
theorem n32 (N:Nat):N=32*(N / 32)+N % 32:=by omega
theorem pn32 (N:Nat):pw (N / 32)*2 ^ (N % 32)=2 ^ N:=by rw [pw_two,← Int.pow_add]; congr 1; omega
theorem sv_mul {s:Bool} {l u:List Int} {c:Int} (h:lv u=lv l*c):sv s u=sv s l*c:=by
 unfold sv; split
 ·rw [h,Int.neg_mul]
 ·exact h
theorem pw_two_le {N M:Nat} (h:N≤M):(2:Int) ^ N≤2 ^ M:=by
 have h9:((2 ^ N:Nat):Int)≤((2 ^ M:Nat):Int):=Int.ofNat_le.2 (Nat.pow_le_pow_right (by omega) h)
 rw [Int.natCast_pow,Int.natCast_pow] at h9
 exact h9
theorem shiftP_up {s:Bool} {l:List Int} (hl:LW l) (hn:l.length≤900) {N:Nat} (hN:N≤32000):Ret (m_dx s l (N:Int)) (fun r=>Bg (sv s l*2 ^ N) r.1 r.2.1∧r.2.2=0):=by
 have hlt:=trim_len hl
 unfold m_dx
 rw [if_neg (by simp only [Bool.or_eq_true,decide_eq_true_eq]; omega),trim_ok hl (by omega),obs,if_pos (by omega),ret_bind]
 have hup:Ret (m_dk (trimL l) (N:Int)) (fun u=>LW u∧u.length≤1000000∧lv u=lv l*2 ^ N):=by
  by_cases hne:trimL l=[]
  ·unfold m_dk
   rw [hne,if_pos (by rfl)]
   have:lv l=0:=by rw [← trimL_lv,hne]; rfl
   exact ⟨[],rfl,(fun x hx=>by cases hx),by simp,by rw [this,Int.zero_mul]; rfl⟩
  ·have:=upG_ok (trimL_lw hl) (by omega) hne (q:=N / 32) (s:=N % 32) (by omega) (by omega)
   rw [← n32,pn32,trimL_lv] at this
   refine this.mono fun u hu=>⟨hu.1,?_,hu.2.2⟩
   exact Nat.le_trans (Bg.len (v:=lv u) (m:=2000) (Bg.of (s:=false) hu.1 hu.2.1 (by simp)) (by have:=lv_nn hu.1; have:=pw_pos 2000; omega) (by
    rw [hu.2.2]
    have h1:=lv_lt hl
    have h2:pw l.length≤pw 1000:=pw_mono (by omega)
    have h3:(2:Int) ^ N≤pw 1000:=by
     have h9:=pw_two_le (N:=N) (M:=32*1000) (by omega)
     rw [pw_two]; exact h9
    have p:(0:Int) < 2 ^ N:=Int.pow_pos (by omega)
    rw [show pw 2000=pw 1000*pw 1000 from pw_add 1000 1000]
    have a1:lv l*2 ^ N < pw 1000*2 ^ N:=Int.mul_lt_mul_of_pos_right (by omega) p
    have a2:pw 1000*2 ^ N≤pw 1000*pw 1000:=Int.mul_le_mul_of_nonneg_left h3 (Int.le_of_lt (pw_pos _))
    omega)) (by omega)
 refine hup.mono fun u hu=>?_
 rw [ret_bind]
 refine (big_bg s hu.1 hu.2.1).mono fun r hr=>⟨_,rfl,?_,rfl⟩
 rw [sv_mul hu.2.2] at hr
 exact hr
theorem shiftP_dn {s:Bool} {l:List Int} (hl:LW l) (hn:l.length≤900) {N:Nat} (hN:N≤32000) {c:Int} (hd:lv l=c*2 ^ N):Ret (m_dx s l (-(N:Int))) (fun r=>Bg (if s=true then - c else c) r.1 r.2.1∧r.2.2=0):=by
 by_cases h0:N=0
 ·subst h0
  have:=shiftP_up (s:=s) hl hn (N:=0) (by omega)
  have e1:sv s l*2 ^ 0=if s=true then - c else c:=by
   rw [show ((2:Int) ^ 0)=1 from rfl,Int.mul_one] at*
   unfold sv; rw [hd]
  rw [e1] at this
  exact this
 have hlt:=trim_len hl
 have p:(0:Int) < 2 ^ N:=Int.pow_pos (by omega)
 unfold m_dx
 rw [if_neg (by simp only [Bool.or_eq_true,decide_eq_true_eq]; omega),trim_ok hl (by omega),obs,if_neg (by omega),ret_bind]
 have e2:wneg .i64 (-(N:Int))=(N:Int):=by
  show IntKind.wrap .i64 (- -(N:Int))=_
  rw [Int.neg_neg,IntWalk.i64_in _ (by omega)]
 have:=downG_ok (trimL_lw hl) (by omega) (q:=N / 32) (s:=N % 32) (by omega) (by omega)
 rw [← n32,pn32,trimL_lv] at this
 rw [e2]
 refine this.mono fun u hu=>?_
 obtain ⟨u1,u2,u3,u4⟩:=hu
 rw [hd,Int.mul_ediv_cancel _ (by omega)] at u3
 rw [u4 (trimL_tm _) (by rw [hd]; exact Int.mul_emod_left _ _),Bool.and_false,if_neg (by simp)]
 unfold m_dw
 rw [ret_bind]
 have hul:u.1.length≤1000000:=by
  refine Nat.le_trans (Bg.len (v:=lv u.1) (m:=1000) (Bg.of (s:=false) u1 u2 (by simp)) (by have:=lv_nn u1; have:=pw_pos 1000; omega) ?_) (by omega)
  have h1:=lv_lt hl
  have h2:pw l.length≤pw 1000:=pw_mono (by omega)
  have h3:c*1≤c*2 ^ N:=Int.mul_le_mul_of_nonneg_left (by omega) (by rw [← u3]; exact lv_nn u1)
  omega
 refine (big_bg s u1 hul).mono fun r hr=>⟨_,rfl,?_,rfl⟩
 unfold sv at hr
 rw [u3] at hr
 exact hr
end Km
namespace Km
open Sx Go M Vc Lm
theorem sv_abs {s:Bool} {l:List Int} (h:sv s l=0):lv l=0:=by unfold sv at h; split at h<;>omega
theorem shiftR_up {s:Bool} {l:List Int} (hl:LW l) (hn:l.length≤900) {N:Nat} (hN:N≤32000):Ret (m_9 s l (N:Int)) (fun r=>Bg (sv s l*2 ^ N) r.1 r.2):=by
 unfold m_9
 rw [ret_bind]
 refine (normR_bg (s:=s) hl (by omega)).mono fun a ha=>?_
 have hup:=shlG_ok ha.1.1 (by omega) (q:=N / 32) (s:=N % 32) (by omega) (by omega)
 rw [← n32,pn32] at hup
 rw [if_pos (by omega),ret_bind]
 refine hup.mono fun u hu=>?_
 rw [ret_bind]
 refine (make_bg a.1 hu.1 (by omega)).mono fun r hr=>⟨_,rfl,?_⟩
 rw [sv_mul hu.2.2,ha.1.sv] at hr
 exact hr
theorem shiftR_dn {s:Bool} {l:List Int} (hl:LW l) (hn:l.length≤900) {N:Nat} (hN:N≤32000) {c:Int} (hd:sv s l=c*2 ^ N):Ret (m_9 s l (-(N:Int))) (fun r=>Bg c r.1 r.2):=by
 by_cases h0:N=0
 ·subst h0
  have:=shiftR_up (s:=s) hl hn (N:=0) (by omega)
  rw [hd] at this
  refine Ret.mono this fun r hr=>hr.cast (by rw [show ((2:Int) ^ 0)=1 from rfl]; omega)
 have p:(0:Int) < 2 ^ N:=Int.pow_pos (by omega)
 unfold m_9
 rw [ret_bind]
 refine (normR_bg (s:=s) hl (by omega)).mono fun a ha=>?_
 have e2:wneg .i64 (-(N:Int))=(N:Int):=by
  show IntKind.wrap .i64 (- -(N:Int))=_
  rw [Int.neg_neg,IntWalk.i64_in _ (by omega)]
 have hdn:=shrG_ok ha.1.1 (by omega) (q:=N / 32) (s:=N % 32) (by omega) (by omega)
 rw [← n32,pn32] at hdn
 have hsv:=ha.1.sv
 rw [hd] at hsv
 have hex:∃ c',lv a.2=c'*2 ^ N∧(if a.1=true then - c' else c')=c:=by
  unfold sv at hsv
  split at hsv
  ·rename_i h; exact ⟨-c,by rw [Int.neg_mul]; omega,by rw [if_pos h]; omega⟩
  ·rename_i h; exact ⟨c,hsv,by rw [if_neg h]⟩
 obtain ⟨c',hc1,hc2⟩:=hex
 rw [if_neg (by omega),e2,ret_bind]
 refine hdn.mono fun u hu=>?_
 obtain ⟨u1,u2,u3,u4⟩:=hu
 rw [hc1,Int.mul_ediv_cancel _ (by omega)] at u3
 rw [ret_bind]
 refine (make_bg a.1 u1 (by omega)).mono fun r hr=>?_
 rw [u4 ha.1.2.1 (by rw [hc1]; exact Int.mul_emod_left _ _),Bool.and_false,if_neg (by simp)]
 refine ⟨_,rfl,?_⟩
 unfold sv at hr
 rw [u3,hc2] at hr
 exact hr
def Dv (v x:Int) (d:Bool×Bool×List Int×Int):Prop:=d.1=false∧∃ (z:Nat) (u:Int),v=2 ^ z*(2*u+1)∧Bg (2*u+1) d.2.1 d.2.2.1∧d.2.2.2=x+z
theorem Dv.uniq {v x:Int} {d d':Bool×Bool×List Int×Int} (h:Dv v x d) (h':Dv v x d'):d=d':=by
 obtain ⟨a,b,l,e⟩:=d
 obtain ⟨a',b',l',e'⟩:=d'
 obtain ⟨h1,z,u,h2,h3,h4⟩:=h
 obtain ⟨h1',z',u',h2',h3',h4'⟩:=h'
 simp only at*
 have hz:z=z':=Tz.uniq ⟨u,h2⟩ ⟨u',h2'⟩
 subst hz
 rw [h2] at h2'
 have hp:(0:Int) < 2 ^ z:=Int.pow_pos (by omega)
 have hu:=Int.eq_of_mul_eq_mul_left (by omega) h2'
 rw [← hu] at h3'
 obtain ⟨e1,e2⟩:=h3.uniq h3'
 rw [h1,h1',e1,e2,h4,h4']
theorem right_ok (s:Bool) (l:List Int) {z:Nat} (hz:z≤100000):m_dz s l (z:Int)=(m_dx s l (-(z:Int))).bind fun r=>some (r.1,r.2.1):=by
 have h1:loop m_dy ((z:Int),s,l)=some ((z:Int),s,l):=by
  refine Ret.eq (ret_loop 0 (fun k t=>t=((z:Int),s,l)) rfl ?_ (by omega))
  rintro k _ hk rfl
  unfold m_dy
  simp only
  rw [if_neg (by omega)]
  exact ⟨_,rfl,rfl⟩
 unfold m_dz
 rw [h1,obs]
 have e2:wneg .i64 (z:Int)= -(z:Int):=by
  show IntKind.wrap .i64 _=_
  rw [IntWalk.i64_in _ (by omega)]
 simp only
 rw [e2]
theorem rdown_ok (s:Bool) (l:List Int) {z:Nat} (hz:z≤100000):m_bb s l (z:Int)=(m_9 s l (-(z:Int))).bind fun r=>some (r.1,r.2):=by
 have h1:loop m_ba ((z:Int),s,l)=some ((z:Int),s,l):=by
  refine Ret.eq (ret_loop 0 (fun k t=>t=((z:Int),s,l)) rfl ?_ (by omega))
  rintro k _ hk rfl
  unfold m_ba
  simp only
  rw [if_neg (by omega)]
  exact ⟨_,rfl,rfl⟩
 unfold m_bb
 rw [h1,obs]
 have e2:wneg .i64 (z:Int)= -(z:Int):=by
  show IntKind.wrap .i64 _=_
  rw [IntWalk.i64_in _ (by omega)]
 simp only
 rw [e2]
theorem sv_ne {v:Int} {s:Bool} {l:List Int} (h:Bg v s l) (hv:v≠0):lv l≠0∧l≠[]:=by
 have h1:lv l≠0:=fun h0=>hv (by rw [← h.sv]; unfold sv; rw [h0]; split<;>rfl)
 exact ⟨h1,fun h2=>h1 (by rw [h2]; rfl)⟩
theorem norm_dv {s:Bool} {l:List Int} (hl:LW l) (hn:l.length≤100) (hv:sv s l≠0) {x:Int} (hx: -20000≤x∧x≤20000):Ret (m_d0 false s l x) (fun r=>Dv (sv s l) x (r.1,r.2.1,r.2.2.1,r.2.2.2.1)∧r.2.2.2.2=true):=by
 unfold m_d0
 rw [if_neg (by simp),ret_bind]
 refine (normP_bg (s:=s) hl (by omega)).mono fun a ha=>?_
 obtain ⟨hne,hnil⟩:=sv_ne ha hv
 have hal:a.2.length≤100:=by
  refine Bg.len ha ?_ ?_<;>(have h1:=lv_lt hl; have h2:pw l.length≤pw 100:=pw_mono hn; have h3:=lv_nn hl; have:=pw_pos 100; unfold sv; split<;>omega)
 rw [sign_bg ha.1 (by omega),obs,ha.sv]
 have hs0:¬ (if sv s l < 0 then -1 else if 0 < sv s l then 1 else 0:Int)=0:=by split<;>(try split)<;>omega
 rw [if_neg hs0]
 obtain ⟨z,hz1,hz2,m,hz3⟩:=tzP_ok (s:=a.1) ha.1 (by omega) hne
 obtain ⟨b,hb1,hb2,hb3⟩:=bitP_ok (s:=a.1) ha.1 ha.2.1 (by omega) hnil
 rw [hz1,obs,hb1,obs,ws_i (by omega) (by omega),ws_i (by omega) (by omega),if_neg (by omega),obs,if_neg (by simp only [decide_eq_true_eq]; omega),right_ok a.1 a.2 (by omega)]
 have hsh:=shiftP_dn (s:=a.1) ha.1 (by omega) (N:=z) (by omega) (c:=2*m+1) (by rw [hz3]; grind)
 obtain ⟨r,hr1,hr2,hr3⟩:=hsh
 rw [hr1,obs,obs,wa_i (by omega) (by omega)]
 refine ⟨_,rfl,⟨rfl,z,if a.1=true then -m - 1 else m,?_,?_,rfl⟩,rfl⟩
 ·rw [← ha.sv]
  unfold sv
  rw [hz3]
  split<;>grind
 ·refine hr2.cast ?_
  split<;>omega
theorem make_dv {s:Bool} {l:List Int} (hl:LW l) (hn:l.length≤100) (hv:sv s l≠0) {x:Int} (hx: -20000≤x∧x≤20000):Ret (m_bg s l x) (Dv (sv s l) x):=by
 unfold m_bg
 rw [ret_bind]
 refine (normR_bg (s:=s) hl (by omega)).mono fun a ha=>?_
 obtain ⟨hne,hnil⟩:=sv_ne ha.1 hv
 have hal:0 < a.2.length:=List.length_pos_iff.2 hnil
 rw [if_neg (by omega),if_neg (by omega)]
 obtain ⟨z,hz1,hz2,m,hz3⟩:=tzR_ok (s:=a.1) ha.1.1 ha.1.2.1 (by omega) hne
 rw [hz1,obs,ret_bind]
 refine (absR_bg (s:=a.1) ha.1.1 (by omega)).mono fun c hc=>?_
 rw [rdown_ok c.1 c.2 (by omega)]
 have hp:(0:Int) < 2 ^ z:=Int.pow_pos (by omega)
 have hm0:0≤m:=by
  have:=lv_nn ha.1.1
  rw [hz3] at this
  refine Classical.byContradiction fun hc=>?_
  have:2 ^ z*(2*m+1) < 0:=Int.mul_neg_of_pos_of_neg hp (by omega)
  omega
 obtain ⟨r,hr1,hr2⟩:=shiftR_dn (s:=c.1) hc.1.1 (by omega) (N:=z) (by omega) (c:=2*m+1) (by rw [hc.1.sv,hz3]; grind)
 have hr0:=sv_ne hr2 (by omega)
 have hrl:r.2.length≤100:=by
  refine Bg.len hr2 ?_ ?_<;>(have h1:=lv_lt ha.1.1; have h2:pw a.2.length≤pw 100:=pw_mono (by omega); have:=pw_pos 100; have h3:(2*m+1)*1≤(2*m+1)*2 ^ z:=Int.mul_le_mul_of_nonneg_left (by omega) (by omega); have h4:2 ^ z*(2*m+1)=(2*m+1)*2 ^ z:=Int.mul_comm ..; omega)
 obtain ⟨b,hb1,hb2,hb3⟩:=bitR_ok (s:=r.1) hr2.1 hr2.2.1 (by omega) hr0.2
 rw [hr1,obs,obs,wa_i (by omega) (by omega),if_neg (by omega),hb1,obs,obs,wa_i (by omega) (by omega),if_neg (by simp only [decide_eq_true_eq]; omega)]
 have has:a.1=s:=by
  have h1:=ha.1.neg
  have h2:=(sv_abs (s:=s) (l:=l))
  cases hs:s
  ·cases hq:a.1
   ·rfl
   ·have:=h1.1 hq
    rw [hs] at this
    have:=lv_nn hl
    simp only [sv] at*
    simp at*
    omega
  ·refine h1.2 ?_
   rw [hs] at hv ⊢
   have:=lv_nn hl
   simp only [sv] at*
   simp at*
   omega
 refine ⟨_,rfl,rfl,z,if s=true then -m - 1 else m,?_,?_,rfl⟩
 ·rw [← ha.1.sv]
  unfold sv
  rw [hz3,has]
  split<;>grind
 ·refine ⟨hr2.1,hr2.2.1,?_,fun _=>hr0.2⟩
  have h5:=hr2.abs
  rw [if_neg (by omega)] at h5
  show sv s r.2=_
  unfold sv
  rw [h5]
  split<;>omega
end Km
namespace Km
open Sx Go M Vc Lm
theorem negF_bg {s:Bool} {a:List Int} (ha:LW a) (hn:a.length≤1000000):Ret (m_db s a) (fun r=>Bg (- sv s a) r.1 r.2):=by
 unfold m_db
 rw [clone_ok hn,obs,ret_bind]
 refine (big_bg (!s) ha hn).mono fun r hr=>⟨_,rfl,?_⟩
 rw [sv_not] at hr
 exact hr
def sgF (s:Nat):Int:=if s=1 then -1 else 1
theorem sgF_ne {s m:Nat}:sgF s*((4503599627370496+m:Nat):Int)≠0:=by unfold sgF; split<;>omega
theorem neg_bit {s e m:Nat} (hs:s < 2) (he:e < 2048) (hm:m < 4503599627370496):(!(decide ((wand .u64 (Fl s e m) 9223372036854775808)=0)))=decide (s=1):=by
 rw [fl_sign hs he hm]
 rcases (show s=0∨s=1 by omega) with rfl | rfl<;>rfl
theorem of_dv {s e m:Nat} (hs:s < 2) (h0:0 < e) (he:e < 2047) (hm:m < 4503599627370496):Ret (m_d4 (Fl s e m)) (Dv (sgF s*((4503599627370496+m:Nat):Int)) ((e:Int) - 1075)):=by
 unfold m_d4 m_cx
 rw [obs,fl_exp hs (by omega) hm,fl_frac hs (by omega) hm,wc_i64_in (x:=(e:Int)) (by omega)]
 simp only
 rw [if_neg (by omega),if_neg (by omega),ws_i (by omega) (by omega),fl_hid hm]
 unfold m_d3
 rw [wc_i64_in (by omega),ret_bind]
 refine (from_bg (n:=((4503599627370496+m:Nat):Int)) (by omega) (by omega)).mono fun a ha=>?_
 have hal:a.2.length≤2:=Bg.len ha (by have:pw 2=18446744073709551616:=rfl; omega) (by have:pw 2=18446744073709551616:=rfl; omega)
 unfold m_c9
 rw [obs,neg_bit hs (by omega) hm]
 have fin:∀ (b:Bool) (l:List Int),Bg (sgF s*((4503599627370496+m:Nat):Int)) b l→l.length≤2→Ret (m_d2 ((e:Int) - 1075) b l) (Dv (sgF s*((4503599627370496+m:Nat):Int)) ((e:Int) - 1075)):=by
  intro b l hB hl
  unfold m_d2 m_d1
  rw [ret_bind,ret_bind]
  have:=norm_dv (s:=b) hB.1 (by omega) (by rw [hB.sv]; exact sgF_ne) (x:=(e:Int) - 1075) (by omega)
  rw [hB.sv] at this
  exact this.mono fun r hr=>⟨_,rfl,_,rfl,hr.1⟩
 rw [ret_if]
 refine ⟨fun h1=>?_,fun h1=>?_⟩
 ·have h1:s=1:=by simpa using h1
  subst h1
  rw [ret_bind]
  refine (negF_bg (s:=a.1) ha.1 (by omega)).mono fun r hr=>?_
  rw [ha.sv] at hr
  have e1:sgF 1*((4503599627370496+m:Nat):Int)= - ((4503599627370496+m:Nat):Int):=by unfold sgF; rw [if_pos rfl]; omega
  refine fin r.1 r.2 (hr.cast e1.symm) ?_
  exact Bg.len hr (by have:pw 2=18446744073709551616:=rfl; omega) (by have:pw 2=18446744073709551616:=rfl; omega)
 ·have h2:¬ s=1:=by simpa using h1
  have h1:s=0:=by omega
  subst h1
  exact fin a.1 a.2 (ha.cast (by unfold sgF; rw [if_neg (by omega)]; omega)) hal
theorem rof_dv {s e m:Nat} (hs:s < 2) (h0:0 < e) (he:e < 2047) (hm:m < 4503599627370496):Ret (m_ci (Fl s e m)) (Dv (sgF s*((4503599627370496+m:Nat):Int)) ((e:Int) - 1075)):=by
 unfold m_ci m_d
 rw [fl_exp hs (by omega) hm,fl_frac hs (by omega) hm,obs,if_pos (by simp; omega),wc_i64_in (x:=(e:Int)) (by omega),if_pos (by omega),ws_i (by omega) (by omega),fl_hid hm]
 unfold m_ch m_cg
 rw [obs,neg_bit hs (by omega) hm,ret_bind]
 have hw:LW [wc .u32 ((4503599627370496+m:Nat):Int),wc .u32 (wsrc .u64 ((4503599627370496+m:Nat):Int) 32)]:=by
  intro x hx
  rw [wc_u32,wc_u32] at hx
  have b0:(0:Int) < B:=by unfold B; omega
  rcases List.mem_cons.1 hx with rfl | hx
  ·exact ⟨Int.emod_nonneg _ (by omega),Int.emod_lt_of_pos _ b0⟩
  ·rw [List.mem_singleton.1 hx]
   exact ⟨Int.emod_nonneg _ (by omega),Int.emod_lt_of_pos _ b0⟩
 have hv:lv [wc .u32 ((4503599627370496+m:Nat):Int),wc .u32 (wsrc .u64 ((4503599627370496+m:Nat):Int) 32)]=((4503599627370496+m:Nat):Int):=by
  rw [wsrc32 (by omega),wc_u32,wc_u32]
  simp only [lv]
  unfold B
  omega
 have hsv:sv (decide (s=1)) [wc .u32 ((4503599627370496+m:Nat):Int),wc .u32 (wsrc .u64 ((4503599627370496+m:Nat):Int) 32)]=sgF s*((4503599627370496+m:Nat):Int):=by
  unfold sv sgF
  rw [hv]
  rcases (show s=0∨s=1 by omega) with rfl | rfl
  ·simp
  ·simp
 have:=make_dv (s:=decide (s=1)) hw (by simp) (by rw [hsv]; exact sgF_ne) (x:=(e:Int) - 1075) (by omega)
 rw [hsv] at this
 exact this.mono fun r hr=>⟨_,rfl,hr⟩
theorem of_both {s e m:Nat} (hs:s < 2) (h0:0 < e) (he:e < 2047) (hm:m < 4503599627370496):∃ d,m_d4 (Fl s e m)=some d∧m_ci (Fl s e m)=some d∧Dv (sgF s*((4503599627370496+m:Nat):Int)) ((e:Int) - 1075) d:=by
 obtain ⟨d,h1,h2⟩:=of_dv hs h0 he hm
 obtain ⟨d',h3,h4⟩:=rof_dv hs h0 he hm
 obtain rfl:=h2.uniq h4
 exact ⟨d,h1,h3,h2⟩
theorem of_zero:m_d4 0=some (false,false,[],0)∧m_ci 0=some (false,false,[],0):=⟨by kernel_rfl,by kernel_rfl⟩
def Gf (a b:Nat) (f:Int):Prop:=f=0∨∃ s e m,s < 2∧a≤e∧e≤b∧m < 4503599627370496∧f=Fl s e m
structure Fd_ (x0:Int) (f v:Int) (d:Bool×Bool×List Int×Int):Prop where
 p:m_d4 f=some d
 r:m_ci f=some d
 bad:d.1=false
 zero:v=0→d=(false,false,[],0)
 bg:v≠0→∃ (k:Nat) (u:Int),d.2.2.2=x0+k∧k≤300∧Bg u d.2.1 d.2.2.1∧v=u*2 ^ k∧(-9007199254740992 < u∧u < 9007199254740992)∧-(2 ^ 145) < v∧v < 2 ^ 145
theorem Gf.dy {a b:Nat} {f:Int} (h:Gf a b f) (ha:0 < a) (hb:b < 2047) (hab:b≤a+92):∃ v d,Fd_ ((a:Int) - 1075) f v d:=by
 rcases h with rfl | ⟨s,e,m,hs,h1,h2,hm,rfl⟩
 ·exact ⟨0,_,of_zero.1,of_zero.2,rfl,fun _=>rfl,fun h=>absurd rfl h⟩
 ·obtain ⟨d,d1,d2,d3⟩:=of_both hs (e:=e) (by omega) (by omega) hm
  obtain ⟨d4,z,u,d5,d6,d7⟩:=d3
  have hz:z < 53:=by
   refine Classical.byContradiction fun hc=>?_
   have h3:=pw_two_le (N:=53) (M:=z) (by omega)
   have h4:(2:Int) ^ z*1≤2 ^ z*(2*u+1)∨2 ^ z*(2*u+1)≤2 ^ z*(-1):=by
    have hp:(0:Int) < 2 ^ z:=Int.pow_pos (by omega)
    by_cases hu:0≤u
    ·exact .inl (Int.mul_le_mul_of_nonneg_left (by omega) (by omega))
    ·exact .inr (Int.mul_le_mul_of_nonneg_left (by omega) (by omega))
   have h5:(2:Int) ^ 53=9007199254740992:=rfl
   unfold sgF at d5
   split at d5<;>omega
  have hp:(1:Int)≤2 ^ z:=by have:(0:Int) < 2 ^ z:=Int.pow_pos (by omega); omega
  refine ⟨(2*u+1)*2 ^ (e - a+z),d,d1,d2,d4,fun h=>?_,fun _=>⟨e - a+z,2*u+1,by rw [d7]; omega,by omega,d6,rfl,⟨?_,?_⟩,?_⟩⟩
  ·exfalso
   have hp:(0:Int) < 2 ^ (e - a+z):=Int.pow_pos (by omega)
   rcases Int.mul_eq_zero.1 h with h | h<;>omega
  ·have h4:u < 0→2 ^ z*(2*u+1)≤1*(2*u+1):=fun hu=>Int.mul_le_mul_of_nonpos_right hp (by omega)
   unfold sgF at d5
   split at d5<;>omega
  ·have h4:0≤u→1*(2*u+1)≤2 ^ z*(2*u+1):=fun hu=>Int.mul_le_mul_of_nonneg_right hp (by omega)
   unfold sgF at d5
   split at d5<;>omega
  ·have e1:(2*u+1)*2 ^ (e - a+z)=2 ^ z*(2*u+1)*2 ^ (e - a):=by rw [Int.pow_add]; grind
   have e2:(2:Int) ^ 145=9007199254740992*2 ^ 92:=by rw [show 145=53+92 from rfl,Int.pow_add]; rfl
   have hp2:=pw_two_le (N:=e - a) (M:=92) (by omega)
   have hp3:(0:Int) < 2 ^ (e - a):=Int.pow_pos (by omega)
   rw [e1,← d5,e2]
   generalize (2:Int) ^ 92=P at*
   generalize (2:Int) ^ (e - a)=Q at*
   have hm2: -9007199254740991≤sgF s*((4503599627370496+m:Nat):Int)∧sgF s*((4503599627370496+m:Nat):Int)≤9007199254740991:=by unfold sgF; split<;>omega
   have c1:sgF s*((4503599627370496+m:Nat):Int)*Q≤9007199254740991*Q:=Int.mul_le_mul_of_nonneg_right hm2.2 (by omega)
   have c2: -9007199254740991*Q≤sgF s*((4503599627370496+m:Nat):Int)*Q:=Int.mul_le_mul_of_nonneg_right hm2.1 (by omega)
   exact ⟨by omega,by omega⟩
theorem dsign_zero:m_d5 false false [] 0=some 0∧m_hn false false [] 0=some 0:=⟨by kernel_rfl,by kernel_rfl⟩
theorem Bg.len2 {u:Int} {s:Bool} {l:List Int} (h:Bg u s l) (h1: -9007199254740992 < u) (h2:u < 9007199254740992):l.length≤2:=Bg.len h (by have:pw 2=18446744073709551616:=rfl; omega) (by have:pw 2=18446744073709551616:=rfl; omega)
theorem Fd_.sign {x0 f v:Int} {d:Bool×Bool×List Int×Int} (h:Fd_ x0 f v d) (hx: -2000≤x0∧x0≤2000):∃ g,m_d5 d.1 d.2.1 d.2.2.1 d.2.2.2=some g∧m_hn d.1 d.2.1 d.2.2.1 d.2.2.2=some g∧(g=0↔v=0):=by
 by_cases hv:v=0
 ·rw [h.zero hv]
  exact ⟨0,dsign_zero.1,dsign_zero.2,by simp [hv]⟩
 ·obtain ⟨k,u,h1,h2,h3,h4,⟨h5,h6⟩,_⟩:=h.bg hv
  have hu:u≠0:=fun h0=>hv (by rw [h4,h0,Int.zero_mul])
  have hl:=h3.len2 h5 h6
  obtain ⟨r,r1,r2⟩:=norm_dv (s:=d.2.1) h3.1 (by omega) (by rw [h3.sv]; exact hu) (x:=d.2.2.2) (by omega)
  obtain ⟨q,q1,q2⟩:=make_dv (s:=d.2.1) h3.1 (by omega) (by rw [h3.sv]; exact hu) (x:=d.2.2.2) (by omega)
  have e1:=r2.1.uniq q2
  obtain ⟨q0,z,y,e3,e4,_⟩:=q2
  have hy:=sv_ne e4 (by omega)
  have hql:q.2.2.1.length≤2:=by
   have hp:(1:Int)≤2 ^ z:=by have:(0:Int) < 2 ^ z:=Int.pow_pos (by omega); omega
   rw [h3.sv] at e3
   refine e4.len2 ?_ ?_
   ·have h4:y < 0→2 ^ z*(2*y+1)≤1*(2*y+1):=fun hu=>Int.mul_le_mul_of_nonpos_right hp (by omega)
    omega
   ·have h4:0≤y→1*(2*y+1)≤2 ^ z*(2*y+1):=fun hu=>Int.mul_le_mul_of_nonneg_right hp (by omega)
    omega
  have f1:=sign_bg (s:=q.2.1) e4.1 (by omega)
  have f2:=signR_bg e4 (by omega)
  rw [e4.sv] at f1
  refine ⟨if 2*y+1 < 0 then -1 else if 0 < 2*y+1 then 1 else 0,?_,?_,?_⟩
  ·unfold m_d5
   rw [h.bad,r1,obs]
   have e5:r.2.1=q.2.1:=congrArg (·.2.1) e1
   have e6:r.2.2.1=q.2.2.1:=congrArg (·.2.2.1) e1
   rw [e5,e6,f1,obs]
  ·unfold m_hn m_bi
   rw [h.bad,if_neg (by simp),q1,obs,obs]
   simp only
   rw [q0,if_neg (by simp),f2,obs]
  ·constructor
   ·intro h0; exfalso; split at h0<;>(try split at h0)<;>omega
   ·intro h0; exact absurd h0 hv
end Km
namespace Km
open Sx Go M Vc Lm
theorem intTwo_ok {r:Int} (h0:4294967296≤r) (h1:r < 9223372036854775808) {l:List Int} (h:Bg r false l):m_bu false l=some (r,true):=by
 have e:B=4294967296:=rfl
 have p2:pw 2=18446744073709551616:=rfl
 have p1:pw 1=4294967296:=rfl
 have hr:lv l=r:=by have:=h.sv; unfold sv at this; rw [if_neg (by simp)] at this; exact this
 have hle:l.length≤2:=Bg.len h (by omega) (by omega)
 have hl2:l.length=2:=by
  have hb:=lv_lt h.1
  have:¬ l.length≤1:=fun hc=>by have:=pw_mono hc; omega
  omega
 obtain ⟨a,b,rfl⟩:∃ a b,l=[a,b]:=by
  match l,hl2 with
  | [a,b],_=>exact ⟨a,b,rfl⟩
 have ha:=h.1 a (by simp)
 have hb:=h.1 b (by simp)
 have hv:a+B*b=r:=by
  have:a+B*(b+B*0)=r:=hr
  rw [Int.mul_zero,Int.add_zero] at this
  exact this
 have hN:m_k false [a,b]=some (false,[a,b]):=by
  obtain ⟨q,q1,q2⟩:=normR_bg (s:=false) h.1 (by simp)
  have h':Bg (sv false [a,b]) false [a,b]:=h.cast h.sv.symm
  obtain ⟨e1,e2⟩:=q2.1.uniq h'
  rw [q1,← e1,← e2]
 unfold m_bu
 rw [hN,obs,if_neg (by simp)]
 have hL:loop (m_bt (false,[a,b])) (0,0)=some r:=by
  refine Ret.eq (ret_loop 2 (fun k (t:Int×Int)=>t=(if k=0 then 0 else if k=1 then a else r,(k:Int))) rfl ?_ (by omega))
  rintro k _ hk rfl
  unfold m_bt
  simp only [List.length_cons,List.length_nil]
  rcases (show k=0∨k=1∨k=2 by omega) with rfl | rfl | rfl
  ·rw [if_pos (by omega),show getI [a,b] ((0:Nat):Int)=some a from rfl,obs]
   have e1:wshl .u64 (wc .u64 a) (wm .i64 32 ((0:Nat):Int))=some a:=by
    rw [wm_i (by omega) (by omega),wc_u64_in ⟨ha.1,by omega⟩]
    unfold wshl
    rw [if_neg (by omega)]
    show some (IntKind.u64.wrap (a*2 ^ 0))=_
    rw [show ((2:Int) ^ 0)=1 from rfl,Int.mul_one,IntWalk.u64_in _ ⟨ha.1,by omega⟩]
   have e2:wor .u64 0 a=a:=by
    have:=wor_hi (x:=0) (y:=a) ⟨by omega,by omega⟩ ha
    rw [Int.zero_mul,Int.zero_add] at this
    exact this
   rw [e1,obs]
   show Ret (some (Sum.inl (wor .u64 0 a,wa .i64 ((0:Nat):Int) 1))) _
   rw [e2]
   exact ⟨_,rfl,by omega,rfl⟩
  ·rw [if_pos (by omega),show getI [a,b] ((1:Nat):Int)=some b from rfl,obs]
   have hbB:b*B=B*b:=Int.mul_comm _ _
   have e1:wshl .u64 (wc .u64 b) (wm .i64 32 ((1:Nat):Int))=some (b*B):=by
    rw [wm_i (by omega) (by omega),wc_u64_in ⟨hb.1,by omega⟩]
    unfold wshl
    rw [if_neg (by omega)]
    show some (IntKind.u64.wrap (b*2 ^ 32))=_
    rw [show ((2:Int) ^ 32)=B from rfl,IntWalk.u64_in _ ⟨by have:=Int.mul_nonneg hb.1 (show 0≤B by omega); omega,by omega⟩]
   have e2:wor .u64 a (b*B)=r:=by
    have:=wor_hi (x:=b) (y:=a) hb ha
    have h3:wor .u64 a (b*B)=wor .u64 (b*B) a:=by unfold wor; rw [BitVec.or_comm]
    rw [h3,this]
    have:b*B=B*b:=Int.mul_comm _ _
    omega
   rw [e1,obs]
   show Ret (some (Sum.inl (wor .u64 a (b*B),wa .i64 ((1:Nat):Int) 1))) _
   rw [e2]
   exact ⟨_,rfl,by omega,rfl⟩
  ·rw [if_neg (by omega)]
   exact ⟨_,rfl,rfl⟩
 simp only
 rw [hL,obs,if_neg (by simp),if_neg (by omega),wc_i64_in ⟨by omega,by omega⟩]
theorem Dv.self {v x:Int} {d:Bool×Bool×List Int×Int} (h:Dv v x d) (k:Int):∃ (z:Nat) (u:Int),v=2 ^ z*(2*u+1)∧Bg (2*u+1) d.2.1 d.2.2.1∧d.2.2.2=x+z∧Dv (2*u+1) (d.2.2.2+k) (false,d.2.1,d.2.2.1,d.2.2.2+k):=by
 obtain ⟨h1,z,u,h2,h3,h4⟩:=h
 exact ⟨z,u,h2,h3,h4,rfl,0,u,by rw [show ((2:Int) ^ 0)=1 from rfl,Int.one_mul],h3,by simp⟩
theorem make_self {u y:Int} {s:Bool} {l:List Int} (h:Bg (2*u+1) s l) (hl:l.length≤100) (hy: -20000≤y∧y≤20000):m_bg s l y=some (false,s,l,y):=by
 obtain ⟨q,q1,q2⟩:=make_dv (s:=s) h.1 hl (by rw [h.sv]; omega) hy
 rw [h.sv] at q2
 rw [q1]
 congr 1
 exact q2.uniq ⟨rfl,0,u,by rw [show ((2:Int) ^ 0)=1 from rfl,Int.one_mul],h,by simp⟩
theorem scale_zero (k:Int):m_ck 0 k 0=some 0:=by
 unfold m_ck
 rw [show m_cf 0=some false by kernel_rfl,obs,if_neg (by simp),show m_ce 0=some 0 by kernel_rfl,obs,if_neg (by omega)]
theorem kind_one {s e m:Nat} (hs:s < 2) (h0:0 < e) (he:e < 2047) (hm:m < 4503599627370496):m_ce (Fl s e m)=some 1:=by
 unfold m_ce
 rw [fl_exp hs (by omega) hm,fl_frac hs (by omega) hm,if_neg (by simp; omega),if_neg (by omega),if_neg (by simp; omega)]
theorem rounded_ok {s:Bool} {l:List Int} {b u:Nat} (h:Bg (u:Int) false l) (hb:Bl_ b (u:Int)) (hb53:b≤53) {y:Int} (h1: -900≤y+b) (h2:y+b≤900):∃ m:Nat,m < 4503599627370496∧m_bx s false l y false 0=some (Fl (if s=true then 1 else 0) (y+b+1022).toNat m):=by
 have hu0:(u:Int)≠0:=fun h0=>by have:=hb.2; have:(0:Int) < 2 ^ b:=Int.pow_pos (by omega); omega
 obtain ⟨hne,hnil⟩:=sv_ne h hu0
 have hlv:lv l=(u:Int):=by have:=h.sv; unfold sv at this; rw [if_neg (by simp)] at this; exact this
 have h53:=pw_two_le (N:=b) (M:=53) hb53
 have hu53:(u:Int) < 9007199254740992:=by have:=hb.1; have:(2:Int) ^ 53=9007199254740992:=rfl; omega
 have hl2:l.length≤2:=h.len2 (by omega) hu53
 obtain ⟨b',c1,c2,c3⟩:=bitR_ok (s:=false) h.1 h.2.1 (by omega) hnil
 rw [hlv] at c3
 have hbb:=c3.uniq hb
 subst hbb
 have hpb:(2:Int) ^ b'*2 ^ (53 - b')=9007199254740992:=by rw [← Int.pow_add,show b'+(53 - b')=53 by omega]; rfl
 have hK0:(0:Int) < 2 ^ (53 - b'):=Int.pow_pos (by omega)
 have hK1:(u:Int)*2 ^ (53 - b') < 9007199254740992:=by rw [← hpb]; exact Int.mul_lt_mul_of_pos_right hb.1 hK0
 have hK2:4503599627370496≤(u:Int)*2 ^ (53 - b'):=by
  have:(2:Int) ^ b'*2 ^ (53 - b')≤2*(u:Int)*2 ^ (53 - b'):=Int.mul_le_mul_of_nonneg_right hb.2 (by omega)
  rw [hpb,Int.mul_assoc] at this
  omega
 generalize hK:(u:Int)*2 ^ (53 - b')=K at*
 have hunit:imax (ws .i64 (ws .i64 (wa .i64 y (b':Int)) 1) 52) (-1074)=y+b' - 53:=by
  rw [wa_i (by omega) (by omega),ws_i (x:=y+(b':Int)) (by omega) (by omega),ws_i (by omega) (by omega)]
  unfold imax
  split<;>omega
 have fin:∀ {c:Bool} {t:List Int},Bg K c t→m_bw s 0 y (b':Int) c t=some (Fl (if s=true then 1 else 0) (y+b'+1022).toNat (K - 4503599627370496).toNat):=by
  intro c t ht
  have hc:c=false:=by
   cases c
   ·rfl
   ·have:=ht.neg.1 rfl; omega
  subst hc
  unfold m_bw
  rw [intTwo_ok (by omega) (by omega) ht,obs]
  simp only
  rw [if_neg (by omega),hunit]
  unfold m_bv
  rw [wa_i (by omega) (by omega),wa_i (by omega) (by omega),if_neg (by simp only [Bool.and_eq_true,decide_eq_true_eq]; omega),if_pos (by omega),wc_u64_in (x:=y+(b':Int) - 53+1075) ⟨by omega,by omega⟩,ws_i (by omega) (by omega),wc_u64_in ⟨by omega,by omega⟩]
  have e1:y+(b':Int) - 53+1075=(((y+b'+1022).toNat:Nat):Int):=by omega
  have e2:K - 4503599627370496=(((K - 4503599627370496).toNat:Nat):Int):=by omega
  have e3:=fl_mk (u:=(y+b'+1022).toNat) (m:=(K - 4503599627370496).toNat) (by omega) (by omega)
  rw [← e2,← e1] at e3
  rw [e3]
  unfold m_bk
  cases s
  ·rw [if_neg (by simp),obs]; rfl
  ·rw [if_pos rfl,obs,fl_signed (by omega) (by omega)]; rfl
 refine ⟨(K - 4503599627370496).toNat,by omega,?_⟩
 unfold m_bx
 rw [c1,obs,wa_i (by omega) (by omega),ws_i (by omega) (by omega),if_neg (by omega)]
 have hunit':=hunit
 rw [wa_i (by omega) (by omega),ws_i (x:=y+(b':Int)) (by omega) (by omega)] at hunit'
 rw [hunit']
 by_cases hc:y≤y+b' - 53
 ·have e53:b'=53:=by omega
  rw [if_pos hc,ws_i (by omega) (by omega),show y+(b':Int) - 53 - y=((0:Nat):Int) by omega]
  have hl0:m_bm false l ((0:Nat):Int)=some false:=by
   unfold m_bm
   rw [trimR_ok h.1 (by omega),obs,(tm_ext h.1 h.1 h.2.1 rfl).symm]
   obtain ⟨r,r1,r2⟩:=shrG_ok h.1 (by omega) (q:=0) (s:=0) (by omega) (by omega)
   rw [show 32*0+0=0 from rfl] at r1
   rw [r1,obs,r2.2.2.2 h.2.1 (by rw [show pw 0*2 ^ 0=1 from rfl]; exact Int.emod_one _)]
  obtain ⟨r,r1,r2⟩:=shiftR_dn (s:=false) h.1 (by omega) (N:=0) (by omega) (c:=(u:Int)) (by rw [h.sv]; rw [show ((2:Int) ^ 0)=1 from rfl,Int.mul_one])
  unfold m_bs
  rw [rdown_ok false l (by omega),r1,obs,obs,hl0,obs,if_pos (by rfl),obs]
  refine fin (r2.cast ?_)
  rw [← hK,e53]
  show (u:Int)=u*1
  omega
 ·rw [if_neg hc,ws_i (by omega) (by omega),show y - (y+(b':Int) - 53)=((53 - b':Nat):Int) by omega]
  obtain ⟨r,r1,r2⟩:=shiftR_up (s:=false) h.1 (by omega) (N:=53 - b') (by omega)
  rw [h.sv,hK] at r2
  rw [r1,obs]
  exact fin r2
theorem scaleF_ok {s e m:Nat} (hs:s < 2) (h0:500≤e) (he:e≤1500) (hm:m < 4503599627370496) {k:Int} (hk: -10≤k∧k≤10):∃ s' m':Nat,s' < 2∧m' < 4503599627370496∧m_ck (Fl s e m) k 0=some (Fl s' ((e:Int)+k).toNat m'):=by
 obtain ⟨d,d1,d2,d3⟩:=of_both hs (e:=e) (by omega) (by omega) hm
 have hbad:=d3.1
 obtain ⟨z,u,e1,e2,e3,_⟩:=d3.self 0
 have hp:(1:Int)≤2 ^ z:=by have:(0:Int) < 2 ^ z:=Int.pow_pos (by omega); omega
 have habs:∃ U:Nat,lv d.2.2.1=(U:Int)∧(U:Int)*2 ^ z=((4503599627370496+m:Nat):Int):=by
  refine ⟨(lv d.2.2.1).toNat,(Int.toNat_of_nonneg (lv_nn e2.1)).symm,?_⟩
  rw [Int.toNat_of_nonneg (lv_nn e2.1),e2.abs]
  unfold sgF at e1
  split
  ·rename_i hneg
   have:(-(2*u+1))*2 ^ z= - (2 ^ z*(2*u+1)):=by grind
   have h5:2 ^ z*(2*u+1) < 0:=Int.mul_neg_of_pos_of_neg (by omega) hneg
   split at e1<;>omega
  ·rename_i hneg
   have:(2*u+1)*2 ^ z=2 ^ z*(2*u+1):=Int.mul_comm _ _
   have h5:0≤2 ^ z*(2*u+1):=Int.mul_nonneg (by omega) (by omega)
   split at e1<;>omega
 obtain ⟨U,hU1,hU2⟩:=habs
 have hU0:0 < U:=by
  rcases Nat.eq_zero_or_pos U with h | h
  ·subst h; simp at hU2; omega
  ·exact h
 have hUle:(U:Int)*1≤U*2 ^ z:=Int.mul_le_mul_of_nonneg_left hp (by omega)
 have hlen:d.2.2.1.length≤2:=e2.len2 (by have:=e2.abs; rw [hU1] at this; split at this<;>omega) (by have:=e2.abs; rw [hU1] at this; split at this<;>omega)
 have hz:z < 53:=by
  refine Classical.byContradiction fun hc=>?_
  have h3:=pw_two_le (N:=53) (M:=z) (by omega)
  have h5:(2:Int) ^ 53=9007199254740992:=rfl
  have h6:1*2 ^ z≤(U:Int)*2 ^ z:=Int.mul_le_mul_of_nonneg_right (by omega) (by omega)
  omega
 obtain ⟨b,_,hb0,hb⟩:=bitR_ok (s:=false) e2.1 e2.2.1 (by omega) (sv_ne e2 (by omega)).2
 rw [hU1] at hb
 have hbz:b+z=53:=by
  have hA:Bl_ (b+z) ((4503599627370496+m:Nat):Int):=by
   refine ⟨?_,?_⟩
   ·rw [Int.pow_add,← hU2]; exact Int.mul_lt_mul_of_pos_right hb.1 (by omega)
   ·rw [Int.pow_add,← hU2,← Int.mul_assoc]; exact Int.mul_le_mul_of_nonneg_right hb.2 (by omega)
  have hB:Bl_ 53 ((4503599627370496+m:Nat):Int):=by
   have h5:(2:Int) ^ 53=9007199254740992:=rfl
   exact ⟨by omega,by omega⟩
  exact hA.uniq hB
 have hBU:Bg (U:Int) false d.2.2.1:=⟨e2.1,e2.2.1,by unfold sv; rw [if_neg (by simp)]; exact hU1,by simp⟩
 obtain ⟨m',hm',hR⟩:=rounded_ok (s:=d.2.1) hBU hb (by omega) (y:=d.2.2.2+k) (by omega) (by omega)
 refine ⟨if d.2.1=true then 1 else 0,m',by split<;>omega,hm',?_⟩
 have hsg:¬ (if 2*u+1 < 0 then -1 else if 0 < 2*u+1 then 1 else 0:Int)=0:=by split<;>(try split)<;>omega
 have hS:=signR_bg e2 (by omega)
 have hM0:=make_self e2 (by omega) (y:=d.2.2.2) (by omega)
 have hMk:=make_self e2 (by omega) (y:=d.2.2.2+k) (by omega)
 have hA:m_o d.2.1 d.2.2.1=some (false,d.2.2.1):=by
  obtain ⟨q,q1,q2,_⟩:=absR_bg (s:=d.2.1) e2.1 (by omega)
  rw [hU1] at q2
  obtain ⟨f1,f2⟩:=q2.uniq hBU
  rw [q1,← f1,← f2]
 have hScale:m_cj d.1 d.2.1 d.2.2.1 d.2.2.2 k=some (false,d.2.1,d.2.2.1,d.2.2.2+k):=by
  unfold m_cj m_bi
  rw [hbad,if_neg (by simp),hM0,obs,obs]
  simp only
  rw [if_neg (by simp),hS,obs,obs,if_neg (by simpa using hsg),if_neg (by simp only [Bool.or_eq_true,decide_eq_true_eq]; omega),wa_i (by omega) (by omega),hMk,obs]
 have hRound:m_by false d.2.1 d.2.2.1 (d.2.2.2+k) 0=some (Fl (if d.2.1=true then 1 else 0) (d.2.2.2+k+b+1022).toNat m'):=by
  unfold m_by m_bi
  rw [if_neg (by simp),hMk,obs,obs]
  simp only
  rw [if_neg (by simp),hS,obs,if_neg hsg,hA,obs]
  simp only
  rw [hR,obs]
 have himm:imax (-5000) (imin 5000 k)=k:=by unfold imax imin; split<;>split<;>omega
 unfold m_ck m_cf
 rw [kind_one hs (by omega) (by omega) hm,obs,obs,if_neg (by simp),obs,if_pos rfl,d2,obs,himm,hScale,obs,hRound,obs]
 congr 2
 omega
end Km
