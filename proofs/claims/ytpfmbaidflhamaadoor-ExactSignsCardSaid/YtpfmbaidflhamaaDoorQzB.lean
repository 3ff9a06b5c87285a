/- Lists of limbs of 32 bits: their values, and the machine's steps upon them. -/
import Derived.Test.YtpfmbaidflhamaaDoorVcA
import Derived.Test.YtpfmbaidflhamaaDoorM4
import Derived.KernelRfl
set_option linter.unusedVariables false
set_option linter.unusedSimpArgs false
set_option maxHeartbeats 4000000
set_option maxRecDepth 10000
namespace Lm
open Sx Go Vc
def B:Int:=4294967296
theorem wc_u32 (x:Int):wc .u32 x=x % B:=by unfold wc B; rw [IntKind.wrap_u32]
theorem wc_u64 (x:Int):wc .u64 x=x % 18446744073709551616:=by unfold wc; rw [IntKind.wrap_u64]
theorem wc_u64_in {x:Int} (h:0≤x∧x < 18446744073709551616):wc .u64 x=x:=by rw [wc_u64]; omega
theorem wc_u32_in {x:Int} (h:0≤x∧x < B):wc .u32 x=x:=by rw [wc_u32]; unfold B at *; omega
theorem wc_i64_in {x:Int} (h: -9223372036854775808≤x∧x≤9223372036854775807):wc .i64 x=x:=IntWalk.i64_in _ h
theorem wa_u64 {x y:Int} (h:0≤x+y∧x+y < 18446744073709551616):wa .u64 x y=x+y:=IntWalk.u64_in _ ⟨h.1,by omega⟩
theorem wm_u64 {x y:Int} (h:0≤x*y∧x*y < 18446744073709551616):wm .u64 x y=x*y:=IntWalk.u64_in _ ⟨h.1,by omega⟩
theorem ws_u64 (x y:Int):ws .u64 x y=(x - y) % 18446744073709551616:=by unfold ws; rw [IntKind.wrap_u64]
theorem wa_u32 (x y:Int):wa .u32 x y=(x+y) % B:=by unfold wa B; rw [IntKind.wrap_u32]
theorem bv64 {x:Int} (h:0≤x∧x < 18446744073709551616):(BitVec.ofInt 64 x).toNat=x.toNat:=by
  rw [BitVec.toNat_ofInt]
  omega
theorem wand_low {x:Int} (h:0≤x∧x < 18446744073709551616):wand .u64 x 4294967295=x % B:=by
  unfold wand
  have e:(BitVec.ofInt 64 x &&& BitVec.ofInt 64 4294967295).toNat=x.toNat % 4294967296:=by
    rw [BitVec.toNat_and,bv64 h,bv64 (by omega)]
    show x.toNat &&& 4294967295=_
    exact Nat.and_two_pow_sub_one_eq_mod x.toNat 32
  show IntKind.u64.wrap ((BitVec.ofInt 64 x &&& BitVec.ofInt 64 4294967295).toNat:Int)=_
  rw [e,IntWalk.u64_in _ (by omega)]
  unfold B
  omega
theorem wand_one {x:Int} (h:0≤x∧x < 18446744073709551616):wand .u64 x 1=x % 2:=by
  unfold wand
  have e:(BitVec.ofInt 64 x &&& BitVec.ofInt 64 1).toNat=x.toNat % 2:=by
    rw [BitVec.toNat_and,bv64 h,bv64 (by omega)]
    exact Nat.and_two_pow_sub_one_eq_mod x.toNat 1
  show IntKind.u64.wrap ((BitVec.ofInt 64 x &&& BitVec.ofInt 64 1).toNat:Int)=_
  rw [e,IntWalk.u64_in _ (by omega)]
  omega
theorem wsrc32 {x:Int} (h:0≤x):wsrc .u64 x 32=x / B:=by
  unfold wsrc B
  show x.fdiv (2 ^ 32)=_
  rw [Int.fdiv_eq_ediv_of_nonneg _ (by omega)]
  rfl
theorem wslc32 {x:Int} (h:0≤x∧x < B):wslc .u64 x 32=x*B:=by
  unfold wslc B at*
  show IntKind.u64.wrap (x*2 ^ 32)=_
  rw [IntWalk.u64_in _ (by omega)]
  omega
theorem wor_hi {x y:Int} (hx:0≤x∧x < B) (hy:0≤y∧y < B):wor .u64 (x*B) y=x*B+y:=by
  unfold B at*
  unfold wor
  have e:(BitVec.ofInt 64 (x*4294967296) ||| BitVec.ofInt 64 y).toNat=x.toNat*4294967296+y.toNat:=by
    rw [BitVec.toNat_or,bv64 (by omega),bv64 (by omega)]
    have e1:(x*4294967296).toNat=2 ^ 32*x.toNat:=by omega
    rw [e1,← Nat.two_pow_add_eq_or_of_lt (by omega)]
    omega
  show IntKind.u64.wrap ((BitVec.ofInt 64 (x*4294967296) ||| BitVec.ofInt 64 y).toNat:Int)=_
  rw [e,IntWalk.u64_in _ (by omega)]
  omega
def LW (l:List Int):Prop:=∀ x,x∈l→0≤x∧x < B
def lv:List Int→Int
  | []=>0
  | x::l=>x+B*lv l
def pw:Nat→Int
  | 0=>1
  | n+1=>B*pw n
theorem pw_pos:∀ n,0 < pw n
  | 0=>by simp [pw]
  | n+1=>by have:=pw_pos n; unfold pw B; omega
theorem pw_add (m:Nat):∀ n,pw (m+n)=pw m*pw n
  | 0=>by simp [pw]
  | n+1=>by
    have:=pw_add m n
    simp only [pw,Nat.add_eq]
    rw [this]
    grind
theorem lv_nn:∀ {l:List Int},LW l→0≤lv l
  | [],_=>by simp [lv]
  | x::l,h=>by
    have h1:=lv_nn (l:=l) (fun y hy=>h y (by simp [hy]))
    have h2:=h x (by simp)
    unfold lv B
    omega
theorem lv_lt:∀ {l:List Int},LW l→lv l < pw l.length
  | [],_=>by simp [lv,pw]
  | x::l,h=>by
    have h1:=lv_lt (l:=l) (fun y hy=>h y (by simp [hy]))
    have h2:=h x (by simp)
    simp only [lv,List.length_cons,pw]
    unfold B at*
    omega
theorem lv_app:∀ (a b:List Int),lv (a++b)=lv a+pw a.length*lv b
  | [],b=>by simp [lv,pw]
  | x::a,b=>by
    have:=lv_app a b
    simp only [List.cons_append,lv,List.length_cons,pw,this]
    grind
theorem lv_zeros:∀ n,lv (List.replicate n 0)=0
  | 0=>rfl
  | n+1=>by simp [List.replicate_succ,lv,lv_zeros n]
theorem LW.tail {x:Int} {l:List Int} (h:LW (x::l)):LW l:=fun y hy=>h y (by simp [hy])
theorem LW.app {a b:List Int}:LW (a++b)↔LW a∧LW b:=by
  unfold LW
  constructor
  · intro h; exact ⟨fun x hx=>h x (by simp [hx]),fun x hx=>h x (by simp [hx])⟩
  · rintro ⟨h1,h2⟩ x hx
    rcases List.mem_append.1 hx with hx | hx
    · exact h1 x hx
    · exact h2 x hx
theorem LW.one {x:Int}:LW [x]↔0≤x∧x < B:=by simp [LW]
def Tm (l:List Int):Prop:=∀ x,l.getLast?=some x→x≠0
theorem tm_nil:Tm []:=by simp [Tm]
theorem tm_snoc {l:List Int} {x:Int} (h:x≠0):Tm (l++[x]):=by simp [Tm,h]
theorem tm_lower:∀ {l:List Int},LW l→Tm l→l≠[]→pw (l.length - 1)≤lv l:=by
  intro l h ht hne
  obtain ⟨m,x,rfl⟩:∃ m x,l=m++[x]:=⟨l.dropLast,l.getLast hne,(List.dropLast_concat_getLast hne).symm⟩
  have hx:=ht x (by simp)
  obtain ⟨h1,h2⟩:=LW.app.1 h
  have h3:=lv_nn h1
  have h4:=LW.one.1 h2
  rw [lv_app]
  simp only [List.length_append,List.length_singleton,Nat.add_sub_cancel,lv]
  have h5:=pw_pos m.length
  have:pw m.length*1≤pw m.length*x:=Int.mul_le_mul_of_nonneg_left (by omega) (by omega)
  simp at this ⊢
  omega
theorem pw_mono {m n:Nat} (h:m≤n):pw m≤pw n:=by
  obtain ⟨k,rfl⟩:∃ k,n=m+k:=⟨n - m,by omega⟩
  rw [pw_add]
  have h1:=pw_pos m
  have h2:=pw_pos k
  have:pw m*1≤pw m*pw k:=Int.mul_le_mul_of_nonneg_left (by omega) (by omega)
  omega
theorem tm_len {a b:List Int} (ha:LW a) (hb:LW b) (ta:Tm a) (tb:Tm b) (h:a.length < b.length):lv a < lv b:=by
  have h1:=lv_lt ha
  have h2:=tm_lower hb tb (by rintro rfl; simp at h)
  have h3:=pw_mono (m:=a.length) (n:=b.length - 1) (by omega)
  omega
theorem lv_inj:∀ {a b:List Int},LW a→LW b→a.length=b.length→lv a=lv b→a=b
  | [],[],_,_,_,_=>rfl
  | [],_::_,_,_,h,_=>by simp at h
  | _::_,[],_,_,h,_=>by simp at h
  | x::a,y::b,ha,hb,hl,he=>by
    have hx:=ha x (by simp)
    have hy:=hb y (by simp)
    simp only [lv] at he
    unfold B at*
    have e1:x=y:=by omega
    subst e1
    have e2:lv a=lv b:=by omega
    rw [lv_inj ha.tail hb.tail (by simpa using hl) e2]
theorem tm_inj {a b:List Int} (ha:LW a) (hb:LW b) (ta:Tm a) (tb:Tm b) (he:lv a=lv b):a=b:=by
  have h1:¬ a.length < b.length:=fun h=>by have:=tm_len ha hb ta tb h; omega
  have h2:¬ b.length < a.length:=fun h=>by have:=tm_len hb ha tb ta h; omega
  exact lv_inj ha hb (by omega) he
theorem lv_zero {a:List Int} (ha:LW a) (ta:Tm a):lv a=0↔a=[]:=by
  constructor
  · intro h
    exact tm_inj ha (by intro x hx; simp at hx) ta tm_nil h
  · rintro rfl; rfl
def trimL:List Int→List Int
  | []=>[]
  | x::l=>match trimL l with
    | []=>if x=0 then [] else [x]
    | m=>x::m
theorem trimL_lv:∀ l:List Int,lv (trimL l)=lv l
  | []=>rfl
  | x::l=>by
    have ih:=trimL_lv l
    unfold trimL
    cases h:trimL l with
    | nil=>
      rw [h] at ih
      simp only [lv] at ih
      simp only
      by_cases hx:x=0
      · rw [if_pos hx]; simp only [lv,← ih,hx]; rfl
      · rw [if_neg hx]; simp only [lv,← ih]
    | cons y m=>
      rw [h] at ih
      simp only [lv] at ih ⊢
      rw [ih]
theorem trimL_lw:∀ {l:List Int},LW l→LW (trimL l)
  | [],h=>h
  | x::l,h=>by
    have ih:=trimL_lw h.tail
    unfold trimL
    cases e:trimL l with
    | nil=>
      simp only
      split
      · intro y hy; simp at hy
      · exact LW.one.2 (h x (by simp))
    | cons y m=>
      rw [e] at ih
      simp only
      intro z hz
      rcases List.mem_cons.1 hz with rfl | hz
      · exact h z (by simp)
      · exact ih z hz
theorem trimL_tm:∀ l:List Int,Tm (trimL l)
  | []=>tm_nil
  | x::l=>by
    have ih:=trimL_tm l
    unfold trimL
    cases e:trimL l with
    | nil=>
      simp only
      split
      · exact tm_nil
      · rename_i h; intro y hy; simp at hy; omega
    | cons y m=>
      rw [e] at ih
      simp only
      intro z hz
      refine ih z ?_
      rw [← hz,List.getLast?_cons_cons]
theorem tm_ext {a:List Int} {b:List Int} (ha:LW a) (hb:LW b) (ta:Tm a) (h:lv a=lv b):a=trimL b:=
  tm_inj ha (trimL_lw hb) ta (trimL_tm b) (by rw [trimL_lv,h])
end Lm
namespace Lm
def Qt (u v q:Int):Prop:=q*v≤u∧u < (q+1)*v
theorem Qt.le_of {u v q x:Int} (h:Qt u v q) (hv:0 < v) (hx:x*v≤u):x≤q:=by
  refine Classical.byContradiction fun hno=>?_
  have h1:(q+1)*v≤x*v:=Int.mul_le_mul_of_nonneg_right (by omega) (by omega)
  have:=h.2
  omega
theorem Qt.lt_of {u v q x:Int} (h:Qt u v q) (hv:0 < v) (hx:u < x*v):q < x:=by
  refine Classical.byContradiction fun hno=>?_
  have h1:x*v≤q*v:=Int.mul_le_mul_of_nonneg_right (by omega) (by omega)
  have:=h.1
  omega
theorem Qt.nn {u v q:Int} (h:Qt u v q) (hv:0 < v) (hu:0≤u):0≤q:=h.le_of hv (by omega)
theorem Qt.uniq {u v q q':Int} (h:Qt u v q) (h':Qt u v q') (hv:0 < v):q=q':=Int.le_antisymm (h'.le_of hv h.1) (h.le_of hv h'.1)
theorem Qt.ediv {u v:Int} (hv:0 < v):Qt u v (u / v):=⟨Int.ediv_mul_le u (by omega),by rw [Int.add_mul,Int.one_mul]; exact Int.lt_ediv_add_one_mul_self u hv |> fun h=>by rw [Int.add_mul,Int.one_mul] at h; exact h⟩
theorem Qt.eq {u v q:Int} (h:Qt u v q) (hv:0 < v):q=u / v:=h.uniq (Qt.ediv hv) hv
theorem guess_ge {u v q top vt P ur vr:Int} (h:Qt u v q) (hP:0 < P) (hu:u=top*P+ur) (hur:ur < P) (hv:v=vt*P+vr) (hvr:0≤vr) (hvt:0 < vt) (hq:0≤q):q*vt≤top:=by
  refine Classical.byContradiction fun hno=>?_
  have h1:(top+1)*P≤q*vt*P:=Int.mul_le_mul_of_nonneg_right (by omega) (by omega)
  have h2:0≤q*vr:=Int.mul_nonneg hq hvr
  have h3:=h.1
  have e1:q*v=q*vt*P+q*vr:=by rw [hv]; grind
  have e2:(top+1)*P=top*P+P:=by grind
  omega
theorem guess_le {u v q g t3 v2 S us vs:Int} (h:Qt u v q) (hS:0 < S) (hu:u=t3*S+us) (hus:0≤us) (hv:v=v2*S+vs) (hvs:vs < S) (hvs0:0≤vs) (hg:g*v2≤t3) (hg0:0≤g) (hgB:g*S≤v) (hv0:0 < v):g≤q+1:=by
  have h1:g*v2*S≤t3*S:=Int.mul_le_mul_of_nonneg_right hg (by omega)
  have h2:g*vs≤g*S:=Int.mul_le_mul_of_nonneg_left (by omega) hg0
  have e1:g*v=g*v2*S+g*vs:=by rw [hv]; grind
  refine Classical.byContradiction fun hno=>?_
  have h3:(q+2)*v≤g*v:=Int.mul_le_mul_of_nonneg_right (by omega) (by omega)
  have e2:(q+2)*v=(q+1)*v+v:=by grind
  have h4:=h.2
  omega
theorem guess_gt {u v q g t3 v2 S us vs:Int} (h:Qt u v q) (hS:0 < S) (hu:u=t3*S+us) (hus:us < S) (hv:v=v2*S+vs) (hvs0:0≤vs) (hg:t3 < g*v2) (hg0:0≤g) (hv0:0 < v):q < g:=by
  refine h.lt_of hv0 ?_
  have h1:(t3+1)*S≤g*v2*S:=Int.mul_le_mul_of_nonneg_right (by omega) (by omega)
  have h2:0≤g*vs:=Int.mul_nonneg hg0 hvs0
  have e1:g*v=g*v2*S+g*vs:=by rw [hv]; grind
  have e2:(t3+1)*S=t3*S+S:=by grind
  omega
end Lm
namespace Km
open Sx Go M Vc Lm
theorem lv_snoc (l:List Int) (x:Int):lv (l++[x])=lv l+pw l.length*x:=by
  rw [lv_app]; simp [lv]
theorem LW.take {l:List Int} (h:LW l) (k:Nat):LW (l.take k):=fun x hx=>h x (List.mem_of_mem_take hx)
theorem LW.get {l:List Int} (h:LW l) {k:Nat} {x:Int} (hx:l[k]?=some x):0≤x∧x < B:=h x (mem_get hx)
theorem trim_ok {l:List Int} (hl:LW l) (hn:l.length≤1000000):integer_trim l=some (trimL l):=by
  refine Ret.eq ?_
  unfold integer_trim
  rw [ret_bind]
  refine (ret_loop (Post:=fun i=>∃ k:Nat,i=(k:Int)∧k≤l.length∧lv (l.take k)=lv l∧Tm (l.take k)) l.length (fun m (i:Int)=>i=((l.length - m:Nat):Int)∧m≤l.length∧lv (l.take (l.length - m))=lv l) ⟨by rw [Nat.sub_zero],by omega,by rw [Nat.sub_zero,List.take_length]⟩ ?_ (by omega)).mono ?_
  · rintro m _ hm ⟨rfl,h1,h2⟩
    unfold integer_trim_l3
    rw [ret_bind,ret_if]
    refine ⟨fun hlt=>?_,fun hge=>?_⟩
    · have e1:ws .i64 ((l.length - m:Nat):Int) 1=((l.length - (m+1):Nat):Int):=by rw [ws_i (by omega) (by omega)]; omega
      rw [e1,ret_bind,ret_get]
      refine ⟨by omega,by omega,fun x hx=>?_⟩
      rw [Int.toNat_natCast] at hx
      have ht:l.take (l.length - m)=l.take (l.length - (m+1))++[x]:=by
        rw [show l.length - m=l.length - (m+1)+1 by omega]; exact tks hx
      rw [ret_some,ret_if]
      refine ⟨fun hz=>?_,fun hz=>?_⟩
      · have hz:x=0:=by simpa using hz
        refine ⟨_,rfl,by omega,rfl,by omega,?_⟩
        rw [← h2,ht,lv_snoc,hz]; simp
      · have hz:x≠0:=by simpa using hz
        exact ⟨_,rfl,l.length - m,rfl,by omega,h2,by rw [ht]; exact tm_snoc hz⟩
    · rw [ret_some,if_neg (by simp)]
      have e:l.length - m=0:=by omega
      exact ⟨_,rfl,0,by rw [e],by omega,by rw [← h2,e],by simp [Tm]⟩
  · rintro _ ⟨k,rfl,h1,h2,h3⟩
    rw [ret_bind,ret_sli]
    refine ⟨by omega,by omega,by omega,_,rfl,?_⟩
    rw [Int.toNat_natCast,show (0:Int).toNat=0 from rfl,List.drop_zero]
    exact tm_ext (LW.take hl k) hl h3 h2
theorem big_ok {l:List Int} (s:Bool) (hl:LW l) (hn:l.length≤1000000):integer_big s l=some (if trimL l=[] then (false,[]) else (s,trimL l)):=by
  unfold integer_big
  rw [trim_ok hl hn,obs]
  by_cases h:trimL l=[]
  · rw [if_pos (by rw [h]; rfl),if_pos h]
  · rw [if_neg (by simpa using h),if_neg h]
theorem from_ok {p:Int} (hp:0 < p) (hB:p < B):integer_FromInt p=some (false,[p]):=by
  unfold B at hB
  unfold integer_FromInt integer_FromInt_j1
  rw [if_neg (by omega),wc_u64_in ⟨by omega,by omega⟩,wand_low ⟨by omega,by omega⟩,wsrc32 (by omega)]
  have e1:p % B=p:=Int.emod_eq_of_lt (by omega) (by unfold B; omega)
  have e2:p / B=0:=Int.ediv_eq_zero_of_lt (by omega) (by unfold B; omega)
  rw [e1,e2,wc_u32_in ⟨by omega,by unfold B; omega⟩,wc_u32_in ⟨by omega,by unfold B; omega⟩]
  have hl:LW [p,0]:=by
    intro x hx
    simp at hx
    unfold B
    omega
  have ht:trimL [p,0]=[p]:=by
    simp [trimL]
    omega
  rw [big_ok _ hl (by simp),ht,obs,if_neg (by simp)]
  simp
  omega
theorem short_ok {a:List Int} {d:Int} (ha:LW a) (hn:a.length≤1000) (hd:0 < d) (hB:d < B):∃ q,integer_short a d=some (q,lv a % d)∧LW q∧Tm q∧lv q=lv a / d:=by
  have key:Ret (integer_short a d) (fun r=>LW r.1∧Tm r.1∧lv r.1=lv a / d∧r.2=lv a % d):=by
    unfold B at hB
    unfold integer_short
    rw [ret_bind,ret_mkL]
    refine ⟨by omega,by omega,?_⟩
    rw [Int.toNat_natCast,ret_bind]
    have hcd:wc .u64 d=d:=wc_u64_in ⟨by omega,by omega⟩
    refine (ret_loop (Post:=fun s:List Int×Int=>LW s.1∧s.1.length=a.length∧(0≤s.2∧s.2 < d)∧lv a=lv s.1*d+s.2) a.length (fun m (s:List Int×Int×Int)=>s.2.2=(a.length:Int) - 1 - m∧m≤a.length∧LW s.1∧s.1.length=a.length∧(0≤s.2.1∧s.2.1 < d)∧lv (a.drop (a.length - m))=lv (s.1.drop (a.length - m))*d+s.2.1) ⟨by show ws .i64 (a.length:Int) 1=_; rw [ws_i (by omega) (by omega)]; simp,by omega,fun x hx=>by rw [List.mem_replicate] at hx; rw [hx.2]; unfold B; omega,List.length_replicate ..,⟨by show (0:Int)≤0; omega,hd⟩,by rw [Nat.sub_zero,List.drop_length,List.drop_of_length_le (by simp)]; simp [lv]⟩ ?_ (by omega)).mono ?_
    · rintro m ⟨q,r,_⟩ hm ⟨h1,h2,h3,h4,h5,h6⟩
      simp only at h1 h3 h4 h5 h6
      subst h1
      unfold integer_short_l1
      simp only
      rw [ret_if]
      refine ⟨fun hge=>?_,fun hlt=>⟨_,rfl,h3,h4,h5,?_⟩⟩
      · obtain ⟨i,hi⟩:∃ i:Nat,a.length=i+(m+1):=⟨a.length - (m+1),by omega⟩
        have ei:(a.length:Int) - 1 - (m:Int)=(i:Int):=by omega
        rw [ei,ret_bind,ret_get]
        refine ⟨by omega,by omega,fun x hx=>?_⟩
        rw [Int.toNat_natCast] at hx
        have hxB:=LW.get ha hx
        have hr2:0≤r∧r < B:=⟨h5.1,by unfold B; omega⟩
        have ht:wor .u64 (wslc .u64 r 32) (wc .u64 x)=r*B+x:=by
          rw [wslc32 hr2,wc_u64_in ⟨hxB.1,by unfold B at hxB; omega⟩,wor_hi hr2 hxB]
        rw [ht,hcd]
        have hr3:r+1≤d:=by omega
        have hmul:(r+1)*B≤d*B:=Int.mul_le_mul_of_nonneg_right hr3 (by unfold B; omega)
        have hrB:0≤r*B:=Int.mul_nonneg h5.1 (by unfold B; omega)
        rw [Int.add_mul,Int.one_mul] at hmul
        have htn:0≤r*B+x:=by omega
        have hq0:0≤(r*B+x) / d:=Int.ediv_nonneg htn (by omega)
        have hqB:(r*B+x) / d < B:=Int.ediv_lt_of_lt_mul hd (by rw [Int.mul_comm B d]; omega)
        have hrem:0≤(r*B+x) % d∧(r*B+x) % d < d:=⟨Int.emod_nonneg _ (by omega),Int.emod_lt_of_pos _ hd⟩
        have hwq:wq .u64 (r*B+x) d=some ((r*B+x) / d):=by
          unfold wq
          rw [if_neg (by omega),Int.tdiv_eq_ediv_of_nonneg htn,IntWalk.u64_in _ ⟨hq0,by have e:B=4294967296:=rfl; omega⟩]
        have hwr:wr (r*B+x) d=some ((r*B+x) % d):=by
          unfold wr
          rw [if_neg (by omega),Int.tmod_eq_emod_of_nonneg htn]
        rw [hwq,obs,ret_bind,ret_set]
        refine ⟨by omega,by omega,?_⟩
        rw [hwr,obs,Int.toNat_natCast,wc_u32_in ⟨hq0,hqB⟩]
        refine ⟨_,rfl,by omega,?_⟩
        simp only
        refine ⟨by rw [ws_i (by omega) (by omega)]; omega,by omega,?_,by rw [List.length_set]; exact h4,hrem,?_⟩
        · intro y hy
          rcases List.mem_or_eq_of_mem_set hy with hy | rfl
          · exact h3 y hy
          · exact ⟨hq0,hqB⟩
        · have e1:a.length - (m+1)=i:=by omega
          have e2:a.length - m=i+1:=by omega
          rw [e2] at h6
          rw [e1]
          have ea:a.drop i=x::a.drop (i+1):=by
            obtain ⟨hlt,he⟩:=List.getElem?_eq_some_iff.1 hx
            rw [← he]; exact List.drop_eq_getElem_cons hlt
          have eq:(q.set i ((r*B+x) / d)).drop i=((r*B+x) / d)::q.drop (i+1):=by
            have hlt:i < (q.set i ((r*B+x) / d)).length:=by rw [List.length_set]; omega
            rw [List.drop_eq_getElem_cons hlt,List.getElem_set_self,List.drop_set_of_lt (by omega)]
          rw [ea,eq]
          simp only [lv]
          rw [h6]
          have h7:=Int.mul_ediv_add_emod (r*B+x) d
          have e9:((r*B+x) / d+B*lv (q.drop (i+1)))*d=d*((r*B+x) / d)+B*(lv (q.drop (i+1))*d):=by grind
          rw [e9]
          have e10:B*(lv (q.drop (i+1))*d+r)=B*(lv (q.drop (i+1))*d)+r*B:=by grind
          rw [e10]
          omega
      · have e:a.length - m=0:=by omega
        rw [e,List.drop_zero,List.drop_zero] at h6
        exact h6
    · rintro ⟨q,r⟩ ⟨h1,h2,h3,h4⟩
      simp only at h1 h2 h3 h4 ⊢
      rw [trim_ok h1 (by omega),obs]
      refine ⟨_,rfl,trimL_lw h1,trimL_tm q,?_,?_⟩
      · show lv (trimL q)=_
        rw [trimL_lv,h4,Int.add_comm,Int.add_mul_ediv_right _ _ (by omega),Int.ediv_eq_zero_of_lt h3.1 h3.2,Int.zero_add]
      · show wc .u32 r=_
        rw [wc_u32_in ⟨h3.1,by unfold B; omega⟩,h4,Int.add_comm,Int.add_mul_emod_self_right,Int.emod_eq_of_lt h3.1 h3.2]
  obtain ⟨⟨q,r⟩,h0,h1,h2,h3,h4⟩:=key
  simp only at h1 h2 h3 h4
  exact ⟨q,by rw [h0,h4],h1,h2,h3⟩
end Km
namespace Km
open Sx Go M Vc Lm
theorem cmpInt_ok (x y:Int):cmp_Compare_int x y=some (if x < y then -1 else if y < x then 1 else 0):=by
  unfold cmp_Compare_int cmp_isNaN_int
  simp only [decide_true,Bool.not_true,obs,if_false,Bool.false_eq_true]
  split
  · rfl
  · split<;>rfl
theorem cmpU_ok (x y:Int):cmp_Compare_uint32 x y=some (if x < y then -1 else if y < x then 1 else 0):=by
  unfold cmp_Compare_uint32 cmp_isNaN_uint32
  simp only [decide_true,Bool.not_true,obs,if_false,Bool.false_eq_true]
  split
  · rfl
  · split<;>rfl
theorem split_at {a:List Int} {i:Nat} {x:Int} (hx:a[i]?=some x):lv a=lv (a.take i)+pw i*(x+B*lv (a.drop (i+1))):=by
  obtain ⟨hlt,he⟩:=List.getElem?_eq_some_iff.1 hx
  have e:a=a.take i++(x::a.drop (i+1)):=by
    rw [← he,← List.drop_eq_getElem_cons hlt,List.take_append_drop]
  have e2:lv a=lv (a.take i++(x::a.drop (i+1))):=congrArg lv e
  rw [e2,lv_app]
  simp only [lv,List.length_take]
  rw [Nat.min_eq_left (by omega)]
theorem take_lt {a:List Int} (ha:LW a) {i:Nat} (hi:i≤a.length):0≤lv (a.take i)∧lv (a.take i) < pw i:=by
  have h1:=lv_lt (LW.take ha i)
  rw [List.length_take,Nat.min_eq_left hi] at h1
  exact ⟨lv_nn (LW.take ha i),h1⟩
theorem lex_lt {a b:List Int} (ha:LW a) (hb:LW b) {i:Nat} {x y:Int} (hx:a[i]?=some x) (hy:b[i]?=some y) (he:a.drop (i+1)=b.drop (i+1)) (h:x < y):lv a < lv b:=by
  have h1:=(List.getElem?_eq_some_iff.1 hx).1
  have h2:=(List.getElem?_eq_some_iff.1 hy).1
  rw [split_at hx,split_at hy,he]
  have t1:=take_lt ha (i:=i) (by omega)
  have t2:=take_lt hb (i:=i) (by omega)
  have hp:=pw_pos i
  have e1:pw i*(y+B*lv (b.drop (i+1)))=pw i*(x+B*lv (b.drop (i+1)))+pw i*(y - x):=by grind
  have e2:pw i*1≤pw i*(y - x):=Int.mul_le_mul_of_nonneg_left (by omega) (by omega)
  rw [e1]
  omega
theorem compare_ok {a b:List Int} (ha:LW a) (hb:LW b) (ta:Tm a) (tb:Tm b) (hn:a.length≤1000) (hm:b.length≤1000):integer_compare a b=some (if lv a < lv b then -1 else if lv b < lv a then 1 else 0):=by
  refine Ret.eq ?_
  unfold integer_compare
  rw [ret_if]
  refine ⟨fun hl=>?_,fun hl=>?_⟩
  · have hl:a.length=b.length:=by omega
    rw [ret_bind]
    refine (ret_loop (Post:=fun o=>(o=.inl ()∧a=b)∨∃ c,o=.inr c∧c=(if lv a < lv b then -1 else if lv b < lv a then 1 else 0)) a.length (fun m (i:Int)=>i=(a.length:Int) - 1 - m∧m≤a.length∧a.drop (a.length - m)=b.drop (a.length - m)) ⟨by rw [ws_i (by omega) (by omega)]; omega,by omega,by rw [Nat.sub_zero,List.drop_length,List.drop_of_length_le (by omega)]⟩ ?_ (by omega)).mono ?_
    · rintro m i hm' ⟨rfl,h1,h2⟩
      unfold integer_compare_l1
      rw [ret_if]
      refine ⟨fun hge=>?_,fun hlt=>⟨_,rfl,.inl ⟨rfl,by have e:a.length - m=0:=(by omega); rwa [e,List.drop_zero,List.drop_zero] at h2⟩⟩⟩
      obtain ⟨j,hj⟩:∃ j:Nat,a.length=j+(m+1):=⟨a.length - (m+1),by omega⟩
      have ej:(a.length:Int) - 1 - (m:Int)=(j:Int):=by omega
      have e2:a.length - m=j+1:=by omega
      rw [e2] at h2
      rw [ej,ret_bind,ret_get]
      refine ⟨by omega,by omega,fun x hx=>?_⟩
      rw [ret_bind,ret_get]
      refine ⟨by omega,by omega,fun y hy=>?_⟩
      rw [Int.toNat_natCast] at hx hy
      rw [ret_if]
      refine ⟨fun he=>⟨_,rfl,by omega,by rw [ws_i (by omega) (by omega)]; omega,by omega,?_⟩,fun hne=>?_⟩
      · subst he
        obtain ⟨k1,k2⟩:=List.getElem?_eq_some_iff.1 hx
        obtain ⟨k3,k4⟩:=List.getElem?_eq_some_iff.1 hy
        rw [show a.length - (m+1)=j by omega,List.drop_eq_getElem_cons k1,List.drop_eq_getElem_cons k3,k2,k4,h2]
      · rw [ret_bind,ret_get]
        refine ⟨by omega,by omega,fun x' hx'=>?_⟩
        rw [Int.toNat_natCast,hx] at hx'
        obtain rfl:=Option.some.inj hx'
        rw [ret_bind,ret_get]
        refine ⟨by omega,by omega,fun y' hy'=>?_⟩
        rw [Int.toNat_natCast,hy] at hy'
        obtain rfl:=Option.some.inj hy'
        rw [cmpU_ok,obs]
        refine ⟨_,rfl,.inr ⟨_,rfl,?_⟩⟩
        rcases Int.lt_or_gt_of_ne hne with h | h
        · rw [if_pos h,if_pos (lex_lt ha hb hx hy h2 h)]
        · have:=lex_lt hb ha hy hx h2.symm h
          rw [if_neg (by omega),if_pos h,if_neg (by omega),if_pos this]
    · rintro _ (⟨rfl,h⟩ | ⟨c,rfl,h⟩)
      · refine ⟨_,rfl,?_⟩
        rw [h,if_neg (by omega),if_neg (by omega)]
      · exact ⟨_,rfl,h⟩
  · rw [cmpInt_ok,obs]
    refine ⟨_,rfl,?_⟩
    rcases Nat.lt_or_ge a.length b.length with h | h
    · rw [if_pos (by omega),if_pos (tm_len ha hb ta tb h)]
    · have:=tm_len hb ha tb ta (show b.length < a.length by omega)
      rw [if_neg (by omega),if_pos (by omega),if_neg (by omega),if_pos this]
theorem take_succ {a:List Int} {i:Nat} {x:Int} (hx:a[i]?=some x):lv (a.take (i+1))=lv (a.take i)+pw i*x:=by
  rw [tks hx,lv_snoc,List.length_take,Nat.min_eq_left (by have:=(List.getElem?_eq_some_iff.1 hx).1; omega)]
theorem take_stay {a:List Int} {i:Nat} (h:a.length≤i):lv (a.take (i+1))=lv (a.take i):=by
  rw [take_all h,take_all (by omega)]
theorem plusJ_ok {a b:List Int} (ha:LW a) (hb:LW b) (hl:b.length≤a.length) (hn:a.length≤1000):Ret (integer_plus_j1 a b) (fun r=>LW r∧Tm r∧lv r=lv a+lv b):=by
  unfold integer_plus_j1
  have h0:mkLc (0:Int) 0 (wa .i64 (a.length:Int) 1)=some []:=by
    rw [wa_i (by omega) (by omega)]; unfold mkLc BIG; rw [if_pos ⟨by omega,by omega,by omega⟩]; rfl
  rw [h0,obs,ret_bind]
  refine (ret_loop (Post:=fun s:List Int×Int=>LW s.1∧s.1.length=a.length∧(s.2=0∨s.2=1)∧lv s.1+pw a.length*s.2=lv a+lv b) a.length (fun i (s:List Int×Int×Int)=>s.2.2=(i:Int)∧LW s.1∧s.1.length=i∧(s.2.1=0∨s.2.1=1)∧lv s.1+pw i*s.2.1=lv (a.take i)+lv (b.take i)) ⟨rfl,by intro x hx; simp at hx,rfl,.inl rfl,by simp [lv]⟩ ?_ (by omega)).mono ?_
  · rintro i ⟨o,c,_⟩ hi ⟨rfl,h1,h2,h3,h4⟩
    simp only at h1 h2 h3 h4
    unfold integer_plus_l4 integer_plus_j5
    simp only
    rw [ret_if]
    refine ⟨fun hlt=>?_,fun hge=>⟨_,rfl,h1,by show o.length=_; omega,h3,?_⟩⟩
    · have hia:i < a.length:=by omega
      rw [ret_bind,ret_get]
      refine ⟨by omega,hlt,fun x hx=>?_⟩
      rw [Int.toNat_natCast] at hx
      have hxB:=LW.get ha hx
      have e:B=4294967296:=rfl
      have hcx:wc .u64 x=x:=wc_u64_in ⟨hxB.1,by omega⟩
      have fin:∀ (t:Int),0≤t→t < 2*B→lv o+pw i*t=lv (a.take (i+1))+lv (b.take (i+1))→Ret ((app o [wc .u32 (wand .u64 t 4294967295)]).bind fun x52=>some (Sum.inl (β:=List Int×Int) (x52,wsrc .u64 t 32,wa .i64 (i:Int) 1))) (VQ (fun s:List Int×Int×Int=>i < a.length∧s.2.2=((i+1:Nat):Int)∧LW s.1∧s.1.length=i+1∧(s.2.1=0∨s.2.1=1)∧lv s.1+pw (i+1)*s.2.1=lv (a.take (i+1))+lv (b.take (i+1))) (fun s:List Int×Int=>LW s.1∧s.1.length=a.length∧(s.2=0∨s.2=1)∧lv s.1+pw a.length*s.2=lv a+lv b)):=by
        intro t t0 t1 ht
        have hm:=Int.emod_nonneg t (show B≠0 by omega)
        have hm2:=Int.emod_lt_of_pos t (show 0 < B by omega)
        have hd:=Int.mul_ediv_add_emod t B
        rw [wand_low ⟨t0,by omega⟩,wsrc32 t0,wc_u32_in ⟨hm,hm2⟩,ret_bind,ret_app]
        refine ⟨by rw [h2]; simp only [List.length_cons,List.length_nil]; omega,_,rfl,hia,by show wa .i64 (i:Int) 1=_; rw [wa_i (by omega) (by omega)]; rfl,LW.app.2 ⟨h1,LW.one.2 ⟨hm,hm2⟩⟩,by show (o++[_]).length=_; rw [List.length_append,h2]; rfl,by have q0:0≤t / B:=Int.ediv_nonneg t0 (by omega); have q1:t / B < 2:=Int.ediv_lt_of_lt_mul (by omega) t1; show t / B=0∨t / B=1; omega,?_⟩
        show lv (o++[t % B])+pw (i+1)*(t / B)=_
        rw [lv_snoc,h2,← ht]
        simp only [pw]
        have e3:pw i*(B*(t / B)+t % B)=pw i*t:=by rw [hd]
        have e4:B*pw i*(t / B)=pw i*(B*(t / B)):=by grind
        rw [Int.mul_add] at e3
        omega
      have hts:=take_succ hx
      rw [ret_if]
      refine ⟨fun hlb=>?_,fun hgb=>?_⟩
      · rw [ret_bind,ret_get]
        refine ⟨by omega,hlb,fun y hy=>?_⟩
        rw [Int.toNat_natCast] at hy
        have hyB:=LW.get hb hy
        rw [hcx,wc_u64_in ⟨hyB.1,by omega⟩,wa_u64 (x:=x) (y:=c) ⟨by omega,by omega⟩,wa_u64 ⟨by omega,by omega⟩]
        refine fin _ (by omega) (by omega) ?_
        rw [hts,take_succ hy]
        have:pw i*(x+c+y)=pw i*x+pw i*c+pw i*y:=by grind
        omega
      · rw [hcx,wa_u64 (x:=x) (y:=c) ⟨by omega,by omega⟩]
        refine fin _ (by omega) (by omega) ?_
        rw [hts,take_stay (a:=b) (by omega)]
        have:pw i*(x+c)=pw i*x+pw i*c:=by grind
        omega
    · have e:i=a.length:=by omega
      subst e
      rw [List.take_length,take_all hl] at h4
      exact h4
  · rintro ⟨o,c⟩ ⟨h1,h2,h3,h4⟩
    simp only at h1 h2 h3 h4 ⊢
    have hc:wc .u32 c=c:=wc_u32_in ⟨by omega,by unfold B; omega⟩
    have hlw:LW (o++[c]):=LW.app.2 ⟨h1,LW.one.2 ⟨by omega,by unfold B; omega⟩⟩
    rw [hc,ret_bind,ret_app]
    refine ⟨by rw [h2]; simp only [List.length_cons,List.length_nil]; omega,?_⟩
    rw [trim_ok hlw (by rw [List.length_append,h2]; simp; omega),obs]
    exact ⟨_,rfl,trimL_lw hlw,trimL_tm _,by rw [trimL_lv,lv_snoc,h2]; exact h4⟩
theorem plus_ok {a b:List Int} (ha:LW a) (hb:LW b) (hn:a.length≤1000) (hm:b.length≤1000):Ret (integer_plus a b) (fun r=>LW r∧Tm r∧lv r=lv a+lv b):=by
  unfold integer_plus
  rw [ret_if]
  refine ⟨fun h=>(plusJ_ok hb ha (by omega) hm).mono fun r hr=>⟨hr.1,hr.2.1,by omega⟩,fun h=>plusJ_ok ha hb (by omega) hn⟩
end Km
namespace Km
open Sx Go M Vc Lm
theorem low_borrow {v:Int} (h0: -B≤v) (h1:v < B):((v % 18446744073709551616) % B=v+B*(if v < 0 then 1 else 0))∧((v % 18446744073709551616) / B % 2=if v < 0 then 1 else 0)∧0≤v % 18446744073709551616∧v % 18446744073709551616 < 18446744073709551616:=by
  unfold B at*
  split<;>omega
theorem minus_ok {a b:List Int} (ha:LW a) (hb:LW b) (hn:a.length≤1000) (hl:b.length≤a.length) (hv:lv b≤lv a):Ret (integer_minus a b) (fun r=>LW r∧Tm r∧lv r=lv a - lv b):=by
  have e:B=4294967296:=rfl
  unfold integer_minus
  rw [ret_bind,ret_mkL]
  refine ⟨by omega,by omega,?_⟩
  rw [Int.toNat_natCast,ret_bind]
  refine (ret_loop (Post:=fun o:List Int=>LW o∧o.length=a.length∧lv o=lv a - lv b) a.length (fun i (s:List Int×Int×Int)=>s.2.2=(i:Int)∧LW s.1∧s.1.length=a.length∧(s.2.1=0∨s.2.1=1)∧lv (s.1.take i)=lv (a.take i) - lv (b.take i)+pw i*s.2.1) ⟨rfl,fun x hx=>by rw [List.mem_replicate] at hx; rw [hx.2]; omega,List.length_replicate ..,.inl rfl,by simp [lv]⟩ ?_ (by omega)).mono ?_
  · rintro i ⟨o,c,_⟩ hi ⟨rfl,h1,h2,h3,h4⟩
    simp only at h1 h2 h3 h4
    unfold integer_minus_l3 integer_minus_j4
    simp only
    rw [ret_if]
    refine ⟨fun hlt=>?_,fun hge=>⟨_,rfl,h1,h2,?_⟩⟩
    · have hia:i < a.length:=by omega
      rw [ret_bind,ret_get]
      refine ⟨by omega,hlt,fun x hx=>?_⟩
      rw [Int.toNat_natCast] at hx
      have hxB:=LW.get ha hx
      have hcx:wc .u64 x=x:=wc_u64_in ⟨hxB.1,by omega⟩
      have hts:=take_succ hx
      have fin:∀ (t v:Int),t=v % 18446744073709551616→-B≤v→v < B→lv (o.take i)+pw i*v=lv (a.take (i+1)) - lv (b.take (i+1))→Ret ((setI o (i:Int) (wc .u32 (wand .u64 t 4294967295))).bind fun x35=>some (Sum.inl (β:=List Int) (x35,wand .u64 (wsrc .u64 t 32) 1,wa .i64 (i:Int) 1))) (VQ (fun s:List Int×Int×Int=>i < a.length∧s.2.2=((i+1:Nat):Int)∧LW s.1∧s.1.length=a.length∧(s.2.1=0∨s.2.1=1)∧lv (s.1.take (i+1))=lv (a.take (i+1)) - lv (b.take (i+1))+pw (i+1)*s.2.1) (fun o:List Int=>LW o∧o.length=a.length∧lv o=lv a - lv b)):=by
        intro t v ht v0 v1 hv
        obtain ⟨k1,k2,k3,k4⟩:=low_borrow v0 v1
        rw [← ht] at k1 k2 k3 k4
        have hm:=Int.emod_nonneg t (show B≠0 by omega)
        have hm2:=Int.emod_lt_of_pos t (show 0 < B by omega)
        have hd0:0≤t / B:=Int.ediv_nonneg k3 (by omega)
        have hd1:t / B < 18446744073709551616:=Int.ediv_lt_of_lt_mul (by omega) (by omega)
        rw [wand_low ⟨k3,k4⟩,wsrc32 k3,wand_one ⟨hd0,hd1⟩,wc_u32_in ⟨hm,hm2⟩,k2,ret_bind,ret_set,Int.toNat_natCast]
        refine ⟨by omega,by omega,_,rfl,hia,by show wa .i64 (i:Int) 1=_; rw [wa_i (by omega) (by omega)]; rfl,?_,by show (o.set i _).length=_; rw [List.length_set,h2],by show (if v < 0 then (1:Int) else 0)=0∨(if v < 0 then (1:Int) else 0)=1; split<;>omega,?_⟩
        · intro y hy
          rcases List.mem_or_eq_of_mem_set hy with hy | rfl
          · exact h1 y hy
          · exact ⟨hm,hm2⟩
        · show lv ((o.set i (t % B)).take (i+1))=_+pw (i+1)*(if v < 0 then 1 else 0)
          have hs:(o.set i (t % B))[i]?=some (t % B):=by rw [List.getElem?_set_self]; omega
          rw [take_succ hs,List.take_set,List.set_eq_of_length_le (by rw [List.length_take]; omega),k1,← hv]
          simp only [pw]
          generalize (if v < 0 then (1:Int) else 0)=z
          grind
      rw [ret_if]
      refine ⟨fun hlb=>?_,fun hgb=>?_⟩
      · rw [ret_bind,ret_get]
        refine ⟨by omega,hlb,fun y hy=>?_⟩
        rw [Int.toNat_natCast] at hy
        have hyB:=LW.get hb hy
        refine fin _ (x - c - y) ?_ (by omega) (by omega) ?_
        · rw [hcx,wc_u64_in ⟨hyB.1,by omega⟩,ws_u64,ws_u64]; omega
        · rw [hts,take_succ hy,h4]; grind
      · refine fin _ (x - c) ?_ (by omega) (by omega) ?_
        · rw [hcx,ws_u64]
        · rw [hts,take_stay (a:=b) (by omega),h4]; grind
    · have ei:i=a.length:=by omega
      subst ei
      rw [List.take_length,take_all hl,take_all (by omega)] at h4
      have hlt:=lv_lt h1
      rw [h2] at hlt
      have hp:=pw_pos a.length
      show lv o=_
      rcases h3 with rfl | rfl
      · omega
      · omega
  · rintro o ⟨h1,h2,h3⟩
    rw [trim_ok h1 (by omega),obs]
    exact ⟨_,rfl,trimL_lw h1,trimL_tm _,by rw [trimL_lv]; exact h3⟩
theorem len_le {l:List Int} {m:Nat} (hl:LW l) (ht:Tm l) (h:lv l < pw m):l.length≤m:=by
  refine Classical.byContradiction fun hc=>?_
  have hne:l≠[]:=by rintro rfl; simp at hc
  have h5:=tm_lower hl ht hne
  have h7:=pw_mono (show m≤l.length - 1 by omega)
  omega
theorem tm_one {p:Int} (hp:0 < p):Tm [p]:=by intro x hx; simp at hx; omega
theorem lw_one {p:Int} (hp:0 < p) (hB:p < B):LW [p]:=LW.one.2 ⟨by omega,hB⟩
theorem trimL_len {l:List Int} (hl:LW l):(trimL l).length≤l.length:=len_le (trimL_lw hl) (trimL_tm l) (by rw [trimL_lv]; exact lv_lt hl)
theorem divide1_ok {a:List Int} {p:Int} (ha:LW a) (ta:Tm a) (hn:a.length≤999) (hp:0 < p) (hB:p < B):∃ q r,integer_divide a [p]=some (q,r)∧LW q∧Tm q∧LW r∧Tm r∧lv q=lv a / p∧lv r=lv a % p∧q.length≤1000:=by
  have lp:lv [p]=p:=by simp [lv]
  have h0:=lv_nn ha
  unfold integer_divide
  rw [compare_ok ha (lw_one hp hB) ta (tm_one hp) (by omega) (by simp),obs,lp]
  by_cases hlt:lv a < p
  · rw [if_pos hlt,if_pos (by omega)]
    have hc:slices_Clone_uint32 a=some a:=by
      unfold slices_Clone_uint32 app BIG
      rw [if_pos (by simp; omega),obs,List.nil_append]
    rw [hc,obs]
    exact ⟨[],a,rfl,by intro x hx; simp at hx,tm_nil,ha,ta,by rw [Int.ediv_eq_zero_of_lt h0 hlt]; rfl,by rw [Int.emod_eq_of_lt h0 hlt],by simp⟩
  · have hneg:¬ (if lv a < p then (-1:Int) else if p < lv a then 1 else 0) < 0:=by rw [if_neg hlt]; split<;>omega
    rw [if_neg hneg,if_pos (by simp)]
    have hg:getI [p] 0=some p:=rfl
    obtain ⟨q,hq,q1,q2,q3⟩:=short_ok ha (by omega) hp hB
    have hr:=Int.emod_nonneg (lv a) (show p≠0 by omega)
    have hr2:=Int.emod_lt_of_pos (lv a) hp
    have hlw:LW [lv a % p]:=LW.one.2 ⟨hr,by omega⟩
    rw [hg,obs,hq,obs,trim_ok hlw (by simp),obs]
    refine ⟨q,_,rfl,q1,q2,trimL_lw hlw,trimL_tm _,q3,by rw [trimL_lv]; simp [lv],?_⟩
    refine Classical.byContradiction fun hc=>?_
    have hne:q≠[]:=by rintro rfl; simp at hc
    have h5:=tm_lower q1 q2 hne
    have h6:=lv_lt ha
    have h7:=pw_mono (show a.length≤q.length - 1 by omega)
    have h8:lv a / p≤lv a:=Int.ediv_le_self _ h0
    omega
end Km
namespace Km
open Sx Go M Vc Lm
def lenTab:List Int:=[0,1,2,2,3,3,3,3,4,4,4,4,4,4,4,4,5,5,5,5,5,5,5,5,5,5,5,5,5,5,5,5,6,6,6,6,6,6,6,6,6,6,6,6,6,6,6,6,6,6,6,6,6,6,6,6,6,6,6,6,6,6,6,6]++List.replicate 64 7++List.replicate 128 8
theorem lenTab_ok:(List.range 256).all (fun k=>match lenTab[k]? with | some v=>decide (0≤v) && decide (v≤8) && decide ((k:Int) < 2 ^ v.toNat) && decide (k=0∨2 ^ v.toNat≤2*(k:Int)) | none=>false)=true:=by decide +kernel
theorem lenT {x:Int} (h0:0≤x) (h1:x < 256):∃ v:Nat,getI lenTab x=some (v:Int)∧v≤8∧x < 2 ^ v∧(0 < x→2 ^ v≤2*x):=by
  obtain ⟨k,rfl⟩:=Int.eq_ofNat_of_zero_le h0
  have:=List.all_eq_true.1 lenTab_ok k (List.mem_range.2 (by omega))
  cases h:lenTab[k]? with
  | none=>rw [h] at this; simp at this
  | some v=>
    rw [h] at this
    simp only [Bool.and_eq_true,decide_eq_true_eq] at this
    obtain ⟨⟨⟨a1,a2⟩,a3⟩,a4⟩:=this
    obtain ⟨w,rfl⟩:=Int.eq_ofNat_of_zero_le a1
    rw [Int.toNat_natCast] at a3 a4
    exact ⟨w,h,by omega,a3,fun hk=>a4.resolve_left (by omega)⟩
theorem shr8 {x:Int} {n:Nat} (h:0≤x) (hn:n≤32):wsrc .u32 x n=x / 2 ^ n:=by
  unfold wsrc
  show x.fdiv (2 ^ min n 32)=_
  rw [Nat.min_eq_left hn,Int.fdiv_eq_ediv_of_nonneg _ (Int.le_of_lt (Int.pow_pos (by omega)))]
theorem len_j2_eq (x c:Int):math_bits_Len32_j2 x c=(getI lenTab (wc .u8 x)).bind fun x6=>some (wa .i64 c (wc .i64 x6)):=rfl
theorem len_j2 {x:Int} {c:Nat} (h0:0≤x) (h1:x < 256) (hc:c≤24):∃ v:Nat,math_bits_Len32_j2 x (c:Int)=some ((c+v:Nat):Int)∧v≤8∧x < 2 ^ v∧(0 < x→2 ^ v≤2*x):=by
  obtain ⟨v,h2,h3,h4⟩:=lenT h0 h1
  refine ⟨v,?_,h3,h4⟩
  have hcv:wc .u8 x=x:=by unfold wc; rw [IntKind.wrap_u8]; omega
  rw [len_j2_eq,hcv,h2,obs,wc_i64_in ⟨by omega,by omega⟩,wa_i (by omega) (by omega)]
  congr 1
theorem len32_ok {x:Int} (h0:0≤x) (h1:x < B):∃ v:Nat,math_bits_Len32 x=some (v:Int)∧v≤32∧x < 2 ^ v∧(0 < x→2 ^ v≤2*x):=by
  have e:B=4294967296:=rfl
  have step:∀ (y:Int) (c:Nat),0≤y→y < 65536→c≤16→∃ v:Nat,math_bits_Len32_j1 y (c:Int)=some ((c+v:Nat):Int)∧v≤16∧y < 2 ^ v∧(0 < y→2 ^ v≤2*y):=by
    intro y c y0 y1 hc
    unfold math_bits_Len32_j1
    by_cases h:256≤y
    · rw [if_pos h,shr8 y0 (by omega),show wa .i64 (c:Int) 8=((c+8:Nat):Int) by rw [wa_i (by omega) (by omega)]; omega]
      obtain ⟨v,h2,h3,h4,h5⟩:=len_j2 (x:=y / 2 ^ 8) (c:=c+8) (by omega) (by omega) (by omega)
      refine ⟨8+v,by rw [h2]; congr 1; omega,by omega,?_⟩
      rw [Int.pow_add]
      have:=h5 (by omega)
      exact ⟨by omega,fun _=>by omega⟩
    · rw [if_neg h]
      obtain ⟨v,h2,h3,h4⟩:=len_j2 (x:=y) (c:=c) y0 (by omega) (by omega)
      exact ⟨v,h2,by omega,h4⟩
  unfold math_bits_Len32
  by_cases h:65536≤x
  · rw [if_pos h,shr8 h0 (by omega)]
    obtain ⟨v,h2,h3,h4,h5⟩:=step (x / 2 ^ 16) 16 (by omega) (by omega) (by omega)
    refine ⟨16+v,h2,by omega,?_⟩
    rw [Int.pow_add]
    have:=h5 (by omega)
    exact ⟨by omega,fun _=>by omega⟩
  · rw [if_neg h]
    obtain ⟨v,h2,h3,h4⟩:=step x 0 h0 (by omega) (by omega)
    exact ⟨v,by rw [show (0:Int)=((0:Nat):Int) from rfl,h2]; congr 1; omega,by omega,h4⟩
theorem lead_ok {p:Int} (hp:0 < p) (hB:p < B):∃ s:Nat,math_bits_LeadingZeros32 p=some (s:Int)∧s < 32∧p*2 ^ s < B∧B≤2*(p*2 ^ s):=by
  obtain ⟨v,h1,h2,h3,h4⟩:=len32_ok (Int.le_of_lt hp) hB
  have hv:0 < v:=by
    rcases Nat.eq_zero_or_pos v with h | h
    · subst h; simp at h3; omega
    · exact h
  refine ⟨32 - v,?_,by omega,?_⟩
  · unfold math_bits_LeadingZeros32
    rw [h1,obs,ws_i (by omega) (by omega)]
    congr 1; omega
  · have e:(2:Int) ^ v*2 ^ (32 - v)=B:=by
      rw [← Int.pow_add,show v+(32 - v)=32 by omega]; rfl
    have hc:(0:Int) < 2 ^ (32 - v):=Int.pow_pos (by omega)
    have:=Int.mul_lt_mul_of_pos_right h3 hc
    have h6:=Int.mul_le_mul_of_nonneg_right (h4 hp) (Int.le_of_lt hc)
    rw [Int.mul_assoc] at h6
    omega
end Km
namespace Km
open Sx Go M Vc Lm
theorem trimR_ok {l:List Int} (hl:LW l) (hn:l.length≤1000000):sparseref01_trim l=some (trimL l):=by
  refine Ret.eq ?_
  have h:=trim_ok hl hn
  unfold integer_trim at h
  unfold sparseref01_trim
  have e3:sparseref01_trim_l3=integer_trim_l3:=rfl
  rw [e3]
  cases hL:loop (integer_trim_l3 l) (l.length:Int) with
  | none=>rw [hL] at h; cases h
  | some i=>
    rw [hL,obs] at h
    have hs:∃ t,sli l 0 i=some t∧t=trimL l:=by
      cases hs:sli l 0 i with
      | none=>rw [hs] at h; cases h
      | some t=>rw [hs,obs] at h; exact ⟨t,rfl,Option.some.inj h⟩
    obtain ⟨t,ht,htr⟩:=hs
    obtain ⟨t1,_,t2,t3⟩:=sli_some ht
    obtain ⟨k,rfl⟩:=Int.eq_ofNat_of_zero_le t2
    have htk:t=l.take k:=by rw [t1]; unfold subL; simp
    rw [obs,ret_bind]
    refine (ret_loop (Post:=fun o=>o=l.take k) k (fun m (s:List Int×Int)=>s=(l.take m,(m:Int))) (by simp) ?_ (by omega)).mono fun o ho=>⟨_,rfl,by rw [ho,← htk,htr]⟩
    rintro m _ hm rfl
    unfold sparseref01_trim_l4
    simp only
    rw [ret_if]
    refine ⟨fun hlt=>?_,fun hge=>⟨_,rfl,by have e:m=k:=(by omega); rw [e]; rfl⟩⟩
    rw [ret_bind,ret_get]
    refine ⟨by omega,by omega,fun x hx=>?_⟩
    rw [Int.toNat_natCast] at hx
    rw [ret_bind,ret_app]
    refine ⟨by rw [List.length_take]; simp only [List.length_cons,List.length_nil]; omega,_,rfl,by omega,?_⟩
    rw [wa_i (by omega) (by omega),← tks hx]; rfl
theorem make1_ok {l:List Int} (s:Bool) (hl:LW l) (hn:l.length≤1000000):sparseref01_make1 s l=some (s && decide ((0:Int) < ((trimL l).length:Int)),trimL l):=by
  unfold sparseref01_make1
  rw [trimR_ok hl hn,obs]
end Km
namespace Km
open Sx Go M Vc Lm
end Km
namespace Km
open Sx Go M Vc Lm
end Km
namespace Km
open Sx Go M Vc Lm
def sv (s:Bool) (l:List Int):Int:=if s=true then - lv l else lv l
def Bg (v:Int) (s:Bool) (l:List Int):Prop:=LW l∧Tm l∧sv s l=v∧(s=true→l≠[])
theorem sv_trim (s:Bool) (l:List Int):sv s (trimL l)=sv s l:=by unfold sv; rw [trimL_lv]
theorem sv_not (s:Bool) (l:List Int):sv (!s) l= - sv s l:=by unfold sv; cases s<;>simp
theorem Bg.pos {v:Int} {s:Bool} {l:List Int} (h:Bg v s l) (hs:s=true):0 < lv l:=by
  have h1:=lv_nn h.1
  have h2:lv l≠0:=fun h0=>h.2.2.2 hs ((lv_zero h.1 h.2.1).1 h0)
  omega
theorem Bg.neg {v:Int} {s:Bool} {l:List Int} (h:Bg v s l):s=true↔v < 0:=by
  have h1:=lv_nn h.1
  have h3:=h.2.2.1
  constructor
  · intro hs
    have:=h.pos hs
    unfold sv at h3; rw [if_pos hs] at h3; omega
  · intro hv
    refine Classical.byContradiction fun hs=>?_
    unfold sv at h3; rw [if_neg hs] at h3; omega
theorem Bg.abs {v:Int} {s:Bool} {l:List Int} (h:Bg v s l):lv l=if v < 0 then - v else v:=by
  have h3:=h.2.2.1
  by_cases hs:s=true
  · rw [if_pos (h.neg.1 hs)]; unfold sv at h3; rw [if_pos hs] at h3; omega
  · rw [if_neg fun hv=>hs (h.neg.2 hv)]; unfold sv at h3; rw [if_neg hs] at h3; exact h3
theorem Bg.uniq {v:Int} {s s':Bool} {l l':List Int} (h:Bg v s l) (h':Bg v s' l'):s=s'∧l=l':=by
  refine ⟨?_,tm_inj h.1 h'.1 h.2.1 h'.2.1 (h.abs.trans h'.abs.symm)⟩
  have e:s=true↔s'=true:=h.neg.trans h'.neg.symm
  cases s<;>cases s'<;>simp_all
theorem Bg.len {v:Int} {s:Bool} {l:List Int} (h:Bg v s l) {m:Nat} (h1: - pw m < v) (h2:v < pw m):l.length≤m:=by
  refine len_le h.1 h.2.1 ?_
  rw [h.abs]; split<;>omega
theorem Bg.of {s:Bool} {l:List Int} (hl:LW l) (ht:Tm l) (hs:s=true→l≠[]):Bg (sv s l) s l:=⟨hl,ht,rfl,hs⟩
theorem Bg.cast {v w:Int} {s:Bool} {l:List Int} (h:Bg v s l) (e:v=w):Bg w s l:=e▸h
theorem bg_zero:Bg 0 false []:=⟨by intro x hx; simp at hx,tm_nil,rfl,by simp⟩
theorem Bg.sv {v:Int} {s:Bool} {l:List Int} (h:Bg v s l):sv s l=v:=h.2.2.1
theorem lv_set {l:List Int} {k:Nat} {x y:Int} (hx:l[k]?=some x):lv (l.set k y)=lv l+pw k*(y - x):=by
  have hlt:=(List.getElem?_eq_some_iff.1 hx).1
  have hy:(l.set k y)[k]?=some y:=by rw [List.getElem?_set_self hlt]
  rw [split_at hx,split_at hy,List.take_set,List.set_eq_of_length_le (by rw [List.length_take]; omega),List.drop_set_of_lt (by omega)]
  grind
theorem lw_set {l:List Int} (h:LW l) {k:Nat} {y:Int} (hy:0≤y∧y < B):LW (l.set k y):=by
  intro z hz
  rcases List.mem_or_eq_of_mem_set hz with hz | rfl
  · exact h z hz
  · exact hy
theorem lw_zeros (n:Nat):LW (List.replicate n 0):=fun x hx=>by rw [List.mem_replicate] at hx; rw [hx.2]; unfold B; omega
theorem trim_len {l:List Int} (hl:LW l):(trimL l).length≤l.length:=trimL_len hl
theorem Bg.norm {s:Bool} {l:List Int} (hl:LW l):Bg (Km.sv s l) (if trimL l=[] then false else s) (trimL l):=by
  refine ⟨trimL_lw hl,trimL_tm l,?_,?_⟩
  · split
    · rename_i h
      have h0:lv l=0:=by rw [← trimL_lv,h]; rfl
      unfold Km.sv
      rw [if_neg (by simp),trimL_lv,h0]; split<;>simp
    · exact sv_trim s l
  · split
    · intro h; simp at h
    · rename_i h; exact fun _=>h
theorem big_bg {l:List Int} (s:Bool) (hl:LW l) (hn:l.length≤1000000):Ret (integer_big s l) (fun r=>Bg (sv s l) r.1 r.2):=by
  rw [big_ok s hl hn]
  have h:=Bg.norm (s:=s) hl
  split
  · rename_i h0
    rw [if_pos h0,h0] at h
    exact ⟨_,rfl,h⟩
  · rename_i h0
    rw [if_neg h0] at h
    exact ⟨_,rfl,h⟩
theorem clone_ok {a:List Int} (h:a.length≤1000000):slices_Clone_uint32 a=some a:=by
  unfold slices_Clone_uint32 app BIG
  rw [if_pos (by simp; omega),obs,List.nil_append]
theorem normP_bg {s:Bool} {a:List Int} (ha:LW a) (hn:a.length≤1000000):Ret (integer_Norm s a) (fun r=>Bg (sv s a) r.1 r.2):=by
  unfold integer_Norm
  rw [clone_ok hn,obs,ret_bind]
  exact (big_bg s ha hn).mono fun r hr=>⟨_,rfl,hr⟩
end Km
namespace Km
open Sx Go M Vc Lm
def MI (a b:List Int) (i j:Nat) (x:Int) (out:List Int) (c:Int):Prop:=
  LW out∧out.length=a.length+b.length∧(0≤c∧c < B)∧lv out+pw (i+j)*c=lv (a.take i)*lv b+pw i*(x*lv (b.take j))∧out.drop (i+b.length)=List.replicate (a.length - i) 0
def MO (a b:List Int) (i:Nat) (out:List Int):Prop:=
  LW out∧out.length=a.length+b.length∧lv out=lv (a.take i)*lv b∧out.drop (i+b.length)=List.replicate (a.length - i) 0
theorem MO.start (a b:List Int):MO a b 0 (List.replicate (a.length+b.length) 0):=by
  refine ⟨lw_zeros _,List.length_replicate ..,?_,?_⟩
  · rw [lv_zeros,List.take_zero]; simp [lv]
  · rw [List.drop_replicate,Nat.sub_zero]; congr 1; omega
theorem MO.row {a b:List Int} {i:Nat} {out:List Int} (h:MO a b i out) (x:Int):MI a b i 0 x out 0:=
  ⟨h.1,h.2.1,⟨by omega,by unfold B; omega⟩,by rw [List.take_zero]; simp only [lv,Int.mul_zero,Int.add_zero]; exact h.2.2.1,h.2.2.2⟩
theorem MI.step {a b:List Int} {i j:Nat} {x c y o:Int} {out:List Int} (h:MI a b i j x out c) (hx:0≤x∧x < B) (hb:LW b) (hy:b[j]?=some y) (ho:out[i+j]?=some o):
    (0≤x*y∧0≤o∧0≤y∧y < B∧o < B∧x*y+o+c < 18446744073709551616)∧MI a b i (j+1) x (out.set (i+j) ((x*y+o+c) % B)) ((x*y+o+c) / B):=by
  obtain ⟨h1,h2,h3,h4,h5⟩:=h
  have e:B=4294967296:=rfl
  have hyB:=LW.get hb hy
  have hoB:=LW.get h1 ho
  have hjl:=(List.getElem?_eq_some_iff.1 hy).1
  have hxy0:=Int.mul_nonneg hx.1 hyB.1
  have hxy:x*y≤4294967295*4294967295:=Int.mul_le_mul (by omega) (by omega) hyB.1 (by omega)
  have hm:=Int.emod_nonneg (x*y+o+c) (show B≠0 by omega)
  have hm2:=Int.emod_lt_of_pos (x*y+o+c) (show 0 < B by omega)
  have hd:=Int.mul_ediv_add_emod (x*y+o+c) B
  have hq0:0≤(x*y+o+c) / B:=Int.ediv_nonneg (by omega) (by omega)
  have hq1:(x*y+o+c) / B < B:=Int.ediv_lt_of_lt_mul (by omega) (by rw [e]; omega)
  refine ⟨⟨hxy0,hoB.1,hyB.1,hyB.2,hoB.2,by omega⟩,lw_set h1 ⟨hm,hm2⟩,by rw [List.length_set,h2],⟨hq0,hq1⟩,?_,?_⟩
  · rw [lv_set ho,take_succ hy,show i+(j+1)=(i+j)+1 from rfl]
    simp only [pw]
    have hp:pw (i+j)=pw i*pw j:=pw_add i j
    generalize (x*y+o+c) / B=q at hd ⊢
    generalize hr:(x*y+o+c) % B=r at hd ⊢
    have e1:lv out+pw (i+j)*(r - o)+B*pw (i+j)*q=lv out+pw (i+j)*((B*q+r) - o):=by grind
    rw [e1,hd]
    have e2:pw i*(x*(lv (b.take j)+pw j*y))=pw i*(x*lv (b.take j))+(pw i*pw j)*(x*y):=by grind
    rw [e2,← hp]
    have e3:pw (i+j)*(x*y+o+c - o)=pw (i+j)*(x*y)+pw (i+j)*c:=by grind
    rw [e3]
    omega
  · rw [List.drop_set_of_lt (by omega)]; exact h5
theorem MI.done {a b:List Int} {i:Nat} {x c:Int} {out:List Int} (h:MI a b i b.length x out c) (hx:a[i]?=some x):i+b.length < out.length∧MO a b (i+1) (out.set (i+b.length) c):=by
  obtain ⟨h1,h2,h3,h4,h5⟩:=h
  have hil:=(List.getElem?_eq_some_iff.1 hx).1
  have hz:out[i+b.length]?=some 0:=by
    have e1:(out.drop (i+b.length))[0]?=out[i+b.length]?:=by rw [List.getElem?_drop]; rfl
    rw [← e1,h5,List.getElem?_replicate,if_pos (by omega)]
  refine ⟨by omega,lw_set h1 h3,by rw [List.length_set,h2],?_,?_⟩
  · rw [lv_set hz,take_succ hx,Int.sub_zero]
    rw [List.take_length] at h4
    have e1:(lv (a.take i)+pw i*x)*lv b=lv (a.take i)*lv b+pw i*(x*lv b):=by grind
    rw [e1,← h4]
  · rw [show i+1+b.length=(i+b.length)+1 by omega,List.drop_set_of_lt (by omega),← List.drop_drop,h5,List.drop_replicate]
    congr 1
theorem times_ok {a b:List Int} (ha:LW a) (hb:LW b) (hn:a.length≤400) (hm:b.length≤400):Ret (integer_times a b) (fun r=>LW r∧Tm r∧lv r=lv a*lv b):=by
  unfold integer_times
  rw [ret_if]
  refine ⟨fun hz=>⟨_,rfl,by intro x hx; simp at hx,tm_nil,?_⟩,fun hz=>?_⟩
  · simp only [Bool.or_eq_true,decide_eq_true_eq] at hz
    rcases hz with hz | hz
    · rw [show a=[] from List.eq_nil_of_length_eq_zero (by omega)]; simp [lv]
    · rw [show b=[] from List.eq_nil_of_length_eq_zero (by omega)]; simp [lv]
  rw [wa_i (by omega) (by omega),ret_bind,ret_mkL]
  refine ⟨by omega,by omega,?_⟩
  rw [show ((a.length:Int)+(b.length:Int)).toNat=a.length+b.length by omega,ret_bind]
  refine (ret_loop (Post:=fun o=>MO a b a.length o) a.length (fun i (s:List Int×Int)=>s.2=(i:Int)∧MO a b i s.1) ⟨rfl,MO.start a b⟩ ?_ (by omega)).mono ?_
  · rintro i ⟨o,_⟩ hi ⟨rfl,hO⟩
    simp only at hO
    unfold integer_times_l4
    simp only
    rw [ret_if]
    refine ⟨fun hlt=>?_,fun hge=>⟨_,rfl,by have e:i=a.length:=(by omega); subst e; exact hO⟩⟩
    rw [ret_bind,ret_get]
    refine ⟨by omega,hlt,fun x hx=>?_⟩
    rw [Int.toNat_natCast] at hx
    have hxB:=LW.get ha hx
    rw [ret_bind]
    refine (ret_loop (Post:=fun s:List Int×Int=>MI a b i b.length x s.1 s.2) b.length (fun j (s:List Int×Int×Int)=>s.2.2=(j:Int)∧MI a b i j x s.1 s.2.1) ⟨rfl,hO.row x⟩ ?_ (by omega)).mono ?_
    · rintro j ⟨o,c,_⟩ hj ⟨rfl,hI⟩
      simp only at hI
      unfold integer_times_l5
      simp only
      rw [ret_if]
      refine ⟨fun hjl=>?_,fun hge=>⟨_,rfl,by have e:j=b.length:=(by omega); subst e; exact hI⟩⟩
      have ho1:=hI.2.1
      rw [ret_bind,ret_get]
      refine ⟨by omega,hjl,fun y hy=>?_⟩
      rw [Int.toNat_natCast] at hy
      rw [wa_i (x:=(i:Int)) (y:=(j:Int)) (by omega) (by omega),ret_bind,ret_get]
      refine ⟨by omega,by omega,fun z hz=>?_⟩
      rw [show ((i:Int)+(j:Int)).toNat=i+j by omega] at hz
      obtain ⟨⟨t1,t2,t3,t4,t5,t6⟩,hN⟩:=hI.step hxB hb hy hz
      have hc:=hI.2.2.1
      have e:B=4294967296:=rfl
      have et:wa .u64 (wa .u64 (wm .u64 (wc .u64 x) (wc .u64 y)) (wc .u64 z)) c=x*y+z+c:=by
        rw [wc_u64_in (x:=x) ⟨hxB.1,by omega⟩,wc_u64_in (x:=y) ⟨t3,by omega⟩,wc_u64_in (x:=z) ⟨t2,by omega⟩,wm_u64 ⟨t1,by omega⟩,wa_u64 (x:=x*y) (y:=z) ⟨by omega,by omega⟩,wa_u64 ⟨by omega,by omega⟩]
      have hmm:=Int.emod_nonneg (x*y+z+c) (show B≠0 by omega)
      have hmm2:=Int.emod_lt_of_pos (x*y+z+c) (show 0 < B by omega)
      rw [et,wand_low ⟨by omega,t6⟩,wsrc32 (by omega),wc_u32_in ⟨hmm,hmm2⟩,ret_bind,ret_set]
      refine ⟨by omega,by omega,_,rfl,by omega,by show wa .i64 (j:Int) 1=_; rw [wa_i (by omega) (by omega)]; rfl,?_⟩
      rw [show ((i:Int)+(j:Int)).toNat=i+j by omega]
      exact hN
    · rintro ⟨o,c⟩ hI
      simp only at hI ⊢
      obtain ⟨hl,hN⟩:=hI.done hx
      have ho1:=hI.2.1
      rw [wa_i (x:=(i:Int)) (y:=(b.length:Int)) (by omega) (by omega),wc_u32_in hI.2.2.1,ret_bind,ret_set]
      refine ⟨by omega,by omega,_,rfl,by omega,by show wa .i64 (i:Int) 1=_; rw [wa_i (by omega) (by omega)]; rfl,?_⟩
      rw [show ((i:Int)+(b.length:Int)).toNat=i+b.length by omega]
      exact hN
  · rintro o ⟨h1,h2,h3,h4⟩
    rw [List.take_length] at h3
    rw [trim_ok h1 (by omega),obs]
    exact ⟨_,rfl,trimL_lw h1,trimL_tm _,by rw [trimL_lv]; exact h3⟩
theorem from_bg {n:Int} (h0: -9223372036854775808≤n) (h1:n < 9223372036854775808):Ret (integer_FromInt n) (fun r=>Bg n r.1 r.2):=by
  have e:B=4294967296:=rfl
  have key:∀ u:Int,0≤u→u < 18446744073709551616→(if n < 0 then - u else u)=n→Ret (integer_FromInt_j1 n u) (fun r=>Bg n r.1 r.2):=by
    intro u u0 u1 hu
    unfold integer_FromInt_j1
    have hm:=Int.emod_nonneg u (show B≠0 by omega)
    have hm2:=Int.emod_lt_of_pos u (show 0 < B by omega)
    have hd0:0≤u / B:=Int.ediv_nonneg u0 (by omega)
    have hd1:u / B < B:=Int.ediv_lt_of_lt_mul (by omega) (by rw [e]; omega)
    have hd:=Int.mul_ediv_add_emod u B
    rw [wand_low ⟨u0,u1⟩,wsrc32 u0,wc_u32_in ⟨hm,hm2⟩,wc_u32_in ⟨hd0,hd1⟩,ret_bind]
    have hl:LW [u % B,u / B]:=by
      intro x hx
      simp only [List.mem_cons,List.not_mem_nil,or_false] at hx
      rcases hx with rfl | rfl
      · exact ⟨hm,hm2⟩
      · exact ⟨hd0,hd1⟩
    refine (big_bg (decide (n < 0)) hl (by simp)).mono fun r hr=>⟨_,rfl,hr.cast ?_⟩
    have hv:lv [u % B,u / B]=u:=by simp only [lv,Int.mul_zero,Int.add_zero]; omega
    unfold sv
    rw [hv]
    simpa using hu
  unfold integer_FromInt
  rw [ret_if]
  refine ⟨fun hneg=>?_,fun hpos=>?_⟩
  · have e3:wneg .u64 (wc .u64 n)= - n:=by rw [wc_u64]; unfold wneg; rw [IntKind.wrap_u64]; omega
    rw [e3]
    exact key (- n) (by omega) (by omega) (by rw [if_pos hneg]; omega)
  · rw [wc_u64_in ⟨by omega,by omega⟩]
    exact key n (by omega) (by omega) (by rw [if_neg hpos])
theorem lt_pw {l:List Int} (hl:LW l) {m:Nat} (h:l.length≤m):lv l < pw m:=by
  have h1:=lv_lt hl
  have h2:=pw_mono h
  omega
theorem mul_bg {s t:Bool} {a b:List Int} (ha:LW a) (hb:LW b) (hn:a.length≤400) (hm:b.length≤400):Ret (integer_Mul s a t b) (fun r=>Bg (sv s a*sv t b) r.1 r.2):=by
  unfold integer_Mul
  rw [trim_ok ha (by omega),obs,trim_ok hb (by omega),obs,ret_bind]
  have la:=trim_len ha
  have lb:=trim_len hb
  refine (times_ok (trimL_lw ha) (trimL_lw hb) (by omega) (by omega)).mono ?_
  rintro r ⟨r1,r2,r3⟩
  rw [trimL_lv,trimL_lv] at r3
  have hlen:r.length≤800:=by
    refine len_le r1 r2 ?_
    have h1:=lt_pw ha hn
    have h2:=lt_pw hb hm
    have h3:=lv_nn ha
    have h4:=lv_nn hb
    rw [r3,show (800:Nat)=400+400 from rfl,pw_add]
    have h5:lv a*lv b≤lv a*pw 400:=Int.mul_le_mul_of_nonneg_left (by omega) h3
    have h6:lv a*pw 400 < pw 400*pw 400:=Int.mul_lt_mul_of_pos_right h1 (pw_pos _)
    omega
  rw [ret_bind]
  refine (big_bg (!(s == t)) r1 (by omega)).mono fun q hq=>⟨_,rfl,hq.cast ?_⟩
  unfold sv
  rw [r3]
  cases s<;>cases t<;>simp<;>grind
theorem add_bg {s t:Bool} {a b:List Int} (ha:LW a) (hb:LW b) (hn:a.length≤900) (hm:b.length≤900):Ret (integer_Add s a t b) (fun r=>Bg (sv s a+sv t b) r.1 r.2):=by
  unfold integer_Add
  rw [trim_ok ha (by omega),obs,trim_ok hb (by omega),obs]
  have la:=trim_len ha
  have lb:=trim_len hb
  have ta:=trimL_tm a
  have tb:=trimL_tm b
  have wa':=trimL_lw ha
  have wb':=trimL_lw hb
  have h1:=lt_pw ha hn
  have h2:=lt_pw hb hm
  have h3:=lv_nn ha
  have h4:=lv_nn hb
  have hp:2*pw 900≤pw 901:=by
    have:=pw_pos 900
    show 2*pw 900≤B*pw 900
    unfold B; omega
  rw [ret_if]
  refine ⟨fun he=>?_,fun hne=>?_⟩
  · obtain rfl:s=t:=by simpa using he
    rw [ret_bind]
    refine (plus_ok wa' wb' (by omega) (by omega)).mono ?_
    rintro r ⟨r1,r2,r3⟩
    rw [trimL_lv,trimL_lv] at r3
    have hlen:r.length≤901:=len_le r1 r2 (by omega)
    rw [ret_bind]
    refine (big_bg s r1 (by omega)).mono fun q hq=>⟨_,rfl,hq.cast ?_⟩
    unfold sv
    rw [r3]
    cases s<;>simp<;>omega
  · have hst:t=!s:=by cases s<;>cases t<;>simp_all
    subst hst
    rw [compare_ok wa' wb' ta tb (by omega) (by omega),obs,trimL_lv,trimL_lv,ret_if]
    refine ⟨fun hge=>?_,fun hlt=>?_⟩
    · have hab:lv b≤lv a:=by
        refine Classical.byContradiction fun hc=>?_
        rw [if_pos (by omega)] at hge; omega
      have hll:(trimL b).length≤(trimL a).length:=by
        refine Classical.byContradiction fun hc=>?_
        have:=tm_len wa' wb' ta tb (by omega)
        rw [trimL_lv,trimL_lv] at this; omega
      rw [ret_bind]
      refine (minus_ok wa' wb' (by omega) hll (by rw [trimL_lv,trimL_lv]; exact hab)).mono ?_
      rintro r ⟨r1,r2,r3⟩
      rw [trimL_lv,trimL_lv] at r3
      have hlen:r.length≤901:=len_le r1 r2 (by omega)
      rw [ret_bind]
      refine (big_bg s r1 (by omega)).mono fun q hq=>⟨_,rfl,hq.cast ?_⟩
      unfold sv
      rw [r3]
      cases s<;>simp<;>omega
    · have hab:lv a < lv b:=by
        refine Classical.byContradiction fun hc=>?_
        rw [if_neg hc] at hlt
        revert hlt; split<;>omega
      have hll:(trimL a).length≤(trimL b).length:=by
        refine Classical.byContradiction fun hc=>?_
        have:=tm_len wb' wa' tb ta (by omega)
        rw [trimL_lv,trimL_lv] at this; omega
      rw [ret_bind]
      refine (minus_ok wb' wa' (by omega) hll (by rw [trimL_lv,trimL_lv]; omega)).mono ?_
      rintro r ⟨r1,r2,r3⟩
      rw [trimL_lv,trimL_lv] at r3
      have hlen:r.length≤901:=len_le r1 r2 (by omega)
      rw [ret_bind]
      refine (big_bg (!s) r1 (by omega)).mono fun q hq=>⟨_,rfl,hq.cast ?_⟩
      unfold sv
      rw [r3]
      cases s<;>simp<;>omega
theorem sub_bg {s t:Bool} {a b:List Int} (ha:LW a) (hb:LW b) (hn:a.length≤900) (hm:b.length≤900):Ret (integer_Sub s a t b) (fun r=>Bg (sv s a - sv t b) r.1 r.2):=by
  unfold integer_Sub
  rw [ret_bind]
  refine (add_bg (s:=s) (t:=!t) ha hb hn hm).mono fun r hr=>⟨_,rfl,hr.cast ?_⟩
  rw [sv_not]; omega
theorem sign_bg {s:Bool} {l:List Int} (hl:LW l) (hn:l.length≤1000):integer_Sign s l=some (if sv s l < 0 then -1 else if 0 < sv s l then 1 else 0):=by
  refine Ret.eq ?_
  unfold integer_Sign
  rw [trim_ok hl (by omega),obs]
  have h0:=lv_nn hl
  have hz:=lv_zero (trimL_lw hl) (trimL_tm l)
  rw [trimL_lv] at hz
  unfold sv
  rw [ret_if]
  refine ⟨fun h=>⟨_,rfl,?_⟩,fun h=>?_⟩
  · have:lv l=0:=hz.2 (List.eq_nil_of_length_eq_zero (by omega))
    rw [this]; cases s<;>simp
  · have:lv l≠0:=fun h1=>h (by rw [hz.1 h1]; rfl)
    rw [ret_if]
    refine ⟨fun hs=>⟨_,rfl,?_⟩,fun hs=>⟨_,rfl,?_⟩⟩
    · rw [if_pos hs,if_pos (by omega)]
    · rw [if_neg hs,if_neg (by omega),if_pos (by omega)]
theorem cmp_bg {s t:Bool} {a b:List Int} (ha:LW a) (hb:LW b) (hn:a.length≤1000) (hm:b.length≤1000):integer_Cmp s a t b=some (if sv s a < sv t b then -1 else if sv t b < sv s a then 1 else 0):=by
  refine Ret.eq ?_
  unfold integer_Cmp
  have la:=trim_len ha
  have lb:=trim_len hb
  have h3:=lv_nn ha
  have h4:=lv_nn hb
  rw [sign_bg ha hn,obs,sign_bg hb hm,obs,ret_if]
  refine ⟨fun h=>⟨_,rfl,?_⟩,fun h=>?_⟩
  · revert h; split<;>split<;>(try split)<;>(try split)<;>omega
  · rw [ret_if]
    refine ⟨fun h'=>⟨_,rfl,?_⟩,fun h'=>?_⟩
    · revert h h'; split<;>split<;>(try split)<;>(try split)<;>omega
    · rw [trim_ok ha (by omega),obs,trim_ok hb (by omega),obs,compare_ok (trimL_lw ha) (trimL_lw hb) (trimL_tm a) (trimL_tm b) (by omega) (by omega),obs,trimL_lv,trimL_lv]
      refine ⟨_,rfl,?_⟩
      revert h h'
      unfold sv
      cases s<;>cases t<;>simp only [if_true,if_false,Bool.false_eq_true]<;>split<;>split<;>(try split)<;>(try split)<;>intro h h'<;>first | omega | (rw [wm_i (by omega) (by omega)]; omega)
end Km
namespace Km
open Sx Go M Vc Lm
theorem make_bg {l:List Int} (s:Bool) (hl:LW l) (hn:l.length≤1000000):Ret (sparseref01_make1 s l) (fun r=>Bg (sv s l) r.1 r.2):=by
  rw [make1_ok s hl hn]
  have h:=Bg.norm (s:=s) hl
  by_cases h0:trimL l=[]
  · rw [if_pos h0] at h
    refine ⟨_,rfl,?_⟩
    show Bg _ (s && decide ((0:Int) < ((trimL l).length:Int))) (trimL l)
    have:(s && decide ((0:Int) < ((trimL l).length:Int)))=false:=by rw [h0]; simp
    rw [this]; exact h
  · rw [if_neg h0] at h
    refine ⟨_,rfl,?_⟩
    show Bg _ (s && decide ((0:Int) < ((trimL l).length:Int))) (trimL l)
    have hp:0 < (trimL l).length:=by
      cases hL:trimL l with
      | nil=>exact absurd hL h0
      | cons a b=>simp
    have:(s && decide ((0:Int) < ((trimL l).length:Int)))=s:=by
      rw [decide_eq_true (by omega),Bool.and_true]
    rw [this]; exact h
theorem fromR_bg {n:Int} (h0: -9223372036854775808≤n) (h1:n < 9223372036854775808):Ret (sparseref01_FromInt n) (fun r=>Bg n r.1 r.2):=by
  have e:B=4294967296:=rfl
  have key:∀ u:Int,0≤u→u < 18446744073709551616→(if n < 0 then - u else u)=n→Ret (sparseref01_FromInt_j1 n u) (fun r=>Bg n r.1 r.2):=by
    intro u u0 u1 hu
    unfold sparseref01_FromInt_j1
    have hm:=Int.emod_nonneg u (show B≠0 by omega)
    have hm2:=Int.emod_lt_of_pos u (show 0 < B by omega)
    have hd0:0≤u / B:=Int.ediv_nonneg u0 (by omega)
    have hd1:u / B < B:=Int.ediv_lt_of_lt_mul (by omega) (by rw [e]; omega)
    have hd:=Int.mul_ediv_add_emod u B
    rw [wsrc32 u0,wc_u32 u,wc_u32_in ⟨hd0,hd1⟩,ret_bind]
    have hl:LW [u % B,u / B]:=by
      intro x hx
      simp only [List.mem_cons,List.not_mem_nil,or_false] at hx
      rcases hx with rfl | rfl
      · exact ⟨hm,hm2⟩
      · exact ⟨hd0,hd1⟩
    refine (make_bg (decide (n < 0)) hl (by simp)).mono fun r hr=>⟨_,rfl,hr.cast ?_⟩
    have hv:lv [u % B,u / B]=u:=by simp only [lv,Int.mul_zero,Int.add_zero]; omega
    unfold sv
    rw [hv]
    simpa using hu
  unfold sparseref01_FromInt
  rw [ret_if]
  refine ⟨fun hneg=>?_,fun hpos=>?_⟩
  · have e3:wa .u64 (wc .u64 (wneg .i64 (wa .i64 n 1))) 1= - n:=by
      have e4:wneg .i64 (wa .i64 n 1)= - (n+1):=by
        rw [wa_i (by omega) (by omega)]
        exact IntWalk.i64_in _ ⟨by omega,by omega⟩
      rw [e4,wc_u64_in ⟨by omega,by omega⟩,wa_u64 ⟨by omega,by omega⟩]; omega
    rw [e3]
    exact key (- n) (by omega) (by omega) (by rw [if_pos hneg]; omega)
  · rw [wc_u64_in ⟨by omega,by omega⟩]
    exact key n (by omega) (by omega) (by rw [if_neg hpos])
end Km
namespace Km
open Sx Go M Vc Lm
end Km
namespace Km
open Sx Go M Vc Lm
theorem bv32 {x:Int} (h:0≤x∧x < 4294967296):(BitVec.ofInt 32 x).toNat=x.toNat:=by
  rw [BitVec.toNat_ofInt]
  have:x % ((2 ^ 32:Nat):Int)=x:=Int.emod_eq_of_lt h.1 (by exact h.2)
  rw [this]
theorem wor32 {s:Nat} {c k:Int} (hs:s < 32) (hc:0≤c∧c < 2 ^ s) (hk:0≤k) (hb:c+2 ^ s*k < 4294967296):wor .u32 c (2 ^ s*k)=c+2 ^ s*k:=by
  obtain ⟨C,rfl⟩:=Int.eq_ofNat_of_zero_le hc.1
  obtain ⟨K,rfl⟩:=Int.eq_ofNat_of_zero_le hk
  have hC:C < 2 ^ s:=by exact_mod_cast hc.2
  have e2:((2:Int) ^ s*(K:Int))=((2 ^ s*K:Nat):Int):=by push_cast; rfl
  rw [e2] at hb ⊢
  unfold wor
  have e3:(BitVec.ofInt 32 (C:Int) ||| BitVec.ofInt 32 ((2 ^ s*K:Nat):Int)).toNat=2 ^ s*K+C:=by
    rw [BitVec.toNat_or,bv32 (by omega),bv32 (by omega),Int.toNat_natCast,Int.toNat_natCast,Nat.or_comm,← Nat.two_pow_add_eq_or_of_lt hC]
  show IntKind.u32.wrap ((BitVec.ofInt 32 (C:Int) ||| BitVec.ofInt 32 ((2 ^ s*K:Nat):Int)).toNat:Int)=_
  rw [e3,IntKind.wrap_u32]
  omega
theorem two_pow {s:Nat} (hs:s < 32):0 < (2:Int) ^ s∧(2:Int) ^ s≤2147483648∧(2:Int) ^ s*2 ^ (32 - s)=B∧0 < (2:Int) ^ (32 - s):=by
  refine ⟨Int.pow_pos (by omega),?_,?_,Int.pow_pos (by omega)⟩
  · have h9:((2 ^ s:Nat):Int)≤((2147483648:Nat):Int):=Int.ofNat_le.2 (Nat.le_trans (Nat.pow_le_pow_right (n:=2) (j:=31) (by omega) (by omega)) (by decide))
    rw [Int.natCast_pow] at h9
    exact h9
  · rw [← Int.pow_add,show s+(32 - s)=32 by omega]; rfl
theorem small_shift {s:Nat} (hs:s < 32):wqc .i64 (s:Int) 32=0∧wrc (s:Int) 32=(s:Int):=by
  constructor
  · show IntKind.wrap .i64 (Int.tdiv (s:Int) 32)=0
    rw [Int.tdiv_eq_ediv_of_nonneg (by omega),Int.ediv_eq_zero_of_lt (by omega) (by omega)]; rfl
  · show Int.tmod (s:Int) 32=_
    rw [Int.tmod_eq_emod_of_nonneg (by omega),Int.emod_eq_of_lt (by omega) (by omega)]
theorem shl_low {s:Nat} (hs:s < 32) {x:Int} (hx:0≤x∧x < B):∃ k,0≤k∧x*2 ^ s % B=2 ^ s*k∧2 ^ s*k+2 ^ s≤B∧0≤x*2 ^ s / B∧x*2 ^ s / B < 2 ^ s:=by
  obtain ⟨h1,h2,h3,h4⟩:=two_pow hs
  have e:x*2 ^ s % B=2 ^ s*(x % 2 ^ (32 - s)):=by
    rw [← h3,Int.mul_comm x,Int.mul_emod_mul_of_pos _ _ h1]
  have m0:=Int.emod_nonneg x (show (2:Int) ^ (32 - s)≠0 by omega)
  have m1:=Int.emod_lt_of_pos x h4
  refine ⟨x % 2 ^ (32 - s),m0,e,?_,Int.ediv_nonneg (Int.mul_nonneg hx.1 (by omega)) (by unfold B; omega),?_⟩
  · have:2 ^ s*(x % 2 ^ (32 - s)+1)≤2 ^ s*2 ^ (32 - s):=Int.mul_le_mul_of_nonneg_left (by omega) (by omega)
    rw [Int.mul_add,h3,Int.mul_one] at this
    exact this
  · refine Int.ediv_lt_of_lt_mul (by unfold B; omega) ?_
    rw [Int.mul_comm]
    exact Int.mul_lt_mul_of_pos_left hx.2 h1
theorem up_ok {a:List Int} (ha:LW a) (hn:a.length≤1000) (hne:a≠[]) {s:Nat} (hs:s < 32):Ret (integer_up a (s:Int)) (fun u=>LW u∧Tm u∧lv u=lv a*2 ^ s):=by
  have e:B=4294967296:=rfl
  obtain ⟨hq,hr⟩:=small_shift hs
  obtain ⟨p1,p2,p3,p4⟩:=two_pow hs
  have hal:0 < a.length:=List.length_pos_iff.2 hne
  unfold integer_up
  rw [if_neg (by omega),hq,wa_i (x:=0) (by omega) (by omega),Int.zero_add,wa_i (by omega) (by omega),ret_bind,ret_mkL]
  refine ⟨by omega,by omega,?_⟩
  rw [show ((a.length:Int)+1).toNat=a.length+1 by omega,ret_bind]
  refine (ret_loop (Post:=fun o:List Int=>LW o∧o.length=a.length+1∧lv o=lv a*2 ^ s) a.length (fun i (t:List Int×Int)=>t.2=(i:Int)∧LW t.1∧t.1.length=a.length+1∧lv t.1=lv (a.take i)*2 ^ s∧t.1.drop (i+1)=List.replicate (a.length - i) 0∧(∀ x,t.1[i]?=some x→x < 2 ^ s)) ⟨rfl,lw_zeros _,List.length_replicate ..,by rw [lv_zeros,List.take_zero]; simp [lv],by rw [List.drop_replicate]; congr 1,fun x hx=>by rw [List.getElem?_replicate] at hx; split at hx<;>simp at hx; omega⟩ ?_ (by omega)).mono ?_
  · rintro i ⟨o,_⟩ hi ⟨rfl,h1,h2,h3,h4,h5⟩
    simp only at h1 h2 h3 h4 h5
    unfold integer_up_l1
    simp only
    rw [ret_if]
    refine ⟨fun hlt=>?_,fun hge=>⟨_,rfl,h1,h2,by have ei:i=a.length:=(by omega); subst ei; rw [List.take_length] at h3; exact h3⟩⟩
    have hia:i < a.length:=by omega
    rw [ret_bind,ret_get]
    refine ⟨by omega,hlt,fun x hx=>?_⟩
    rw [Int.toNat_natCast] at hx
    have hxB:=LW.get ha hx
    have hx2:0≤x*2 ^ s:=Int.mul_nonneg hxB.1 (by omega)
    have hx3:x*2 ^ s≤(B - 1)*2 ^ s:=Int.mul_le_mul_of_nonneg_right (by omega) (by omega)
    have hx4:(B - 1)*2 ^ s≤(B - 1)*2147483648:=Int.mul_le_mul_of_nonneg_left p2 (by omega)
    have hsh:wshl .u64 (wc .u64 x) (wc .u64 (s:Int))=some (x*2 ^ s):=by
      rw [wc_u64_in ⟨hxB.1,by omega⟩,wc_u64_in (x:=(s:Int)) ⟨by omega,by omega⟩]
      unfold wshl
      rw [if_neg (by omega),Int.toNat_natCast]
      show some (IntKind.u64.wrap (x*2 ^ min s 64))=_
      rw [Nat.min_eq_left (by omega),IntWalk.u64_in _ ⟨hx2,by omega⟩]
    obtain ⟨k,k0,k1,k2,k3,k4⟩:=shl_low hs hxB
    have hd:=Int.mul_ediv_add_emod (x*2 ^ s) B
    have hmm:=Int.emod_nonneg (x*2 ^ s) (show B≠0 by omega)
    rw [hq,hr,hsh,obs,wa_i (x:=0) (by omega) (by omega),Int.zero_add,ret_bind,ret_get]
    refine ⟨by omega,by omega,fun y hy=>?_⟩
    rw [Int.toNat_natCast] at hy
    have hyB:=LW.get h1 hy
    have hys:=h5 y hy
    rw [wand_low ⟨hx2,by omega⟩,wsrc32 hx2,wc_u32_in ⟨k3,by omega⟩,wc_u32_in (x:=x*2 ^ s % B) ⟨by omega,by omega⟩]
    have hor:wor .u32 y (x*2 ^ s % B)=y+x*2 ^ s % B:=by rw [k1]; exact wor32 hs ⟨hyB.1,hys⟩ k0 (by omega)
    rw [hor,ret_bind,ret_set,Int.toNat_natCast]
    refine ⟨by omega,by omega,?_⟩
    rw [wa_i (x:=(i:Int)) (y:=1) (by omega) (by omega),ret_bind,ret_set]
    have hl1:(o.set i (y+x*2 ^ s % B)).length=a.length+1:=by rw [List.length_set,h2]
    have hz:(o.set i (y+x*2 ^ s % B))[i+1]?=some 0:=by
      rw [List.getElem?_set_ne (by omega)]
      have e1:(o.drop (i+1))[0]?=o[i+1]?:=by rw [List.getElem?_drop]
      rw [← e1,h4,List.getElem?_replicate,if_pos (by omega)]
    refine ⟨by omega,by omega,_,rfl,hia,rfl,?_,?_,?_,?_,?_⟩
    · rw [show ((i:Int)+1).toNat=i+1 by omega]
      exact lw_set (lw_set h1 ⟨by omega,by omega⟩) ⟨k3,by omega⟩
    · rw [show ((i:Int)+1).toNat=i+1 by omega]
      show ((o.set i (y+x*2 ^ s % B)).set (i+1) _).length=_
      rw [List.length_set,hl1]
    · rw [show ((i:Int)+1).toNat=i+1 by omega]
      show lv ((o.set i (y+x*2 ^ s % B)).set (i+1) (x*2 ^ s / B))=_
      rw [lv_set hz,lv_set hy,h3,take_succ hx]
      simp only [pw]
      have e3:pw i*(B*(x*2 ^ s / B)+x*2 ^ s % B)=pw i*(x*2 ^ s):=by rw [hd]
      generalize x*2 ^ s / B=q at*
      generalize x*2 ^ s % B=r at*
      grind
    · rw [show ((i:Int)+1).toNat=i+1 by omega]
      show ((o.set i (y+x*2 ^ s % B)).set (i+1) (x*2 ^ s / B)).drop (i+1+1)=_
      rw [List.drop_set_of_lt (by omega),List.drop_set_of_lt (by omega),← List.drop_drop,h4,List.drop_replicate]
      congr 1
    · rw [show ((i:Int)+1).toNat=i+1 by omega]
      intro z hz2
      have hz2:((o.set i (y+x*2 ^ s % B)).set (i+1) (x*2 ^ s / B))[i+1]?=some z:=hz2
      rw [List.getElem?_set_self (by omega)] at hz2
      obtain rfl:=Option.some.inj hz2
      exact k4
  · rintro o ⟨h1,h2,h3⟩
    rw [trim_ok h1 (by omega),obs]
    exact ⟨_,rfl,trimL_lw h1,trimL_tm _,by rw [trimL_lv]; exact h3⟩
theorem shr_limb {s:Nat} (hs:s < 32) {x y E:Int} (hx:0≤x∧x < B) (hy:0≤y):(x+B*(y+B*E)) / 2 ^ s=((x+B*y) / 2 ^ s) % B+B*((y+B*E) / 2 ^ s):=by
  obtain ⟨p1,p2,p3,p4⟩:=two_pow hs
  have e:B=4294967296:=rfl
  generalize hP:(2:Int) ^ s=P at*
  generalize hQ:(2:Int) ^ (32 - s)=Q at*
  have hy1:=Int.mul_ediv_add_emod y P
  have r0:=Int.emod_nonneg y (show P≠0 by omega)
  have r1:=Int.emod_lt_of_pos y p1
  generalize hk:y / P=k at*
  generalize hr:y % P=r at*
  have w0:0≤B*r:=Int.mul_nonneg (by omega) r0
  have hA:(y+B*E) / P=k+Q*E:=by
    have e1:y+B*E=r+P*(k+Q*E):=by rw [← hy1,← p3]; grind
    rw [e1,Int.add_mul_ediv_left _ _ (by omega),Int.ediv_eq_zero_of_lt r0 r1]; omega
  have hBq:(x+B*y) / P=(x+B*r) / P+B*k:=by
    have e1:x+B*y=(x+B*r)+P*(B*k):=by rw [← hy1]; grind
    rw [e1,Int.add_mul_ediv_left _ _ (by omega)]
  have hC:(x+B*(y+B*E)) / P=(x+B*r) / P+B*(k+Q*E):=by
    have e1:x+B*(y+B*E)=(x+B*r)+P*(B*(k+Q*E)):=by rw [← hy1]; have:B*E=P*(Q*E):=(by rw [← p3]; grind); rw [this]; grind
    rw [e1,Int.add_mul_ediv_left _ _ (by omega)]
  have q0:0≤(x+B*r) / P:=Int.ediv_nonneg (by omega) (by omega)
  have q1:(x+B*r) / P < B:=by
    refine Int.ediv_lt_of_lt_mul (by omega) ?_
    have:B*(r+1)≤B*P:=Int.mul_le_mul_of_nonneg_left (by omega) (by omega)
    rw [Int.mul_add,Int.mul_one] at this
    omega
  rw [hA,hBq,hC,Int.add_mul_emod_self_left,Int.emod_eq_of_lt q0 q1]
theorem lv_drop {l:List Int} {i:Nat} {x:Int} (hx:l[i]?=some x):lv (l.drop i)=x+B*lv (l.drop (i+1)):=by
  obtain ⟨h1,h2⟩:=List.getElem?_eq_some_iff.1 hx
  rw [List.drop_eq_getElem_cons h1,h2]; rfl
theorem LW.drop {l:List Int} (h:LW l) (k:Nat):LW (l.drop k):=fun x hx=>h x (List.mem_of_mem_drop hx)
theorem take_drop (l:List Int) {k:Nat} (h:k≤l.length):lv l=lv (l.take k)+pw k*lv (l.drop k):=by
  have h1:lv l=lv (l.take k++l.drop k):=by rw [List.take_append_drop]
  rw [h1,lv_app,List.length_take,Nat.min_eq_left h]
theorem has_ok {l:List Int}:slices_ContainsFunc_uint32 ([]:List Int)=some false:=by
  refine Ret.eq ?_
  unfold slices_ContainsFunc_uint32 slices_IndexFunc_uint32
  rw [ret_bind,ret_bind]
  refine (ret_loop (Post:=fun o=>o=.inl ()) 0 (fun k (i:Int)=>i=0) rfl ?_ (by omega)).mono ?_
  · rintro k _ hk rfl
    unfold slices_IndexFunc_uint32_l1
    rw [if_neg (by simp)]
    exact ⟨_,rfl,rfl⟩
  · rintro _ rfl
    exact ⟨_,rfl,_,rfl,rfl⟩
theorem down_ok {a:List Int} (ha:LW a) (hn:a.length≤1000) {s:Nat} (hs:s < 32):Ret (integer_down a (s:Int)) (fun r=>LW r.1∧Tm r.1∧lv r.1=lv a / 2 ^ s):=by
  have e:B=4294967296:=rfl
  obtain ⟨hq,hr⟩:=small_shift hs
  obtain ⟨p1,p2,p3,p4⟩:=two_pow hs
  unfold integer_down
  rw [hq,ret_if]
  refine ⟨fun h0=>⟨_,rfl,by intro x hx; simp at hx,tm_nil,?_⟩,fun h0=>?_⟩
  · rw [show a=[] from List.eq_nil_of_length_eq_zero (by omega)]
    show (0:Int)=0 / 2 ^ s
    rw [Int.zero_ediv]
  have hsl:sli a 0 0=some []:=by unfold sli subL; rw [if_pos ⟨by omega,by omega,by omega⟩]; simp
  rw [hsl,obs,has_ok (l:=[]),obs,if_neg (by simp),ret_bind]
  obtain ⟨x0,hx0⟩:∃ x0,a[0]?=some x0:=⟨a[0]'(by omega),List.getElem?_eq_getElem (by omega)⟩
  have hsh1:∃ z,wshl .u32 1 (wc .u64 (s:Int))=some z:=by unfold wshl; rw [wc_u64_in ⟨by omega,by omega⟩,if_neg (by omega)]; exact ⟨_,rfl⟩
  obtain ⟨z1,hz1⟩:=hsh1
  have hg0:getI a 0=some x0:=Ret.eq (by rw [ret_get]; exact ⟨by omega,by omega,fun x hx=>Option.some.inj (hx.symm.trans hx0)⟩)
  rw [hg0,obs,hr,hz1,obs,ret_some,ret_bind,ws_i (by omega) (by omega),Int.sub_zero,ret_mkL]
  refine ⟨by omega,by omega,?_⟩
  rw [Int.toNat_natCast,ret_bind]
  refine (ret_loop (Post:=fun o:List Int=>LW o∧o.length=a.length∧lv o=lv a / 2 ^ s) a.length (fun i (t:List Int×Int)=>t.2=(i:Int)∧LW t.1∧t.1.length=a.length∧lv (t.1.take i)+pw i*(lv (a.drop i) / 2 ^ s)=lv a / 2 ^ s) ⟨rfl,lw_zeros _,List.length_replicate ..,by simp [lv,pw]⟩ ?_ (by omega)).mono ?_
  · rintro i ⟨o,_⟩ hi ⟨rfl,h1,h2,h3⟩
    simp only at h1 h2 h3
    unfold integer_down_l4
    simp only
    rw [List.length_replicate,ret_if]
    refine ⟨fun hlt=>?_,fun hge=>⟨_,rfl,h1,h2,?_⟩⟩
    · have hia:i < a.length:=by omega
      rw [hq,wa_i (x:=0) (by omega) (by omega),Int.zero_add,ret_bind,ret_get]
      refine ⟨by omega,by omega,fun x hx=>?_⟩
      rw [Int.toNat_natCast] at hx
      have hxB:=LW.get ha hx
      have key:∀ y E:Int,0≤y→y < B→0≤E→lv (a.drop (i+1))=y+B*E→Ret (integer_down_j5 (s:Int) o (i:Int) (x+B*y)) (VQ (fun t':List Int×Int=>i < a.length∧t'.2=((i+1:Nat):Int)∧LW t'.1∧t'.1.length=a.length∧lv (t'.1.take (i+1))+pw (i+1)*(lv (a.drop (i+1)) / 2 ^ s)=lv a / 2 ^ s) (fun o:List Int=>LW o∧o.length=a.length∧lv o=lv a / 2 ^ s)):=by
        intro y E y0 y1 E0 hE
        unfold integer_down_j5
        have t0:0≤x+B*y:=by have:=Int.mul_nonneg (show 0≤B by omega) y0; omega
        have t1:x+B*y < 18446744073709551616:=by rw [e]; omega
        have hsh:wshr .u64 (x+B*y) (wc .u64 (wrc (s:Int) 32))=some ((x+B*y) / 2 ^ s):=by
          rw [hr,wc_u64_in (x:=(s:Int)) ⟨by omega,by omega⟩]
          unfold wshr
          rw [if_neg (by omega),Int.toNat_natCast]
          show some (Int.fdiv _ (2 ^ min s 64))=_
          rw [Nat.min_eq_left (by omega),Int.fdiv_eq_ediv_of_nonneg _ (by omega)]
        have d0:0≤(x+B*y) / 2 ^ s:=Int.ediv_nonneg t0 (by omega)
        have d1:(x+B*y) / 2 ^ s≤x+B*y:=Int.ediv_le_self _ t0
        have hm:=Int.emod_nonneg ((x+B*y) / 2 ^ s) (show B≠0 by omega)
        have hm2:=Int.emod_lt_of_pos ((x+B*y) / 2 ^ s) (show 0 < B by omega)
        rw [hsh,obs,wand_low ⟨d0,by omega⟩,wc_u32_in ⟨hm,hm2⟩,ret_bind,ret_set,Int.toNat_natCast]
        refine ⟨by omega,by omega,_,rfl,hia,by show wa .i64 (i:Int) 1=_; rw [wa_i (by omega) (by omega)]; rfl,lw_set h1 ⟨hm,hm2⟩,by show (o.set i _).length=_; rw [List.length_set,h2],?_⟩
        show lv ((o.set i ((x+B*y) / 2 ^ s % B)).take (i+1))+pw (i+1)*(lv (a.drop (i+1)) / 2 ^ s)=_
        have hs2:(o.set i ((x+B*y) / 2 ^ s % B))[i]?=some ((x+B*y) / 2 ^ s % B):=by rw [List.getElem?_set_self]; omega
        rw [take_succ hs2,List.take_set,List.set_eq_of_length_le (by rw [List.length_take]; omega),← h3,lv_drop hx,hE,shr_limb hs hxB y0]
        simp only [pw]
        generalize (x+B*y) / 2 ^ s % B=u
        generalize (y+B*E) / 2 ^ s=v
        grind
      have hcx:wc .u64 x=x:=wc_u64_in ⟨hxB.1,by omega⟩
      rw [wa_i (x:=(i:Int)) (by omega) (by omega),ret_if]
      refine ⟨fun hl2=>?_,fun hl2=>?_⟩
      · rw [ret_bind,ret_get]
        refine ⟨by omega,by omega,fun y hy=>?_⟩
        rw [show ((i:Int)+1).toNat=i+1 by omega] at hy
        have hyB:=LW.get ha hy
        have hor:wor .u64 (wc .u64 x) (wslc .u64 (wc .u64 y) 32)=x+B*y:=by
          rw [hcx,wc_u64_in (x:=y) ⟨hyB.1,by omega⟩,wslc32 hyB]
          have:wor .u64 x (y*B)=wor .u64 (y*B) x:=by unfold wor; rw [BitVec.or_comm]
          rw [this,wor_hi hyB hxB,Int.mul_comm]; omega
        rw [hor]
        exact key y (lv (a.drop (i+1+1))) hyB.1 hyB.2 (lv_nn (LW.drop ha _)) (lv_drop hy)
      · have hE:lv (a.drop (i+1))=0:=by rw [List.drop_of_length_le (by omega)]; rfl
        have:=key 0 0 (by omega) (by omega) (by omega) (by rw [hE]; rfl)
        rw [Int.mul_zero,Int.add_zero] at this
        rw [hcx]
        exact this
    · have ei:i=a.length:=by omega
      subst ei
      rw [List.drop_length,take_all (by omega)] at h3
      show lv o=_
      rw [← h3]
      show lv o=lv o+pw a.length*(0 / 2 ^ s)
      rw [Int.zero_ediv]; omega
  · rintro o ⟨h1,h2,h3⟩
    rw [trim_ok h1 (by omega),obs]
    exact ⟨_,rfl,trimL_lw h1,trimL_tm _,by rw [trimL_lv]; exact h3⟩
theorem ret_getW {A W Z:List Int} {lo hi i:Int} (hlo:lo=(A.length:Int)) (hhi:hi=(A.length:Int)+W.length) {Q:Int→Prop}:Ret (getW (A++W++Z) lo hi i) Q=(0≤i∧i < W.length∧∀ x,W[i.toNat]?=some x→Q x):=by
  subst hlo hhi
  unfold getW
  by_cases h:0≤i∧i < W.length
  · rw [if_pos ⟨by omega,h.1,by omega,by simp only [List.length_append]; omega⟩,ret_get]
    have e1:(A++W++Z)[((A.length:Int)+i).toNat]?=W[i.toNat]?:=by
      rw [show ((A.length:Int)+i).toNat=A.length+i.toNat by omega,List.append_assoc,List.getElem?_append_right (by omega),Nat.add_sub_cancel_left,List.getElem?_append_left (by omega)]
    rw [e1]
    apply propext
    constructor
    · rintro ⟨_,_,h3⟩; exact ⟨h.1,h.2,h3⟩
    · rintro ⟨_,_,h3⟩; exact ⟨by omega,by simp only [List.length_append]; omega,h3⟩
  · rw [if_neg (by rintro ⟨_,h1,h2,_⟩; exact h ⟨h1,by omega⟩),ret_none]
    apply propext
    exact ⟨False.elim,fun ⟨h1,h2,_⟩=>h ⟨h1,h2⟩⟩
theorem ret_setW {A W Z:List Int} {lo hi i z:Int} (hlo:lo=(A.length:Int)) (hhi:hi=(A.length:Int)+W.length) {Q:List Int→Prop}:Ret (setW (A++W++Z) lo hi i z) Q=(0≤i∧i < W.length∧Q (A++W.set i.toNat z++Z)):=by
  subst hlo hhi
  unfold setW
  by_cases h:0≤i∧i < W.length
  · rw [if_pos ⟨by omega,h.1,by omega,by simp only [List.length_append]; omega⟩,ret_set]
    have e1:(A++W++Z).set ((A.length:Int)+i).toNat z=A++W.set i.toNat z++Z:=by
      rw [show ((A.length:Int)+i).toNat=A.length+i.toNat by omega,List.append_assoc,List.set_append_right _ _ (by omega),Nat.add_sub_cancel_left,List.set_append_left _ _ (by omega),List.append_assoc]
    rw [e1]
    apply propext
    constructor
    · rintro ⟨_,_,h3⟩; exact ⟨h.1,h.2,h3⟩
    · rintro ⟨_,_,h3⟩; exact ⟨by omega,by simp only [List.length_append]; omega,h3⟩
  · rw [if_neg (by rintro ⟨_,h1,h2,_⟩; exact h ⟨h1,by omega⟩),ret_none]
    apply propext
    exact ⟨False.elim,fun ⟨h1,h2,_⟩=>h ⟨h1,h2⟩⟩
end Km
namespace Km
open Sx Go M Vc Lm
structure KD (U V S us vs w1 w2 wt v2 vt Q:Int):Prop where
  hS:0 < S
  hv:V=(vt*B+v2)*S+vs
  hvs:0≤vs∧vs < S
  hv2:0≤v2∧v2 < B
  hvt:2147483648≤vt∧vt < B
  hu:U=((wt*B+w1)*B+w2)*S+us
  hus:0≤us∧us < S
  hw2:0≤w2∧w2 < B
  hw1:0≤w1∧w1 < B
  hwt:0≤wt∧wt < B
  hlt:U < V*B
  hq:Qt U V Q
section
variable {U V S us vs w1 w2 wt v2 vt Q:Int}
theorem KD.vpos (h:KD U V S us vs w1 w2 wt v2 vt Q):S*B≤V:=by
  have e:B=4294967296:=rfl
  have h1:=h.hv
  have hS:=h.hS
  have h2:=h.hvt
  have h3:=h.hv2
  have h4:1*B≤vt*B:=Int.mul_le_mul_of_nonneg_right (by omega) (by omega)
  have h5:B*S≤(vt*B+v2)*S:=Int.mul_le_mul_of_nonneg_right (by omega) (by omega)
  have h6:=h.hvs
  rw [Int.mul_comm S B]; omega
theorem KD.v0 (h:KD U V S us vs w1 w2 wt v2 vt Q):0 < V:=by
  have h1:=h.vpos
  have h2:0 < S*B:=Int.mul_pos h.hS (by unfold B; omega)
  omega
theorem KD.u0 (h:KD U V S us vs w1 w2 wt v2 vt Q):0≤U:=by
  have h1:=h.hwt.1
  have h2:=h.hw1.1
  have h3:=h.hw2.1
  have h4:0≤wt*B:=Int.mul_nonneg h1 (by unfold B; omega)
  have h5:0≤(wt*B+w1)*B:=Int.mul_nonneg (by omega) (by unfold B; omega)
  have h6:0≤((wt*B+w1)*B+w2)*S:=Int.mul_nonneg (by omega) (by have:=h.hS; omega)
  have:=h.hus.1
  rw [h.hu]; omega
theorem KD.q0 (h:KD U V S us vs w1 w2 wt v2 vt Q):0≤Q:=h.hq.nn h.v0 h.u0
theorem KD.qB (h:KD U V S us vs w1 w2 wt v2 vt Q):Q < B:=h.hq.lt_of h.v0 (by rw [Int.mul_comm]; exact h.hlt)
theorem KD.top (h:KD U V S us vs w1 w2 wt v2 vt Q):wt*B+w1 < (vt+1)*B:=by
  have e:B=4294967296:=rfl
  refine Classical.byContradiction fun hc=>?_
  have hS:=h.hS
  have h1:((vt+1)*B)*B*S≤(wt*B+w1)*B*S:=Int.mul_le_mul_of_nonneg_right (Int.mul_le_mul_of_nonneg_right (by omega) (by omega)) (by omega)
  have h2:0≤w2*S:=Int.mul_nonneg h.hw2.1 (by omega)
  have h3:U=(wt*B+w1)*B*S+w2*S+us:=by rw [h.hu]; grind
  have h4:(v2+1)*S≤B*S:=Int.mul_le_mul_of_nonneg_right (by have:=h.hv2; omega) (by omega)
  have h5:V*B=vt*B*S*B+(v2*S+vs)*B:=by rw [h.hv]; grind
  have h6:(v2*S+vs)*B≤(B*S)*B:=Int.mul_le_mul_of_nonneg_right (by have:=h.hvs; rw [Int.add_mul] at h4; omega) (by omega)
  have h7:((vt+1)*B)*B*S=vt*B*S*B+(B*S)*B:=by grind
  have:=h.hlt
  have:=h.hus.1
  omega
theorem KD.ge (h:KD U V S us vs w1 w2 wt v2 vt Q):Q*vt≤wt*B+w1:=by
  have hS:=h.hS
  have hSB:0 < S*B:=Int.mul_pos hS (by unfold B; omega)
  refine guess_ge (P:=S*B) (ur:=w2*S+us) (vr:=v2*S+vs) h.hq hSB (by rw [h.hu]; grind) ?_ (by rw [h.hv]; grind) ?_ (by have:=h.hvt; omega) h.q0
  · have h1:(w2+1)*S≤B*S:=Int.mul_le_mul_of_nonneg_right (by have:=h.hw2; omega) (by omega)
    rw [Int.add_mul] at h1
    have:=h.hus
    rw [Int.mul_comm S B]; omega
  · have:=Int.mul_nonneg h.hv2.1 (show 0≤S by omega)
    have:=h.hvs
    omega
theorem KD.gt (h:KD U V S us vs w1 w2 wt v2 vt Q) {g r:Int} (hg:g*vt+r=wt*B+w1) (g0:0≤g) (hc:r*B+w2 < g*v2):Q < g:=by
  refine guess_gt (S:=S) (us:=us) (vs:=vs) h.hq h.hS h.hu h.hus.2 h.hv h.hvs.1 ?_ g0 h.v0
  have e1:g*(vt*B+v2)=(g*vt+r)*B - r*B+g*v2:=by grind
  rw [e1,hg]; omega
theorem KD.le (h:KD U V S us vs w1 w2 wt v2 vt Q) {g r:Int} (hg:g*vt+r=wt*B+w1) (g0:0≤g) (gB:g < B) (hc:g*v2≤r*B+w2):g≤Q+1:=by
  refine guess_le (S:=S) (us:=us) (vs:=vs) h.hq h.hS h.hu h.hus.1 h.hv h.hvs.2 h.hvs.1 ?_ g0 ?_ h.v0
  · have e1:g*(vt*B+v2)=(g*vt+r)*B - r*B+g*v2:=by grind
    rw [e1,hg]; omega
  · have h1:g*S≤B*S:=Int.mul_le_mul_of_nonneg_right (by omega) (by have:=h.hS; omega)
    have:=h.vpos
    rw [Int.mul_comm S B] at this; omega
end
theorem ret_loopG {τ ρ:Type} {step:τ→Option (τ⊕ρ)} {Post:ρ→Prop} (I:τ→Prop) (μ:τ→Nat) {s:τ} (h0:I s) (hμ:μ s < 1099511627776)
    (h:∀ t,I t→Ret (step t) (VQ (fun t'=>I t'∧μ t' < μ t) Post)):Ret (loop step s) Post:=by
  have key:∀ (fuel:Nat) (t:τ),μ t < fuel→I t→Ret (loopN step fuel t) Post:=by
    intro fuel
    induction fuel with
    | zero=>intro t h1; omega
    | succ n ih=>
      intro t h1 h2
      obtain ⟨x,hx,h3⟩:=h t h2
      cases x with
      | inr r=>exact ⟨r,by simp [loopN,hx],h3⟩
      | inl t'=>
        obtain ⟨h4,h5⟩:=h3
        obtain ⟨y,hy,hp⟩:=ih t' (by omega) h4
        exact ⟨y,by simp [loopN,hx,hy],hp⟩
  exact key FUEL s (Nat.lt_of_lt_of_le hμ (by unfold FUEL; omega)) h0
theorem get_of {l:List Int} {k:Nat} (h:k < l.length):∃ x,l[k]?=some x:=⟨l[k],List.getElem?_eq_getElem h⟩
theorem ret_at {l:List Int} {k:Nat} {x:Int} (hx:l[k]?=some x) {i:Int} (hi:i=(k:Int)):getI l i=some x:=by
  subst hi
  have:=(List.getElem?_eq_some_iff.1 hx).1
  exact Ret.eq (by rw [ret_get]; exact ⟨by omega,by omega,fun y hy=>by rw [Int.toNat_natCast] at hy; exact Option.some.inj (hy.symm.trans hx)⟩)
theorem win_at {A W Z:List Int} {k:Nat} {x:Int} (hx:W[k]?=some x) {lo hi i:Int} (hlo:lo=(A.length:Int)) (hhi:hi=(A.length:Int)+W.length) (hi':i=(k:Int)):getW (A++W++Z) lo hi i=some x:=by
  subst hi'
  have:=(List.getElem?_eq_some_iff.1 hx).1
  exact Ret.eq (by rw [ret_getW hlo hhi]; exact ⟨by omega,by omega,fun y hy=>by rw [Int.toNat_natCast] at hy; exact Option.some.inj (hy.symm.trans hx)⟩)
theorem win_set {A W Z:List Int} {k:Nat} (hk:k < W.length) {z lo hi i:Int} (hlo:lo=(A.length:Int)) (hhi:hi=(A.length:Int)+W.length) (hi':i=(k:Int)):setW (A++W++Z) lo hi i z=some (A++W.set k z++Z):=by
  subst hi'
  exact Ret.eq (by rw [ret_setW hlo hhi,Int.toNat_natCast]; exact ⟨by omega,by omega,rfl⟩)
theorem set_take {l:List Int} {k:Nat} {y:Int} (hk:k < l.length):lv ((l.set k y).take (k+1))=lv (l.take k)+pw k*y:=by
  have hs:(l.set k y)[k]?=some y:=by rw [List.getElem?_set_self]; exact hk
  rw [take_succ hs,List.take_set,List.set_eq_of_length_le (by rw [List.length_take]; omega)]
theorem drop_get {l m:List Int} {k:Nat} (h:l.drop k=m.drop k):l[k]?=m[k]?:=by
  have e1:(l.drop k)[0]?=l[k]?:=by rw [List.getElem?_drop]; rfl
  have e2:(m.drop k)[0]?=m[k]?:=by rw [List.getElem?_drop]; rfl
  rw [← e1,← e2,h]
theorem set_drop {l m:List Int} {k:Nat} {y:Int} (h:l.drop k=m.drop k):(l.set k y).drop (k+1)=m.drop (k+1):=by
  rw [List.drop_set_of_lt (by omega),← List.drop_drop,h,List.drop_drop]
section
variable {A W Z v:List Int} {lo hi:Int}
theorem guess_ok {U V S us vs w1 w2 wt v2 vt Q:Int} (hK:KD U V S us vs w1 w2 wt v2 vt Q) {m:Nat} (hv:v.length=m+2) (hm:m≤10000) (g2:v[m]?=some v2) (gt:v[m+1]?=some vt) (k2:W[m]?=some w2) (hlo:lo=(A.length:Int)) (hhi:hi=(A.length:Int)+W.length):
    Ret (loop (integer_digit_l17 v (A++W++Z) lo hi) ((wt*B+w1) / vt,(wt*B+w1) % vt)) (fun g=>Q≤g∧g≤Q+1∧g < B):=by
  have e:B=4294967296:=rfl
  have hvt:=hK.hvt
  have hwt:=hK.hwt
  have hw1:=hK.hw1
  have hw2:=hK.hw2
  have hv2:=hK.hv2
  have htop:=hK.top
  have hQ0:=hK.q0
  have hQB:=hK.qB
  have hge:=hK.ge
  have t0:0≤wt*B+w1:=by have:=Int.mul_nonneg hwt.1 (show 0≤B by omega); omega
  have hd:=Int.mul_ediv_add_emod (wt*B+w1) vt
  have r0:=Int.emod_nonneg (wt*B+w1) (show vt≠0 by omega)
  have r1:=Int.emod_lt_of_pos (wt*B+w1) (show 0 < vt by omega)
  have hq0:Q≤(wt*B+w1) / vt:=(Int.le_ediv_iff_mul_le (by omega)).2 hge
  have hq1:(wt*B+w1) / vt≤wt*B+w1:=Int.ediv_le_self _ t0
  have hq2:(wt*B+w1) / vt < 2*B:=by
    refine Int.ediv_lt_of_lt_mul (by omega) ?_
    have:(vt+1)*B≤(2*vt)*B:=Int.mul_le_mul_of_nonneg_right (by omega) (by omega)
    have e9:2*B*vt=2*vt*B:=by grind
    omega
  refine ret_loopG (fun (s:Int×Int)=>s.1*vt+s.2=wt*B+w1∧(0≤s.2∧s.2 < B)∧Q≤s.1∧s.1 < 2*B) (fun s=>s.1.toNat) ⟨by show (wt*B+w1) / vt*vt+(wt*B+w1) % vt=_; rw [Int.mul_comm]; exact hd,⟨r0,by show (wt*B+w1) % vt < B; omega⟩,hq0,hq2⟩ (by show ((wt*B+w1) / vt).toNat < _; omega) ?_
  rintro ⟨g,r⟩ ⟨hg,hr,hQg,hg2⟩
  simp only at hg hr hQg hg2
  unfold integer_digit_l17
  simp only
  have hn2:ws .i64 (v.length:Int) 2=(m:Int):=by rw [hv,ws_i (by omega) (by omega)]; omega
  have hn1:ws .i64 (v.length:Int) 1=((m+1:Nat):Int):=by rw [hv,ws_i (by omega) (by omega)]; omega
  rw [hn2,hn1,ret_at g2 rfl,win_at k2 hlo hhi rfl,ret_at gt rfl]
  have hcv:wc .u64 vt=vt:=wc_u64_in ⟨by omega,by omega⟩
  have down:Q < g→Ret ((if (4294967295:Int) < (wa .u64 r (wc .u64 vt)) then some (.inr (ws .u64 g 1)) else some (.inl (ws .u64 g 1,wa .u64 r (wc .u64 vt))):Option ((Int×Int)⊕Int))) (VQ (fun t':Int×Int=>(t'.1*vt+t'.2=wt*B+w1∧(0≤t'.2∧t'.2 < B)∧Q≤t'.1∧t'.1 < 2*B)∧t'.1.toNat < g.toNat) (fun g=>Q≤g∧g≤Q+1∧g < B)):=by
    intro hlt
    have hw:ws .u64 g 1=g - 1:=by rw [ws_u64]; omega
    have e1:(g - 1)*vt+(r+vt)=wt*B+w1:=by rw [← hg]; grind
    rw [hcv,wa_u64 ⟨by omega,by omega⟩,hw,ret_if]
    refine ⟨fun hb=>⟨_,rfl,by omega,?_,?_⟩,fun hb=>⟨_,rfl,⟨e1,⟨by omega,by omega⟩,by omega,by omega⟩,by omega⟩⟩
    · have hgB:g - 1 < B:=by
        refine Classical.byContradiction fun hc=>?_
        have h1:B*vt≤(g - 1)*vt:=Int.mul_le_mul_of_nonneg_right (by omega) (by omega)
        have h2:(vt+1)*B=B*vt+B:=by grind
        omega
      refine hK.le e1 (by omega) hgB ?_
      have h1:(g - 1)*v2≤4294967295*4294967295:=Int.mul_le_mul (by omega) (by omega) hv2.1 (by omega)
      have h2:4294967296*4294967296≤(r+vt)*B:=Int.mul_le_mul (by omega) (by omega) (by omega) (by omega)
      omega
    · refine Classical.byContradiction fun hc=>?_
      have h1:B*vt≤(g - 1)*vt:=Int.mul_le_mul_of_nonneg_right (by omega) (by omega)
      have h2:(vt+1)*B=B*vt+B:=by grind
      omega
  by_cases hgl:(4294967295:Int) < g
  · rw [if_pos hgl,obs,if_pos rfl,obs]
    exact down (by omega)
  · rw [if_neg hgl,obs,obs,obs]
    have hx1:wor .u64 (wslc .u64 r 32) (wc .u64 w2)=r*B+w2:=by
      rw [wslc32 hr,wc_u64_in (x:=w2) ⟨hw2.1,by omega⟩,wor_hi hr hw2]
    have hx2:wm .u64 g (wc .u64 v2)=g*v2:=by
      rw [wc_u64_in (x:=v2) ⟨hv2.1,by omega⟩]
      have h1:=Int.mul_nonneg (show 0≤g by omega) hv2.1
      have h2:g*v2≤4294967295*4294967295:=Int.mul_le_mul (by omega) (by omega) hv2.1 (by omega)
      exact wm_u64 ⟨h1,by omega⟩
    rw [hx1,hx2,ret_if]
    refine ⟨fun hc=>?_,fun hc=>?_⟩
    · rw [obs]
      exact down (hK.gt hg (by omega) (by simpa using hc))
    · have hc:¬ r*B+w2 < g*v2:=by simpa using hc
      exact ⟨_,rfl,hQg,hK.le hg (by omega) (by omega) (by omega),by omega⟩
theorem msub_ok {g:Int} (hg:0≤g∧g < B) (hW:LW W) (hv:LW v) (hl:W.length=v.length+1) (hm:v.length≤10000) (hlo:lo=(A.length:Int)) (hhi:hi=(A.length:Int)+W.length):
    Ret (loop (integer_digit_l18 v lo hi g) (A++W++Z,0,0,0)) (fun r=>∃ X c b,r=(A++X++Z,c,b)∧LW X∧X.length=W.length∧X.drop v.length=W.drop v.length∧(0≤c∧c < B)∧(b=0∨b=1)∧lv (X.take v.length)=lv (W.take v.length) - g*lv v+pw v.length*(c+b)):=by
  have e:B=4294967296:=rfl
  refine (ret_loop (Post:=fun r:List Int×Int×Int=>∃ X c b,r=(A++X++Z,c,b)∧LW X∧X.length=W.length∧X.drop v.length=W.drop v.length∧(0≤c∧c < B)∧(b=0∨b=1)∧lv (X.take v.length)=lv (W.take v.length) - g*lv v+pw v.length*(c+b)) v.length (fun k (s:List Int×Int×Int×Int)=>∃ X c b,s=(A++X++Z,c,b,(k:Int))∧LW X∧X.length=W.length∧X.drop k=W.drop k∧(0≤c∧c < B)∧(b=0∨b=1)∧lv (X.take k)=lv (W.take k) - g*lv (v.take k)+pw k*(c+b)) ⟨W,0,0,rfl,hW,rfl,rfl,⟨by omega,by omega⟩,.inl rfl,by simp [lv]⟩ ?_ (by omega))
  rintro k _ hk ⟨X,c,b,rfl,x1,x2,x3,x4,x5,x6⟩
  unfold integer_digit_l18
  simp only
  rw [ret_if]
  refine ⟨fun hlt=>?_,fun hge=>⟨_,rfl,X,c,b,rfl,x1,x2,by have ek:k=v.length:=(by omega); subst ek; exact x3,x4,x5,by have ek:k=v.length:=(by omega); subst ek; rw [List.take_length] at x6; exact x6⟩⟩
  obtain ⟨y,hy⟩:=get_of (l:=v) (k:=k) (by omega)
  obtain ⟨z,hz⟩:=get_of (l:=W) (k:=k) (by omega)
  have hzX:X[k]?=some z:=(drop_get x3).trans hz
  have hyB:=LW.get hv hy
  have hzB:=LW.get hW hz
  have hhi':hi=(A.length:Int)+X.length:=by rw [x2]; exact hhi
  have p0:=Int.mul_nonneg hg.1 hyB.1
  have p1:g*y≤4294967295*4294967295:=Int.mul_le_mul (by omega) (by omega) hyB.1 (by omega)
  have ep:wa .u64 (wm .u64 g (wc .u64 y)) c=g*y+c:=by
    rw [wc_u64_in (x:=y) ⟨hyB.1,by omega⟩,wm_u64 ⟨p0,by omega⟩,wa_u64 ⟨by omega,by omega⟩]
  have hm1:=Int.emod_nonneg (g*y+c) (show B≠0 by omega)
  have hm2:=Int.emod_lt_of_pos (g*y+c) (show 0 < B by omega)
  have hdm:=Int.mul_ediv_add_emod (g*y+c) B
  have d0:0≤(g*y+c) / B:=Int.ediv_nonneg (by omega) (by omega)
  have d1:(g*y+c) / B < B:=Int.ediv_lt_of_lt_mul (by omega) (by rw [e]; omega)
  obtain ⟨k1,k2,k3,k4⟩:=low_borrow (v:=z - (g*y+c) % B - b) (by omega) (by omega)
  have et:ws .u64 (ws .u64 (wc .u64 z) (wand .u64 (g*y+c) 4294967295)) b=(z - (g*y+c) % B - b) % 18446744073709551616:=by
    rw [wc_u64_in (x:=z) ⟨hzB.1,by omega⟩,wand_low ⟨by omega,by omega⟩,ws_u64,ws_u64]; omega
  rw [ret_at hy rfl,obs,win_at hzX hlo hhi' rfl,obs,ep,et]
  generalize ht:(z - (g*y+c) % B - b) % 18446744073709551616=t at*
  have hmm:=Int.emod_nonneg t (show B≠0 by omega)
  have hmm2:=Int.emod_lt_of_pos t (show 0 < B by omega)
  have hd0:0≤t / B:=Int.ediv_nonneg k3 (by omega)
  have hd1:t / B < 18446744073709551616:=Int.ediv_lt_of_lt_mul (by omega) (by omega)
  rw [wand_low ⟨k3,k4⟩,wsrc32 k3,wand_one ⟨hd0,hd1⟩,wc_u32_in ⟨hmm,hmm2⟩,wsrc32 (by omega),k2,win_set (k:=k) (by omega) hlo hhi' rfl,obs]
  have hkX:k < X.length:=by omega
  refine ⟨_,rfl,by omega,X.set k (t % B),(g*y+c) / B,_,by rw [wa_i (by omega) (by omega)]; rfl,lw_set x1 ⟨hmm,hmm2⟩,by rw [List.length_set,x2],set_drop x3,⟨d0,d1⟩,by split<;>omega,?_⟩
  rw [set_take hkX,x6,k1,take_succ hz,take_succ hy]
  simp only [pw]
  generalize (if z - (g*y+c) % B - b < 0 then (1:Int) else 0)=β
  generalize (g*y+c) / B=q at*
  generalize (g*y+c) % B=r at*
  have:g*y=B*q+r - c:=by omega
  have e5:g*(lv (v.take k)+pw k*y)=g*lv (v.take k)+pw k*(g*y):=by grind
  rw [e5,this]
  grind
theorem madd_ok (hW:LW W) (hv:LW v) (hl:W.length=v.length+1) (hm:v.length≤10000) (hlo:lo=(A.length:Int)) (hhi:hi=(A.length:Int)+W.length):
    Ret (loop (integer_digit_l19 v lo hi) (A++W++Z,0,0)) (fun r=>∃ X c,r=(A++X++Z,c)∧LW X∧X.length=W.length∧X.drop v.length=W.drop v.length∧(c=0∨c=1)∧lv (X.take v.length)+pw v.length*c=lv (W.take v.length)+lv v):=by
  have e:B=4294967296:=rfl
  refine (ret_loop (Post:=fun r:List Int×Int=>∃ X c,r=(A++X++Z,c)∧LW X∧X.length=W.length∧X.drop v.length=W.drop v.length∧(c=0∨c=1)∧lv (X.take v.length)+pw v.length*c=lv (W.take v.length)+lv v) v.length (fun k (s:List Int×Int×Int)=>∃ X c,s=(A++X++Z,c,(k:Int))∧LW X∧X.length=W.length∧X.drop k=W.drop k∧(c=0∨c=1)∧lv (X.take k)+pw k*c=lv (W.take k)+lv (v.take k)) ⟨W,0,rfl,hW,rfl,rfl,.inl rfl,by simp [lv]⟩ ?_ (by omega))
  rintro k _ hk ⟨X,c,rfl,x1,x2,x3,x4,x6⟩
  unfold integer_digit_l19
  simp only
  rw [ret_if]
  refine ⟨fun hlt=>?_,fun hge=>⟨_,rfl,X,c,rfl,x1,x2,by have ek:k=v.length:=(by omega); subst ek; exact x3,x4,by have ek:k=v.length:=(by omega); subst ek; rw [List.take_length] at x6; exact x6⟩⟩
  obtain ⟨y,hy⟩:=get_of (l:=v) (k:=k) (by omega)
  obtain ⟨z,hz⟩:=get_of (l:=W) (k:=k) (by omega)
  have hzX:X[k]?=some z:=(drop_get x3).trans hz
  have hyB:=LW.get hv hy
  have hzB:=LW.get hW hz
  have hhi':hi=(A.length:Int)+X.length:=by rw [x2]; exact hhi
  have ep:wa .u64 (wa .u64 (wc .u64 z) (wc .u64 y)) c=z+y+c:=by
    rw [wc_u64_in (x:=y) ⟨hyB.1,by omega⟩,wc_u64_in (x:=z) ⟨hzB.1,by omega⟩,wa_u64 (x:=z) (y:=y) ⟨by omega,by omega⟩,wa_u64 ⟨by omega,by omega⟩]
  have hmm:=Int.emod_nonneg (z+y+c) (show B≠0 by omega)
  have hmm2:=Int.emod_lt_of_pos (z+y+c) (show 0 < B by omega)
  have hdm:=Int.mul_ediv_add_emod (z+y+c) B
  have d0:0≤(z+y+c) / B:=Int.ediv_nonneg (by omega) (by omega)
  have d1:(z+y+c) / B < 2:=Int.ediv_lt_of_lt_mul (by omega) (by omega)
  rw [ret_at hy rfl,obs,win_at hzX hlo hhi' rfl,obs,ep,wand_low ⟨by omega,by omega⟩,wsrc32 (by omega),wc_u32_in ⟨hmm,hmm2⟩,win_set (k:=k) (by omega) hlo hhi' rfl,obs]
  have hkX:k < X.length:=by omega
  refine ⟨_,rfl,by omega,X.set k ((z+y+c) % B),(z+y+c) / B,by rw [wa_i (by omega) (by omega)]; rfl,lw_set x1 ⟨hmm,hmm2⟩,by rw [List.length_set,x2],set_drop x3,by omega,?_⟩
  rw [set_take hkX,take_succ hz,take_succ hy]
  simp only [pw]
  generalize (z+y+c) / B=q at*
  generalize (z+y+c) % B=r at*
  have e3:pw k*(B*q+r)=pw k*(z+y+c):=by rw [hdm]
  have e4:B*pw k*q=pw k*(B*q):=by grind
  rw [Int.mul_add] at e3
  have e5:pw k*(z+y+c)=pw k*z+pw k*y+pw k*c:=by grind
  omega
theorem digit_ok (hW:LW W) (hv:LW v) {m:Nat} (hvl:v.length=m+2) (hl:W.length=m+3) (hm:m≤9000) (hA:A.length≤10000) (htop:∀ x,v[m+1]?=some x→2147483648≤x) (hlt:lv W < lv v*B) (hlo:lo=(A.length:Int)) (hhi:hi=(A.length:Int)+W.length):
    ∃ X,integer_digit (A++W++Z) lo hi v=some (A++X++Z,lv W / lv v)∧LW X∧X.length=W.length∧lv X=lv W % lv v:=by
  have e:B=4294967296:=rfl
  obtain ⟨v2,g2⟩:=get_of (l:=v) (k:=m) (by omega)
  obtain ⟨vt,gt⟩:=get_of (l:=v) (k:=m+1) (by omega)
  obtain ⟨w2,k2⟩:=get_of (l:=W) (k:=m) (by omega)
  obtain ⟨w1,k1⟩:=get_of (l:=W) (k:=m+1) (by omega)
  obtain ⟨wt,kt⟩:=get_of (l:=W) (k:=m+2) (by omega)
  have b2:=LW.get hv g2
  have bt:=LW.get hv gt
  have c2:=LW.get hW k2
  have c1:=LW.get hW k1
  have ct:=LW.get hW kt
  have hvt:=htop vt gt
  have hV:lv v=(vt*B+v2)*pw m+lv (v.take m):=by
    rw [take_drop v (show m≤v.length by omega),lv_drop g2,lv_drop gt,List.drop_of_length_le (by omega)]
    simp only [lv]; grind
  have hU:lv W=((wt*B+w1)*B+w2)*pw m+lv (W.take m):=by
    rw [take_drop W (show m≤W.length by omega),lv_drop k2,lv_drop k1,lv_drop kt,List.drop_of_length_le (by omega)]
    simp only [lv]; grind
  have tv:=take_lt hv (i:=m) (by omega)
  have tw:=take_lt hW (i:=m) (by omega)
  have hVpos:0 < lv v:=by
    have h1:0 < (vt*B+v2)*pw m:=Int.mul_pos (by have:=Int.mul_pos (show 0 < vt by omega) (show 0 < B by omega); omega) (pw_pos m)
    omega
  have hK:KD (lv W) (lv v) (pw m) (lv (W.take m)) (lv (v.take m)) w1 w2 wt v2 vt (lv W / lv v):=⟨pw_pos m,hV,tv,b2,⟨hvt,bt.2⟩,hU,tw,c2,c1,ct,hlt,Qt.ediv hVpos⟩
  have hQ0:=hK.q0
  have hQB:=hK.qB
  have hUdm:=Int.mul_ediv_add_emod (lv W) (lv v)
  have hR0:=Int.emod_nonneg (lv W) (show lv v≠0 by omega)
  have hR1:=Int.emod_lt_of_pos (lv W) hVpos
  have hvlt:=lv_lt hv
  have hp2:pw (m+3)=B*pw (m+2):=rfl
  have hpos2:=pw_pos (m+2)
  have hvn:v.length=m+2:=hvl
  refine (?_:Ret (integer_digit (A++W++Z) lo hi v) (fun r=>∃ X,r=(A++X++Z,lv W / lv v)∧LW X∧X.length=W.length∧lv X=lv W % lv v)).elim fun r hr=>?_
  · unfold integer_digit
    have hn1:ws .i64 (v.length:Int) 1=((m+1:Nat):Int):=by rw [hvl,ws_i (by omega) (by omega)]; omega
    have hnn:(v.length:Int)=((m+2:Nat):Int):=by rw [hvl]
    rw [hn1,hnn,win_at kt hlo hhi rfl,obs,win_at k1 hlo hhi rfl,obs,ret_at gt rfl,obs]
    have et:wor .u64 (wslc .u64 (wc .u64 wt) 32) (wc .u64 w1)=wt*B+w1:=by
      rw [wc_u64_in (x:=wt) ⟨ct.1,by omega⟩,wc_u64_in (x:=w1) ⟨c1.1,by omega⟩,wslc32 ct,wor_hi ct c1]
    have t0:0≤wt*B+w1:=by have:=Int.mul_nonneg ct.1 (show 0≤B by omega); omega
    have t1:wt*B+w1 < 18446744073709551616:=by rw [e]; omega
    have hcv:wc .u64 vt=vt:=wc_u64_in ⟨by omega,by omega⟩
    have hwq:wq .u64 (wt*B+w1) vt=some ((wt*B+w1) / vt):=by
      unfold wq
      have h0:0≤(wt*B+w1) / vt:=Int.ediv_nonneg t0 (by omega)
      have h1:(wt*B+w1) / vt≤wt*B+w1:=Int.ediv_le_self _ t0
      rw [if_neg (by omega),Int.tdiv_eq_ediv_of_nonneg t0,IntWalk.u64_in _ ⟨h0,by omega⟩]
    have hwr:wr (wt*B+w1) vt=some ((wt*B+w1) % vt):=by
      unfold wr
      rw [if_neg (by omega),Int.tmod_eq_emod_of_nonneg t0]
    rw [et,hcv,hwq,obs,obs,hcv,hwr,obs,ret_bind]
    refine (guess_ok hK hvl (by omega) g2 gt k2 hlo hhi).mono ?_
    rintro g ⟨gQ,gQ1,gB⟩
    rw [ret_bind]
    refine (msub_ok (Z:=Z) ⟨by omega,gB⟩ hW hv (by omega) (by omega) hlo hhi).mono ?_
    rintro _ ⟨X,c,b,rfl,x1,x2,x3,x4,x5,x6⟩
    simp only
    have hXt:X[m+2]?=some wt:=by rw [← kt]; rw [hvl] at x3; exact drop_get x3
    have hhi':hi=(A.length:Int)+X.length:=by rw [x2]; exact hhi
    rw [win_at hXt hlo hhi' rfl,obs]
    obtain ⟨q1,q2,q3,q4⟩:=low_borrow (v:=wt - c - b) (by omega) (by omega)
    have et2:ws .u64 (ws .u64 (wc .u64 wt) c) b=(wt - c - b) % 18446744073709551616:=by
      rw [wc_u64_in (x:=wt) ⟨ct.1,by omega⟩,ws_u64,ws_u64]; omega
    rw [et2]
    generalize ht:(wt - c - b) % 18446744073709551616=t at*
    have hmm:=Int.emod_nonneg t (show B≠0 by omega)
    have hmm2:=Int.emod_lt_of_pos t (show 0 < B by omega)
    have hd0:0≤t / B:=Int.ediv_nonneg q3 (by omega)
    have hd1:t / B < 18446744073709551616:=Int.ediv_lt_of_lt_mul (by omega) (by omega)
    rw [wand_low ⟨q3,q4⟩,wsrc32 q3,wand_one ⟨hd0,hd1⟩,wc_u32_in ⟨hmm,hmm2⟩,q2,win_set (k:=m+2) (by omega) hlo hhi' rfl,obs]
    have hYlw:LW (X.set (m+2) (t % B)):=lw_set x1 ⟨hmm,hmm2⟩
    have hYlen:(X.set (m+2) (t % B)).length=W.length:=by rw [List.length_set,x2]
    have hYlt:=lv_lt hYlw
    have hYnn:=lv_nn hYlw
    have hWall:lv W=lv (W.take (m+2))+pw (m+2)*wt:=by rw [← take_succ kt,take_all (by omega)]
    have hY:lv (X.set (m+2) (t % B))=lv W - g*lv v+pw (m+3)*(if wt - c - b < 0 then 1 else 0):=by
      have h1:lv (X.set (m+2) (t % B))=lv ((X.set (m+2) (t % B)).take (m+2+1)):=by rw [take_all (by rw [hYlen]; omega)]
      rw [h1,set_take (by omega),q1]
      rw [hvl] at x6
      rw [x6,hWall,hp2]
      generalize (if wt - c - b < 0 then (1:Int) else 0)=β
      grind
    rw [hYlen,hl] at hYlt
    have hUg:lv W - g*lv v=lv W % lv v+(lv W / lv v - g)*lv v:=by
      have:(lv W / lv v - g)*lv v=lv v*(lv W / lv v) - g*lv v:=by grind
      omega
    rw [hvl] at hvlt
    rw [ret_if]
    refine ⟨fun hb=>?_,fun hb=>?_⟩
    · have hβ:(if wt - c - b < 0 then (1:Int) else 0)=0:=hb
      rw [hβ,Int.mul_zero,Int.add_zero,hUg] at hY
      have hgq:g=lv W / lv v:=by
        refine Classical.byContradiction fun hc=>?_
        have:lv W / lv v - g= -1:=by omega
        rw [this] at hY; omega
      subst hgq
      rw [Int.sub_self,Int.zero_mul,Int.add_zero] at hY
      rw [wc_u32_in ⟨hQ0,hQB⟩]
      exact ⟨_,rfl,_,rfl,hYlw,hYlen,hY⟩
    · have hβ:(if wt - c - b < 0 then (1:Int) else 0)=1:=by revert hb; split<;>simp
      rw [hβ,Int.mul_one,hUg] at hY
      have hgq:g=lv W / lv v+1:=by
        refine Classical.byContradiction fun hc=>?_
        have:lv W / lv v - g=0:=by omega
        rw [this] at hY; omega
      have hgq2:lv W / lv v - g= -1:=by omega
      rw [hgq2] at hY
      rw [ret_bind]
      have hhi2:hi=(A.length:Int)+(X.set (m+2) (t % B)).length:=by rw [hYlen]; exact hhi
      refine (madd_ok (Z:=Z) hYlw hv (by omega) (by omega) hlo hhi2).mono ?_
      rintro _ ⟨Y,c',rfl,y1,y2,y3,y4,y5⟩
      simp only
      have hYt:Y[m+2]?=some (t % B):=by
        rw [hvl] at y3
        rw [drop_get y3,List.getElem?_set_self (by omega)]
      have hhi3:hi=(A.length:Int)+Y.length:=by rw [y2]; exact hhi2
      rw [win_at hYt hlo hhi3 rfl,obs,wc_u32_in (x:=c') ⟨by omega,by omega⟩,wa_u32,win_set (k:=m+2) (by omega) hlo hhi3 rfl,obs]
      have hwg:wc .u32 (ws .u64 g 1)=lv W / lv v:=by
        rw [ws_u64,wc_u32_in ⟨by omega,by omega⟩]; omega
      rw [hwg]
      have hz0:=Int.emod_nonneg (t % B+c') (show B≠0 by omega)
      have hz1:=Int.emod_lt_of_pos (t % B+c') (show 0 < B by omega)
      have hzd:=Int.mul_ediv_add_emod (t % B+c') B
      have hFlw:LW (Y.set (m+2) ((t % B+c') % B)):=lw_set y1 ⟨hz0,hz1⟩
      have hFlen:(Y.set (m+2) ((t % B+c') % B)).length=W.length:=by rw [List.length_set,y2,hYlen]
      refine ⟨_,rfl,_,rfl,hFlw,hFlen,?_⟩
      have hFlt:=lv_lt hFlw
      have hFnn:=lv_nn hFlw
      rw [hFlen,hl] at hFlt
      have hF:lv (Y.set (m+2) ((t % B+c') % B))=lv W % lv v+pw (m+3)*(1 - (t % B+c') / B):=by
        have h1:lv (Y.set (m+2) ((t % B+c') % B))=lv ((Y.set (m+2) ((t % B+c') % B)).take (m+2+1)):=by rw [take_all (by rw [hFlen]; omega)]
        have h2:lv (X.set (m+2) (t % B))=lv ((X.set (m+2) (t % B)).take (m+2))+pw (m+2)*(t % B):=by
          have h3:(X.set (m+2) (t % B))[m+2]?=some (t % B):=by rw [List.getElem?_set_self (by omega)]
          rw [← take_succ h3,take_all (by rw [hYlen]; omega)]
        rw [hvl] at y5
        rw [h1,set_take (by omega),hp2]
        generalize (t % B+c') / B=k at*
        generalize (t % B+c') % B=r at*
        have e3:pw (m+2)*(B*k+r)=pw (m+2)*(t % B+c'):=by rw [hzd]
        rw [Int.mul_add,Int.mul_add] at e3
        have e4:B*pw (m+2)*(1 - k)=B*pw (m+2) - pw (m+2)*(B*k):=by grind
        omega
      have hk:(t % B+c') / B=1:=by
        have k0:0≤(t % B+c') / B:=Int.ediv_nonneg (by omega) (by omega)
        have k1:(t % B+c') / B < 2:=Int.ediv_lt_of_lt_mul (by omega) (by omega)
        refine Classical.byContradiction fun hc=>?_
        have:(t % B+c') / B=0:=by omega
        rw [this] at hF
        omega
      rw [hk] at hF
      rw [hF]; omega
  · obtain ⟨h1,X,rfl,h2⟩:=hr
    exact ⟨X,h1,h2⟩
end
end Km
namespace Km
open Sx Go M Vc Lm
theorem norm_top {b:List Int} (hb:LW b) {m:Nat} (hl:b.length=m+2) {bt:Int} (gt:b[m+1]?=some bt) {s:Nat} (hs:s < 32) (h1:bt*2 ^ s < B) (h2:B≤2*(bt*2 ^ s)):
    lv b*2 ^ s < pw (m+2)∧2147483648*pw (m+1)≤lv b*2 ^ s:=by
  have e:B=4294967296:=rfl
  obtain ⟨p1,p2,p3,p4⟩:=two_pow hs
  have hbt:=LW.get hb gt
  have hV:lv b=lv (b.take (m+1))+pw (m+1)*bt:=by rw [← take_succ gt,take_all (by omega)]
  have ht:=take_lt hb (i:=m+1) (by omega)
  have hp:=pw_pos (m+1)
  have hbt2:bt < 2 ^ (32 - s):=by
    refine Classical.byContradiction fun hc=>?_
    have:2 ^ (32 - s)*2 ^ s≤bt*2 ^ s:=Int.mul_le_mul_of_nonneg_right (by omega) (by omega)
    rw [Int.mul_comm] at this; omega
  have h3:(bt+1)*2 ^ s≤B:=by
    have:(bt+1)*2 ^ s≤2 ^ (32 - s)*2 ^ s:=Int.mul_le_mul_of_nonneg_right (by omega) (by omega)
    rw [Int.mul_comm (2 ^ (32 - s))] at this; omega
  constructor
  · have h4:lv b*2 ^ s < (pw (m+1)*(bt+1))*2 ^ s:=Int.mul_lt_mul_of_pos_right (by rw [Int.mul_add]; omega) p1
    have h5:pw (m+1)*((bt+1)*2 ^ s)≤pw (m+1)*B:=Int.mul_le_mul_of_nonneg_left h3 (by omega)
    have h6:pw (m+2)=B*pw (m+1):=rfl
    rw [Int.mul_assoc] at h4
    rw [h6,Int.mul_comm B]; omega
  · have h4:pw (m+1)*bt*2 ^ s≤lv b*2 ^ s:=Int.mul_le_mul_of_nonneg_right (by omega) (by omega)
    have h5:pw (m+1)*2147483648≤pw (m+1)*(bt*2 ^ s):=Int.mul_le_mul_of_nonneg_left (by omega) (by omega)
    rw [Int.mul_assoc] at h4
    rw [Int.mul_comm 2147483648]; omega
theorem top_ge {v:List Int} (hv:LW v) {m:Nat} (hl:v.length=m+2) (h:2147483648*pw (m+1)≤lv v):∀ x,v[m+1]?=some x→2147483648≤x:=by
  intro x hx
  refine Classical.byContradiction fun hc=>?_
  have hV:lv v=lv (v.take (m+1))+pw (m+1)*x:=by rw [← take_succ hx,take_all (by omega)]
  have ht:=take_lt hv (i:=m+1) (by omega)
  have h4:pw (m+1)*(x+1)≤pw (m+1)*2147483648:=Int.mul_le_mul_of_nonneg_left (by omega) (by have:=pw_pos (m+1); omega)
  rw [Int.mul_add,Int.mul_comm (pw (m+1)) 2147483648] at h4
  omega
theorem tm_eq {v:List Int} (hv:LW v) (tv:Tm v) {m:Nat} (h1:lv v < pw (m+2)) (h2:pw (m+1)≤lv v):v.length=m+2:=by
  have h3:=len_le hv tv h1
  refine Classical.byContradiction fun hc=>?_
  have h4:=lt_pw hv (m:=m+1) (by omega)
  omega
theorem divL_ok {u0 v:List Int} {K m:Nat} (hu:LW u0) (hv:LW v) (hvl:v.length=m+2) (hul:u0.length=K+m+2) (hK:K+m≤5000) (htop:∀ x,v[m+1]?=some x→2147483648≤x) (h0:lv (u0.drop K) < lv v):
    Ret (loop (integer_divide_l1 v) (List.replicate K 0,u0,(K:Int) - 1)) (fun r=>LW r.1∧r.1.length=K∧LW r.2∧r.2.length=u0.length∧lv u0=lv r.1*lv v+lv r.2∧lv r.2 < lv v):=by
  have e:B=4294967296:=rfl
  refine (ret_loop (Post:=fun r:List Int×List Int=>LW r.1∧r.1.length=K∧LW r.2∧r.2.length=u0.length∧lv u0=lv r.1*lv v+lv r.2∧lv r.2 < lv v) K (fun k (s:List Int×List Int×Int)=>s.2.2=(K:Int) - 1 - k∧k≤K∧LW s.1∧s.1.length=K∧LW s.2.1∧s.2.1.length=u0.length∧s.2.1.take (K - k)=u0.take (K - k)∧lv (u0.drop (K - k))=lv (s.1.drop (K - k))*lv v+lv (s.2.1.drop (K - k))∧lv (s.2.1.drop (K - k)) < lv v) ⟨by show (K:Int) - 1=_; omega,by omega,lw_zeros K,List.length_replicate ..,hu,rfl,rfl,by show lv (u0.drop (K - 0))=lv ((List.replicate K (0:Int)).drop (K - 0))*lv v+lv (u0.drop (K - 0)); rw [Nat.sub_zero,List.drop_replicate,Nat.sub_self]; simp [lv],h0⟩ ?_ (by omega))
  rintro k ⟨q,u,_⟩ hk ⟨rfl,hkK,q1,q2,u1,u2,u3,u4,u5⟩
  simp only at q1 q2 u1 u2 u3 u4 u5
  unfold integer_divide_l1
  simp only
  rw [ret_if]
  refine ⟨fun hge=>?_,fun hlt=>⟨_,rfl,q1,q2,u1,u2,?_,?_⟩⟩
  · obtain ⟨J,hJ⟩:∃ J:Nat,K=J+(k+1):=⟨K - (k+1),by omega⟩
    have e1:(K:Int) - 1 - (k:Int)=(J:Int):=by omega
    have e2:K - k=J+1:=by omega
    have e3:K - (k+1)=J:=by omega
    rw [e2] at u3 u4 u5
    have hw:wa .i64 (wa .i64 (J:Int) (v.length:Int)) 1=(J:Int)+(m+3:Nat):=by
      rw [hvl,wa_i (x:=(J:Int)) (by omega) (by omega),wa_i (by omega) (by omega)]; omega
    obtain ⟨x,hx⟩:=get_of (l:=u) (k:=J) (by omega)
    have hxB:=LW.get u1 hx
    have hxu0:u0[J]?=some x:=by
      have h1:(u.take (J+1))[J]?=u[J]?:=by rw [List.getElem?_take,if_pos (by omega)]
      have h2:(u0.take (J+1))[J]?=u0[J]?:=by rw [List.getElem?_take,if_pos (by omega)]
      rw [← h2,← u3,h1]; exact hx
    have hD:=lv_drop hx
    have hD0:=lv_drop hxu0
    have hvlt:=lv_lt hv
    rw [hvl] at hvlt
    have hn5:=lv_nn (LW.drop u1 (J+1))
    have hsplit:u=u.take J++(u.drop J).take (m+3)++u.drop (J+(m+3)):=by
      rw [List.append_assoc]
      have h1:(u.drop J).take (m+3)++u.drop (J+(m+3))=u.drop J:=by rw [← List.drop_drop,List.take_append_drop]
      rw [h1,List.take_append_drop]
    have hAl:(u.take J).length=J:=by rw [List.length_take]; omega
    have hWl:((u.drop J).take (m+3)).length=m+3:=by rw [List.length_take,List.length_drop]; omega
    have hWlw:LW ((u.drop J).take (m+3)):=LW.take (LW.drop u1 J) _
    have hZlw:LW (u.drop (J+(m+3))):=LW.drop u1 _
    have hDW:lv (u.drop J)=lv ((u.drop J).take (m+3))+pw (m+3)*lv (u.drop (J+(m+3))):=by
      rw [take_drop (u.drop J) (k:=m+3) (by rw [List.length_drop]; omega),List.drop_drop]
    have hDlt:lv (u.drop J) < lv v*B:=by
      have:B*(lv (u.drop (J+1))+1)≤B*lv v:=Int.mul_le_mul_of_nonneg_left (by omega) (by omega)
      rw [Int.mul_add,Int.mul_one] at this
      rw [Int.mul_comm (lv v)]; omega
    have hWnn:=lv_nn hWlw
    have hZnn:=lv_nn hZlw
    have hp3:pw (m+3)=B*pw (m+2):=rfl
    have hVB:lv v*B≤pw (m+3):=by
      rw [hp3,Int.mul_comm B]; exact Int.mul_le_mul_of_nonneg_right (by omega) (by omega)
    have hZ0:lv (u.drop (J+(m+3)))=0:=by
      refine Classical.byContradiction fun hc=>?_
      have:pw (m+3)*1≤pw (m+3)*lv (u.drop (J+(m+3))):=Int.mul_le_mul_of_nonneg_left (by omega) (by have:=pw_pos (m+3); omega)
      omega
    rw [hZ0,Int.mul_zero,Int.add_zero] at hDW
    obtain ⟨X,hX,x1,x2,x3⟩:=digit_ok (A:=u.take J) (W:=(u.drop J).take (m+3)) (Z:=u.drop (J+(m+3))) (lo:=(J:Int)) (hi:=(J:Int)+(m+3:Nat)) hWlw hv hvl hWl (by omega) (by omega) htop (by rw [← hDW]; exact hDlt) (by rw [hAl]) (by rw [hAl,hWl])
    rw [← hsplit,← hDW] at hX
    rw [← hDW] at x3
    have hVpos:0 < lv v:=by omega
    have hd0:0≤lv (u.drop J) / lv v:=Int.ediv_nonneg (by omega) (by omega)
    have hd1:lv (u.drop J) / lv v < B:=Int.ediv_lt_of_lt_mul hVpos (by rw [Int.mul_comm]; exact hDlt)
    have hdm:=Int.mul_ediv_add_emod (lv (u.drop J)) (lv v)
    have hr0:=Int.emod_nonneg (lv (u.drop J)) (show lv v≠0 by omega)
    have hr1:=Int.emod_lt_of_pos (lv (u.drop J)) hVpos
    rw [e1,hw,ret_bind,ret_sli]
    refine ⟨by omega,by omega,by omega,?_⟩
    rw [hX,obs,ret_bind,ret_set,Int.toNat_natCast]
    have hUl:(u.take J++X++u.drop (J+(m+3))).length=u0.length:=by
      rw [List.length_append,List.length_append,hAl,x2,hWl,List.length_drop]; omega
    have hUd:lv ((u.take J++X++u.drop (J+(m+3))).drop J)=lv X:=by
      rw [List.append_assoc,List.drop_left' hAl,lv_app,hZ0]; omega
    refine ⟨by omega,by omega,_,rfl,by omega,?_,by omega,lw_set q1 ⟨hd0,hd1⟩,by show (q.set J _).length=K; rw [List.length_set,q2],LW.app.2 ⟨LW.app.2 ⟨LW.take u1 _,x1⟩,hZlw⟩,hUl,?_,?_,?_⟩
    · show ws .i64 (J:Int) 1=_; rw [ws_i (by omega) (by omega)]; omega
    · rw [e3]
      show (u.take J++X++u.drop (J+(m+3))).take J=_
      rw [List.append_assoc,List.take_left' hAl]
      have h1:u.take J=(u.take (J+1)).take J:=by rw [List.take_take,Nat.min_eq_left (by omega)]
      rw [h1,u3,List.take_take,Nat.min_eq_left (by omega)]
    · rw [e3]
      show lv (u0.drop J)=lv ((q.set J (lv (u.drop J) / lv v)).drop J)*lv v+lv ((u.take J++X++u.drop (J+(m+3))).drop J)
      have hqJ:(q.set J (lv (u.drop J) / lv v))[J]?=some (lv (u.drop J) / lv v):=by rw [List.getElem?_set_self]; omega
      rw [hUd,x3,lv_drop hqJ,List.drop_set_of_lt (by omega),hD0,u4]
      generalize lv (u.drop J) / lv v=Q at*
      generalize lv (u.drop J) % lv v=R at*
      have h9:(Q+B*lv (q.drop (J+1)))*lv v=lv v*Q+B*(lv (q.drop (J+1))*lv v):=by grind
      rw [h9,Int.mul_add]
      omega
    · rw [e3]
      show lv ((u.take J++X++u.drop (J+(m+3))).drop J) < lv v
      rw [hUd,x3]; exact hr1
  · have ek:K - k=0:=by omega
    rw [ek] at u4
    exact u4
  · have ek:K - k=0:=by omega
    rw [ek] at u5
    exact u5
theorem divide_ok {a b:List Int} (ha:LW a) (hb:LW b) (ta:Tm a) (tb:Tm b) (hne:b≠[]) (hn:a.length≤900) (hm:b.length≤900):∃ q r,integer_divide a b=some (q,r)∧LW q∧Tm q∧LW r∧Tm r∧lv q=lv a / lv b∧lv r=lv a % lv b:=by
  have e:B=4294967296:=rfl
  have hbl:0 < b.length:=List.length_pos_iff.2 hne
  have hbpos:0 < lv b:=by
    have h1:=tm_lower hb tb hne
    have:=pw_pos (b.length - 1)
    omega
  by_cases h1:b.length=1
  · obtain ⟨p,rfl⟩:∃ p,b=[p]:=by
      match b,h1 with
      | [p],_=>exact ⟨p,rfl⟩
    have hp:=LW.one.1 hb
    have lp:lv [p]=p:=by simp [lv]
    rw [lp] at hbpos ⊢
    obtain ⟨q,r,h,q1,q2,r1,r2,q3,r3,_⟩:=divide1_ok ha ta (by omega) hbpos hp.2
    exact ⟨q,r,h,q1,q2,r1,r2,q3,r3⟩
  have h0:=lv_nn ha
  by_cases hlt:lv a < lv b
  · refine ⟨[],a,?_,by intro x hx; simp at hx,tm_nil,ha,ta,by rw [Int.ediv_eq_zero_of_lt h0 hlt]; rfl,by rw [Int.emod_eq_of_lt h0 hlt]⟩
    unfold integer_divide
    rw [compare_ok ha hb ta tb (by omega) (by omega),obs,if_pos hlt,if_pos (by omega),clone_ok (by omega),obs]
  obtain ⟨m,hbm⟩:∃ m,b.length=m+2:=⟨b.length - 2,by omega⟩
  have hab:b.length≤a.length:=by
    refine Classical.byContradiction fun hc=>?_
    have:=tm_len ha hb ta tb (by omega)
    omega
  obtain ⟨bt,gt⟩:=get_of (l:=b) (k:=m+1) (by omega)
  have hbt:=LW.get hb gt
  have hbt0:0 < bt:=by
    have:=tb bt (by rw [List.getLast?_eq_getElem?,hbm]; exact gt)
    omega
  obtain ⟨s,hs,hs32,hs1,hs2⟩:=lead_ok hbt0 hbt.2
  obtain ⟨p1,p2,p3,p4⟩:=two_pow hs32
  obtain ⟨t1,t2⟩:=norm_top hb hbm gt hs32 hs1 hs2
  have hpm:=pw_pos (m+1)
  refine (?_:Ret (integer_divide a b) (fun r=>LW r.1∧Tm r.1∧LW r.2∧Tm r.2∧lv r.1=lv a / lv b∧lv r.2=lv a % lv b)).elim fun r hr=>⟨r.1,r.2,hr.1,hr.2⟩
  unfold integer_divide
  have hcmp:¬ (if lv a < lv b then (-1:Int) else if lv b < lv a then 1 else 0) < 0:=by rw [if_neg hlt]; split<;>omega
  have hn1:ws .i64 (b.length:Int) 1=((m+1:Nat):Int):=by rw [hbm,ws_i (by omega) (by omega)]; omega
  rw [compare_ok ha hb ta tb (by omega) (by omega),obs,if_neg hcmp,if_neg (by omega),hn1,ret_at gt rfl,obs,hs,obs,ret_bind]
  refine (up_ok hb (by omega) hne hs32).mono ?_
  rintro v ⟨v1,v2,v3⟩
  have hvl:=tm_eq v1 v2 (m:=m) (by rw [v3]; exact t1) (by rw [v3]; omega)
  have htop:=top_ge v1 hvl (by rw [v3]; exact t2)
  rw [wa_i (by omega) (by omega),ret_bind,ret_mkL]
  refine ⟨by omega,by omega,?_⟩
  rw [show ((a.length:Int)+1).toNat=a.length+1 by omega,ret_bind]
  have hane:a≠[]:=by intro h; rw [h,List.length_nil] at hab; omega
  refine (up_ok ha (by omega) hane hs32).mono ?_
  rintro w ⟨w1,w2,w3⟩
  have halt:=lv_lt ha
  have hwlt:lv w < pw a.length*2 ^ s:=by rw [w3]; exact Int.mul_lt_mul_of_pos_right halt p1
  have hwl:w.length≤a.length+1:=by
    refine len_le w1 w2 ?_
    have h9:pw a.length*2 ^ s≤pw a.length*B:=Int.mul_le_mul_of_nonneg_left (by omega) (by have:=pw_pos a.length; omega)
    have h8:pw (a.length+1)=B*pw a.length:=rfl
    rw [h8,Int.mul_comm B]; omega
  have hcp:cpI (List.replicate (a.length+1) (0:Int)) 0 ((List.replicate (a.length+1) (0:Int)).length:Int) w=some (w++List.replicate (a.length+1 - w.length) 0,(w.length:Int)):=by
    unfold cpI
    rw [List.length_replicate,if_pos ⟨by omega,by omega,by omega⟩]
    have e1:(((a.length+1:Nat):Int)).toNat - ((0:Int)).toNat=a.length+1:=by omega
    rw [e1,List.take_of_length_le hwl,Nat.min_eq_left hwl,show ((0:Int)).toNat=0 from rfl,List.take_zero,List.nil_append,Nat.zero_add,List.drop_replicate]
  rw [hcp,obs]
  have hu0l:(w++List.replicate (a.length+1 - w.length) (0:Int)).length=a.length+1:=by rw [List.length_append,List.length_replicate]; omega
  have hu0w:LW (w++List.replicate (a.length+1 - w.length) (0:Int)):=LW.app.2 ⟨w1,lw_zeros _⟩
  have hu0v:lv (w++List.replicate (a.length+1 - w.length) (0:Int))=lv a*2 ^ s:=by rw [lv_app,lv_zeros,w3]; omega
  simp only
  generalize w++List.replicate (a.length+1 - w.length) (0:Int)=u0 at*
  obtain ⟨K,hK⟩:∃ K,a.length=K+m+1:=⟨a.length - m - 1,by omega⟩
  rw [show ws .i64 (u0.length:Int) (v.length:Int)=(K:Int) by rw [hu0l,hvl,ws_i (by omega) (by omega)]; omega,ret_bind,ret_mkL]
  refine ⟨by omega,by omega,?_⟩
  rw [Int.toNat_natCast,List.length_replicate,ws_i (x:=(K:Int)) (by omega) (by omega),ret_bind]
  have htopu:lv (u0.drop K) < lv v:=by
    have h9:lv u0=lv (u0.take K)+pw K*lv (u0.drop K):=take_drop u0 (by omega)
    have h8:=lv_nn (LW.take hu0w K)
    have h7:pw K*lv (u0.drop K) < pw a.length*2 ^ s:=by rw [w3] at hwlt; omega
    have h6:pw a.length=pw K*pw (m+1):=by rw [hK,show K+m+1=K+(m+1) by omega,pw_add]
    rw [h6,Int.mul_assoc] at h7
    have h5:lv (u0.drop K) < pw (m+1)*2 ^ s:=Int.lt_of_mul_lt_mul_left h7 (Int.le_of_lt (pw_pos K))
    have h4:pw (m+1)*2 ^ s≤pw (m+1)*2147483648:=Int.mul_le_mul_of_nonneg_left p2 (by omega)
    rw [Int.mul_comm (pw (m+1)) 2147483648] at h4
    rw [v3]; omega
  refine (divL_ok hu0w v1 hvl (by omega) (by omega) htop htopu).mono ?_
  rintro ⟨q,u⟩ ⟨q1,q2,u1,u2,u3,u4⟩
  simp only at q1 q2 u1 u2 u3 u4 ⊢
  have hnl:(v.length:Int)=((m+2:Nat):Int):=by rw [hvl]
  rw [hnl,ret_bind,ret_sli]
  refine ⟨by omega,by omega,by omega,?_⟩
  rw [Int.toNat_natCast,show ((0:Int)).toNat=0 from rfl,List.drop_zero]
  have htl:LW (u.take (m+2)):=LW.take u1 _
  have hut:lv (u.take (m+2))=lv u:=by
    have h9:lv u=lv (u.take (m+2))+pw (m+2)*lv (u.drop (m+2)):=take_drop u (by omega)
    have h8:=lv_nn htl
    have h7:=lv_nn (LW.drop u1 (m+2))
    have h6:lv (u.drop (m+2))=0:=by
      refine Classical.byContradiction fun hc=>?_
      have:pw (m+2)*1≤pw (m+2)*lv (u.drop (m+2)):=Int.mul_le_mul_of_nonneg_left (by omega) (by have:=pw_pos (m+2); omega)
      rw [v3] at u4; omega
    rw [h6] at h9; omega
  rw [trim_ok htl (by rw [List.length_take]; omega),obs,ret_bind]
  refine (down_ok (trimL_lw htl) (by have:=trim_len htl; rw [List.length_take] at this; omega) hs32).mono ?_
  rintro d ⟨d1,d2,d3⟩
  rw [trim_ok q1 (by omega),obs]
  rw [trimL_lv,hut] at d3
  refine ⟨_,rfl,trimL_lw q1,trimL_tm _,d1,d2,?_⟩
  show lv (trimL q)=_∧lv d.1=_
  rw [trimL_lv]
  have hunn:=lv_nn u1
  rw [hu0v,v3] at u3
  rw [v3] at u4
  have hR:lv u=(lv a - lv q*lv b)*2 ^ s:=by
    have:(lv a - lv q*lv b)*2 ^ s=lv a*2 ^ s - lv q*(lv b*2 ^ s):=by grind
    omega
  have r0:0≤lv a - lv q*lv b:=by
    refine Classical.byContradiction fun hc=>?_
    have:(lv a - lv q*lv b)*2 ^ s≤(-1)*2 ^ s:=Int.mul_le_mul_of_nonneg_right (by omega) (by omega)
    omega
  have r1:lv a - lv q*lv b < lv b:=by
    rw [hR] at u4
    exact Int.lt_of_mul_lt_mul_right u4 (Int.le_of_lt p1)
  have hq:lv q=lv a / lv b:=Qt.eq (u:=lv a) (v:=lv b) ⟨by omega,by rw [Int.add_mul,Int.one_mul]; omega⟩ hbpos
  refine ⟨hq,?_⟩
  rw [d3,hR,Int.mul_ediv_cancel _ (by omega)]
  have h9:=Int.mul_ediv_add_emod (lv a) (lv b)
  rw [← hq] at h9
  have h8:lv q*lv b=lv b*lv q:=Int.mul_comm _ _
  omega
theorem divmod_bg {s t:Bool} {a b:List Int} (ha:LW a) (hb:LW b) (hn:a.length≤800) (hm:b.length≤800) (hne:sv t b≠0):Ret (integer_DivMod s a t b) (fun r=>Bg (sv s a / sv t b) r.1 r.2.1∧Bg (sv s a % sv t b) r.2.2.1 r.2.2.2.1∧r.2.2.2.2=0):=by
  have la:=trim_len ha
  have lb:=trim_len hb
  have wa':=trimL_lw ha
  have wb':=trimL_lw hb
  have ta:=trimL_tm a
  have tb:=trimL_tm b
  have hb0:trimL b≠[]:=by
    intro h
    have:lv b=0:=by rw [← trimL_lv,h]; rfl
    apply hne
    unfold sv; rw [this]; split<;>rfl
  have hbl:=List.length_pos_iff.2 hb0
  have hbpos:0 < lv b:=by
    have h1:=tm_lower wb' tb hb0
    rw [trimL_lv] at h1
    have:=pw_pos ((trimL b).length - 1)
    omega
  obtain ⟨q,r,hd,q1,q2,r1,r2,q3,r3⟩:=divide_ok wa' wb' ta tb hb0 (by omega) (by omega)
  rw [trimL_lv,trimL_lv] at q3 r3
  have h0:=lv_nn ha
  have e0:=Int.emod_nonneg (lv a) (show lv b≠0 by omega)
  have e1:=Int.emod_lt_of_pos (lv a) hbpos
  have hdm:=Int.mul_ediv_add_emod (lv a) (lv b)
  have hq0:0≤lv a / lv b:=Int.ediv_nonneg h0 (by omega)
  have hqle:lv a / lv b≤lv a:=Int.ediv_le_self _ h0
  have hap:=lt_pw ha hn
  have hbp:=lt_pw hb hm
  have hp8:2*pw 800≤pw 801:=by
    have:=pw_pos 800
    show 2*pw 800≤B*pw 800
    unfold B; omega
  have hql:q.length≤801:=len_le q1 q2 (by omega)
  have hrl:r.length≤801:=len_le r1 r2 (by omega)
  have fin:∀ x y:List Int,LW x→x.length≤1000→LW y→y.length≤1000→sv (!(s == t)) x=sv s a / sv t b→lv y=sv s a % sv t b→Ret (integer_DivMod_j2 s t x y) (fun r=>Bg (sv s a / sv t b) r.1 r.2.1∧Bg (sv s a % sv t b) r.2.2.1 r.2.2.2.1∧r.2.2.2.2=0):=by
    intro x y hx hxl hy hyl h1 h2
    unfold integer_DivMod_j2
    rw [ret_bind]
    refine (big_bg _ hx (by omega)).mono fun g hg=>?_
    rw [ret_bind]
    refine (big_bg false hy (by omega)).mono fun f hf=>⟨_,rfl,hg.cast h1,hf.cast ?_,rfl⟩
    rw [← h2]; rfl
  have quot:∀ z w:Int,sv s a=sv t b*z+w→0≤w→w < lv b→z=sv s a / sv t b∧w=sv s a % sv t b:=by
    intro z w h1 h2 h3
    have h4:w=sv s a % sv t b:=by
      rw [h1,Int.mul_add_emod_self_left]
      unfold sv
      split
      · rw [Int.emod_neg,Int.emod_eq_of_lt h2 h3]
      · rw [Int.emod_eq_of_lt h2 h3]
    refine ⟨?_,h4⟩
    have h5:=Int.mul_ediv_add_emod (sv s a) (sv t b)
    have h6:sv t b*(z - sv s a / sv t b)=0:=by rw [Int.mul_sub]; omega
    rcases Int.mul_eq_zero.1 h6 with h | h
    · exact absurd h hne
    · omega
  unfold integer_DivMod
  rw [trim_ok hb (by omega),obs,if_neg (by omega),trim_ok ha (by omega),obs,hd,obs]
  simp only
  rw [ret_if]
  refine ⟨fun hc=>?_,fun hc=>?_⟩
  · simp only [Bool.and_eq_true,decide_eq_true_eq] at hc
    obtain ⟨hs,hrp⟩:=hc
    subst hs
    have hr0:lv r≠0:=fun h=>by rw [(lv_zero r1 r2).1 h] at hrp; simp at hrp
    rw [ret_bind]
    refine (plus_ok q1 (b:=[1]) (LW.one.2 ⟨by omega,by unfold B; omega⟩) (by omega) (by simp)).mono ?_
    rintro x ⟨x1,x2,x3⟩
    have l1:lv [1]=1:=by simp [lv]
    rw [l1] at x3
    rw [ret_bind]
    have hll:r.length≤(trimL b).length:=by
      refine Classical.byContradiction fun hc=>?_
      have:=tm_len wb' r1 tb r2 (by omega)
      rw [trimL_lv] at this; omega
    refine (minus_ok wb' r1 (by omega) hll (by rw [trimL_lv]; omega)).mono ?_
    rintro y ⟨y1,y2,y3⟩
    rw [trimL_lv] at y3
    have hxl:x.length≤801:=len_le x1 x2 (by have:=pw_pos 800; omega)
    have hyl:y.length≤801:=len_le y1 y2 (by omega)
    obtain ⟨k1,k2⟩:=quot (sv (!(true == t)) x) (lv y) (by
      unfold sv
      rw [x3,y3,r3,q3]
      cases t
      · simp
        have h7:lv b*(lv a / lv b+1)=lv b*(lv a / lv b)+lv b:=by grind
        rw [Int.mul_neg]; omega
      · simp
        have h7:lv b*(lv a / lv b+1)=lv b*(lv a / lv b)+lv b:=by grind
        rw [Int.neg_mul]; omega) (lv_nn y1) (by omega)
    exact fin x y x1 (by omega) y1 (by omega) k1 k2
  · simp only [Bool.and_eq_true,decide_eq_true_eq,not_and] at hc
    obtain ⟨k1,k2⟩:=quot (sv (!(s == t)) q) (lv r) (by
      have n1: -lv b*(lv a / lv b)= -(lv b*(lv a / lv b)):=by grind
      have n2:lv b* -(lv a / lv b)= -(lv b*(lv a / lv b)):=by grind
      have n3: -lv b* -(lv a / lv b)=lv b*(lv a / lv b):=by grind
      unfold sv
      rw [q3]
      cases s
      · cases t
        · simp
          first | omega | grind
        · simp
          first | omega | grind
      · have hr0:lv r=0:=by
          have h1:=hc rfl
          have:r=[]:=List.eq_nil_of_length_eq_zero (by omega)
          rw [this]; rfl
        cases t
        · simp
          first | omega | grind
        · simp; omega) (by omega) (by omega)
    exact fin q r q1 (by omega) r1 (by omega) k1 k2
end Km
namespace Km
open Sx Go M Vc Lm
end Km
namespace Km
open Sx Go M Vc Lm
theorem pow2_le {k n:Nat} (h:(2:Int) ^ k≤2 ^ n):k≤n:=by
  have h2:(2:Nat) ^ k≤2 ^ n:=by exact_mod_cast h
  exact (Nat.pow_le_pow_iff_right (by omega)).1 h2
theorem half_step {x y:Int} (hy:0 < y) (h:y≤x):2*(y*(x % y))≤x*y:=by
  have h1:=Int.mul_ediv_add_emod x y
  have h2:=Int.emod_nonneg x (show y≠0 by omega)
  have h3:=Int.emod_lt_of_pos x hy
  have h4:1≤x / y:=(Int.le_ediv_iff_mul_le hy).2 (by omega)
  have h5:y*1≤y*(x / y):=Int.mul_le_mul_of_nonneg_left h4 (by omega)
  have h6:2*(x % y)≤x:=by omega
  have h7:2*(x % y)*y≤x*y:=Int.mul_le_mul_of_nonneg_right h6 (by omega)
  have h8:2*(x % y)*y=2*(y*(x % y)):=by grind
  omega
theorem gcd_step {x y:Int} (hy:0 < y):Int.gcd y (x % y)=Int.gcd x y:=by
  have h:=Int.mul_ediv_add_emod x y
  have h2:=Int.gcd_add_mul_left_left y (x % y) (x / y)
  rw [Int.add_comm,h] at h2
  rw [Int.gcd_comm,h2]
structure GI (G:Nat) (n k:Nat) (x y:Int):Prop where
  gx:0≤x
  gy:0≤y
  gg:Int.gcd x y=G
  glt:0 < k→y < x
  gp:x*y*2 ^ k≤2 ^ n
theorem GI.rounds {G n k:Nat} {x y:Int} (h:GI G n k x y) (hk:0 < k) (hy:0 < y):k≤n:=by
  have h1:=h.glt hk
  have h2:0 < x*y:=Int.mul_pos (by omega) hy
  have h3:(0:Int) < 2 ^ k:=Int.pow_pos (by omega)
  have h4:1*2 ^ k≤x*y*2 ^ k:=Int.mul_le_mul_of_nonneg_right (by omega) (by omega)
  exact pow2_le (Int.le_trans (by omega) h.gp)
theorem GI.step {G n k:Nat} {x y:Int} (h:GI G n k x y) (hy:0 < y) (h0:k=0→x*y*2≤2 ^ n):GI G n (k+1) y (x % y):=by
  have h2:=Int.emod_nonneg x (show y≠0 by omega)
  have h3:=Int.emod_lt_of_pos x hy
  refine ⟨h.gy,h2,(gcd_step hy).trans h.gg,fun _=>h3,?_⟩
  have hp:(0:Int) < 2 ^ k:=Int.pow_pos (by omega)
  by_cases hxy:y≤x
  · have h4:=half_step hy hxy
    have h5:2*(y*(x % y))*2 ^ k≤x*y*2 ^ k:=Int.mul_le_mul_of_nonneg_right h4 (by omega)
    have h6:y*(x % y)*2 ^ (k+1)=2*(y*(x % y))*2 ^ k:=by rw [Int.pow_succ]; grind
    have:=h.gp
    omega
  · have hk:k=0:=by
      refine Classical.byContradiction fun hc=>?_
      have:=h.glt (by omega)
      omega
    have h4:=h0 hk
    subst hk
    rw [Int.emod_eq_of_lt h.gx (by omega)]
    have:y*x*2 ^ (0+1)=x*y*2:=by rw [Int.mul_comm y]; rfl
    omega
end Km
