/- Sorting: the library's. -/
import Derived.Test.YtgnfkbaghjmgiaaGreatDoorPlB
import Derived.Test.YtgnfkbaghjmgiaaGreatDoorM7
import Derived.Test.YtgnfkbaghjmgiaaGreatDoorPlL
import Derived.Test.YtgnfkbaghjmgiaaGreatDoorVcA
import Derived.KernelRfl
set_option linter.unusedSimpArgs false
set_option linter.unusedVariables false
set_option maxHeartbeats 4000000
namespace Pl
open Sx Go M
theorem sort_ok {l:List Int} (hl:l.length≤12):∃ m,sortI l=some m∧m.Perm l∧m.Pairwise (·≤·):=by
  unfold sortI BIG
  rw [if_pos (by omega)]
  exact ⟨_,rfl,isortI_perm l,isortI_sorted l⟩
end Pl
namespace Pl
open Sx Go M
theorem nodup_len:∀ (n:Nat) (l:List Int),l.Nodup→(∀ x,x∈l→0≤x∧x < n)→l.length≤n:=by
  intro n
  induction n with
  | zero=>
    intro l _ h
    cases l with
    | nil=>simp
    | cons x l=>have:=h x (by simp); omega
  | succ n ih=>
    intro l hd h
    have h1:=ih (l.filter (fun x=>decide (x≠(n:Int)))) (hd.filter _) (fun x hx=>by
      rw [List.mem_filter] at hx
      have h2:=h x hx.1
      have h3:x≠(n:Int):=by simpa using hx.2
      omega)
    have h2:=List.nodup_iff_count.1 hd (n:Int)
    have h3:=List.length_eq_countP_add_countP (fun x=>decide (x≠(n:Int))) (l:=l)
    rw [List.countP_eq_length_filter] at h3
    have h4:List.countP (fun a=>decide (¬ (decide (a≠(n:Int)))=true)) l=l.count (n:Int):=by
      unfold List.count
      refine List.countP_congr fun x _=>?_
      simp
    omega
def nbp (adj:List (List Int)) (v w:Nat):Prop:=∃ l,adj[v]?=some l∧(w:Int)∈l
structure IN (adj:List (List Int)) (lev:Nat→Nat) (now:List Int) (seen:List Bool) (next:List Int):Prop where
  len:seen.length=adj.length
  see:∀ u:Nat,u < adj.length→seen[u]?=some (decide (lev u≠0∨(u:Int)∈next))
  nd:next.Nodup
  new:∀ x,x∈next→0≤x∧x < adj.length∧lev x.toNat=0∧∃ v:Nat,(v:Int)∈now∧nbp adj v x.toNat
structure BF (adj:List (List Int)) (root:Nat) (lev:Nat→Nat) (seen:List Bool) (out:List (List Int)) (now:List Int):Prop where
  len:seen.length=adj.length
  see:∀ u:Nat,u < adj.length→seen[u]?=some (decide (lev u≠0))
  lst:∀ (k:Nat) (l:List Int),(out++[now])[k]?=some l→l.Pairwise (· < ·)∧(∀ x,x∈l→0≤x∧x < adj.length)∧∀ u:Nat,u < adj.length→((u:Int)∈l↔lev u=k+1)
  top:∀ u:Nat,u < adj.length→lev u≤out.length+1
  ne:∀ l,l∈out→l≠[]
  rt:∀ u:Nat,u < adj.length→(lev u=1↔u=root)
  edge:∀ v w:Nat,v < adj.length→nbp adj v w→lev v≠0→lev v≤out.length→lev w≠0∧lev w≤lev v+1
  back:∀ u:Nat,u < adj.length→2≤lev u→∃ w:Nat,w < adj.length∧nbp adj w u∧lev w+1=lev u
theorem BF.count {adj:List (List Int)} {root:Nat} {lev:Nat→Nat} {seen:List Bool} {out:List (List Int)} {now:List Int} (h:BF adj root lev seen out now):out.length≤adj.length:=by
  have hex:∀ k,k < out.length→∃ u:Nat,u < adj.length∧lev u=k+1:=by
    intro k hk
    have hg:(out++[now])[k]?=some out[k]:=by rw [List.getElem?_append_left hk]; simp [hk]
    have hne:=h.ne _ (List.getElem_mem hk)
    obtain ⟨x,hx⟩:=List.exists_mem_of_ne_nil _ hne
    have h1:=h.lst k _ hg
    have h2:=h1.2.1 x hx
    refine ⟨x.toNat,by omega,(h1.2.2 x.toNat (by omega)).1 ?_⟩
    rwa [show ((x.toNat:Nat):Int)=x by omega]
  have hex2:∀ k,∃ u:Nat,k < out.length→(u < adj.length∧lev u=k+1):=by
    intro k
    by_cases hk:k < out.length
    · obtain ⟨u,hu⟩:=hex k hk; exact ⟨u,fun _=>hu⟩
    · exact ⟨0,fun h=>absurd h hk⟩
  have h3:=nodup_len adj.length ((List.range out.length).map fun k=>((Classical.choose (hex2 k):Nat):Int)) (by
    rw [List.nodup_iff_pairwise_ne,List.pairwise_map,List.pairwise_iff_getElem]
    intro i j hi hj hij
    simp at hi hj
    have a1:=Classical.choose_spec (hex2 i) hi
    have a2:=Classical.choose_spec (hex2 j) hj
    simp only [List.getElem_range]
    intro he
    have:Classical.choose (hex2 i)=Classical.choose (hex2 j):=by omega
    rw [this] at a1
    omega) (fun x hx=>by
    rw [List.mem_map] at hx
    obtain ⟨k,hk,rfl⟩:=hx
    have a1:=Classical.choose_spec (hex2 k) (by simpa using hk)
    omega)
  simpa using h3
theorem asc_of {m:List Int} (h1:m.Pairwise (·≤·)) (h2:m.Nodup):m.Pairwise (· < ·):=by
  rw [List.pairwise_iff_getElem] at h1 ⊢
  intro i j hi hj hij
  have:=h1 i j hi hj hij
  by_cases he:m[i]=m[j]
  · have:=nodup_inj h2 he; omega
  · omega
end Pl
namespace Pl
open Sx Go M Vc
theorem asc_nodup {l:List Int} (h:l.Pairwise (· < ·)):l.Nodup:=by
  refine List.Pairwise.imp ?_ h
  intro a b hab; omega
theorem asc_unique:∀ {l m:List Int},l.Pairwise (· < ·)→m.Pairwise (· < ·)→(∀ x,x∈l↔x∈m)→l=m:=by
  intro l
  induction l with
  | nil=>
    intro m _ _ h
    cases m with
    | nil=>rfl
    | cons y m=>exact absurd ((h y).2 (by simp)) (by simp)
  | cons x l ih=>
    intro m hl hm h
    cases m with
    | nil=>exact absurd ((h x).1 (by simp)) (by simp)
    | cons y m=>
      rw [List.pairwise_cons] at hl hm
      have hxy:x=y:=by
        have h1:=(h x).1 (by simp)
        have h2:=(h y).2 (by simp)
        rw [List.mem_cons] at h1 h2
        rcases h1 with h1 | h1
        · exact h1
        · rcases h2 with h2 | h2
          · exact h2.symm
          · have:=hl.1 y h2
            have:=hm.1 x h1
            omega
      subst hxy
      congr 1
      refine ih hl.2 hm.2 fun z=>?_
      constructor
      · intro hz
        have h1:=(h z).1 (by simp [hz])
        rw [List.mem_cons] at h1
        rcases h1 with h1 | h1
        · have:=hl.1 z hz; omega
        · exact h1
      · intro hz
        have h1:=(h z).2 (by simp [hz])
        rw [List.mem_cons] at h1
        rcases h1 with h1 | h1
        · have:=hm.1 z hz; omega
        · exact h1
theorem take_flatten_le (ls:List (List Int)) (k:Nat):(ls.take k).flatten.length≤ls.flatten.length:=by
  conv=>rhs; rw [← List.take_append_drop k ls]
  rw [List.flatten_append,List.length_append]; omega
theorem take_succ2 {ls:List (List Int)} {k:Nat} (h:k < ls.length):(ls.take (k+1)).flatten=(ls.take k).flatten++ls[k]:=by
  rw [take_succ' h,List.flatten_append,List.flatten_cons,List.flatten_nil,List.append_nil]
theorem BF.lev_le {adj:List (List Int)} {root:Nat} {lev:Nat→Nat} {seen:List Bool} {out:List (List Int)} (h:BF adj root lev seen out []) (u:Nat) (hu:u < adj.length):lev u≤out.length:=by
  have h1:=h.top u hu
  have h2:=(h.lst out.length [] (by simp)).2.2 u hu
  simp at h2
  omega
theorem BF.lev_one {adj:List (List Int)} {root:Nat} {lev lev':Nat→Nat} {seen seen':List Bool} {out out':List (List Int)} (h:BF adj root lev seen out []) (h':BF adj root lev' seen' out' []):
    ∀ j u,u < adj.length→lev u=j+1→lev' u≠0∧lev' u≤j+1:=by
  intro j
  induction j with
  | zero=>
    intro u hu hl
    have:=(h'.rt u hu).2 ((h.rt u hu).1 hl)
    omega
  | succ j ih=>
    intro u hu hl
    obtain ⟨w,hw,hn,he⟩:=h.back u hu (by omega)
    have h1:=ih w hw (by omega)
    have h2:=h'.edge w u hw hn h1.1 (h'.lev_le w hw)
    exact ⟨h2.1,by omega⟩
theorem BF.lev_eq {adj:List (List Int)} {root:Nat} {lev lev':Nat→Nat} {seen seen':List Bool} {out out':List (List Int)} (h:BF adj root lev seen out []) (h':BF adj root lev' seen' out' []) (u:Nat) (hu:u < adj.length):lev u=lev' u:=by
  have key:lev u≠0→lev' u≠0∧lev' u≤lev u:=fun h0=>by
    have:=h.lev_one h' (lev u - 1) u hu (by omega)
    omega
  have key':lev' u≠0→lev u≠0∧lev u≤lev' u:=fun h0=>by
    have:=h'.lev_one h (lev' u - 1) u hu (by omega)
    omega
  omega
end Pl
namespace Pl
open Sx Go M
end Pl
namespace Pl
open Sx Go M
end Pl
namespace Pl
open Sx Go M
def coll (tm:Nat→Prop) [DecidablePred tm]:Nat→List Int
  | 0=>[]
  | m+1=>coll tm m++(if tm m then [(m:Int)] else [])
theorem coll_mem {tm:Nat→Prop} [DecidablePred tm] {x:Int}:∀ m,x∈coll tm m↔0≤x∧x.toNat < m∧tm x.toNat:=by
  intro m
  induction m with
  | zero=>simp [coll]
  | succ m ih=>
    rw [coll,List.mem_append,ih]
    constructor
    · rintro (h | h)
      · exact ⟨h.1,by omega,h.2.2⟩
      · split at h
        · rename_i hc
          simp only [List.mem_singleton] at h; subst h
          exact ⟨by omega,by omega,by simpa using hc⟩
        · simp at h
    · rintro ⟨h1,h2,h3⟩
      by_cases hx:x.toNat=m
      · right
        rw [hx] at h3
        rw [if_pos h3]
        simp; omega
      · exact .inl ⟨h1,by omega,h3⟩
theorem coll_asc {tm:Nat→Prop} [DecidablePred tm]:∀ m,(coll tm m).Pairwise (· < ·):=by
  intro m
  induction m with
  | zero=>exact .nil
  | succ m ih=>
    rw [coll,List.pairwise_append]
    refine ⟨ih,?_,?_⟩
    · split<;>simp
    · intro x hx y hy
      have:=(coll_mem m).1 hx
      split at hy
      · simp at hy; omega
      · simp at hy
theorem coll_len {tm:Nat→Prop} [DecidablePred tm]:∀ m,(coll tm m).length≤m:=by
  intro m
  induction m with
  | zero=>simp [coll]
  | succ m ih=>rw [coll,List.length_append]; split<;>simp<;>omega
end Pl
namespace Pl
open Sx Go M Vc
theorem loopN_sim {σ τ ρ ρ':Type} {step1:σ→Option (σ⊕ρ)} {step2:τ→Option (τ⊕ρ')} (R:σ→τ→Prop) (Q:ρ→ρ'→Prop)
    (h:∀ s t,R s t→(∀ s',step1 s=some (.inl s')→∃ t',step2 t=some (.inl t')∧R s' t')∧(∀ o,step1 s=some (.inr o)→∃ o',step2 t=some (.inr o')∧Q o o')):
    ∀ (k:Nat) (s:σ) (t:τ) (o:ρ),R s t→loopN step1 k s=some o→∃ o',loopN step2 k t=some o'∧Q o o':=by
  intro k
  induction k with
  | zero=>intro s t o _ h; simp [loopN] at h
  | succ k ih=>
    intro s t o hR ho
    simp only [loopN] at ho
    cases hs:step1 s with
    | none=>rw [hs] at ho; cases ho
    | some r=>
      rw [hs] at ho
      cases r with
      | inl s'=>
        obtain ⟨t',h1,h2⟩:=(h s t hR).1 s' hs
        obtain ⟨o',h3,h4⟩:=ih s' t' o h2 ho
        exact ⟨o',by simp [loopN,h1,h3],h4⟩
      | inr o1=>
        obtain rfl:=Option.some.inj ho
        obtain ⟨o',h1,h2⟩:=(h s t hR).2 o1 hs
        exact ⟨o',by simp [loopN,h1],h2⟩
theorem loop_sim {σ τ ρ ρ':Type} {step1:σ→Option (σ⊕ρ)} {step2:τ→Option (τ⊕ρ')} (R:σ→τ→Prop) (Q:ρ→ρ'→Prop) {s:σ} {t:τ} {o:ρ} (hR:R s t)
    (h:∀ s t,R s t→(∀ s',step1 s=some (.inl s')→∃ t',step2 t=some (.inl t')∧R s' t')∧(∀ o,step1 s=some (.inr o)→∃ o',step2 t=some (.inr o')∧Q o o')) (ho:loop step1 s=some o):∃ o',loop step2 t=some o'∧Q o o':=
  loopN_sim R Q h FUEL s t o hR ho
end Pl
namespace Pd
open Pl Sx Go M Vc
theorem loop_simA {σ τ ρ ρ':Type} {step1:σ→Option (σ⊕ρ)} {step2:τ→Option (τ⊕ρ')} (R:σ→τ→Prop) (Q:ρ→ρ'→Prop) {s:σ} {t:τ} {o:ρ} (hR:R s t)
    (h:∀ s t r,R s t→step1 s=some r→∃ r',step2 t=some r'∧((∃ s' t',r=.inl s'∧r'=.inl t'∧R s' t')∨∃ o o',r=.inr o∧r'=.inr o'∧Q o o')) (ho:loop step1 s=some o):∃ o',loop step2 t=some o'∧Q o o':=by
  refine loop_sim R Q hR (fun s t hst=>⟨fun s' hs=>?_,fun o hs=>?_⟩) ho
  · obtain ⟨r',h1,⟨a,b,h2,rfl,h3⟩ | ⟨a,b,h2,rfl,h3⟩⟩:=h s t _ hst hs
    · cases h2; exact ⟨b,h1,h3⟩
    · cases h2
  · obtain ⟨r',h1,⟨a,b,h2,rfl,h3⟩ | ⟨a,b,h2,rfl,h3⟩⟩:=h s t _ hst hs
    · cases h2
    · cases h2; exact ⟨b,h1,h3⟩
theorem getI_nn {α:Type} {l:List α} {i:Int} {x:α} (h:getI l i=some x):0≤i∧i < l.length∧x∈l:=by
  cases i with
  | ofNat k=>
    have h':l[k]?=some x:=h
    have:=mem_get h'
    have:k < l.length:=(List.getElem?_eq_some_iff.1 h').1
    exact ⟨by simp,by simp; omega,mem_get h'⟩
  | negSucc k=>cases h
theorem setI_nn {α:Type} {l l':List α} {i:Int} {x:α} (h:setI l i x=some l'):0≤i∧i < l.length∧l'=l.set i.toNat x:=by
  cases i with
  | ofNat k=>
    have h':(if k < l.length then some (l.set k x) else none)=some l':=h
    split at h'
    · obtain rfl:=Option.some.inj h'
      exact ⟨by simp,by simp; omega,rfl⟩
    · cases h'
  | negSucc k=>cases h
end Pd
namespace Pd
open Pl Sx Go M Vc
theorem mul_all:((List.range 1001).all fun n=>math_bits_Mul64 1 (n:Int) == some (0,(n:Int)))=true:=by kernel_rfl
theorem mul_one {n:Nat} (hn:n≤1000):math_bits_Mul 1 (n:Int)=some (0,(n:Int)):=by
  have h:=List.all_eq_true.1 mul_all n (List.mem_range.2 (by omega))
  have h':math_bits_Mul64 1 (n:Int)=some (0,(n:Int)):=by simpa using h
  unfold math_bits_Mul
  rw [bindS h']
theorem cpI_ok {β:Type} {l m:List β} {lo hi:Nat} (h1:lo≤hi) (h2:hi≤l.length):cpI l (lo:Int) (hi:Int) m=some (l.take lo++m.take (hi - lo)++l.drop (lo+min m.length (hi - lo)),((min m.length (hi - lo):Nat):Int)):=by
  unfold cpI
  rw [if_pos (by omega)]
  simp only [Int.toNat_natCast]
theorem repeat_ok {n:Nat} (hn:n≤1000) (x:Int):slices_Repeat_int [x] (n:Int)=some (List.replicate n x):=by
  unfold slices_Repeat_int slices_Repeat_int_j1 slices_Repeat_int_j3
  have e1:wc .u64 (([x]:List Int).length:Int)=1:=rfl
  have e2:wc .u64 (n:Int)=(n:Int):=IntWalk.u64_in _ (by omega)
  have e3:wc .i64 (n:Int)=(n:Int):=IntWalk.i64_in _ (by omega)
  have e4:(decide ((0:Int) < 0) || decide ((9223372036854775807:Int) < (n:Int)))=false:=by simp; omega
  rw [if_neg (by omega),e1,e2,bindS (mul_one hn)]
  simp only [e3,e4,Bool.false_eq_true,if_false]
  rw [bindS (mkL_nat 0 n (by omega))]
  have hrl:(List.replicate n (0:Int)).length=n:=by simp
  have e5:cpI (List.replicate n (0:Int)) 0 (((List.replicate n (0:Int)).length:Nat):Int) [x]=some (List.replicate (min 1 n) x++List.replicate (n - min 1 n) 0,((min 1 n:Nat):Int)):=by
    have:=cpI_ok (l:=List.replicate n (0:Int)) (m:=[x]) (lo:=0) (hi:=n) (by omega) (by simp)
    rw [hrl]
    rw [show ((0:Nat):Int)=0 from rfl] at this
    rw [this]
    congr 2
    simp only [List.take_zero,List.nil_append,Nat.sub_zero,Nat.zero_add,List.length_singleton,List.drop_replicate]
    cases n with
    | zero=>simp
    | succ n=>simp [Nat.min_eq_left]
  rw [bindS e5]
  simp only
  by_cases h0:n=0
  · subst h0
    have:loop slices_Repeat_int_l4 (List.replicate (min 1 0) x++List.replicate (0 - min 1 0) 0,((min 1 0:Nat):Int))=some []:=by
      refine Ret.eq ?_
      refine ret_loop 0 (fun k (t:List Int×Int)=>t=([],0)) rfl ?_
      rintro k _ hk rfl
      unfold slices_Repeat_int_l4
      simp only [vcD,implies_true,Bool.false_eq_true,reduceCtorEq]
      simp
    rw [bindS this]; rfl
  · have hm:min 1 n=1:=by omega
    rw [hm]
    have:loop slices_Repeat_int_l4 (List.replicate 1 x++List.replicate (n - 1) 0,((1:Nat):Int))=some (List.replicate n x):=by
      refine Ret.eq ?_
      refine ret_loop n (fun j (t:List Int×Int)=>∃ k:Nat,t=(List.replicate k x++List.replicate (n - k) 0,(k:Int))∧k≤n∧j+1≤k) ⟨1,rfl,by omega,by omega⟩ ?_
      rintro j _ hj ⟨k,rfl,hk1,hk2⟩
      unfold slices_Repeat_int_l4
      have hlen:(List.replicate k x++List.replicate (n - k) (0:Int)).length=n:=by simp; omega
      simp only [hlen]
      by_cases hkn:k < n
      · have e6:(k:Int) < (n:Int):=by omega
        have s1:sli (List.replicate k x++List.replicate (n - k) (0:Int)) (k:Int) (n:Int)=some (List.replicate (n - k) 0):=by
          unfold sli subL
          rw [if_pos (by rw [hlen]; omega),Int.toNat_natCast,Int.toNat_natCast,List.take_of_length_le (by omega)]
          rw [List.drop_left' (by simp)]
        have s2:sli (List.replicate k x++List.replicate (n - k) (0:Int)) 0 (k:Int)=some (List.replicate k x):=by
          unfold sli subL
          rw [if_pos (by rw [hlen]; omega),Int.toNat_natCast,List.take_left' (by simp)]
          rfl
        have s3:=cpI_ok (l:=List.replicate k x++List.replicate (n - k) (0:Int)) (m:=List.replicate k x) (lo:=k) (hi:=n) (by omega) (by omega)
        rw [List.take_left' (by simp)] at s3
        have s4:List.replicate k x++(List.replicate k x).take (n - k)++(List.replicate k x++List.replicate (n - k) (0:Int)).drop (k+min (List.replicate k x).length (n - k))=List.replicate (k+min k (n - k)) x++List.replicate (n - (k+min k (n - k))) 0:=by
          rw [List.take_replicate,List.length_replicate,← List.drop_drop,List.drop_left' (by simp),List.drop_replicate,List.replicate_append_replicate,Nat.min_comm (n - k) k]
          congr 2
          omega
        rw [s4,List.length_replicate] at s3
        have hw:wa .i64 (k:Int) ((min k (n - k):Nat):Int)=((k+min k (n - k):Nat):Int):=by rw [wa_i (by omega) (by omega)]; omega
        simp only [vcD,implies_true,Bool.false_eq_true,reduceCtorEq,e6,s1,s2,s3,hw]
        exact ⟨by omega,k+min k (n - k),rfl,by omega,by omega⟩
      · have e6:¬ (k:Int) < (n:Int):=by omega
        have:k=n:=by omega
        subst this
        simp only [vcD,implies_true,Bool.false_eq_true,reduceCtorEq,e6]
        simp
    rw [bindS this]
end Pd
namespace Km
open Pl Sx Go M Vc
structure KB (R C:Nat) (E:List (List Int)):Prop where
  len:E.length=C
  rng:∀ (j:Nat) l,E[j]?=some l→∀ i,i∈l→0≤i∧i < (R:Int)
  sz:∀ (j:Nat) l,E[j]?=some l→l.length≤100000
def inE (E:List (List Int)) (c i:Nat):Prop:=∃ l,E[c]?=some l∧(i:Int)∈l
def mkd (m:List Bool) (i:Nat):Prop:=m[i]?=some true
structure Cs (R C:Nat) (E:List (List Int)) (a b:List Int) (x:Int):Prop where
  al:a.length=C
  bl:b.length=R
  cr:∀ (i:Nat) c,b[i]?=some c→c≠-1→0≤c∧c < (C:Int)
  col:∀ (i:Nat) c,b[i]?=some c→c≠-1→(i:Int)≠x→a[c.toNat]?=some (i:Int)∧inE E c.toNat i
  row:∀ (c:Nat) i,a[c]?=some i→i≠-1→0≤i∧i < (R:Int)∧b[i.toNat]?=some (c:Int)∧i≠x
def Dead (E:List (List Int)) (b:List Int) (D:Nat→Prop):Prop:=∀ i,D i→∃ c:Nat,b[i]?=some (c:Int)∧∀ i',inE E c i'→D i'
structure TryF (R:Nat) (E:List (List Int)) (a b:List Int) (m:List Bool) (a' b':List Int) (m':List Bool):Prop where
  ea:a'=a
  eb:b'=b
  new:∀ i,mkd m' i→¬ mkd m i→∃ c:Nat,b[i]?=some (c:Int)∧∀ i',inE E c i'→mkd m' i'
structure TryT (R C:Nat) (E:List (List Int)) (a b:List Int) (m:List Bool) (j:Nat) (x:Int) (a' b':List Int):Prop where
  cs:Cs R C E a' b' x
  at_:∃ i:Nat,a'[j]?=some (i:Int)
  ca:∀ c:Nat,c≠j→a'[c]?≠a[c]?→∃ i,¬ mkd m i∧b[i]?=some (c:Int)
  cb:∀ i,mkd m i→b'[i]?=b[i]?
  kb:∀ (i:Nat) c,b[i]?=some c→c≠-1→∃ c',b'[i]?=some c'∧c'≠-1
  ka:∀ (c:Nat) i,a[c]?=some i→i≠-1→∃ i',a'[c]?=some i'∧i'≠-1
structure TryO (R C:Nat) (E:List (List Int)) (a b:List Int) (m:List Bool) (j:Nat) (x:Int) (o:List Int×List Int×List Bool×Bool):Prop where
  ml:o.2.2.1.length=R
  mono:∀ i,mkd m i→mkd o.2.2.1 i
  all:o.2.2.2=false→∀ i,inE E j i→mkd o.2.2.1 i
  f:o.2.2.2=false→TryF R E a b m o.1 o.2.1 o.2.2.1
  t:o.2.2.2=true→TryT R C E a b m j x o.1 o.2.1
  dead:∀ D:Nat→Prop,Dead E b D→((∀ i,inE E j i→D i)→o.2.2.2=false)∧∀ i,D i→o.2.1[i]?=b[i]?
theorem mkd_set {m:List Bool} {i k:Nat} (hi:i < m.length):mkd (m.set i true) k↔k=i∨mkd m k:=by
  unfold mkd
  rw [List.getElem?_set]
  by_cases h:i=k
  · subst h; simp [hi]
  · rw [if_neg h]
    constructor
    · exact .inr
    · rintro (rfl | h')
      · exact absurd rfl h
      · exact h'
theorem count_set:∀ {m:List Bool} {i:Nat},m[i]?=some false→(m.set i true).count false+1=m.count false
  | [],i,h=>by simp at h
  | x::m,0,h=>by
    have:x=false:=by simpa using h
    subst this
    simp
  | x::m,i+1,h=>by
    have:=count_set (m:=m) (i:=i) (by simpa using h)
    rw [List.set_cons_succ,List.count_cons,List.count_cons]
    omega
theorem count_mono:∀ {m m':List Bool},m'.length=m.length→(∀ i:Nat,mkd m i→mkd m' i)→m'.count false≤m.count false
  | [],m',h,_=>by
    have:m'=[]:=List.eq_nil_of_length_eq_zero (by simpa using h)
    subst this; simp
  | x::m,m',h,hm=>by
    cases m' with
    | nil=>simp at h
    | cons y m'=>
      have h1:=count_mono (m:=m) (m':=m') (by simpa using h) (fun i hi=>by
        have:=hm (i+1) (by simpa [mkd] using hi)
        simpa [mkd] using this)
      have h2:=hm 0
      simp only [mkd,List.getElem?_cons_zero,Option.some.injEq] at h2
      rw [List.count_cons,List.count_cons]
      cases x<;>cases y<;>simp_all<;>omega
theorem take_row {R C:Nat} {E:List (List Int)} {a b:List Int} {m:List Bool} {j i:Nat} {x:Int} (hCs:Cs R C E a b (-1)) (hj:j < C) (hi:i < R) (hx:a[j]?=some x) (hxm:x= -1∨mkd m x.toNat) (him:¬ mkd m i) (hie:inE E j i)
    {a' b':List Int} (hb:Cs R C E a' b' (if b[i]?=some (-1) then -1 else (i:Int))) (haj:a'[j]?=a[j]?) (hbi:b'[i]?=b[i]?)
    (hca:∀ c:Nat,a'[c]?≠a[c]?→∃ i,¬ mkd m i∧b[i]?=some (c:Int)) (hcb:∀ i,mkd m i→b'[i]?=b[i]?)
    (hkb:∀ (i:Nat) c,b[i]?=some c→c≠-1→∃ c',b'[i]?=some c'∧c'≠-1) (hka:∀ (c:Nat) i,a[c]?=some i→i≠-1→∃ i',a'[c]?=some i'∧i'≠-1):
    TryT R C E a b m j x (a'.set j (i:Int)) (b'.set i (j:Int)):=by
  have hal:=hb.al
  have hbl:=hb.bl
  have hxi:x≠(i:Int):=by
    rintro rfl
    rcases hxm with h | h
    · omega
    · exact him (by simpa using h)
  have hold:∀ r:Nat,b'[r]?=some (j:Int)→r≠i→(r:Int)=x:=by
    intro r hr hri
    have h1:(r:Int)≠(if b[i]?=some (-1) then -1 else (i:Int)):=by split<;>omega
    have h2:=(hb.col r j hr (by omega) h1).1
    simp only [Int.toNat_natCast] at h2
    rw [haj,hx] at h2
    exact (Option.some.inj h2).symm
  have hkeep:∀ (c:Nat) r,a'[c]?=some r→r≠-1→r=(i:Int)→False:=by
    intro c r hr hr1 hri
    obtain ⟨h1,h2,h3,h4⟩:=hb.row c r hr hr1
    subst hri
    by_cases hf:b[i]?=some (-1)
    · simp only [Int.toNat_natCast] at h3
      rw [hbi,hf] at h3
      have:=Option.some.inj h3
      omega
    · rw [if_neg hf] at h4
      exact h4 rfl
  refine ⟨⟨by simp [hal],by simp [hbl],fun r c hr hc=>?_,fun r c hr hc hrx=>?_,fun c r hr hr1=>?_⟩,⟨i,by simp [hal,hj]⟩,fun c hc hne=>?_,fun r hr=>?_,fun r c hr hc=>?_,fun c r hr hr1=>?_⟩
  · rw [List.getElem?_set] at hr
    split at hr
    · split at hr
      · have:=Option.some.inj hr; omega
      · cases hr
    · exact hb.cr r c hr hc
  · rw [List.getElem?_set] at hr
    by_cases hri:i=r
    · subst hri
      rw [if_pos rfl,if_pos (by omega)] at hr
      have:=Option.some.inj hr
      subst this
      exact ⟨by simp [hal,hj],by simpa using hie⟩
    · rw [if_neg hri] at hr
      have h1:(r:Int)≠(if b[i]?=some (-1) then -1 else (i:Int)):=by split<;>omega
      obtain ⟨h2,h3⟩:=hb.col r c hr hc h1
      obtain ⟨h4,h5⟩:=hb.cr r c hr hc
      refine ⟨?_,h3⟩
      rw [List.getElem?_set]
      by_cases hcj:j=c.toNat
      · exfalso
        apply hrx
        refine hold r ?_ (fun e=>hri e.symm)
        rw [hr]
        congr 1
        omega
      · rw [if_neg hcj]; exact h2
  · rw [List.getElem?_set] at hr
    by_cases hcj:j=c
    · subst hcj
      rw [if_pos rfl,if_pos (by omega)] at hr
      have:=Option.some.inj hr
      subst this
      exact ⟨by omega,by omega,by simp [hbl,hi],fun e=>hxi e.symm⟩
    · rw [if_neg hcj] at hr
      obtain ⟨h1,h2,h3,h4⟩:=hb.row c r hr hr1
      have hri:r≠(i:Int):=fun e=>hkeep c r hr hr1 e
      refine ⟨h1,h2,?_,?_⟩
      · rw [List.getElem?_set,if_neg (by omega)]; exact h3
      · rintro rfl
        have h5:=(hCs.row j r hx hr1).2.2.1
        rcases hxm with h | h
        · exact hr1 h
        · rw [← hcb _ h,h3] at h5
          have:=Option.some.inj h5
          omega
  · refine hca c ?_
    rw [List.getElem?_set,if_neg (fun e=>hc e.symm)] at hne
    exact hne
  · rw [List.getElem?_set,if_neg]
    · exact hcb r hr
    · rintro rfl; exact him hr
  · rw [List.getElem?_set]
    by_cases hri:i=r
    · subst hri
      exact ⟨j,by rw [if_pos rfl,if_pos (by omega)],by omega⟩
    · rw [if_neg hri]; exact hkb r c hr hc
  · rw [List.getElem?_set]
    by_cases hcj:j=c
    · subst hcj
      exact ⟨i,by rw [if_pos rfl,if_pos (by omega)],by omega⟩
    · rw [if_neg hcj]; exact hka c r hr hr1
theorem try_succ (k:Nat):matching_kuhn_try (k+1)=matching_kuhn_try_body (matching_kuhn_try k):=by simp only [matching_kuhn_try]
theorem try_ok {R C:Nat} {E:List (List Int)} (hE:KB R C E):∀ (k:Nat) {a b:List Int} {m:List Bool} {j:Nat} {x:Int},Cs R C E a b (-1)→m.length=R→j < C→a[j]?=some x→(x= -1∨mkd m x.toNat)→m.count false < k→
    Ret (matching_kuhn_try k E a b m (j:Int)) (TryO R C E a b m j x):=by
  intro k
  induction k with
  | zero=>intros; omega
  | succ k ih=>
    intro a b m j x hCs hml hj hx hxm hk
    rw [try_succ]
    unfold matching_kuhn_try_body
    obtain ⟨l,hl⟩:∃ l,E[j]?=some l:=⟨E[j]'(by rw [hE.len]; exact hj),by simp [hE.len,hj]⟩
    have hl0:getI E (j:Int)=some l:=hl
    have hlr:=hE.rng j l hl
    have hll:=hE.sz j l hl
    have hal:=hCs.al
    have hbl:=hCs.bl
    rw [bindS hl0,ret_bind]
    refine ret_call (P:=fun o=>match o with
      | .inl s=>TryO R C E a b m j x (s.1,s.2.1,s.2.2,false)
      | .inr s=>TryO R C E a b m j x (s.1,s.2.1,s.2.2,true)) ?_ ?_
    · refine ret_loop l.length (fun t (s:List Int×List Int×List Bool×Int)=>s.1=a∧s.2.1=b∧s.2.2.2=(t:Int)∧s.2.2.1.length=R∧(∀ i,mkd m i→mkd s.2.2.1 i)∧(∀ i:Nat,(i:Int)∈l.take t→mkd s.2.2.1 i)∧TryF R E a b m s.1 s.2.1 s.2.2.1)
        ⟨rfl,rfl,rfl,hml,fun _ h=>h,fun i hi=>by simp at hi,rfl,rfl,fun i h1 h2=>absurd h1 h2⟩ ?_
      rintro t ⟨a',b',m',t'⟩ ht ⟨e1,e2,e3,hm1,hm2,hm3,hF⟩
      simp only at e1 e2 e3 hm1 hm2 hm3 hF
      subst e1; subst e2; subst e3
      unfold matching_kuhn_try_l9 matching_kuhn_try_j12
      simp only
      by_cases htl:t < l.length
      · have hw:wa .i64 (t:Int) 1=((t+1:Nat):Int):=wa1 (by omega)
        obtain ⟨i,hi⟩:∃ i:Nat,l[t]?=some (i:Int):=by
          have:=hlr _ (List.getElem_mem htl)
          exact ⟨l[t].toNat,by rw [List.getElem?_eq_getElem htl]; congr 1; omega⟩
        have hi0:getI l (t:Int)=some (i:Int):=hi
        have hiR:i < R:=by have:=hlr _ (mem_get hi); omega
        have hie:inE E j i:=⟨l,hl,mem_get hi⟩
        rw [if_pos (by omega),bindS hi0,hw]
        obtain ⟨q,hq⟩:∃ q,m'[i]?=some q:=⟨m'[i]'(by omega),by simp [hm1,hiR]⟩
        have hq0:getI m' (i:Int)=some q:=hq
        rw [bindS hq0]
        cases q with
        | true=>
          rw [if_pos rfl,ret_some,vq_l]
          refine ⟨htl,rfl,rfl,rfl,hm1,hm2,fun r hr=>?_,hF⟩
          rcases (mts hi).1 hr with h | h
          · exact hm3 r h
          · have:r=i:=by omega
            subst this; exact hq
        | false=>
          have hnm':¬ mkd m' i:=by unfold mkd; rw [hq]; simp
          have hnm:¬ mkd m i:=fun h=>hnm' (hm2 i h)
          obtain ⟨c,hc⟩:∃ c,b'[i]?=some c:=⟨b'[i]'(by omega),by simp [hbl,hiR]⟩
          have hc0:getI b' (i:Int)=some c:=hc
          rw [if_neg (by simp),bindS (setI_lt (by omega)),bindS hc0]
          have hms:∀ r,mkd (m'.set i true) r↔r=i∨mkd m' r:=fun r=>mkd_set (by omega)
          have hcnt:=count_set hq
          have hcm:=count_mono (m:=m) (m':=m') (by omega) hm2
          by_cases hf:c= -1
          · subst hf
            rw [if_pos rfl]
            rw [obs]
            simp only [if_true]
            rw [bindS (setI_lt (by omega)),bindS (setI_lt (by omega)),ret_some,vq_r]
            have hT:=take_row (a':=a') (b':=b') hCs hj hiR hx hxm hnm hie (by rw [if_pos hc]; exact hCs) rfl rfl (fun c h=>absurd rfl h) (fun _ _=>rfl) (fun i c h1 h2=>⟨c,h1,h2⟩) (fun c i h1 h2=>⟨i,h1,h2⟩)
            refine ⟨by simp [hm1],fun r hr=>(hms r).2 (.inr (hm2 r hr)),fun h=>(by cases h),fun h=>(by cases h),fun _=>hT,fun D hD=>?_⟩
            have hnD:¬ D i:=by
              intro h
              obtain ⟨c,c1,_⟩:=hD i h
              rw [hc] at c1
              have:=Option.some.inj c1
              omega
            refine ⟨fun h=>absurd (h i hie) hnD,fun r hr=>?_⟩
            simp only
            rw [List.getElem?_set,if_neg]
            rintro rfl; exact hnD hr
          · obtain ⟨hc1,hc2⟩:=hCs.cr i c hc hf
            obtain ⟨c,rfl⟩:∃ c':Nat,c=(c':Int):=⟨c.toNat,by omega⟩
            obtain ⟨hac,hice⟩:=hCs.col i c hc hf (by omega)
            simp only [Int.toNat_natCast] at hac hice
            rw [if_neg hf,bindS hc0,ret_bind,ret_bind]
            refine ret_call (ih (a:=a') (b:=b') (m:=m'.set i true) (j:=c) (x:=(i:Int)) hCs (by simp [hm1]) (by omega) hac (.inr (by simpa using (hms i).2 (.inl rfl))) (by omega)) ?_
            rintro ⟨a2,b2,m2,ok⟩ hO
            have o1:=hO.ml; have o2:=hO.mono; have o3:=hO.all; have o4:=hO.f; have o5:=hO.t; have o6:=hO.dead
            simp only at o1 o2 o3 o4 o5 o6
            simp only [ret_some]
            cases ok with
            | true=>
              have hT:=o5 rfl
              simp only [if_true]
              have h2l:=hT.cs.al
              have h2b:=hT.cs.bl
              have hjc:j≠c:=by
                rintro rfl
                rw [hac] at hx
                have:=Option.some.inj hx
                rcases hxm with h | h
                · omega
                · rw [← this] at h; exact hnm (by simpa using h)
              have haj:a2[j]?=a'[j]?:=by
                by_cases he:a2[j]?=a'[j]?
                · exact he
                · exfalso
                  obtain ⟨r,r1,r2⟩:=hT.ca j hjc he
                  have h3:=(hCs.col r j r2 (by omega) (by omega)).1
                  simp only [Int.toNat_natCast] at h3
                  rw [hx] at h3
                  have:=Option.some.inj h3
                  rcases hxm with h | h
                  · omega
                  · rw [this] at h
                    exact r1 ((hms r).2 (.inr (hm2 r (by simpa using h))))
              rw [bindS (setI_lt (by omega)),bindS (setI_lt (by omega)),ret_some,vq_r]
              have hT2:=take_row (a':=a2) (b':=b2) hCs hj hiR hx hxm hnm hie (by rw [if_neg (by rw [hc]; intro h; have:=Option.some.inj h; omega)]; exact hT.cs) haj (hT.cb i ((hms i).2 (.inl rfl)))
                (fun c' h=>by
                  by_cases hcc:c'=c
                  · subst hcc; exact ⟨i,hnm,hc⟩
                  · obtain ⟨r,r1,r2⟩:=hT.ca c' hcc h
                    exact ⟨r,fun hr=>r1 ((hms r).2 (.inr (hm2 r hr))),r2⟩)
                (fun r hr=>hT.cb r ((hms r).2 (.inr (hm2 r hr)))) hT.kb hT.ka
              refine ⟨o1,fun r hr=>o2 r ((hms r).2 (.inr (hm2 r hr))),fun h=>(by cases h),fun h=>(by cases h),fun _=>hT2,fun D hD=>?_⟩
              obtain ⟨d1,d2⟩:=o6 D hD
              have hnD:¬ D i:=by
                intro h
                obtain ⟨c',c1,c3⟩:=hD i h
                rw [hc] at c1
                have:=Option.some.inj c1
                have:c'=c:=by omega
                subst this
                have:=d1 c3
                cases this
              refine ⟨fun h=>absurd (h i hie) hnD,fun r hr=>?_⟩
              simp only
              rw [List.getElem?_set,if_neg]
              · exact d2 r hr
              · rintro rfl; exact hnD hr
            | false=>
              have hf2:=o4 rfl
              obtain ⟨f1,f2,f3⟩:=hf2
              subst f1; subst f2
              simp only [if_false,Bool.false_eq_true]
              rw [ret_some,vq_l]
              refine ⟨htl,rfl,rfl,rfl,o1,fun r hr=>o2 r ((hms r).2 (.inr (hm2 r hr))),fun r hr=>?_,rfl,rfl,fun r r1 r2=>?_⟩
              · rcases (mts hi).1 hr with h | h
                · exact o2 r ((hms r).2 (.inr (hm3 r h)))
                · have:r=i:=by omega
                  subst this; exact o2 r ((hms r).2 (.inl rfl))
              · by_cases hri:r=i
                · subst hri
                  exact ⟨c,hc,o3 rfl⟩
                · by_cases hrm:mkd m' r
                  · obtain ⟨c',c1,c2⟩:=hF.new r hrm r2
                    exact ⟨c',c1,fun i' h=>o2 i' ((hms i').2 (.inr (c2 i' h)))⟩
                  · exact f3 r r1 (fun h=>((hms r).1 h).elim hri hrm)
      · rw [if_neg (by omega),ret_some,vq_r]
        rw [take_all (by omega)] at hm3
        refine ⟨hm1,hm2,fun _ i hi=>?_,fun _=>hF,fun h=>(by cases h),fun D hD=>⟨fun _=>rfl,fun _ _=>rfl⟩⟩
        obtain ⟨l',h1,h2⟩:=hi
        rw [hl] at h1
        cases h1
        exact hm3 i h2
    · rintro (⟨a',b',m'⟩ | ⟨a',b',m'⟩) h
      · simp only [ret_some]; exact h
      · simp only [ret_some]; exact h
def Fin (R C:Nat) (E:List (List Int)) (a b:List Int) (D:Nat→Prop):Prop:=Cs R C E a b (-1)∧Dead E b D∧∀ c,c < C→a[c]?=some (-1)→∀ i,inE E c i→D i
theorem full_ok {n:Nat} (hn:n≤100000) (x:Int):matching_full (n:Int) x=some (List.replicate n x):=by
  unfold matching_full
  have h1:loop (matching_full_l1 (List.replicate n 0) x) (List.replicate n 0,0)=some (List.replicate n x):=by
    refine Ret.eq ?_
    refine ret_loop n (fun k (t:List Int×Int)=>t=(List.replicate k x++List.replicate (n - k) 0,(k:Int))) (by simp) ?_
    rintro k _ hk rfl
    unfold matching_full_l1
    simp only
    by_cases hkn:k < n
    · have hw:wa .i64 (k:Int) 1=((k+1:Nat):Int):=wa1 (by omega)
      rw [if_pos (by simp; omega),bindS (setI_lt (by simp; omega)),hw,ret_some,vq_l]
      refine ⟨hkn,?_⟩
      congr 1
      rw [List.set_append_right _ _ (by simp),List.length_replicate,Nat.sub_self,show n - k=(n - (k+1))+1 by omega,List.replicate_succ,List.set_cons_zero,List.replicate_succ',List.append_assoc]
      rfl
    · rw [if_neg (by simp; omega),ret_some,vq_r,show k=n by omega]
      simp
  rw [bindS (mkL_nat 0 n (by omega)),bindS h1]
theorem count_none (n:Nat):(List.replicate n false).count false=n:=by simp
structure Mx (R C:Nat) (E:List (List Int)) (k:Nat) (a b:List Int) (m:List Bool) (D:Nat→Prop):Prop where
  cs:Cs R C E a b (-1)
  dd:Dead E b D
  dn:∀ c,c < k→a[c]?=some (-1)→∀ i,inE E c i→D i
  td:∀ c,k≤c→c < C→a[c]?=some (-1)
theorem round_next {R C:Nat} {E:List (List Int)} {k:Nat} {a b:List Int} {m0:List Bool} {D:Nat→Prop} (hM:Mx R C E k a b m0 D) (hkn:k < C) {o:List Int×List Int×List Bool×Bool} (hO:TryO R C E a b (List.replicate R false) k (-1) o):∃ D',Mx R C E (k+1) o.1 o.2.1 o.2.2.1 D':=by
  obtain ⟨a',b',m',ok⟩:=o
  have hCs:=hM.cs
  have o3:=hO.all; have o4:=hO.f; have o5:=hO.t; have o6:=hO.dead
  simp only at o3 o4 o5 o6
  have hno:∀ i,¬ mkd (List.replicate R false) i:=by
    intro i h
    have:=List.eq_of_mem_replicate (mem_get h)
    cases this
  cases ok with
  | true=>
    obtain ⟨t1,t2,t3,t4,t5,t6⟩:=o5 rfl
    obtain ⟨_,d2⟩:=o6 D hM.dd
    simp only
    refine ⟨D,t1,fun i hi=>?_,fun c hc hac i hi=>?_,fun c h1 h2=>?_⟩
    · obtain ⟨c,c1,c2⟩:=hM.dd i hi
      exact ⟨c,by rw [d2 i hi]; exact c1,c2⟩
    · by_cases hck:c=k
      · subst hck
        obtain ⟨r,r1⟩:=t2
        rw [hac] at r1
        have:=Option.some.inj r1
        omega
      · obtain ⟨q,hq⟩:∃ q,a[c]?=some q:=⟨a[c]'(by rw [hCs.al]; omega),by simp [hCs.al,show c < C by omega]⟩
        by_cases hq1:q= -1
        · subst hq1
          exact hM.dn c (by omega) hq i hi
        · obtain ⟨q',h1,h2⟩:=t6 c q hq hq1
          rw [hac] at h1
          exact absurd (Option.some.inj h1).symm h2
    · have h3:=hM.td c (by omega) h2
      by_cases he:a'[c]?=a[c]?
      · rw [he]; exact h3
      · obtain ⟨r,r1,r2⟩:=t3 c (by omega) he
        have:=(hCs.col r c r2 (by omega) (by omega)).1
        simp only [Int.toNat_natCast] at this
        rw [h3] at this
        have:=Option.some.inj this
        omega
  | false=>
    obtain ⟨f1,f2,f3⟩:=o4 rfl
    have f4:=o3 rfl
    subst f1; subst f2
    simp only
    refine ⟨fun i=>D i∨mkd m' i,hCs,fun i hi=>?_,fun c hc hac i hi=>?_,fun c h1 h2=>hM.td c (by omega) h2⟩
    · rcases hi with h | h
      · obtain ⟨c,c1,c2⟩:=hM.dd i h
        exact ⟨c,c1,fun i' h'=>.inl (c2 i' h')⟩
      · obtain ⟨c,c1,c2⟩:=f3 i h (hno i)
        exact ⟨c,c1,fun i' h'=>.inr (c2 i' h')⟩
    · by_cases hck:c=k
      · subst hck; exact .inr (f4 i hi)
      · exact .inl (hM.dn c (by omega) hac i hi)
theorem round_0 {R C:Nat} {E:List (List Int)}:Mx R C E 0 (List.replicate C (-1)) (List.replicate R (-1)) [] (fun _=>False):=
  ⟨⟨by simp,by simp,fun i c h1 h2=>absurd (List.eq_of_mem_replicate (mem_get h1)) h2,fun i c h1 h2=>absurd (List.eq_of_mem_replicate (mem_get h1)) h2,fun i c h1 h2=>absurd (List.eq_of_mem_replicate (mem_get h1)) h2⟩,fun i h=>h.elim,fun c h=>by omega,fun c h1 h2=>by simp [h2]⟩
theorem fuel_big:∃ f,FUEL=f+100001:=⟨FUEL - 100001,by unfold FUEL; omega⟩
theorem rounds_ok {R C:Nat} {E:List (List Int)} (hE:KB R C E) (hR:R≤100000) (hC:C≤100000):
    Ret (loop (matching_matched_l1 (C:Int) (R:Int) E) (List.replicate C (-1),List.replicate R (-1),[],0)) (fun o=>∃ D,Fin R C E o.1 o.2.1 D):=by
  obtain ⟨f,hf⟩:=fuel_big
  refine ret_loop C (fun k (t:List Int×List Int×List Bool×Int)=>t.2.2.2=(k:Int)∧∃ D,Mx R C E k t.1 t.2.1 t.2.2.1 D) ⟨rfl,_,round_0⟩ ?_
  rintro k ⟨a,b,m,t⟩ hk ⟨e1,D,hM⟩
  simp only at e1 hM
  subst e1
  unfold matching_matched_l1
  simp only
  have hCs:=hM.cs
  by_cases hkn:k < C
  · have hw:wa .i64 (k:Int) 1=((k+1:Nat):Int):=wa1 (by omega)
    rw [if_pos (by omega),bindS (mkL_nat false R (by omega)),ret_bind]
    refine ret_call (try_ok hE FUEL hCs (by simp) hkn (hM.td k (by omega) hkn) (.inl rfl) (by rw [count_none]; omega)) ?_
    intro o hO
    rw [ret_some,hw,vq_l]
    exact ⟨hkn,rfl,round_next hM hkn hO⟩
  · rw [if_neg (by omega),ret_some,vq_r]
    have:k=C:=by omega
    subst this
    exact ⟨D,hCs,hM.dd,hM.dn⟩
end Km
namespace Km
open Pl Sx Go M Vc
def tr (l:List Bool) (i:Nat):Prop:=l[i]?=some true
structure Clo (E:List (List Int)) (a b:List Int) (C:Nat) (X Y:Nat→Prop):Prop where
  s:∀ c,c < C→a[c]?=some (-1)→X c
  r:∀ c i,X c→inE E c i→Y i
  c:∀ (i c:Nat),Y i→b[i]?=some (c:Int)→X c
structure Rch (R C:Nat) (E:List (List Int)) (a b:List Int) (rows cols:List Bool):Prop where
  rl:rows.length=R
  cl:cols.length=C
  clo:Clo E a b C (tr cols) (tr rows)
  lst:∀ X Y:Nat→Prop,Clo E a b C X Y→(∀ c,tr cols c→X c)∧∀ i,tr rows i→Y i
theorem tr_set {l:List Bool} {i k:Nat} (hi:i < l.length):tr (l.set i true) k↔k=i∨tr l k:=mkd_set hi
theorem tr_ext {l m:List Bool} (h:l.length=m.length) (he:∀ i,tr l i↔tr m i):l=m:=by
  apply List.ext_getElem?
  intro i
  by_cases hi:i < l.length
  · have h1:=he i
    simp only [tr] at h1
    rw [List.getElem?_eq_getElem hi,List.getElem?_eq_getElem (by omega)] at h1 ⊢
    congr 1
    cases h2:l[i]<;>cases h3:m[i]<;>simp_all
  · rw [List.getElem?_eq_none (by omega),List.getElem?_eq_none (by omega)]
theorem Rch.uniq {R C:Nat} {E:List (List Int)} {a b:List Int} {r c r' c':List Bool} (h:Rch R C E a b r c) (h':Rch R C E a b r' c'):r=r'∧c=c':=by
  obtain ⟨h1,h2⟩:=h.lst _ _ h'.clo
  obtain ⟨h3,h4⟩:=h'.lst _ _ h.clo
  exact ⟨tr_ext (h.rl.trans h'.rl.symm) fun i=>⟨h2 i,h4 i⟩,tr_ext (h.cl.trans h'.cl.symm) fun i=>⟨h1 i,h3 i⟩⟩
structure Rw (R C:Nat) (E:List (List Int)) (a b:List Int) (rows cols:List Bool) (todo:List Int):Prop where
  rl:rows.length=R
  cl:cols.length=C
  td:∀ c,c∈todo→0≤c∧c < (C:Int)
  s:∀ c,c < C→a[c]?=some (-1)→tr cols c
  r:∀ c i,tr cols c→(c:Int)∉todo→inE E c i→tr rows i
  c:∀ (i c:Nat),tr rows i→b[i]?=some (c:Int)→tr cols c
  lst:∀ X Y:Nat→Prop,Clo E a b C X Y→(∀ c,tr cols c→X c)∧(∀ i,tr rows i→Y i)
  tc:∀ c:Nat,(c:Int)∈todo→tr cols c
  bd:todo.length+cols.count false≤C
theorem Rw.done {R C:Nat} {E:List (List Int)} {a b:List Int} {rows cols:List Bool} (h:Rw R C E a b rows cols []):Rch R C E a b rows cols:=
  ⟨h.rl,h.cl,⟨h.s,fun c i h1 h2=>h.r c i h1 (by simp) h2,h.c⟩,h.lst⟩
structure Ri (R C:Nat) (E:List (List Int)) (a b:List Int) (j:Nat) (p:List Int) (rows cols:List Bool) (todo:List Int) (B:Nat):Prop where
  rl:rows.length=R
  cl:cols.length=C
  td:∀ c,c∈todo→0≤c∧c < (C:Int)
  s:∀ c,c < C→a[c]?=some (-1)→tr cols c
  r:∀ c i,tr cols c→(c:Int)∉todo→c≠j→inE E c i→tr rows i
  rj:∀ i:Nat,(i:Int)∈p→tr rows i
  c:∀ (i c:Nat),tr rows i→b[i]?=some (c:Int)→tr cols c
  lst:∀ X Y:Nat→Prop,Clo E a b C X Y→(∀ c,tr cols c→X c)∧(∀ i,tr rows i→Y i)
  tc:∀ c:Nat,(c:Int)∈todo→tr cols c
  bd:todo.length+cols.count false≤B
  cj:tr cols j
theorem Ri.step {R C:Nat} {E:List (List Int)} {a b:List Int} (hCs:Cs R C E a b (-1)) {j:Nat} {p:List Int} {rows cols:List Bool} {todo:List Int} {B:Nat} (h:Ri R C E a b j p rows cols todo B) {i:Nat} (hi:i < R) (hie:inE E j i) {c:Int} (hc:b[i]?=some c):
    (c= -1∨(∃ d:Nat,c=(d:Int)∧tr cols d)→Ri R C E a b j (p++[(i:Int)]) (rows.set i true) cols todo B)∧(∀ d:Nat,c=(d:Int)→d < C→cols[d]?=some false→∀ todo':List Int,todo'.length=todo.length+1→(∀ x,x∈todo'↔x∈todo∨x=(d:Int))→Ri R C E a b j (p++[(i:Int)]) (rows.set i true) (cols.set d true) todo' B):=by
  have hrl:=h.rl
  have hcl:=h.cl
  have hR:∀ k,tr (rows.set i true) k↔k=i∨tr rows k:=fun k=>tr_set (by omega)
  constructor
  · intro hcc
    refine ⟨by simp [hrl],hcl,h.td,h.s,fun c' i' h1 h2 h3 h4=>(hR i').2 (.inr (h.r c' i' h1 h2 h3 h4)),fun k hk=>(hR k).2 ?_,fun k c' h1 h2=>?_,fun X Y hXY=>?_,h.tc,h.bd,h.cj⟩
    · rcases List.mem_append.1 hk with hk | hk
      · exact .inr (h.rj k hk)
      · simp at hk; exact .inl (by omega)
    · rcases (hR k).1 h1 with rfl | h1
      · rw [hc] at h2
        have:=Option.some.inj h2
        rcases hcc with h5 | ⟨d,h5,h6⟩
        · omega
        · have:d=c':=by omega
          subst this; exact h6
      · exact h.c k c' h1 h2
    · obtain ⟨l1,l2⟩:=h.lst X Y hXY
      refine ⟨l1,fun k hk=>?_⟩
      rcases (hR k).1 hk with rfl | hk
      · exact hXY.r j k (l1 j h.cj) hie
      · exact l2 k hk
  · intro d hd hdC hdf todo' htl htm
    subst hd
    have hT:∀ k,tr (cols.set d true) k↔k=d∨tr cols k:=fun k=>tr_set (by omega)
    refine ⟨by simp [hrl],by simp [hcl],fun x hx=>?_,fun c' h1 h2=>(hT c').2 (.inr (h.s c' h1 h2)),fun c' i' h1 h2 h3 h4=>(hR i').2 (.inr ?_),fun k hk=>(hR k).2 ?_,fun k c' h1 h2=>(hT c').2 ?_,fun X Y hXY=>?_,fun c' hc'=>(hT c').2 ?_,?_,(hT j).2 (.inr h.cj)⟩
    · rcases (htm x).1 hx with hx | rfl
      · exact h.td x hx
      · omega
    · have h5:c'≠d:=by
        rintro rfl
        exact h2 ((htm _).2 (.inr rfl))
      rcases (hT c').1 h1 with h6 | h6
      · exact absurd h6 h5
      · exact h.r c' i' h6 (fun h7=>h2 ((htm _).2 (.inl h7))) h3 h4
    · rcases List.mem_append.1 hk with hk | hk
      · exact .inr (h.rj k hk)
      · simp at hk; exact .inl (by omega)
    · rcases (hR k).1 h1 with rfl | h1
      · rw [hc] at h2
        have:=Option.some.inj h2
        exact .inl (by omega)
      · exact .inr (h.c k c' h1 h2)
    · obtain ⟨l1,l2⟩:=h.lst X Y hXY
      have hYi:=hXY.r j i (l1 j h.cj) hie
      refine ⟨fun k hk=>?_,fun k hk=>?_⟩
      · rcases (hT k).1 hk with rfl | hk
        · exact hXY.c i k hYi hc
        · exact l1 k hk
      · rcases (hR k).1 hk with rfl | hk
        · exact hYi
        · exact l2 k hk
    · rcases (htm _).1 hc' with h5 | h5
      · exact .inr (h.tc c' h5)
      · exact .inl (by omega)
    · have:=count_set hdf
      have:=h.bd
      omega
theorem reach_in {R C:Nat} {E:List (List Int)} {a b:List Int} {mm:List Bool} (hCs:Cs R C E a b (-1)) (hE:KB R C E) (hC:C≤100000) {j:Nat} {l:List Int} (hl:E[j]?=some l) {rows cols:List Bool} {todo:List Int} {B:Nat} (hB:B≤1000000) (h:Ri R C E a b j [] rows cols todo B):
    Ret (loop (matching_Reachable_l24 l (E,a,b,mm)) (rows,cols,todo,0)) (fun o=>Ri R C E a b j l o.1 o.2.1 o.2.2 B):=by
  have hll:=hE.sz j l hl
  refine ret_loop l.length (fun k (t:List Bool×List Bool×List Int×Int)=>t.2.2.2=(k:Int)∧Ri R C E a b j (l.take k) t.1 t.2.1 t.2.2.1 B) ⟨rfl,by simpa using h⟩ ?_
  rintro k ⟨r,c,q,t⟩ hk ⟨e1,hI⟩
  simp only at e1 hI
  subst e1
  unfold matching_Reachable_l24 matching_Reachable_j26
  simp only
  by_cases hkl:k < l.length
  · have hw:wa .i64 (k:Int) 1=((k+1:Nat):Int):=wa1 (by omega)
    obtain ⟨i,hi⟩:∃ i:Nat,l[k]?=some (i:Int):=by
      have:=hE.rng j l hl _ (List.getElem_mem hkl)
      exact ⟨l[k].toNat,by rw [List.getElem?_eq_getElem hkl]; congr 1; omega⟩
    have hi0:getI l (k:Int)=some (i:Int):=hi
    have hiR:i < R:=by have:=hE.rng j l hl _ (mem_get hi); omega
    have hie:inE E j i:=⟨l,hl,mem_get hi⟩
    have hrl:=hI.rl
    have hcl:=hI.cl
    have hbl:=hCs.bl
    have hq:=hI.bd
    obtain ⟨d,hd⟩:∃ d,b[i]?=some d:=⟨b[i]'(by omega),by simp [hbl,hiR]⟩
    have hd0:getI b (i:Int)=some d:=hd
    obtain ⟨s1,s2⟩:=hI.step hCs hiR hie hd
    rw [← tks hi] at s1 s2
    rw [if_pos (by omega),bindS hi0,bindS (setI_lt (by omega)),bindS hd0,hw]
    by_cases hd1:d= -1
    · rw [if_pos hd1,obs,if_neg (by simp),ret_some,vq_l]
      exact ⟨hkl,rfl,s1 (.inl hd1)⟩
    · obtain ⟨d1,d2⟩:=hCs.cr i d hd hd1
      obtain ⟨d,rfl⟩:∃ d':Nat,d=(d':Int):=⟨d.toNat,by omega⟩
      rw [if_neg hd1]
      obtain ⟨z,hz⟩:∃ z,c[d]?=some z:=⟨c[d]'(by omega),by simp [show d < c.length by omega]⟩
      have hz0:getI c (d:Int)=some z:=hz
      rw [bindS hz0,obs]
      cases z with
      | true=>
        rw [if_neg (by simp),ret_some,vq_l]
        exact ⟨hkl,rfl,s1 (.inr ⟨d,rfl,hz⟩)⟩
      | false=>
        have hc0:=count_set hz
        rw [if_pos (by simp),bindS (setI_lt (by omega)),bindS (app_small (by simp; omega)),ret_some,vq_l]
        exact ⟨hkl,rfl,s2 d rfl (by omega) hz _ (by simp) (fun x=>by simp)⟩
  · rw [if_neg (by omega),ret_some,vq_r]
    rw [take_all (by omega)] at hI
    exact hI
theorem Rw.enter {R C:Nat} {E:List (List Int)} {a b:List Int} {rows cols:List Bool} {todo todo':List Int} {j:Nat} (h:Rw R C E a b rows cols todo) (hj:(j:Int)∈todo) (hm:∀ x,x∈todo↔x∈todo'∨x=(j:Int)) (hl:todo'.length+1=todo.length):
    Ri R C E a b j [] rows cols todo' (C - 1):=by
  have:=h.bd
  refine ⟨h.rl,h.cl,fun c hc=>h.td c ((hm c).2 (.inl hc)),h.s,fun c i h1 h2 h3 h4=>h.r c i h1 (fun h5=>?_) h4,fun i hi=>by simp at hi,h.c,h.lst,fun c hc=>h.tc c ((hm _).2 (.inl hc)),by omega,h.tc j hj⟩
  rcases (hm _).1 h5 with h6 | h6
  · exact h2 h6
  · exact h3 (by omega)
theorem Ri.leave {R C:Nat} {E:List (List Int)} {a b:List Int} {rows cols:List Bool} {todo:List Int} {j:Nat} {l:List Int} (hl:E[j]?=some l) {B:Nat} (hB:B+1≤C) (h:Ri R C E a b j l rows cols todo B):Rw R C E a b rows cols todo:=by
  have:=h.bd
  refine ⟨h.rl,h.cl,h.td,h.s,fun c i h1 h2 h4=>?_,h.c,h.lst,h.tc,by omega⟩
  by_cases hcj:c=j
  · subst hcj
    obtain ⟨l',e1,e2⟩:=h4
    rw [hl] at e1
    cases e1
    exact h.rj i e2
  · exact h.r c i h1 h2 hcj h4
theorem reach_out {R C:Nat} {E:List (List Int)} {a b:List Int} {mm:List Bool} (hCs:Cs R C E a b (-1)) (hE:KB R C E) (hC:C≤100000) {rows cols:List Bool} {todo:List Int} (h:Rw R C E a b rows cols todo):
    Ret (loop (matching_Reachable_l19 (E,a,b,mm)) (rows,cols,todo)) (fun o=>Rch R C E a b o.1 o.2):=by
  refine ret_loop C (fun k (t:List Bool×List Bool×List Int)=>Rw R C E a b t.1 t.2.1 t.2.2∧t.2.2.length+t.2.1.count false+k≤C) ⟨h,by have:=h.bd; simpa using this⟩ ?_
  rintro k ⟨r,c,q⟩ hk ⟨hI,hb⟩
  simp only at hI hb
  unfold matching_Reachable_l19
  simp only
  cases q with
  | nil=>
    rw [if_neg (by simp),ret_some,vq_r]
    exact hI.done
  | cons x q=>
    have hx:=hI.td x (by simp)
    obtain ⟨j,rfl⟩:∃ j:Nat,x=(j:Int):=⟨x.toNat,by omega⟩
    have hbl:=hI.bd
    simp only [List.length_cons] at hb hbl
    obtain ⟨l,hl⟩:∃ l,E[j]?=some l:=⟨E[j]'(by rw [hE.len]; omega),by simp [hE.len,show j < C by omega]⟩
    have hl0:getI E (j:Int)=some l:=hl
    have hsl:sli ((j:Int)::q) 1 ((((j:Int)::q).length:Nat):Int)=some q:=by
      unfold sli subL
      rw [if_pos (by simp; omega)]
      simp
    have hg:getI ((j:Int)::q) 0=some (j:Int):=rfl
    rw [if_pos (by simp),bindS hg,bindS hsl,bindS hl0,ret_bind]
    have hE1:=hI.enter (todo':=q) (j:=j) (by simp) (fun x=>by simp [or_comm]) (by simp)
    have hE2:Ri R C E a b j [] r c q (C - 1 - k):=⟨hE1.rl,hE1.cl,hE1.td,hE1.s,hE1.r,hE1.rj,hE1.c,hE1.lst,hE1.tc,by omega,hE1.cj⟩
    refine ret_call (reach_in hCs hE hC hl (by omega) hE2) ?_
    rintro ⟨r2,c2,q2⟩ h2
    simp only at h2
    rw [ret_some,vq_l]
    have:=h2.bd
    exact ⟨by omega,h2.leave hl (by omega),by simp only; omega⟩
theorem reach_start {R C:Nat} {E:List (List Int)} {a b:List Int} {mm:List Bool} (hCs:Cs R C E a b (-1)) (hC:C≤100000):
    Ret (loop (matching_Reachable_l4 (E,a,b,mm)) (List.replicate C false,[],0)) (fun o=>Rw R C E a b (List.replicate R false) o.1 o.2):=by
  have hal:=hCs.al
  have hno:∀ (n i:Nat),¬ tr (List.replicate n false) i:=by
    intro n i h
    have:=List.eq_of_mem_replicate (mem_get h)
    cases this
  refine ret_loop C (fun k (t:List Bool×List Int×Int)=>t.2.2=(k:Int)∧t.1.length=C∧(∀ c,tr t.1 c↔c < k∧a[c]?=some (-1))∧(∀ x,x∈t.2.1↔∃ c:Nat,x=(c:Int)∧c < k∧a[c]?=some (-1))∧t.2.1.length+t.1.count false≤C)
    ⟨rfl,by simp,fun c=>⟨fun h=>absurd h (hno _ _),fun h=>by omega⟩,fun x=>⟨fun h=>by simp at h,fun ⟨c,_,h,_⟩=>by omega⟩,by simp⟩ ?_
  rintro k ⟨c,q,t⟩ hk ⟨e1,e2,e3,e4,e5⟩
  simp only at e1 e2 e3 e4 e5
  subst e1
  unfold matching_Reachable_l4 matching_Reachable_j27
  simp only
  by_cases hkn:k < C
  · have hw:wa .i64 (k:Int) 1=((k+1:Nat):Int):=wa1 (by omega)
    obtain ⟨z,hz⟩:∃ z,a[k]?=some z:=⟨a[k]'(by omega),by simp [hal,hkn]⟩
    have hz0:getI a (k:Int)=some z:=hz
    rw [if_pos (by omega),bindS hz0,hw]
    by_cases hz1:z= -1
    · subst hz1
      have hkf:c[k]?=some false:=by
        have h1:¬ tr c k:=fun h=>by have:=(e3 k).1 h; omega
        unfold tr at h1
        rw [List.getElem?_eq_getElem (by omega)] at h1 ⊢
        congr 1
        cases h2:c[k]<;>simp_all
      have hcs:=count_set hkf
      rw [if_pos rfl,bindS (setI_lt (by omega)),bindS (app_small (by simp; omega)),ret_some,vq_l]
      refine ⟨hkn,rfl,by simp [e2],fun c'=>?_,fun x=>?_,by simp; omega⟩
      · rw [tr_set (by omega),e3]
        constructor
        · rintro (rfl | h)
          · exact ⟨by omega,hz⟩
          · exact ⟨by omega,h.2⟩
        · rintro ⟨h1,h2⟩
          by_cases h3:c'=k
          · exact .inl h3
          · exact .inr ⟨by omega,h2⟩
      · rw [List.mem_append,e4,List.mem_singleton]
        constructor
        · rintro (⟨c',h1,h2,h3⟩ | rfl)
          · exact ⟨c',h1,by omega,h3⟩
          · exact ⟨k,rfl,by omega,hz⟩
        · rintro ⟨c',h1,h2,h3⟩
          by_cases h4:c'=k
          · subst h4; exact .inr h1
          · exact .inl ⟨c',h1,by omega,h3⟩
    · rw [if_neg hz1,ret_some,vq_l]
      refine ⟨hkn,rfl,e2,fun c'=>?_,fun x=>?_,e5⟩
      · simp only
        rw [e3]
        constructor
        · rintro ⟨h1,h2⟩; exact ⟨by omega,h2⟩
        · rintro ⟨h1,h2⟩
          refine ⟨?_,h2⟩
          by_cases h3:c'=k
          · subst h3; rw [hz] at h2; exact absurd (Option.some.inj h2) hz1
          · omega
      · simp only
        rw [e4]
        constructor
        · rintro ⟨c',h1,h2,h3⟩; exact ⟨c',h1,by omega,h3⟩
        · rintro ⟨c',h1,h2,h3⟩
          refine ⟨c',h1,?_,h3⟩
          by_cases h4:c'=k
          · subst h4; rw [hz] at h3; exact absurd (Option.some.inj h3) hz1
          · omega
  · rw [if_neg (by omega),ret_some,vq_r]
    have:k=C:=by omega
    subst this
    refine ⟨by simp,e2,fun x hx=>?_,fun c' h1 h2=>(e3 c').2 ⟨h1,h2⟩,fun c' i h1 h2 h3=>?_,fun i c' h1 h2=>absurd h1 (hno _ _),fun X Y hXY=>⟨fun c' h=>?_,fun i h=>absurd h (hno _ _)⟩,fun c' h=>?_,e5⟩
    · obtain ⟨c',h1,h2,h3⟩:=(e4 x).1 hx
      omega
    · exact absurd ((e4 _).2 ⟨c',rfl,(e3 c').1 h1⟩) h2
    · exact hXY.s c' ((e3 c').1 h).1 ((e3 c').1 h).2
    · obtain ⟨c'',h1,h2⟩:=(e4 _).1 h
      have:c''=c':=by omega
      subst this
      exact (e3 c'').2 h2
structure Mat (R C:Nat) (E:List (List Int)) (a b:List Int) (rows cols:List Bool):Prop where
  fin:∃ D,Fin R C E a b D
  rch:Rch R C E a b rows cols
theorem reachable_of {x1 x2:Int} {x3 x5 x7:List Int} {R C:Nat} {E:List (List Int)} (hE:KB R C E) (hR:R≤100000) (hC:C≤100000) (h1:x1=(R:Int)) (h2:x2=(C:Int)) (hEd:matching_Edges x1 x2 x3 x5 x7=some E):
    Ret (matching_Reachable x1 x2 x3 x5 x7) (fun o=>∃ a b mm,matching_matched x1 x2 x3 x5 x7=some (E,a,b,mm)∧Mat R C E a b o.1 o.2):=by
  subst h1; subst h2
  obtain ⟨⟨a,b,mm⟩,r1,D,r2⟩:=rounds_ok hE hR hC
  simp only at r2
  have hm:matching_matched (R:Int) (C:Int) x3 x5 x7=some (E,a,b,mm):=by
    unfold matching_matched
    rw [bindS hEd,bindS (full_ok hC _),bindS (full_ok hR _),bindS r1]
  obtain ⟨⟨c,q⟩,s1,s2⟩:=reach_start (mm:=mm) (E:=E) r2.1 hC
  obtain ⟨⟨r',c'⟩,t1,t2⟩:=reach_out (mm:=mm) r2.1 hE hC s2
  refine ⟨(r',c'),?_,a,b,mm,hm,⟨D,r2⟩,t2⟩
  unfold matching_Reachable
  rw [bindS hm,bindS (mkL_nat false R (by omega)),bindS (mkL_nat false C (by omega)),bindS s1]
  simp only at t1 ⊢
  rw [bindS t1]
theorem list_b {l:List Bool} {v:Bool} (hl:l.length≤100000):matching_List l v=some (coll (fun i=>l[i]?=some v) l.length):=by
  unfold matching_List
  have h1:loop (matching_List_l3 l v) ([],0)=some (coll (fun i=>l[i]?=some v) l.length):=by
    refine Ret.eq ?_
    refine ret_loop l.length (fun k (t:List Int×Int)=>t=(coll (fun i=>l[i]?=some v) k,(k:Int))) rfl ?_
    rintro k _ hk rfl
    unfold matching_List_l3 matching_List_j4
    simp only
    by_cases hkn:k < l.length
    · have hw:wa .i64 (k:Int) 1=((k+1:Nat):Int):=wa1 (by omega)
      have hcl:=coll_len (tm:=fun i=>l[i]?=some v) k
      rw [if_pos (by omega),bindS (getI_lt hkn),hw]
      by_cases hv:l[k]=v
      · rw [if_pos (by simpa using hv),bindS (app_small (by simp; omega)),ret_some,vq_l]
        refine ⟨hkn,?_⟩
        rw [coll,if_pos (by rw [List.getElem?_eq_getElem hkn,hv])]
      · rw [if_neg (by simpa using hv),ret_some,vq_l]
        refine ⟨hkn,?_⟩
        rw [coll,if_neg (by rw [List.getElem?_eq_getElem hkn]; simpa using hv),List.append_nil]
    · rw [if_neg (by omega),ret_some,vq_r,show k=l.length by omega]
  rw [bindS h1]
end Km
namespace Km
open Pl Sx Go M Vc
def off (E:List (List Int)) (j:Nat):Nat:=(E.take j).flatten.length
structure Mv (R C:Nat) (E:List (List Int)) (st ix vl:List Int):Prop where
  len:E.length=C
  asc:∀ l,l∈E→l.Pairwise (· < ·)
  rng:∀ l,l∈E→∀ i,i∈l→0≤i∧i < (R:Int)
  ixe:ix=E.flatten
  sl:st.length=C+1
  ste:∀ j,j≤C→st[j]?=some (off E j:Int)
  vle:vl.length=ix.length
  fin:∀ v,v∈vl→matrix_Check_1 v=some false
theorem off_succ {E:List (List Int)} {j:Nat} {l:List Int} (h:E[j]?=some l):off E (j+1)=off E j+l.length:=by
  unfold off
  rw [tks h,List.flatten_append,List.length_append]
  simp
theorem off_le {E:List (List Int)} {i j:Nat} (h:i≤j):off E i≤off E j:=by
  unfold off
  have:E.take i <+: E.take j:=by
    rw [show i=min i j by omega,← List.take_take]
    exact List.take_prefix _ _
  obtain ⟨t,ht⟩:=this
  rw [← ht,List.flatten_append,List.length_append]
  omega
theorem off_top (E:List (List Int)) {j:Nat}:off E j≤E.flatten.length:=by
  have h:=off_le (E:=E) (i:=j) (j:=max j E.length) (by omega)
  unfold off at h ⊢
  rw [List.take_of_length_le (l:=E) (i:=max j E.length) (by omega)] at h
  exact h
theorem off_all (E:List (List Int)):off E E.length=E.flatten.length:=by
  unfold off; rw [List.take_length]
theorem slice_at:∀ {E:List (List Int)} {j:Nat} {l:List Int},E[j]?=some l→(E.flatten.take (off E (j+1))).drop (off E j)=l
  | [],j,l,h=>by simp at h
  | x::E,0,l,h=>by
    have:x=l:=by simpa using h
    subst this
    simp [off]
  | x::E,j+1,l,h=>by
    have h1:=slice_at (E:=E) (j:=j) (l:=l) (by simpa using h)
    have e1:∀ j,off (x::E) (j+1)=x.length+off E j:=fun j=>by simp [off]
    rw [e1,e1,List.flatten_cons,List.take_length_add_append,List.drop_length_add_append]
    exact h1
theorem Mv.kb {R C:Nat} {E:List (List Int)} {st ix vl:List Int} (h:Mv R C E st ix vl) (hR:R≤100000):KB R C E:=
  ⟨h.len,fun j l hl i hi=>h.rng l (mem_get hl) i hi,fun j l hl=>by
    have:=asc_len (h.asc l (mem_get hl)) (h.rng l (mem_get hl))
    omega⟩
theorem edges_ok {R C:Nat} {E:List (List Int)} {st ix vl:List Int} (h:Mv R C E st ix vl) (hC:C≤100000) (hix:ix.length≤100000) (x1:Int):matching_Edges x1 (C:Int) st ix vl=some E:=by
  have hlen:=h.len
  have h1:loop (matching_Edges_l1 (List.replicate C []) st ix) (List.replicate C [],0)=some E:=by
    refine Ret.eq ?_
    refine ret_loop C (fun k (t:List (List Int)×Int)=>t=(E.take k++List.replicate (C - k) [],(k:Int))) (by simp) ?_
    rintro k _ hk rfl
    unfold matching_Edges_l1
    simp only
    by_cases hkn:k < C
    · have hw:wa .i64 (k:Int) 1=((k+1:Nat):Int):=wa1 (by omega)
      have g1:getI st (k:Int)=some (off E k:Int):=h.ste k (by omega)
      have g2:getI st ((k+1:Nat):Int)=some (off E (k+1):Int):=h.ste (k+1) (by omega)
      have hl:E[k]?=some E[k]:=by simp [hlen,hkn]
      have o1:=off_le (E:=E) (i:=k) (j:=k+1) (by omega)
      have o2:=off_top E (j:=k+1)
      have hsl:sli ix (off E k:Int) (off E (k+1):Int)=some E[k]:=by
        unfold sli subL
        rw [if_pos (by rw [h.ixe]; omega),h.ixe]
        simp only [Int.toNat_natCast]
        rw [slice_at hl]
      rw [if_pos (by simp; omega),bindS g1,hw,bindS g2,bindS hsl,bindS (setI_lt (by simp; omega)),ret_some,vq_l]
      refine ⟨hkn,?_⟩
      congr 1
      have:(E.take k).length=k:=by simp; omega
      rw [List.set_append_right _ _ (by omega),this,Nat.sub_self,show C - k=(C - (k+1))+1 by omega,List.replicate_succ,List.set_cons_zero,tks hl,List.append_assoc]
      rfl
    · rw [if_neg (by simp; omega),ret_some,vq_r,take_all (by omega),show C - k=0 by omega]
      simp
  unfold matching_Edges
  rw [bindS (mkL_nat ([]:List Int) C (by omega)),bindS h1]
theorem sorted_ok {st:List Int} (hl:st.length≤100000) (h:∀ k,∀ hk:k+1 < st.length,st[k]≤st[k+1]):slices_IsSorted_int st=some true:=by
  unfold slices_IsSorted_int
  cases st with
  | nil=>
    have h1:loop (slices_IsSorted_int_l1 []) (ws .i64 (([]:List Int).length:Int) 1)=some (.inl ()):=by
      refine Ret.eq ?_
      refine ret_loop 0 (fun k (t:Int)=>t= -1) (by rw [ws_in (by constructor<;>simp)]; rfl) ?_
      rintro k _ hk rfl
      unfold slices_IsSorted_int_l1
      rw [if_neg (by omega),ret_some,vq_r]
    rw [bindS h1]
  | cons x r=>
    have e0:ws .i64 (((x::r).length:Nat):Int) 1=(r.length:Int):=by
      simp only [List.length_cons] at hl ⊢
      rw [ws_in (by constructor<;>omega)]
      omega
    have hrl:r.length≤100000:=by simp at hl; omega
    have h1:loop (slices_IsSorted_int_l1 (x::r)) (ws .i64 (((x::r).length:Nat):Int) 1)=some (.inl ()):=by
      refine Ret.eq ?_
      refine ret_loop r.length (fun k (t:Int)=>t=((r.length - k:Nat):Int)) (by rw [e0]; simp) ?_
      rintro k _ hk rfl
      unfold slices_IsSorted_int_l1
      simp only [List.length_cons] at hl
      by_cases hkn:k < r.length
      · have e1:ws .i64 ((r.length - k:Nat):Int) 1=((r.length - (k+1):Nat):Int):=by
          rw [ws_in (by constructor<;>omega)]
          omega
        have i1:r.length - k < (x::r).length:=by simp; omega
        have i2:r.length - (k+1) < (x::r).length:=by simp; omega
        have h2:=h (r.length - (k+1)) (by simp; omega)
        have h3:¬ (x::r)[r.length - k] < (x::r)[r.length - (k+1)]:=by
          have:(x::r)[r.length - (k+1)+1]'(by simp; omega)=(x::r)[r.length - k]:=by congr 1; omega
          rw [this] at h2
          omega
        rw [if_pos (by omega),bindS (getI_lt i1),e1,bindS (getI_lt i2),bindS (less_ok _ _),if_neg (by simpa using h3),ret_some,vq_l]
        exact ⟨hkn,rfl⟩
      · rw [if_neg (by omega),ret_some,vq_r]
    rw [bindS h1]
theorem col_ok {l:List Int} {R:Nat} (h:l.Pairwise (· < ·)) (hr:∀ x,x∈l→0≤x∧x < (R:Int)) (hl:l.length≤100000):loop (matrix_columns_l27 l (R:Int)) (-1,0)=some (.inl ()):=by
  refine Ret.eq ?_
  refine ret_loop l.length (fun k (t:Int×Int)=>t.2=(k:Int)∧(t.1= -1∨(0 < k∧l[k - 1]?=some t.1))∧(k=0→t.1= -1)) ⟨rfl,.inl rfl,fun _=>rfl⟩ ?_
  rintro k ⟨a,b⟩ hk ⟨e1,e2,e3⟩
  simp only at e1 e2 e3
  subst e1
  unfold matrix_columns_l27
  simp only
  by_cases hkn:k < l.length
  · have hw:wa .i64 (k:Int) 1=((k+1:Nat):Int):=wa1 (by omega)
    have hx:=hr _ (List.getElem_mem hkn)
    have hlt:a < l[k]:=by
      rcases e2 with h1 | ⟨h1,h2⟩
      · omega
      · rw [List.getElem?_eq_getElem (by omega)] at h2
        have:=asc_get h (i:=k - 1) (j:=k) hkn (by omega)
        have:=Option.some.inj h2
        omega
    have hc:¬ ((decide (l[k]≤a)) || (decide ((R:Int)≤l[k])))=true:=by
      simp only [Bool.or_eq_true,decide_eq_true_eq]
      omega
    rw [if_pos (by omega),bindS (getI_lt hkn),if_neg hc,hw,ret_some,vq_l]
    exact ⟨hkn,rfl,.inr ⟨by omega,by simp⟩,fun h=>by omega⟩
  · rw [if_neg (by omega),ret_some,vq_r]
theorem nonan_ok {vl:List Int} (h:∀ v,v∈vl→matrix_Check_1 v=some false) (hl:vl.length≤100000):slices_ContainsFunc_apiFloat vl=some false:=by
  have h1:loop (slices_IndexFunc_apiFloat_l1 vl) 0=some (.inl ()):=by
    refine Ret.eq ?_
    refine ret_loop vl.length (fun k (t:Int)=>t=(k:Int)) rfl ?_
    rintro k _ hk rfl
    unfold slices_IndexFunc_apiFloat_l1
    by_cases hkn:k < vl.length
    · have hw:wa .i64 (k:Int) 1=((k+1:Nat):Int):=wa1 (by omega)
      rw [if_pos (by omega),bindS (getI_lt hkn),bindS (h _ (List.getElem_mem hkn)),if_neg (by simp),hw,ret_some,vq_l]
      exact ⟨hkn,rfl⟩
    · rw [if_neg (by omega),ret_some,vq_r]
  unfold slices_ContainsFunc_apiFloat slices_IndexFunc_apiFloat
  rw [bindS h1]
  rfl
theorem matrixCheck_ok {R C:Nat} {E:List (List Int)} {st ix vl:List Int} (h:Mv R C E st ix vl) (hR:R≤200) (hC:C≤200) (hix:ix.length≤10000):matrix_Check (R:Int) (C:Int) st ix vl=some 0:=by
  have hlen:=h.len
  have hsl:=h.sl
  have w1:matrix_within (R:Int) 0 200=some true:=by
    unfold matrix_within
    have a1:decide ((0:Int)≤(R:Int))=true:=by simp
    have a2:decide ((R:Int)≤200)=true:=by simp; omega
    rw [a1,a2]; rfl
  have w2:matrix_within (C:Int) 0 200=some true:=by
    unfold matrix_within
    have a1:decide ((0:Int)≤(C:Int))=true:=by simp
    have a2:decide ((C:Int)≤200)=true:=by simp; omega
    rw [a1,a2]; rfl
  have hcols:loop (matrix_columns_l24 (C:Int) st ix (R:Int)) 0=some (.inl ()):=by
    refine Ret.eq ?_
    refine ret_loop C (fun k (t:Int)=>t=(k:Int)) rfl ?_
    rintro k _ hk rfl
    unfold matrix_columns_l24
    by_cases hkn:k < C
    · have hw:wa .i64 (k:Int) 1=((k+1:Nat):Int):=wa1 (by omega)
      have g1:getI st (k:Int)=some (off E k:Int):=h.ste k (by omega)
      have g2:getI st ((k+1:Nat):Int)=some (off E (k+1):Int):=h.ste (k+1) (by omega)
      have hl:E[k]?=some E[k]:=by simp [hlen,hkn]
      have o1:=off_le (E:=E) (i:=k) (j:=k+1) (by omega)
      have o2:=off_top E (j:=k+1)
      have hsl:sli ix (off E k:Int) (off E (k+1):Int)=some E[k]:=by
        unfold sli subL
        rw [if_pos (by rw [h.ixe]; omega),h.ixe]
        simp only [Int.toNat_natCast]
        rw [slice_at hl]
      have hm:=List.getElem_mem (l:=E) (n:=k) (by omega)
      have:=asc_len (h.asc _ hm) (h.rng _ hm)
      rw [if_pos (by omega),bindS g1,hw,bindS g2,bindS hsl,bindS (col_ok (h.asc _ hm) (h.rng _ hm) (by omega)),ret_some,vq_l]
      exact ⟨hkn,rfl⟩
    · rw [if_neg (by omega),ret_some,vq_r]
  have g0:getI st 0=some 0:=by
    have:=h.ste 0 (by omega)
    exact this
  have gC:getI st (C:Int)=some (ix.length:Int):=by
    have:=h.ste C (by omega)
    rw [← hlen,off_all,← h.ixe] at this
    rw [← hlen]
    exact this
  have hsrt:slices_IsSorted_int st=some true:=by
    refine sorted_ok (by omega) fun k hk=>?_
    have a1:=h.ste k (by omega)
    have a2:=h.ste (k+1) (by omega)
    rw [List.getElem?_eq_getElem (by omega)] at a1 a2
    have:=Option.some.inj a1
    have:=Option.some.inj a2
    have:=off_le (E:=E) (i:=k) (j:=k+1) (by omega)
    omega
  have hmc:matrix_columns (R:Int) (C:Int) st ix vl=some true:=by
    unfold matrix_columns
    have hw:wa .i64 (C:Int) 1=((C+1:Nat):Int):=wa1 (by omega)
    rw [hw,if_pos (by omega),bindS g0,obs]
    simp only [decide_true,Bool.not_true]
    rw [if_neg (by simp),bindS hsrt,obs]
    simp only [Bool.not_true]
    rw [if_neg (by simp),bindS gC,obs]
    simp only [decide_true,Bool.not_true]
    rw [if_neg (by simp),obs,h.vle]
    simp only [decide_true,Bool.not_true]
    rw [if_neg (by simp),bindS hcols]
  unfold matrix_Check
  rw [bindS w1,if_pos rfl,bindS w2,obs]
  have hc:¬ ((!true) || (decide ((10000:Int) < (ix.length:Int))))=true:=by
    simp only [Bool.or_eq_true,decide_eq_true_eq,Bool.not_true]
    rintro (h | h)
    · cases h
    · omega
  rw [if_neg hc,bindS hmc,if_pos rfl,bindS (nonan_ok h.fin (by have:=h.vle; omega)),if_neg (by simp)]
theorem one_fin:matrix_Check_1 4607182418800017408=some false:=by kernel_rfl
end Km
namespace Km
open Pl Sx Go M Vc
theorem subG {α:Type} [DecidableEq α]:∀ {a b:List α},a.Nodup→(∀ x,x∈a→x∈b)→a.length≤b.length
  | [],b,_,_=>by simp
  | x::a,b,hd,hs=>by
    rw [List.nodup_cons] at hd
    have hx:=hs x (by simp)
    have:=subG (a:=a) (b:=b.erase x) hd.2 (fun y hy=>by
      have:y≠x:=by rintro rfl; exact hd.1 hy
      exact (List.mem_erase_of_ne this).2 (hs y (by simp [hy])))
    rw [List.length_erase_of_mem hx] at this
    have:=List.length_pos_of_mem hx
    simp
    omega
theorem nodup_map {α β:Type} {l:List α} {f:α→β} (hd:l.Nodup) (hf:∀ x y,x∈l→y∈l→f x=f y→x=y):(l.map f).Nodup:=by
  rw [List.nodup_iff_pairwise_ne,List.pairwise_map]
  have h1:=List.nodup_iff_pairwise_ne.1 hd
  have h2:l.Pairwise fun x y=>x∈l∧y∈l:=List.Pairwise.and_mem.1 (List.pairwise_of_forall (l:=l) (R:=fun _ _=>True) (fun _ _=>trivial)) |>.imp fun h=>⟨h.1,h.2.1⟩
  exact (h1.and h2).imp fun ⟨h,hx,hy⟩ e=>h (hf _ _ hx hy e)
theorem weak {P:List (Int×Int)} (h1:∀ p q,p∈P→q∈P→p.1=q.1→p=q) (h2:∀ p q,p∈P→q∈P→p.2=q.2→p=q) (hd:P.Nodup) {KR KC:List Int} (hc:∀ p,p∈P→p.1∈KR∨p.2∈KC):P.length≤KR.length+KC.length:=by
  let f:Int×Int→Bool×Int:=fun p=>if p.1∈KR then (true,p.1) else (false,p.2)
  have hn:(P.map f).Nodup:=by
    refine nodup_map hd fun p q hp hq he=>?_
    by_cases a:p.1∈KR<;>by_cases b:q.1∈KR<;>simp only [f,a,b,if_true,if_false,Prod.mk.injEq,true_and,reduceCtorEq,false_and] at he
    · exact h1 p q hp hq he
    · exact h2 p q hp hq he
  have hs:∀ x,x∈P.map f→x∈(KR.map fun r=>(true,r))++(KC.map fun c=>(false,c)):=by
    intro x hx
    obtain ⟨p,hp,rfl⟩:=List.mem_map.1 hx
    rw [List.mem_append]
    by_cases a:p.1∈KR
    · left
      simp only [f,a,if_true]
      exact List.mem_map.2 ⟨_,a,rfl⟩
    · right
      simp only [f,a,if_false]
      exact List.mem_map.2 ⟨_,(hc p hp).resolve_left a,rfl⟩
  have:=subG hn hs
  simpa using this
open Classical in
noncomputable def mcl (a:List Int) (C:Nat):List Int:=coll (fun c=>a[c]?≠some (-1)) C
open Classical in
noncomputable def rowsL (rows:List Bool):List Int:=coll (fun i=>tr rows i) rows.length
open Classical in
noncomputable def colsL (cols:List Bool):List Int:=coll (fun c=>¬ tr cols c) cols.length
theorem mcl_mem {a:List Int} {C:Nat} {x:Int}:x∈mcl a C↔0≤x∧x.toNat < C∧a[x.toNat]?≠some (-1):=by classical exact coll_mem _
theorem rowsL_mem {rows:List Bool} {x:Int}:x∈rowsL rows↔0≤x∧x.toNat < rows.length∧tr rows x.toNat:=by classical exact coll_mem _
theorem colsL_mem {cols:List Bool} {x:Int}:x∈colsL cols↔0≤x∧x.toNat < cols.length∧¬ tr cols x.toNat:=by classical exact coll_mem _
theorem mcl_nd (a:List Int) (C:Nat):(mcl a C).Nodup:=by classical exact asc_nodup (coll_asc _)
theorem rowsL_nd (rows:List Bool):(rowsL rows).Nodup:=by classical exact asc_nodup (coll_asc _)
theorem colsL_nd (cols:List Bool):(colsL cols).Nodup:=by classical exact asc_nodup (coll_asc _)
section
variable {R C:Nat} {E:List (List Int)} {a b:List Int} {rows cols:List Bool}
theorem Mat.row (h:Mat R C E a b rows cols) {i:Nat} (hi:tr rows i):∃ c:Nat,b[i]?=some (c:Int)∧c < C∧a[c]?=some (i:Int)∧inE E c i∧tr cols c:=by
  obtain ⟨D,hCs,hD,hF⟩:=h.fin
  have hcl:Clo E a b C (fun c=>c < C∧(a[c]?=some (-1)∨∃ i,D i∧b[i]?=some (c:Int))) D:=by
    refine ⟨fun c h1 h2=>⟨h1,.inl h2⟩,fun c i ⟨h1,h2⟩ h3=>?_,fun i c h1 h2=>?_⟩
    · rcases h2 with h2 | ⟨i',h4,h5⟩
      · exact hF c h1 h2 i h3
      · obtain ⟨c',h6,h7⟩:=hD i' h4
        rw [h5] at h6
        have:c=c':=by have:=Option.some.inj h6; omega
        subst this
        exact h7 i h3
    · have:=hCs.cr i c h2 (by omega)
      exact ⟨by omega,.inr ⟨i,h1,h2⟩⟩
  obtain ⟨_,hY⟩:=h.rch.lst _ _ hcl
  obtain ⟨c,h1,_⟩:=hD i (hY i hi)
  have h2:=hCs.cr i c h1 (by omega)
  obtain ⟨h3,h4⟩:=hCs.col i c h1 (by omega) (by omega)
  simp only [Int.toNat_natCast] at h3 h4
  exact ⟨c,h1,by omega,h3,h4,h.rch.clo.c i c hi h1⟩
theorem Mat.cs (h:Mat R C E a b rows cols):Cs R C E a b (-1):=by obtain ⟨D,hCs,_⟩:=h.fin; exact hCs
theorem Mat.col (h:Mat R C E a b rows cols) {c:Nat} (hc:c < C) (hm:a[c]?≠some (-1)):∃ i:Nat,i < R∧a[c]?=some (i:Int)∧b[i]?=some (c:Int)∧inE E c i:=by
  have hCs:=h.cs
  have hal:=hCs.al
  obtain ⟨x,hx⟩:∃ x,a[c]?=some x:=⟨a[c]'(by omega),by simp [hal,hc]⟩
  have hx1:x≠-1:=by rintro rfl; exact hm hx
  obtain ⟨h1,h2,h3,h4⟩:=hCs.row c x hx hx1
  have h5:=(hCs.col x.toNat c h3 (by omega) (by omega)).2
  simp only [Int.toNat_natCast] at h5
  exact ⟨x.toNat,by omega,by rw [hx]; congr 1; omega,h3,h5⟩
theorem Mat.size (h:Mat R C E a b rows cols):(mcl a C).length=(rowsL rows).length+(colsL cols).length:=by
  have hcl:=h.rch.cl
  have hrl:=h.rch.rl
  let f:Int→Int:=fun i=>b[i.toNat]?.getD (-1)
  have hf:∀ x,x∈rowsL rows→∃ c:Nat,f x=(c:Int)∧b[x.toNat]?=some (c:Int)∧c < C∧a[c]?=some x∧tr cols c:=by
    intro x hx
    obtain ⟨h1,h2,h3⟩:=rowsL_mem.1 hx
    obtain ⟨c,c1,c2,c3,c4,c5⟩:=h.row h3
    exact ⟨c,by simp only [f]; rw [c1]; rfl,c1,c2,by rw [c3]; congr 1; omega,c5⟩
  have hn:((rowsL rows).map f).Nodup:=by
    refine nodup_map (rowsL_nd rows) fun x y hx hy he=>?_
    obtain ⟨c,c1,c2,c3,c4,c5⟩:=hf x hx
    obtain ⟨d,d1,d2,d3,d4,d5⟩:=hf y hy
    have:c=d:=by omega
    subst this
    rw [c4] at d4
    exact Option.some.inj d4
  have h1:(mcl a C).length≤((rowsL rows).map f++colsL cols).length:=by
    refine subG (mcl_nd a C) fun x hx=>?_
    obtain ⟨x1,x2,x3⟩:=mcl_mem.1 hx
    rw [List.mem_append]
    by_cases ht:tr cols x.toNat
    · left
      obtain ⟨i,i1,i2,i3,i4⟩:=h.col x2 x3
      have hti:=h.rch.clo.r _ _ ht i4
      refine List.mem_map.2 ⟨(i:Int),rowsL_mem.2 ⟨by omega,by simpa [hrl] using i1,by simpa using hti⟩,?_⟩
      simp only [f,Int.toNat_natCast]
      rw [i3]
      simp only [Option.getD_some]
      omega
    · exact .inr (colsL_mem.2 ⟨x1,by omega,ht⟩)
  have h2:((rowsL rows).map f++colsL cols).length≤(mcl a C).length:=by
    refine subG ?_ fun x hx=>?_
    · rw [List.nodup_append]
      refine ⟨hn,colsL_nd cols,fun x hx y hy e=>?_⟩
      subst e
      obtain ⟨z,hz,rfl⟩:=List.mem_map.1 hx
      obtain ⟨c,c1,c2,c3,c4,c5⟩:=hf z hz
      have:=(colsL_mem.1 hy).2.2
      rw [c1] at this
      exact this (by simpa using c5)
    · rcases List.mem_append.1 hx with hx | hx
      · obtain ⟨z,hz,rfl⟩:=List.mem_map.1 hx
        obtain ⟨c,c1,c2,c3,c4,c5⟩:=hf z hz
        have hz0:=(rowsL_mem.1 hz).1
        rw [c1]
        refine mcl_mem.2 ⟨by omega,by simpa using c3,?_⟩
        simp only [Int.toNat_natCast]
        rw [c4]
        intro e
        have:=Option.some.inj e
        omega
      · obtain ⟨x1,x2,x3⟩:=colsL_mem.1 hx
        exact mcl_mem.2 ⟨x1,by omega,fun e=>x3 (h.rch.clo.s _ (by omega) e)⟩
  simp only [List.length_append,List.length_map] at h1 h2
  omega
theorem Mat.covers (h:Mat R C E a b rows cols) {c i:Nat} (he:inE E c i):tr rows i∨¬ tr cols c:=by
  by_cases ht:tr cols c
  · exact .inl (h.rch.clo.r c i ht he)
  · exact .inr ht
noncomputable def prs (a:List Int) (C:Nat):List (Int×Int):=(mcl a C).map fun c=>(a[c.toNat]?.getD (-1),c)
theorem prs_len (a:List Int) (C:Nat):(prs a C).length=(mcl a C).length:=by simp [prs]
theorem Mat.prs_mem (h:Mat R C E a b rows cols) {p:Int×Int} (hp:p∈prs a C):∃ i c:Nat,p=((i:Int),(c:Int))∧i < R∧c < C∧a[c]?=some (i:Int)∧b[i]?=some (c:Int)∧inE E c i:=by
  obtain ⟨x,hx,rfl⟩:=List.mem_map.1 hp
  obtain ⟨x1,x2,x3⟩:=mcl_mem.1 hx
  obtain ⟨i,i1,i2,i3,i4⟩:=h.col x2 x3
  refine ⟨i,x.toNat,?_,i1,x2,i2,i3,i4⟩
  rw [i2]
  simp only [Option.getD_some,Prod.mk.injEq,true_and]
  omega
theorem Mat.prs_inj (h:Mat R C E a b rows cols):(∀ p q,p∈prs a C→q∈prs a C→p.1=q.1→p=q)∧(∀ p q,p∈prs a C→q∈prs a C→p.2=q.2→p=q)∧(prs a C).Nodup:=by
  refine ⟨fun p q hp hq he=>?_,fun p q hp hq he=>?_,?_⟩
  · obtain ⟨i,c,rfl,_,_,h1,h2,_⟩:=h.prs_mem hp
    obtain ⟨i',c',rfl,_,_,h3,h4,_⟩:=h.prs_mem hq
    simp only at he
    have:i=i':=by omega
    subst this
    rw [h2] at h4
    rw [Option.some.inj h4]
  · obtain ⟨i,c,rfl,_,_,h1,h2,_⟩:=h.prs_mem hp
    obtain ⟨i',c',rfl,_,_,h3,h4,_⟩:=h.prs_mem hq
    simp only at he
    have:c=c':=by omega
    subst this
    rw [h1] at h3
    rw [Option.some.inj h3]
  · exact nodup_map (mcl_nd a C) fun x y _ _ he=>by simpa using (Prod.mk.inj he).2
end
end Km
namespace Km
open Pl Sx Go M Vc
def hasE (L:List (Int×Int×Int)) (u v:Nat):Prop:=∃ x,((v:Int),(u:Int),x)∈L
open Classical in
noncomputable def pcol (R:Nat) (L:List (Int×Int×Int)) (u:Nat):List Int:=coll (fun v=>hasE L u v) R
noncomputable def packE (R C:Nat) (L:List (Int×Int×Int)):List (List Int):=(List.range C).map (pcol R L)
structure En (R C:Nat) (L:List (Int×Int×Int)):Prop where
  r:∀ e,e∈L→0≤e.1∧e.1 < (R:Int)
  c:∀ e,e∈L→0≤e.2.1∧e.2.1 < (C:Int)
  f:∀ e,e∈L→matrix_Check_1 e.2.2=some false
theorem cell_inj {R u v u' v':Nat} (h:v < R) (h':v' < R) (he:u*R+v=u'*R+v'):u=u'∧v=v':=by
  have h1:(u*R+v) / R=u:=by rw [Nat.mul_comm,Nat.mul_add_div (by omega),Nat.div_eq_of_lt h]; omega
  have h2:(u'*R+v') / R=u':=by rw [Nat.mul_comm,Nat.mul_add_div (by omega),Nat.div_eq_of_lt h']; omega
  have:u=u':=by rw [← h1,← h2,he]
  subst this
  exact ⟨rfl,by omega⟩
theorem cell_lt {R C u v:Nat} (hu:u < C) (hv:v < R):u*R+v < R*C:=by
  have:(u+1)*R≤C*R:=Nat.mul_le_mul_right _ hu
  rw [Nat.succ_mul] at this
  rw [Nat.mul_comm R C]
  omega
structure Ft (R C:Nat) (L:List (Int×Int×Int)) (k:Nat) (T:List Int):Prop where
  len:T.length=R*C
  at_:∀ u v,u < C→v < R→∃ t,T[u*R+v]?=some t∧((t=0∧¬ hasE (L.take k) u v)∨(∃ i:Nat,t=((i+1:Nat):Int)∧i < k∧∃ x,L[i]?=some ((v:Int),(u:Int),x)))
theorem fill_ok {R C:Nat} (hR:R≤200) (hC:C≤200) {L:List (Int×Int×Int)} (hL:L.length≤100000) (hE:En R C L):Ret (loop (sparseref09_Pack_l1 L (R:Int)) (List.replicate (R*C) 0,0)) (Ft R C L L.length):=by
  have hm:R*C≤200*200:=Nat.mul_le_mul hR hC
  refine ret_loop L.length (fun k (t:List Int×Int)=>t.2=(k:Int)∧Ft R C L k t.1) ⟨rfl,by simp,fun u v hu hv=>⟨0,by rw [List.getElem?_replicate,if_pos (cell_lt hu hv)],.inl ⟨rfl,fun ⟨x,hx⟩=>by simp at hx⟩⟩⟩ ?_
  rintro k ⟨T,t⟩ hk ⟨e1,hT⟩
  simp only at e1 hT
  subst e1
  unfold sparseref09_Pack_l1
  simp only
  by_cases hkn:k < L.length
  · have hw:wa .i64 (k:Int) 1=((k+1:Nat):Int):=wa1 (by omega)
    obtain ⟨⟨a,b,x⟩,hx⟩:∃ e,L[k]?=some e:=⟨L[k],by simp [hkn]⟩
    have hx0:getI L (k:Int)=some (a,b,x):=hx
    have h1:=hE.r _ (mem_get hx)
    have h2:=hE.c _ (mem_get hx)
    simp only at h1 h2
    obtain ⟨v,rfl⟩:∃ v:Nat,a=(v:Int):=⟨a.toNat,by omega⟩
    obtain ⟨u,rfl⟩:∃ u:Nat,b=(u:Int):=⟨b.toNat,by omega⟩
    have hv:v < R:=by omega
    have hu:u < C:=by omega
    have hlt:=cell_lt hu hv
    have e2:wm .i64 (u:Int) (R:Int)=((u*R:Nat):Int):=by
      have:(u:Int)*(R:Int)=((u*R:Nat):Int):=by simp
      rw [wm_in (by rw [this]; constructor<;>omega),this]
    have e3:wa .i64 ((u*R:Nat):Int) (v:Int)=((u*R+v:Nat):Int):=by rw [wa_in (by constructor<;>omega)]; omega
    have hTl:=hT.len
    rw [if_pos (by omega),bindS hx0,bindS hx0]
    simp only
    rw [e2,e3,hw,bindS (setI_lt (by omega)),ret_some,vq_l]
    refine ⟨hkn,rfl,by simp [hTl],fun u' v' hu' hv'=>?_⟩
    simp only
    rw [List.getElem?_set]
    by_cases hc:u*R+v=u'*R+v'
    · obtain ⟨rfl,rfl⟩:=cell_inj hv hv' hc
      rw [if_pos rfl,if_pos (by omega)]
      exact ⟨_,rfl,.inr ⟨k,rfl,by omega,x,hx⟩⟩
    · rw [if_neg hc]
      obtain ⟨t,t1,t2⟩:=hT.at_ u' v' hu' hv'
      refine ⟨t,t1,?_⟩
      rcases t2 with ⟨h3,h4⟩ | ⟨i,h3,h4,h5⟩
      · refine .inl ⟨h3,?_⟩
        rintro ⟨y,hy⟩
        rcases (mts hx).1 hy with hy | hy
        · exact h4 ⟨y,hy⟩
        · simp only [Prod.mk.injEq] at hy
          have:v'=v:=by omega
          have:u'=u:=by omega
          subst_vars
          exact hc rfl
      · exact .inr ⟨i,h3,by omega,h5⟩
  · rw [if_neg (by omega),ret_some,vq_r]
    rw [show L.length=k by omega]
    exact hT
theorem pcol_len (R:Nat) (L:List (Int×Int×Int)) (u:Nat):(pcol R L u).length≤R:=by classical exact coll_len _
theorem flat_pack (R:Nat) (L:List (Int×Int×Int)) (C:Nat):(packE R C L).flatten.length≤C*R:=by
  unfold packE
  induction C with
  | zero=>simp
  | succ C ih=>
    rw [List.range_succ,List.map_append,List.flatten_append,List.length_append,Nat.succ_mul]
    have:=pcol_len R L C
    simp at ih ⊢
    omega
open Classical in
theorem pcol_ok {R C:Nat} (hR:R≤200) (hC:C≤200) {L:List (Int×Int×Int)} (hL:L.length≤100000) (hE:En R C L) {T:List Int} (hT:Ft R C L L.length T) {u:Nat} (hu:u < C) {ix vl:List Int} (h1:ix.length≤100000) (h2:vl.length=ix.length) (h3:∀ x,x∈vl→matrix_Check_1 x=some false):
    Ret (loop (sparseref09_Pack_l13 (R:Int) T (u:Int) L) (ix,vl,0)) (fun o=>o.1=ix++pcol R L u∧o.2.length=o.1.length∧∀ x,x∈o.2→matrix_Check_1 x=some false):=by
  refine ret_loop R (fun k (t:List Int×List Int×Int)=>t.2.2=(k:Int)∧t.1=ix++coll (fun v=>hasE L u v) k∧t.2.1.length=t.1.length∧∀ x,x∈t.2.1→matrix_Check_1 x=some false) ⟨rfl,by simp [coll],h2,h3⟩ ?_
  rintro k ⟨x,y,t⟩ hk ⟨e1,e2,e3,e4⟩
  simp only at e1 e2 e3 e4
  subst e1
  unfold sparseref09_Pack_l13 sparseref09_Pack_j14
  simp only
  by_cases hkn:k < R
  · have hw:wa .i64 (k:Int) 1=((k+1:Nat):Int):=wa1 (by omega)
    have hlt:=cell_lt hu hkn
    have hm:R*C≤200*200:=Nat.mul_le_mul hR hC
    have e5:wm .i64 (u:Int) (R:Int)=((u*R:Nat):Int):=by
      have:(u:Int)*(R:Int)=((u*R:Nat):Int):=by simp
      rw [wm_in (by rw [this]; constructor<;>omega),this]
    have e6:wa .i64 ((u*R:Nat):Int) (k:Int)=((u*R+k:Nat):Int):=by rw [wa_in (by constructor<;>omega)]; omega
    obtain ⟨z,t1,t2⟩:=hT.at_ u k hu hkn
    have t1':getI T ((u*R+k:Nat):Int)=some z:=t1
    have hcl:=coll_len (tm:=fun v=>hasE L u v) k
    rw [if_pos (by omega),e5,e6,bindS t1',hw]
    have hxl:x.length=ix.length+(coll (fun v=>hasE L u v) k).length:=by rw [e2,List.length_append]
    rcases t2 with ⟨rfl,hno⟩ | ⟨i,rfl,hi,w,hw2⟩
    · rw [if_neg (by omega),ret_some,vq_l]
      rw [List.take_length] at hno
      exact ⟨hkn,rfl,by rw [e2,coll,if_neg hno,List.append_nil],e3,e4⟩
    · have e7:ws .i64 ((i+1:Nat):Int) 1=(i:Int):=by rw [ws_in (by constructor<;>omega)]; omega
      have hw2':getI L (i:Int)=some ((k:Int),(u:Int),w):=hw2
      have hyl:y.length+1≤1099511627776:=by omega
      rw [if_pos (by omega),bindS (app_small (by simp; omega)),e7,bindS hw2',bindS (app_small (by simp; omega)),ret_some,vq_l]
      refine ⟨hkn,rfl,?_,by simp [e3],fun q hq=>?_⟩
      · simp only
        rw [e2,coll,if_pos ⟨w,mem_get hw2⟩,List.append_assoc]
      · simp only at hq
        rcases List.mem_append.1 hq with hq | hq
        · exact e4 q hq
        · simp only [List.mem_singleton] at hq
          have h9:=hE.f ((k:Int),(u:Int),w) (mem_get hw2)
          rw [hq]
          exact h9
  · rw [if_neg (by omega),ret_some,vq_r]
    have hk2:R=k:=by omega
    rw [hk2]
    unfold pcol
    exact ⟨e2,e3,e4⟩
theorem pack_ok {R C:Nat} (hR:R≤200) (hC:C≤200) {L:List (Int×Int×Int)} (hL:L.length≤100000) (hE:En R C L):
    ∃ st ix vl,sparseref09_Pack (R:Int) (C:Int) L=some ((R:Int),(C:Int),st,ix,vl)∧Mv R C (packE R C L) st ix vl:=by
  have hm:R*C≤200*200:=Nat.mul_le_mul hR hC
  obtain ⟨T,f1,hT⟩:=fill_ok hR hC hL hE
  have hlo:Ret (loop (sparseref09_Pack_l10 (C:Int) (R:Int) T L) ([0],[],[],0)) (fun o=>Mv R C (packE R C L) o.1 o.2.1 o.2.2):=by
    refine ret_loop C (fun k (t:List Int×List Int×List Int×Int)=>t.2.2.2=(k:Int)∧t.1.length=k+1∧(∀ j,j≤k→t.1[j]?=some (off (packE R C L) j:Int))∧t.2.1=((packE R C L).take k).flatten∧t.2.2.1.length=t.2.1.length∧∀ x,x∈t.2.2.1→matrix_Check_1 x=some false)
      ⟨rfl,rfl,fun j hj=>(by have h:j=0:=(by omega); subst h; simp [off]),by simp,rfl,fun x hx=>by simp at hx⟩ ?_
    rintro k ⟨st,ix,vl,t⟩ hk ⟨e1,e2,e3,e4,e5,e6⟩
    simp only at e1 e2 e3 e4 e5 e6
    subst e1
    unfold sparseref09_Pack_l10
    simp only
    have hfl:=flat_pack R L C
    have hot:=off_top (packE R C L) (j:=k)
    have hixl:ix.length=off (packE R C L) k:=by rw [e4]; rfl
    have hcr:C*R≤200*200:=by rw [Nat.mul_comm]; exact hm
    have hlen:(packE R C L).length=C:=by simp [packE]
    by_cases hkn:k < C
    · have hw:wa .i64 (k:Int) 1=((k+1:Nat):Int):=wa1 (by omega)
      have hEk:(packE R C L)[k]?=some (pcol R L k):=by simp [packE,hkn]
      have hos:=off_succ hEk
      have hcle:=pcol_len R L k
      rw [if_pos (by omega),ret_bind]
      refine ret_call (pcol_ok hR hC hL hE hT hkn (by omega) e5 e6) ?_
      rintro ⟨ix',vl'⟩ ⟨p1,p2,p3⟩
      simp only at p1 p2 p3
      subst p1
      rw [bindS (app_small (by simp; omega)),hw,ret_some,vq_l]
      refine ⟨hkn,rfl,by simp [e2],fun j hj=>?_,?_,p2,p3⟩
      · simp only
        by_cases hjk:j≤k
        · rw [List.getElem?_append_left (by omega)]; exact e3 j hjk
        · have:j=k+1:=by omega
          subst this
          rw [List.getElem?_append_right (by omega),e2,Nat.sub_self]
          simp only [List.getElem?_cons_zero,List.length_append]
          congr 1
          omega
      · simp only
        rw [tks hEk,List.flatten_append,e4]
        simp
    · rw [if_neg (by omega),ret_some,vq_r]
      have:k=C:=by omega
      subst this
      refine ⟨hlen,fun l hl=>?_,fun l hl i hi=>?_,?_,e2,e3,e5,e6⟩
      · simp only [packE,List.mem_map] at hl
        obtain ⟨v,_,rfl⟩:=hl
        classical exact coll_asc _
      · simp only [packE,List.mem_map] at hl
        obtain ⟨v,_,rfl⟩:=hl
        have:0≤i∧i.toNat < R∧_:=(by classical exact (coll_mem _).1 hi)
        omega
      · simp only
        rw [e4,List.take_of_length_le (by omega)]
  obtain ⟨⟨st,ix,vl⟩,l1,l2⟩:=hlo
  refine ⟨st,ix,vl,?_,l2⟩
  have e2:wm .i64 (R:Int) (C:Int)=((R*C:Nat):Int):=by
    have:(R:Int)*(C:Int)=((R*C:Nat):Int):=by simp
    rw [wm_in (by rw [this]; constructor<;>omega),this]
  unfold sparseref09_Pack
  rw [e2,bindS (mkL_nat 0 (R*C) (by omega)),bindS f1,bindS l1]
theorem packE_in {R C:Nat} {L:List (Int×Int×Int)} {u v:Nat}:inE (packE R C L) u v↔u < C∧v < R∧hasE L u v:=by
  classical
  constructor
  · rintro ⟨l,l1,l2⟩
    have hu:u < C:=by have:=(List.getElem?_eq_some_iff.1 l1).1; simpa [packE] using this
    simp only [packE,List.getElem?_map,List.getElem?_range hu,Option.map_some,Option.some.injEq] at l1
    subst l1
    have:=(coll_mem _).1 l2
    exact ⟨hu,by omega,by simpa using this.2.2⟩
  · rintro ⟨h1,h2,h3⟩
    refine ⟨pcol R L u,by simp [packE,h1],(coll_mem _).2 ⟨by omega,by simpa using h2,by simpa using h3⟩⟩
end Km
namespace Km
open Pl Sx Go M Vc Pd
theorem ftry_succ (k:Nat):sparseref13_Search_Try (k+1)=sparseref13_Search_Try_body (sparseref13_Search_Try k):=by simp only [sparseref13_Search_Try]
section
variable {R C:Nat} {E:List (List Int)} {st ix vl:List Int}
theorem Mv.at_ (h:Mv R C E st ix vl) {j:Nat} {l:List Int} (hl:E[j]?=some l) {k:Nat} (hk:k < l.length):ix[off E j+k]?=l[k]?:=by
  have h1:=slice_at hl
  have h2:=off_succ hl
  rw [h.ixe]
  have:l[k]?=((E.flatten.take (off E (j+1))).drop (off E j))[k]?:=by rw [h1]
  rw [this,List.getElem?_drop,List.getElem?_take]
  rw [if_pos (by omega)]
theorem Mv.start (h:Mv R C E st ix vl) {j:Nat} (hj:j≤C):getI st (j:Int)=some (off E j:Int):=h.ste j hj
theorem rtry_ok (hM:Mv R C E st ix vl) (hR:R≤100000) (hC:C≤100000) (hx:ix.length≤1000000):∀ (k:Nat) {a b:List Int} {m:List Bool} {j:Nat} {x:Int},Cs R C E a b (-1)→m.length=R→j < C→a[j]?=some x→(x= -1∨mkd m x.toNat)→m.count false < k→
    ∀ o,matching_kuhn_try k E a b m (j:Int)=some o→sparseref13_Search_Try k (R:Int) (C:Int) st ix vl b a m (j:Int)=some (o.2.1,o.1,o.2.2.1,o.2.2.2):=by
  have hE:=hM.kb hR
  intro k
  induction k with
  | zero=>intros; omega
  | succ k ih=>
    intro a b m j x hCs hml hj hax hxm hk o ho
    rw [try_succ] at ho
    rw [ftry_succ]
    unfold matching_kuhn_try_body at ho
    unfold sparseref13_Search_Try_body
    obtain ⟨l,hl⟩:∃ l,E[j]?=some l:=⟨E[j]'(by rw [hE.len]; exact hj),by simp [hE.len,hj]⟩
    have hl0:getI E (j:Int)=some l:=hl
    have hlr:=hE.rng j l hl
    have hll:=hE.sz j l hl
    have hos:=off_succ hl
    have hot:=off_top E (j:=j+1)
    have hixe:=hM.ixe
    have hxl:off E (j+1)≤1000000:=by rw [← hixe] at hot; omega
    have hal:=hCs.al
    have hbl:=hCs.bl
    rw [bindS hl0] at ho
    obtain ⟨q,hq,ho⟩:=bs ho
    obtain ⟨q',hq',hqq⟩:=loop_simA (step1:=matching_kuhn_try_l9 (matching_kuhn_try k) l E (j:Int)) (step2:=sparseref13_Search_Try_l9 (sparseref13_Search_Try k) st (j:Int) ix (R:Int) (C:Int) vl)
      (fun (s:List Int×List Int×List Bool×Int) (t:List Int×List Int×List Bool×Int)=>∃ n:Nat,s.2.2.2=(n:Int)∧t.2.2.2=((off E j+n:Nat):Int)∧s.1=a∧s.2.1=b∧t.1=b∧t.2.1=a∧t.2.2.1=s.2.2.1∧n≤l.length∧s.2.2.1.length=R∧(∀ i,mkd m i→mkd s.2.2.1 i))
      (fun (u:(List Int×List Int×List Bool)⊕(List Int×List Int×List Bool)) u'=>(∃ p,u=.inl p∧u'=.inl (p.2.1,p.1,p.2.2))∨∃ p,u=.inr p∧u'=.inr (p.2.1,p.1,p.2.2))
      (s:=(a,b,m,0)) (t:=(b,a,m,(off E j:Int))) ⟨0,rfl,by simp,rfl,rfl,rfl,rfl,rfl,by omega,hml,fun _ h=>h⟩ (by
      rintro ⟨a1,b1,m',n'⟩ ⟨b2,a2,m2,t'⟩ r ⟨n,e1,e2,e3,e4,e5,e6,e7,hn,hm1,hm2⟩ hs
      simp only at e1 e2 e3 e4 e5 e6 e7 hm1 hm2
      subst e1; subst e2; subst e3; subst e4; subst e5; subst e6; subst e7
      unfold matching_kuhn_try_l9 matching_kuhn_try_j12 at hs
      unfold sparseref13_Search_Try_l9 sparseref13_Search_Try_j12
      simp only at hs ⊢
      have hwj:wa .i64 (j:Int) 1=((j+1:Nat):Int):=by
        have:j < E.length:=by rw [hE.len]; exact hj
        have:=hM.sl
        rw [wa_in (by constructor<;>omega)]; omega
      rw [hwj,bindS (hM.start (by omega))]
      by_cases htl:n < l.length
      · have hw:wa .i64 (n:Int) 1=((n+1:Nat):Int):=wa1 (by omega)
        have hw2:wa .i64 ((off E j+n:Nat):Int) 1=((off E j+(n+1):Nat):Int):=by rw [wa1 (by omega)]; omega
        obtain ⟨i,hi⟩:∃ i:Nat,l[n]?=some (i:Int):=by
          have:=hlr _ (List.getElem_mem htl)
          exact ⟨l[n].toNat,by rw [List.getElem?_eq_getElem htl]; congr 1; omega⟩
        have hi0:getI l (n:Int)=some (i:Int):=hi
        have hi1:getI ix ((off E j+n:Nat):Int)=some (i:Int):=(hM.at_ hl htl).trans hi
        have hiR:i < R:=by have:=hlr _ (mem_get hi); omega
        rw [if_pos (by omega),bindS hi0,hw] at hs
        rw [if_pos (by omega),bindS hi1,hw2]
        obtain ⟨q,hq⟩:∃ q,m2[i]?=some q:=⟨m2[i]'(by omega),by simp [hm1,hiR]⟩
        have hq0:getI m2 (i:Int)=some q:=hq
        rw [bindS hq0] at hs
        rw [bindS hq0]
        cases q with
        | true=>
          rw [if_pos rfl] at hs ⊢
          obtain rfl:=Option.some.inj hs
          exact ⟨_,rfl,.inl ⟨_,_,rfl,rfl,n+1,rfl,rfl,rfl,rfl,rfl,rfl,rfl,htl,hm1,hm2⟩⟩
        | false=>
          obtain ⟨c,hc⟩:∃ c,b2[i]?=some c:=⟨b2[i]'(by omega),by simp [hbl,hiR]⟩
          have hc0:getI b2 (i:Int)=some c:=hc
          rw [if_neg (by simp),bindS (setI_lt (by omega)),bindS hc0] at hs
          rw [if_neg (by simp),bindS (setI_lt (by omega)),bindS hc0]
          have hms:∀ r,mkd (m2.set i true) r↔r=i∨mkd m2 r:=fun r=>mkd_set (by omega)
          have hcnt:=count_set hq
          have hcm:=count_mono (m:=m) (m':=m2) (by omega) hm2
          by_cases hf:c= -1
          · subst hf
            rw [if_pos rfl,obs] at hs
            rw [if_pos (by omega),obs]
            simp only [if_true] at hs ⊢
            rw [bindS (setI_lt (by omega)),bindS (setI_lt (by omega))] at hs
            rw [bindS (setI_lt (by omega)),bindS (setI_lt (by omega))]
            obtain rfl:=Option.some.inj hs
            exact ⟨_,rfl,.inr ⟨_,_,rfl,rfl,.inr ⟨_,rfl,rfl⟩⟩⟩
          · obtain ⟨hc1,hc2⟩:=hCs.cr i c hc hf
            obtain ⟨c,rfl⟩:∃ c':Nat,c=(c':Int):=⟨c.toNat,by omega⟩
            obtain ⟨hac,hice⟩:=hCs.col i c hc hf (by omega)
            simp only [Int.toNat_natCast] at hac hice
            rw [if_neg hf,bindS hc0] at hs
            rw [if_neg (by omega),bindS hc0]
            obtain ⟨w,hw3,hz⟩:=bs hs
            clear hs
            obtain ⟨r9,hr9,hw3⟩:=bs hw3
            obtain rfl:=Option.some.inj hw3
            have pre2:(m2.set i true).length=R:=by simp [hm1]
            have pre3:((i:Int)= -1∨mkd (m2.set i true) (i:Int).toNat):=.inr (by simpa using (hms i).2 (.inl rfl))
            have hrec:=ih (a:=a2) (b:=b2) (m:=m2.set i true) (j:=c) (x:=(i:Int)) hCs (by simp [hm1]) (by omega) hac pre3 (by omega) r9 hr9
            obtain ⟨o9,ho9,hO⟩:=try_ok hE k (a:=a2) (b:=b2) (m:=m2.set i true) (j:=c) (x:=(i:Int)) hCs (by simp [hm1]) (by omega) hac pre3 (by omega)
            rw [hr9] at ho9
            obtain rfl:=Option.some.inj ho9
            rw [bindS hrec,obs]
            obtain ⟨a3,b3,m3,ok⟩:=r9
            simp only at hz ⊢
            cases ok with
            | true=>
              have hT:=hO.t rfl
              have h2l:=hT.cs.al
              have h2b:=hT.cs.bl
              simp only at h2l h2b
              simp only [if_true] at hz ⊢
              rw [bindS (setI_lt (by omega)),bindS (setI_lt (by omega))] at hz
              rw [bindS (setI_lt (by omega)),bindS (setI_lt (by omega))]
              obtain rfl:=Option.some.inj hz
              exact ⟨_,rfl,.inr ⟨_,_,rfl,rfl,.inr ⟨_,rfl,rfl⟩⟩⟩
            | false=>
              obtain ⟨f1,f2,f3⟩:=hO.f rfl
              have o1:=hO.ml
              have o2:=hO.mono
              simp only at f1 f2 o1 o2
              subst f1; subst f2
              simp only [Bool.false_eq_true,if_false] at hz ⊢
              obtain rfl:=Option.some.inj hz
              exact ⟨_,rfl,.inl ⟨_,_,rfl,rfl,n+1,rfl,rfl,rfl,rfl,rfl,rfl,rfl,htl,o1,fun r hr=>o2 r ((hms r).2 (.inr (hm2 r hr)))⟩⟩
      · rw [if_neg (by omega)] at hs
        rw [if_neg (by omega)]
        obtain rfl:=Option.some.inj hs
        exact ⟨_,rfl,.inr ⟨_,_,rfl,rfl,.inl ⟨_,rfl,rfl⟩⟩⟩) hq
    rw [bindS (hM.start (by omega)),bindS hq']
    rcases hqq with ⟨p,rfl,rfl⟩ | ⟨p,rfl,rfl⟩
    · simp only at ho ⊢
      obtain rfl:=Option.some.inj ho
      rfl
    · simp only at ho ⊢
      obtain rfl:=Option.some.inj ho
      rfl
theorem fnone_ok {n:Nat} (hn:n≤100000):sparseref13_none (n:Int)=some (List.replicate n (-1)):=by
  unfold sparseref13_none
  have h1:loop (sparseref13_none_l1 (n:Int)) ([],0)=some (List.replicate n (-1)):=by
    refine Ret.eq ?_
    refine ret_loop n (fun k (t:List Int×Int)=>t=(List.replicate k (-1),(k:Int))) rfl ?_
    rintro k _ hk rfl
    unfold sparseref13_none_l1
    simp only
    by_cases hkn:k < n
    · have hw:wa .i64 (k:Int) 1=((k+1:Nat):Int):=wa1 (by omega)
      rw [if_pos (by omega),bindS (app_small (by simp; omega)),hw,ret_some,vq_l]
      exact ⟨hkn,by rw [← List.replicate_succ']⟩
    · rw [if_neg (by omega),ret_some,vq_r,show k=n by omega]
  rw [bindS h1]
theorem find_ok (hM:Mv R C E st ix vl) (hR:R≤100000) (hC:C≤100000) (hx:ix.length≤1000000) {a b:List Int} {mm:List Bool} (h:matching_matched (R:Int) (C:Int) st ix vl=some (E,a,b,mm)):sparseref13_Find (R:Int) (C:Int) st ix vl=some (b,a,mm):=by
  have hE:=hM.kb hR
  obtain ⟨f,hf⟩:=fuel_big
  unfold matching_matched at h
  obtain ⟨E',hE',h⟩:=bs h
  rw [bindS (full_ok hC _),bindS (full_ok hR _)] at h
  obtain ⟨⟨a',b',m'⟩,hl,h⟩:=bs h
  simp only at h
  have h:=Option.some.inj h
  simp only [Prod.mk.injEq] at h
  obtain ⟨rfl,rfl,rfl,rfl⟩:=h
  obtain ⟨o',ho',he⟩:=loop_simA (step1:=matching_matched_l1 (C:Int) (R:Int) E') (step2:=sparseref13_Find_l1 (C:Int) (R:Int) st ix vl)
    (fun (s:List Int×List Int×List Bool×Int) (t:List Int×List Int×List Bool×Int)=>∃ (n:Nat) (D:Nat→Prop),t=(s.2.1,s.1,s.2.2.1,s.2.2.2)∧s.2.2.2=(n:Int)∧n≤C∧Mx R C E' n s.1 s.2.1 s.2.2.1 D)
    (fun (u:List Int×List Int×List Bool) u'=>u'=(u.2.1,u.1,u.2.2))
    (s:=(List.replicate C (-1),List.replicate R (-1),[],0)) (t:=(List.replicate R (-1),List.replicate C (-1),[],0)) ⟨0,_,rfl,rfl,by omega,round_0⟩ (by
    rintro ⟨a1,b1,m1,n1⟩ t r ⟨n,D,rfl,e1,hn,hX⟩ hs
    simp only at e1 hX
    subst e1
    unfold matching_matched_l1 at hs
    unfold sparseref13_Find_l1
    simp only at hs ⊢
    by_cases hnC:n < C
    · have hw:wa .i64 (n:Int) 1=((n+1:Nat):Int):=wa1 (by omega)
      rw [if_pos (by omega),bindS (mkL_nat false R (by omega))] at hs
      rw [if_pos (by omega),bindS (mkL_nat false R (by omega))]
      obtain ⟨o,ho,hs⟩:=bs hs
      have hcnt:(List.replicate R false).count false < FUEL:=by rw [count_none]; omega
      have h1:=rtry_ok hM hR hC hx FUEL hX.cs (by simp) hnC (hX.td n (by omega) hnC) (.inl rfl) hcnt o ho
      obtain ⟨o9,ho9,hO⟩:=try_ok hE FUEL hX.cs (by simp) hnC (hX.td n (by omega) hnC) (.inl rfl) hcnt
      rw [ho] at ho9
      obtain rfl:=Option.some.inj ho9
      obtain ⟨D',hD'⟩:=round_next hX hnC hO
      rw [bindS h1]
      obtain rfl:=Option.some.inj hs
      exact ⟨_,rfl,.inl ⟨_,_,rfl,rfl,n+1,D',rfl,hw,hnC,hD'⟩⟩
    · rw [if_neg (by omega)] at hs ⊢
      obtain rfl:=Option.some.inj hs
      exact ⟨_,rfl,.inr ⟨_,_,rfl,rfl,rfl⟩⟩) hl
  unfold sparseref13_Find
  rw [bindS (fnone_ok hR),bindS (fnone_ok hC),bindS ho',he]
theorem freach_in (hM:Mv R C E st ix vl) (hR:R≤100000) (hx:ix.length≤1000000) {a b:List Int} (hCs:Cs R C E a b (-1)) (hC:C≤100000) {j:Nat} (hj:j < C) {l:List Int} (hl:E[j]?=some l) {rows cols:List Bool} {todo:List Int} {B:Nat} (hB:B≤1000000) (h:Ri R C E a b j [] rows cols todo B):
    Ret (loop (sparseref13_Reach_l24 st (j:Int) ix b) (rows,cols,todo,(off E j:Int))) (fun o=>Ri R C E a b j l o.1 o.2.1 o.2.2 B):=by
  have hE:=hM.kb hR
  have hll:=hE.sz j l hl
  have hos:=off_succ hl
  have hot:=off_top E (j:=j+1)
  have hxl:off E (j+1)≤1000000:=by rw [← hM.ixe] at hot; omega
  refine ret_loop l.length (fun k (t:List Bool×List Bool×List Int×Int)=>t.2.2.2=((off E j+k:Nat):Int)∧Ri R C E a b j (l.take k) t.1 t.2.1 t.2.2.1 B) ⟨rfl,by simpa using h⟩ ?_
  rintro k ⟨r,c,q,t⟩ hk ⟨e1,hI⟩
  simp only at e1 hI
  subst e1
  unfold sparseref13_Reach_l24 sparseref13_Reach_j26
  simp only
  have hwj:wa .i64 (j:Int) 1=((j+1:Nat):Int):=wa1 (by omega)
  rw [hwj,bindS (hM.start (by omega))]
  by_cases hkl:k < l.length
  · have hw:wa .i64 ((off E j+k:Nat):Int) 1=((off E j+(k+1):Nat):Int):=by rw [wa1 (by omega)]; omega
    obtain ⟨i,hi⟩:∃ i:Nat,l[k]?=some (i:Int):=by
      have:=hE.rng j l hl _ (List.getElem_mem hkl)
      exact ⟨l[k].toNat,by rw [List.getElem?_eq_getElem hkl]; congr 1; omega⟩
    have hi0:getI ix ((off E j+k:Nat):Int)=some (i:Int):=(hM.at_ hl hkl).trans hi
    have hiR:i < R:=by have:=hE.rng j l hl _ (mem_get hi); omega
    have hie:inE E j i:=⟨l,hl,mem_get hi⟩
    have hrl:=hI.rl
    have hcl:=hI.cl
    have hbl:=hCs.bl
    have hq:=hI.bd
    obtain ⟨d,hd⟩:∃ d,b[i]?=some d:=⟨b[i]'(by omega),by simp [hbl,hiR]⟩
    have hd0:getI b (i:Int)=some d:=hd
    obtain ⟨s1,s2⟩:=hI.step hCs hiR hie hd
    rw [← tks hi] at s1 s2
    rw [if_pos (by omega),bindS hi0,bindS (setI_lt (by omega)),bindS hd0,hw]
    by_cases hd1:d= -1
    · rw [if_neg (by omega),obs,if_neg (by simp),ret_some,vq_l]
      exact ⟨hkl,rfl,s1 (.inl hd1)⟩
    · obtain ⟨d1,d2⟩:=hCs.cr i d hd hd1
      obtain ⟨d,rfl⟩:∃ d':Nat,d=(d':Int):=⟨d.toNat,by omega⟩
      rw [if_pos (by omega)]
      obtain ⟨z,hz⟩:∃ z,c[d]?=some z:=⟨c[d]'(by omega),by simp [show d < c.length by omega]⟩
      have hz0:getI c (d:Int)=some z:=hz
      rw [bindS hz0,obs]
      cases z with
      | true=>
        rw [if_neg (by simp),ret_some,vq_l]
        exact ⟨hkl,rfl,s1 (.inr ⟨d,rfl,hz⟩)⟩
      | false=>
        have hc0:=count_set hz
        rw [if_pos (by simp),bindS (setI_lt (by omega)),bindS (app_small (by simp; omega)),ret_some,vq_l]
        exact ⟨hkl,rfl,s2 d rfl (by omega) hz _ (by simp) (fun x=>by simp)⟩
  · rw [if_neg (by omega),ret_some,vq_r]
    rw [take_all (by omega)] at hI
    exact hI
theorem freach_out (hM:Mv R C E st ix vl) (hR:R≤100000) (hx:ix.length≤1000000) {a b:List Int} (hCs:Cs R C E a b (-1)) (hC:C≤100000) {rows cols:List Bool} {todo:List Int} (h:Rw R C E a b rows cols todo):
    Ret (loop (sparseref13_Reach_l19 st ix b) (rows,cols,todo)) (fun o=>Rch R C E a b o.1 o.2):=by
  have hE:=hM.kb hR
  refine ret_loop C (fun k (t:List Bool×List Bool×List Int)=>Rw R C E a b t.1 t.2.1 t.2.2∧t.2.2.length+t.2.1.count false+k≤C) ⟨h,by have:=h.bd; simpa using this⟩ ?_
  rintro k ⟨r,c,q⟩ hk ⟨hI,hb⟩
  simp only at hI hb
  unfold sparseref13_Reach_l19
  simp only
  by_cases hq0:q=[]
  · subst hq0
    rw [if_neg (by simp),ret_some,vq_r]
    exact hI.done
  · have hql:0 < q.length:=List.length_pos_iff.2 hq0
    have hbl:=hI.bd
    have hws:ws .i64 (q.length:Int) 1=((q.length - 1:Nat):Int):=by rw [ws_in (by constructor<;>omega)]; omega
    have hgl:q[q.length - 1]?=some q[q.length - 1]:=List.getElem?_eq_getElem (by omega)
    have hxm:=List.getElem_mem (l:=q) (n:=q.length - 1) (by omega)
    have hxr:=hI.td _ hxm
    obtain ⟨j,hj⟩:∃ j:Nat,q[q.length - 1]=(j:Int):=⟨q[q.length - 1].toNat,by omega⟩
    have hg:getI q ((q.length - 1:Nat):Int)=some (j:Int):=by rw [← hj]; exact hgl
    have hsplit:q=q.take (q.length - 1)++[(j:Int)]:=by
      have:=tks hgl
      rw [show q.length - 1+1=q.length by omega,List.take_length] at this
      rw [← hj]; exact this
    have hsl:sli q 0 ((q.length - 1:Nat):Int)=some (q.take (q.length - 1)):=by
      unfold sli subL
      rw [if_pos (by omega)]
      simp
    have hjC:j < C:=by omega
    obtain ⟨l,hl⟩:∃ l,E[j]?=some l:=⟨E[j]'(by rw [hE.len]; omega),by simp [hE.len,hjC]⟩
    rw [if_pos (by omega),hws,bindS hg,bindS hsl,bindS (hM.start (by omega)),ret_bind]
    have hE1:=hI.enter (todo':=q.take (q.length - 1)) (j:=j) (by rw [← hj]; exact hxm) (fun x=>by rw [hsplit]; simp) (by simp; omega)
    have htl:(q.take (q.length - 1)).length=q.length - 1:=by simp
    have hE2:Ri R C E a b j [] r c (q.take (q.length - 1)) (C - 1 - k):=⟨hE1.rl,hE1.cl,hE1.td,hE1.s,hE1.r,hE1.rj,hE1.c,hE1.lst,hE1.tc,by omega,hE1.cj⟩
    refine ret_call (freach_in hM hR hx hCs hC hjC hl (by omega) hE2) ?_
    rintro ⟨r2,c2,q2⟩ h2
    simp only at h2
    rw [ret_some,vq_l]
    have:=h2.bd
    exact ⟨by omega,h2.leave hl (by omega),by simp only; omega⟩
theorem freach_start {a b:List Int} (hCs:Cs R C E a b (-1)) (hC:C≤100000) {mm:List Bool} {o:List Bool×List Int}
    (h:loop (matching_Reachable_l4 (E,a,b,mm)) (List.replicate C false,[],0)=some o):loop (sparseref13_Reach_l4 (C:Int) a) (List.replicate C false,[],0)=some o:=by
  have hal:=hCs.al
  obtain ⟨o',ho',rfl⟩:=loop_simA (step1:=matching_Reachable_l4 (E,a,b,mm)) (step2:=sparseref13_Reach_l4 (C:Int) a) (fun s t=>t=s) (fun u u'=>u'=u) (t:=(List.replicate C false,[],0)) rfl (by
    rintro ⟨c,q,i⟩ t r rfl hs
    unfold matching_Reachable_l4 matching_Reachable_j27 at hs
    unfold sparseref13_Reach_l4 sparseref13_Reach_j27
    simp only at hs ⊢
    by_cases hi:i < (a.length:Int)
    · rw [if_pos hi] at hs
      rw [if_pos (by omega)]
      obtain ⟨x,hx,hs⟩:=bs hs
      rw [bindS hx]
      have hx2:x= -1∨0≤x:=by
        obtain ⟨i0,_,_⟩:=getI_nn hx
        by_cases h1:x= -1
        · exact .inl h1
        · obtain ⟨n,rfl⟩:=Int.eq_ofNat_of_zero_le i0
          exact .inr (hCs.row n x hx h1).1
      by_cases h1:x= -1
      · rw [if_pos h1] at hs
        rw [if_pos (by omega)]
        obtain ⟨y,hy,hs⟩:=bs hs
        obtain ⟨z,hz,hs⟩:=bs hs
        rw [bindS hy,bindS hz]
        obtain rfl:=Option.some.inj hs
        exact ⟨_,rfl,.inl ⟨_,_,rfl,rfl,rfl⟩⟩
      · rw [if_neg h1] at hs
        rw [if_neg (by omega)]
        obtain rfl:=Option.some.inj hs
        exact ⟨_,rfl,.inl ⟨_,_,rfl,rfl,rfl⟩⟩
    · rw [if_neg hi] at hs
      rw [if_neg (by omega)]
      obtain rfl:=Option.some.inj hs
      exact ⟨_,rfl,.inr ⟨_,_,rfl,rfl,rfl⟩⟩) h
  exact ho'
theorem fchosen_ok {l:List Bool} {v:Bool} (hl:l.length≤100000):sparseref13_Chosen l v=some (coll (fun i=>l[i]?=some v) l.length):=list_b hl
theorem freach_ok (hM:Mv R C E st ix vl) (hR:R≤100000) (hC:C≤100000) (hx:ix.length≤1000000) {a b:List Int} {mm:List Bool} {rows cols:List Bool} (hMat:Mat R C E a b rows cols):sparseref13_Reach (R:Int) (C:Int) st ix vl b a mm=some (rows,cols):=by
  have hCs:=hMat.cs
  obtain ⟨⟨c,q⟩,s1,s2⟩:=reach_start (mm:=mm) (E:=E) hCs hC
  have s3:=freach_start hCs hC s1
  obtain ⟨⟨r',c'⟩,t1,t2⟩:=freach_out hM hR hx hCs hC s2
  obtain ⟨e1,e2⟩:=hMat.rch.uniq t2
  unfold sparseref13_Reach
  rw [bindS (mkL_nat false R (by omega)),bindS (mkL_nat false C (by omega)),bindS s3]
  simp only at t1 ⊢
  rw [bindS t1,e1,e2]
end
end Km
namespace Km
open Pl Sx Go M Vc
structure Pr (P:List (Int×Int)):Prop where
  r:∀ p q,p∈P→q∈P→p.1=q.1→p=q
  c:∀ p q,p∈P→q∈P→p.2=q.2→p=q
  nd:P.Nodup
theorem Pr.erase {P:List (Int×Int)} (h:Pr P) (p:Int×Int):Pr (P.erase p):=
  ⟨fun a b ha hb=>h.r a b (List.mem_of_mem_erase ha) (List.mem_of_mem_erase hb),fun a b ha hb=>h.c a b (List.mem_of_mem_erase ha) (List.mem_of_mem_erase hb),h.nd.erase p⟩
structure Tight (P:List (Int×Int)) (KR KC:List Int):Prop where
  one:∀ p,p∈P→p.1∈KR→p.2∉KC
  r:∀ x,x∈KR→∃ p,p∈P∧p.1=x
  c:∀ y,y∈KC→∃ p,p∈P∧p.2=y
theorem tight {P:List (Int×Int)} (h:Pr P) {KR KC:List Int} (hc:∀ p,p∈P→p.1∈KR∨p.2∈KC) (hs:KR.length+KC.length≤P.length):Tight P KR KC:=by
  refine ⟨fun p hp h1 h2=>?_,fun x hx=>Classical.byContradiction fun hno=>?_,fun y hy=>Classical.byContradiction fun hno=>?_⟩
  · have he:=h.erase p
    have hw:=weak (P:=P.erase p) he.r he.c he.nd (KR:=KR.erase p.1) (KC:=KC.erase p.2) (fun q hq=>by
      have hqp:q≠p:=fun e=>h.nd.not_mem_erase (e▸hq)
      have hq':=List.mem_of_mem_erase hq
      rcases hc q hq' with h3 | h3
      · exact .inl ((List.mem_erase_of_ne (fun e=>hqp (h.r q p hq' hp e))).2 h3)
      · exact .inr ((List.mem_erase_of_ne (fun e=>hqp (h.c q p hq' hp e))).2 h3))
    rw [List.length_erase_of_mem hp,List.length_erase_of_mem h1,List.length_erase_of_mem h2] at hw
    have:=List.length_pos_of_mem h1
    have:=List.length_pos_of_mem h2
    omega
  · have hw:=weak (P:=P) h.r h.c h.nd (KR:=KR.erase x) (KC:=KC) (fun q hq=>by
      rcases hc q hq with h3 | h3
      · exact .inl ((List.mem_erase_of_ne (fun e=>hno ⟨q,hq,e⟩)).2 h3)
      · exact .inr h3)
    rw [List.length_erase_of_mem hx] at hw
    have:=List.length_pos_of_mem hx
    omega
  · have hw:=weak (P:=P) h.r h.c h.nd (KR:=KR) (KC:=KC.erase y) (fun q hq=>by
      rcases hc q hq with h3 | h3
      · exact .inl h3
      · exact .inr ((List.mem_erase_of_ne (fun e=>hno ⟨q,hq,e⟩)).2 h3))
    rw [List.length_erase_of_mem hy] at hw
    have:=List.length_pos_of_mem hy
    omega
section
variable {R C:Nat} {E:List (List Int)} {a b:List Int} {rows cols:List Bool}
theorem Mat.pr (h:Mat R C E a b rows cols):Pr (prs a C):=⟨h.prs_inj.1,h.prs_inj.2.1,h.prs_inj.2.2⟩
theorem Mat.prs_of (h:Mat R C E a b rows cols) {i c:Nat} (hc:c < C) (ha:a[c]?=some (i:Int)):((i:Int),(c:Int))∈prs a C:=by
  refine List.mem_map.2 ⟨(c:Int),mcl_mem.2 ⟨by omega,by simpa using hc,?_⟩,?_⟩
  · simp only [Int.toNat_natCast]
    rw [ha]
    intro e
    have:=Option.some.inj e
    omega
  · simp [ha]
theorem inE_lt (h:Mat R C E a b rows cols) (hE:KB R C E) {c i:Nat} (he:inE E c i):c < C∧i < R:=by
  obtain ⟨l,l1,l2⟩:=he
  have:=(List.getElem?_eq_some_iff.1 l1).1
  have h2:=hE.rng c l l1 _ l2
  rw [hE.len] at this
  exact ⟨this,by omega⟩
theorem Mat.ext (h:Mat R C E a b rows cols) (hE:KB R C E) {KR KC:List Int} (hc:∀ c i,inE E c i→(i:Int)∈KR∨(c:Int)∈KC) (hs:KR.length+KC.length≤(mcl a C).length):
    (∀ i:Nat,tr rows i→(i:Int)∈KR)∧∀ c:Nat,tr cols c→(c:Int)∉KC:=by
  have hT:Tight (prs a C) KR KC:=tight h.pr (fun p hp=>by
    obtain ⟨i,c,rfl,_,_,_,_,he⟩:=h.prs_mem hp
    exact hc c i he) (by rw [prs_len]; exact hs)
  have hCs:=h.cs
  have hclo:Clo E a b C (fun c=>(c:Int)∉KC) (fun i=>(i:Int)∈KR):=by
    refine ⟨fun c hcC ha hk=>?_,fun c i hX he=>?_,fun i c hY hb hk=>?_⟩
    · obtain ⟨p,hp,e⟩:=hT.c _ hk
      obtain ⟨i,c',rfl,_,_,ha',_,_⟩:=h.prs_mem hp
      have:c'=c:=by simp only at e; omega
      subst this
      rw [ha] at ha'
      have:=Option.some.inj ha'
      omega
    · rcases hc c i he with h3 | h3
      · exact h3
      · exact absurd h3 hX
    · have hcr:=hCs.cr i c hb (by omega)
      obtain ⟨ha,_⟩:=hCs.col i c hb (by omega) (by omega)
      simp only [Int.toNat_natCast] at ha
      exact hT.one _ (h.prs_of (by omega) ha) hY hk
  obtain ⟨h1,h2⟩:=h.rch.lst _ _ hclo
  exact ⟨h2,h1⟩
end
end Km
namespace Km
open Pl Sx Go M Vc
structure Dm (R C:Nat) (E E':List (List Int)) (a b a' b':List Int) (hr hc vc vr:List Bool):Prop where
  h:Mat R C E a b hr hc
  v:Mat C R E' a' b' vc vr
  kb:KB R C E
  kb':KB C R E'
  t:∀ c i,inE E c i↔inE E' i c
theorem Dm.flip {R C:Nat} {E E':List (List Int)} {a b a' b':List Int} {hr hc vc vr:List Bool} (d:Dm R C E E' a b a' b' hr hc vc vr):Dm C R E' E a' b' a b vc vr hr hc:=
  ⟨d.v,d.h,d.kb',d.kb,fun c i=>(d.t i c).symm⟩
section
variable {R C:Nat} {E E':List (List Int)} {a b a' b':List Int} {hr hc vc vr:List Bool}
theorem Dm.size_le (d:Dm R C E E' a b a' b' hr hc vc vr):(mcl a C).length≤(mcl a' R).length:=by
  have hp:=d.h.pr
  have hcl:=d.v.rch.cl
  have hw:=weak hp.r hp.c hp.nd (KR:=colsL vr) (KC:=rowsL vc) (fun p hp=>by
    obtain ⟨i,c,rfl,hi,hc',_,_,he⟩:=d.h.prs_mem hp
    rcases d.v.covers ((d.t c i).1 he) with h1 | h1
    · exact .inr (rowsL_mem.2 ⟨by simp,by rw [d.v.rch.rl]; simpa using hc',by simpa using h1⟩)
    · exact .inl (colsL_mem.2 ⟨by simp,by rw [hcl]; simpa using hi,by simpa using h1⟩))
  rw [prs_len] at hw
  rw [d.v.size]
  omega
theorem Dm.size_eq (d:Dm R C E E' a b a' b' hr hc vc vr):(mcl a C).length=(mcl a' R).length:=Nat.le_antisymm d.size_le d.flip.size_le
theorem Dm.cov (d:Dm R C E E' a b a' b' hr hc vc vr):∀ c i,inE E c i→(i:Int)∈colsL vr∨(c:Int)∈rowsL vc:=by
  intro c i he
  obtain ⟨h3,h4⟩:=inE_lt d.h d.kb he
  rcases d.v.covers ((d.t c i).1 he) with h1 | h1
  · exact .inr (rowsL_mem.2 ⟨by simp,by rw [d.v.rch.rl]; simpa using h3,by simpa using h1⟩)
  · exact .inl (colsL_mem.2 ⟨by simp,by rw [d.v.rch.cl]; simpa using h4,by simpa using h1⟩)
theorem Dm.disj (d:Dm R C E E' a b a' b' hr hc vc vr):(∀ i,tr hr i→¬ tr vr i)∧∀ c,tr hc c→¬ tr vc c:=by
  obtain ⟨h1,h2⟩:=d.h.ext d.kb d.cov (by rw [d.size_eq,d.v.size]; omega)
  refine ⟨fun i hi hv=>?_,fun c hc hv=>?_⟩
  · have:=(colsL_mem.1 (h1 i hi)).2.2
    exact this (by simpa using hv)
  · refine h2 c hc (rowsL_mem.2 ⟨by simp,?_,by simpa using hv⟩)
    have:=(List.getElem?_eq_some_iff.1 hv).1
    simpa using this
theorem Dm.tight (d:Dm R C E E' a b a' b' hr hc vc vr):Tight (prs a C) (colsL vr) (rowsL vc):=
  Km.tight d.h.pr (fun p hp=>by
    obtain ⟨i,c,rfl,_,_,_,_,he⟩:=d.h.prs_mem hp
    exact d.cov c i he) (by rw [prs_len,d.size_eq,d.v.size]; omega)
open Classical in
noncomputable def sqL (x y:List Bool) (n:Nat):List Int:=coll (fun i=>¬ tr x i∧¬ tr y i) n
theorem sqL_mem {u w:List Bool} {n:Nat} {x:Int}:x∈sqL u w n↔0≤x∧x.toNat < n∧¬ tr u x.toNat∧¬ tr w x.toNat:=by classical exact coll_mem _
theorem sqL_nd (u w:List Bool) (n:Nat):(sqL u w n).Nodup:=by classical exact asc_nodup (coll_asc _)
theorem at_i {l:List Int} {i:Nat} {x:Int} (h:l[i]?=some x):l[i]?.getD (-1)=x:=by rw [h]; rfl
theorem Mat.free (h:Mat R C E a b hr hc) {c:Nat} (hcC:c < C) (hn:¬ tr hc c):∃ i:Nat,i < R∧a[c]?=some (i:Int)∧b[i]?=some (c:Int)∧inE E c i:=
  h.col hcC (fun e=>hn (h.rch.clo.s c hcC e))
theorem Dm.sq_row (d:Dm R C E E' a b a' b' hr hc vc vr) {i:Nat} (hi:i < R) (h1:¬ tr hr i) (h2:¬ tr vr i):∃ c:Nat,c < C∧b[i]?=some (c:Int)∧a[c]?=some (i:Int)∧¬ tr hc c∧¬ tr vc c:=by
  have hT:=d.tight
  obtain ⟨p,hp,e⟩:=hT.r (i:Int) (colsL_mem.2 ⟨by simp,by rw [d.v.rch.cl]; simpa using hi,by simpa using h2⟩)
  have hno:=hT.one p hp (by rw [e]; exact colsL_mem.2 ⟨by simp,by rw [d.v.rch.cl]; simpa using hi,by simpa using h2⟩)
  obtain ⟨i',c,rfl,_,hcC,ha,hb,he⟩:=d.h.prs_mem hp
  simp only at e hno
  have:i'=i:=by omega
  subst this
  refine ⟨c,hcC,hb,ha,fun h3=>h1 (d.h.rch.clo.r c i' h3 he),fun h3=>hno (rowsL_mem.2 ⟨by simp,by rw [d.v.rch.rl]; simpa using hcC,by simpa using h3⟩)⟩
theorem Dm.sq_col (d:Dm R C E E' a b a' b' hr hc vc vr) {c:Nat} (hcC:c < C) (h1:¬ tr hc c) (h2:¬ tr vc c):∃ i:Nat,i < R∧a[c]?=some (i:Int)∧b[i]?=some (c:Int)∧¬ tr hr i∧¬ tr vr i:=by
  obtain ⟨i,hi,ha,hb,he⟩:=d.h.free hcC h1
  refine ⟨i,hi,ha,hb,fun h3=>h1 (d.h.rch.clo.c i c h3 hb),fun h3=>h2 (d.v.rch.clo.r i c h3 ((d.t c i).1 he))⟩
theorem Dm.square (d:Dm R C E E' a b a' b' hr hc vc vr):(sqL hr vr R).length=(sqL hc vc C).length:=by
  refine Nat.le_antisymm ?_ ?_
  · have h1:((sqL hr vr R).map fun x=>b[x.toNat]?.getD (-1)).Nodup:=by
      refine nodup_map (sqL_nd _ _ _) fun x y hx hy e=>?_
      obtain ⟨x0,x1,x2,x3⟩:=sqL_mem.1 hx
      obtain ⟨y0,y1,y2,y3⟩:=sqL_mem.1 hy
      obtain ⟨c,_,cb,ca,_⟩:=d.sq_row x1 x2 x3
      obtain ⟨c',_,cb',ca',_⟩:=d.sq_row y1 y2 y3
      rw [at_i cb,at_i cb'] at e
      have:c=c':=by omega
      subst this
      rw [ca] at ca'
      have:=Option.some.inj ca'
      omega
    have:=subG h1 (b:=sqL hc vc C) (fun y hy=>by
      obtain ⟨x,hx,rfl⟩:=List.mem_map.1 hy
      obtain ⟨x0,x1,x2,x3⟩:=sqL_mem.1 hx
      obtain ⟨c,hcC,cb,ca,c1,c2⟩:=d.sq_row x1 x2 x3
      rw [at_i cb]
      exact sqL_mem.2 ⟨by simp,by simpa using hcC,by simpa using c1,by simpa using c2⟩)
    simpa using this
  · have h1:((sqL hc vc C).map fun x=>a[x.toNat]?.getD (-1)).Nodup:=by
      refine nodup_map (sqL_nd _ _ _) fun x y hx hy e=>?_
      obtain ⟨x0,x1,x2,x3⟩:=sqL_mem.1 hx
      obtain ⟨y0,y1,y2,y3⟩:=sqL_mem.1 hy
      obtain ⟨c,_,cb,ca,_⟩:=d.sq_col x1 x2 x3
      obtain ⟨c',_,cb',ca',_⟩:=d.sq_col y1 y2 y3
      rw [at_i cb,at_i cb'] at e
      have:c=c':=by omega
      subst this
      rw [ca] at ca'
      have:=Option.some.inj ca'
      omega
    have:=subG h1 (b:=sqL hr vr R) (fun y hy=>by
      obtain ⟨x,hx,rfl⟩:=List.mem_map.1 hy
      obtain ⟨x0,x1,x2,x3⟩:=sqL_mem.1 hx
      obtain ⟨c,hcC,cb,ca,c1,c2⟩:=d.sq_col x1 x2 x3
      rw [at_i cb]
      exact sqL_mem.2 ⟨by simp,by simpa using hcC,by simpa using c1,by simpa using c2⟩)
    simpa using this
theorem Mat.wide (h:Mat R C E a b hr hc):(rowsL hr).length≤(rowsL hc).length∧(rowsL hc≠[]→(rowsL hr).length < (rowsL hc).length):=by
  have hcl:=h.rch.cl
  have hrl:=h.rch.rl
  have h1:((rowsL hr).map fun x=>b[x.toNat]?.getD (-1)).Nodup:=by
    refine nodup_map (rowsL_nd _) fun x y hx hy e=>?_
    obtain ⟨x0,x1,x2⟩:=rowsL_mem.1 hx
    obtain ⟨y0,y1,y2⟩:=rowsL_mem.1 hy
    obtain ⟨c,cb,_,ca,_⟩:=h.row x2
    obtain ⟨c',cb',_,ca',_⟩:=h.row y2
    rw [at_i cb,at_i cb'] at e
    have:c=c':=by omega
    subst this
    rw [ca] at ca'
    have:=Option.some.inj ca'
    omega
  have h2:∀ y,y∈(rowsL hr).map (fun x=>b[x.toNat]?.getD (-1))→y∈rowsL hc∧a[y.toNat]?≠some (-1):=by
    intro y hy
    obtain ⟨x,hx,rfl⟩:=List.mem_map.1 hy
    obtain ⟨x0,x1,x2⟩:=rowsL_mem.1 hx
    obtain ⟨c,cb,cC,ca,_,ct⟩:=h.row x2
    rw [at_i cb]
    refine ⟨rowsL_mem.2 ⟨by simp,by rw [hcl]; simpa using cC,by simpa using ct⟩,?_⟩
    simp only [Int.toNat_natCast]
    rw [ca]
    intro e
    have:=Option.some.inj e
    omega
  have h3:=subG h1 (fun y hy=>(h2 y hy).1)
  simp only [List.length_map] at h3
  refine ⟨h3,fun hne=>?_⟩
  obtain ⟨c0,hc0,ha0⟩:∃ c,c < C∧a[c]?=some (-1):=by
    refine Classical.byContradiction fun hno=>hne ?_
    have:=(h.rch.lst (fun _=>False) (fun _=>False) ⟨fun c h1 h2=>hno ⟨c,h1,h2⟩,fun _ _ h=>h.elim,fun _ _ h=>h.elim⟩).1
    refine List.eq_nil_iff_forall_not_mem.2 fun x hx=>this _ (rowsL_mem.1 hx).2.2
  have ht:=h.rch.clo.s c0 hc0 ha0
  have hnd:((c0:Int)::(rowsL hr).map fun x=>b[x.toNat]?.getD (-1)).Nodup:=by
    rw [List.nodup_cons]
    exact ⟨fun hm=>(h2 _ hm).2 (by simpa using ha0),h1⟩
  have:=subG hnd (b:=rowsL hc) (fun y hy=>by
    rcases List.mem_cons.1 hy with rfl | hy
    · exact rowsL_mem.2 ⟨by simp,by rw [hcl]; simpa using hc0,by simpa using ht⟩
    · exact (h2 y hy).1)
  simp only [List.length_cons,List.length_map] at this
  omega
theorem Dm.below (d:Dm R C E E' a b a' b' hr hc vc vr) {c i:Nat} (he:inE E c i):(tr hc c→tr hr i)∧(tr vr i→tr vc c):=
  ⟨fun h=>d.h.rch.clo.r c i h he,fun h=>d.v.rch.clo.r i c h ((d.t c i).1 he)⟩
theorem Dm.rank (d:Dm R C E E' a b a' b' hr hc vc vr):(mcl a C).length=(rowsL hr).length+(sqL hr vr R).length+(rowsL vc).length:=by
  have hcl:=d.h.rch.cl
  have hvl:=d.v.rch.rl
  rw [d.h.size,d.square]
  have hsp:(colsL hc).length=(sqL hc vc C++rowsL vc).length:=by
    have hnd:(sqL hc vc C++rowsL vc).Nodup:=by
      rw [List.nodup_append]
      refine ⟨sqL_nd _ _ _,rowsL_nd _,fun x hx y hy e=>?_⟩
      subst e
      exact (sqL_mem.1 hx).2.2.2 (rowsL_mem.1 hy).2.2
    refine Nat.le_antisymm (subG (colsL_nd _) fun x hx=>?_) (subG hnd fun x hx=>?_)
    · obtain ⟨x0,x1,x2⟩:=colsL_mem.1 hx
      by_cases hv:tr vc x.toNat
      · exact List.mem_append.2 (.inr (rowsL_mem.2 ⟨x0,by omega,hv⟩))
      · exact List.mem_append.2 (.inl (sqL_mem.2 ⟨x0,by omega,x2,hv⟩))
    · rcases List.mem_append.1 hx with hx | hx
      · obtain ⟨x0,x1,x2,x3⟩:=sqL_mem.1 hx
        exact colsL_mem.2 ⟨x0,by omega,x2⟩
      · obtain ⟨x0,x1,x2⟩:=rowsL_mem.1 hx
        exact colsL_mem.2 ⟨x0,by omega,fun h=>d.disj.2 _ h x2⟩
  rw [hsp,List.length_append]
  omega
end
end Km
namespace Km
open Pl Sx Go M Vc
inductive RT (e:Nat→Nat→Prop):Nat→Nat→Prop
  | refl (a:Nat):RT e a a
  | tail {a b c:Nat}:RT e a b→e b c→RT e a c
section
variable {e e':Nat→Nat→Prop} {a b c:Nat}
theorem RT.one (h:e a b):RT e a b:=.tail (.refl a) h
theorem RT.trans (h:RT e a b) (h':RT e b c):RT e a c:=by
  induction h' with
  | refl=>exact h
  | tail _ h2 ih=>exact .tail ih h2
theorem RT.back {X:Nat→Prop} (hX:∀ j k,e j k→X k→X j) (h:RT e a b):X b→X a:=by
  induction h with
  | refl=>exact id
  | tail _ h2 ih=>exact fun hc=>ih (hX _ _ h2 hc)
theorem RT.fwd {X:Nat→Prop} (hX:∀ j k,e j k→X j→X k) (h:RT e a b):X a→X b:=by
  induction h with
  | refl=>exact id
  | tail _ h2 ih=>exact fun hc=>hX _ _ h2 (ih hc)
theorem RT.map {f:Nat→Nat} (hf:∀ j k,e j k→e' (f j) (f k)) (h:RT e a b):RT e' (f a) (f b):=by
  induction h with
  | refl=>exact .refl _
  | tail _ h2 ih=>exact .tail ih (hf _ _ h2)
theorem RT.mono (hf:∀ j k,e j k→e' j k) (h:RT e a b):RT e' a b:=RT.map (f:=id) hf h
theorem RT.cross {X:Nat→Prop} (h:RT e a b) (ha:¬ X a) (hb:X b):∃ u v,RT e a u∧¬ X u∧e u v∧X v∧RT e v b:=by
  induction h with
  | refl=>exact absurd hb ha
  | @tail u v h1 h2 ih=>
    by_cases hu:X u
    · obtain ⟨p,q,h3,h4,h5,h6,h7⟩:=ih hu
      exact ⟨p,q,h3,h4,h5,h6,.tail h7 h2⟩
    · exact ⟨u,v,h1,hu,h2,hb,.refl _⟩
end
structure Pfm (n:Nat) (e:Nat→Nat→Prop) (f:Nat→Nat):Prop where
  lt:∀ c,c < n→f c < n
  ed:∀ c,c < n→e c (f c)
  inj:∀ c d,c < n→d < n→f c=f d→c=d
  rng:∀ c i,e c i→c < n∧i < n
def arcF (n:Nat) (e:Nat→Nat→Prop) (f:Nat→Nat) (j k:Nat):Prop:=j < n∧k < n∧e k (f j)
def img (f:Nat→Nat) (l:List Int):List Int:=l.map fun x=>(f x.toNat:Int)
theorem img_len (f:Nat→Nat) (l:List Int):(img f l).length=l.length:=by simp [img]
section
variable {n:Nat} {e:Nat→Nat→Prop} {f g:Nat→Nat}
theorem Pfm.img_nd (h:Pfm n e f) {l:List Int} (hl:l.Nodup) (hr:∀ x,x∈l→0≤x∧x < (n:Int)):(img f l).Nodup:=by
  refine nodup_map hl fun x y hx hy he=>?_
  have h1:=hr x hx
  have h2:=hr y hy
  have:=h.inj x.toNat y.toNat (by omega) (by omega) (by omega)
  omega
open Classical in
theorem Pfm.surj (h:Pfm n e f) {i:Nat} (hi:i < n):∃ c,c < n∧f c=i:=by
  refine Classical.byContradiction fun hno=>?_
  let l:List Int:=coll (fun _=>True) n
  have hl:∀ x,x∈l↔0≤x∧x.toNat < n:=fun x=>by simp only [l]; rw [coll_mem]; simp
  have hll:l.Nodup:=asc_nodup (coll_asc _)
  have hnd:=h.img_nd hll (fun x hx=>by have:=(hl x).1 hx; omega)
  have h1:((i:Int)::img f l).Nodup:=by
    rw [List.nodup_cons]
    refine ⟨fun hm=>?_,hnd⟩
    obtain ⟨x,hx,he⟩:=List.mem_map.1 hm
    exact hno ⟨x.toNat,((hl x).1 hx).2,by omega⟩
  have h2:=subG h1 (b:=l) (fun x hx=>by
    rcases List.mem_cons.1 hx with rfl | hx
    · exact (hl _).2 ⟨by omega,by simpa using hi⟩
    · obtain ⟨y,hy,rfl⟩:=List.mem_map.1 hx
      have:=h.lt y.toNat ((hl y).1 hy).2
      exact (hl _).2 ⟨by omega,by simpa using this⟩)
  simp only [List.length_cons,img_len] at h2
  omega
theorem sub_all {a b:List Int} (hd:a.Nodup) (hs:∀ x,x∈a→x∈b) (hl:b.length≤a.length):∀ x,x∈b→x∈a:=by
  intro x hx
  refine Classical.byContradiction fun hno=>?_
  have:=subG (a:=x::a) (b:=b) (List.nodup_cons.2 ⟨hno,hd⟩) (fun y hy=>by
    rcases List.mem_cons.1 hy with rfl | hy
    · exact hx
    · exact hs y hy)
  simp only [List.length_cons] at this
  omega
open Classical in
theorem Pfm.any (h:Pfm n e f) (hg:Pfm n e g) {j k:Nat} (hk:k < n) (hp:RT (arcF n e f) j k):RT (arcF n e g) j k:=by
  let X:Nat→Prop:=fun c=>RT (arcF n e g) c k
  let l:List Int:=coll X n
  have hl:∀ x,x∈l↔0≤x∧x.toNat < n∧X x.toNat:=fun x=>by simp only [l]; rw [coll_mem]
  have hll:l.Nodup:=asc_nodup (coll_asc _)
  have hlr:∀ x,x∈l→0≤x∧x < (n:Int):=fun x hx=>by have:=(hl x).1 hx; omega
  have hmeet:∀ c i,X c→e c i→(i:Int)∈img g l:=by
    intro c i hc he
    obtain ⟨h1,h2⟩:=h.rng c i he
    obtain ⟨d,d1,d2⟩:=hg.surj h2
    subst d2
    have hd:X d:=(RT.one (e:=arcF n e g) ⟨d1,h1,he⟩).trans hc
    exact List.mem_map.2 ⟨(d:Int),(hl _).2 ⟨by omega,by simpa using d1,by simpa using hd⟩,by simp⟩
  have hsub:∀ x,x∈img f l→x∈img g l:=by
    intro x hx
    obtain ⟨y,hy,rfl⟩:=List.mem_map.1 hx
    obtain ⟨_,y1,y2⟩:=(hl y).1 hy
    exact hmeet y.toNat _ y2 (h.ed _ y1)
  have hall:=sub_all (h.img_nd hll hlr) hsub (by simp [img])
  refine hp.back (X:=X) (fun c d ⟨h1,h2,h3⟩ hd=>?_) (.refl k)
  obtain ⟨y,hy,he⟩:=List.mem_map.1 (hall _ (hmeet d _ hd h3))
  obtain ⟨_,y1,y2⟩:=(hl y).1 hy
  have:=h.inj y.toNat c y1 h1 (by omega)
  rw [← this]
  exact y2
def sc (r:Nat→Nat→Prop) (j k:Nat):Prop:=r j k∧r k j
theorem RT.lt {j k:Nat} (h:RT (arcF n e f) j k) (hk:k < n):j < n:=by
  exact h.back (X:=fun c=>c < n) (fun a b h1 _=>h1.1) hk
theorem Pfm.irr (h:Pfm n e f) {r:Nat} {X:Nat→Prop} (hX:∀ c,X c→sc (RT (arcF n e f)) r c) {x y:Nat} (hx:X x) (hy:¬ X y) (hyr:sc (RT (arcF n e f)) r y):
    ∃ u v,sc (RT (arcF n e f)) r u∧¬ X u∧X v∧u < n∧v < n∧e v (f u):=by
  have hxr:=hX x hx
  obtain ⟨u,v,h1,h2,h3,h4,h5⟩:=RT.cross (X:=X) (hyr.2.trans hxr.1) hy hx
  refine ⟨u,v,⟨hyr.1.trans h1,?_⟩,h2,h4,h3.1,h3.2.1,h3.2.2⟩
  exact ((RT.one h3).trans h5).trans hxr.2
end
end Km
namespace Km
open Pl Sx Go M Vc
section
variable (n:Nat) (r:Nat→Nat→Prop)
def free (P:Nat→Prop) (j:Nat):Prop:=¬ P j∧∀ k,k < n→P k∨¬ r k j∨r j k
def pl (L:List Nat) (i:Nat):Prop:=∃ m,m∈L∧sc r m i
structure Ord (L:List Nat):Prop where
  ok:∀ (i m:Nat),L[i]?=some m→m < n∧free n r (pl r (L.take i)) m∧∀ j,j < m→¬ free n r (pl r (L.take i)) j
structure Pre:Prop where
  refl:∀ i,r i i
  trans:∀ i j k,r i j→r j k→r i k
end
section
variable {n:Nat} {r:Nat→Nat→Prop}
theorem Ord.nil:Ord n r []:=⟨fun i m h=>by simp at h⟩
theorem Ord.snoc {L:List Nat} {m:Nat}:Ord n r (L++[m])↔Ord n r L∧m < n∧free n r (pl r L) m∧∀ j,j < m→¬ free n r (pl r L) j:=by
  constructor
  · intro h
    have hm:=h.ok L.length m (by simp)
    rw [List.take_left] at hm
    refine ⟨⟨fun i x hx=>?_⟩,hm⟩
    have hi:=(List.getElem?_eq_some_iff.1 hx).1
    have:=h.ok i x (by rw [List.getElem?_append_left hi]; exact hx)
    rwa [List.take_append_of_le_length (by omega)] at this
  · rintro ⟨h,hm⟩
    refine ⟨fun i x hx=>?_⟩
    by_cases hi:i < L.length
    · rw [List.getElem?_append_left hi] at hx
      rw [List.take_append_of_le_length (by omega)]
      exact h.ok i x hx
    · rw [List.getElem?_append_right (by omega)] at hx
      have hi2:i - L.length=0:=by
        have:=(List.getElem?_eq_some_iff.1 hx).1
        simp at this
        omega
      have:i=L.length:=by omega
      subst this
      rw [List.take_left]
      simp at hx
      subst hx
      exact hm
theorem sc.symm {j k:Nat} (h:sc r j k):sc r k j:=⟨h.2,h.1⟩
theorem sc.trans (hr:Pre r) {i j k:Nat} (h:sc r i j) (h':sc r j k):sc r i k:=⟨hr.trans _ _ _ h.1 h'.1,hr.trans _ _ _ h'.2 h.2⟩
theorem free.blk (hr:Pre r) {L:List Nat} {j k:Nat} (h:free n r (pl r L) j) (hs:sc r j k):free n r (pl r L) k:=by
  refine ⟨fun ⟨m,h1,h2⟩=>h.1 ⟨m,h1,sc.trans hr h2 hs.symm⟩,fun i hi=>?_⟩
  rcases h.2 i hi with h3 | h3 | h3
  · exact .inl h3
  · exact .inr (.inl fun h4=>h3 (hr.trans _ _ _ h4 hs.2))
  · exact .inr (.inr (hr.trans _ _ _ hs.2 h3))
open Classical in
theorem free_some (hr:Pre r) {P:Nat→Prop}:∀ (d j:Nat),j < n→¬ P j→(coll (fun k=>¬ P k∧r k j) n).length≤d→∃ k,k < n∧free n r P k:=by
  intro d
  induction d with
  | zero=>
    intro j hj hp hd
    have:(j:Int)∈coll (fun k=>¬ P k∧r k j) n:=(coll_mem _).2 ⟨by omega,by simpa using hj,by simpa using ⟨hp,hr.refl j⟩⟩
    have hnil:coll (fun k=>¬ P k∧r k j) n=[]:=List.eq_nil_of_length_eq_zero (by omega)
    rw [hnil] at this
    simp at this
  | succ d ih=>
    intro j hj hp hd
    by_cases hf:free n r P j
    · exact ⟨j,hj,hf⟩
    · obtain ⟨k,hk,h1,h2,h3⟩:∃ k,k < n∧¬ P k∧r k j∧¬ r j k:=by
        refine Classical.byContradiction fun hno=>hf ⟨hp,fun k hk=>?_⟩
        by_cases h1:P k
        · exact .inl h1
        · by_cases h2:r k j
          · by_cases h3:r j k
            · exact .inr (.inr h3)
            · exact absurd ⟨k,hk,h1,h2,h3⟩ hno
          · exact .inr (.inl h2)
      refine ih k hk h1 ?_
      have hnd:((j:Int)::coll (fun i=>¬ P i∧r i k) n).Nodup:=by
        rw [List.nodup_cons]
        refine ⟨fun hm=>?_,asc_nodup (coll_asc _)⟩
        have:=((coll_mem _).1 hm).2.2.2
        exact h3 (by simpa using this)
      have:=subG hnd (b:=coll (fun i=>¬ P i∧r i j) n) (fun x hx=>by
        rcases List.mem_cons.1 hx with rfl | hx
        · exact (coll_mem _).2 ⟨by omega,by simpa using hj,by simpa using ⟨hp,hr.refl j⟩⟩
        · obtain ⟨x0,x1,x2,x3⟩:=(coll_mem _).1 hx
          exact (coll_mem _).2 ⟨x0,x1,x2,hr.trans _ _ _ x3 h2⟩)
      simp only [List.length_cons] at this
      omega
theorem Ord.uniq {L M:List Nat} (h:Ord n r L) (h':Ord n r M) (hl:L.length=M.length):L=M:=by
  apply List.ext_getElem?
  intro i
  induction i using Nat.strongRecOn with
  | ind i ih=>
  by_cases hi:i < L.length
  · have e1:L[i]?=some L[i]:=List.getElem?_eq_getElem hi
    have e2:M[i]?=some (M[i]'(by omega)):=List.getElem?_eq_getElem (by omega)
    have ht:L.take i=M.take i:=by
      apply List.ext_getElem?
      intro j
      rw [List.getElem?_take,List.getElem?_take]
      by_cases hj:j < i
      · rw [if_pos hj,if_pos hj,ih j hj]
      · rw [if_neg hj,if_neg hj]
    have a1:=h.ok i _ e1
    have a2:=h'.ok i _ e2
    rw [ht] at a1
    rw [e1,e2]
    congr 1
    have b1:¬ L[i] < M[i]'(by omega):=fun hlt=>a2.2.2 _ hlt a1.2.1
    have b2:¬ M[i]'(by omega) < L[i]:=fun hlt=>a1.2.2 _ hlt a2.2.1
    omega
  · rw [List.getElem?_eq_none (by omega),List.getElem?_eq_none (by omega)]
theorem Ord.diff {L:List Nat} (h:Ord n r L) {i j a b:Nat} (hi:L[i]?=some a) (hj:L[j]?=some b) (hs:sc r a b) (hr:Pre r):i=j:=by
  have key:∀ {i j a b:Nat},L[i]?=some a→L[j]?=some b→sc r a b→¬ i < j:=by
    intro i j a b hi hj hs hlt
    have h1:=(h.ok j b hj).2.1.1
    refine h1 ⟨a,?_,hs⟩
    refine List.mem_of_getElem? (i:=i) ?_
    rw [List.getElem?_take,if_pos hlt]
    exact hi
  have h1:=key hi hj hs
  have h2:=key hj hi hs.symm
  omega
theorem Ord.down {L:List Nat} (h:Ord n r L) (hr:Pre r) {i j a b:Nat} (hi:L[i]?=some a) (hj:L[j]?=some b) (ha:a < n) (hab:r a b):i≤j:=by
  rcases (h.ok j b hj).2.1.2 a ha with h1 | h1 | h1
  · obtain ⟨m,hm,hs⟩:=h1
    obtain ⟨t,ht⟩:=List.mem_iff_getElem?.1 hm
    rw [List.getElem?_take] at ht
    split at ht
    · rename_i htj
      have:=h.diff ht hi hs hr
      omega
    · cases ht
  · exact absurd hab h1
  · have:=h.diff hi hj ⟨hab,h1⟩ hr
    omega
theorem Ord.len {L:List Nat} (h:Ord n r L) (hr:Pre r):L.length≤n:=by
  have hnd:(L.map Int.ofNat).Nodup:=by
    rw [List.nodup_iff_pairwise_ne,List.pairwise_map,List.pairwise_iff_getElem]
    intro i j hi hj hij he
    have e:L[i]=L[j]:=Int.ofNat.inj he
    have:=h.diff (List.getElem?_eq_getElem hi) (List.getElem?_eq_getElem hj) (e▸⟨hr.refl _,hr.refl _⟩) hr
    omega
  have:=subG hnd (b:=(List.range n).map Int.ofNat) (fun x hx=>by
    obtain ⟨m,hm,rfl⟩:=List.mem_map.1 hx
    obtain ⟨i,hi⟩:=List.mem_iff_getElem?.1 hm
    exact List.mem_map.2 ⟨m,List.mem_range.2 (h.ok i m hi).1,rfl⟩)
  simpa using this
end
end Km
namespace Km
open Pl Sx Go M Vc
theorem flat_nd:∀ {E:List (List Int)},(∀ l,l∈E→l.Nodup)→(∀ (i j:Nat) l m x,E[i]?=some l→E[j]?=some m→x∈l→x∈m→i=j)→E.flatten.Nodup
  | [],_,_=>by simp
  | l::E,h1,h2=>by
    rw [List.flatten_cons,List.nodup_append]
    refine ⟨h1 l (by simp),flat_nd (fun m hm=>h1 m (by simp [hm])) (fun i j a b x hi hj ha hb=>?_),fun x hx y hy e=>?_⟩
    · have:=h2 (i+1) (j+1) a b x (by simpa using hi) (by simpa using hj) ha hb
      omega
    · subst e
      obtain ⟨m,hm,hxm⟩:=List.mem_flatten.1 hy
      obtain ⟨j,hj⟩:=List.mem_iff_getElem?.1 hm
      have:=h2 0 (j+1) l m x rfl (by simpa using hj) hx hxm
      omega
section
variable (n:Nat) (r:Nat→Nat→Prop) (f:Nat→Nat)
open Classical in
noncomputable def cls (j:Nat):List Int:=coll (fun k=>sc r j k) n
open Classical in
noncomputable def rws (j:Nat):List Int:=coll (fun i=>∃ k,k < n∧sc r j k∧f k=i) n
noncomputable def clsE (L:List Nat):List (List Int):=L.map (cls n r)
noncomputable def rwsE (L:List Nat):List (List Int):=L.map (rws n r f)
structure Full (L:List Nat):Prop where
  o:Ord n r L
  p:Pre r
  all:∀ k,k < n→pl r L k
end
section
variable {n:Nat} {r:Nat→Nat→Prop} {f:Nat→Nat} {L:List Nat}
theorem cls_mem {j:Nat} {x:Int}:x∈cls n r j↔0≤x∧x.toNat < n∧sc r j x.toNat:=by classical exact coll_mem _
theorem rws_mem {j:Nat} {x:Int}:x∈rws n r f j↔0≤x∧x.toNat < n∧∃ k,k < n∧sc r j k∧f k=x.toNat:=by classical exact coll_mem _
theorem cls_asc (j:Nat):(cls n r j).Pairwise (· < ·):=by classical exact coll_asc _
theorem rws_asc (j:Nat):(rws n r f j).Pairwise (· < ·):=by classical exact coll_asc _
theorem clsE_get {L:List Nat} {i:Nat} {l:List Int} (h:(clsE n r L)[i]?=some l):∃ m,L[i]?=some m∧l=cls n r m:=by
  simp only [clsE,List.getElem?_map] at h
  cases e:L[i]? with
  | none=>rw [e] at h; simp at h
  | some m=>rw [e] at h; simp at h; exact ⟨m,rfl,h.symm⟩
theorem rwsE_get {L:List Nat} {i:Nat} {l:List Int} (h:(rwsE n r f L)[i]?=some l):∃ m,L[i]?=some m∧l=rws n r f m:=by
  simp only [rwsE,List.getElem?_map] at h
  cases e:L[i]? with
  | none=>rw [e] at h; simp at h
  | some m=>rw [e] at h; simp at h; exact ⟨m,rfl,h.symm⟩
theorem Full.cols_nd (h:Full n r L):(clsE n r L).flatten.Nodup:=by
  refine flat_nd (fun l hl=>?_) fun i j l m x hi hj hx hy=>?_
  · obtain ⟨m,_,rfl⟩:=List.mem_map.1 hl
    exact asc_nodup (cls_asc m)
  · obtain ⟨a,ha,rfl⟩:=clsE_get hi
    obtain ⟨b,hb,rfl⟩:=clsE_get hj
    exact h.o.diff ha hb (sc.trans h.p (cls_mem.1 hx).2.2 (cls_mem.1 hy).2.2.symm) h.p
theorem Full.rows_nd {e:Nat→Nat→Prop} (h:Full n r L) (hf:Pfm n e f):(rwsE n r f L).flatten.Nodup:=by
  refine flat_nd (fun l hl=>?_) fun i j l m x hi hj hx hy=>?_
  · obtain ⟨m,_,rfl⟩:=List.mem_map.1 hl
    exact asc_nodup (rws_asc m)
  · obtain ⟨a,ha,rfl⟩:=rwsE_get hi
    obtain ⟨b,hb,rfl⟩:=rwsE_get hj
    obtain ⟨_,_,k,hk,hs,hfk⟩:=rws_mem.1 hx
    obtain ⟨_,_,k',hk',hs',hfk'⟩:=rws_mem.1 hy
    have:k=k':=hf.inj k k' hk hk' (by omega)
    subst this
    exact h.o.diff ha hb (sc.trans h.p hs hs'.symm) h.p
theorem Full.cols_all (h:Full n r L) {k:Nat} (hk:k < n):∃ (b:Nat) (m:Nat),L[b]?=some m∧(k:Int)∈cls n r m:=by
  obtain ⟨m,hm,hs⟩:=h.all k hk
  obtain ⟨b,hb⟩:=List.mem_iff_getElem?.1 hm
  exact ⟨b,m,hb,cls_mem.2 ⟨by omega,by simpa using hk,by simpa using hs⟩⟩
theorem Full.rows_all {e:Nat→Nat→Prop} (h:Full n r L) (hf:Pfm n e f) {i:Nat} (hi:i < n):∃ (b:Nat) (m:Nat),L[b]?=some m∧(i:Int)∈rws n r f m:=by
  obtain ⟨k,hk,rfl⟩:=hf.surj hi
  obtain ⟨m,hm,hs⟩:=h.all k hk
  obtain ⟨b,hb⟩:=List.mem_iff_getElem?.1 hm
  exact ⟨b,m,hb,rws_mem.2 ⟨by omega,by simpa using hi,k,hk,hs,by simp⟩⟩
theorem mem_flat {E:List (List Int)} {b:Nat} {l:List Int} {x:Int} (h:E[b]?=some l) (hx:x∈l):x∈E.flatten:=List.mem_flatten.2 ⟨l,List.mem_of_getElem? h,hx⟩
theorem clsE_at {L:List Nat} {b m:Nat} (h:L[b]?=some m):(clsE n r L)[b]?=some (cls n r m):=by simp [clsE,h]
theorem rwsE_at {L:List Nat} {b m:Nat} (h:L[b]?=some m):(rwsE n r f L)[b]?=some (rws n r f m):=by simp [rwsE,h]
theorem full_list {l:List Int} (hd:l.Nodup) (hr:∀ x,x∈l→0≤x∧x < (n:Int)) (ha:∀ k:Nat,k < n→(k:Int)∈l):l.length=n:=by
  have h1:=subG hd (b:=(List.range n).map Int.ofNat) (fun x hx=>by
    have:=hr x hx
    exact List.mem_map.2 ⟨x.toNat,List.mem_range.2 (by omega),by simp; omega⟩)
  have hn:((List.range n).map Int.ofNat).Nodup:=by
    rw [List.nodup_iff_pairwise_ne,List.pairwise_map]
    exact (List.nodup_iff_pairwise_ne.1 List.nodup_range).imp fun h e=>h (Int.ofNat.inj e)
  have h2:=subG hn (b:=l) (fun x hx=>by
    obtain ⟨k,hk,rfl⟩:=List.mem_map.1 hx
    exact ha k (List.mem_range.1 hk))
  simp at h1 h2
  omega
theorem Full.cols_rng {L:List Nat} {x:Int} (hx:x∈(clsE n r L).flatten):0≤x∧x < (n:Int):=by
  obtain ⟨l,hl,hxl⟩:=List.mem_flatten.1 hx
  obtain ⟨m,_,rfl⟩:=List.mem_map.1 hl
  have:=cls_mem.1 hxl
  omega
theorem Full.rows_rng {L:List Nat} {x:Int} (hx:x∈(rwsE n r f L).flatten):0≤x∧x < (n:Int):=by
  obtain ⟨l,hl,hxl⟩:=List.mem_flatten.1 hx
  obtain ⟨m,_,rfl⟩:=List.mem_map.1 hl
  have:=rws_mem.1 hxl
  omega
theorem Full.cols_len (h:Full n r L):(clsE n r L).flatten.length=n:=
  full_list h.cols_nd (fun x hx=>Full.cols_rng hx) fun k hk=>by
    obtain ⟨b,m,hb,hm⟩:=h.cols_all hk
    exact mem_flat (clsE_at hb) hm
theorem Full.rows_len {e:Nat→Nat→Prop} (h:Full n r L) (hf:Pfm n e f):(rwsE n r f L).flatten.length=n:=
  full_list (h.rows_nd hf) (fun x hx=>Full.rows_rng hx) fun k hk=>by
    obtain ⟨b,m,hb,hm⟩:=h.rows_all hf hk
    exact mem_flat (rwsE_at hb) hm
theorem blk_len {e:Nat→Nat→Prop} (hf:Pfm n e f) (m:Nat):(rws n r f m).length=(cls n r m).length:=by
  have hr:∀ x,x∈cls n r m→0≤x∧x < (n:Int):=fun x hx=>by have:=cls_mem.1 hx; omega
  have hnd:=hf.img_nd (asc_nodup (cls_asc (n:=n) (r:=r) m)) hr
  have h1:=subG hnd (b:=rws n r f m) (fun x hx=>by
    obtain ⟨y,hy,rfl⟩:=List.mem_map.1 hx
    obtain ⟨y0,y1,y2⟩:=cls_mem.1 hy
    exact rws_mem.2 ⟨by omega,by simpa using hf.lt _ y1,y.toNat,y1,y2,by simp⟩)
  have h2:=subG (asc_nodup (rws_asc (n:=n) (r:=r) (f:=f) m)) (b:=img f (cls n r m)) (fun x hx=>by
    obtain ⟨x0,x1,k,hk,hs,hfk⟩:=rws_mem.1 hx
    exact List.mem_map.2 ⟨(k:Int),cls_mem.2 ⟨by omega,by simpa using hk,by simpa using hs⟩,by simp only [Int.toNat_natCast]; omega⟩)
  rw [img_len] at h1 h2
  omega
theorem Full.upper {e:Nat→Nat→Prop} {L:List Nat} (h:Full n (RT (arcF n e f)) L) (hf:Pfm n e f) {c i b b' m m':Nat} (he:e c i) (hb:L[b]?=some m) (hi:(i:Int)∈rws n (RT (arcF n e f)) f m) (hb':L[b']?=some m') (hc:(c:Int)∈cls n (RT (arcF n e f)) m'):b≤b':=by
  obtain ⟨_,_,k,hk,hs,hfk⟩:=rws_mem.1 hi
  obtain ⟨_,_,hs'⟩:=cls_mem.1 hc
  simp only [Int.toNat_natCast] at hfk hs'
  obtain ⟨hcn,hin⟩:=hf.rng c i he
  have ha:RT (arcF n e f) k c:=.one ⟨hk,hcn,by rw [hfk]; exact he⟩
  exact h.o.down h.p hb hb' (h.o.ok b m hb).1 ((hs.1.trans ha).trans hs'.2)
theorem Pre.rt {e:Nat→Nat→Prop}:Pre (RT (arcF n e f)):=⟨fun i=>.refl i,fun i j k h h'=>h.trans h'⟩
end
end Km
namespace Km
open Pl Sx Go M Vc
structure Bj (n:Nat) (x xi:Nat→Nat):Prop where
  lt:∀ i,i < n→x i < n
  lti:∀ i,i < n→xi i < n
  l:∀ i,i < n→xi (x i)=i
  r:∀ i,i < n→x (xi i)=i
theorem Bj.flip {n:Nat} {x xi:Nat→Nat} (h:Bj n x xi):Bj n xi x:=⟨h.lti,h.lt,h.r,h.l⟩
section
variable {n:Nat} {x xi y yi:Nat→Nat} {e et:Nat→Nat→Prop} {f g:Nat→Nat}
theorem Pfm.back (hx:Bj n x xi) (hy:Bj n y yi) (ht:∀ l k,l < n→k < n→(et l k↔e (y l) (x k))) (he:∀ c i,e c i→c < n∧i < n) (h:Pfm n et g):Pfm n e (fun c=>x (g (yi c))):=by
  refine ⟨fun c hc=>hx.lt _ (h.lt _ (hy.lti c hc)),fun c hc=>?_,fun c d hc hd hcd=>?_,he⟩
  · have h1:=h.ed (yi c) (hy.lti c hc)
    have h2:=(ht _ _ (hy.lti c hc) (h.lt _ (hy.lti c hc))).1 h1
    rwa [hy.r c hc] at h2
  · have h1:g (yi c)=g (yi d):=by
      have a1:=hx.l _ (h.lt _ (hy.lti c hc))
      have a2:=hx.l _ (h.lt _ (hy.lti d hd))
      rw [← a1,← a2,hcd]
    have h2:=h.inj _ _ (hy.lti c hc) (hy.lti d hd) h1
    rw [← hy.r c hc,← hy.r d hd,h2]
theorem RT_back (hx:Bj n x xi) (hy:Bj n y yi) (ht:∀ l k,l < n→k < n→(et l k↔e (y l) (x k))) (h:Pfm n et g) {l l':Nat} (hp:RT (arcF n et g) l l'):RT (arcF n e (fun c=>x (g (yi c)))) (y l) (y l'):=by
  refine hp.map fun j k ⟨h1,h2,h3⟩=>⟨hy.lt j h1,hy.lt k h2,?_⟩
  show e (y k) (x (g (yi (y j))))
  rw [hy.l j h1]
  exact (ht k (g j) h2 (h.lt j h1)).1 h3
theorem RT_forth (hx:Bj n x xi) (hy:Bj n y yi) (ht:∀ l k,l < n→k < n→(et l k↔e (y l) (x k))) (h:Pfm n et g) {c c':Nat} (hp:RT (arcF n e (fun c=>x (g (yi c)))) c c'):RT (arcF n et g) (yi c) (yi c'):=by
  refine hp.map fun j k ⟨h1,h2,h3⟩=>⟨hy.lti j h1,hy.lti k h2,?_⟩
  refine (ht _ _ (hy.lti k h2) (h.lt _ (hy.lti j h1))).2 ?_
  rwa [hy.r k h2]
theorem sc_perm (hx:Bj n x xi) (hy:Bj n y yi) (ht:∀ l k,l < n→k < n→(et l k↔e (y l) (x k))) (hf:Pfm n e f) (hg:Pfm n et g) {l l':Nat} (hl:l < n) (hl':l' < n):sc (RT (arcF n et g)) l l'↔sc (RT (arcF n e f)) (y l) (y l'):=by
  have hb:=Pfm.back hx hy ht hf.rng hg
  have key:∀ {l l'},l < n→l' < n→(RT (arcF n et g) l l'↔RT (arcF n e f) (y l) (y l')):=by
    intro l l' h1 h2
    constructor
    · exact fun hp=>hb.any hf (hy.lt _ h2) (RT_back hx hy ht hg hp)
    · intro hp
      have h3:=RT_forth hx hy ht hg (hf.any hb (hy.lt _ h2) hp)
      rwa [hy.l l h1,hy.l l' h2] at h3
  unfold sc
  rw [key hl hl',key hl' hl]
end
section
variable {n:Nat} {x xi y yi:Nat→Nat} {E E2:List (List Int)} {a b a2 b2:List Int} {hr hc hr2 hc2:List Bool}
def mapN (x:Nat→Nat) (l:List Int):List Int:=l.map fun i=>(x i.toNat:Int)
theorem mapN_mem {l:List Int} {i:Nat} (h:(i:Int)∈l):(x i:Int)∈mapN x l:=List.mem_map.2 ⟨(i:Int),h,by simp⟩
theorem perm_size (h:Mat n n E a b hr hc) (h2:Mat n n E2 a2 b2 hr2 hc2) (hK:KB n n E) (hK2:KB n n E2) (hx:Bj n x xi) (hy:Bj n y yi) (ht:∀ l k,l < n→k < n→(inE E2 l k↔inE E (y l) (x k))):(mcl a n).length≤(mcl a2 n).length:=by
  have hp:=h.pr
  have hw:=weak hp.r hp.c hp.nd (KR:=mapN x (rowsL hr2)) (KC:=mapN y (colsL hc2)) (fun p hp=>by
    obtain ⟨i,c,rfl,hi,hcn,_,_,he⟩:=h.prs_mem hp
    have h3:inE E2 (yi c) (xi i):=(ht _ _ (hy.lti c hcn) (hx.lti i hi)).2 (by rw [hy.r c hcn,hx.r i hi]; exact he)
    rcases h2.covers h3 with h4 | h4
    · left
      have:=mapN_mem (x:=x) (l:=rowsL hr2) (i:=xi i) (rowsL_mem.2 ⟨by simp,by rw [h2.rch.rl]; simpa using hx.lti i hi,by simpa using h4⟩)
      rwa [hx.r i hi] at this
    · right
      have:=mapN_mem (x:=y) (l:=colsL hc2) (i:=yi c) (colsL_mem.2 ⟨by simp,by rw [h2.rch.cl]; simpa using hy.lti c hcn,by simpa using h4⟩)
      rwa [hy.r c hcn] at this)
  rw [prs_len] at hw
  rw [h2.size]
  simpa [mapN] using hw
theorem perm_le (h:Mat n n E a b hr hc) (h2:Mat n n E2 a2 b2 hr2 hc2) (hK:KB n n E) (hK2:KB n n E2) (hx:Bj n x xi) (hy:Bj n y yi) (ht:∀ l k,l < n→k < n→(inE E2 l k↔inE E (y l) (x k))):(rowsL hr).length≤(rowsL hr2).length∧(rowsL hc).length≤(rowsL hc2).length:=by
  have hs2:(mcl a2 n).length≤(mcl a n).length:=perm_size h2 h hK2 hK hx.flip hy.flip (fun l k hl hk=>by rw [ht _ _ (hy.lti l hl) (hx.lti k hk),hy.r l hl,hx.r k hk])
  obtain ⟨h3,h4⟩:=h.ext hK (KR:=mapN x (rowsL hr2)) (KC:=mapN y (colsL hc2)) (fun c i he=>by
    obtain ⟨hcn,hi⟩:=inE_lt h hK he
    have h3:inE E2 (yi c) (xi i):=(ht _ _ (hy.lti c hcn) (hx.lti i hi)).2 (by rw [hy.r c hcn,hx.r i hi]; exact he)
    rcases h2.covers h3 with h4 | h4
    · left
      have:=mapN_mem (x:=x) (l:=rowsL hr2) (i:=xi i) (rowsL_mem.2 ⟨by simp,by rw [h2.rch.rl]; simpa using hx.lti i hi,by simpa using h4⟩)
      rwa [hx.r i hi] at this
    · right
      have:=mapN_mem (x:=y) (l:=colsL hc2) (i:=yi c) (colsL_mem.2 ⟨by simp,by rw [h2.rch.cl]; simpa using hy.lti c hcn,by simpa using h4⟩)
      rwa [hy.r c hcn] at this) (by simp only [mapN,List.length_map]; rw [← h2.size]; exact hs2)
  constructor
  · have:=subG (rowsL_nd hr) (b:=mapN x (rowsL hr2)) (fun z hz=>by
      obtain ⟨z0,z1,z2⟩:=rowsL_mem.1 hz
      have:=h3 _ z2
      rwa [Int.toNat_of_nonneg z0] at this)
    simpa [mapN] using this
  · have:=subG (rowsL_nd hc) (b:=mapN y (rowsL hc2)) (fun z hz=>by
      obtain ⟨z0,z1,z2⟩:=rowsL_mem.1 hz
      have hcl:=h.rch.cl
      have hcn:z.toNat < n:=by omega
      have h5:=h4 _ z2
      have h6:tr hc2 (yi z.toNat):=Classical.byContradiction fun hno=>h5 (by
        have:=mapN_mem (x:=y) (l:=colsL hc2) (i:=yi z.toNat) (colsL_mem.2 ⟨by simp,by rw [h2.rch.cl]; simpa using hy.lti _ hcn,by simpa using hno⟩)
        rwa [hy.r _ hcn] at this)
      have:=mapN_mem (x:=y) (l:=rowsL hc2) (i:=yi z.toNat) (rowsL_mem.2 ⟨by simp,by rw [h2.rch.cl]; simpa using hy.lti _ hcn,by simpa using h6⟩)
      rw [hy.r _ hcn,Int.toNat_of_nonneg z0] at this
      exact this)
    simpa [mapN] using this
theorem perm_eq (h:Mat n n E a b hr hc) (h2:Mat n n E2 a2 b2 hr2 hc2) (hK:KB n n E) (hK2:KB n n E2) (hx:Bj n x xi) (hy:Bj n y yi) (ht:∀ l k,l < n→k < n→(inE E2 l k↔inE E (y l) (x k))):(rowsL hr).length=(rowsL hr2).length∧(rowsL hc).length=(rowsL hc2).length:=by
  obtain ⟨h1,h3⟩:=perm_le h h2 hK hK2 hx hy ht
  obtain ⟨h4,h5⟩:=perm_le h2 h hK2 hK hx.flip hy.flip (fun l k hl hk=>by rw [ht _ _ (hy.lti l hl) (hx.lti k hk),hy.r l hl,hx.r k hk])
  omega
end
end Km
namespace Km
open Pl Sx Go M Vc
def Wa (e:Nat→Nat→Prop):Nat→Nat→Nat→Prop
  | 0,a,c=>a=c∨e a c
  | b+1,a,c=>Wa e b a c∨Wa e b a b∧Wa e b b c
section
variable {e:Nat→Nat→Prop}
theorem Wa.succ {b a c:Nat}:Wa e (b+1) a c↔Wa e b a c∨Wa e b a b∧Wa e b b c:=Iff.rfl
theorem Wa.col {b a:Nat}:Wa e (b+1) a b↔Wa e b a b:=by rw [Wa.succ]; exact ⟨fun h=>h.elim id And.left,.inl⟩
theorem Wa.row {b c:Nat}:Wa e (b+1) b c↔Wa e b b c:=by rw [Wa.succ]; exact ⟨fun h=>h.elim id And.right,.inl⟩
theorem Wa.sound:∀ {b a c:Nat},Wa e b a c→RT e a c
  | 0,a,c,h=>by
    rcases h with rfl | h
    · exact .refl _
    · exact .one h
  | b+1,a,c,h=>by
    rcases h with h | ⟨h,h'⟩
    · exact Wa.sound h
    · exact (Wa.sound h).trans (Wa.sound h')
theorem Wa.base {a c:Nat} (h:a=c∨e a c):∀ b:Nat,Wa e b a c
  | 0=>h
  | b+1=>.inl (Wa.base h b)
theorem Wa.mid:∀ {b k a c:Nat},k < b→Wa e b a k→Wa e b k c→Wa e b a c
  | 0,k,a,c,hk,_,_=>by omega
  | b+1,k,a,c,hk,h,h'=>by
    rcases Nat.lt_or_eq_of_le (Nat.le_of_lt_succ hk) with h1 | rfl
    · rcases h with h | ⟨h,h2⟩<;>rcases h' with h' | ⟨h',h3⟩
      · exact .inl (Wa.mid h1 h h')
      · exact .inr ⟨Wa.mid h1 h h',h3⟩
      · exact .inr ⟨h,Wa.mid h1 h2 h'⟩
      · exact .inr ⟨h,h3⟩
    · exact .inr ⟨Wa.col.1 h,Wa.row.1 h'⟩
theorem Wa.all {n:Nat} (hn:∀ a c,e a c→a < n) {a c:Nat}:Wa e n a c↔RT e a c:=by
  refine ⟨Wa.sound,fun h=>?_⟩
  induction h with
  | refl=>exact Wa.base (.inl rfl) n
  | tail _ h2 ih=>exact Wa.mid (hn _ _ h2) ih (Wa.base (.inr h2) n)
def Wn (e:Nat→Nat→Prop) (b a c x y:Nat):Prop:=if x < a∨x=a∧y < c then Wa e (b+1) x y else Wa e b x y
theorem Wn.at_col {b a c x:Nat}:Wn e b a c x b↔Wa e b x b:=by
  unfold Wn; split
  · exact Wa.col
  · exact Iff.rfl
theorem Wn.at_row {b a c y:Nat}:Wn e b a c b y↔Wa e b b y:=by
  unfold Wn; split
  · exact Wa.row
  · exact Iff.rfl
theorem Wn.here {b a c:Nat}:Wn e b a c a c↔Wa e b a c:=by
  unfold Wn; rw [if_neg (by omega)]
theorem Wn.next {b a c x y:Nat}:Wn e b a (c+1) x y↔if x=a∧y=c then Wn e b a c a c∨Wn e b a c a b∧Wn e b a c b c else Wn e b a c x y:=by
  rw [Wn.here,Wn.at_col,Wn.at_row]
  unfold Wn
  by_cases h:x=a∧y=c
  · obtain ⟨rfl,rfl⟩:=h
    rw [if_pos (by omega),if_pos ⟨rfl,rfl⟩]; exact Wa.succ
  · rw [if_neg h]
    by_cases h1:x < a∨x=a∧y < c
    · rw [if_pos h1,if_pos (by omega)]
    · rw [if_neg h1,if_neg (by omega)]
end
end Km
namespace Km
open Pl Sx Go M Vc
def lead (r:Nat→Nat→Prop) (j:Nat):Prop:=∀ k,k < j→¬ sc r j k
section
variable {n:Nat} {r:Nat→Nat→Prop} {e:Nat→Nat→Prop} {L:List Nat}
theorem Ord.back (h:Ord n r L) (hr:Pre r) {a b:Nat} (ha:a < n) (hab:r a b) (hb:pl r L b):pl r L a:=by
  obtain ⟨m,hm,hs⟩:=hb
  obtain ⟨i,hi⟩:=List.mem_iff_getElem?.1 hm
  have h2:=(h.ok i m hi).2.1
  rcases h2.2 a ha with ⟨m',h3,h4⟩ | h3 | h3
  · exact ⟨m',List.mem_of_mem_take h3,h4⟩
  · exact absurd (hr.trans _ _ _ hab hs.2) h3
  · exact ⟨m,hm,h3,hr.trans _ _ _ hab hs.2⟩
theorem free_arc {P:Nat→Prop} (hP:∀ a b,a < n→RT e a b→P b→P a) (hn:∀ a b,e a b→a < n) {j:Nat} (hj:¬ P j):free n (RT e) P j↔∀ u v,e u v→sc (RT e) j v→¬ sc (RT e) j u→P u:=by
  constructor
  · intro h u v he hv hu
    have h1:RT e u j:=(RT.one he).trans hv.2
    rcases h.2 u (hn _ _ he) with h2 | h2 | h2
    · exact h2
    · exact absurd h1 h2
    · exact absurd ⟨h2,h1⟩ hu
  · intro h
    refine ⟨hj,fun k hk=>?_⟩
    by_cases h1:P k
    · exact .inl h1
    by_cases h2:RT e k j
    · by_cases h3:RT e j k
      · exact .inr (.inr h3)
      · obtain ⟨u,v,h4,h5,h6,h7,-⟩:=RT.cross (X:=sc (RT e) j) h2 (fun hx=>h3 hx.1) ⟨.refl _,.refl _⟩
        exact absurd (hP _ _ hk h4 (h u v h6 h7 h5)) h1
    · exact .inr (.inl h2)
theorem lead_ex (hr:Pre r):∀ j:Nat,∃ k,k≤j∧lead r k∧sc r k j:=by
  intro j
  induction j using Nat.strongRecOn with
  | _ j ih=>
    by_cases h:lead r j
    · exact ⟨j,Nat.le_refl _,h,hr.refl _,hr.refl _⟩
    · have ⟨k,hk⟩:=Classical.not_forall.1 h
      have ⟨h1,h2⟩:=Classical.not_imp.1 hk
      have h3:sc r j k:=Classical.not_not.1 h2
      obtain ⟨l,h4,h5,h6⟩:=ih k h1
      exact ⟨l,by omega,h5,sc.trans hr h6 h3.symm⟩
theorem lead_eq {i j:Nat} (hi:lead r i) (hj:lead r j) (h:sc r i j):i=j:=by
  rcases Nat.lt_trichotomy i j with h1 | h1 | h1
  · exact absurd h.symm (hj i h1)
  · exact h1
  · exact absurd h (hi j h1)
theorem Ord.step (h:Ord n r L) (hr:Pre r) {m:Nat} (hm:m < n) (hf:free n r (pl r L) m) (hl:∀ j,j < m→lead r j→¬ free n r (pl r L) j):Ord n r (L++[m]):=by
  refine Ord.snoc.2 ⟨h,hm,hf,fun j hj hfj=>?_⟩
  obtain ⟨k,h1,h2,h3⟩:=lead_ex hr j
  exact hl k (by omega) h2 (hfj.blk hr h3.symm)
theorem Ord.leads (h:Ord n r L) (hr:Pre r) {m:Nat} (hm:m∈L):lead r m:=by
  obtain ⟨i,hi⟩:=List.mem_iff_getElem?.1 hm
  intro k hk hs
  have h1:=h.ok i m hi
  exact h1.2.2 k hk (h1.2.1.blk hr hs)
theorem Ord.full (h:Ord n r L) (hr:Pre r) {F:List Nat} (hF:∀ k,k < n→lead r k→k∈F) (hl:∀ k,k∈F→k∈L):Full n r L:=by
  refine ⟨h,hr,fun k hk=>?_⟩
  obtain ⟨j,h1,h2,h3⟩:=lead_ex hr k
  exact ⟨j,hl j (hF j (by omega) h2),h3⟩
end
end Km
namespace Km
open Pl Sx Go M Vc
section
variable {n:Nat} {r r':Nat→Nat→Prop} {L L':List Nat} {y yi:Nat→Nat}
theorem cls_same (hr:Pre r) {a b:Nat} (h:sc r a b):cls n r a=cls n r b:=by
  have:(fun k=>sc r a k)=fun k=>sc r b k:=funext fun k=>propext ⟨fun h1=>sc.trans hr h.symm h1,fun h1=>sc.trans hr h h1⟩
  have h2:∀ p q:Nat→Prop,p=q→@coll p (fun k=>Classical.propDecidable _) n=@coll q (fun k=>Classical.propDecidable _) n:=fun p q h=>by subst h; rfl
  exact h2 _ _ this
theorem cls_nd (j:Nat):(cls n r j).Nodup:=List.nodup_iff_pairwise_ne.2 ((cls_asc j).imp fun h=>by omega)
theorem cls_iff {j k:Nat} (hk:k < n):(k:Int)∈cls n r j↔sc r j k:=by
  rw [cls_mem]
  exact ⟨fun h=>by simpa using h.2.2,fun h=>⟨by simp,by simpa using hk,by simpa using h⟩⟩
theorem Ord.lt (h:Ord n r L) {m:Nat} (hm:m∈L):m < n:=by
  obtain ⟨i,hi⟩:=List.mem_iff_getElem?.1 hm
  exact (h.ok i m hi).1
theorem Ord.nd (h:Ord n r L) (hr:Pre r):L.Nodup:=by
  refine List.nodup_iff_pairwise_ne.2 (List.pairwise_iff_getElem.2 fun i j hi hj hij he=>?_)
  have:=h.diff (i:=i) (j:=j) (a:=L[i]) (b:=L[j]) (List.getElem?_eq_getElem hi) (List.getElem?_eq_getElem hj) (by rw [he]; exact ⟨hr.refl _,hr.refl _⟩) hr
  omega
theorem cls_le (hy:Bj n y yi) (hs:∀ l l',l < n→l' < n→(sc r' l l'↔sc r (y l) (y l'))) {m:Nat} (hm:m < n):(cls n r' m).length≤(cls n r (y m)).length:=by
  have h1:=subG (a:=mapN y (cls n r' m)) (b:=cls n r (y m)) (nodup_map (cls_nd m) fun a b ha hb he=>by
    have h2:=cls_mem.1 ha
    have h3:=cls_mem.1 hb
    have h4:y a.toNat=y b.toNat:=by omega
    have h5:=hy.l _ h2.2.1
    rw [h4,hy.l _ h3.2.1] at h5
    omega) (fun z hz=>by
    obtain ⟨a,ha,rfl⟩:=List.mem_map.1 hz
    have h2:=cls_mem.1 ha
    exact (cls_iff (hy.lt _ h2.2.1)).2 ((hs _ _ hm h2.2.1).1 h2.2.2))
  simpa [mapN] using h1
theorem sc_flip (hy:Bj n y yi) (hs:∀ l l',l < n→l' < n→(sc r' l l'↔sc r (y l) (y l'))):∀ l l',l < n→l' < n→(sc r l l'↔sc r' (yi l) (yi l')):=fun l l' h h'=>by
  rw [hs _ _ (hy.lti l h) (hy.lti l' h'),hy.r l h,hy.r l' h']
theorem cls_size (hy:Bj n y yi) (hs:∀ l l',l < n→l' < n→(sc r' l l'↔sc r (y l) (y l'))) {m:Nat} (hm:m < n):(cls n r' m).length=(cls n r (y m)).length:=by
  have h1:=cls_le hy.flip (sc_flip hy hs) (hy.lt m hm)
  rw [hy.l m hm] at h1
  exact Nat.le_antisymm (cls_le hy hs hm) h1
theorem Full.find (h:Full n r L) {k:Nat} (hk:k < n):∃ i m:Nat,L[i]?=some m∧sc r m k:=by
  obtain ⟨m,hm,h1⟩:=h.all k hk
  obtain ⟨i,hi⟩:=List.mem_iff_getElem?.1 hm
  exact ⟨i,m,hi,h1⟩
theorem Full.len_le (h:Full n r L) (h':Full n r' L') (hy:Bj n y yi) (hs:∀ l l',l < n→l' < n→(sc r' l l'↔sc r (y l) (y l'))):L'.length≤L.length:=by
  have h1:∀ m,∃ i,m < n→i∈L∧sc r i (y m):=fun m=>by
    by_cases hm:m < n
    · obtain ⟨i,hi,h2⟩:=h.all (y m) (hy.lt m hm)
      exact ⟨i,fun _=>⟨hi,h2⟩⟩
    · exact ⟨0,fun h=>absurd h hm⟩
  obtain ⟨g,hg⟩:=Classical.axiomOfChoice h1
  have h2:=subG (a:=L'.map g) (b:=L) (nodup_map (h'.o.nd h'.p) fun a b ha hb he=>by
    have h3:=h'.o.lt ha
    have h4:=h'.o.lt hb
    have h5:=(hg a h3).2
    rw [he] at h5
    have h6:=sc.trans h.p h5.symm (hg b h4).2
    exact lead_eq (h'.o.leads h'.p ha) (h'.o.leads h'.p hb) ((hs a b h3 h4).2 h6)) (fun z hz=>by
    obtain ⟨a,ha,rfl⟩:=List.mem_map.1 hz
    exact (hg a (h'.o.lt ha)).1)
  simpa using h2
theorem Full.len_eq (h:Full n r L) (h':Full n r' L') (hy:Bj n y yi) (hs:∀ l l',l < n→l' < n→(sc r' l l'↔sc r (y l) (y l'))):L'.length=L.length:=
  Nat.le_antisymm (h.len_le h' hy hs) (h'.len_le h hy.flip (sc_flip hy hs))
theorem Full.same (h:Full n r L) (h':Full n r' L') (hy:Bj n y yi) (hs:∀ l l',l < n→l' < n→(sc r' l l'↔sc r (y l) (y l'))) {i m:Nat} (hi:L[i]?=some m):
    ∃ b m':Nat,L'[b]?=some m'∧(cls n r' m').length=(cls n r m).length∧∀ k,k < n→(k:Int)∈cls n r' m'→(y k:Int)∈cls n r m:=by
  have hm:=(h.o.ok i m hi).1
  obtain ⟨b,m',hb,h1⟩:=h'.find (hy.lti m hm)
  have hm':=(h'.o.ok b m' hb).1
  have h2:sc r (y m') m:=by
    have:=(hs _ _ hm' (hy.lti m hm)).1 h1
    rwa [hy.r m hm] at this
  refine ⟨b,m',hb,?_,fun k hk hkm=>?_⟩
  · rw [cls_size hy hs hm',cls_same h.p h2]
  · rw [← cls_same h.p h2]
    exact (cls_iff (hy.lt k hk)).2 ((hs _ _ hm' hk).1 ((cls_iff hk).1 hkm))
end
end Km
namespace Km
open Pl Sx Go M Vc
structure Sts (st:List Int) (n:Nat):Prop where
  h0:st[0]?=some 0
  hl:st[st.length - 1]?=some (n:Int)
  asc:st.Pairwise (· < ·)
def Bk (st:List Int) (p b:Nat):Prop:=∃ x y:Int,st[b]?=some x∧st[b+1]?=some y∧x≤(p:Int)∧(p:Int) < y
section
variable {st:List Int} {n p b b':Nat}
theorem asc_lt (h:st.Pairwise (· < ·)) {i j:Nat} {x y:Int} (hij:i < j) (hx:st[i]?=some x) (hy:st[j]?=some y):x < y:=by
  obtain ⟨h1,rfl⟩:=List.getElem?_eq_some_iff.1 hx
  obtain ⟨h2,rfl⟩:=List.getElem?_eq_some_iff.1 hy
  exact List.pairwise_iff_getElem.1 h i j h1 h2 hij
theorem asc_le (h:st.Pairwise (· < ·)) {i j:Nat} {x y:Int} (hij:i≤j) (hx:st[i]?=some x) (hy:st[j]?=some y):x≤y:=by
  rcases Nat.lt_or_eq_of_le hij with h1 | rfl
  · have:=asc_lt h h1 hx hy
    omega
  · rw [hx] at hy
    have:=Option.some.inj hy
    omega
theorem Bk.uniq (h:st.Pairwise (· < ·)) (h1:Bk st p b) (h2:Bk st p b'):b=b':=by
  obtain ⟨x,y,hx,hy,h3,h4⟩:=h1
  obtain ⟨u,v,hu,hv,h5,h6⟩:=h2
  rcases Nat.lt_trichotomy b b' with h7 | h7 | h7
  · have:=asc_le h (i:=b+1) (j:=b') (by omega) hy hu
    omega
  · exact h7
  · have:=asc_le h (i:=b'+1) (j:=b) (by omega) hv hx
    omega
theorem Bk.first (h:Sts st n):∀ b:Nat,b+1 < st.length→(∀ i y,i < b→st[i+1]?=some y→y≤(p:Int))→(∃ y,st[b+1]?=some y∧(p:Int) < y)→Bk st p b:=by
  intro b hb h1 ⟨y,hy,h2⟩
  cases b with
  | zero=>exact ⟨0,y,h.h0,hy,by omega,h2⟩
  | succ i=>
    have h3:st[i+1]?=some st[i+1]:=List.getElem?_eq_getElem (by omega)
    exact ⟨_,y,h3,hy,h1 i _ (by omega) h3,h2⟩
theorem Bk.ex (h:Sts st n) (hp:p < n):∃ b,Bk st p b:=by
  have key:∀ d k:Nat,k+d+1=st.length→(∃ x:Int,st[k]?=some x∧x≤(p:Int))→∃ b,Bk st p b:=by
    intro d
    induction d with
    | zero=>
      rintro k hk ⟨x,hx,h1⟩
      have h2:=h.hl
      have h3:st.length - 1=k:=by omega
      rw [h3,hx] at h2
      have:=Option.some.inj h2
      omega
    | succ d ih=>
      rintro k hk ⟨x,hx,h1⟩
      have h3:st[k+1]?=some st[k+1]:=List.getElem?_eq_getElem (by omega)
      by_cases h4:st[k+1]≤(p:Int)
      · exact ih (k+1) (by omega) ⟨_,h3,h4⟩
      · exact ⟨k,x,_,hx,h3,h1,by omega⟩
  have h1:=(List.getElem?_eq_some_iff.1 h.h0).1
  exact key (st.length - 1) 0 (by omega) ⟨0,h.h0,by omega⟩
theorem Bk.lt (h:Sts st n) (hb:Bk st p b):p < n:=by
  obtain ⟨x,y,hx,hy,h3,h4⟩:=hb
  have h1:=(List.getElem?_eq_some_iff.1 hy).1
  have:=asc_le h.asc (i:=b+1) (j:=st.length - 1) (by omega) hy h.hl
  omega
structure Bl (st:List Int) (k:Nat) (out:List Int):Prop where
  len:∃ x:Int,st[k]?=some x∧(out.length:Int)=x
  get:∀ p b:Nat,b < k→Bk st p b→out[p]?=some (b:Int)
theorem Bl.zero (h:Sts st n):Bl st 0 []:=⟨⟨0,h.h0,by simp⟩,fun p b hb _=>by omega⟩
theorem Bl.succ (h:Sts st n) {k:Nat} {out:List Int} (hB:Bl st k out) {x y:Int} (hx:st[k]?=some x) (hy:st[k+1]?=some y):Bl st (k+1) (out++List.replicate (y - x).toNat (k:Int)):=by
  obtain ⟨x',hx',h1⟩:=hB.len
  rw [hx] at hx'
  obtain rfl:=Option.some.inj hx'
  have h2:=asc_lt h.asc (Nat.lt_succ_self k) hx hy
  refine ⟨⟨y,hy,by simp; omega⟩,fun p b hb hbk=>?_⟩
  by_cases h3:b < k
  · have h4:=hB.get p b h3 hbk
    rw [List.getElem?_append_left (List.getElem?_eq_some_iff.1 h4).1,h4]
  · have h4:b=k:=by omega
    subst h4
    obtain ⟨u,v,hu,hv,h5,h6⟩:=hbk
    rw [hx] at hu
    rw [hy] at hv
    have:=Option.some.inj hu
    have:=Option.some.inj hv
    rw [List.getElem?_append_right (by omega),List.getElem?_replicate,if_pos (by omega)]
end
end Km
namespace Km
open Pl Sx Go M Vc
structure Sg (n:Nat) (r:Nat→Nat→Prop) (k:Nat) (F:List Nat) (of:List Int) (bl:List (List Int)):Prop where
  fa:F.Pairwise (· < ·)
  fl:∀ m,m∈F↔m < k∧lead r m
  bl:bl=F.map (cls k r)
  ol:of.length=n
  og:∀ j,j < k→∃ b m:Nat,F[b]?=some m∧sc r m j∧of[j]?=some (b:Int)
section
variable {n k:Nat} {r:Nat→Nat→Prop} {F:List Nat} {of:List Int} {bl:List (List Int)}
theorem cls_t {m:Nat} (h:sc r m k):cls (k+1) r m=cls k r m++[(k:Int)]:=by unfold cls; rw [coll,if_pos h]
theorem cls_f {m:Nat} (h:¬ sc r m k):cls (k+1) r m=cls k r m:=by unfold cls; rw [coll,if_neg h,List.append_nil]
theorem Sg.zero:Sg n r 0 [] (List.replicate n 0) []:=⟨by simp,fun m=>by simp,by simp,by simp,fun j hj=>by omega⟩
theorem Sg.new (h:Sg n r k F of bl) (hr:Pre r) (hk:k < n) (hl:lead r k):Sg n r (k+1) (F++[k]) (of.set k (bl.length:Int)) (bl++[[(k:Int)]]):=by
  have hF:∀ m,m∈F→¬ sc r m k:=fun m hm hs=>hl m ((h.fl m).1 hm).1 hs.symm
  refine ⟨?_,fun m=>?_,?_,by simp [h.ol],fun j hj=>?_⟩
  · rw [List.pairwise_append]
    exact ⟨h.fa,by simp,fun a ha b hb=>by
      have:=((h.fl a).1 ha).1
      simp at hb
      omega⟩
  · rw [List.mem_append,h.fl,List.mem_singleton]
    constructor
    · rintro (⟨h1,h2⟩ | rfl)
      · exact ⟨by omega,h2⟩
      · exact ⟨by omega,hl⟩
    · rintro ⟨h1,h2⟩
      by_cases h3:m=k
      · exact .inr h3
      · exact .inl ⟨by omega,h2⟩
  · have h1:cls k r k=[]:=List.eq_nil_iff_forall_not_mem.2 fun x hx=>by
      have h2:=cls_mem.1 hx
      exact hl _ h2.2.1 h2.2.2
    rw [List.map_append,List.map_singleton,cls_t ⟨hr.refl k,hr.refl k⟩,h1,h.bl,List.nil_append]
    congr 1
    exact List.map_congr_left fun m hm=>(cls_f (hF m hm)).symm
  · by_cases h3:j=k
    · subst h3
      refine ⟨F.length,j,by simp,⟨hr.refl j,hr.refl j⟩,?_⟩
      rw [List.getElem?_set_self (by rw [h.ol]; exact hk),h.bl,List.length_map]
    · obtain ⟨b,m,h4,h5,h6⟩:=h.og j (by omega)
      refine ⟨b,m,?_,h5,?_⟩
      · rw [List.getElem?_append_left (List.getElem?_eq_some_iff.1 h4).1,h4]
      · rw [List.getElem?_set_ne (by omega),h6]
theorem Sg.old (h:Sg n r k F of bl) (hr:Pre r) (hk:k < n) {b m:Nat} (hb:F[b]?=some m) (hs:sc r m k):Sg n r (k+1) F (of.set k (b:Int)) (bl.set b (cls k r m++[(k:Int)])):=by
  have hm:=(h.fl m).1 (List.mem_of_getElem? hb)
  refine ⟨h.fa,fun x=>?_,?_,by simp [h.ol],fun j hj=>?_⟩
  · rw [h.fl]
    constructor
    · exact fun ⟨h1,h2⟩=>⟨by omega,h2⟩
    · rintro ⟨h1,h2⟩
      refine ⟨?_,h2⟩
      by_cases h3:x=k
      · subst h3
        exact absurd hs.symm (h2 m hm.1)
      · omega
  · refine List.ext_getElem? fun i=>?_
    rw [h.bl]
    by_cases hi:i=b
    · subst hi
      rw [List.getElem?_set_self (by rw [List.length_map]; exact (List.getElem?_eq_some_iff.1 hb).1),List.getElem?_map,hb,Option.map_some,cls_t hs]
    · rw [List.getElem?_set_ne (by omega),List.getElem?_map,List.getElem?_map]
      cases hx:F[i]? with
      | none=>rfl
      | some x=>
        have h1:=(h.fl x).1 (List.mem_of_getElem? hx)
        rw [Option.map_some,Option.map_some,cls_f fun h2=>?_]
        have h3:x=m:=lead_eq h1.2 hm.2 (sc.trans hr h2 hs.symm)
        subst h3
        obtain ⟨h4,h5⟩:=List.getElem?_eq_some_iff.1 hx
        obtain ⟨h6,h7⟩:=List.getElem?_eq_some_iff.1 hb
        rcases Nat.lt_trichotomy i b with h8 | h8 | h8
        · have:=List.pairwise_iff_getElem.1 h.fa i b h4 h6 h8
          omega
        · exact hi h8
        · have:=List.pairwise_iff_getElem.1 h.fa b i h6 h4 h8
          omega
  · by_cases h3:j=k
    · subst h3
      exact ⟨b,m,hb,hs,by rw [List.getElem?_set_self (by rw [h.ol]; exact hk)]⟩
    · obtain ⟨b',m',h4,h5,h6⟩:=h.og j (by omega)
      exact ⟨b',m',h4,h5,by rw [List.getElem?_set_ne (by omega),h6]⟩
theorem Sg.num (h:Sg n r k F of bl) (hr:Pre r) {i:Nat} (hi:i < k) (hs:sc r k i):∃ b m:Nat,F[b]?=some m∧sc r m k∧of[i]?=some (b:Int):=by
  obtain ⟨b,m,h1,h2,h3⟩:=h.og i hi
  exact ⟨b,m,h1,sc.trans hr h2 hs.symm,h3⟩
theorem Sg.at_ (h:Sg n r k F of bl) {b m:Nat} (hb:F[b]?=some m):bl[b]?=some (cls k r m):=by rw [h.bl,List.getElem?_map,hb]; rfl
end
end Km
namespace Km
open Pl Sx Go M Vc
structure Sq (n:Nat) (r:Nat→Nat→Prop) (F:List Nat) (come:List Bool) (out:List Int) (L:List Nat):Prop where
  o:Ord n r L
  cl:come.length=F.length
  ol:out.length=L.length
  ix:∀ (i m:Nat),L[i]?=some m→∃ b:Nat,out[i]?=some (b:Int)∧F[b]?=some m
  cm:∀ (b m:Nat),F[b]?=some m→(come[b]?=some true↔m∈L)
section
variable {n k:Nat} {r:Nat→Nat→Prop} {e:Nat→Nat→Prop} {F L:List Nat} {of out:List Int} {bl:List (List Int)} {come:List Bool}
theorem Sg.idx (h:Sg n r k F of bl) {b b' m:Nat} (hb:F[b]?=some m) (hb':F[b']?=some m):b=b':=by
  obtain ⟨h4,h5⟩:=List.getElem?_eq_some_iff.1 hb
  obtain ⟨h6,h7⟩:=List.getElem?_eq_some_iff.1 hb'
  rcases Nat.lt_trichotomy b b' with h8 | h8 | h8
  · have:=List.pairwise_iff_getElem.1 h.fa b b' h4 h6 h8
    omega
  · exact h8
  · have:=List.pairwise_iff_getElem.1 h.fa b' b h6 h4 h8
    omega
theorem Sg.of_iff (h:Sg n r n F of bl) (hr:Pre r) {b m j:Nat} (hb:F[b]?=some m) (hj:j < n):of[j]?=some (b:Int)↔sc r m j:=by
  obtain ⟨b',m',h1,h2,h3⟩:=h.og j hj
  have hm:=((h.fl m).1 (List.mem_of_getElem? hb)).2
  have hm':=((h.fl m').1 (List.mem_of_getElem? h1)).2
  constructor
  · intro h4
    rw [h3] at h4
    have h5:b'=b:=by have:=Option.some.inj h4; omega
    subst h5
    rw [h1] at hb
    obtain rfl:=Option.some.inj hb
    exact h2
  · intro h4
    obtain rfl:=lead_eq hm hm' (sc.trans hr h4 h2.symm)
    rw [h.idx hb h1,h3]
theorem Sq.come_iff (hS:Sg n r n F of bl) (h:Sq n r F come out L) (hr:Pre r) {b j:Nat} (hj:j < n) (hb:of[j]?=some (b:Int)):come[b]?=some true↔pl r L j:=by
  obtain ⟨b',m,h1,h2,h3⟩:=hS.og j hj
  have h5:b'=b:=by rw [hb] at h3; have:=Option.some.inj h3; omega
  subst h5
  rw [h.cm _ _ h1]
  refine ⟨fun h4=>⟨m,h4,h2⟩,fun ⟨m',h4,h5⟩=>?_⟩
  obtain rfl:=lead_eq (h.o.leads hr h4) ((hS.fl m).1 (List.mem_of_getElem? h1)).2 (sc.trans hr h5 h2.symm)
  exact h4
theorem Sq.free_iff (hS:Sg n (RT e) n F of bl) (h:Sq n (RT e) F come out L) (hr:Pre (RT e)) (hn:∀ a b,e a b→a < n∧b < n) {b m:Nat} (hb:F[b]?=some m):
    free n (RT e) (pl (RT e) L) m↔¬ come[b]?=some true∧¬ ∃ j k:Nat,e j k∧of[j]?≠of[k]?∧of[k]?=some (b:Int)∧∃ c:Nat,of[j]?=some (c:Int)∧¬ come[c]?=some true:=by
  have hm:=(hS.fl m).1 (List.mem_of_getElem? hb)
  have h0:come[b]?=some true↔pl (RT e) L m:=h.come_iff hS hr hm.1 ((hS.of_iff hr hb hm.1).2 ⟨.refl _,.refl _⟩)
  by_cases hp:pl (RT e) L m
  · exact ⟨fun h1=>absurd hp h1.1,fun h1=>absurd (h0.2 hp) h1.1⟩
  rw [free_arc (fun a b ha hab hb=>h.o.back hr ha hab hb) (fun a b hab=>(hn a b hab).1) hp]
  constructor
  · rintro h1
    refine ⟨fun h2=>hp (h0.1 h2),?_⟩
    rintro ⟨j,k,hjk,h2,h3,c,h4,h5⟩
    have hj:=(hn _ _ hjk).1
    refine h5 ((h.come_iff hS hr hj h4).2 (h1 j k hjk ((hS.of_iff hr hb (hn _ _ hjk).2).1 h3) fun h6=>?_))
    rw [(hS.of_iff hr hb hj).2 h6,h3] at h2
    exact h2 rfl
  · rintro ⟨h1,h2⟩ u v huv hv hu
    have hun:=(hn _ _ huv).1
    obtain ⟨c,m',h3,h4,h5⟩:=hS.og u hun
    have h6:=(hS.of_iff hr hb (hn _ _ huv).2).2 hv
    refine Classical.byContradiction fun h7=>h2 ⟨u,v,huv,fun h8=>?_,h6,c,h5,fun h8=>h7 ((h.come_iff hS hr hun h5).1 h8)⟩
    rw [h6] at h8
    exact hu ((hS.of_iff hr hb hun).1 h8)
theorem Sq.zero:Sq n r F (List.replicate F.length false) [] []:=⟨Ord.nil,by simp,rfl,fun i m h=>by simp at h,fun b m h=>by simp [List.getElem?_replicate]⟩
theorem Sq.step (hS:Sg n r n F of bl) (h:Sq n r F come out L) (hr:Pre r) {b m:Nat} (hb:F[b]?=some m) (hf:free n r (pl r L) m) (hl:∀ c x:Nat,c < b→F[c]?=some x→¬ free n r (pl r L) x):
    Sq n r F (come.set b true) (out++[(b:Int)]) (L++[m]):=by
  have hm:=(hS.fl m).1 (List.mem_of_getElem? hb)
  have hbl:=(List.getElem?_eq_some_iff.1 hb).1
  refine ⟨h.o.step hr hm.1 hf fun j hj hlj=>?_,by simp [h.cl],by simp [h.ol],fun i x hx=>?_,fun c x hc=>?_⟩
  · have hjF:=(hS.fl j).2 ⟨by omega,hlj⟩
    obtain ⟨c,hc⟩:=List.mem_iff_getElem?.1 hjF
    refine hl c j ?_ hc
    obtain ⟨h4,h5⟩:=List.getElem?_eq_some_iff.1 hb
    obtain ⟨h6,h7⟩:=List.getElem?_eq_some_iff.1 hc
    rcases Nat.lt_trichotomy c b with h8 | h8 | h8
    · exact h8
    · subst h8
      omega
    · have:=List.pairwise_iff_getElem.1 hS.fa b c h4 h6 h8
      omega
  · by_cases hi:i < L.length
    · rw [List.getElem?_append_left hi] at hx
      obtain ⟨c,h1,h2⟩:=h.ix i x hx
      exact ⟨c,by rw [List.getElem?_append_left (by rw [h.ol]; exact hi),h1],h2⟩
    · have h1:=(List.getElem?_eq_some_iff.1 hx).1
      simp at h1
      have h2:i=L.length:=by omega
      subst h2
      simp at hx
      subst hx
      exact ⟨b,by rw [← h.ol]; simp,hb⟩
  · rw [List.mem_append,List.mem_singleton]
    by_cases h1:c=b
    · subst h1
      rw [hb] at hc
      obtain rfl:=Option.some.inj hc
      simp [List.getElem?_set_self (show c < come.length by rw [h.cl]; exact hbl)]
    · rw [List.getElem?_set_ne (by omega),h.cm c x hc]
      refine ⟨.inl,fun h2=>h2.elim id fun h3=>?_⟩
      subst h3
      exact absurd (hS.idx hc hb) h1
end
end Km
namespace Km
open Pl Sx Go M Vc
section
variable {n:Nat} {r:Nat→Nat→Prop} {F L:List Nat} {of out:List Int} {bl:List (List Int)} {come:List Bool}
theorem Sg.fnd (hS:Sg n r n F of bl):F.Nodup:=List.nodup_iff_pairwise_ne.2 (hS.fa.imp fun h=>by omega)
theorem Sq.sub (hS:Sg n r n F of bl) (h:Sq n r F come out L) (hr:Pre r):∀ m,m∈L→m∈F:=fun m hm=>(hS.fl m).2 ⟨h.o.lt hm,h.o.leads hr hm⟩
theorem Sq.le (hS:Sg n r n F of bl) (h:Sq n r F come out L) (hr:Pre r):L.length≤F.length:=subG (h.o.nd hr) (h.sub hS hr)
theorem Sq.full (hS:Sg n r n F of bl) (h:Sq n r F come out L) (hr:Pre r) (hl:F.length≤L.length):Full n r L:=by
  refine h.o.full hr (F:=F) (fun k hk hl=>(hS.fl k).2 ⟨hk,hl⟩) fun k hk=>Classical.byContradiction fun hn=>?_
  have h1:=subG (a:=k::L) (b:=F) (List.nodup_cons.2 ⟨hn,h.o.nd hr⟩) fun x hx=>by
    rcases List.mem_cons.1 hx with rfl | hx
    · exact hk
    · exact h.sub hS hr x hx
  simp at h1
  omega
theorem Sq.ex (hS:Sg n r n F of bl) (h:Sq n r F come out L) (hr:Pre r) (hl:L.length < F.length):∃ b m:Nat,F[b]?=some m∧free n r (pl r L) m:=by
  have h1:∃ k,k∈F∧k∉L:=Classical.byContradiction fun hn=>by
    have:=subG (a:=F) (b:=L) hS.fnd fun x hx=>Classical.byContradiction fun h2=>hn ⟨x,hx,h2⟩
    omega
  obtain ⟨k,hk,hkL⟩:=h1
  have hk2:=(hS.fl k).1 hk
  have hp:¬ pl r L k:=fun ⟨m,h3,h4⟩=>hkL (lead_eq (h.o.leads hr h3) hk2.2 h4▸h3)
  obtain ⟨j,hj,hf⟩:=free_some hr (P:=pl r L) _ k hk2.1 hp (Nat.le_refl _)
  obtain ⟨m,h3,h4,h5⟩:=lead_ex hr j
  have hm:=(hS.fl m).2 ⟨by omega,h4⟩
  obtain ⟨b,hb⟩:=List.mem_iff_getElem?.1 hm
  exact ⟨b,m,hb,hf.blk hr h5.symm⟩
end
end Km
