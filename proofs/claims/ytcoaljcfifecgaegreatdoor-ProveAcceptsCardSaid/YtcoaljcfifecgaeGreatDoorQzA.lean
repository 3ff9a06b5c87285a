/- Determinants of integer matrices, by expansion along the first row: linear and alternating in the rows. -/
import Derived.Test.YtcoaljcfifecgaeGreatDoorVcA
import Derived.KernelRfl
set_option linter.unusedVariables false
set_option linter.unusedSimpArgs false
set_option maxHeartbeats 4000000
namespace Dt
def sm:Nat→(Nat→Int)→Int
 | 0,_=>0
 | n+1,f=>sm n f+f n
theorem sm_congr {n:Nat} {f g:Nat→Int} (h:∀ i,i < n→f i=g i):sm n f=sm n g:=by
 induction n with
 | zero=>rfl
 | succ n ih=>rw [sm,sm,ih fun i hi=>h i (by omega),h n (by omega)]
theorem sm_zero {n:Nat} {f:Nat→Int} (h:∀ i,i < n→f i=0):sm n f=0:=by
 induction n with
 | zero=>rfl
 | succ n ih=>rw [sm,ih fun i hi=>h i (by omega),h n (by omega)]; rfl
theorem sm_add (n:Nat) (f g:Nat→Int):sm n (fun i=>f i+g i)=sm n f+sm n g:=by
 induction n with
 | zero=>rfl
 | succ n ih=>simp only [sm,ih]; omega
theorem sm_mul (n:Nat) (c:Int) (f:Nat→Int):sm n (fun i=>c*f i)=c*sm n f:=by
 induction n with
 | zero=>simp [sm]
 | succ n ih=>simp only [sm,ih,Int.mul_add]
theorem sm_mul' (n:Nat) (c:Int) (f:Nat→Int):sm n (fun i=>f i*c)=sm n f*c:=by
 induction n with
 | zero=>simp [sm]
 | succ n ih=>simp only [sm,ih,Int.add_mul]
theorem sm_lin (n:Nat) (s t:Int) (f g:Nat→Int):sm n (fun i=>s*f i+t*g i)=s*sm n f+t*sm n g:=by
 rw [sm_add,sm_mul,sm_mul]
theorem sm_swap (n m:Nat) (f:Nat→Nat→Int):sm n (fun i=>sm m fun j=>f i j)=sm m (fun j=>sm n fun i=>f i j):=by
 induction n with
 | zero=>exact (sm_zero (n:=m) fun _ _=>rfl).symm
 | succ n ih=>simp only [sm]; rw [ih,← sm_add]
theorem sm_one {n a:Nat} {f:Nat→Int} (h:a < n):sm n (fun i=>if i=a then f i else 0)=f a:=by
 induction n with
 | zero=>omega
 | succ n ih=>
  rw [sm]
  by_cases ha:a=n
  ·subst ha
   rw [sm_zero (fun i hi=>if_neg (by omega)),if_pos rfl]; omega
  ·rw [ih (by omega),if_neg (by omega)]; omega
theorem sm_tri (N:Nat) (F:Nat→Nat→Int):sm (N+1) (fun j=>sm N fun k=>F j k)=sm (N+1) (fun j=>sm j fun k=>F j k+F k (j - 1)):=by
 induction N with
 | zero=>rfl
 | succ N ih=>
  have h1:sm (N+1) (fun j=>sm (N+1) fun k=>F j k)=sm (N+1) (fun j=>sm N fun k=>F j k)+sm (N+1) (fun j=>F j N):=by
   rw [← sm_add]; exact sm_congr fun j _=>rfl
  have h2:∀ G:Nat→Int,sm (N+1+1) G=sm (N+1) G+G (N+1):=fun _=>rfl
  have h3:sm (N+1) (fun k=>F (N+1) k+F k N)=sm (N+1) (fun k=>F (N+1) k)+sm (N+1) (fun k=>F k N):=sm_add _ _ _
  rw [h2,h2 (fun j=>sm j fun k=>F j k+F k (j - 1)),← ih,h1,show N+1 - 1=N from rfl,h3]
  omega
abbrev Mx:=Nat→Nat→Int
def sk (j k:Nat):Nat:=if k < j then k else k+1
def mn (A:Mx) (j:Nat):Mx:=fun r c=>A (r+1) (sk j c)
def sg (j:Nat):Int:=if j % 2=0 then 1 else -1
theorem sg_succ (j:Nat):sg (j+1)= - sg j:=by
 unfold sg
 by_cases h:j % 2=0
 ·rw [if_pos h,if_neg (by omega)]
 ·rw [if_neg h,if_pos (by omega)]; rfl
def det:Nat→Mx→Int
 | 0,_=>1
 | n+1,A=>sm (n+1) fun j=>sg j*A 0 j*det n (mn A j)
theorem sk_lt {j k n:Nat} (hj:j < n+1) (hk:k < n):sk j k < n+1:=by unfold sk; split<;>omega
theorem det_congr:∀ {n:Nat} {A B:Mx},(∀ i j,i < n→j < n→A i j=B i j)→det n A=det n B
 | 0,_,_,_=>rfl
 | n+1,A,B,h=>by
  rw [det,det]
  refine sm_congr fun j hj=>?_
  rw [h 0 j (by omega) hj,det_congr (A:=mn A j) (B:=mn B j) fun i k hi hk=>h _ _ (by omega) (sk_lt hj hk)]
def up (A:Mx) (i:Nat) (v:Nat→Int):Mx:=fun r c=>if r=i then v c else A r c
theorem mn_up0 (A:Mx) (v:Nat→Int) (j:Nat):mn (up A 0 v) j=mn A j:=by funext r c; simp [mn,up]
theorem mn_up (A:Mx) (i:Nat) (v:Nat→Int) (j:Nat):mn (up A (i+1) v) j=up (mn A j) i (fun c=>v (sk j c)):=by funext r c; simp [mn,up]
theorem det_lin:∀ {n i:Nat} (A:Mx) (s t:Int) (v w:Nat→Int),i < n→det n (up A i (fun c=>s*v c+t*w c))=s*det n (up A i v)+t*det n (up A i w)
 | 0,i,_,_,_,_,_,h=>by omega
 | n+1,0,A,s,t,v,w,_=>by
  rw [det,det,det,← sm_lin]
  refine sm_congr fun j hj=>?_
  rw [mn_up0,mn_up0,mn_up0]
  simp only [up,if_true]
  grind
 | n+1,i+1,A,s,t,v,w,h=>by
  rw [det,det,det,← sm_lin]
  refine sm_congr fun j hj=>?_
  rw [mn_up,mn_up,mn_up,det_lin (mn A j) s t (fun c=>v (sk j c)) (fun c=>w (sk j c)) (by omega)]
  simp only [up,show ¬ (0=i+1) by omega,if_false]
  grind
theorem mn_mn {A:Mx} {j k:Nat} (h:k < j):∀ r c,mn (mn A j) k r c=mn (mn A k) (j - 1) r c:=by
 intro r c
 simp only [mn]
 congr 1
 unfold sk
 split<;>split<;>(try split)<;>(try split)<;>omega
theorem det_adj:∀ {n i:Nat} {A:Mx},i+1 < n→(∀ c,c < n→A i c=A (i+1) c)→det n A=0
 | 0,_,_,h,_=>by omega
 | 1,_,_,h,_=>by omega
 | n+2,0,A,h,he=>by
  have h1:det (n+2) A=sm (n+2) fun j=>sm (n+1) fun k=>(sg j*sg k)*(A 0 j*A 1 (sk j k))*det n (mn (mn A j) k):=by
   rw [det]
   refine sm_congr fun j hj=>?_
   rw [det,← sm_mul]
   refine sm_congr fun k hk=>?_
   have:mn A j 0 k=A 1 (sk j k):=rfl
   rw [this]
   grind
  rw [h1,sm_tri]
  refine sm_zero fun j hj=>sm_zero fun k hk=>?_
  have hd:det n (mn (mn A j) k)=det n (mn (mn A k) (j - 1)):=det_congr fun r c _ _=>mn_mn hk r c
  have e1:sk j k=k:=by unfold sk; rw [if_pos hk]
  have e2:sk k (j - 1)=j:=by unfold sk; rw [if_neg (by omega)]; omega
  have e3:sg j= - sg (j - 1):=by
   have:=sg_succ (j - 1)
   rwa [show j - 1+1=j by omega] at this
  rw [hd,e1,e2,← he k (by omega),← he j hj,e3]
  grind
 | n+2,i+1,A,h,he=>by
  rw [det]
  refine sm_zero fun j hj=>?_
  rw [det_adj (i:=i) (A:=mn A j) (by omega) (fun c hc=>he _ (sk_lt hj hc)),Int.mul_zero]
structure Am (n:Nat) (D:Mx→Int):Prop where
 congr:∀ A B,(∀ i j,i < n→j < n→A i j=B i j)→D A=D B
 lin:∀ A i (s t:Int) v w,i < n→D (up A i (fun c=>s*v c+t*w c))=s*D (up A i v)+t*D (up A i w)
 adj:∀ A i,i+1 < n→(∀ c,c < n→A i c=A (i+1) c)→D A=0
theorem det_am (n:Nat):Am n (det n):=⟨fun A B h=>det_congr h,fun A i s t v w h=>det_lin A s t v w h,fun A i h he=>det_adj h he⟩
theorem up_self (A:Mx) (i:Nat):up A i (A i)=A:=by funext r c; simp only [up]; split<;>simp_all
theorem up_up (A:Mx) (i:Nat) (v w:Nat→Int):up (up A i v) i w=up A i w:=by funext r c; simp only [up]; split<;>rfl
theorem up_comm (A:Mx) {i k:Nat} (h:i≠k) (v w:Nat→Int):up (up A i v) k w=up (up A k w) i v:=by
 funext r c; simp only [up]; by_cases h1:r=k<;>by_cases h2:r=i<;>simp [h1,h2]<;>omega
def sw (A:Mx) (i k:Nat):Mx:=fun r c=>if r=i then A k c else if r=k then A i c else A r c
section
variable {n:Nat} {D:Mx→Int}
theorem Am.add (h:Am n D) (A:Mx) {i:Nat} (hi:i < n) (v w:Nat→Int):D (up A i (fun c=>v c+w c))=D (up A i v)+D (up A i w):=by
 have:=h.lin A i 1 1 v w hi
 simpa using this
theorem Am.sw_of (h:Am n D) {i k:Nat} (hi:i < n) (hk:k < n) (hik:i≠k) (he:∀ A,(∀ c,c < n→A i c=A k c)→D A=0) (A:Mx):D (sw A i k)= - D A:=by
 let u:=A i
 let v:=A k
 let F:(Nat→Int)→(Nat→Int)→Mx:=fun x y=>up (up A i x) k y
 have hz:∀ x,D (F x x)=0:=fun x=>he _ (fun c _=>by simp [F,up,hik])
 have hl:∀ x y z,D (F (fun c=>x c+y c) z)=D (F x z)+D (F y z):=by
  intro x y z
  simp only [F]
  rw [up_comm A hik,up_comm A hik,up_comm A hik,h.add _ hi]
 have hr:∀ x y z,D (F z (fun c=>x c+y c))=D (F z x)+D (F z y):=fun x y z=>h.add _ hk _ _
 have h0:=hz (fun c=>u c+v c)
 rw [hl,hr,hr,hz,hz] at h0
 have e1:D (F u v)=D A:=h.congr _ _ fun r c _ _=>by
  simp only [F,up]; split
  ·rename_i h; subst h; rfl
  ·split
   ·rename_i h; subst h; rfl
   ·rfl
 have e2:D (F v u)=D (sw A i k):=h.congr _ _ fun r c _ _=>by
  simp only [F,up,sw]
  by_cases h1:r=k
  ·rw [if_pos h1,if_neg (by omega),if_pos h1]
  ·rw [if_neg h1]
   by_cases h2:r=i
   ·rw [if_pos h2,if_pos h2]
   ·rw [if_neg h2,if_neg h2,if_neg h1]
 omega
theorem Am.eq (h:Am n D):∀ (d i:Nat) (A:Mx),i+d+1 < n→(∀ c,c < n→A i c=A (i+d+1) c)→D A=0:=by
 intro d
 induction d with
 | zero=>exact fun i A hi he=>h.adj A i hi he
 | succ d ih=>
  intro i A hi he
  have hs:=h.sw_of (i:=i+d+1) (k:=i+d+2) (by omega) (by omega) (by omega) (fun B hB=>h.adj B (i+d+1) (by omega) hB) A
  have hz:=ih i (sw A (i+d+1) (i+d+2)) (by omega) (fun c hc=>by
   simp only [sw]
   rw [if_neg (by omega),if_neg (by omega)]
   simp only [if_true]
   exact he c hc)
  rw [hz] at hs
  omega
theorem Am.equal (h:Am n D) {i k:Nat} (hi:i < n) (hk:k < n) (hik:i≠k) (A:Mx) (he:∀ c,c < n→A i c=A k c):D A=0:=by
 by_cases hlt:i < k
 ·have:=h.eq (k - i - 1) i A (by omega) (fun c hc=>by rw [show i+(k - i - 1)+1=k by omega]; exact he c hc)
  exact this
 ·have:=h.eq (i - k - 1) k A (by omega) (fun c hc=>by rw [show k+(i - k - 1)+1=i by omega]; exact (he c hc).symm)
  exact this
theorem Am.swap (h:Am n D) {i k:Nat} (hi:i < n) (hk:k < n) (hik:i≠k) (A:Mx):D (sw A i k)= - D A:=
 h.sw_of hi hk hik (fun B hB=>h.equal hi hk hik B hB) A
theorem Am.addrow (h:Am n D) {i k:Nat} (hi:i < n) (hk:k < n) (hik:i≠k) (A:Mx) (t:Int):D (up A i (fun c=>A i c+t*A k c))=D A:=by
 have h1:=h.lin A i 1 t (A i) (A k) hi
 have h2:D (up A i (A k))=0:=h.equal hi hk hik _ (fun c _=>by simp [up,Ne.symm hik])
 rw [h2,up_self] at h1
 simpa using h1
theorem Am.scale (h:Am n D) {i:Nat} (hi:i < n) (A:Mx) (t:Int):D (up A i (fun c=>t*A i c))=t*D A:=by
 have h1:=h.lin A i t 0 (A i) (A i) hi
 rw [up_self] at h1
 simpa using h1
theorem Am.zero (h:Am n D) {i:Nat} (hi:i < n) (A:Mx) (he:∀ c,c < n→A i c=0):D A=0:=by
 have h1:=h.scale hi A 0
 have h2:D (up A i (fun c=>0*A i c))=D A:=h.congr _ _ fun r c hr hc=>by
  simp only [up]; split
  ·rename_i e; subst e; rw [he c hc]; rfl
  ·rfl
 rw [h2] at h1
 simpa using h1
theorem Am.sum (h:Am n D) {i:Nat} (hi:i < n) (A:Mx):∀ (m:Nat) (x:Nat→Int) (V:Nat→Nat→Int),D (up A i (fun c=>sm m fun j=>x j*V j c))=sm m fun j=>x j*D (up A i (V j)):=by
 intro m x V
 induction m with
 | zero=>exact h.zero hi _ (fun c _=>by simp [up,sm])
 | succ m ih=>
  simp only [sm]
  rw [h.add A hi (fun c=>sm m fun j=>x j*V j c) (fun c=>x m*V m c),ih]
  congr 1
  have:=h.lin A i (x m) 0 (V m) (V m) hi
  simpa using this
end
end Dt
namespace Dt
def one:Mx:=fun r c=>if r=c then 1 else 0
def unit (j:Nat):Nat→Int:=fun c=>if c=j then 1 else 0
def ins (j:Nat) (M:Mx):Mx:=fun r c=>if r=0 then unit j c else if c=j then 0 else M (r - 1) (if c < j then c else c - 1)
theorem ins_up (j:Nat) (M:Mx) (i:Nat) (v:Nat→Int):ins j (up M i v)=up (ins j M) (i+1) (fun c=>if c=j then 0 else v (if c < j then c else c - 1)):=by
 funext r c
 unfold ins up
 by_cases h0:r=0
 ·subst h0; simp
 ·by_cases h1:r=i+1
  ·subst h1; simp
  ·simp only [h0,h1,if_false]
   by_cases h2:c=j
   ·rw [if_pos h2,if_pos h2]
   ·rw [if_neg h2,if_neg h2,if_neg (by omega)]
theorem ins_am {n:Nat} {D:Mx→Int} (h:Am (n+1) D) {j:Nat} (hj:j < n+1):Am n fun M=>D (ins j M):=by
 refine ⟨fun A B he=>h.congr _ _ fun r c hr hc=>?_,fun A i s t v w hi=>?_,fun A i hi he=>?_⟩
 ·unfold ins
  by_cases h0:r=0
  ·rw [if_pos h0,if_pos h0]
  ·rw [if_neg h0,if_neg h0]
   by_cases h2:c=j
   ·rw [if_pos h2,if_pos h2]
   ·rw [if_neg h2,if_neg h2]
    refine he _ _ (by omega) ?_
    split<;>omega
 ·simp only [ins_up]
  have:=h.lin (ins j A) (i+1) s t (fun c=>if c=j then 0 else v (if c < j then c else c - 1)) (fun c=>if c=j then 0 else w (if c < j then c else c - 1)) (by omega)
  rw [← this]
  congr 2
  funext c
  split
  ·simp
  ·rfl
 ·refine h.adj (ins j A) (i+1) (by omega) fun c hc=>?_
  have e:∀ r,r≠0→ins j A r c=if c=j then 0 else A (r - 1) (if c < j then c else c - 1):=fun r hr=>by unfold ins; rw [if_neg hr]
  rw [e _ (by omega),e _ (by omega)]
  by_cases h2:c=j
  ·rw [if_pos h2,if_pos h2]
  ·rw [if_neg h2,if_neg h2]
   exact he _ (by split<;>omega)
def addm (A:Mx) (x:Nat→Int) (m:Nat):Mx:=fun r c=>if 0 < r∧r < m then A r c+x r*A 0 c else A r c
theorem addm_in {A:Mx} {x:Nat→Int} {m r c:Nat} (h:0 < r∧r < m):addm A x m r c=A r c+x r*A 0 c:=by unfold addm; rw [if_pos h]
theorem addm_out {A:Mx} {x:Nat→Int} {m r c:Nat} (h:¬ (0 < r∧r < m)):addm A x m r c=A r c:=by unfold addm; rw [if_neg h]
theorem up_in {A:Mx} {i c:Nat} {v:Nat→Int}:up A i v i c=v c:=by unfold up; rw [if_pos rfl]
theorem up_out {A:Mx} {i r c:Nat} {v:Nat→Int} (h:r≠i):up A i v r c=A r c:=by unfold up; rw [if_neg h]
theorem Am.addm {n:Nat} {D:Mx→Int} (h:Am n D) (A:Mx) (x:Nat→Int):∀ m,m≤n→D (addm A x m)=D A:=by
 intro m
 induction m with
 | zero=>exact fun _=>h.congr _ _ fun r c _ _=>addm_out (by omega)
 | succ m ih=>
  intro hm
  rw [← ih (by omega)]
  by_cases h0:m=0
  ·subst h0
   exact h.congr _ _ fun r c _ _=>by rw [addm_out (by omega),addm_out (by omega)]
  ·have:=h.addrow (i:=m) (k:=0) (by omega) (by omega) h0 (Dt.addm A x m) (x m)
   rw [← this]
   refine h.congr _ _ fun r c _ _=>?_
   by_cases hr:r=m
   ·subst hr
    rw [addm_in (by omega),up_in,addm_out (by omega),addm_out (by omega)]
   ·rw [up_out hr]
    by_cases h1:0 < r∧r < m
    ·rw [addm_in (by omega),addm_in h1]
    ·rw [addm_out (by omega),addm_out h1]
theorem if_iff {p q:Prop} [Decidable p] [Decidable q] (h:p↔q):(if p then (1:Int) else 0)=if q then 1 else 0:=by
 by_cases hp:p
 ·rw [if_pos hp,if_pos (h.1 hp)]
 ·rw [if_neg hp,if_neg (fun hq=>hp (h.2 hq))]
theorem ins_one (j r c:Nat):ins j one r c=if (r=0∧c=j)∨(0 < r∧r≤j∧c+1=r)∨(j < r∧c=r) then 1 else 0:=by
 unfold ins one unit
 by_cases h0:r=0
 ·rw [if_pos h0]
  exact if_iff (by omega)
 ·rw [if_neg h0]
  by_cases h1:c=j
  ·rw [if_pos h1,if_neg (by omega)]
  ·rw [if_neg h1]
   by_cases h2:c < j
   ·rw [if_pos h2]; exact if_iff (by omega)
   ·rw [if_neg h2]; exact if_iff (by omega)
theorem det_ins_one {n:Nat} {D:Mx→Int} (h:Am (n+1) D):∀ j,j < n+1→D (ins j one)=sg j*D one:=by
 intro j
 induction j with
 | zero=>
  intro _
  rw [show sg 0=1 from rfl,Int.one_mul]
  refine h.congr _ _ fun r c _ _=>?_
  rw [ins_one]
  unfold one
  exact if_iff (by omega)
 | succ j ih=>
  intro hj
  have hs:=h.swap (i:=0) (k:=j+1) (by omega) hj (by omega) (ins j one)
  rw [ih (by omega)] at hs
  rw [sg_succ,Int.neg_mul,← hs]
  refine h.congr _ _ fun r c _ _=>?_
  show ins (j+1) one r c=if r=0 then ins j one (j+1) c else if r=j+1 then ins j one 0 c else ins j one r c
  by_cases h0:r=0
  ·rw [if_pos h0,ins_one,ins_one]; exact if_iff (by omega)
  ·rw [if_neg h0]
   by_cases h1:r=j+1
   ·rw [if_pos h1,ins_one,ins_one]; exact if_iff (by omega)
   ·rw [if_neg h1,ins_one,ins_one]; exact if_iff (by omega)
theorem Am.uniq:∀ {n:Nat} {D:Mx→Int},Am n D→∀ A,D A=det n A*D one
 | 0,D,h,A=>by
  rw [det,Int.one_mul]
  exact h.congr _ _ fun r c hr _=>by omega
 | n+1,D,h,A=>by
  have h0:D A=sm (n+1) fun j=>A 0 j*D (up A 0 (unit j)):=by
   rw [← h.sum (by omega) A (n+1) (A 0) unit]
   refine h.congr _ _ fun r c hr hc=>?_
   simp only [up]
   split
   ·rename_i e
    subst e
    have:=sm_one (n:=n+1) (a:=c) (f:=A 0) hc
    rw [← this]
    refine sm_congr fun i hi=>?_
    unfold unit
    by_cases e:i=c
    ·rw [if_pos e,if_pos e.symm,Int.mul_one]
    ·rw [if_neg e,if_neg (fun e'=>e e'.symm),Int.mul_zero]
   ·rfl
  rw [h0,det,← sm_mul']
  refine sm_congr fun j hj=>?_
  have h1:D (up A 0 (unit j))=D (ins j (mn A j)):=by
   rw [← h.addm (ins j (mn A j)) (fun r=>A r j) (n+1) (by omega)]
   refine h.congr _ _ fun r c hr hc=>?_
   unfold Dt.addm up
   by_cases e0:r=0
   ·subst e0
    rw [if_pos rfl,if_neg (by omega)]
    unfold ins
    rw [if_pos rfl]
   ·rw [if_neg e0,if_pos (by omega)]
    unfold ins mn
    simp only [if_true,if_neg e0]
    unfold unit
    by_cases e:c=j
    ·subst e; rw [if_pos rfl,if_pos rfl]; omega
    ·rw [if_neg e,if_neg e,show r - 1+1=r by omega]
     unfold sk
     by_cases e2:c < j
     ·rw [if_pos e2,if_pos e2]; omega
     ·rw [if_neg e2,if_neg (by omega),show c - 1+1=c by omega]; omega
  have h2:D (ins j (mn A j))=det n (mn A j)*D (ins j one):=Am.uniq (ins_am h hj) (mn A j)
  rw [h1,h2,det_ins_one h j hj]
  grind
theorem det_one:∀ n,det n one=1
 | 0=>rfl
 | n+1=>by
  have h1:det (n+1) one=sm (n+1) fun j=>if j=0 then det n (mn one 0) else 0:=by
   rw [det]
   refine sm_congr fun j hj=>?_
   unfold one
   by_cases h:j=0
   ·subst h; simp [sg]
   ·rw [if_neg (by omega),if_neg h]; simp
  rw [h1,sm_one (f:=fun _=>det n (mn one 0)) (by omega),← det_one n]
  refine det_congr fun r c _ _=>?_
  unfold mn one
  have:sk 0 c=c+1:=rfl
  rw [this]
  exact if_iff (by omega)
def mul (n:Nat) (A B:Mx):Mx:=fun r c=>sm n fun k=>A r k*B k c
theorem one_mul {n:Nat} {B:Mx} {r c:Nat} (hr:r < n):mul n one B r c=B r c:=by
 unfold mul
 rw [← sm_one (f:=fun k=>B k c) hr]
 refine sm_congr fun k hk=>?_
 unfold one
 by_cases h:r=k
 ·rw [if_pos h,if_pos h.symm,Int.one_mul]
 ·rw [if_neg h,if_neg (fun e=>h e.symm),Int.zero_mul]
def tp (A:Mx):Mx:=fun r c=>A c r
theorem det_col_lin:∀ {n i:Nat} (A:Mx) (s t:Int) (v w:Nat→Int),i < n→det n (tp (up (tp A) i (fun c=>s*v c+t*w c)))=s*det n (tp (up (tp A) i v))+t*det n (tp (up (tp A) i w))
 | 0,i,_,_,_,_,_,h=>by omega
 | n+1,i,A,s,t,v,w,h=>by
  rw [det,det,det,← sm_lin]
  refine sm_congr fun j hj=>?_
  by_cases hji:j=i
  ·subst hji
   have e:∀ x,mn (tp (up (tp A) j x)) j=mn A j:=by
    intro x
    funext r c
    simp only [mn,tp,up]
    rw [if_neg]
    unfold sk
    split<;>omega
   rw [e,e,e]
   simp only [tp,up,if_true]
   grind
  ·
   have e:∀ x,mn (tp (up (tp A) i x)) j=tp (up (tp (mn A j)) (if i < j then i else i - 1) (fun c=>x (c+1))):=by
    intro x
    funext r c
    simp only [mn,tp,up]
    have:(sk j c=i)↔(c=if i < j then i else i - 1):=by
     unfold sk
     split<;>split<;>omega
    by_cases h1:sk j c=i
    ·rw [if_pos h1,if_pos (this.1 h1)]
    ·rw [if_neg h1,if_neg (fun h2=>h1 (this.2 h2))]
   rw [e,e,e,det_col_lin (mn A j) s t (fun c=>v (c+1)) (fun c=>w (c+1)) (by split<;>omega)]
   have e2:∀ x,tp (up (tp A) i x) 0 j=A 0 j:=by
    intro x
    simp only [tp,up]
    rw [if_neg hji]
   rw [e2,e2,e2]
   grind
theorem det_col_adj:∀ {n i:Nat} {A:Mx},i+1 < n→(∀ r,r < n→A r i=A r (i+1))→det n A=0
 | 0,_,_,h,_=>by omega
 | n+1,i,A,h,he=>by
  have hz:∀ j,j < n+1→j≠i→j≠i+1→det n (mn A j)=0:=by
   intro j hj h1 h2
   refine det_col_adj (i:=if i < j then i else i - 1) (by split<;>omega) fun r hr=>?_
   simp only [mn]
   have e1:sk j (if i < j then i else i - 1)=i:=by unfold sk; split<;>(try split)<;>omega
   have e2:sk j ((if i < j then i else i - 1)+1)=i+1:=by unfold sk; split<;>(try split)<;>omega
   rw [e1,e2]
   exact he _ (by omega)
  have hm:det n (mn A i)=det n (mn A (i+1)):=by
   refine det_congr fun r c hr hc=>?_
   simp only [mn]
   unfold sk
   by_cases h1:c < i
   ·rw [if_pos h1,if_pos (by omega)]
   ·rw [if_neg h1]
    by_cases h2:c=i
    ·subst h2; rw [if_pos (by omega)]; exact (he _ (by omega)).symm
    ·rw [if_neg (by omega)]
  rw [det]
  have hs:sm (n+1) (fun j=>sg j*A 0 j*det n (mn A j))=sm (n+1) (fun j=>(if j=i then sg i*A 0 i*det n (mn A i) else 0)+(if j=i+1 then sg (i+1)*A 0 (i+1)*det n (mn A (i+1)) else 0)):=by
   refine sm_congr fun j hj=>?_
   by_cases h1:j=i
   ·subst h1; rw [if_pos rfl,if_neg (by omega)]; omega
   ·by_cases h2:j=i+1
    ·subst h2; rw [if_neg h1,if_pos rfl]; omega
    ·rw [if_neg h1,if_neg h2,hz j hj h1 h2]; simp
  rw [hs,sm_add,sm_one (f:=fun _=>sg i*A 0 i*det n (mn A i)) (by omega),sm_one (f:=fun _=>sg (i+1)*A 0 (i+1)*det n (mn A (i+1))) h,sg_succ,hm,← he 0 (by omega)]
  grind
theorem tp_am (n:Nat):Am n fun A=>det n (tp A):=by
 refine ⟨fun A B he=>det_congr fun r c hr hc=>he c r hc hr,fun A i s t v w hi=>?_,fun A i hi he=>det_col_adj hi fun r hr=>he r hr⟩
 exact det_col_lin (tp A) s t v w hi
theorem det_tp (n:Nat) (A:Mx):det n (tp A)=det n A:=by
 have h:det n (tp A)=det n A*det n (tp one):=(tp_am n).uniq A
 rw [h]
 have:det n (tp one)=1:=by
  rw [← det_one n]
  exact det_congr fun r c _ _=>by unfold tp one; exact if_iff (by omega)
 rw [this,Int.mul_one]
end Dt
namespace Dt
def adds (A:Mx) (k:Nat) (x:Nat→Int) (m:Nat):Mx:=fun r c=>if r≠k∧r < m then A r c+x r*A k c else A r c
theorem adds_in {A:Mx} {x:Nat→Int} {k m r c:Nat} (h:r≠k∧r < m):adds A k x m r c=A r c+x r*A k c:=by unfold adds; rw [if_pos h]
theorem adds_out {A:Mx} {x:Nat→Int} {k m r c:Nat} (h:¬ (r≠k∧r < m)):adds A k x m r c=A r c:=by unfold adds; rw [if_neg h]
theorem Am.adds {n:Nat} {D:Mx→Int} (h:Am n D) (A:Mx) {k:Nat} (hk:k < n) (x:Nat→Int):∀ m,m≤n→D (adds A k x m)=D A:=by
 intro m
 induction m with
 | zero=>exact fun _=>h.congr _ _ fun r c _ _=>adds_out (by omega)
 | succ m ih=>
  intro hm
  rw [← ih (by omega)]
  by_cases h0:m=k
  ·subst h0
   refine h.congr _ _ fun r c _ _=>?_
   by_cases h1:r≠m∧r < m+1
   ·rw [adds_in h1,adds_in (by omega)]
   ·rw [adds_out h1,adds_out (by omega)]
  ·have:=h.addrow (i:=m) (k:=k) (by omega) hk h0 (Dt.adds A k x m) (x m)
   rw [← this]
   refine h.congr _ _ fun r c _ _=>?_
   by_cases hr:r=m
   ·subst hr
    rw [adds_in (by omega),up_in,adds_out (by omega),adds_out (by omega)]
   ·rw [up_out hr]
    by_cases h1:r≠k∧r < m
    ·rw [adds_in (by omega),adds_in h1]
    ·rw [adds_out (by omega),adds_out h1]
def cl (A:Mx) (j i:Nat):Mx:=fun r c=>if r=j then unit i c else if c=i then 0 else A r c
theorem det_cl {n:Nat} (A:Mx) {j i:Nat} (hj:j < n):det n (up A j (unit i))=det n (cl A j i):=by
 rw [← (det_am n).adds (up A j (unit i)) hj (fun r=>- A r i) n (by omega)]
 refine det_congr fun r c hr hc=>?_
 by_cases h:r=j
 ·subst h
  rw [adds_out (by omega),up_in]
  unfold cl
  rw [if_pos rfl]
 ·rw [adds_in ⟨h,hr⟩,up_out h,up_in]
  unfold cl unit
  rw [if_neg h]
  by_cases h2:c=i
  ·rw [if_pos h2,if_pos h2,h2]; omega
  ·rw [if_neg h2,if_neg h2]; omega
def adj (n:Nat) (A:Mx):Mx:=fun i j=>det n (up A j (unit i))
theorem adj_tp {n:Nat} (A:Mx) {i j:Nat} (hi:i < n) (hj:j < n):adj n (tp A) j i=adj n A i j:=by
 unfold adj
 rw [det_cl _ hi,det_cl _ hj,← det_tp n (cl (tp A) i j)]
 refine det_congr fun r c _ _=>?_
 simp only [tp,cl,unit]
 by_cases h1:c=i
 ·rw [if_pos h1]
  by_cases h2:r=j
  ·rw [if_pos h2,if_pos h2,if_pos h1]
  ·rw [if_neg h2,if_neg h2,if_pos h1]
 ·rw [if_neg h1]
  by_cases h2:r=j
  ·rw [if_pos h2,if_pos h2,if_neg h1]
  ·rw [if_neg h2,if_neg h2,if_neg h1]
theorem row_sum {n:Nat} (v:Nat→Int) {c:Nat} (hc:c < n):sm n (fun j=>v j*unit j c)=v c:=by
 rw [← sm_one (f:=v) hc]
 refine sm_congr fun j _=>?_
 unfold unit
 by_cases h:j=c
 ·rw [if_pos h,if_pos h.symm,Int.mul_one]
 ·rw [if_neg h,if_neg (fun e=>h e.symm),Int.mul_zero]
theorem det_up_row {n:Nat} (A:Mx) {j:Nat} (hj:j < n) (v:Nat→Int):sm n (fun c=>v c*adj n A c j)=det n (up A j v):=by
 unfold adj
 rw [← (det_am n).sum hj A n v unit]
 refine det_congr fun r c hr hc=>?_
 by_cases h:r=j
 ·subst h; rw [up_in,up_in]; exact row_sum v hc
 ·rw [up_out h,up_out h]
theorem mul_adj {n:Nat} (A:Mx) {r j:Nat} (hr:r < n) (hj:j < n):sm n (fun c=>A r c*adj n A c j)=if r=j then det n A else 0:=by
 rw [det_up_row A hj (A r)]
 by_cases h:r=j
 ·subst h; rw [if_pos rfl,up_self]
 ·rw [if_neg h]
  refine (det_am n).equal hr hj h _ fun c _=>?_
  rw [up_out h,up_in]
theorem adj_mul {n:Nat} (A:Mx) {i c:Nat} (hi:i < n) (hc:c < n):sm n (fun j=>adj n A i j*A j c)=if i=c then det n A else 0:=by
 have h:=mul_adj (tp A) hc hi
 have e:sm n (fun j=>tp A c j*adj n (tp A) j i)=sm n (fun j=>adj n A i j*A j c):=sm_congr fun j hj=>by
  rw [adj_tp A hi hj]
  show A j c*_=_
  rw [Int.mul_comm]
 rw [← e,h,det_tp]
 by_cases h:i=c
 ·rw [if_pos h,if_pos h.symm]
 ·rw [if_neg h,if_neg (fun e=>h e.symm)]
theorem row_zero {n:Nat} {A:Mx} (hd:det n A≠0) {w:Nat→Int} (h:∀ c,c < n→sm n (fun r=>w r*A r c)=0):∀ r,r < n→w r=0:=by
 intro i hi
 have h1:sm n (fun c=>sm n (fun r=>w r*A r c)*adj n A c i)=0:=sm_zero fun c hc=>by rw [h c hc,Int.zero_mul]
 have h2:sm n (fun c=>sm n (fun r=>w r*A r c)*adj n A c i)=w i*det n A:=by
  have e:sm n (fun c=>sm n (fun r=>w r*A r c)*adj n A c i)=sm n (fun c=>sm n fun r=>w r*(A r c*adj n A c i)):=sm_congr fun c _=>by
   rw [← sm_mul']; exact sm_congr fun r _=>by grind
  rw [e,sm_swap]
  have e2:sm n (fun r=>sm n fun c=>w r*(A r c*adj n A c i))=sm n (fun r=>if r=i then w r*det n A else 0):=sm_congr fun r hr=>by
   rw [sm_mul,mul_adj A hr hi]
   by_cases h:r=i
   ·rw [if_pos h,if_pos h]
   ·rw [if_neg h,if_neg h,Int.mul_zero]
  rw [e2,sm_one (f:=fun r=>w r*det n A) hi]
 rw [h1] at h2
 rcases Int.mul_eq_zero.1 h2.symm with h3 | h3
 ·exact h3
 ·exact absurd h3 hd
theorem col_zero {n:Nat} {A:Mx} (hd:det n A≠0) {w:Nat→Int} (h:∀ r,r < n→sm n (fun c=>A r c*w c)=0):∀ c,c < n→w c=0:=by
 refine row_zero (A:=tp A) (by rw [det_tp]; exact hd) fun c hc=>?_
 rw [← h c hc]
 exact sm_congr fun r _=>Int.mul_comm _ _
end Dt
namespace Nt
structure Prm (p:Nat):Prop where
 two:2≤p
 div:∀ d,d ∣ p→d=1∨d=p
theorem Prm.of {p:Nat} (h2:2≤p) (h:∀ d,2≤d→d*d≤p→¬ d ∣ p):Prm p:=by
 refine ⟨h2,fun d hd=>Classical.byContradiction fun hno=>?_⟩
 obtain ⟨e,he⟩:=hd
 have hd0:d≠0:=by rintro rfl; simp at he; omega
 have he0:e≠0:=by rintro rfl; simp at he; omega
 have he1:e≠1:=by rintro rfl; simp at he; omega
 by_cases hle:d≤e
 ·exact h d (by omega) (by rw [he]; exact Nat.mul_le_mul_left d hle) ⟨e,he⟩
 ·exact h e (by omega) (by rw [he]; exact Nat.mul_le_mul_right e (by omega)) ⟨d,by rw [he,Nat.mul_comm]⟩
theorem Prm.cop {p a:Nat} (h:Prm p) (ha:¬ p ∣ a):Nat.Coprime p a:=by
 rcases h.div _ (Nat.gcd_dvd_left p a) with h1 | h1
 ·exact h1
 ·exact absurd (h1▸Nat.gcd_dvd_right p a) ha
theorem Prm.euclid {p a b:Nat} (h:Prm p) (hab:p ∣ a*b):p ∣ a∨p ∣ b:=by
 by_cases ha:p ∣ a
 ·exact .inl ha
 ·exact .inr ((h.cop ha).dvd_of_dvd_mul_left hab)
def prod:List Nat→Nat
 | []=>1
 | x::l=>x*prod l
theorem prod_perm {l m:List Nat} (h:l.Perm m):prod l=prod m:=by
 induction h with
 | nil=>rfl
 | cons x _ ih=>simp only [prod,ih]
 | swap x y l=>simp only [prod]; rw [← Nat.mul_assoc,← Nat.mul_assoc,Nat.mul_comm y x]
 | trans _ _ h1 h2=>rw [h1,h2]
theorem prod_map {a p:Nat}:∀ l:List Nat,prod (l.map fun k=>a*k % p) % p=a ^ l.length*prod l % p
 | []=>by simp [prod]
 | x::l=>by
  have ih:=prod_map (a:=a) (p:=p) l
  simp only [List.map_cons,prod,List.length_cons]
  have e:a ^ (l.length+1)*(x*prod l)=a*x*(a ^ l.length*prod l):=by
   rw [Nat.pow_succ]
   simp only [Nat.mul_assoc,Nat.mul_comm,Nat.mul_left_comm]
  rw [e,Nat.mul_mod,Nat.mod_mod,ih,← Nat.mul_mod]
theorem prm_prod {p:Nat} (h:Prm p):∀ l:List Nat,(∀ x,x∈l→0 < x∧x < p)→¬ p ∣ prod l
 | [],_=>by
  intro hd
  have:=Nat.le_of_dvd (by simp [prod]) hd
  have:=h.two
  simp only [prod] at*
  omega
 | x::l,hl=>by
  intro hd
  rcases h.euclid hd with h1 | h1
  ·have:=Nat.le_of_dvd (hl x (by simp)).1 h1
   have:=(hl x (by simp)).2
   omega
  ·exact prm_prod h l (fun y hy=>hl y (by simp [hy])) h1
theorem perm_of {l m:List Nat} (hl:l.Nodup) (hs:∀ x,x∈l→x∈m) (hm:m.Nodup) (he:m.length≤l.length):l.Perm m:=by
 induction l generalizing m with
 | nil=>
  have:m=[]:=List.eq_nil_of_length_eq_zero (by simpa using he)
  rw [this]
 | cons x l ih=>
  rw [List.nodup_cons] at hl
  have hx:=hs x (by simp)
  have hp:=List.perm_cons_erase hx
  refine .trans ?_ hp.symm
  refine .cons x (ih hl.2 (fun y hy=>?_) (hm.erase x) ?_)
  ·exact (List.mem_erase_of_ne (by rintro rfl; exact hl.1 hy)).2 (hs y (by simp [hy]))
  ·rw [List.length_erase_of_mem hx]
   simp only [List.length_cons] at he
   omega
theorem dvd_of_mod {x y p:Nat} (h:x % p=y % p):p ∣ y - x:=Nat.dvd_of_mod_eq_zero (Nat.sub_mod_eq_zero_of_mod_eq h.symm)
theorem mod_of_dvd {x y p:Nat} (hle:x≤y) (h:p ∣ y - x):x % p=y % p:=by
 obtain ⟨k,hk⟩:=h
 have:y=x+p*k:=by omega
 rw [this,Nat.add_mul_mod_self_left]
theorem Prm.fermat {p a:Nat} (h:Prm p) (ha:¬ p ∣ a):a ^ (p - 1) % p=1:=by
 have h2:=h.two
 let L:=(List.range (p - 1)).map (·+ 1)
 have hmem:∀ x,x∈L↔0 < x∧x < p:=by
  intro x
  simp only [L,List.mem_map,List.mem_range]
  constructor
  ·rintro ⟨y,hy,rfl⟩; omega
  ·rintro ⟨h1,h3⟩; exact ⟨x - 1,by omega,by omega⟩
 have hL:L.Nodup:=by
  rw [List.nodup_iff_pairwise_ne,List.pairwise_map]
  exact (List.nodup_iff_pairwise_ne.1 List.nodup_range).imp fun h e=>h (by omega)
 have hlen:L.length=p - 1:=by simp [L]
 have hinj:∀ x y,x < p→y < p→a*x % p=a*y % p→x≤y→x=y:=by
  intro x y hx hy he hle
  have h1:p ∣ a*(y - x):=by
   rw [Nat.mul_sub]
   exact dvd_of_mod he
  rcases h.euclid h1 with h3 | h3
  ·exact absurd h3 ha
  ·refine Classical.byContradiction fun hne=>?_
   have:=Nat.le_of_dvd (by omega) h3
   omega
 have hp:(L.map fun k=>a*k % p).Perm L:=by
  refine perm_of ?_ (fun x hx=>?_) hL (by simp)
  ·rw [List.nodup_iff_pairwise_ne,List.pairwise_map]
   have h3:L.Pairwise fun x y=>x∈L∧y∈L:=List.Pairwise.and_mem.1 (List.pairwise_of_forall (l:=L) (R:=fun _ _=>True) (fun _ _=>trivial)) |>.imp fun h=>⟨h.1,h.2.1⟩
   refine ((List.nodup_iff_pairwise_ne.1 hL).and h3).imp ?_
   rintro x y ⟨hne,hx,hy⟩ he
   have hx:=(hmem x).1 hx
   have hy:=(hmem y).1 hy
   rcases Nat.le_total x y with hle | hle
   ·exact hne (hinj x y hx.2 hy.2 he hle)
   ·exact hne (hinj y x hy.2 hx.2 he.symm hle).symm
  ·obtain ⟨k,hk,rfl⟩:=List.mem_map.1 hx
   have hk:=(hmem k).1 hk
   refine (hmem _).2 ⟨Nat.pos_of_ne_zero fun h0=>?_,Nat.mod_lt _ (by omega)⟩
   rcases h.euclid (Nat.dvd_of_mod_eq_zero h0) with h3 | h3
   ·exact ha h3
   ·have:=Nat.le_of_dvd hk.1 h3; omega
 have h3:=prod_map (a:=a) (p:=p) L
 rw [prod_perm hp,hlen] at h3
 have hnd:=prm_prod h L (fun x hx=>(hmem x).1 hx)
 have hpos:1≤a ^ (p - 1):=Nat.pos_of_ne_zero fun h0=>by
  have:a≠0:=by rintro rfl; exact ha (Nat.dvd_zero p)
  exact absurd h0 (Nat.pos_iff_ne_zero.1 (Nat.pow_pos (by omega)))
 have h4:p ∣ a ^ (p - 1)*prod L - 1*prod L:=dvd_of_mod (by rw [Nat.one_mul]; exact h3)
 rw [← Nat.sub_mul] at h4
 have h5:=(h.euclid h4).resolve_right hnd
 have h6:1 % p=a ^ (p - 1) % p:=mod_of_dvd hpos h5
 rw [← h6]
 exact Nat.mod_eq_of_lt (by omega)
end Nt
namespace Nt
def ab (x:Int):Int:=if x < 0 then -x else x
theorem ab_nn (x:Int):0≤ab x:=by unfold ab; split<;>omega
theorem ab_neg {x:Int} (h:x≤0):ab x= -x:=by unfold ab; split<;>omega
theorem ab_pos {x:Int} (h:0≤x):ab x=x:=by unfold ab; split<;>omega
structure Eu (m x:Int) (r0 r1 t0 t1:Int):Prop where
 n0:0 < r0
 n1:0≤r1
 le:r1≤r0
 sum:r0*ab t1+r1*ab t0=m
 sgn:(0≤t0∧t1≤0)∨(t0≤0∧0≤t1)
 t:t1≠0
 c0:m ∣ r0 - t0*x
 c1:m ∣ r1 - t1*x
theorem Eu.start {m x:Int} (hm:0 < m) (hx:0≤x∧x < m):Eu m x m x 0 1:=
 ⟨hm,hx.1,by omega,by simp [ab],.inr ⟨by omega,by omega⟩,by omega,⟨1,by simp⟩,⟨0,by omega⟩⟩
theorem Eu.step {m x r0 r1 t0 t1:Int} (h:Eu m x r0 r1 t0 t1) (h1:0 < r1):Eu m x r1 (r0 - r0 / r1*r1) t1 (t0 - r0 / r1*t1):=by
 have hq:1≤r0 / r1:=by
  have:=h.le
  have h2:1*r1≤r0:=by omega
  exact (Int.le_ediv_iff_mul_le h1).2 h2
 have hm:=Int.emod_nonneg r0 (show r1≠0 by omega)
 have hm2:=Int.emod_lt_of_pos r0 h1
 have he:r0 - r0 / r1*r1=r0 % r1:=by
  have:=Int.mul_ediv_add_emod r0 r1
  rw [Int.mul_comm] at this
  omega
 have hs:=h.sum
 generalize hqq:r0 / r1=q at*
 have hab:ab (t0 - q*t1)=ab t0+q*ab t1:=by
  rcases h.sgn with ⟨a1,a2⟩ | ⟨a1,a2⟩
  ·have:q*t1≤0:=Int.mul_nonpos_of_nonneg_of_nonpos (by omega) a2
   rw [ab_pos a1,ab_neg a2,ab_pos (by omega)]; grind
  ·have:0≤q*t1:=Int.mul_nonneg (by omega) a2
   rw [ab_neg a1,ab_pos a2,ab_neg (by omega)]; grind
 refine ⟨h1,by omega,by omega,?_,?_,?_,h.c1,?_⟩
 ·rw [hab]; grind
 ·rcases h.sgn with ⟨a1,a2⟩ | ⟨a1,a2⟩
  ·have:q*t1≤0:=Int.mul_nonpos_of_nonneg_of_nonpos (by omega) a2
   exact .inr ⟨a2,by omega⟩
  ·have:0≤q*t1:=Int.mul_nonneg (by omega) a2
   exact .inl ⟨a2,by omega⟩
 ·intro h0
  have h2:ab (t0 - q*t1)=0:=by rw [h0]; rfl
  rw [hab] at h2
  have h3:=ab_nn t0
  have h4:0 < ab t1:=by
   have:=h.t
   unfold ab; split<;>omega
  have h5:1*ab t1≤q*ab t1:=Int.mul_le_mul_of_nonneg_right hq (by omega)
  omega
 ·obtain ⟨a,ha⟩:=h.c0
  obtain ⟨b,hb⟩:=h.c1
  refine ⟨a - q*b,?_⟩
  have:r0 - q*r1 - (t0 - q*t1)*x=(r0 - t0*x) - q*(r1 - t1*x):=by grind
  rw [this,ha,hb]
  grind
end Nt
namespace Nt
def nodiv (p:Nat):Nat→Nat→Bool
 | 0,_=>true
 | n+1,d=>!(Nat.beq (p % d) 0) && nodiv p n (d+1)
theorem nodiv_ok {p:Nat}:∀ (n d:Nat),nodiv p n d=true→∀ e,d≤e→e < d+n→¬ e ∣ p
 | 0,d,_,e,h1,h2=>by omega
 | n+1,d,h,e,h1,h2=>by
  simp only [nodiv,Bool.and_eq_true,Bool.not_eq_true'] at h
  by_cases hed:e=d
  ·subst hed
   intro hd
   have h3:=Nat.mod_eq_zero_of_dvd hd
   have h4:=h.1
   rw [h3] at h4
   cases h4
  ·exact nodiv_ok n (d+1) h.2 e (by omega) (by omega)
theorem Prm.by_nodiv {p n:Nat} (h2:2≤p) (h:nodiv p n 2=true) (hn:p < (n+2)*(n+2)):Prm p:=by
 refine Prm.of h2 fun d hd hdd=>nodiv_ok n 2 h d hd ?_
 refine Classical.byContradiction fun hno=>?_
 have:(n+2)*(n+2)≤d*d:=Nat.mul_le_mul (by omega) (by omega)
 omega
theorem nodiv_max:nodiv 2147483647 46340 2=true:=by kernel_rfl
theorem prm_max:Prm 2147483647:=Prm.by_nodiv (by omega) nodiv_max (by omega)
end Nt
namespace Nt
theorem pow_half (a n:Nat):a ^ n=a ^ (n % 2)*(a*a) ^ (n / 2):=by
 have h:n=n % 2+2*(n / 2):=by omega
 conv=>lhs; rw [h]
 rw [Nat.pow_add,Nat.pow_mul,Nat.pow_two]
theorem pow_odd {out a n p:Nat} (h:n % 2=1):(out*a % p)*(a*a % p) ^ (n / 2) % p=out*a ^ n % p:=by
 rw [pow_half a n,h,Nat.pow_one,← Nat.mul_assoc]
 rw [Nat.mul_mod,Nat.mod_mod,← Nat.pow_mod,← Nat.mul_mod]
theorem pow_even {out a n p:Nat} (h:n % 2=0):out*(a*a % p) ^ (n / 2) % p=out*a ^ n % p:=by
 rw [pow_half a n,h,Nat.pow_zero,Nat.one_mul]
 rw [Nat.mul_mod,← Nat.pow_mod,← Nat.mul_mod]
theorem inv_ok {p a:Nat} (hp:Prm p) (h0:0 < a) (h1:a < p):a*(a ^ (p - 2) % p) % p=1:=by
 have h2:=hp.two
 have hn:¬ p ∣ a:=fun hd=>by have:=Nat.le_of_dvd h0 hd; omega
 have hf:=hp.fermat hn
 rw [Nat.mul_mod,Nat.mod_mod,← Nat.mul_mod]
 have e:a*a ^ (p - 2)=a ^ (p - 1):=by
  rw [show p - 1=(p - 2)+1 by omega,Nat.pow_succ,Nat.mul_comm]
 rw [e,hf]
end Nt
namespace Dt
def Cg (p a b:Int):Prop:=p ∣ a - b
theorem Cg.refl (p a:Int):Cg p a a:=⟨0,by omega⟩
theorem Cg.symm {p a b:Int} (h:Cg p a b):Cg p b a:=by obtain ⟨k,hk⟩:=h; exact ⟨-k,by rw [Int.mul_neg]; omega⟩
theorem Cg.trans {p a b c:Int} (h:Cg p a b) (h':Cg p b c):Cg p a c:=by
 obtain ⟨k,hk⟩:=h; obtain ⟨m,hm⟩:=h'; exact ⟨k+m,by rw [Int.mul_add]; omega⟩
theorem Cg.add {p a b c d:Int} (h:Cg p a b) (h':Cg p c d):Cg p (a+c) (b+d):=by
 obtain ⟨k,hk⟩:=h; obtain ⟨m,hm⟩:=h'; exact ⟨k+m,by rw [Int.mul_add]; omega⟩
theorem Cg.sub {p a b c d:Int} (h:Cg p a b) (h':Cg p c d):Cg p (a - c) (b - d):=by
 obtain ⟨k,hk⟩:=h; obtain ⟨m,hm⟩:=h'; exact ⟨k - m,by rw [Int.mul_sub]; omega⟩
theorem Cg.neg {p a b:Int} (h:Cg p a b):Cg p (-a) (-b):=by
 obtain ⟨k,hk⟩:=h; exact ⟨-k,by rw [Int.mul_neg]; omega⟩
theorem Cg.mul {p a b c d:Int} (h:Cg p a b) (h':Cg p c d):Cg p (a*c) (b*d):=by
 obtain ⟨k,hk⟩:=h; obtain ⟨m,hm⟩:=h'
 refine ⟨k*c+b*m,?_⟩
 have e:a*c - b*d=(a - b)*c+b*(c - d):=by grind
 rw [e,hk,hm]
 grind
theorem Cg.mod (p a:Int):Cg p (a % p) a:=by
 refine ⟨-(a / p),?_⟩
 have:=Int.mul_ediv_add_emod a p
 rw [Int.mul_neg]
 omega
theorem Cg.iff {p a b:Int}:Cg p a b↔a % p=b % p:=by
 constructor
 ·rintro ⟨k,hk⟩
  have:a=b+p*k:=by omega
  rw [this,Int.add_mul_emod_self_left]
 ·intro h
  exact ((Cg.mod p a).symm.trans (h▸Cg.refl p _)).trans (Cg.mod p b)
theorem Cg.zero {p a:Int}:Cg p a 0↔a % p=0:=by rw [Cg.iff]; simp
theorem Cg.eq {p a b:Int} (h:Cg p a b) (ha:0≤a∧a < p) (hb:0≤b∧b < p):a=b:=by
 have:=Cg.iff.1 h
 rwa [Int.emod_eq_of_lt ha.1 ha.2,Int.emod_eq_of_lt hb.1 hb.2] at this
theorem Cg.sm {p:Int} {n:Nat} {f g:Nat→Int} (h:∀ i,i < n→Cg p (f i) (g i)):Cg p (sm n f) (sm n g):=by
 induction n with
 | zero=>exact .refl _ _
 | succ n ih=>exact (ih fun i hi=>h i (by omega)).add (h n (by omega))
theorem Cg.det {p:Int}:∀ {n:Nat} {A B:Mx},(∀ i j,i < n→j < n→Cg p (A i j) (B i j))→Cg p (det n A) (det n B)
 | 0,_,_,_=>.refl _ _
 | n+1,A,B,h=>by
  rw [Dt.det,Dt.det]
  refine Cg.sm fun j hj=>?_
  exact ((Cg.refl p _).mul (h 0 j (by omega) hj)).mul (Cg.det fun i k hi hk=>h _ _ (by omega) (sk_lt hj hk))
def Nl (p:Int) (n w:Nat) (M:Mx) (x:Nat→Int):Prop:=∀ r,r < n→Cg p (sm w fun c=>M r c*x c) 0
def Rq (p:Int) (n w:Nat) (M M':Mx):Prop:=∀ x,Nl p n w M x↔Nl p n w M' x
theorem Rq.refl (p:Int) (n w:Nat) (M:Mx):Rq p n w M M:=fun _=>Iff.rfl
theorem Rq.trans {p:Int} {n w:Nat} {A B C:Mx} (h:Rq p n w A B) (h':Rq p n w B C):Rq p n w A C:=fun x=>(h x).trans (h' x)
theorem Rq.symm {p:Int} {n w:Nat} {A B:Mx} (h:Rq p n w A B):Rq p n w B A:=fun x=>(h x).symm
theorem Rq.cg {p:Int} {n w:Nat} {A B:Mx} (h:∀ r c,r < n→c < w→Cg p (A r c) (B r c)):Rq p n w A B:=by
 intro x
 have e:∀ r,r < n→Cg p (sm w fun c=>A r c*x c) (sm w fun c=>B r c*x c):=fun r hr=>Cg.sm fun c hc=>(h r c hr hc).mul (.refl _ _)
 exact ⟨fun hA r hr=>(e r hr).symm.trans (hA r hr),fun hB r hr=>(e r hr).trans (hB r hr)⟩
theorem Rq.sw {p:Int} {n w:Nat} (A:Mx) {i k:Nat} (hi:i < n) (hk:k < n):Rq p n w A (sw A i k):=by
 intro x
 constructor
 ·intro h r hr
  unfold Dt.sw
  by_cases h1:r=i
  ·simp only [h1,if_true]; exact h k hk
  ·by_cases h2:r=k
   ·simp only [h1,if_false]; simp only [h2,if_true]; exact h i hi
   ·simp only [h1,h2,if_false]; exact h r hr
 ·intro h r hr
  by_cases h1:r=i
  ·by_cases h2:i=k
   ·have:=h r hr
    unfold Dt.sw at this
    subst h1; subst h2; simpa using this
   ·have:=h k hk
    unfold Dt.sw at this
    rw [h1]
    simpa [Ne.symm h2] using this
  ·by_cases h2:r=k
   ·have:=h i hi
    unfold Dt.sw at this
    rw [h2]
    simpa using this
   ·have:=h r hr
    unfold Dt.sw at this
    simpa [h1,h2] using this
theorem sm_scale (w:Nat) (f:Int) (v x:Nat→Int):sm w (fun c=>f*v c*x c)=f*sm w (fun c=>v c*x c):=by
 rw [← sm_mul]; exact sm_congr fun c _=>by grind
theorem Rq.scale {p:Int} {n w:Nat} (A:Mx) {i:Nat} (hi:i < n) {f g:Int} (hfg:Cg p (g*f) 1):Rq p n w A (up A i (fun c=>f*A i c)):=by
 intro x
 constructor
 ·intro h r hr
  by_cases h1:r=i
  ·subst h1
   simp only [up_in]
   rw [sm_scale]
   have:=(Cg.refl p f).mul (h r hr)
   simpa using this
  ·simp only [up_out h1]; exact h r hr
 ·intro h r hr
  have h2:=h r hr
  by_cases h1:r=i
  ·subst h1
   simp only [up_in] at h2
   rw [sm_scale] at h2
   have h3:=(Cg.refl p g).mul h2
   rw [Int.mul_zero,← Int.mul_assoc] at h3
   have h4:=hfg.mul (Cg.refl p (sm w fun c=>A r c*x c))
   rw [Int.one_mul] at h4
   exact h4.symm.trans h3
  ·simp only [up_out h1] at h2; exact h2
theorem sm_comb (w:Nat) (f:Int) (u v x:Nat→Int):sm w (fun c=>(u c+f*v c)*x c)=sm w (fun c=>u c*x c)+f*sm w (fun c=>v c*x c):=by
 rw [← sm_mul,← sm_add]; exact sm_congr fun c _=>by grind
theorem Rq.add {p:Int} {n w:Nat} (A:Mx) {i k:Nat} (hi:i < n) (hk:k < n) (hik:i≠k) (f:Int):Rq p n w A (up A i (fun c=>A i c+f*A k c)):=by
 intro x
 constructor
 ·intro h r hr
  by_cases h1:r=i
  ·subst h1
   simp only [up_in]
   rw [sm_comb]
   have:=(h r hr).add ((Cg.refl p f).mul (h k hk))
   simpa using this
  ·simp only [up_out h1]; exact h r hr
 ·intro h r hr
  have h2:=h r hr
  by_cases h1:r=i
  ·subst h1
   simp only [up_in] at h2
   rw [sm_comb] at h2
   have h3:=h k hk
   simp only [up_out (Ne.symm hik)] at h3
   have:=h2.sub ((Cg.refl p f).mul h3)
   simp only [Int.mul_zero,Int.sub_zero] at this
   rwa [Int.add_sub_cancel] at this
  ·simp only [up_out h1] at h2; exact h2
theorem Rq.adds {p:Int} {n w:Nat} (A:Mx) {k:Nat} (hk:k < n) (x:Nat→Int):∀ m,m≤n→Rq p n w A (adds A k x m):=by
 intro m
 induction m with
 | zero=>exact fun _=>Rq.cg fun r c _ _=>by rw [adds_out (by omega)]; exact .refl _ _
 | succ m ih=>
  intro hm
  refine (ih (by omega)).trans ?_
  by_cases h0:m=k
  ·subst h0
   refine Rq.cg fun r c _ _=>?_
   by_cases h1:r≠m∧r < m
   ·rw [adds_in h1,adds_in (by omega)]; exact .refl _ _
   ·rw [adds_out h1,adds_out (by omega)]; exact .refl _ _
  ·refine (Rq.add (p:=p) (n:=n) (w:=w) (Dt.adds A k x m) (i:=m) (k:=k) (by omega) hk h0 (x m)).trans ?_
   refine Rq.cg fun r c _ _=>?_
   by_cases hr:r=m
   ·subst hr
    rw [adds_in (by omega),up_in,adds_out (by omega),adds_out (by omega)]; exact .refl _ _
   ·rw [up_out hr]
    by_cases h1:r≠k∧r < m
    ·rw [adds_in h1,adds_in (by omega)]; exact .refl _ _
    ·rw [adds_out h1,adds_out (by omega)]; exact .refl _ _
theorem Rq.step {p:Int} {n w:Nat} (A:Mx) {k:Nat} (hk:k < n) {f g:Int} (hfg:Cg p (g*f) 1) (x:Nat→Int):Rq p n w A (Dt.adds (up A k (fun c=>f*A k c)) k x n):=
 (Rq.scale A hk hfg).trans (Rq.adds _ hk x n (Nat.le_refl n))
theorem det_step {n:Nat} (A:Mx) {k:Nat} (hk:k < n) (f:Int) (x:Nat→Int):det n (Dt.adds (up A k (fun c=>f*A k c)) k x n)=f*det n A:=by
 rw [(det_am n).adds _ hk x n (Nat.le_refl n),(det_am n).scale hk A f]
end Dt
namespace Dt
structure Rre (p:Int) (n w:Nat) (M:Mx) (col:Nat→Nat) (k c:Nat):Prop where
 kn:k≤n
 cw:c≤w
 lt:∀ s,s < k→col s < c
 asc:∀ s t,s < t→t < k→col s < col t
 unit:∀ s r,s < k→r < n→M r (col s)=if r=s then 1 else 0
 zero:∀ r j,k≤r→r < n→j < c→M r j=0
 rng:∀ r j,r < n→j < w→0≤M r j∧M r j < p
 lead:∀ s j,s < k→j < col s→M s j=0
section
variable {p:Int} {n w:Nat} {M:Mx} {col:Nat→Nat} {k c:Nat}
theorem Rre.ge (h:Rre p n w M col k c):∀ s,s < k→s≤col s:=by
 intro s
 induction s with
 | zero=>intro _; omega
 | succ s ih=>
  intro hs
  have h1:=ih (by omega)
  have h2:=h.asc s (s+1) (by omega) hs
  omega
theorem Rre.kc (h:Rre p n w M col k c):k≤c:=by
 cases k with
 | zero=>omega
 | succ k=>
  have h1:=h.ge k (by omega)
  have h2:=h.lt k (by omega)
  omega
theorem Rre.first (h:Rre p n w M col k c) {fr:Nat} (h1:∀ s,s < fr→s < k∧col s=s) (h2:fr < k→col fr≠fr):∀ s,s < k→col s≠fr:=by
 intro s hs he
 by_cases hsf:s < fr
 ·have:=(h1 s hsf).2
  omega
 ·have hfk:fr < k:=by omega
  have h3:=h.ge fr hfk
  have h4:=h2 hfk
  by_cases hse:s=fr
  ·subst hse; exact h4 he
  ·have:=h.asc fr s (by omega) hs
   omega
theorem Rre.kernel (h:Rre p n w M col k w) {fr:Nat} (hfr:fr < w) (hno:∀ s,s < k→col s≠fr) {v:Nat→Int} (h1:v fr=1) (hv:∀ s,s < k→Cg p (v (col s)) (- M s fr)) (h0:∀ j,j < w→j≠fr→(∀ s,s < k→col s≠j)→v j=0):Nl p n w M v:=by
 intro r hr
 by_cases hrk:r < k
 ·
  have hsum:sm w (fun j=>M r j*v j)=sm w (fun j=>(if j=fr then M r fr else 0)+(if j=col r then v (col r) else 0)):=by
   refine sm_congr fun j hj=>?_
   by_cases hjf:j=fr
   ·subst hjf
    rw [if_pos rfl,if_neg (fun e=>hno r hrk e.symm),h1]; omega
   ·rw [if_neg hjf]
    by_cases hp:∃ s,s < k∧col s=j
    ·obtain ⟨s,hs,rfl⟩:=hp
     rw [h.unit s r hs hr]
     by_cases hrs:r=s
     ·subst hrs; rw [if_pos rfl,if_pos rfl]; omega
     ·rw [if_neg hrs,if_neg (fun e=>hrs ?_)]
      ·simp
      ·rcases Nat.lt_trichotomy s r with h5 | h5 | h5
       ·have:=h.asc s r h5 hrk; omega
       ·exact h5.symm
       ·have:=h.asc r s h5 hs; omega
    ·have hz:=h0 j hj hjf (fun s hs he=>hp ⟨s,hs,he⟩)
     rw [hz,if_neg (fun e=>hp ⟨r,hrk,e.symm⟩)]; simp
  rw [hsum,sm_add,sm_one (f:=fun _=>M r fr) hfr,sm_one (f:=fun _=>v (col r)) (h.lt r hrk)]
  have:=(Cg.refl p (M r fr)).add (hv r hrk)
  rwa [Int.add_right_neg] at this
 ·rw [sm_zero fun j hj=>by rw [h.zero r j (by omega) hr hj,Int.zero_mul]]
  exact .refl _ _
theorem Rre.only (h:Rre p n w M col w w) {v:Nat→Int} (hv:Nl p n w M v):∀ j,j < w→Cg p (v j) 0:=by
 have hid:∀ s,s < w→col s=s:=by
  intro s hs
  have h1:=h.ge s hs
  have h2:∀ d,s+d < w→col s+d≤col (s+d):=by
   intro d
   induction d with
   | zero=>intro _; exact Nat.le_refl _
   | succ d ih=>intro hd; have:=h.asc (s+d) (s+(d+1)) (by omega) (by omega); have:=ih (by omega); omega
  have h3:=h2 (w - 1 - s) (by omega)
  have h4:=h.lt (w - 1) (by omega)
  rw [show s+(w - 1 - s)=w - 1 by omega] at h3
  omega
 intro j hj
 have h1:=hv j (by have:=h.kn; omega)
 have e:sm w (fun c=>M j c*v c)=sm w (fun c=>if c=j then v c else 0):=sm_congr fun c hc=>by
  have:=h.unit c j hc (by have:=h.kn; omega)
  rw [hid c hc] at this
  rw [this]
  by_cases hcj:c=j
  ·rw [if_pos hcj,if_pos hcj.symm,Int.one_mul]
  ·rw [if_neg hcj,if_neg (fun e=>hcj e.symm),Int.zero_mul]
 rw [e,sm_one (f:=v) hj] at h1
 exact h1
end
end Dt
namespace Dt
theorem sm_skip (k t:Nat) (ht:t < k+1) (f:Nat→Int):sm (k+1) f=f t+sm k (fun j=>f (sk t j)):=by
 induction k with
 | zero=>
  have:t=0:=by omega
  subst this
  simp [sm]
 | succ k ih=>
  by_cases h:t=k+1
  ·subst h
   rw [sm]
   have:sm (k+1) (fun j=>f (sk (k+1) j))=sm (k+1) f:=sm_congr fun j hj=>by unfold sk; rw [if_pos hj]
   rw [this]; omega
  ·rw [sm,ih (by omega),sm]
   have:f (sk t k)=f (k+1):=by unfold sk; rw [if_neg (by omega)]
   rw [this]; omega
theorem homog:∀ (r k:Nat) (A:Mx),r < k→∃ y:Nat→Int,(∃ j,j < k∧y j≠0)∧∀ i,i < r→sm k (fun j=>A i j*y j)=0:=by
 intro r
 induction r with
 | zero=>exact fun k A hk=>⟨fun j=>if j=0 then 1 else 0,⟨0,hk,by simp⟩,fun i hi=>by omega⟩
 | succ r ih=>
  intro k A hk
  by_cases hz:∃ t,t < k∧A r t≠0
  ·obtain ⟨t,ht,hne⟩:=hz
   obtain ⟨k,rfl⟩:∃ k',k=k'+1:=⟨k - 1,by omega⟩
   obtain ⟨y,⟨j0,hj0,hy0⟩,hy⟩:=ih k (fun i j=>A r t*A i (sk t j) - A i t*A r (sk t j)) (by omega)
   let un:Nat→Nat:=fun c=>if c < t then c else c - 1
   let z:Nat→Int:=fun c=>if c=t then - sm k (fun j=>A r (sk t j)*y j) else A r t*y (un c)
   have hzt:z t= - sm k (fun j=>A r (sk t j)*y j):=by simp [z]
   have hzs:∀ j,z (sk t j)=A r t*y j:=by
    intro j
    have h1:sk t j≠t:=by unfold sk; split<;>omega
    have h2:un (sk t j)=j:=by simp only [un]; unfold sk; split<;>(try split)<;>omega
    simp only [z]
    rw [if_neg h1,h2]
   refine ⟨z,⟨sk t j0,sk_lt ht hj0,?_⟩,fun i hi=>?_⟩
   ·rw [hzs]
    exact Int.mul_ne_zero hne hy0
   ·rw [sm_skip k t ht,hzt]
    have e:sm k (fun j=>A i (sk t j)*z (sk t j))=A r t*sm k (fun j=>A i (sk t j)*y j):=by
     rw [← sm_mul]; exact sm_congr fun j _=>by rw [hzs]; grind
    rw [e]
    by_cases hir:i=r
    ·subst hir; grind
    ·have:=hy i (by omega)
     have e2:sm k (fun j=>(A r t*A i (sk t j) - A i t*A r (sk t j))*y j)=A r t*sm k (fun j=>A i (sk t j)*y j)+ - A i t*sm k (fun j=>A r (sk t j)*y j):=by
      rw [← sm_lin]; exact sm_congr fun j _=>by grind
     rw [e2] at this
     grind
  ·obtain ⟨y,h1,h2⟩:=ih k A (by omega)
   refine ⟨y,h1,fun i hi=>?_⟩
   by_cases hir:i=r
   ·subst hir
    refine sm_zero fun j hj=>?_
    have:A i j=0:=Classical.byContradiction fun h=>hz ⟨j,hj,h⟩
    rw [this,Int.zero_mul]
   ·exact h2 i (by omega)
theorem homog_p (r k:Nat) (A:Mx) (h:r < k) {p:Int} (hp:2≤p):∃ y:Nat→Int,(∃ j,j < k∧¬ p ∣ y j)∧∀ i,i < r→sm k (fun j=>A i j*y j)=0:=by
 obtain ⟨y,h1,h2⟩:=homog r k A h
 have key:∀ (d:Nat) (y:Nat→Int),(∃ j,j < k∧y j≠0∧(y j).natAbs≤d)→(∀ i,i < r→sm k (fun j=>A i j*y j)=0)→∃ y:Nat→Int,(∃ j,j < k∧¬ p ∣ y j)∧∀ i,i < r→sm k (fun j=>A i j*y j)=0:=by
  intro d
  induction d with
  | zero=>
   rintro y ⟨j,_,h3,h4⟩ _
   exact absurd (Int.natAbs_eq_zero.1 (by omega)) h3
  | succ d ih=>
   rintro y ⟨j,hj,h3,h4⟩ h5
   by_cases hd:∃ j,j < k∧¬ p ∣ y j
   ·exact ⟨y,hd,h5⟩
   ·have hall:∀ j,j < k→p ∣ y j:=fun j hj=>Classical.byContradiction fun h=>hd ⟨j,hj,h⟩
    refine ih (fun j=>y j / p) ⟨j,hj,?_,?_⟩ fun i hi=>?_
    ·intro h0
     obtain ⟨m,hm⟩:=hall j hj
     rw [hm,Int.mul_ediv_cancel_left _ (by omega)] at h0
     subst h0
     exact h3 (by rw [hm]; simp)
    ·obtain ⟨m,hm⟩:=hall j hj
     rw [hm,Int.mul_ediv_cancel_left _ (by omega)]
     have h6:(y j).natAbs=p.natAbs*m.natAbs:=by rw [hm,Int.natAbs_mul]
     have h7:m.natAbs≠0:=by
      intro h0
      have:=Int.natAbs_eq_zero.1 h0
      subst this
      exact h3 (by rw [hm]; simp)
     have h8:2*m.natAbs≤p.natAbs*m.natAbs:=Nat.mul_le_mul_right _ (by omega)
     omega
    ·have h9:=h5 i hi
     have e:sm k (fun j=>A i j*y j)=p*sm k (fun j=>A i j*(y j / p)):=by
      rw [← sm_mul]
      refine sm_congr fun j hj=>?_
      obtain ⟨m,hm⟩:=hall j hj
      rw [hm,Int.mul_ediv_cancel_left _ (by omega)]
      grind
     rw [e] at h9
     rcases Int.mul_eq_zero.1 h9 with h10 | h10
     ·omega
     ·exact h10
 obtain ⟨j,hj,h3⟩:=h1
 exact key (y j).natAbs y ⟨j,hj,h3,Nat.le_refl _⟩ h2
end Dt
namespace Dt
def ext (n:Nat) (M:Mx):Mx:=fun r c=>if r=n∨c=n then (if r=c then 1 else 0) else M r c
theorem ext_e {n r c:Nat} {M:Mx} (h:r=n∨c=n):ext n M r c=if r=c then 1 else 0:=by unfold ext; rw [if_pos h]
theorem ext_i {n r c:Nat} {M:Mx} (h:¬ (r=n∨c=n)):ext n M r c=M r c:=by unfold ext; rw [if_neg h]
theorem det_ext (n:Nat) (M:Mx):det (n+1) (ext n M)=det n M:=by
 have ha:Am n fun M=>det (n+1) (ext n M):=by
  refine ⟨fun A B he=>det_congr fun r c hr hc=>?_,fun A i s t v w hi=>?_,fun A i hi he=>det_adj (i:=i) (by omega) fun c hc=>?_⟩
  ·by_cases h:r=n∨c=n
   ·rw [ext_e h,ext_e h]
   ·rw [ext_i h,ext_i h]; exact he r c (by omega) (by omega)
  ·have e:∀ x:Nat→Int,ext n (up A i x)=up (ext n A) i (fun c=>if c=n then 0 else x c):=by
    intro x
    funext r c
    by_cases h1:r=i
    ·subst h1
     rw [up_in]
     by_cases h2:c=n
     ·rw [ext_e (.inr h2),if_pos h2,if_neg (by omega)]
     ·rw [ext_i (by omega),if_neg h2,up_in]
    ·rw [up_out h1]
     by_cases h2:r=n∨c=n
     ·rw [ext_e h2,ext_e h2]
     ·rw [ext_i h2,ext_i h2,up_out h1]
   simp only [e]
   rw [← det_lin _ s t _ _ (by omega)]
   congr 2
   funext c
   by_cases h:c=n
   ·simp [h]
   ·simp [h]
  ·by_cases h:c=n
   ·rw [ext_e (.inr h),ext_e (.inr h),if_neg (by omega),if_neg (by omega)]
   ·rw [ext_i (by omega),ext_i (by omega)]; exact he c (by omega)
 have h:det (n+1) (ext n M)=det n M*det (n+1) (ext n one):=ha.uniq M
 have h1:det (n+1) (ext n one)=1:=by
  rw [← det_one (n+1)]
  refine det_congr fun r c _ _=>?_
  by_cases h:r=n∨c=n
  ·rw [ext_e h]; rfl
  ·rw [ext_i h]
 rw [h,h1,Int.mul_one]
section
variable (A:Mx) (col:Nat→Nat)
def Pm_:Mx:=fun r s=>A r (col s)
def Rk (k:Nat):Mx:=fun i j=>if i < k then sm k (fun t=>adj k (Pm_ A col) i t*A t j) else det k (Pm_ A col)*A i j - sm k (fun s=>A i (col s)*sm k (fun t=>adj k (Pm_ A col) s t*A t j))
variable {A col}
theorem Rk_lt {k i j:Nat} (h:i < k):Rk A col k i j=sm k (fun t=>adj k (Pm_ A col) i t*A t j):=by unfold Rk; rw [if_pos h]
theorem Rk_ge {k i j:Nat} (h:¬ i < k):Rk A col k i j=det k (Pm_ A col)*A i j - sm k (fun s=>A i (col s)*sm k (fun t=>adj k (Pm_ A col) s t*A t j)):=by unfold Rk; rw [if_neg h]
theorem Rk_piv {k i s:Nat} (hi:i < k) (hs:s < k):Rk A col k i (col s)=if i=s then det k (Pm_ A col) else 0:=by
 rw [Rk_lt hi]
 exact adj_mul (Pm_ A col) hi hs
theorem Rk_below {k i s:Nat} (hi:¬ i < k) (hs:s < k):Rk A col k i (col s)=0:=by
 rw [Rk_ge hi]
 have e:sm k (fun s'=>A i (col s')*sm k (fun t=>adj k (Pm_ A col) s' t*A t (col s)))=sm k (fun s'=>if s'=s then A i (col s')*det k (Pm_ A col) else 0):=sm_congr fun s' hs'=>by
  have:sm k (fun t=>adj k (Pm_ A col) s' t*A t (col s))=if s'=s then det k (Pm_ A col) else 0:=adj_mul (Pm_ A col) hs' hs
  rw [this]
  by_cases h:s'=s
  ·rw [if_pos h,if_pos h]
  ·rw [if_neg h,if_neg h,Int.mul_zero]
 rw [e,sm_one (f:=fun s'=>A i (col s')*det k (Pm_ A col)) hs,Int.mul_comm]
 omega
def bt (A:Mx) (col:Nat→Nat) (k i t:Nat):Int:=sm k fun s=>A i (col s)*adj k (Pm_ A col) s t
theorem Rk_row {k i j:Nat} (h:¬ i < k):Rk A col k i j=det k (Pm_ A col)*A i j - sm k (fun t=>bt A col k i t*A t j):=by
 rw [Rk_ge h]
 congr 1
 have e:sm k (fun s=>A i (col s)*sm k (fun t=>adj k (Pm_ A col) s t*A t j))=sm k (fun s=>sm k fun t=>A i (col s)*adj k (Pm_ A col) s t*A t j):=sm_congr fun s _=>by
  rw [← sm_mul]; exact sm_congr fun t _=>by grind
 rw [e,sm_swap]
 exact sm_congr fun t _=>by rw [sm_mul']; rfl
theorem det_next {k:Nat} (hd:det k (Pm_ A col)≠0):det (k+1) (Pm_ A col)=Rk A col k k (col k):=by
 let P:=Pm_ A col
 have h1:det (k+1) (up P k (fun s=>det k P*P k s))=det k P*det (k+1) P:=(det_am (k+1)).scale (by omega) P (det k P)
 have h2:∀ m,m≤k→det (k+1) (up P k (fun s=>det k P*P k s - sm m (fun t=>bt A col k k t*P t s)))=det k P*det (k+1) P:=by
  intro m
  induction m with
  | zero=>
   intro _
   rw [← h1]
   congr 2
   funext s
   simp [sm]
  | succ m ih=>
   intro hm
   rw [← ih (by omega)]
   have h3:=(det_am (k+1)).addrow (i:=k) (k:=m) (by omega) (by omega) (by omega) (up P k (fun s=>det k P*P k s - sm m (fun t=>bt A col k k t*P t s))) (- bt A col k k m)
   rw [← h3,up_up]
   refine det_congr fun r c _ _=>?_
   by_cases hr:r=k
   ·subst hr
    rw [up_in,up_in,up_in,up_out (by omega)]
    simp only [sm]
    grind
   ·rw [up_out hr,up_out hr]
 have h4:=h2 k (by omega)
 have h5:det (k+1) (up P k (fun s=>det k P*P k s - sm k (fun t=>bt A col k k t*P t s)))=det (k+1) (up P k (fun s=>Rk A col k k (col k)*unit k s)):=by
  refine det_congr fun r c hr hc=>?_
  by_cases h:r=k
  ·subst h
   rw [up_in,up_in]
   have e:det r P*P r c - sm r (fun t=>bt A col r r t*P t c)=Rk A col r r (col c):=(Rk_row (by omega)).symm
   rw [e]
   unfold unit
   by_cases hcr:c=r
   ·rw [if_pos hcr,hcr,Int.mul_one]
   ·rw [if_neg hcr,Int.mul_zero]
    exact Rk_below (by omega) (by omega)
  ·rw [up_out h,up_out h]
 have h6:det (k+1) (up P k (fun s=>Rk A col k k (col k)*unit k s))=Rk A col k k (col k)*det (k+1) (up P k (unit k)):=by
  have:=(det_am (k+1)).scale (i:=k) (by omega) (up P k (unit k)) (Rk A col k k (col k))
  rw [← this,up_up]
  congr 2
  funext s
  rw [up_in]
 have h7:det (k+1) (up P k (unit k))=det k P:=by
  rw [det_cl P (by omega),← det_ext k P]
  refine det_congr fun r c hr hc=>?_
  by_cases h1:r=k
  ·subst h1
   rw [ext_e (.inl rfl)]
   unfold cl unit
   rw [if_pos rfl]
   exact if_iff eq_comm
  ·unfold cl
   rw [if_neg h1]
   by_cases h2:c=k
   ·rw [if_pos h2,ext_e (.inr h2),if_neg (by omega)]
   ·rw [if_neg h2,ext_i (by omega)]
 rw [h5,h6,h7] at h4
 have h8:det k P*(det (k+1) P - Rk A col k k (col k))=0:=by rw [Int.mul_sub,← h4]; grind
 rcases Int.mul_eq_zero.1 h8 with h9 | h9
 ·exact absurd h9 hd
 ·show det (k+1) P=_
  omega
theorem Rk_top {k j:Nat} (hd:det k (Pm_ A col)≠0) (hn:Rk A col k k (col k)≠0):Rk A col (k+1) k j=Rk A col k k j:=by
 have hdn:=det_next hd
 let w:Nat→Int:=fun t=>(if t=k then det k (Pm_ A col) else - bt A col k k t) - adj (k+1) (Pm_ A col) k t
 have hcomb:∀ j,sm (k+1) (fun t=>w t*A t j)=Rk A col k k j - Rk A col (k+1) k j:=by
  intro j
  rw [Rk_row (k:=k) (i:=k) (by omega),Rk_lt (k:=k+1) (i:=k) (by omega)]
  have e:sm (k+1) (fun t=>w t*A t j)=sm (k+1) (fun t=>(if t=k then det k (Pm_ A col) else - bt A col k k t)*A t j) - sm (k+1) (fun t=>adj (k+1) (Pm_ A col) k t*A t j):=by
   have:=sm_lin (k+1) 1 (-1) (fun t=>(if t=k then det k (Pm_ A col) else - bt A col k k t)*A t j) (fun t=>adj (k+1) (Pm_ A col) k t*A t j)
   have e2:sm (k+1) (fun t=>w t*A t j)=sm (k+1) (fun t=>1*((if t=k then det k (Pm_ A col) else - bt A col k k t)*A t j)+ -1*(adj (k+1) (Pm_ A col) k t*A t j)):=sm_congr fun t _=>by simp only [w]; grind
   rw [e2,this]
   omega
  rw [e]
  congr 1
  rw [sm,if_pos rfl]
  have e3:sm k (fun t=>(if t=k then det k (Pm_ A col) else - bt A col k k t)*A t j)= -1*sm k (fun t=>bt A col k k t*A t j):=by
   rw [← sm_mul]
   exact sm_congr fun t ht=>by rw [if_neg (by omega)]; grind
  rw [e3]
  omega
 have hz:∀ t,t < k+1→w t=0:=by
  refine row_zero (A:=Pm_ A col) (n:=k+1) (by rw [hdn]; exact hn) fun s hs=>?_
  have:=hcomb (col s)
  rw [show sm (k+1) (fun r=>w r*Pm_ A col r s)=sm (k+1) (fun t=>w t*A t (col s)) from rfl,this,Rk_piv (k:=k+1) (by omega) hs,hdn]
  by_cases h:k=s
  ·subst h; rw [if_pos rfl]; omega
  ·rw [if_neg h,Rk_below (k:=k) (by omega) (by omega)]; rfl
 have h1:=hcomb j
 rw [sm_zero (fun t ht=>by rw [hz t ht,Int.zero_mul])] at h1
 omega
theorem Rk_step {k i j:Nat} (hd:det k (Pm_ A col)≠0) (hn:Rk A col k k (col k)≠0) (hik:i≠k):
  Rk A col k k (col k)*Rk A col k i j - Rk A col k i (col k)*Rk A col k k j=det k (Pm_ A col)*Rk A col (k+1) i j:=by
 have hdn:=det_next hd
 suffices hw:∃ w:Nat→Int,∀ j,sm (k+1) (fun t=>w t*A t j)=Rk A col k k (col k)*Rk A col k i j - Rk A col k i (col k)*Rk A col k k j - det k (Pm_ A col)*Rk A col (k+1) i j by
  obtain ⟨w,hcomb⟩:=hw
  have hz:∀ t,t < k+1→w t=0:=by
   refine row_zero (A:=Pm_ A col) (n:=k+1) (by rw [hdn]; exact hn) fun s hs=>?_
   rw [show sm (k+1) (fun r=>w r*Pm_ A col r s)=sm (k+1) (fun t=>w t*A t (col s)) from rfl,hcomb]
   have hR:Rk A col (k+1) i (col s)=if i=s then Rk A col k k (col k) else 0:=by
    by_cases hi:i < k
    ·rw [Rk_piv (k:=k+1) (by omega) hs,hdn]
    ·rw [Rk_below (k:=k+1) (by omega) hs,if_neg (by omega)]
   rw [hR]
   by_cases hsk:s=k
   ·subst hsk; rw [if_neg hik]; grind
   ·have h0:Rk A col k k (col s)=0:=Rk_below (by omega) (by omega)
    rw [h0]
    by_cases hi:i < k
    ·rw [Rk_piv hi (by omega)]
     by_cases his:i=s
     ·rw [if_pos his,if_pos his]; grind
     ·rw [if_neg his,if_neg his]; simp
    ·rw [Rk_below hi (by omega),if_neg (by omega)]; simp
  have h1:=hcomb j
  rw [sm_zero (fun t ht=>by rw [hz t ht,Int.zero_mul])] at h1
  omega
 have hk0:∀ j,Rk A col k k j=det k (Pm_ A col)*A k j - sm k (fun t=>bt A col k k t*A t j):=fun j=>Rk_row (by omega)
 have hsplit:∀ (f:Nat→Int) (g:Nat→Int) (x:Int) (j:Nat),sm (k+1) (fun t=>(if t=k then x else f t)*A t j)=sm k (fun t=>f t*A t j)+x*A k j:=by
  intro f g x j
  rw [sm,if_pos rfl]
  congr 1
  exact sm_congr fun t ht=>by rw [if_neg (by omega)]
 generalize hN:Rk A col k k (col k)=N at*
 by_cases hi:i < k
 ·refine ⟨fun t=>(if t=k then - (Rk A col k i (col k)*det k (Pm_ A col)) else N*adj k (Pm_ A col) i t+Rk A col k i (col k)*bt A col k k t)+ - det k (Pm_ A col)*adj (k+1) (Pm_ A col) i t,fun j=>?_⟩
  rw [hk0,Rk_lt (k:=k+1) (i:=i) (by omega),Rk_lt (k:=k) (i:=i) (j:=j) hi]
  have e:sm (k+1) (fun t=>((if t=k then - (Rk A col k i (col k)*det k (Pm_ A col)) else N*adj k (Pm_ A col) i t+Rk A col k i (col k)*bt A col k k t)+ - det k (Pm_ A col)*adj (k+1) (Pm_ A col) i t)*A t j)
    = sm (k+1) (fun t=>(if t=k then - (Rk A col k i (col k)*det k (Pm_ A col)) else N*adj k (Pm_ A col) i t+Rk A col k i (col k)*bt A col k k t)*A t j)+ - det k (Pm_ A col)*sm (k+1) (fun t=>adj (k+1) (Pm_ A col) i t*A t j):=by
   rw [← sm_mul,← sm_add]
   exact sm_congr fun t _=>by grind
  rw [e,hsplit (fun t=>N*adj k (Pm_ A col) i t+Rk A col k i (col k)*bt A col k k t) (fun _=>0)]
  have e2:sm k (fun t=>(N*adj k (Pm_ A col) i t+Rk A col k i (col k)*bt A col k k t)*A t j)=N*sm k (fun t=>adj k (Pm_ A col) i t*A t j)+Rk A col k i (col k)*sm k (fun t=>bt A col k k t*A t j):=by
   rw [← sm_mul,← sm_mul,← sm_add]
   exact sm_congr fun t _=>by grind
  rw [e2]
  grind
 ·refine ⟨fun t=>(if t=k then - (Rk A col k i (col k)*det k (Pm_ A col)) else - N*bt A col k i t+Rk A col k i (col k)*bt A col k k t)+det k (Pm_ A col)*bt A col (k+1) i t,fun j=>?_⟩
  rw [hk0,Rk_row (k:=k+1) (i:=i) (by omega),Rk_row (k:=k) (i:=i) (j:=j) hi,hdn]
  have e:sm (k+1) (fun t=>((if t=k then - (Rk A col k i (col k)*det k (Pm_ A col)) else - N*bt A col k i t+Rk A col k i (col k)*bt A col k k t)+det k (Pm_ A col)*bt A col (k+1) i t)*A t j)
    = sm (k+1) (fun t=>(if t=k then - (Rk A col k i (col k)*det k (Pm_ A col)) else - N*bt A col k i t+Rk A col k i (col k)*bt A col k k t)*A t j)+det k (Pm_ A col)*sm (k+1) (fun t=>bt A col (k+1) i t*A t j):=by
   rw [← sm_mul,← sm_add]
   exact sm_congr fun t _=>by grind
  rw [e,hsplit (fun t=>- N*bt A col k i t+Rk A col k i (col k)*bt A col k k t) (fun _=>0)]
  have e2:sm k (fun t=>(- N*bt A col k i t+Rk A col k i (col k)*bt A col k k t)*A t j)= - N*sm k (fun t=>bt A col k i t*A t j)+Rk A col k i (col k)*sm k (fun t=>bt A col k k t*A t j):=by
   rw [← sm_mul,← sm_mul,← sm_add]
   exact sm_congr fun t _=>by grind
  rw [e2]
  grind
end
end Dt
namespace Dt
end Dt
namespace Dt
end Dt
namespace Dt
def pr:Nat→(Nat→Int)→Int
 | 0,_=>1
 | n+1,f=>pr n f*f n
end Dt
namespace Dt
theorem adj_congr {n:Nat} {A B:Mx} (h:∀ i j,i < n→j < n→A i j=B i j) {i j:Nat}:adj n A i j=adj n B i j:=by
 unfold adj
 refine det_congr fun r c hr hc=>?_
 by_cases h1:r=j
 ·subst h1; rw [up_in,up_in]
 ·rw [up_out h1,up_out h1,h r c hr hc]
theorem Rk_congr {A A':Mx} {col col':Nat→Nat} {k i j:Nat} (hc:∀ s,s < k→col s=col' s) (ht:∀ t j,t < k→A t j=A' t j) (hi:∀ j,A i j=A' i j):Rk A col k i j=Rk A' col' k i j:=by
 have hP:∀ r s,r < k→s < k→Pm_ A col r s=Pm_ A' col' r s:=fun r s hr hs=>by unfold Pm_; rw [hc s hs,ht r _ hr]
 have hs:∀ s,sm k (fun t=>adj k (Pm_ A col) s t*A t j)=sm k (fun t=>adj k (Pm_ A' col') s t*A' t j):=fun s=>sm_congr fun t htk=>by rw [adj_congr hP,ht t j htk]
 by_cases h:i < k
 ·rw [Rk_lt h,Rk_lt h,hs]
 ·rw [Rk_ge h,Rk_ge h,hi j,det_congr hP]
  congr 1
  exact sm_congr fun s hsk=>by rw [hs,hi,hc s hsk]
def setC (col:Nat→Nat) (k c:Nat):Nat→Nat:=fun s=>if s=k then c else col s
theorem setC_lt {col:Nat→Nat} {k c s:Nat} (h:s < k):setC col k c s=col s:=by unfold setC; rw [if_neg (by omega)]
theorem setC_at {col:Nat→Nat} {k c:Nat}:setC col k c k=c:=by unfold setC; rw [if_pos rfl]
theorem Rk_setC {A:Mx} {col:Nat→Nat} {k c i j:Nat}:Rk A (setC col k c) k i j=Rk A col k i j:=Rk_congr (fun s hs=>setC_lt hs) (fun _ _ _=>rfl) (fun _=>rfl)
theorem det_setC {A:Mx} {col:Nat→Nat} {k c:Nat}:det k (Pm_ A (setC col k c))=det k (Pm_ A col):=det_congr fun r s hr hs=>by unfold Pm_; rw [setC_lt hs]
theorem Rk_sw {A:Mx} {col:Nat→Nat} {k a i j:Nat} (ha:k≤a):Rk (sw A k a) col k i j=if i=k then Rk A col k a j else if i=a then Rk A col k k j else Rk A col k i j:=by
 have ht:∀ t j,t < k→sw A k a t j=A t j:=fun t j h=>by unfold sw; rw [if_neg (by omega),if_neg (by omega)]
 have hP:∀ r s,r < k→s < k→Pm_ (sw A k a) col r s=Pm_ A col r s:=fun r s hr hs=>by unfold Pm_; rw [ht r _ hr]
 have hrow:∀ b,¬ i < k→¬ b < k→(∀ j,sw A k a i j=A b j)→Rk (sw A k a) col k i j=Rk A col k b j:=by
  intro b h1 h2 h3
  rw [Rk_ge h1,Rk_ge h2,h3,det_congr hP]
  congr 1
  exact sm_congr fun s _=>by
   rw [h3]
   congr 1
   exact sm_congr fun t htk=>by rw [adj_congr hP,ht t j htk]
 by_cases h1:i=k
 ·subst h1; rw [if_pos rfl]; exact hrow a (by omega) (by omega) (fun j=>by unfold sw; rw [if_pos rfl])
 ·rw [if_neg h1]
  by_cases h2:i=a
  ·subst h2; rw [if_pos rfl]; exact hrow k (by omega) (by omega) (fun j=>by unfold sw; rw [if_neg h1,if_pos rfl])
  ·rw [if_neg h2]; exact Rk_congr (fun _ _=>rfl) ht (fun j=>by unfold sw; rw [if_neg h1,if_neg h2])
def tr2 (k a i:Nat):Nat:=if i=k then a else if i=a then k else i
theorem tr2_tr2 (k a i:Nat):tr2 k a (tr2 k a i)=i:=by
 unfold tr2
 by_cases e1:i=k
 ·rw [if_pos e1]
  by_cases e2:a=k
  ·rw [if_pos e2]; omega
  ·rw [if_neg e2,if_pos rfl,e1]
 ·rw [if_neg e1]
  by_cases e2:i=a
  ·rw [if_pos e2,if_pos rfl,e2]
  ·rw [if_neg e2,if_neg e1,if_neg e2]
theorem tr2_lt {n k a i:Nat} (hk:k < n) (ha:a < n) (hi:i < n):tr2 k a i < n:=by unfold tr2; split<;>(try split)<;>omega
structure Bar (n w:Nat) (A A':Mx) (col:Nat→Nat) (k c:Nat) (sn:Int):Prop where
 kn:k≤n
 cw:c≤w
 d:det k (Pm_ A' col)≠0
 lt:∀ s,s < k→col s < c
 asc:∀ s t,s < t→t < k→col s < col t
 zero:∀ i j,k≤i→i < n→j < c→Rk A' col k i j=0
 lead:∀ s j,s < k→j < col s→Rk A' col k s j=0
 perm:∃ x xi:Nat→Nat,(∀ i,i < n→x i < n∧xi i < n∧xi (x i)=i∧x (xi i)=i)∧∀ i j,i < n→A' i j=A (x i) j
 sg:(sn=1∨sn= -1)∧det n A'=sn*det n A
theorem Bar.start {n w:Nat} {A:Mx} {col:Nat→Nat}:Bar n w A A col 0 0 1:=
 ⟨by omega,by omega,by simp [det],fun s h=>by omega,fun s t h h'=>by omega,fun i j _ _ h=>by omega,fun s j h=>by omega,⟨id,id,fun i hi=>⟨hi,hi,rfl,rfl⟩,fun i j _=>rfl⟩,.inl rfl,by omega⟩
section
variable {n w:Nat} {A A':Mx} {col:Nat→Nat} {k c:Nat} {sn:Int}
theorem Rk_zero {A:Mx} {col:Nat→Nat} {i j:Nat}:Rk A col 0 i j=A i j:=by
 rw [Rk_ge (by omega)]
 simp [sm,det]
theorem Bar.none (h:Bar n w A A' col k c sn) (hc:c < w) (hz:∀ i,k≤i→i < n→Rk A' col k i c=0):Bar n w A A' col k (c+1) sn:=by
 refine ⟨h.kn,hc,h.d,fun s hs=>by have:=h.lt s hs; omega,h.asc,fun i j h1 h2 h3=>?_,h.lead,h.perm,h.sg⟩
 by_cases hj:j=c
 ·subst hj; exact hz i h1 h2
 ·exact h.zero i j h1 h2 (by omega)
theorem Bar.pivot (h:Bar n w A A' col k c sn) (hc:c < w) {a:Nat} (hka:k≤a) (han:a < n) (hne:Rk A' col k a c≠0):
  Bar n w A (sw A' k a) (setC col k c) (k+1) (c+1) (if a=k then sn else -sn)∧
  det (k+1) (Pm_ (sw A' k a) (setC col k c))=Rk A' col k a c∧
  (∀ j,Rk (sw A' k a) (setC col k c) (k+1) k j=Rk A' col k a j)∧
  ∀ i j,i≠k→Rk A' col k a c*Rk (sw A' k a) col k i j - Rk (sw A' k a) col k i c*Rk A' col k a j=det k (Pm_ A' col)*Rk (sw A' k a) (setC col k c) (k+1) i j:=by
 have hd0:det k (Pm_ (sw A' k a) (setC col k c))=det k (Pm_ A' col):=by
  rw [det_setC]
  exact det_congr fun r s hr hs=>by unfold Pm_ sw; rw [if_neg (by omega),if_neg (by omega)]
 have hd:det k (Pm_ (sw A' k a) (setC col k c))≠0:=by rw [hd0]; exact h.d
 have hR:∀ i j,Rk (sw A' k a) (setC col k c) k i j=Rk (sw A' k a) col k i j:=fun i j=>Rk_setC
 have hk:∀ j,Rk (sw A' k a) (setC col k c) k k j=Rk A' col k a j:=fun j=>by rw [hR,Rk_sw hka,if_pos rfl]
 have hn:Rk (sw A' k a) (setC col k c) k k (setC col k c k)≠0:=by rw [setC_at,hk]; exact hne
 have hnext:=det_next hd
 rw [setC_at,hk] at hnext
 have htop:∀ j,Rk (sw A' k a) (setC col k c) (k+1) k j=Rk A' col k a j:=fun j=>by rw [Rk_top hd hn,hk]
 have hstep:∀ i j,i≠k→Rk A' col k a c*Rk (sw A' k a) col k i j - Rk (sw A' k a) col k i c*Rk A' col k a j=det k (Pm_ A' col)*Rk (sw A' k a) (setC col k c) (k+1) i j:=by
  intro i j hik
  have:=Rk_step (j:=j) hd hn hik
  rw [setC_at,hk,hk,hd0,hR,hR] at this
  exact this
 refine ⟨⟨by omega,hc,by rw [hnext]; exact hne,fun s hs=>?_,fun s t hs ht=>?_,fun i j h1 h2 h3=>?_,fun s j hs hj=>?_,?_,?_⟩,hnext,htop,hstep⟩
 ·by_cases hsk:s=k
  ·subst hsk; rw [setC_at]; omega
  ·rw [setC_lt (by omega)]; have:=h.lt s (by omega); omega
 ·rw [setC_lt (by omega)]
  by_cases htk:t=k
  ·subst htk; rw [setC_at]; exact h.lt s hs
  ·rw [setC_lt (by omega)]; exact h.asc s t hs (by omega)
 ·have hz:∀ j,j < c→Rk (sw A' k a) col k i j=0:=by
   intro j hj
   rw [Rk_sw hka]
   split
   ·exact h.zero a j hka han hj
   ·split
    ·exact h.zero k j (by omega) (by omega) hj
    ·exact h.zero i j (by omega) h2 hj
  have hs:=hstep i j (by omega)
  have h0:det k (Pm_ A' col)*Rk (sw A' k a) (setC col k c) (k+1) i j=0:=by
   by_cases hj:j=c
   ·subst hj; rw [← hs]; grind
   ·rw [← hs,hz j (by omega),h.zero a j hka han (by omega)]; simp
  rcases Int.mul_eq_zero.1 h0 with h4 | h4
  ·exact absurd h4 h.d
  ·exact h4
 ·by_cases hsk:s=k
  ·subst hsk
   rw [setC_at] at hj
   rw [htop]
   exact h.zero a j hka han hj
  ·rw [setC_lt (by omega)] at hj
   have hlt:=h.lt s (by omega)
   have hss:=hstep s j hsk
   have h1:Rk (sw A' k a) col k s j=0:=by
    rw [Rk_sw hka,if_neg hsk,if_neg (by omega)]
    exact h.lead s j (by omega) hj
   rw [h1,h.zero a j hka han (by omega)] at hss
   have h0:det k (Pm_ A' col)*Rk (sw A' k a) (setC col k c) (k+1) s j=0:=by rw [← hss]; simp
   rcases Int.mul_eq_zero.1 h0 with h4 | h4
   ·exact absurd h4 h.d
   ·exact h4
 ·obtain ⟨x,xi,hx,hA⟩:=h.perm
  have hkn:k < n:=by omega
  refine ⟨fun i=>x (tr2 k a i),fun i=>tr2 k a (xi i),fun i hi=>?_,fun i j hi=>?_⟩
  ·have h1:=hx _ (tr2_lt hkn han hi)
   have h2:=hx i hi
   refine ⟨h1.1,tr2_lt hkn han h2.2.1,?_,?_⟩
   ·show tr2 k a (xi (x (tr2 k a i)))=i
    rw [h1.2.2.1,tr2_tr2]
   ·show x (tr2 k a (tr2 k a (xi i)))=i
    rw [tr2_tr2]; exact h2.2.2.2
  ·show sw A' k a i j=A (x (tr2 k a i)) j
   rw [← hA _ j (tr2_lt hkn han hi)]
   unfold sw tr2
   by_cases e1:i=k
   ·rw [if_pos e1,if_pos e1]
   ·rw [if_neg e1,if_neg e1]
    by_cases e2:i=a
    ·rw [if_pos e2,if_pos e2]
    ·rw [if_neg e2,if_neg e2]
 ·obtain ⟨h1,h2⟩:=h.sg
  by_cases hak:a=k
  ·rw [if_pos hak]
   refine ⟨h1,?_⟩
   rw [← h2]
   refine det_congr fun r c _ _=>?_
   unfold sw
   by_cases e:r=k
   ·rw [if_pos e,e,hak]
   ·rw [if_neg e,if_neg (by omega)]
  ·rw [if_neg hak,(det_am n).swap (by omega) han (fun e=>hak e.symm) A',h2]
   exact ⟨by omega,by grind⟩
theorem Bar.det_ok (h:Bar n n A A' col n c sn):det n (Pm_ A' col)=sn*det n A:=by
 have hge:∀ s,s < n→s≤col s:=by
  intro s
  induction s with
  | zero=>intro _; omega
  | succ s ih=>
   intro hs
   have h1:=ih (by omega)
   have h2:=h.asc s (s+1) (by omega) hs
   omega
 have hup:∀ d s,s+d < n→col s+d≤col (s+d):=by
  intro d s
  induction d with
  | zero=>intro _; exact Nat.le_refl _
  | succ d ih=>intro hd; have:=h.asc (s+d) (s+(d+1)) (by omega) (by omega); have:=ih (by omega); omega
 have hid:∀ s,s < n→col s=s:=by
  intro s hs
  have h1:=hge s hs
  have h3:=hup (n - 1 - s) s (by omega)
  have h4:=h.lt (n - 1) (by omega)
  have h5:=h.cw
  rw [show s+(n - 1 - s)=n - 1 by omega] at h3
  omega
 rw [← h.sg.2]
 exact det_congr fun r s hr hs=>by unfold Pm_; rw [hid s hs]
end
end Dt
namespace Dt
section
variable {n w:Nat} {A A':Mx} {col:Nat→Nat} {k c:Nat} {sn:Int}
theorem Bar.span (h:Bar n w A A' col k c sn) {r j:Nat} (hr:r < n) (hj:j < c∨r < k):det k (Pm_ A' col)*A' r j=sm k (fun s=>A' r (col s)*Rk A' col k s j):=by
 by_cases hrk:r < k
 ·have e:sm k (fun s=>A' r (col s)*Rk A' col k s j)=sm k (fun s=>sm k fun t=>Pm_ A' col r s*adj k (Pm_ A' col) s t*A' t j):=sm_congr fun s hs=>by
   rw [Rk_lt hs,← sm_mul]
   exact sm_congr fun t _=>by unfold Pm_; grind
  rw [e,sm_swap]
  have e2:sm k (fun t=>sm k fun s=>Pm_ A' col r s*adj k (Pm_ A' col) s t*A' t j)=sm k (fun t=>if t=r then det k (Pm_ A' col)*A' t j else 0):=sm_congr fun t ht=>by
   rw [sm_mul',mul_adj _ hrk ht]
   by_cases h1:r=t
   ·rw [if_pos h1,if_pos h1.symm]
   ·rw [if_neg h1,if_neg (fun e=>h1 e.symm),Int.zero_mul]
  rw [e2,sm_one (f:=fun t=>det k (Pm_ A' col)*A' t j) hrk]
 ·have hjc:j < c:=by omega
  have h1:=h.zero r j (by omega) hr hjc
  rw [Rk_ge hrk] at h1
  have e:sm k (fun s=>A' r (col s)*Rk A' col k s j)=sm k (fun s=>A' r (col s)*sm k (fun t=>adj k (Pm_ A' col) s t*A' t j)):=sm_congr fun s hs=>by rw [Rk_lt hs]
  rw [e]
  omega
theorem Bar.rows (h:Bar n w A A' col k c sn) {P:(Nat→Int)→Prop} (hP:∀ r,r < n→P (A' r)):∀ r,r < n→P (A r):=by
 obtain ⟨x,xi,hx,hA⟩:=h.perm
 intro r hr
 have h1:=hx r hr
 have e:A' (xi r)=A r:=by funext j; rw [hA _ j h1.2.1,h1.2.2.2]
 rw [← e]
 exact hP _ h1.2.1
theorem Bar.kernel (h:Bar n w A A' col k w sn) {fr:Nat} (hfr:fr < w) (hno:∀ s,s < k→col s≠fr) {v:Nat→Int} (h1:v fr=det k (Pm_ A' col)) (hv:∀ s,s < k→v (col s)= - Rk A' col k s fr) (h0:∀ j,j < w→j≠fr→(∀ s,s < k→col s≠j)→v j=0):∀ r,r < n→sm w (fun j=>A r j*v j)=0:=by
 refine h.rows (P:=fun row=>sm w (fun j=>row j*v j)=0) fun r hr=>?_
 have hinj:∀ s t,s < k→t < k→col s=col t→s=t:=by
  intro s t hs ht e
  rcases Nat.lt_trichotomy s t with h5 | h5 | h5
  ·have:=h.asc s t h5 ht; omega
  ·exact h5
  ·have:=h.asc t s h5 hs; omega
 have hsum:sm w (fun j=>A' r j*v j)=sm w (fun j=>(if j=fr then A' r fr*v fr else 0)+sm k fun s=>if j=col s then A' r (col s)*v (col s) else 0):=by
  refine sm_congr fun j hj=>?_
  by_cases hjf:j=fr
  ·subst hjf
   rw [if_pos rfl,sm_zero (fun s hs=>if_neg (fun e=>hno s hs e.symm))]; omega
  ·rw [if_neg hjf]
   by_cases hp:∃ s,s < k∧col s=j
   ·obtain ⟨s,hs,rfl⟩:=hp
    have e:sm k (fun t=>if col s=col t then A' r (col t)*v (col t) else 0)=sm k (fun t=>if t=s then A' r (col s)*v (col s) else 0):=sm_congr fun t ht=>by
     by_cases hts:t=s
     ·subst hts; rw [if_pos rfl,if_pos rfl]
     ·rw [if_neg (fun e=>hts (hinj t s ht hs e.symm)),if_neg hts]
    rw [e,sm_one (f:=fun _=>A' r (col s)*v (col s)) hs]; omega
   ·rw [h0 j hj hjf (fun s hs e=>hp ⟨s,hs,e⟩),sm_zero (fun s hs=>if_neg (fun e=>hp ⟨s,hs,e.symm⟩))]; simp
 have h2:=h.span (j:=fr) hr (.inl hfr)
 rw [hsum,sm_add,sm_one (f:=fun _=>A' r fr*v fr) hfr]
 have e3:sm w (fun j=>sm k fun s=>if j=col s then A' r (col s)*v (col s) else 0)=sm k (fun s=>A' r (col s)*v (col s)):=by
  rw [sm_swap]
  exact sm_congr fun s hs=>sm_one (f:=fun _=>A' r (col s)*v (col s)) (h.lt s hs)
 have e4:sm k (fun s=>A' r (col s)*v (col s))= -1*sm k (fun s=>A' r (col s)*Rk A' col k s fr):=by
  rw [← sm_mul]
  exact sm_congr fun s hs=>by rw [hv s hs]; grind
 rw [e3,e4,h1,← h2]
 grind
theorem Bar.only (h:Bar n w A A' col w w sn) {v:Nat→Int} (hv:∀ r,r < n→sm w (fun j=>A r j*v j)=0):∀ j,j < w→v j=0:=by
 have hid:∀ s,s < w→col s=s:=by
  have hge:∀ s,s < w→s≤col s:=by
   intro s
   induction s with
   | zero=>intro _; omega
   | succ s ih=>intro hs; have h1:=ih (by omega); have h2:=h.asc s (s+1) (by omega) hs; omega
  have hup:∀ d s,s+d < w→col s+d≤col (s+d):=by
   intro d s
   induction d with
   | zero=>intro _; exact Nat.le_refl _
   | succ d ih=>intro hd; have:=h.asc (s+d) (s+(d+1)) (by omega) (by omega); have:=ih (by omega); omega
  intro s hs
  have h1:=hge s hs
  have h3:=hup (w - 1 - s) s (by omega)
  have h4:=h.lt (w - 1) (by omega)
  rw [show s+(w - 1 - s)=w - 1 by omega] at h3
  omega
 obtain ⟨x,xi,hx,hA⟩:=h.perm
 refine col_zero h.d fun r hr=>?_
 have hrn:r < n:=by have:=h.kn; omega
 rw [← hv (x r) (hx r hrn).1]
 exact sm_congr fun j hj=>by unfold Pm_; rw [hid j hj,hA r j hrn]
end
end Dt
namespace Dt
def Lo (n d:Int):Prop:=0 < d∧Int.gcd n d=1
theorem idvd {d n m:Int} (hg:Int.gcd n d=1) (h:d ∣ n*m):d ∣ m:=by
 refine Int.natAbs_dvd_natAbs.1 (Nat.Coprime.dvd_of_dvd_mul_left (k:=d.natAbs) (m:=n.natAbs) ?_ ?_)
 ·have:Nat.gcd n.natAbs d.natAbs=1:=hg
  exact (Nat.gcd_comm _ _).trans this
 ·rw [← Int.natAbs_mul]; exact Int.natAbs_dvd_natAbs.2 h
def sgcd (a b:Int):Int:=if b < 0 then -(Int.gcd a b:Int) else (Int.gcd a b:Int)
def nrm (a b:Int):Int×Int:=(a / sgcd a b,b / sgcd a b)
theorem Lo.uniq {n d n' d':Int} (h:Lo n d) (h':Lo n' d') (he:n*d'=n'*d):n=n'∧d=d':=by
 have h1:d ∣ d':=by
  have:d ∣ n*d':=⟨n',by rw [he,Int.mul_comm]⟩
  exact idvd h.2 this
 have h2:d' ∣ d:=by
  have:d' ∣ n'*d:=⟨n,by rw [← he,Int.mul_comm]⟩
  exact idvd h'.2 this
 have h3:d=d':=Int.dvd_antisymm (by have:=h.1; omega) (by have:=h'.1; omega) h1 h2
 subst h3
 refine ⟨?_,rfl⟩
 have:=h.1
 exact Int.eq_of_mul_eq_mul_right (by omega) he
theorem sgcd_ne {a b:Int} (hb:b≠0):sgcd a b≠0:=by
 unfold sgcd
 have:Int.gcd a b≠0:=fun h=>hb (Int.eq_zero_of_gcd_eq_zero_right h)
 split<;>omega
theorem sgcd_l (a b:Int):sgcd a b ∣ a:=by
 unfold sgcd
 split
 ·exact Int.neg_dvd.2 (Int.gcd_dvd_left a b)
 ·exact Int.gcd_dvd_left a b
theorem sgcd_r (a b:Int):sgcd a b ∣ b:=by
 unfold sgcd
 split
 ·exact Int.neg_dvd.2 (Int.gcd_dvd_right a b)
 ·exact Int.gcd_dvd_right a b
theorem nrm_ok {a b:Int} (hb:b≠0):Lo (nrm a b).1 (nrm a b).2∧(nrm a b).1*b=a*(nrm a b).2:=by
 have hg:=sgcd_ne (a:=a) hb
 obtain ⟨p,hp⟩:=sgcd_l a b
 obtain ⟨q,hq⟩:=sgcd_r a b
 have e1:a / sgcd a b=p:=by
  conv=>lhs; lhs; rw [hp]
  exact Int.mul_ediv_cancel_left _ hg
 have e2:b / sgcd a b=q:=by
  conv=>lhs; lhs; rw [hq]
  exact Int.mul_ediv_cancel_left _ hg
 have hn:nrm a b=(p,q):=by unfold nrm; rw [e1,e2]
 rw [hn]
 have hgg:(sgcd a b).natAbs=Int.gcd a b:=by unfold sgcd; split<;>simp
 refine ⟨⟨?_,?_⟩,?_⟩
 ·
  have hgp:Int.gcd a b≠0:=fun h=>hb (Int.eq_zero_of_gcd_eq_zero_right h)
  refine Classical.byContradiction fun hno=>?_
  have hq0:q≤0:=by omega
  by_cases hbn:b < 0
  ·have hs:sgcd a b < 0:=by unfold sgcd; rw [if_pos hbn]; omega
   have:=Int.mul_nonneg_of_nonpos_of_nonpos (show sgcd a b≤0 by omega) hq0
   omega
  ·have hs:0≤sgcd a b:=by unfold sgcd; rw [if_neg hbn]; omega
   have:=Int.mul_nonpos_of_nonneg_of_nonpos hs hq0
   omega
 ·have h1:Int.gcd a b=(sgcd a b).natAbs*Int.gcd p q:=by
   have h0:Int.gcd (sgcd a b*p) (sgcd a b*q)=(sgcd a b).natAbs*Int.gcd p q:=Int.gcd_mul_left _ _ _
   rw [← hp,← hq] at h0
   exact h0
  rw [hgg] at h1
  have hgp:0 < Int.gcd a b:=Nat.pos_of_ne_zero fun h=>hb (Int.eq_zero_of_gcd_eq_zero_right h)
  have h2:Int.gcd a b*Int.gcd p q=Int.gcd a b*1:=by omega
  exact Nat.eq_of_mul_eq_mul_left hgp h2
 ·show p*b=a*q
  conv=>lhs; rw [hq]
  conv=>rhs; rw [hp]
  grind
theorem nrm_of {a b n d:Int} (hb:b≠0) (h:Lo n d) (he:n*b=a*d):nrm a b=(n,d):=by
 obtain ⟨h1,h2⟩:=nrm_ok (a:=a) hb
 have h3:(nrm a b).1*d=n*(nrm a b).2:=by
  have h4:b*((nrm a b).1*d - n*(nrm a b).2)=0:=by grind
  rcases Int.mul_eq_zero.1 h4 with h5 | h5
  ·exact absurd h5 hb
  ·omega
 obtain ⟨h4,h5⟩:=h1.uniq h h3
 exact Prod.ext h4 h5
def Vq (n d A D:Int):Prop:=n*D=A*d
theorem minus_ok {xn xd yn yd zn zd wn wd X Y Z W D:Int} (hD:D≠0) (hW:W≠0) (hx:Lo xn xd) (hy:Lo yn yd) (hz:Lo zn zd) (hw:Lo wn wd) (ex:Vq xn xd X D) (ey:Vq yn yd Y D) (ez:Vq zn zd Z D) (ew:Vq wn wd W D):
  wn≠0∧Vq (nrm (xn*(nrm (yn*zn*wd) (yd*zd*wn)).2 - (nrm (yn*zn*wd) (yd*zd*wn)).1*xd) (xd*(nrm (yn*zn*wd) (yd*zd*wn)).2)).1 (nrm (xn*(nrm (yn*zn*wd) (yd*zd*wn)).2 - (nrm (yn*zn*wd) (yd*zd*wn)).1*xd) (xd*(nrm (yn*zn*wd) (yd*zd*wn)).2)).2 (X*W - Y*Z) (D*W):=by
 unfold Vq at*
 have hw0:wn≠0:=by
  intro h
  rw [h,Int.zero_mul] at ew
  rcases Int.mul_eq_zero.1 ew.symm with h1 | h1
  ·exact hW h1
  ·have:=hw.1; omega
 refine ⟨hw0,?_⟩
 have hyd:=hy.1
 have hzd:=hz.1
 have hxd:=hx.1
 have hwd:=hw.1
 have hden:yd*zd*wn≠0:=Int.mul_ne_zero (Int.mul_ne_zero (by omega) (by omega)) hw0
 obtain ⟨p1,p2⟩:=nrm_ok (a:=yn*zn*wd) hden
 generalize nrm (yn*zn*wd) (yd*zd*wn)=p at*
 obtain ⟨pn,pd⟩:=p
 simp only at p1 p2 ⊢
 have hpd:=p1.1
 have hden2:xd*pd≠0:=Int.mul_ne_zero (by omega) (by omega)
 obtain ⟨q1,q2⟩:=nrm_ok (a:=xn*pd - pn*xd) hden2
 generalize nrm (xn*pd - pn*xd) (xd*pd)=q at*
 obtain ⟨qn,qd⟩:=q
 simp only at q1 q2 ⊢
 have hp:pn*(D*W)=Y*Z*pd:=by
  have h0:(yd*zd*wd*D)*(pn*(D*W) - Y*Z*pd)=0:=by
   have a1:pn*(yd*zd*wn)=yn*zn*wd*pd:=p2
   have a2:wn*D=W*wd:=ew
   have a3:yn*D=Y*yd:=ey
   have a4:zn*D=Z*zd:=ez
   have b1:(yd*zd*wd*D)*(pn*(D*W))=(pn*(yd*zd*wn))*D*D*D:=by
    have:W*wd=wn*D:=a2.symm
    grind
   have b2:(yd*zd*wd*D)*(Y*Z*pd)=(yn*zn*wd*pd)*D*D*D:=by grind
   rw [Int.mul_sub,b1,b2,a1]; omega
  rcases Int.mul_eq_zero.1 h0 with h1 | h1
  ·exact absurd h1 (Int.mul_ne_zero (Int.mul_ne_zero (Int.mul_ne_zero (by omega) (by omega)) (by omega)) hD)
  ·omega
 have h0:(xd*pd)*(qn*(D*W) - (X*W - Y*Z)*qd)=0:=by
  have c1:(xd*pd)*(qn*(D*W))=(xn*pd - pn*xd)*qd*(D*W):=by
   have:=q2
   grind
  have c2:(xn*pd - pn*xd)*qd*(D*W)=(xn*D*W*pd - pn*(D*W)*xd)*qd:=by grind
  rw [Int.mul_sub,c1,c2,hp,ex]
  grind
 rcases Int.mul_eq_zero.1 h0 with h1 | h1
 ·exact absurd h1 hden2
 ·omega
end Dt
namespace Dt
end Dt
namespace Dt
def Bd (M x:Int):Prop:=-M≤x∧x≤M
theorem Bd.mono {M N x:Int} (h:Bd M x) (hMN:M≤N):Bd N x:=⟨by have:=h.1; omega,by have:=h.2; omega⟩
theorem Bd.nn {M x:Int} (h:Bd M x):0≤M:=by have:=h.1; have:=h.2; omega
theorem Bd.add {M N x y:Int} (h:Bd M x) (h':Bd N y):Bd (M+N) (x+y):=⟨by have:=h.1; have:=h'.1; omega,by have:=h.2; have:=h'.2; omega⟩
theorem Bd.sub {M N x y:Int} (h:Bd M x) (h':Bd N y):Bd (M+N) (x - y):=⟨by have:=h.1; have:=h'.2; omega,by have:=h.2; have:=h'.1; omega⟩
theorem Bd.neg {M x:Int} (h:Bd M x):Bd M (-x):=⟨by have:=h.2; omega,by have:=h.1; omega⟩
theorem Bd.mul {M N x y:Int} (h:Bd M x) (h':Bd N y):Bd (M*N) (x*y):=by
 have hM:=h.nn
 have hN:=h'.nn
 obtain ⟨a1,a2⟩:=h
 obtain ⟨b1,b2⟩:=h'
 have k1:0≤(M - x)*(N - y):=Int.mul_nonneg (by omega) (by omega)
 have k2:0≤(M+x)*(N+y):=Int.mul_nonneg (by omega) (by omega)
 have k3:0≤(M - x)*(N+y):=Int.mul_nonneg (by omega) (by omega)
 have k4:0≤(M+x)*(N - y):=Int.mul_nonneg (by omega) (by omega)
 have e1:(M - x)*(N - y)=M*N - M*y - x*N+x*y:=by grind
 have e2:(M+x)*(N+y)=M*N+M*y+x*N+x*y:=by grind
 have e3:(M - x)*(N+y)=M*N+M*y - x*N - x*y:=by grind
 have e4:(M+x)*(N - y)=M*N - M*y+x*N - x*y:=by grind
 rw [e1] at k1
 rw [e2] at k2
 rw [e3] at k3
 rw [e4] at k4
 exact ⟨by omega,by omega⟩
theorem sm_bd {n:Nat} {M:Int} {f:Nat→Int} (hM:0≤M) (h:∀ i,i < n→Bd M (f i)):Bd (n*M) (sm n f):=by
 induction n with
 | zero=>exact ⟨by simp [sm],by simp [sm]⟩
 | succ n ih=>
  have h1:=ih fun i hi=>h i (by omega)
  have h2:=(h1.add (h n (by omega)))
  have e:((n+1:Nat):Int)*M=n*M+M:=by rw [Int.natCast_add,Int.add_mul]; simp
  rw [e]; exact h2
theorem nat_le_mul {n K:Nat} {X:Int} (h:n≤K) (hX:0≤X):(n:Int)*X≤K*X:=Int.mul_le_mul_of_nonneg_right (by omega) hX
theorem pow_nn {X:Int} (h:0≤X) (n:Nat):0≤X ^ n:=Int.pow_nonneg h
theorem det_bd {K:Nat} {M:Int} (hM:1≤M):∀ {n:Nat} {A:Mx},n≤K→(∀ i j,i < n→j < n→Bd M (A i j))→Bd ((K*M) ^ n) (det n A)
 | 0,A,_,_=>by rw [Int.pow_zero]; exact ⟨by show (-1:Int)≤1; omega,Int.le_refl _⟩
 | n+1,A,hn,h=>by
  have hK:0≤(K:Int)*M:=Int.mul_nonneg (by omega) (by omega)
  have hp:=pow_nn hK n
  have hMp:0≤M*((K*M) ^ n):=Int.mul_nonneg (by omega) hp
  have h1:∀ j,j < n+1→Bd (M*(K*M) ^ n) (sg j*A 0 j*det n (mn A j)):=by
   intro j hj
   have h2:Bd M (sg j*A 0 j):=by
    have h3:=h 0 j (by omega) hj
    unfold sg
    split
    ·rw [Int.one_mul]; exact h3
    ·have:(-1:Int)*A 0 j= - A 0 j:=by omega
     rw [this]; exact h3.neg
   exact h2.mul (det_bd hM (by omega) fun i k hi hk=>h _ _ (by omega) (sk_lt hj hk))
  have h2:=sm_bd (n:=n+1) hMp h1
  rw [det]
  refine h2.mono ?_
  have h3:=nat_le_mul hn hMp
  rw [Int.pow_succ]
  have e:(K*M) ^ n*(K*M)=K*(M*(K*M) ^ n):=by grind
  rw [e]; exact h3
theorem adj_bd {K:Nat} {M:Int} (hM:1≤M) {n:Nat} {A:Mx} (hn:n≤K) (h:∀ i j,i < n→j < n→Bd M (A i j)) {i j:Nat}:Bd ((K*M) ^ n) (adj n A i j):=by
 unfold adj
 refine det_bd hM hn fun r c hr hc=>?_
 unfold up unit
 split
 ·split
  ·exact ⟨by omega,hM⟩
  ·exact ⟨by omega,by omega⟩
 ·exact h r c hr hc
theorem Rk_bd {K n w:Nat} {M:Int} {A:Mx} {col:Nat→Nat} {k i j:Nat} (hM:1≤M) (hK:1≤K) (hA:∀ i j,i < n→j < w→Bd M (A i j)) (hk:k≤n) (hkK:k≤K) (hc:∀ s,s < k→col s < w) (hi:i < n) (hj:j < w):Bd (2*(K*M) ^ (k+2)) (Rk A col k i j)∧Bd (2*(K*M) ^ (k+2)) (det k (Pm_ A col)):=by
 have hKM:1≤(K:Int)*M:=by
  have:(1:Int)*1≤K*M:=Int.mul_le_mul (by omega) hM (by omega) (by omega)
  omega
 have hp:=pow_nn (show 0≤(K:Int)*M by omega) k
 have hP:∀ r s,r < k→s < k→Bd M (Pm_ A col r s):=fun r s hr hs=>hA _ _ (by omega) (hc s hs)
 have hd:=det_bd hM hkK hP
 have hadj:∀ a b,Bd ((K*M) ^ k) (adj k (Pm_ A col) a b):=fun a b=>adj_bd hM hkK hP
 have hsum:∀ a,Bd ((K*M) ^ (k+1)) (sm k fun t=>adj k (Pm_ A col) a t*A t j):=by
  intro a
  have hpM:0≤(K*M) ^ k*M:=Int.mul_nonneg hp (by omega)
  refine (sm_bd hpM fun t ht=>(hadj a t).mul (hA t j (by omega) hj)).mono ?_
  have h3:=nat_le_mul hkK hpM
  have e:((K:Int)*M) ^ (k+1)=K*((K*M) ^ k*M):=by rw [Int.pow_succ]; grind
  rw [e]; exact h3
 have g1:((K:Int)*M) ^ k≤(K*M) ^ (k+1):=by
  rw [Int.pow_succ]
  have:(K*M) ^ k*1≤(K*M) ^ k*(K*M):=Int.mul_le_mul_of_nonneg_left hKM hp
  omega
 have g2:((K:Int)*M) ^ (k+1)≤(K*M) ^ (k+2):=by
  rw [Int.pow_succ _ (k+1)]
  have:(K*M) ^ (k+1)*1≤(K*M) ^ (k+1)*(K*M):=Int.mul_le_mul_of_nonneg_left hKM (by omega)
  omega
 refine ⟨?_,hd.mono (by omega)⟩
 by_cases hik:i < k
 ·rw [Rk_lt hik]; exact (hsum i).mono (by omega)
 ·rw [Rk_ge hik]
  have h1:Bd ((K*M) ^ k*M) (det k (Pm_ A col)*A i j):=hd.mul (hA i j hi hj)
  have hpM:0≤M*(K*M) ^ (k+1):=Int.mul_nonneg (by omega) (by omega)
  have h2:Bd (k*(M*(K*M) ^ (k+1))) (sm k fun s=>A i (col s)*sm k (fun t=>adj k (Pm_ A col) s t*A t j)):=sm_bd hpM fun s hs=>(hA i (col s) hi (hc s hs)).mul (hsum s)
  refine (h1.sub h2).mono ?_
  have h3:=nat_le_mul hkK hpM
  have e:((K:Int)*M) ^ (k+2)=K*(M*(K*M) ^ (k+1)):=by rw [Int.pow_succ _ (k+1)]; grind
  have h4:(K*M) ^ k*M≤(K*M) ^ k*(K*M):=by
   refine Int.mul_le_mul_of_nonneg_left ?_ hp
   have:1*M≤K*M:=Int.mul_le_mul_of_nonneg_right (by omega) (by omega)
   omega
  have e2:((K:Int)*M) ^ (k+1)=(K*M) ^ k*(K*M):=Int.pow_succ _ _
  omega
end Dt
namespace Dt
def gf (f:Nat→Int):Nat→Int
 | 0=>0
 | n+1=>((Int.gcd (gf f n) (f n):Nat):Int)
theorem gf_dvd (f:Nat→Int):∀ n i,i < n→gf f n ∣ f i
 | 0,i,h=>by omega
 | n+1,i,h=>by
  show ((Int.gcd (gf f n) (f n):Nat):Int) ∣ f i
  by_cases e:i=n
  ·subst e; exact Int.gcd_dvd_right ..
  ·exact Int.dvd_trans (Int.gcd_dvd_left ..) (gf_dvd f n i (by omega))
end Dt
namespace Dt
section
variable {n w:Nat} {A A':Mx} {col:Nat→Nat} {k:Nat} {sn:Int}
theorem Bar.le (h:Bar n w A A' col k w sn):k≤w:=by
 have hge:∀ d s,s+d < k→col s+d≤col (s+d):=by
  intro d s
  induction d with
  | zero=>intro _; exact Nat.le_refl _
  | succ d ih=>intro hd; have:=h.asc (s+d) (s+(d+1)) (by omega) (by omega); have:=ih (by omega); omega
 rcases Nat.eq_zero_or_pos k with h0 | h0
 ·omega
 ·have h1:=hge (k - 1) 0 (by omega)
  have h2:=h.lt (k - 1) (by omega)
  rw [Nat.zero_add] at h1
  omega
end
end Dt
namespace Dt
structure Dz (p:Int):Prop where
 dom:∀ a b:Int,p ∣ a*b→p ∣ a∨p ∣ b
 one:¬ p ∣ 1
 pos:p=0∨2≤p
theorem dz_zero:Dz 0:=⟨fun a b h=>by
 rw [Int.zero_dvd] at h ⊢
 rw [Int.zero_dvd]
 exact Int.mul_eq_zero.1 h,by omega,.inl rfl⟩
theorem homogz {p:Int} (hp:Dz p) (r k:Nat) (A:Mx) (h:r < k):∃ y:Nat→Int,(∃ j,j < k∧¬ p ∣ y j)∧∀ i,i < r→sm k (fun j=>A i j*y j)=0:=by
 rcases hp.pos with rfl | h2
 ·obtain ⟨y,⟨j,hj,hy⟩,h1⟩:=homog r k A h
  exact ⟨y,⟨j,hj,by rw [Int.zero_dvd]; exact hy⟩,h1⟩
 ·exact homog_p r k A h h2
theorem dvd_sm {p:Int}:∀ {n:Nat} {f:Nat→Int},(∀ i,i < n→p ∣ f i)→p ∣ sm n f
 | 0,_,_=>⟨0,by simp [sm]⟩
 | n+1,f,h=>by
  rw [sm]
  exact Int.dvd_add (dvd_sm fun i hi=>h i (by omega)) (h n (by omega))
theorem sm_sub (n:Nat) (f g:Nat→Int):sm n (fun i=>f i - g i)=sm n f - sm n g:=by
 have:=sm_lin n 1 (-1) f g
 rw [show (fun i=>f i - g i)=fun i=>1*f i+ -1*g i from funext fun i=>by omega,this]; omega
theorem dvd_sub' {p a b:Int} (h:p ∣ a - b) (h':p ∣ b):p ∣ a:=by
 have:=Int.dvd_add h h'
 rwa [Int.sub_add_cancel] at this
theorem dvd_sub2 {p a b:Int} (h:p ∣ a - b) (h':p ∣ a):p ∣ b:=by
 have:=Int.dvd_sub h' h
 rwa [show a - (a - b)=b by omega] at this
def Ind (p:Int) (n:Nat) (A:Mx) (cl:Nat→Nat) (k:Nat):Prop:=∀ y:Nat→Int,(∀ r,r < n→p ∣ sm k fun s=>A r (cl s)*y s)→∀ s,s < k→p ∣ y s
structure Rn (p:Int) (n w:Nat) (A:Mx) (col:Nat→Nat) (k:Nat):Prop where
 lt:∀ s,s < k→col s < w
 asc:∀ s t,s < t→t < k→col s < col t
 ind:Ind p n A col k
 span:∃ (d:Int) (L:Mx),¬ p ∣ d∧(∀ r j,r < n→j < w→p ∣ d*A r j - sm k fun s=>A r (col s)*L s j)∧∀ s j,s < k→j < col s→p ∣ L s j
theorem Bar.rn {n w:Nat} {A A':Mx} {col:Nat→Nat} {k:Nat} {sn:Int} (h:Bar n w A A' col k w sn):Rn 0 n w A col k where
 lt:=h.lt
 asc:=h.asc
 ind:=fun y hy s hs=>by
  obtain ⟨x,xi,hx,hxA⟩:=h.perm
  have hkn:=h.kn
  rw [Int.zero_dvd]
  refine col_zero h.d (w:=y) (fun r hr=>?_) s hs
  have:=hy (x r) (hx r (by omega)).1
  rw [Int.zero_dvd] at this
  rw [← this]
  exact sm_congr fun t ht=>by unfold Pm_; rw [hxA r _ (by omega)]
 span:=⟨det k (Pm_ A' col),fun s j=>Rk A' col k s j,by rw [Int.zero_dvd]; exact h.d,fun r j hr hj=>by
  rw [Int.zero_dvd]
  have:=h.rows (P:=fun row=>det k (Pm_ A' col)*row j=sm k fun s=>row (col s)*Rk A' col k s j) (fun r hr=>h.span hr (.inl hj)) r hr
  show det k (Pm_ A' col)*A r j - sm k (fun s=>A r (col s)*Rk A' col k s j)=0
  have e:det k (Pm_ A' col)*A r j=sm k (fun s=>A r (col s)*Rk A' col k s j):=this
  rw [e,Int.sub_self],fun s j hs hj=>by show (0:Int) ∣ Rk A' col k s j; rw [h.lead s j hs hj]; exact ⟨0,by simp⟩⟩
theorem sm_at {w k:Nat} {col:Nat→Nat} (hlt:∀ s,s < k→col s < w) (X y:Nat→Int):sm w (fun c=>X c*sm k fun s=>if c=col s then y s else 0)=sm k fun s=>X (col s)*y s:=by
 have e:sm w (fun c=>X c*sm k fun s=>if c=col s then y s else 0)=sm w (fun c=>sm k fun s=>if c=col s then X (col s)*y s else 0):=sm_congr fun c _=>by
  rw [← sm_mul]
  exact sm_congr fun s _=>by
   by_cases h:c=col s
   ·rw [if_pos h,if_pos h,h]
   ·rw [if_neg h,if_neg h,Int.mul_zero]
 rw [e,sm_swap]
 exact sm_congr fun s hs=>sm_one (f:=fun _=>X (col s)*y s) (hlt s hs)
theorem Rre.rn {p:Int} {n w:Nat} {A M:Mx} {col:Nat→Nat} {k:Nat} (hp:Dz p) (h:Rre p n w M col k w) (hq:Rq p n w A M):Rn p n w A col k where
 lt:=h.lt
 asc:=h.asc
 ind:=fun y hy s hs=>by
  have hkn:=h.kn
  have h1:Nl p n w A (fun c=>sm k fun s=>if c=col s then y s else 0):=fun r hr=>by
   rw [sm_at h.lt]
   have:=hy r hr
   unfold Cg
   rwa [Int.sub_zero]
  have h2:=(hq _).1 h1 s (by omega)
  rw [sm_at h.lt] at h2
  have e:sm k (fun t=>M s (col t)*y t)=sm k (fun t=>if t=s then y t else 0):=sm_congr fun t ht=>by
   rw [h.unit t s ht (by omega)]
   by_cases e:s=t
   ·rw [if_pos e,if_pos e.symm,Int.one_mul]
   ·rw [if_neg e,if_neg (fun x=>e x.symm),Int.zero_mul]
  rw [e,sm_one (f:=y) hs] at h2
  unfold Cg at h2
  rwa [Int.sub_zero] at h2
 span:=⟨1,M,hp.one,fun r j hr hj=>by
  have hkn:=h.kn
  have key:∀ X:Nat→Int,sm w (fun c=>X c*((if c=j then 1 else 0)+sm k fun s=>if c=col s then - M s j else 0))=X j - sm k fun s=>X (col s)*M s j:=fun X=>by
   have e:sm w (fun c=>X c*((if c=j then 1 else 0)+sm k fun s=>if c=col s then - M s j else 0))=sm w (fun c=>(if c=j then X c else 0)+X c*sm k fun s=>if c=col s then - M s j else 0):=sm_congr fun c _=>by
    rw [Int.mul_add]
    congr 1
    by_cases e:c=j
    ·rw [if_pos e,if_pos e,Int.mul_one]
    ·rw [if_neg e,if_neg e,Int.mul_zero]
   rw [e,sm_add,sm_one (f:=X) hj,sm_at h.lt]
   have:sm k (fun s=>X (col s)* - M s j)= -1*sm k (fun s=>X (col s)*M s j):=by
    rw [← sm_mul]
    exact sm_congr fun s _=>by grind
   rw [this]; omega
  have h1:Nl p n w M (fun c=>(if c=j then 1 else 0)+sm k fun s=>if c=col s then - M s j else 0):=fun r hr=>by
   rw [key]
   by_cases hrk:r < k
   ·have e:sm k (fun s=>M r (col s)*M s j)=sm k (fun s=>if s=r then M s j else 0):=sm_congr fun s hs=>by
     rw [h.unit s r hs hr]
     by_cases e:r=s
     ·rw [if_pos e,if_pos e.symm,Int.one_mul]
     ·rw [if_neg e,if_neg (fun x=>e x.symm),Int.zero_mul]
    rw [e,sm_one (f:=fun s=>M s j) hrk,Int.sub_self]; exact .refl _ _
   ·rw [h.zero r j (by omega) hr hj,sm_zero (fun s hs=>by rw [h.unit s r hs hr,if_neg (by omega),Int.zero_mul])]; exact .refl _ _
  have h2:=(hq _).2 h1 r hr
  rw [key] at h2
  unfold Cg at h2
  rwa [Int.sub_zero,← Int.one_mul (A r j)] at h2,fun s j hs hj=>by rw [h.lead s j hs hj]; exact ⟨0,by simp⟩⟩
def Fr (p:Int) (n:Nat) (A:Mx) (j:Nat):Prop:=∃ v:Nat→Int,¬ p ∣ v j∧∀ r,r < n→p ∣ sm (j+1) fun c=>A r c*v c
section
variable {p:Int} {n w:Nat} {A:Mx} {col:Nat→Nat} {k:Nat}
theorem Rn.mem (hp:Dz p) (h:Rn p n w A col k) {j:Nat} (hj:j < w):¬ Fr p n A j↔∃ s,s < k∧col s=j:=by
 obtain ⟨d,L,hd,hL,hl⟩:=h.span
 constructor
 ·intro hf
  refine Classical.byContradiction fun hno=>hf ⟨fun c=>if c=j then d else sm k fun s=>if c=col s then - L s j else 0,by show ¬ p ∣ (if j=j then d else _); rw [if_pos rfl]; exact hd,fun r hr=>?_⟩
  have e:sm (j+1) (fun c=>A r c*(if c=j then d else sm k fun s=>if c=col s then - L s j else 0))=(d*A r j - sm k fun s=>A r (col s)*L s j)+sm k fun s=>if col s < j then 0 else A r (col s)*L s j:=by
   rw [sm,if_pos rfl]
   have e1:sm j (fun c=>A r c*(if c=j then d else sm k fun s=>if c=col s then - L s j else 0))=sm j (fun c=>sm k fun s=>if c=col s then A r c* - L s j else 0):=sm_congr fun c hc=>by
    rw [if_neg (by omega),← sm_mul]
    exact sm_congr fun s _=>by
     by_cases h:c=col s
     ·rw [if_pos h,if_pos h]
     ·rw [if_neg h,if_neg h,Int.mul_zero]
   have e2:sm k (fun s=>sm j fun c=>if c=col s then A r c* - L s j else 0)=sm k (fun s=>if col s < j then -(A r (col s)*L s j) else 0):=sm_congr fun s hs=>by
    by_cases h1:col s < j
    ·rw [if_pos h1,sm_one (f:=fun c=>A r c* - L s j) h1,Int.mul_neg]
    ·rw [if_neg h1]
     exact sm_zero fun c hc=>if_neg (by omega)
   rw [e1,sm_swap,e2]
   have e3:sm k (fun s=>if col s < j then -(A r (col s)*L s j) else 0)=sm k (fun s=>if col s < j then 0 else A r (col s)*L s j) - sm k (fun s=>A r (col s)*L s j):=by
    rw [← sm_sub]
    refine sm_congr fun s _=>?_
    by_cases h1:col s < j
    ·rw [if_pos h1,if_pos h1]; omega
    ·rw [if_neg h1,if_neg h1]; omega
   rw [e3,Int.mul_comm (A r j) d]
   omega
  rw [e]
  refine Int.dvd_add (hL r j hr hj) (dvd_sm fun s hs=>?_)
  by_cases h1:col s < j
  ·rw [if_pos h1]; exact ⟨0,by simp⟩
  ·rw [if_neg h1]
   have h2:j < col s:=by
    have:col s≠j:=fun e=>hno ⟨s,hs,e⟩
    omega
   obtain ⟨q,hq⟩:=hl s j hs h2
   exact ⟨A r (col s)*q,by rw [hq]; grind⟩
 ·rintro ⟨s,hs,rfl⟩ ⟨v,hv,hz⟩
  have hown:p ∣ d - L s (col s):=by
   have:=h.ind (fun t=>(if t=s then d else 0) - L t (col s)) (fun r hr=>by
    have e:sm k (fun t=>A r (col t)*((if t=s then d else 0) - L t (col s)))=d*A r (col s) - sm k fun t=>A r (col t)*L t (col s):=by
     have e1:sm k (fun t=>A r (col t)*((if t=s then d else 0) - L t (col s)))=sm k (fun t=>(if t=s then A r (col t)*d else 0) - A r (col t)*L t (col s)):=sm_congr fun t _=>by
      by_cases e:t=s
      ·rw [if_pos e,if_pos e]; grind
      ·rw [if_neg e,if_neg e]; grind
     rw [e1,sm_sub,sm_one (f:=fun t=>A r (col t)*d) hs,Int.mul_comm]
    rw [e]
    exact hL r (col s) hr hj) s hs
   simp only [if_true] at this
   exact this
  have h1:=h.ind (fun t=>sm (col s+1) fun c=>L t c*v c) (fun r hr=>by
   have e:sm k (fun t=>A r (col t)*sm (col s+1) fun c=>L t c*v c)=sm (col s+1) (fun c=>(sm k fun t=>A r (col t)*L t c)*v c):=by
    have e1:sm k (fun t=>A r (col t)*sm (col s+1) fun c=>L t c*v c)=sm k (fun t=>sm (col s+1) fun c=>A r (col t)*L t c*v c):=sm_congr fun t _=>by
     rw [← sm_mul]; exact sm_congr fun c _=>by grind
    rw [e1,sm_swap]
    exact sm_congr fun c _=>sm_mul' _ _ _
   rw [e]
   have h2:p ∣ d*sm (col s+1) (fun c=>A r c*v c):=by
    obtain ⟨q,hq⟩:=hz r hr
    exact ⟨d*q,by rw [hq]; grind⟩
   refine dvd_sub2 (a:=d*sm (col s+1) (fun c=>A r c*v c)) ?_ h2
   rw [← sm_mul,← sm_sub]
   refine dvd_sm fun c hc=>?_
   obtain ⟨q,hq⟩:=hL r c hr (by omega)
   exact ⟨q*v c,by rw [← Int.mul_assoc p,← hq]; grind⟩) s hs
  rw [sm] at h1
  have h2:p ∣ sm (col s) fun c=>L s c*v c:=dvd_sm fun c hc=>by
   obtain ⟨q,hq⟩:=hl s c hs hc
   exact ⟨q*v c,by rw [hq]; grind⟩
  have h3:p ∣ L s (col s)*v (col s):=by
   have:=Int.dvd_sub h1 h2
   rwa [show ∀ a b:Int,a+b - a=b from fun a b=>by omega] at this
  rcases hp.dom _ _ h3 with h4 | h4
  ·exact hd (dvd_sub' hown h4)
  ·exact hv h4
end
theorem asc_eq:∀ {l m:List Nat},l.Pairwise (· < ·)→m.Pairwise (· < ·)→(∀ x,x∈l↔x∈m)→l=m
 | [],[],_,_,_=>rfl
 | [],b::m,_,_,h=>absurd ((h b).2 List.mem_cons_self) (by simp)
 | a::l,[],_,_,h=>absurd ((h a).1 List.mem_cons_self) (by simp)
 | a::l,b::m,h1,h2,h=>by
  obtain ⟨a1,a2⟩:=List.pairwise_cons.1 h1
  obtain ⟨b1,b2⟩:=List.pairwise_cons.1 h2
  have e:a=b:=by
   rcases List.mem_cons.1 ((h a).1 List.mem_cons_self) with e | e
   ·exact e
   ·rcases List.mem_cons.1 ((h b).2 List.mem_cons_self) with e' | e'
    ·exact e'.symm
    ·have:=a1 b e'; have:=b1 a e; omega
  subst e
  rw [asc_eq a2 b2 fun x=>⟨fun hx=>?_,fun hx=>?_⟩]
  ·rcases List.mem_cons.1 ((h x).1 (List.mem_cons_of_mem _ hx)) with e | e
   ·have:=a1 x hx; omega
   ·exact e
  ·rcases List.mem_cons.1 ((h x).2 (List.mem_cons_of_mem _ hx)) with e | e
   ·have:=b1 x hx; omega
   ·exact e
open Classical in
noncomputable def pvs (p:Int) (n:Nat) (A:Mx) (w:Nat):List Nat:=(List.range w).filter fun j=>decide (¬ Fr p n A j)
theorem range_asc (w:Nat):(List.range w).Pairwise (· < ·):=List.pairwise_lt_range
section
variable {p:Int} {n w:Nat} {A:Mx} {col:Nat→Nat} {k:Nat}
theorem pvs_asc:(pvs p n A w).Pairwise (· < ·):=(range_asc w).filter _
theorem pvs_mem {j:Nat}:j∈pvs p n A w↔j < w∧¬ Fr p n A j:=by unfold pvs; simp
theorem pvs_zero:pvs p n A 0=[]:=rfl
theorem pvs_yes (h:¬ Fr p n A w):pvs p n A (w+1)=pvs p n A w++[w]:=by
 unfold pvs
 rw [List.range_succ,List.filter_append]
 simp [h]
theorem pvs_no (h:Fr p n A w):pvs p n A (w+1)=pvs p n A w:=by
 unfold pvs
 rw [List.range_succ,List.filter_append]
 simp [h]
theorem map_asc (h:∀ s t,s < t→t < k→col s < col t):((List.range k).map col).Pairwise (· < ·):=by
 rw [List.pairwise_map]
 refine (range_asc k).imp_of_mem ?_
 intro a b _ hb hab
 exact h a b hab (List.mem_range.1 hb)
theorem Rn.pvs (hp:Dz p) (h:Rn p n w A col k):(List.range k).map col=pvs p n A w:=by
 refine asc_eq (map_asc h.asc) pvs_asc fun x=>?_
 rw [pvs_mem,List.mem_map]
 constructor
 ·rintro ⟨s,hs,rfl⟩
  have:=List.mem_range.1 hs
  exact ⟨h.lt s this,(h.mem hp (h.lt s this)).2 ⟨s,this,rfl⟩⟩
 ·rintro ⟨h1,h2⟩
  obtain ⟨s,hs,e⟩:=(h.mem hp h1).1 h2
  exact ⟨s,List.mem_range.2 hs,e⟩
theorem Rn.len (hp:Dz p) (h:Rn p n w A col k):k=(Dt.pvs p n A w).length:=by
 rw [← h.pvs hp,List.length_map,List.length_range]
theorem Rn.getD (hp:Dz p) (h:Rn p n w A col k):∀ s,s < k→(Dt.pvs p n A w).getD s 0=col s:=fun s hs=>by
 rw [← h.pvs hp,List.getD_eq_getElem?_getD,List.getElem?_map,List.getElem?_range hs]; rfl
theorem Rn.ex (hp:Dz p):∀ w:Nat,∃ col k,Rn p n w A col k:=by
 intro w
 induction w with
 | zero=>exact ⟨fun _=>0,0,fun s h=>absurd h (by omega),fun s t _ h=>absurd h (by omega),fun y _ s h=>absurd h (by omega),1,fun _ _=>0,hp.one,fun r j _ h=>absurd h (by omega),fun s j h=>absurd h (by omega)⟩
 | succ w ih=>
  obtain ⟨col,k,h⟩:=ih
  obtain ⟨d,L,hd,hL,hl⟩:=h.span
  by_cases hf:Fr p n A w
  ·obtain ⟨v,hv,hz⟩:=hf
   refine ⟨col,k,fun s hs=>by have:=h.lt s hs; omega,h.asc,h.ind,d*v w,fun t c=>if c=w then - sm w (fun c=>L t c*v c) else v w*L t c,fun hc=>?_,fun r j hr hj=>?_,fun s j hs hj=>?_⟩
   ·rcases hp.dom _ _ hc with h1 | h1
    ·exact hd h1
    ·exact hv h1
   ·by_cases hjw:j=w
    ·subst hjw
     simp only [if_true]
     have e:sm k (fun s=>A r (col s)* - sm j (fun c=>L s c*v c))= - sm j (fun c=>(sm k fun s=>A r (col s)*L s c)*v c):=by
      have e1:sm k (fun s=>A r (col s)* - sm j (fun c=>L s c*v c))= -1*sm k (fun s=>sm j fun c=>A r (col s)*L s c*v c):=by
       rw [← sm_mul]
       exact sm_congr fun s _=>by
        rw [show sm j (fun c=>A r (col s)*L s c*v c)=A r (col s)*sm j (fun c=>L s c*v c) from sm_scale j (A r (col s)) (L s) v]; grind
      rw [e1,sm_swap,show sm j (fun c=>sm k fun s=>A r (col s)*L s c*v c)=sm j (fun c=>(sm k fun s=>A r (col s)*L s c)*v c) from sm_congr fun c _=>sm_mul' _ _ _]
      omega
     rw [e]
     have h1:p ∣ d*sm (j+1) (fun c=>A r c*v c):=by
      obtain ⟨q,hq⟩:=hz r hr
      exact ⟨d*q,by rw [hq]; grind⟩
     rw [sm] at h1
     have h2:p ∣ sm j (fun c=>(d*A r c - sm k fun s=>A r (col s)*L s c)*v c):=dvd_sm fun c hc=>by
      obtain ⟨q,hq⟩:=hL r c hr hc
      exact ⟨q*v c,by rw [hq]; grind⟩
     have e2:sm j (fun c=>(d*A r c - sm k fun s=>A r (col s)*L s c)*v c)=d*sm j (fun c=>A r c*v c) - sm j (fun c=>(sm k fun s=>A r (col s)*L s c)*v c):=by
      rw [← sm_mul,← sm_sub]
      exact sm_congr fun c _=>by grind
     rw [e2] at h2
     have h3:=Int.dvd_sub h1 h2
     refine (Int.dvd_neg (a:=p)).1 ?_
     refine (Int.dvd_neg (a:=p)).2 ?_
     rwa [show d*(sm j (fun c=>A r c*v c)+A r j*v j) - (d*sm j (fun c=>A r c*v c) - sm j (fun c=>(sm k fun s=>A r (col s)*L s c)*v c))=d*v j*A r j - -sm j (fun c=>(sm k fun s=>A r (col s)*L s c)*v c) by grind] at h3
    ·simp only [hjw,if_false]
     obtain ⟨q,hq⟩:=hL r j hr (by omega)
     refine ⟨q*v w,?_⟩
     have e:sm k (fun s=>A r (col s)*(v w*L s j))=v w*sm k (fun s=>A r (col s)*L s j):=by
      rw [← sm_mul]; exact sm_congr fun s _=>by grind
     rw [e,← Int.mul_assoc,← hq]; grind
   ·have:=h.lt s hs
    simp only [show j≠w by omega,if_false]
    obtain ⟨q,hq⟩:=hl s j hs hj
    exact ⟨v w*q,by rw [hq]; grind⟩
  ·refine ⟨fun s=>if s=k then w else col s,k+1,fun s hs=>?_,fun s t hs ht=>?_,fun y hy s hs=>?_,d,fun t c=>if t=k then (if c=w then d else 0) else if c=w then 0 else L t c,hd,fun r j hr hj=>?_,fun s j hs hj=>?_⟩
   ·show (if s=k then w else col s) < w+1
    by_cases e:s=k
    ·rw [if_pos e]; omega
    ·rw [if_neg e]; have:=h.lt s (by omega); omega
   ·show (if s=k then w else col s) < (if t=k then w else col t)
    rw [if_neg (show s≠k by omega)]
    by_cases e:t=k
    ·rw [if_pos e]; exact h.lt s (by omega)
    ·rw [if_neg e]; exact h.asc s t hs (by omega)
   ·have hy':∀ r,r < n→p ∣ sm k (fun s=>A r (col s)*y s)+A r w*y k:=fun r hr=>by
     have:=hy r hr
     rw [sm] at this
     simp only [if_true] at this
     rwa [sm_congr (g:=fun s=>A r (col s)*y s) fun s hs=>by rw [if_neg (show s≠k by omega)]] at this
    have hk:p ∣ y k:=Classical.byContradiction fun hno=>hf ⟨fun c=>if c=w then y k else sm k fun s=>if c=col s then y s else 0,by show ¬ p ∣ (if w=w then y k else _); rw [if_pos rfl]; exact hno,fun r hr=>by
     rw [sm]
     simp only [if_true]
     rw [sm_congr (g:=fun c=>A r c*sm k fun s=>if c=col s then y s else 0) fun c hc=>by rw [if_neg (show c≠w by omega)],sm_at h.lt]
     exact hy' r hr⟩
    by_cases e:s=k
    ·rw [e]; exact hk
    ·refine h.ind y (fun r hr=>?_) s (by omega)
     have h1:=hy' r hr
     obtain ⟨q,hq⟩:=hk
     have h2:p ∣ A r w*y k:=⟨A r w*q,by rw [hq]; grind⟩
     have:=Int.dvd_sub h1 h2
     rwa [Int.add_sub_cancel] at this
   ·rw [sm]
    simp only [if_true]
    have e:sm k (fun s=>A r (if s=k then w else col s)*(if s=k then (if j=w then d else 0) else if j=w then 0 else L s j))=sm k (fun s=>A r (col s)*(if j=w then 0 else L s j)):=sm_congr fun s hs=>by
     rw [if_neg (show s≠k by omega),if_neg (show s≠k by omega)]
    rw [e]
    by_cases hjw:j=w
    ·subst hjw
     simp only [if_true,Int.mul_zero]
     rw [sm_zero fun _ _=>rfl]
     exact ⟨0,by grind⟩
    ·simp only [hjw,if_false,Int.mul_zero,Int.add_zero]
     exact hL r j hr (by omega)
   ·show p ∣ (if s=k then (if j=w then d else 0) else if j=w then 0 else L s j)
    have hj:j < (if s=k then w else col s):=hj
    by_cases e:s=k
    ·rw [if_pos e] at hj ⊢
     rw [if_neg (by omega)]; exact ⟨0,by simp⟩
    ·rw [if_neg e] at hj ⊢
     have:=h.lt s (by omega)
     rw [if_neg (by omega)]
     exact hl s j (by omega) hj
noncomputable def pcol (p:Int) (n:Nat) (A:Mx) (w:Nat):Nat→Nat:=fun s=>(Dt.pvs p n A w).getD s 0
theorem Rn.can (hp:Dz p):Rn p n w A (pcol p n A w) (Dt.pvs p n A w).length:=by
 obtain ⟨col,k,h⟩:=Rn.ex (n:=n) (A:=A) hp w
 have e:=h.len hp
 have hc:=h.getD hp
 subst e
 have hI:∀ (r:Nat) (y:Nat→Int),sm (Dt.pvs p n A w).length (fun s=>A r (pcol p n A w s)*y s)=sm (Dt.pvs p n A w).length (fun s=>A r (col s)*y s):=fun r y=>sm_congr fun s hs=>by unfold pcol; rw [hc s hs]
 obtain ⟨d,L,hd,hL,hl⟩:=h.span
 refine ⟨fun s hs=>by unfold pcol; rw [hc s hs]; exact h.lt s hs,fun s t hs ht=>by unfold pcol; rw [hc s (by omega),hc t ht]; exact h.asc s t hs ht,fun y hy=>h.ind y fun r hr=>by rw [← hI]; exact hy r hr,d,L,hd,fun r j hr hj=>?_,fun s j hs hj=>hl s j hs (by unfold pcol at hj; rwa [hc s hs] at hj)⟩
 have e:sm (Dt.pvs p n A w).length (fun s=>A r (pcol p n A w s)*L s j)=sm (Dt.pvs p n A w).length (fun s=>A r (col s)*L s j):=hI r fun s=>L s j
 rw [e]
 exact hL r j hr hj
theorem Ind.le (hp:Dz p) (h:Rn p n w A col k) {cl:Nat→Nat} {m:Nat} (hc:∀ s,s < m→cl s < w) (hi:Ind p n A cl m):m≤k:=by
 refine Classical.byContradiction fun hno=>?_
 obtain ⟨d,L,hd,hL,_⟩:=h.span
 obtain ⟨y,⟨j0,hj0,hy0⟩,hy⟩:=homogz hp k m (fun t s=>L t (cl s)) (by omega)
 refine hy0 (hi y (fun r hr=>?_) j0 hj0)
 have h1:p ∣ d*sm m (fun s=>A r (cl s)*y s):=by
  have h2:p ∣ sm m (fun s=>(d*A r (cl s) - sm k fun t=>A r (col t)*L t (cl s))*y s):=dvd_sm fun s hs=>by
   obtain ⟨q,hq⟩:=hL r (cl s) hr (hc s hs)
   exact ⟨q*y s,by rw [hq]; grind⟩
  have e:sm m (fun s=>(d*A r (cl s) - sm k fun t=>A r (col t)*L t (cl s))*y s)=d*sm m (fun s=>A r (cl s)*y s) - sm m (fun s=>(sm k fun t=>A r (col t)*L t (cl s))*y s):=by
   rw [← sm_mul,← sm_sub]
   exact sm_congr fun s _=>by grind
  have e2:sm m (fun s=>(sm k fun t=>A r (col t)*L t (cl s))*y s)=0:=by
   have e3:sm m (fun s=>(sm k fun t=>A r (col t)*L t (cl s))*y s)=sm m (fun s=>sm k fun t=>A r (col t)*(L t (cl s)*y s)):=sm_congr fun s _=>by
    rw [← sm_mul']; exact sm_congr fun t _=>by grind
   rw [e3,sm_swap]
   exact sm_zero fun t ht=>by rw [sm_mul,hy t ht,Int.mul_zero]
  rwa [e,e2,Int.sub_zero] at h2
 rcases hp.dom _ _ h1 with h3 | h3
 ·exact absurd h3 hd
 ·exact h3
theorem Rn.tp_le (hp:Dz p) (h:Rn p n w A col k) {row:Nat→Nat} {m:Nat} (h':Rn p w n (tp A) row m):k≤m:=by
 refine Classical.byContradiction fun hno=>?_
 obtain ⟨d,L,hd,hL,_⟩:=h'.span
 obtain ⟨y,⟨j0,hj0,hy0⟩,hy⟩:=homogz hp m k (fun t s=>A (row t) (col s)) (by omega)
 refine hy0 (h.ind y (fun i hi=>?_) j0 hj0)
 have h1:p ∣ d*sm k (fun s=>A i (col s)*y s):=by
  have h2:p ∣ sm k (fun s=>(d*A i (col s) - sm m fun t=>A (row t) (col s)*L t i)*y s):=dvd_sm fun s hs=>by
   obtain ⟨q,hq⟩:=hL (col s) i (h.lt s hs) hi
   unfold tp at hq
   exact ⟨q*y s,by rw [hq]; grind⟩
  have e:sm k (fun s=>(d*A i (col s) - sm m fun t=>A (row t) (col s)*L t i)*y s)=d*sm k (fun s=>A i (col s)*y s) - sm k (fun s=>(sm m fun t=>A (row t) (col s)*L t i)*y s):=by
   rw [← sm_mul,← sm_sub]
   exact sm_congr fun s _=>by grind
  have e2:sm k (fun s=>(sm m fun t=>A (row t) (col s)*L t i)*y s)=0:=by
   have e3:sm k (fun s=>(sm m fun t=>A (row t) (col s)*L t i)*y s)=sm k (fun s=>sm m fun t=>L t i*(A (row t) (col s)*y s)):=sm_congr fun s _=>by
    rw [← sm_mul']; exact sm_congr fun t _=>by grind
   rw [e3,sm_swap]
   exact sm_zero fun t ht=>by rw [sm_mul,hy t ht,Int.mul_zero]
  rwa [e,e2,Int.sub_zero] at h2
 rcases hp.dom _ _ h1 with h3 | h3
 ·exact absurd h3 hd
 ·exact h3
theorem rank_tp (hp:Dz p):(Dt.pvs p n A w).length=(Dt.pvs p w (tp A) n).length:=
 Nat.le_antisymm ((Rn.can hp).tp_le hp (Rn.can hp)) ((Rn.can (A:=tp A) hp).tp_le hp (show Rn p n w (tp (tp A)) _ _ from Rn.can hp))
end
end Dt
namespace Dt
section
variable {p:Int} {n w:Nat} {A B:Mx} {k:Nat}
theorem fr_cg (h:∀ r c,r < n→c < w→p ∣ A r c - B r c) {j:Nat} (hj:j < w) (hf:Fr p n A j):Fr p n B j:=by
 obtain ⟨v,hv,hz⟩:=hf
 refine ⟨v,hv,fun r hr=>?_⟩
 refine dvd_sub2 (a:=sm (j+1) fun c=>A r c*v c) ?_ (hz r hr)
 rw [← sm_sub]
 refine dvd_sm fun c hc=>?_
 obtain ⟨q,hq⟩:=h r c hr (by omega)
 exact ⟨q*v c,by rw [← Int.mul_assoc,← hq]; grind⟩
theorem pvs_cg (h:∀ r c,r < n→c < w→p ∣ A r c - B r c):pvs p n A w=pvs p n B w:=by
 refine asc_eq pvs_asc pvs_asc fun x=>?_
 rw [pvs_mem,pvs_mem]
 constructor
 ·rintro ⟨h1,h2⟩
  exact ⟨h1,fun hf=>h2 (fr_cg (fun r c hr hc=>by have:=Int.dvd_neg.2 (h r c hr hc); rwa [Int.neg_sub] at this) h1 hf)⟩
 ·rintro ⟨h1,h2⟩
  exact ⟨h1,fun hf=>h2 (fr_cg h h1 hf)⟩
theorem pvs_le:∀ w,(pvs p n A w).length≤w:=fun w=>by
 have:(pvs p n A w).Sublist (List.range w):=by unfold pvs; exact List.filter_sublist
 have:=this.length_le
 rwa [List.length_range] at this
theorem Ind.nf {cl:Nat→Nat} (h:Ind p n A cl k) {B:Mx} (hB:∀ r s,r < n→s < k→B r s=A r (cl s)) {s:Nat} (hs:s < k):¬ Fr p n B s:=by
 rintro ⟨v,hv,hz⟩
 have:=h (fun t=>if t≤s then v t else 0) (fun r hr=>by
  have e:sm k (fun t=>A r (cl t)*(if t≤s then v t else 0))=sm (s+1) (fun c=>B r c*v c):=by
   have:∀ m,s+1≤m→m≤k→sm m (fun t=>A r (cl t)*(if t≤s then v t else 0))=sm (s+1) (fun c=>B r c*v c):=by
    intro m
    induction m with
    | zero=>intro h _; omega
    | succ m ih=>
     intro h1 h2
     by_cases e:m=s
     ·subst e
      exact sm_congr fun t ht=>by rw [if_pos (by omega),hB r t hr (by omega)]
     ·rw [sm,ih (by omega) (by omega),if_neg (by omega)]; omega
   exact this k (by omega) (Nat.le_refl k)
  rw [e]; exact hz r hr) s hs
 simp only [Nat.le_refl,if_true] at this
 exact hv this
theorem Ind.range {cl:Nat→Nat} (h:Ind p n A cl k) {B:Mx} (hB:∀ r s,r < n→s < k→B r s=A r (cl s)):∀ m,m≤k→pvs p n B m=List.range m:=by
 intro m
 induction m with
 | zero=>intro _; rfl
 | succ m ih=>intro hm; rw [pvs_yes (h.nf hB (by omega)),ih (by omega),List.range_succ]
def sub (A:Mx) (C:List Nat):Mx:=fun r s=>A r (C.getD s 0)
theorem getD_l {C D:List Nat} {s:Nat} (h:s < C.length):(C++D).getD s 0=C.getD s 0:=by
 rw [List.getD_eq_getElem?_getD,List.getD_eq_getElem?_getD,List.getElem?_append_left h]
theorem getD_r {C:List Nat} {j:Nat}:(C++[j]).getD C.length 0=j:=by
 rw [List.getD_eq_getElem?_getD,List.getElem?_append_right (Nat.le_refl _),Nat.sub_self]; rfl
theorem fr_sub (hp:Dz p) {j:Nat}:Fr p n (sub A (pvs p n A j++[j])) (pvs p n A j).length↔Fr p n A j:=by
 have hI:=Rn.can (p:=p) (n:=n) (w:=j) (A:=A) hp
 obtain ⟨d,L,hd,hL,hl⟩:=hI.span
 generalize hk:(pvs p n A j).length=k at hI hL hl
 have hs1:∀ r s,s < k→sub A (pvs p n A j++[j]) r s=A r (pcol p n A j s):=fun r s hs=>by
  unfold sub; rw [getD_l (by omega)]; rfl
 have hs2:∀ r,sub A (pvs p n A j++[j]) r k=A r j:=fun r=>by
  unfold sub; rw [← hk,getD_r]
 constructor
 ·rintro ⟨v,hv,hz⟩
  refine ⟨fun c=>if c=j then v k else sm k fun s=>if c=pcol p n A j s then v s else 0,by show ¬ p ∣ (if j=j then v k else _); rw [if_pos rfl]; exact hv,fun r hr=>?_⟩
  have h1:=hz r hr
  rw [sm,hs2,sm_congr (g:=fun s=>A r (pcol p n A j s)*v s) fun s hs=>by rw [hs1 r s hs]] at h1
  rw [sm]
  simp only [if_true]
  rw [sm_congr (g:=fun c=>A r c*sm k fun s=>if c=pcol p n A j s then v s else 0) fun c hc=>by rw [if_neg (show c≠j by omega)],sm_at hI.lt]
  exact h1
 ·rintro ⟨v,hv,hz⟩
  refine ⟨fun t=>if t=k then d*v j else sm j fun c=>L t c*v c,?_,fun r hr=>?_⟩
  ·show ¬ p ∣ (if k=k then d*v j else _)
   rw [if_pos rfl]
   intro h
   rcases hp.dom _ _ h with h1 | h1
   ·exact hd h1
   ·exact hv h1
  ·rw [sm,hs2]
   simp only [if_true]
   rw [sm_congr (g:=fun t=>sm j fun c=>A r (pcol p n A j t)*L t c*v c) fun t ht=>by rw [if_neg (show t≠k by omega),hs1 r t ht,← sm_mul]; exact sm_congr fun c _=>by grind]
   rw [sm_swap,sm_congr (g:=fun c=>(sm k fun t=>A r (pcol p n A j t)*L t c)*v c) fun c _=>sm_mul' _ _ _]
   have h1:p ∣ d*sm (j+1) (fun c=>A r c*v c):=by
    obtain ⟨q,hq⟩:=hz r hr
    exact ⟨d*q,by rw [hq]; grind⟩
   rw [sm] at h1
   have h2:p ∣ sm j (fun c=>(d*A r c - sm k fun t=>A r (pcol p n A j t)*L t c)*v c):=dvd_sm fun c hc=>by
    obtain ⟨q,hq⟩:=hL r c hr hc
    exact ⟨q*v c,by rw [hq]; grind⟩
   have e2:sm j (fun c=>(d*A r c - sm k fun t=>A r (pcol p n A j t)*L t c)*v c)=d*sm j (fun c=>A r c*v c) - sm j (fun c=>(sm k fun t=>A r (pcol p n A j t)*L t c)*v c):=by
    rw [← sm_mul,← sm_sub]
    exact sm_congr fun c _=>by grind
   rw [e2] at h2
   have h3:=Int.dvd_sub h1 h2
   rwa [show d*(sm j (fun c=>A r c*v c)+A r j*v j) - (d*sm j (fun c=>A r c*v c) - sm j (fun c=>(sm k fun t=>A r (pcol p n A j t)*L t c)*v c))=sm j (fun c=>(sm k fun t=>A r (pcol p n A j t)*L t c)*v c)+A r j*(d*v j) by grind] at h3
theorem sub_pvs (hp:Dz p) {j:Nat}:pvs p n (sub A (pvs p n A j++[j])) (pvs p n A j).length=List.range (pvs p n A j).length:=
 (Rn.can (p:=p) (n:=n) (w:=j) (A:=A) hp).ind.range (fun r s _ hs=>by unfold sub; rw [getD_l hs]; rfl) _ (Nat.le_refl _)
theorem sub_yes (hp:Dz p) {j:Nat} (h:¬ Fr p n A j):(pvs p n (sub A (pvs p n A j++[j])) ((pvs p n A j).length+1)).length=(pvs p n A j).length+1:=by
 rw [pvs_yes (fun hf=>h ((fr_sub hp).1 hf)),sub_pvs hp,List.length_append,List.length_range]; rfl
theorem sub_no (hp:Dz p) {j:Nat} (h:Fr p n A j):(pvs p n (sub A (pvs p n A j++[j])) ((pvs p n A j).length+1)).length=(pvs p n A j).length:=by
 rw [pvs_no ((fr_sub hp).2 h),sub_pvs hp,List.length_range]
theorem minor_ind (hp:Dz p) (hk:(pvs p n A w).length=k):Ind p k (fun r s=>A (pcol p w (tp A) n r) (pcol p n A w s)) (fun s=>s) k:=by
 have h:=Rn.can (p:=p) (n:=n) (w:=w) (A:=A) hp
 have h':=Rn.can (p:=p) (n:=w) (w:=n) (A:=tp A) hp
 have hm:(pvs p w (tp A) n).length=k:=by rw [← rank_tp hp]; exact hk
 rw [hk] at h
 rw [hm] at h'
 obtain ⟨d,L,hd,hL,_⟩:=h'.span
 intro y hy
 refine h.ind y fun i hi=>?_
 have h1:p ∣ d*sm k (fun s=>A i (pcol p n A w s)*y s):=by
  have h2:p ∣ sm k (fun s=>(d*A i (pcol p n A w s) - sm k fun t=>A (pcol p w (tp A) n t) (pcol p n A w s)*L t i)*y s):=dvd_sm fun s hs=>by
   obtain ⟨q,hq⟩:=hL (pcol p n A w s) i (h.lt s hs) hi
   unfold tp at hq
   exact ⟨q*y s,by rw [← Int.mul_assoc,← hq]; rfl⟩
  have e:sm k (fun s=>(d*A i (pcol p n A w s) - sm k fun t=>A (pcol p w (tp A) n t) (pcol p n A w s)*L t i)*y s)=d*sm k (fun s=>A i (pcol p n A w s)*y s) - sm k (fun s=>(sm k fun t=>A (pcol p w (tp A) n t) (pcol p n A w s)*L t i)*y s):=by
   rw [← sm_mul,← sm_sub]
   exact sm_congr fun s _=>by grind
  have h3:p ∣ sm k (fun s=>(sm k fun t=>A (pcol p w (tp A) n t) (pcol p n A w s)*L t i)*y s):=by
   have e3:sm k (fun s=>(sm k fun t=>A (pcol p w (tp A) n t) (pcol p n A w s)*L t i)*y s)=sm k (fun s=>sm k fun t=>L t i*(A (pcol p w (tp A) n t) (pcol p n A w s)*y s)):=sm_congr fun s _=>by
    rw [← sm_mul']; exact sm_congr fun t _=>by grind
   rw [e3,sm_swap]
   exact dvd_sm fun t ht=>by
    rw [sm_mul]
    obtain ⟨q,hq⟩:=hy t ht
    exact ⟨L t i*q,by rw [hq]; grind⟩
  rw [e] at h2
  exact dvd_sub' h2 h3
 rcases hp.dom _ _ h1 with h3 | h3
 ·exact absurd h3 hd
 ·exact h3
theorem Ind.lift (hp:2≤p) {cl:Nat→Nat} (h:Ind p n A cl k):Ind 0 n A cl k:=by
 have key:∀ (d:Nat) (y:Nat→Int),(∀ r,r < n→sm k (fun s=>A r (cl s)*y s)=0)→∀ s,s < k→(y s).natAbs≤d→y s=0:=by
  intro d
  induction d with
  | zero=>exact fun y _ s _ hs=>Int.natAbs_eq_zero.1 (by omega)
  | succ d ih=>
   intro y hy s hs hd
   have hall:=h y (fun r hr=>by rw [hy r hr]; exact ⟨0,by simp⟩)
   have hq:∀ t,t < k→y t=p*(y t / p):=fun t ht=>(Int.mul_ediv_cancel' (hall t ht)).symm
   have h0:=ih (fun t=>y t / p) (fun r hr=>by
    have e:sm k (fun t=>A r (cl t)*y t)=p*sm k (fun t=>A r (cl t)*(y t / p)):=by
     rw [← sm_mul]
     refine sm_congr fun t ht=>?_
     have:=hq t ht
     generalize y t / p=q at*
     rw [this]; grind
    have:=hy r hr
    rw [e] at this
    rcases Int.mul_eq_zero.1 this with h1 | h1
    ·omega
    ·exact h1) s hs
   by_cases hz:y s=0
   ·exact hz
   ·have h1:=hq s hs
    have h2:(y s).natAbs=p.natAbs*(y s / p).natAbs:=by rw [← Int.natAbs_mul,← h1]
    have h3:2*(y s / p).natAbs≤p.natAbs*(y s / p).natAbs:=Nat.mul_le_mul_right _ (by omega)
    have h4:=h0 (by show (y s / p).natAbs≤d; omega)
    have h5:y s / p=0:=h4
    rw [h1,h5]; omega
 intro y hy s hs
 rw [Int.zero_dvd]
 exact key (y s).natAbs y (fun r hr=>by have:=hy r hr; rwa [Int.zero_dvd] at this) s hs (Nat.le_refl _)
theorem Ind.rows {B:Mx} {R:Nat→Nat} {m:Nat} {cl:Nat→Nat} (hR:∀ r,r < m→R r < n) (h:Ind p m (fun r s=>A (R r) (cl s)) (fun s=>s) k):Ind p n A cl k:=
 fun y hy=>h y fun r hr=>hy (R r) (hR r hr)
theorem ends_ind {V:Mx} {m:Nat} {f:Nat→Nat} (hf:∀ i,i < m→f i < w) (ha:∀ i j,i < j→j < m→f i < f j) (hn:∀ i,i < m→V i (f i)≠0) (hz:∀ i c,i < m→f i < c→c < w→V i c=0):Ind 0 w (tp V) (fun s=>s) m:=by
 intro y hy
 have key:∀ d i,i < m→m - 1 - i=d→y i=0:=by
  intro d
  induction d using Nat.strongRecOn with
  | ind d ih=>
   intro i hi hd
   have h1:=hy (f i) (hf i hi)
   rw [Int.zero_dvd] at h1
   have e:sm m (fun s=>tp V (f i) s*y s)=sm m (fun s=>if s=i then V s (f i)*y s else 0):=sm_congr fun s hs=>by
    show V s (f i)*y s=_
    by_cases e:s=i
    ·rw [if_pos e]
    ·rw [if_neg e]
     rcases Nat.lt_or_ge s i with h2 | h2
     ·rw [hz s (f i) hs (ha s i h2 hi) (hf i hi),Int.zero_mul]
     ·rw [ih (m - 1 - s) (by omega) s hs rfl,Int.mul_zero]
   have h2:sm m (fun s=>tp V (f i) s*y s)=0:=h1
   rw [e,sm_one (f:=fun s=>V s (f i)*y s) hi] at h2
   rcases Int.mul_eq_zero.1 h2 with h3 | h3
   ·exact absurd h3 (hn i hi)
   ·exact h3
 intro s hs
 rw [Int.zero_dvd]
 exact key _ s hs rfl
end
end Dt
