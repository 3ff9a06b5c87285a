/- Determinants of integer matrices, by expansion along the first row: linear and alternating in the rows. -/
import Derived.Test.YtpfmbaidflhamaaDoorVcA
import Derived.KernelRfl
set_option linter.unusedVariables false
set_option linter.unusedSimpArgs false
set_option maxHeartbeats 8000000
namespace Dt
def sm:Nat→(Nat→Int)→Int
  | 0,_=>0
  | n+1,f=>sm n f+f n
theorem sm_congr {n:Nat} {f g:Nat→Int} (h:∀ i,i < n→f i=g i):sm n f=sm n g:=by
  induction n with
  | zero=>rfl
  | succ n ih=>rw [sm,sm,ih fun i hi=>h i (by omega),h n (by omega)]
theorem sm_zero {n:Nat} {f:Nat→Int} (h:∀ i,i < n→f i=0):sm n f=0:=by
  induction n with
  | zero=>rfl
  | succ n ih=>rw [sm,ih fun i hi=>h i (by omega),h n (by omega)]; rfl
theorem sm_add (n:Nat) (f g:Nat→Int):sm n (fun i=>f i+g i)=sm n f+sm n g:=by
  induction n with
  | zero=>rfl
  | succ n ih=>simp only [sm,ih]; omega
theorem sm_mul (n:Nat) (c:Int) (f:Nat→Int):sm n (fun i=>c*f i)=c*sm n f:=by
  induction n with
  | zero=>simp [sm]
  | succ n ih=>simp only [sm,ih,Int.mul_add]
theorem sm_mul' (n:Nat) (c:Int) (f:Nat→Int):sm n (fun i=>f i*c)=sm n f*c:=by
  induction n with
  | zero=>simp [sm]
  | succ n ih=>simp only [sm,ih,Int.add_mul]
theorem sm_lin (n:Nat) (s t:Int) (f g:Nat→Int):sm n (fun i=>s*f i+t*g i)=s*sm n f+t*sm n g:=by
  rw [sm_add,sm_mul,sm_mul]
theorem sm_swap (n m:Nat) (f:Nat→Nat→Int):sm n (fun i=>sm m fun j=>f i j)=sm m (fun j=>sm n fun i=>f i j):=by
  induction n with
  | zero=>exact (sm_zero (n:=m) fun _ _=>rfl).symm
  | succ n ih=>simp only [sm]; rw [ih,← sm_add]
theorem sm_one {n a:Nat} {f:Nat→Int} (h:a < n):sm n (fun i=>if i=a then f i else 0)=f a:=by
  induction n with
  | zero=>omega
  | succ n ih=>
    rw [sm]
    by_cases ha:a=n
    · subst ha
      rw [sm_zero (fun i hi=>if_neg (by omega)),if_pos rfl]; omega
    · rw [ih (by omega),if_neg (by omega)]; omega
theorem sm_tri (N:Nat) (F:Nat→Nat→Int):sm (N+1) (fun j=>sm N fun k=>F j k)=sm (N+1) (fun j=>sm j fun k=>F j k+F k (j - 1)):=by
  induction N with
  | zero=>rfl
  | succ N ih=>
    have h1:sm (N+1) (fun j=>sm (N+1) fun k=>F j k)=sm (N+1) (fun j=>sm N fun k=>F j k)+sm (N+1) (fun j=>F j N):=by
      rw [← sm_add]; exact sm_congr fun j _=>rfl
    have h2:∀ G:Nat→Int,sm (N+1+1) G=sm (N+1) G+G (N+1):=fun _=>rfl
    have h3:sm (N+1) (fun k=>F (N+1) k+F k N)=sm (N+1) (fun k=>F (N+1) k)+sm (N+1) (fun k=>F k N):=sm_add _ _ _
    rw [h2,h2 (fun j=>sm j fun k=>F j k+F k (j - 1)),← ih,h1,show N+1 - 1=N from rfl,h3]
    omega
abbrev Mx:=Nat→Nat→Int
def sk (j k:Nat):Nat:=if k < j then k else k+1
def mn (A:Mx) (j:Nat):Mx:=fun r c=>A (r+1) (sk j c)
def sg (j:Nat):Int:=if j % 2=0 then 1 else -1
theorem sg_succ (j:Nat):sg (j+1)= - sg j:=by
  unfold sg
  by_cases h:j % 2=0
  · rw [if_pos h,if_neg (by omega)]
  · rw [if_neg h,if_pos (by omega)]; rfl
def det:Nat→Mx→Int
  | 0,_=>1
  | n+1,A=>sm (n+1) fun j=>sg j*A 0 j*det n (mn A j)
theorem sk_lt {j k n:Nat} (hj:j < n+1) (hk:k < n):sk j k < n+1:=by unfold sk; split<;>omega
theorem det_congr:∀ {n:Nat} {A B:Mx},(∀ i j,i < n→j < n→A i j=B i j)→det n A=det n B
  | 0,_,_,_=>rfl
  | n+1,A,B,h=>by
    rw [det,det]
    refine sm_congr fun j hj=>?_
    rw [h 0 j (by omega) hj,det_congr (A:=mn A j) (B:=mn B j) fun i k hi hk=>h _ _ (by omega) (sk_lt hj hk)]
def up (A:Mx) (i:Nat) (v:Nat→Int):Mx:=fun r c=>if r=i then v c else A r c
theorem mn_up0 (A:Mx) (v:Nat→Int) (j:Nat):mn (up A 0 v) j=mn A j:=by funext r c; simp [mn,up]
theorem mn_up (A:Mx) (i:Nat) (v:Nat→Int) (j:Nat):mn (up A (i+1) v) j=up (mn A j) i (fun c=>v (sk j c)):=by funext r c; simp [mn,up]
theorem det_lin:∀ {n i:Nat} (A:Mx) (s t:Int) (v w:Nat→Int),i < n→det n (up A i (fun c=>s*v c+t*w c))=s*det n (up A i v)+t*det n (up A i w)
  | 0,i,_,_,_,_,_,h=>by omega
  | n+1,0,A,s,t,v,w,_=>by
    rw [det,det,det,← sm_lin]
    refine sm_congr fun j hj=>?_
    rw [mn_up0,mn_up0,mn_up0]
    simp only [up,if_true]
    grind
  | n+1,i+1,A,s,t,v,w,h=>by
    rw [det,det,det,← sm_lin]
    refine sm_congr fun j hj=>?_
    rw [mn_up,mn_up,mn_up,det_lin (mn A j) s t (fun c=>v (sk j c)) (fun c=>w (sk j c)) (by omega)]
    simp only [up,show ¬ (0=i+1) by omega,if_false]
    grind
theorem mn_mn {A:Mx} {j k:Nat} (h:k < j):∀ r c,mn (mn A j) k r c=mn (mn A k) (j - 1) r c:=by
  intro r c
  simp only [mn]
  congr 1
  unfold sk
  split<;>split<;>(try split)<;>(try split)<;>omega
theorem det_adj:∀ {n i:Nat} {A:Mx},i+1 < n→(∀ c,c < n→A i c=A (i+1) c)→det n A=0
  | 0,_,_,h,_=>by omega
  | 1,_,_,h,_=>by omega
  | n+2,0,A,h,he=>by
    have h1:det (n+2) A=sm (n+2) fun j=>sm (n+1) fun k=>(sg j*sg k)*(A 0 j*A 1 (sk j k))*det n (mn (mn A j) k):=by
      rw [det]
      refine sm_congr fun j hj=>?_
      rw [det,← sm_mul]
      refine sm_congr fun k hk=>?_
      have:mn A j 0 k=A 1 (sk j k):=rfl
      rw [this]
      grind
    rw [h1,sm_tri]
    refine sm_zero fun j hj=>sm_zero fun k hk=>?_
    have hd:det n (mn (mn A j) k)=det n (mn (mn A k) (j - 1)):=det_congr fun r c _ _=>mn_mn hk r c
    have e1:sk j k=k:=by unfold sk; rw [if_pos hk]
    have e2:sk k (j - 1)=j:=by unfold sk; rw [if_neg (by omega)]; omega
    have e3:sg j= - sg (j - 1):=by
      have:=sg_succ (j - 1)
      rwa [show j - 1+1=j by omega] at this
    rw [hd,e1,e2,← he k (by omega),← he j hj,e3]
    grind
  | n+2,i+1,A,h,he=>by
    rw [det]
    refine sm_zero fun j hj=>?_
    rw [det_adj (i:=i) (A:=mn A j) (by omega) (fun c hc=>he _ (sk_lt hj hc)),Int.mul_zero]
structure Am (n:Nat) (D:Mx→Int):Prop where
  congr:∀ A B,(∀ i j,i < n→j < n→A i j=B i j)→D A=D B
  lin:∀ A i (s t:Int) v w,i < n→D (up A i (fun c=>s*v c+t*w c))=s*D (up A i v)+t*D (up A i w)
  adj:∀ A i,i+1 < n→(∀ c,c < n→A i c=A (i+1) c)→D A=0
theorem det_am (n:Nat):Am n (det n):=⟨fun A B h=>det_congr h,fun A i s t v w h=>det_lin A s t v w h,fun A i h he=>det_adj h he⟩
theorem up_self (A:Mx) (i:Nat):up A i (A i)=A:=by funext r c; simp only [up]; split<;>simp_all
theorem up_up (A:Mx) (i:Nat) (v w:Nat→Int):up (up A i v) i w=up A i w:=by funext r c; simp only [up]; split<;>rfl
theorem up_comm (A:Mx) {i k:Nat} (h:i≠k) (v w:Nat→Int):up (up A i v) k w=up (up A k w) i v:=by
  funext r c; simp only [up]; by_cases h1:r=k<;>by_cases h2:r=i<;>simp [h1,h2]<;>omega
def sw (A:Mx) (i k:Nat):Mx:=fun r c=>if r=i then A k c else if r=k then A i c else A r c
section
variable {n:Nat} {D:Mx→Int}
theorem Am.add (h:Am n D) (A:Mx) {i:Nat} (hi:i < n) (v w:Nat→Int):D (up A i (fun c=>v c+w c))=D (up A i v)+D (up A i w):=by
  have:=h.lin A i 1 1 v w hi
  simpa using this
theorem Am.sw_of (h:Am n D) {i k:Nat} (hi:i < n) (hk:k < n) (hik:i≠k) (he:∀ A,(∀ c,c < n→A i c=A k c)→D A=0) (A:Mx):D (sw A i k)= - D A:=by
  let u:=A i
  let v:=A k
  let F:(Nat→Int)→(Nat→Int)→Mx:=fun x y=>up (up A i x) k y
  have hz:∀ x,D (F x x)=0:=fun x=>he _ (fun c _=>by simp [F,up,hik])
  have hl:∀ x y z,D (F (fun c=>x c+y c) z)=D (F x z)+D (F y z):=by
    intro x y z
    simp only [F]
    rw [up_comm A hik,up_comm A hik,up_comm A hik,h.add _ hi]
  have hr:∀ x y z,D (F z (fun c=>x c+y c))=D (F z x)+D (F z y):=fun x y z=>h.add _ hk _ _
  have h0:=hz (fun c=>u c+v c)
  rw [hl,hr,hr,hz,hz] at h0
  have e1:D (F u v)=D A:=h.congr _ _ fun r c _ _=>by
    simp only [F,up]; split
    · rename_i h; subst h; rfl
    · split
      · rename_i h; subst h; rfl
      · rfl
  have e2:D (F v u)=D (sw A i k):=h.congr _ _ fun r c _ _=>by
    simp only [F,up,sw]
    by_cases h1:r=k
    · rw [if_pos h1,if_neg (by omega),if_pos h1]
    · rw [if_neg h1]
      by_cases h2:r=i
      · rw [if_pos h2,if_pos h2]
      · rw [if_neg h2,if_neg h2,if_neg h1]
  omega
theorem Am.eq (h:Am n D):∀ (d i:Nat) (A:Mx),i+d+1 < n→(∀ c,c < n→A i c=A (i+d+1) c)→D A=0:=by
  intro d
  induction d with
  | zero=>exact fun i A hi he=>h.adj A i hi he
  | succ d ih=>
    intro i A hi he
    have hs:=h.sw_of (i:=i+d+1) (k:=i+d+2) (by omega) (by omega) (by omega) (fun B hB=>h.adj B (i+d+1) (by omega) hB) A
    have hz:=ih i (sw A (i+d+1) (i+d+2)) (by omega) (fun c hc=>by
      simp only [sw]
      rw [if_neg (by omega),if_neg (by omega)]
      simp only [if_true]
      exact he c hc)
    rw [hz] at hs
    omega
theorem Am.equal (h:Am n D) {i k:Nat} (hi:i < n) (hk:k < n) (hik:i≠k) (A:Mx) (he:∀ c,c < n→A i c=A k c):D A=0:=by
  by_cases hlt:i < k
  · have:=h.eq (k - i - 1) i A (by omega) (fun c hc=>by rw [show i+(k - i - 1)+1=k by omega]; exact he c hc)
    exact this
  · have:=h.eq (i - k - 1) k A (by omega) (fun c hc=>by rw [show k+(i - k - 1)+1=i by omega]; exact (he c hc).symm)
    exact this
theorem Am.swap (h:Am n D) {i k:Nat} (hi:i < n) (hk:k < n) (hik:i≠k) (A:Mx):D (sw A i k)= - D A:=
  h.sw_of hi hk hik (fun B hB=>h.equal hi hk hik B hB) A
theorem Am.addrow (h:Am n D) {i k:Nat} (hi:i < n) (hk:k < n) (hik:i≠k) (A:Mx) (t:Int):D (up A i (fun c=>A i c+t*A k c))=D A:=by
  have h1:=h.lin A i 1 t (A i) (A k) hi
  have h2:D (up A i (A k))=0:=h.equal hi hk hik _ (fun c _=>by simp [up,Ne.symm hik])
  rw [h2,up_self] at h1
  simpa using h1
theorem Am.scale (h:Am n D) {i:Nat} (hi:i < n) (A:Mx) (t:Int):D (up A i (fun c=>t*A i c))=t*D A:=by
  have h1:=h.lin A i t 0 (A i) (A i) hi
  rw [up_self] at h1
  simpa using h1
theorem Am.zero (h:Am n D) {i:Nat} (hi:i < n) (A:Mx) (he:∀ c,c < n→A i c=0):D A=0:=by
  have h1:=h.scale hi A 0
  have h2:D (up A i (fun c=>0*A i c))=D A:=h.congr _ _ fun r c hr hc=>by
    simp only [up]; split
    · rename_i e; subst e; rw [he c hc]; rfl
    · rfl
  rw [h2] at h1
  simpa using h1
theorem Am.sum (h:Am n D) {i:Nat} (hi:i < n) (A:Mx):∀ (m:Nat) (x:Nat→Int) (V:Nat→Nat→Int),D (up A i (fun c=>sm m fun j=>x j*V j c))=sm m fun j=>x j*D (up A i (V j)):=by
  intro m x V
  induction m with
  | zero=>exact h.zero hi _ (fun c _=>by simp [up,sm])
  | succ m ih=>
    simp only [sm]
    rw [h.add A hi (fun c=>sm m fun j=>x j*V j c) (fun c=>x m*V m c),ih]
    congr 1
    have:=h.lin A i (x m) 0 (V m) (V m) hi
    simpa using this
end
end Dt
namespace Dt
def one:Mx:=fun r c=>if r=c then 1 else 0
def unit (j:Nat):Nat→Int:=fun c=>if c=j then 1 else 0
def ins (j:Nat) (M:Mx):Mx:=fun r c=>if r=0 then unit j c else if c=j then 0 else M (r - 1) (if c < j then c else c - 1)
theorem ins_up (j:Nat) (M:Mx) (i:Nat) (v:Nat→Int):ins j (up M i v)=up (ins j M) (i+1) (fun c=>if c=j then 0 else v (if c < j then c else c - 1)):=by
  funext r c
  unfold ins up
  by_cases h0:r=0
  · subst h0; simp
  · by_cases h1:r=i+1
    · subst h1; simp
    · simp only [h0,h1,if_false]
      by_cases h2:c=j
      · rw [if_pos h2,if_pos h2]
      · rw [if_neg h2,if_neg h2,if_neg (by omega)]
theorem ins_am {n:Nat} {D:Mx→Int} (h:Am (n+1) D) {j:Nat} (hj:j < n+1):Am n fun M=>D (ins j M):=by
  refine ⟨fun A B he=>h.congr _ _ fun r c hr hc=>?_,fun A i s t v w hi=>?_,fun A i hi he=>?_⟩
  · unfold ins
    by_cases h0:r=0
    · rw [if_pos h0,if_pos h0]
    · rw [if_neg h0,if_neg h0]
      by_cases h2:c=j
      · rw [if_pos h2,if_pos h2]
      · rw [if_neg h2,if_neg h2]
        refine he _ _ (by omega) ?_
        split<;>omega
  · simp only [ins_up]
    have:=h.lin (ins j A) (i+1) s t (fun c=>if c=j then 0 else v (if c < j then c else c - 1)) (fun c=>if c=j then 0 else w (if c < j then c else c - 1)) (by omega)
    rw [← this]
    congr 2
    funext c
    split
    · simp
    · rfl
  · refine h.adj (ins j A) (i+1) (by omega) fun c hc=>?_
    have e:∀ r,r≠0→ins j A r c=if c=j then 0 else A (r - 1) (if c < j then c else c - 1):=fun r hr=>by unfold ins; rw [if_neg hr]
    rw [e _ (by omega),e _ (by omega)]
    by_cases h2:c=j
    · rw [if_pos h2,if_pos h2]
    · rw [if_neg h2,if_neg h2]
      exact he _ (by split<;>omega)
def addm (A:Mx) (x:Nat→Int) (m:Nat):Mx:=fun r c=>if 0 < r∧r < m then A r c+x r*A 0 c else A r c
theorem addm_in {A:Mx} {x:Nat→Int} {m r c:Nat} (h:0 < r∧r < m):addm A x m r c=A r c+x r*A 0 c:=by unfold addm; rw [if_pos h]
theorem addm_out {A:Mx} {x:Nat→Int} {m r c:Nat} (h:¬ (0 < r∧r < m)):addm A x m r c=A r c:=by unfold addm; rw [if_neg h]
theorem up_in {A:Mx} {i c:Nat} {v:Nat→Int}:up A i v i c=v c:=by unfold up; rw [if_pos rfl]
theorem up_out {A:Mx} {i r c:Nat} {v:Nat→Int} (h:r≠i):up A i v r c=A r c:=by unfold up; rw [if_neg h]
theorem Am.addm {n:Nat} {D:Mx→Int} (h:Am n D) (A:Mx) (x:Nat→Int):∀ m,m≤n→D (addm A x m)=D A:=by
  intro m
  induction m with
  | zero=>exact fun _=>h.congr _ _ fun r c _ _=>addm_out (by omega)
  | succ m ih=>
    intro hm
    rw [← ih (by omega)]
    by_cases h0:m=0
    · subst h0
      exact h.congr _ _ fun r c _ _=>by rw [addm_out (by omega),addm_out (by omega)]
    · have:=h.addrow (i:=m) (k:=0) (by omega) (by omega) h0 (Dt.addm A x m) (x m)
      rw [← this]
      refine h.congr _ _ fun r c _ _=>?_
      by_cases hr:r=m
      · subst hr
        rw [addm_in (by omega),up_in,addm_out (by omega),addm_out (by omega)]
      · rw [up_out hr]
        by_cases h1:0 < r∧r < m
        · rw [addm_in (by omega),addm_in h1]
        · rw [addm_out (by omega),addm_out h1]
theorem if_iff {p q:Prop} [Decidable p] [Decidable q] (h:p↔q):(if p then (1:Int) else 0)=if q then 1 else 0:=by
  by_cases hp:p
  · rw [if_pos hp,if_pos (h.1 hp)]
  · rw [if_neg hp,if_neg (fun hq=>hp (h.2 hq))]
theorem ins_one (j r c:Nat):ins j one r c=if (r=0∧c=j)∨(0 < r∧r≤j∧c+1=r)∨(j < r∧c=r) then 1 else 0:=by
  unfold ins one unit
  by_cases h0:r=0
  · rw [if_pos h0]
    exact if_iff (by omega)
  · rw [if_neg h0]
    by_cases h1:c=j
    · rw [if_pos h1,if_neg (by omega)]
    · rw [if_neg h1]
      by_cases h2:c < j
      · rw [if_pos h2]; exact if_iff (by omega)
      · rw [if_neg h2]; exact if_iff (by omega)
theorem det_ins_one {n:Nat} {D:Mx→Int} (h:Am (n+1) D):∀ j,j < n+1→D (ins j one)=sg j*D one:=by
  intro j
  induction j with
  | zero=>
    intro _
    rw [show sg 0=1 from rfl,Int.one_mul]
    refine h.congr _ _ fun r c _ _=>?_
    rw [ins_one]
    unfold one
    exact if_iff (by omega)
  | succ j ih=>
    intro hj
    have hs:=h.swap (i:=0) (k:=j+1) (by omega) hj (by omega) (ins j one)
    rw [ih (by omega)] at hs
    rw [sg_succ,Int.neg_mul,← hs]
    refine h.congr _ _ fun r c _ _=>?_
    show ins (j+1) one r c=if r=0 then ins j one (j+1) c else if r=j+1 then ins j one 0 c else ins j one r c
    by_cases h0:r=0
    · rw [if_pos h0,ins_one,ins_one]; exact if_iff (by omega)
    · rw [if_neg h0]
      by_cases h1:r=j+1
      · rw [if_pos h1,ins_one,ins_one]; exact if_iff (by omega)
      · rw [if_neg h1,ins_one,ins_one]; exact if_iff (by omega)
theorem Am.uniq:∀ {n:Nat} {D:Mx→Int},Am n D→∀ A,D A=det n A*D one
  | 0,D,h,A=>by
    rw [det,Int.one_mul]
    exact h.congr _ _ fun r c hr _=>by omega
  | n+1,D,h,A=>by
    have h0:D A=sm (n+1) fun j=>A 0 j*D (up A 0 (unit j)):=by
      rw [← h.sum (by omega) A (n+1) (A 0) unit]
      refine h.congr _ _ fun r c hr hc=>?_
      simp only [up]
      split
      · rename_i e
        subst e
        have:=sm_one (n:=n+1) (a:=c) (f:=A 0) hc
        rw [← this]
        refine sm_congr fun i hi=>?_
        unfold unit
        by_cases e:i=c
        · rw [if_pos e,if_pos e.symm,Int.mul_one]
        · rw [if_neg e,if_neg (fun e'=>e e'.symm),Int.mul_zero]
      · rfl
    rw [h0,det,← sm_mul']
    refine sm_congr fun j hj=>?_
    have h1:D (up A 0 (unit j))=D (ins j (mn A j)):=by
      rw [← h.addm (ins j (mn A j)) (fun r=>A r j) (n+1) (by omega)]
      refine h.congr _ _ fun r c hr hc=>?_
      unfold Dt.addm up
      by_cases e0:r=0
      · subst e0
        rw [if_pos rfl,if_neg (by omega)]
        unfold ins
        rw [if_pos rfl]
      · rw [if_neg e0,if_pos (by omega)]
        unfold ins mn
        simp only [if_true,if_neg e0]
        unfold unit
        by_cases e:c=j
        · subst e; rw [if_pos rfl,if_pos rfl]; omega
        · rw [if_neg e,if_neg e,show r - 1+1=r by omega]
          unfold sk
          by_cases e2:c < j
          · rw [if_pos e2,if_pos e2]; omega
          · rw [if_neg e2,if_neg (by omega),show c - 1+1=c by omega]; omega
    have h2:D (ins j (mn A j))=det n (mn A j)*D (ins j one):=Am.uniq (ins_am h hj) (mn A j)
    rw [h1,h2,det_ins_one h j hj]
    grind
theorem det_one:∀ n,det n one=1
  | 0=>rfl
  | n+1=>by
    have h1:det (n+1) one=sm (n+1) fun j=>if j=0 then det n (mn one 0) else 0:=by
      rw [det]
      refine sm_congr fun j hj=>?_
      unfold one
      by_cases h:j=0
      · subst h; simp [sg]
      · rw [if_neg (by omega),if_neg h]; simp
    rw [h1,sm_one (f:=fun _=>det n (mn one 0)) (by omega),← det_one n]
    refine det_congr fun r c _ _=>?_
    unfold mn one
    have:sk 0 c=c+1:=rfl
    rw [this]
    exact if_iff (by omega)
def mul (n:Nat) (A B:Mx):Mx:=fun r c=>sm n fun k=>A r k*B k c
theorem mul_up (n:Nat) (A B:Mx) (i:Nat) (v:Nat→Int):mul n (up A i v) B=up (mul n A B) i (fun c=>sm n fun k=>v k*B k c):=by
  funext r c
  unfold mul up
  by_cases h:r=i
  · simp only [if_pos h]
  · simp only [if_neg h]
theorem mul_am (n:Nat) (B:Mx):Am n fun A=>det n (mul n A B):=by
  refine ⟨fun A C he=>det_congr fun r c hr hc=>sm_congr fun k hk=>by rw [he r k hr hk],fun A i s t v w hi=>?_,fun A i hi he=>?_⟩
  · simp only [mul_up]
    rw [← det_lin _ s t _ _ hi]
    congr 2
    funext c
    rw [← sm_lin]
    refine sm_congr fun k _=>?_
    grind
  · refine det_adj hi fun c hc=>sm_congr fun k hk=>by rw [he k hk]
theorem one_mul {n:Nat} {B:Mx} {r c:Nat} (hr:r < n):mul n one B r c=B r c:=by
  unfold mul
  rw [← sm_one (f:=fun k=>B k c) hr]
  refine sm_congr fun k hk=>?_
  unfold one
  by_cases h:r=k
  · rw [if_pos h,if_pos h.symm,Int.one_mul]
  · rw [if_neg h,if_neg (fun e=>h e.symm),Int.zero_mul]
theorem det_mul (n:Nat) (A B:Mx):det n (mul n A B)=det n A*det n B:=by
  have h:det n (mul n A B)=det n A*det n (mul n one B):=(mul_am n B).uniq A
  rw [h]
  congr 1
  exact det_congr fun r c hr hc=>one_mul hr
def tp (A:Mx):Mx:=fun r c=>A c r
theorem det_col_lin:∀ {n i:Nat} (A:Mx) (s t:Int) (v w:Nat→Int),i < n→det n (tp (up (tp A) i (fun c=>s*v c+t*w c)))=s*det n (tp (up (tp A) i v))+t*det n (tp (up (tp A) i w))
  | 0,i,_,_,_,_,_,h=>by omega
  | n+1,i,A,s,t,v,w,h=>by
    rw [det,det,det,← sm_lin]
    refine sm_congr fun j hj=>?_
    by_cases hji:j=i
    · subst hji
      have e:∀ x,mn (tp (up (tp A) j x)) j=mn A j:=by
        intro x
        funext r c
        simp only [mn,tp,up]
        rw [if_neg]
        unfold sk
        split<;>omega
      rw [e,e,e]
      simp only [tp,up,if_true]
      grind
    ·
      have e:∀ x,mn (tp (up (tp A) i x)) j=tp (up (tp (mn A j)) (if i < j then i else i - 1) (fun c=>x (c+1))):=by
        intro x
        funext r c
        simp only [mn,tp,up]
        have:(sk j c=i)↔(c=if i < j then i else i - 1):=by
          unfold sk
          split<;>split<;>omega
        by_cases h1:sk j c=i
        · rw [if_pos h1,if_pos (this.1 h1)]
        · rw [if_neg h1,if_neg (fun h2=>h1 (this.2 h2))]
      rw [e,e,e,det_col_lin (mn A j) s t (fun c=>v (c+1)) (fun c=>w (c+1)) (by split<;>omega)]
      have e2:∀ x,tp (up (tp A) i x) 0 j=A 0 j:=by
        intro x
        simp only [tp,up]
        rw [if_neg hji]
      rw [e2,e2,e2]
      grind
theorem det_col_adj:∀ {n i:Nat} {A:Mx},i+1 < n→(∀ r,r < n→A r i=A r (i+1))→det n A=0
  | 0,_,_,h,_=>by omega
  | n+1,i,A,h,he=>by
    have hz:∀ j,j < n+1→j≠i→j≠i+1→det n (mn A j)=0:=by
      intro j hj h1 h2
      refine det_col_adj (i:=if i < j then i else i - 1) (by split<;>omega) fun r hr=>?_
      simp only [mn]
      have e1:sk j (if i < j then i else i - 1)=i:=by unfold sk; split<;>(try split)<;>omega
      have e2:sk j ((if i < j then i else i - 1)+1)=i+1:=by unfold sk; split<;>(try split)<;>omega
      rw [e1,e2]
      exact he _ (by omega)
    have hm:det n (mn A i)=det n (mn A (i+1)):=by
      refine det_congr fun r c hr hc=>?_
      simp only [mn]
      unfold sk
      by_cases h1:c < i
      · rw [if_pos h1,if_pos (by omega)]
      · rw [if_neg h1]
        by_cases h2:c=i
        · subst h2; rw [if_pos (by omega)]; exact (he _ (by omega)).symm
        · rw [if_neg (by omega)]
    rw [det]
    have hs:sm (n+1) (fun j=>sg j*A 0 j*det n (mn A j))=sm (n+1) (fun j=>(if j=i then sg i*A 0 i*det n (mn A i) else 0)+(if j=i+1 then sg (i+1)*A 0 (i+1)*det n (mn A (i+1)) else 0)):=by
      refine sm_congr fun j hj=>?_
      by_cases h1:j=i
      · subst h1; rw [if_pos rfl,if_neg (by omega)]; omega
      · by_cases h2:j=i+1
        · subst h2; rw [if_neg h1,if_pos rfl]; omega
        · rw [if_neg h1,if_neg h2,hz j hj h1 h2]; simp
    rw [hs,sm_add,sm_one (f:=fun _=>sg i*A 0 i*det n (mn A i)) (by omega),sm_one (f:=fun _=>sg (i+1)*A 0 (i+1)*det n (mn A (i+1))) h,sg_succ,hm,← he 0 (by omega)]
    grind
theorem tp_am (n:Nat):Am n fun A=>det n (tp A):=by
  refine ⟨fun A B he=>det_congr fun r c hr hc=>he c r hc hr,fun A i s t v w hi=>?_,fun A i hi he=>det_col_adj hi fun r hr=>he r hr⟩
  exact det_col_lin (tp A) s t v w hi
theorem det_tp (n:Nat) (A:Mx):det n (tp A)=det n A:=by
  have h:det n (tp A)=det n A*det n (tp one):=(tp_am n).uniq A
  rw [h]
  have:det n (tp one)=1:=by
    rw [← det_one n]
    exact det_congr fun r c _ _=>by unfold tp one; exact if_iff (by omega)
  rw [this,Int.mul_one]
end Dt
namespace Dt
def adds (A:Mx) (k:Nat) (x:Nat→Int) (m:Nat):Mx:=fun r c=>if r≠k∧r < m then A r c+x r*A k c else A r c
theorem adds_in {A:Mx} {x:Nat→Int} {k m r c:Nat} (h:r≠k∧r < m):adds A k x m r c=A r c+x r*A k c:=by unfold adds; rw [if_pos h]
theorem adds_out {A:Mx} {x:Nat→Int} {k m r c:Nat} (h:¬ (r≠k∧r < m)):adds A k x m r c=A r c:=by unfold adds; rw [if_neg h]
theorem Am.adds {n:Nat} {D:Mx→Int} (h:Am n D) (A:Mx) {k:Nat} (hk:k < n) (x:Nat→Int):∀ m,m≤n→D (adds A k x m)=D A:=by
  intro m
  induction m with
  | zero=>exact fun _=>h.congr _ _ fun r c _ _=>adds_out (by omega)
  | succ m ih=>
    intro hm
    rw [← ih (by omega)]
    by_cases h0:m=k
    · subst h0
      refine h.congr _ _ fun r c _ _=>?_
      by_cases h1:r≠m∧r < m+1
      · rw [adds_in h1,adds_in (by omega)]
      · rw [adds_out h1,adds_out (by omega)]
    · have:=h.addrow (i:=m) (k:=k) (by omega) hk h0 (Dt.adds A k x m) (x m)
      rw [← this]
      refine h.congr _ _ fun r c _ _=>?_
      by_cases hr:r=m
      · subst hr
        rw [adds_in (by omega),up_in,adds_out (by omega),adds_out (by omega)]
      · rw [up_out hr]
        by_cases h1:r≠k∧r < m
        · rw [adds_in (by omega),adds_in h1]
        · rw [adds_out (by omega),adds_out h1]
def cl (A:Mx) (j i:Nat):Mx:=fun r c=>if r=j then unit i c else if c=i then 0 else A r c
theorem det_cl {n:Nat} (A:Mx) {j i:Nat} (hj:j < n):det n (up A j (unit i))=det n (cl A j i):=by
  rw [← (det_am n).adds (up A j (unit i)) hj (fun r=>- A r i) n (by omega)]
  refine det_congr fun r c hr hc=>?_
  by_cases h:r=j
  · subst h
    rw [adds_out (by omega),up_in]
    unfold cl
    rw [if_pos rfl]
  · rw [adds_in ⟨h,hr⟩,up_out h,up_in]
    unfold cl unit
    rw [if_neg h]
    by_cases h2:c=i
    · rw [if_pos h2,if_pos h2,h2]; omega
    · rw [if_neg h2,if_neg h2]; omega
def adj (n:Nat) (A:Mx):Mx:=fun i j=>det n (up A j (unit i))
theorem adj_tp {n:Nat} (A:Mx) {i j:Nat} (hi:i < n) (hj:j < n):adj n (tp A) j i=adj n A i j:=by
  unfold adj
  rw [det_cl _ hi,det_cl _ hj,← det_tp n (cl (tp A) i j)]
  refine det_congr fun r c _ _=>?_
  simp only [tp,cl,unit]
  by_cases h1:c=i
  · rw [if_pos h1]
    by_cases h2:r=j
    · rw [if_pos h2,if_pos h2,if_pos h1]
    · rw [if_neg h2,if_neg h2,if_pos h1]
  · rw [if_neg h1]
    by_cases h2:r=j
    · rw [if_pos h2,if_pos h2,if_neg h1]
    · rw [if_neg h2,if_neg h2,if_neg h1]
theorem row_sum {n:Nat} (v:Nat→Int) {c:Nat} (hc:c < n):sm n (fun j=>v j*unit j c)=v c:=by
  rw [← sm_one (f:=v) hc]
  refine sm_congr fun j _=>?_
  unfold unit
  by_cases h:j=c
  · rw [if_pos h,if_pos h.symm,Int.mul_one]
  · rw [if_neg h,if_neg (fun e=>h e.symm),Int.mul_zero]
theorem det_up_row {n:Nat} (A:Mx) {j:Nat} (hj:j < n) (v:Nat→Int):sm n (fun c=>v c*adj n A c j)=det n (up A j v):=by
  unfold adj
  rw [← (det_am n).sum hj A n v unit]
  refine det_congr fun r c hr hc=>?_
  by_cases h:r=j
  · subst h; rw [up_in,up_in]; exact row_sum v hc
  · rw [up_out h,up_out h]
theorem mul_adj {n:Nat} (A:Mx) {r j:Nat} (hr:r < n) (hj:j < n):sm n (fun c=>A r c*adj n A c j)=if r=j then det n A else 0:=by
  rw [det_up_row A hj (A r)]
  by_cases h:r=j
  · subst h; rw [if_pos rfl,up_self]
  · rw [if_neg h]
    refine (det_am n).equal hr hj h _ fun c _=>?_
    rw [up_out h,up_in]
theorem adj_mul {n:Nat} (A:Mx) {i c:Nat} (hi:i < n) (hc:c < n):sm n (fun j=>adj n A i j*A j c)=if i=c then det n A else 0:=by
  have h:=mul_adj (tp A) hc hi
  have e:sm n (fun j=>tp A c j*adj n (tp A) j i)=sm n (fun j=>adj n A i j*A j c):=sm_congr fun j hj=>by
    rw [adj_tp A hi hj]
    show A j c*_=_
    rw [Int.mul_comm]
  rw [← e,h,det_tp]
  by_cases h:i=c
  · rw [if_pos h,if_pos h.symm]
  · rw [if_neg h,if_neg (fun e=>h e.symm)]
theorem row_zero {n:Nat} {A:Mx} (hd:det n A≠0) {w:Nat→Int} (h:∀ c,c < n→sm n (fun r=>w r*A r c)=0):∀ r,r < n→w r=0:=by
  intro i hi
  have h1:sm n (fun c=>sm n (fun r=>w r*A r c)*adj n A c i)=0:=sm_zero fun c hc=>by rw [h c hc,Int.zero_mul]
  have h2:sm n (fun c=>sm n (fun r=>w r*A r c)*adj n A c i)=w i*det n A:=by
    have e:sm n (fun c=>sm n (fun r=>w r*A r c)*adj n A c i)=sm n (fun c=>sm n fun r=>w r*(A r c*adj n A c i)):=sm_congr fun c _=>by
      rw [← sm_mul']; exact sm_congr fun r _=>by grind
    rw [e,sm_swap]
    have e2:sm n (fun r=>sm n fun c=>w r*(A r c*adj n A c i))=sm n (fun r=>if r=i then w r*det n A else 0):=sm_congr fun r hr=>by
      rw [sm_mul,mul_adj A hr hi]
      by_cases h:r=i
      · rw [if_pos h,if_pos h]
      · rw [if_neg h,if_neg h,Int.mul_zero]
    rw [e2,sm_one (f:=fun r=>w r*det n A) hi]
  rw [h1] at h2
  rcases Int.mul_eq_zero.1 h2.symm with h3 | h3
  · exact h3
  · exact absurd h3 hd
theorem col_zero {n:Nat} {A:Mx} (hd:det n A≠0) {w:Nat→Int} (h:∀ r,r < n→sm n (fun c=>A r c*w c)=0):∀ c,c < n→w c=0:=by
  refine row_zero (A:=tp A) (by rw [det_tp]; exact hd) fun c hc=>?_
  rw [← h c hc]
  exact sm_congr fun r _=>Int.mul_comm _ _
end Dt
namespace Nt
structure Prm (p:Nat):Prop where
  two:2≤p
  div:∀ d,d ∣ p→d=1∨d=p
theorem Prm.of {p:Nat} (h2:2≤p) (h:∀ d,2≤d→d*d≤p→¬ d ∣ p):Prm p:=by
  refine ⟨h2,fun d hd=>Classical.byContradiction fun hno=>?_⟩
  obtain ⟨e,he⟩:=hd
  have hd0:d≠0:=by rintro rfl; simp at he; omega
  have he0:e≠0:=by rintro rfl; simp at he; omega
  have he1:e≠1:=by rintro rfl; simp at he; omega
  by_cases hle:d≤e
  · exact h d (by omega) (by rw [he]; exact Nat.mul_le_mul_left d hle) ⟨e,he⟩
  · exact h e (by omega) (by rw [he]; exact Nat.mul_le_mul_right e (by omega)) ⟨d,by rw [he,Nat.mul_comm]⟩
end Nt
namespace Nt
def ab (x:Int):Int:=if x < 0 then -x else x
theorem ab_nn (x:Int):0≤ab x:=by unfold ab; split<;>omega
theorem ab_neg {x:Int} (h:x≤0):ab x= -x:=by unfold ab; split<;>omega
theorem ab_pos {x:Int} (h:0≤x):ab x=x:=by unfold ab; split<;>omega
structure Eu (m x:Int) (r0 r1 t0 t1:Int):Prop where
  n0:0 < r0
  n1:0≤r1
  le:r1≤r0
  sum:r0*ab t1+r1*ab t0=m
  sgn:(0≤t0∧t1≤0)∨(t0≤0∧0≤t1)
  t:t1≠0
  c0:m ∣ r0 - t0*x
  c1:m ∣ r1 - t1*x
theorem Eu.start {m x:Int} (hm:0 < m) (hx:0≤x∧x < m):Eu m x m x 0 1:=
  ⟨hm,hx.1,by omega,by simp [ab],.inr ⟨by omega,by omega⟩,by omega,⟨1,by simp⟩,⟨0,by omega⟩⟩
theorem Eu.step {m x r0 r1 t0 t1:Int} (h:Eu m x r0 r1 t0 t1) (h1:0 < r1):Eu m x r1 (r0 - r0 / r1*r1) t1 (t0 - r0 / r1*t1):=by
  have hq:1≤r0 / r1:=by
    have:=h.le
    have h2:1*r1≤r0:=by omega
    exact (Int.le_ediv_iff_mul_le h1).2 h2
  have hm:=Int.emod_nonneg r0 (show r1≠0 by omega)
  have hm2:=Int.emod_lt_of_pos r0 h1
  have he:r0 - r0 / r1*r1=r0 % r1:=by
    have:=Int.mul_ediv_add_emod r0 r1
    rw [Int.mul_comm] at this
    omega
  have hs:=h.sum
  generalize hqq:r0 / r1=q at*
  have hab:ab (t0 - q*t1)=ab t0+q*ab t1:=by
    rcases h.sgn with ⟨a1,a2⟩ | ⟨a1,a2⟩
    · have:q*t1≤0:=Int.mul_nonpos_of_nonneg_of_nonpos (by omega) a2
      rw [ab_pos a1,ab_neg a2,ab_pos (by omega)]; grind
    · have:0≤q*t1:=Int.mul_nonneg (by omega) a2
      rw [ab_neg a1,ab_pos a2,ab_neg (by omega)]; grind
  refine ⟨h1,by omega,by omega,?_,?_,?_,h.c1,?_⟩
  · rw [hab]; grind
  · rcases h.sgn with ⟨a1,a2⟩ | ⟨a1,a2⟩
    · have:q*t1≤0:=Int.mul_nonpos_of_nonneg_of_nonpos (by omega) a2
      exact .inr ⟨a2,by omega⟩
    · have:0≤q*t1:=Int.mul_nonneg (by omega) a2
      exact .inl ⟨a2,by omega⟩
  · intro h0
    have h2:ab (t0 - q*t1)=0:=by rw [h0]; rfl
    rw [hab] at h2
    have h3:=ab_nn t0
    have h4:0 < ab t1:=by
      have:=h.t
      unfold ab; split<;>omega
    have h5:1*ab t1≤q*ab t1:=Int.mul_le_mul_of_nonneg_right hq (by omega)
    omega
  · obtain ⟨a,ha⟩:=h.c0
    obtain ⟨b,hb⟩:=h.c1
    refine ⟨a - q*b,?_⟩
    have:r0 - q*r1 - (t0 - q*t1)*x=(r0 - t0*x) - q*(r1 - t1*x):=by grind
    rw [this,ha,hb]
    grind
end Nt
namespace Nt
end Nt
namespace Nt
end Nt
namespace Dt
def Cg (p a b:Int):Prop:=p ∣ a - b
theorem Cg.refl (p a:Int):Cg p a a:=⟨0,by omega⟩
theorem Cg.symm {p a b:Int} (h:Cg p a b):Cg p b a:=by obtain ⟨k,hk⟩:=h; exact ⟨-k,by rw [Int.mul_neg]; omega⟩
theorem Cg.trans {p a b c:Int} (h:Cg p a b) (h':Cg p b c):Cg p a c:=by
  obtain ⟨k,hk⟩:=h; obtain ⟨m,hm⟩:=h'; exact ⟨k+m,by rw [Int.mul_add]; omega⟩
theorem Cg.add {p a b c d:Int} (h:Cg p a b) (h':Cg p c d):Cg p (a+c) (b+d):=by
  obtain ⟨k,hk⟩:=h; obtain ⟨m,hm⟩:=h'; exact ⟨k+m,by rw [Int.mul_add]; omega⟩
theorem Cg.sub {p a b c d:Int} (h:Cg p a b) (h':Cg p c d):Cg p (a - c) (b - d):=by
  obtain ⟨k,hk⟩:=h; obtain ⟨m,hm⟩:=h'; exact ⟨k - m,by rw [Int.mul_sub]; omega⟩
theorem Cg.neg {p a b:Int} (h:Cg p a b):Cg p (-a) (-b):=by
  obtain ⟨k,hk⟩:=h; exact ⟨-k,by rw [Int.mul_neg]; omega⟩
theorem Cg.mul {p a b c d:Int} (h:Cg p a b) (h':Cg p c d):Cg p (a*c) (b*d):=by
  obtain ⟨k,hk⟩:=h; obtain ⟨m,hm⟩:=h'
  refine ⟨k*c+b*m,?_⟩
  have e:a*c - b*d=(a - b)*c+b*(c - d):=by grind
  rw [e,hk,hm]
  grind
theorem Cg.mod (p a:Int):Cg p (a % p) a:=by
  refine ⟨-(a / p),?_⟩
  have:=Int.mul_ediv_add_emod a p
  rw [Int.mul_neg]
  omega
theorem Cg.iff {p a b:Int}:Cg p a b↔a % p=b % p:=by
  constructor
  · rintro ⟨k,hk⟩
    have:a=b+p*k:=by omega
    rw [this,Int.add_mul_emod_self_left]
  · intro h
    exact ((Cg.mod p a).symm.trans (h▸Cg.refl p _)).trans (Cg.mod p b)
theorem Cg.zero {p a:Int}:Cg p a 0↔a % p=0:=by rw [Cg.iff]; simp
theorem Cg.eq {p a b:Int} (h:Cg p a b) (ha:0≤a∧a < p) (hb:0≤b∧b < p):a=b:=by
  have:=Cg.iff.1 h
  rwa [Int.emod_eq_of_lt ha.1 ha.2,Int.emod_eq_of_lt hb.1 hb.2] at this
theorem Cg.sm {p:Int} {n:Nat} {f g:Nat→Int} (h:∀ i,i < n→Cg p (f i) (g i)):Cg p (sm n f) (sm n g):=by
  induction n with
  | zero=>exact .refl _ _
  | succ n ih=>exact (ih fun i hi=>h i (by omega)).add (h n (by omega))
theorem Cg.det {p:Int}:∀ {n:Nat} {A B:Mx},(∀ i j,i < n→j < n→Cg p (A i j) (B i j))→Cg p (det n A) (det n B)
  | 0,_,_,_=>.refl _ _
  | n+1,A,B,h=>by
    rw [Dt.det,Dt.det]
    refine Cg.sm fun j hj=>?_
    exact ((Cg.refl p _).mul (h 0 j (by omega) hj)).mul (Cg.det fun i k hi hk=>h _ _ (by omega) (sk_lt hj hk))
def Nl (p:Int) (n w:Nat) (M:Mx) (x:Nat→Int):Prop:=∀ r,r < n→Cg p (sm w fun c=>M r c*x c) 0
def Rq (p:Int) (n w:Nat) (M M':Mx):Prop:=∀ x,Nl p n w M x↔Nl p n w M' x
theorem Rq.refl (p:Int) (n w:Nat) (M:Mx):Rq p n w M M:=fun _=>Iff.rfl
theorem Rq.trans {p:Int} {n w:Nat} {A B C:Mx} (h:Rq p n w A B) (h':Rq p n w B C):Rq p n w A C:=fun x=>(h x).trans (h' x)
theorem Rq.symm {p:Int} {n w:Nat} {A B:Mx} (h:Rq p n w A B):Rq p n w B A:=fun x=>(h x).symm
theorem Rq.cg {p:Int} {n w:Nat} {A B:Mx} (h:∀ r c,r < n→c < w→Cg p (A r c) (B r c)):Rq p n w A B:=by
  intro x
  have e:∀ r,r < n→Cg p (sm w fun c=>A r c*x c) (sm w fun c=>B r c*x c):=fun r hr=>Cg.sm fun c hc=>(h r c hr hc).mul (.refl _ _)
  exact ⟨fun hA r hr=>(e r hr).symm.trans (hA r hr),fun hB r hr=>(e r hr).trans (hB r hr)⟩
theorem Rq.sw {p:Int} {n w:Nat} (A:Mx) {i k:Nat} (hi:i < n) (hk:k < n):Rq p n w A (sw A i k):=by
  intro x
  constructor
  · intro h r hr
    unfold Dt.sw
    by_cases h1:r=i
    · simp only [h1,if_true]; exact h k hk
    · by_cases h2:r=k
      · simp only [h1,if_false]; simp only [h2,if_true]; exact h i hi
      · simp only [h1,h2,if_false]; exact h r hr
  · intro h r hr
    by_cases h1:r=i
    · by_cases h2:i=k
      · have:=h r hr
        unfold Dt.sw at this
        subst h1; subst h2; simpa using this
      · have:=h k hk
        unfold Dt.sw at this
        rw [h1]
        simpa [Ne.symm h2] using this
    · by_cases h2:r=k
      · have:=h i hi
        unfold Dt.sw at this
        rw [h2]
        simpa using this
      · have:=h r hr
        unfold Dt.sw at this
        simpa [h1,h2] using this
theorem sm_scale (w:Nat) (f:Int) (v x:Nat→Int):sm w (fun c=>f*v c*x c)=f*sm w (fun c=>v c*x c):=by
  rw [← sm_mul]; exact sm_congr fun c _=>by grind
theorem Rq.scale {p:Int} {n w:Nat} (A:Mx) {i:Nat} (hi:i < n) {f g:Int} (hfg:Cg p (g*f) 1):Rq p n w A (up A i (fun c=>f*A i c)):=by
  intro x
  constructor
  · intro h r hr
    by_cases h1:r=i
    · subst h1
      simp only [up_in]
      rw [sm_scale]
      have:=(Cg.refl p f).mul (h r hr)
      simpa using this
    · simp only [up_out h1]; exact h r hr
  · intro h r hr
    have h2:=h r hr
    by_cases h1:r=i
    · subst h1
      simp only [up_in] at h2
      rw [sm_scale] at h2
      have h3:=(Cg.refl p g).mul h2
      rw [Int.mul_zero,← Int.mul_assoc] at h3
      have h4:=hfg.mul (Cg.refl p (sm w fun c=>A r c*x c))
      rw [Int.one_mul] at h4
      exact h4.symm.trans h3
    · simp only [up_out h1] at h2; exact h2
theorem sm_comb (w:Nat) (f:Int) (u v x:Nat→Int):sm w (fun c=>(u c+f*v c)*x c)=sm w (fun c=>u c*x c)+f*sm w (fun c=>v c*x c):=by
  rw [← sm_mul,← sm_add]; exact sm_congr fun c _=>by grind
theorem Rq.add {p:Int} {n w:Nat} (A:Mx) {i k:Nat} (hi:i < n) (hk:k < n) (hik:i≠k) (f:Int):Rq p n w A (up A i (fun c=>A i c+f*A k c)):=by
  intro x
  constructor
  · intro h r hr
    by_cases h1:r=i
    · subst h1
      simp only [up_in]
      rw [sm_comb]
      have:=(h r hr).add ((Cg.refl p f).mul (h k hk))
      simpa using this
    · simp only [up_out h1]; exact h r hr
  · intro h r hr
    have h2:=h r hr
    by_cases h1:r=i
    · subst h1
      simp only [up_in] at h2
      rw [sm_comb] at h2
      have h3:=h k hk
      simp only [up_out (Ne.symm hik)] at h3
      have:=h2.sub ((Cg.refl p f).mul h3)
      simp only [Int.mul_zero,Int.sub_zero] at this
      rwa [Int.add_sub_cancel] at this
    · simp only [up_out h1] at h2; exact h2
theorem Rq.adds {p:Int} {n w:Nat} (A:Mx) {k:Nat} (hk:k < n) (x:Nat→Int):∀ m,m≤n→Rq p n w A (adds A k x m):=by
  intro m
  induction m with
  | zero=>exact fun _=>Rq.cg fun r c _ _=>by rw [adds_out (by omega)]; exact .refl _ _
  | succ m ih=>
    intro hm
    refine (ih (by omega)).trans ?_
    by_cases h0:m=k
    · subst h0
      refine Rq.cg fun r c _ _=>?_
      by_cases h1:r≠m∧r < m
      · rw [adds_in h1,adds_in (by omega)]; exact .refl _ _
      · rw [adds_out h1,adds_out (by omega)]; exact .refl _ _
    · refine (Rq.add (p:=p) (n:=n) (w:=w) (Dt.adds A k x m) (i:=m) (k:=k) (by omega) hk h0 (x m)).trans ?_
      refine Rq.cg fun r c _ _=>?_
      by_cases hr:r=m
      · subst hr
        rw [adds_in (by omega),up_in,adds_out (by omega),adds_out (by omega)]; exact .refl _ _
      · rw [up_out hr]
        by_cases h1:r≠k∧r < m
        · rw [adds_in h1,adds_in (by omega)]; exact .refl _ _
        · rw [adds_out h1,adds_out (by omega)]; exact .refl _ _
theorem Rq.step {p:Int} {n w:Nat} (A:Mx) {k:Nat} (hk:k < n) {f g:Int} (hfg:Cg p (g*f) 1) (x:Nat→Int):Rq p n w A (Dt.adds (up A k (fun c=>f*A k c)) k x n):=
  (Rq.scale A hk hfg).trans (Rq.adds _ hk x n (Nat.le_refl n))
end Dt
namespace Dt
structure Rre (p:Int) (n w:Nat) (M:Mx) (col:Nat→Nat) (k c:Nat):Prop where
  kn:k≤n
  cw:c≤w
  lt:∀ s,s < k→col s < c
  asc:∀ s t,s < t→t < k→col s < col t
  unit:∀ s r,s < k→r < n→M r (col s)=if r=s then 1 else 0
  zero:∀ r j,k≤r→r < n→j < c→M r j=0
  rng:∀ r j,r < n→j < w→0≤M r j∧M r j < p
  lead:∀ s j,s < k→j < col s→M s j=0
section
variable {p:Int} {n w:Nat} {M:Mx} {col:Nat→Nat} {k c:Nat}
theorem Rre.ge (h:Rre p n w M col k c):∀ s,s < k→s≤col s:=by
  intro s
  induction s with
  | zero=>intro _; omega
  | succ s ih=>
    intro hs
    have h1:=ih (by omega)
    have h2:=h.asc s (s+1) (by omega) hs
    omega
theorem Rre.kc (h:Rre p n w M col k c):k≤c:=by
  cases k with
  | zero=>omega
  | succ k=>
    have h1:=h.ge k (by omega)
    have h2:=h.lt k (by omega)
    omega
theorem Rre.first (h:Rre p n w M col k c) {fr:Nat} (h1:∀ s,s < fr→s < k∧col s=s) (h2:fr < k→col fr≠fr):∀ s,s < k→col s≠fr:=by
  intro s hs he
  by_cases hsf:s < fr
  · have:=(h1 s hsf).2
    omega
  · have hfk:fr < k:=by omega
    have h3:=h.ge fr hfk
    have h4:=h2 hfk
    by_cases hse:s=fr
    · subst hse; exact h4 he
    · have:=h.asc fr s (by omega) hs
      omega
theorem Rre.kernel (h:Rre p n w M col k w) {fr:Nat} (hfr:fr < w) (hno:∀ s,s < k→col s≠fr) {v:Nat→Int} (h1:v fr=1) (hv:∀ s,s < k→Cg p (v (col s)) (- M s fr)) (h0:∀ j,j < w→j≠fr→(∀ s,s < k→col s≠j)→v j=0):Nl p n w M v:=by
  intro r hr
  by_cases hrk:r < k
  ·
    have hsum:sm w (fun j=>M r j*v j)=sm w (fun j=>(if j=fr then M r fr else 0)+(if j=col r then v (col r) else 0)):=by
      refine sm_congr fun j hj=>?_
      by_cases hjf:j=fr
      · subst hjf
        rw [if_pos rfl,if_neg (fun e=>hno r hrk e.symm),h1]; omega
      · rw [if_neg hjf]
        by_cases hp:∃ s,s < k∧col s=j
        · obtain ⟨s,hs,rfl⟩:=hp
          rw [h.unit s r hs hr]
          by_cases hrs:r=s
          · subst hrs; rw [if_pos rfl,if_pos rfl]; omega
          · rw [if_neg hrs,if_neg (fun e=>hrs ?_)]
            · simp
            · rcases Nat.lt_trichotomy s r with h5 | h5 | h5
              · have:=h.asc s r h5 hrk; omega
              · exact h5.symm
              · have:=h.asc r s h5 hs; omega
        · have hz:=h0 j hj hjf (fun s hs he=>hp ⟨s,hs,he⟩)
          rw [hz,if_neg (fun e=>hp ⟨r,hrk,e.symm⟩)]; simp
    rw [hsum,sm_add,sm_one (f:=fun _=>M r fr) hfr,sm_one (f:=fun _=>v (col r)) (h.lt r hrk)]
    have:=(Cg.refl p (M r fr)).add (hv r hrk)
    rwa [Int.add_right_neg] at this
  · rw [sm_zero fun j hj=>by rw [h.zero r j (by omega) hr hj,Int.zero_mul]]
    exact .refl _ _
theorem Rre.only (h:Rre p n w M col w w) {v:Nat→Int} (hv:Nl p n w M v):∀ j,j < w→Cg p (v j) 0:=by
  have hid:∀ s,s < w→col s=s:=by
    intro s hs
    have h1:=h.ge s hs
    have h2:∀ d,s+d < w→col s+d≤col (s+d):=by
      intro d
      induction d with
      | zero=>intro _; exact Nat.le_refl _
      | succ d ih=>intro hd; have:=h.asc (s+d) (s+(d+1)) (by omega) (by omega); have:=ih (by omega); omega
    have h3:=h2 (w - 1 - s) (by omega)
    have h4:=h.lt (w - 1) (by omega)
    rw [show s+(w - 1 - s)=w - 1 by omega] at h3
    omega
  intro j hj
  have h1:=hv j (by have:=h.kn; omega)
  have e:sm w (fun c=>M j c*v c)=sm w (fun c=>if c=j then v c else 0):=sm_congr fun c hc=>by
    have:=h.unit c j hc (by have:=h.kn; omega)
    rw [hid c hc] at this
    rw [this]
    by_cases hcj:c=j
    · rw [if_pos hcj,if_pos hcj.symm,Int.one_mul]
    · rw [if_neg hcj,if_neg (fun e=>hcj e.symm),Int.zero_mul]
  rw [e,sm_one (f:=v) hj] at h1
  exact h1
end
end Dt
namespace Dt
theorem sm_skip (k t:Nat) (ht:t < k+1) (f:Nat→Int):sm (k+1) f=f t+sm k (fun j=>f (sk t j)):=by
  induction k with
  | zero=>
    have:t=0:=by omega
    subst this
    simp [sm]
  | succ k ih=>
    by_cases h:t=k+1
    · subst h
      rw [sm]
      have:sm (k+1) (fun j=>f (sk (k+1) j))=sm (k+1) f:=sm_congr fun j hj=>by unfold sk; rw [if_pos hj]
      rw [this]; omega
    · rw [sm,ih (by omega),sm]
      have:f (sk t k)=f (k+1):=by unfold sk; rw [if_neg (by omega)]
      rw [this]; omega
theorem homog:∀ (r k:Nat) (A:Mx),r < k→∃ y:Nat→Int,(∃ j,j < k∧y j≠0)∧∀ i,i < r→sm k (fun j=>A i j*y j)=0:=by
  intro r
  induction r with
  | zero=>exact fun k A hk=>⟨fun j=>if j=0 then 1 else 0,⟨0,hk,by simp⟩,fun i hi=>by omega⟩
  | succ r ih=>
    intro k A hk
    by_cases hz:∃ t,t < k∧A r t≠0
    · obtain ⟨t,ht,hne⟩:=hz
      obtain ⟨k,rfl⟩:∃ k',k=k'+1:=⟨k - 1,by omega⟩
      obtain ⟨y,⟨j0,hj0,hy0⟩,hy⟩:=ih k (fun i j=>A r t*A i (sk t j) - A i t*A r (sk t j)) (by omega)
      let un:Nat→Nat:=fun c=>if c < t then c else c - 1
      let z:Nat→Int:=fun c=>if c=t then - sm k (fun j=>A r (sk t j)*y j) else A r t*y (un c)
      have hzt:z t= - sm k (fun j=>A r (sk t j)*y j):=by simp [z]
      have hzs:∀ j,z (sk t j)=A r t*y j:=by
        intro j
        have h1:sk t j≠t:=by unfold sk; split<;>omega
        have h2:un (sk t j)=j:=by simp only [un]; unfold sk; split<;>(try split)<;>omega
        simp only [z]
        rw [if_neg h1,h2]
      refine ⟨z,⟨sk t j0,sk_lt ht hj0,?_⟩,fun i hi=>?_⟩
      · rw [hzs]
        exact Int.mul_ne_zero hne hy0
      · rw [sm_skip k t ht,hzt]
        have e:sm k (fun j=>A i (sk t j)*z (sk t j))=A r t*sm k (fun j=>A i (sk t j)*y j):=by
          rw [← sm_mul]; exact sm_congr fun j _=>by rw [hzs]; grind
        rw [e]
        by_cases hir:i=r
        · subst hir; grind
        · have:=hy i (by omega)
          have e2:sm k (fun j=>(A r t*A i (sk t j) - A i t*A r (sk t j))*y j)=A r t*sm k (fun j=>A i (sk t j)*y j)+ - A i t*sm k (fun j=>A r (sk t j)*y j):=by
            rw [← sm_lin]; exact sm_congr fun j _=>by grind
          rw [e2] at this
          grind
    · obtain ⟨y,h1,h2⟩:=ih k A (by omega)
      refine ⟨y,h1,fun i hi=>?_⟩
      by_cases hir:i=r
      · subst hir
        refine sm_zero fun j hj=>?_
        have:A i j=0:=Classical.byContradiction fun h=>hz ⟨j,hj,h⟩
        rw [this,Int.zero_mul]
      · exact h2 i (by omega)
end Dt
namespace Dt
def ext (n:Nat) (M:Mx):Mx:=fun r c=>if r=n∨c=n then (if r=c then 1 else 0) else M r c
theorem ext_e {n r c:Nat} {M:Mx} (h:r=n∨c=n):ext n M r c=if r=c then 1 else 0:=by unfold ext; rw [if_pos h]
theorem ext_i {n r c:Nat} {M:Mx} (h:¬ (r=n∨c=n)):ext n M r c=M r c:=by unfold ext; rw [if_neg h]
theorem det_ext (n:Nat) (M:Mx):det (n+1) (ext n M)=det n M:=by
  have ha:Am n fun M=>det (n+1) (ext n M):=by
    refine ⟨fun A B he=>det_congr fun r c hr hc=>?_,fun A i s t v w hi=>?_,fun A i hi he=>det_adj (i:=i) (by omega) fun c hc=>?_⟩
    · by_cases h:r=n∨c=n
      · rw [ext_e h,ext_e h]
      · rw [ext_i h,ext_i h]; exact he r c (by omega) (by omega)
    · have e:∀ x:Nat→Int,ext n (up A i x)=up (ext n A) i (fun c=>if c=n then 0 else x c):=by
        intro x
        funext r c
        by_cases h1:r=i
        · subst h1
          rw [up_in]
          by_cases h2:c=n
          · rw [ext_e (.inr h2),if_pos h2,if_neg (by omega)]
          · rw [ext_i (by omega),if_neg h2,up_in]
        · rw [up_out h1]
          by_cases h2:r=n∨c=n
          · rw [ext_e h2,ext_e h2]
          · rw [ext_i h2,ext_i h2,up_out h1]
      simp only [e]
      rw [← det_lin _ s t _ _ (by omega)]
      congr 2
      funext c
      by_cases h:c=n
      · simp [h]
      · simp [h]
    · by_cases h:c=n
      · rw [ext_e (.inr h),ext_e (.inr h),if_neg (by omega),if_neg (by omega)]
      · rw [ext_i (by omega),ext_i (by omega)]; exact he c (by omega)
  have h:det (n+1) (ext n M)=det n M*det (n+1) (ext n one):=ha.uniq M
  have h1:det (n+1) (ext n one)=1:=by
    rw [← det_one (n+1)]
    refine det_congr fun r c _ _=>?_
    by_cases h:r=n∨c=n
    · rw [ext_e h]; rfl
    · rw [ext_i h]
  rw [h,h1,Int.mul_one]
section
variable (A:Mx) (col:Nat→Nat)
def Pm_:Mx:=fun r s=>A r (col s)
def Rk (k:Nat):Mx:=fun i j=>if i < k then sm k (fun t=>adj k (Pm_ A col) i t*A t j) else det k (Pm_ A col)*A i j - sm k (fun s=>A i (col s)*sm k (fun t=>adj k (Pm_ A col) s t*A t j))
variable {A col}
theorem Rk_lt {k i j:Nat} (h:i < k):Rk A col k i j=sm k (fun t=>adj k (Pm_ A col) i t*A t j):=by unfold Rk; rw [if_pos h]
theorem Rk_ge {k i j:Nat} (h:¬ i < k):Rk A col k i j=det k (Pm_ A col)*A i j - sm k (fun s=>A i (col s)*sm k (fun t=>adj k (Pm_ A col) s t*A t j)):=by unfold Rk; rw [if_neg h]
theorem Rk_piv {k i s:Nat} (hi:i < k) (hs:s < k):Rk A col k i (col s)=if i=s then det k (Pm_ A col) else 0:=by
  rw [Rk_lt hi]
  exact adj_mul (Pm_ A col) hi hs
theorem Rk_below {k i s:Nat} (hi:¬ i < k) (hs:s < k):Rk A col k i (col s)=0:=by
  rw [Rk_ge hi]
  have e:sm k (fun s'=>A i (col s')*sm k (fun t=>adj k (Pm_ A col) s' t*A t (col s)))=sm k (fun s'=>if s'=s then A i (col s')*det k (Pm_ A col) else 0):=sm_congr fun s' hs'=>by
    have:sm k (fun t=>adj k (Pm_ A col) s' t*A t (col s))=if s'=s then det k (Pm_ A col) else 0:=adj_mul (Pm_ A col) hs' hs
    rw [this]
    by_cases h:s'=s
    · rw [if_pos h,if_pos h]
    · rw [if_neg h,if_neg h,Int.mul_zero]
  rw [e,sm_one (f:=fun s'=>A i (col s')*det k (Pm_ A col)) hs,Int.mul_comm]
  omega
def bt (A:Mx) (col:Nat→Nat) (k i t:Nat):Int:=sm k fun s=>A i (col s)*adj k (Pm_ A col) s t
theorem Rk_row {k i j:Nat} (h:¬ i < k):Rk A col k i j=det k (Pm_ A col)*A i j - sm k (fun t=>bt A col k i t*A t j):=by
  rw [Rk_ge h]
  congr 1
  have e:sm k (fun s=>A i (col s)*sm k (fun t=>adj k (Pm_ A col) s t*A t j))=sm k (fun s=>sm k fun t=>A i (col s)*adj k (Pm_ A col) s t*A t j):=sm_congr fun s _=>by
    rw [← sm_mul]; exact sm_congr fun t _=>by grind
  rw [e,sm_swap]
  exact sm_congr fun t _=>by rw [sm_mul']; rfl
theorem det_next {k:Nat} (hd:det k (Pm_ A col)≠0):det (k+1) (Pm_ A col)=Rk A col k k (col k):=by
  let P:=Pm_ A col
  have h1:det (k+1) (up P k (fun s=>det k P*P k s))=det k P*det (k+1) P:=(det_am (k+1)).scale (by omega) P (det k P)
  have h2:∀ m,m≤k→det (k+1) (up P k (fun s=>det k P*P k s - sm m (fun t=>bt A col k k t*P t s)))=det k P*det (k+1) P:=by
    intro m
    induction m with
    | zero=>
      intro _
      rw [← h1]
      congr 2
      funext s
      simp [sm]
    | succ m ih=>
      intro hm
      rw [← ih (by omega)]
      have h3:=(det_am (k+1)).addrow (i:=k) (k:=m) (by omega) (by omega) (by omega) (up P k (fun s=>det k P*P k s - sm m (fun t=>bt A col k k t*P t s))) (- bt A col k k m)
      rw [← h3,up_up]
      refine det_congr fun r c _ _=>?_
      by_cases hr:r=k
      · subst hr
        rw [up_in,up_in,up_in,up_out (by omega)]
        simp only [sm]
        grind
      · rw [up_out hr,up_out hr]
  have h4:=h2 k (by omega)
  have h5:det (k+1) (up P k (fun s=>det k P*P k s - sm k (fun t=>bt A col k k t*P t s)))=det (k+1) (up P k (fun s=>Rk A col k k (col k)*unit k s)):=by
    refine det_congr fun r c hr hc=>?_
    by_cases h:r=k
    · subst h
      rw [up_in,up_in]
      have e:det r P*P r c - sm r (fun t=>bt A col r r t*P t c)=Rk A col r r (col c):=(Rk_row (by omega)).symm
      rw [e]
      unfold unit
      by_cases hcr:c=r
      · rw [if_pos hcr,hcr,Int.mul_one]
      · rw [if_neg hcr,Int.mul_zero]
        exact Rk_below (by omega) (by omega)
    · rw [up_out h,up_out h]
  have h6:det (k+1) (up P k (fun s=>Rk A col k k (col k)*unit k s))=Rk A col k k (col k)*det (k+1) (up P k (unit k)):=by
    have:=(det_am (k+1)).scale (i:=k) (by omega) (up P k (unit k)) (Rk A col k k (col k))
    rw [← this,up_up]
    congr 2
    funext s
    rw [up_in]
  have h7:det (k+1) (up P k (unit k))=det k P:=by
    rw [det_cl P (by omega),← det_ext k P]
    refine det_congr fun r c hr hc=>?_
    by_cases h1:r=k
    · subst h1
      rw [ext_e (.inl rfl)]
      unfold cl unit
      rw [if_pos rfl]
      exact if_iff eq_comm
    · unfold cl
      rw [if_neg h1]
      by_cases h2:c=k
      · rw [if_pos h2,ext_e (.inr h2),if_neg (by omega)]
      · rw [if_neg h2,ext_i (by omega)]
  rw [h5,h6,h7] at h4
  have h8:det k P*(det (k+1) P - Rk A col k k (col k))=0:=by rw [Int.mul_sub,← h4]; grind
  rcases Int.mul_eq_zero.1 h8 with h9 | h9
  · exact absurd h9 hd
  · show det (k+1) P=_
    omega
theorem Rk_top {k j:Nat} (hd:det k (Pm_ A col)≠0) (hn:Rk A col k k (col k)≠0):Rk A col (k+1) k j=Rk A col k k j:=by
  have hdn:=det_next hd
  let w:Nat→Int:=fun t=>(if t=k then det k (Pm_ A col) else - bt A col k k t) - adj (k+1) (Pm_ A col) k t
  have hcomb:∀ j,sm (k+1) (fun t=>w t*A t j)=Rk A col k k j - Rk A col (k+1) k j:=by
    intro j
    rw [Rk_row (k:=k) (i:=k) (by omega),Rk_lt (k:=k+1) (i:=k) (by omega)]
    have e:sm (k+1) (fun t=>w t*A t j)=sm (k+1) (fun t=>(if t=k then det k (Pm_ A col) else - bt A col k k t)*A t j) - sm (k+1) (fun t=>adj (k+1) (Pm_ A col) k t*A t j):=by
      have:=sm_lin (k+1) 1 (-1) (fun t=>(if t=k then det k (Pm_ A col) else - bt A col k k t)*A t j) (fun t=>adj (k+1) (Pm_ A col) k t*A t j)
      have e2:sm (k+1) (fun t=>w t*A t j)=sm (k+1) (fun t=>1*((if t=k then det k (Pm_ A col) else - bt A col k k t)*A t j)+ -1*(adj (k+1) (Pm_ A col) k t*A t j)):=sm_congr fun t _=>by simp only [w]; grind
      rw [e2,this]
      omega
    rw [e]
    congr 1
    rw [sm,if_pos rfl]
    have e3:sm k (fun t=>(if t=k then det k (Pm_ A col) else - bt A col k k t)*A t j)= -1*sm k (fun t=>bt A col k k t*A t j):=by
      rw [← sm_mul]
      exact sm_congr fun t ht=>by rw [if_neg (by omega)]; grind
    rw [e3]
    omega
  have hz:∀ t,t < k+1→w t=0:=by
    refine row_zero (A:=Pm_ A col) (n:=k+1) (by rw [hdn]; exact hn) fun s hs=>?_
    have:=hcomb (col s)
    rw [show sm (k+1) (fun r=>w r*Pm_ A col r s)=sm (k+1) (fun t=>w t*A t (col s)) from rfl,this,Rk_piv (k:=k+1) (by omega) hs,hdn]
    by_cases h:k=s
    · subst h; rw [if_pos rfl]; omega
    · rw [if_neg h,Rk_below (k:=k) (by omega) (by omega)]; rfl
  have h1:=hcomb j
  rw [sm_zero (fun t ht=>by rw [hz t ht,Int.zero_mul])] at h1
  omega
theorem Rk_step {k i j:Nat} (hd:det k (Pm_ A col)≠0) (hn:Rk A col k k (col k)≠0) (hik:i≠k):
    Rk A col k k (col k)*Rk A col k i j - Rk A col k i (col k)*Rk A col k k j=det k (Pm_ A col)*Rk A col (k+1) i j:=by
  have hdn:=det_next hd
  suffices hw:∃ w:Nat→Int,∀ j,sm (k+1) (fun t=>w t*A t j)=Rk A col k k (col k)*Rk A col k i j - Rk A col k i (col k)*Rk A col k k j - det k (Pm_ A col)*Rk A col (k+1) i j by
    obtain ⟨w,hcomb⟩:=hw
    have hz:∀ t,t < k+1→w t=0:=by
      refine row_zero (A:=Pm_ A col) (n:=k+1) (by rw [hdn]; exact hn) fun s hs=>?_
      rw [show sm (k+1) (fun r=>w r*Pm_ A col r s)=sm (k+1) (fun t=>w t*A t (col s)) from rfl,hcomb]
      have hR:Rk A col (k+1) i (col s)=if i=s then Rk A col k k (col k) else 0:=by
        by_cases hi:i < k
        · rw [Rk_piv (k:=k+1) (by omega) hs,hdn]
        · rw [Rk_below (k:=k+1) (by omega) hs,if_neg (by omega)]
      rw [hR]
      by_cases hsk:s=k
      · subst hsk; rw [if_neg hik]; grind
      · have h0:Rk A col k k (col s)=0:=Rk_below (by omega) (by omega)
        rw [h0]
        by_cases hi:i < k
        · rw [Rk_piv hi (by omega)]
          by_cases his:i=s
          · rw [if_pos his,if_pos his]; grind
          · rw [if_neg his,if_neg his]; simp
        · rw [Rk_below hi (by omega),if_neg (by omega)]; simp
    have h1:=hcomb j
    rw [sm_zero (fun t ht=>by rw [hz t ht,Int.zero_mul])] at h1
    omega
  have hk0:∀ j,Rk A col k k j=det k (Pm_ A col)*A k j - sm k (fun t=>bt A col k k t*A t j):=fun j=>Rk_row (by omega)
  have hsplit:∀ (f:Nat→Int) (g:Nat→Int) (x:Int) (j:Nat),sm (k+1) (fun t=>(if t=k then x else f t)*A t j)=sm k (fun t=>f t*A t j)+x*A k j:=by
    intro f g x j
    rw [sm,if_pos rfl]
    congr 1
    exact sm_congr fun t ht=>by rw [if_neg (by omega)]
  generalize hN:Rk A col k k (col k)=N at*
  by_cases hi:i < k
  · refine ⟨fun t=>(if t=k then - (Rk A col k i (col k)*det k (Pm_ A col)) else N*adj k (Pm_ A col) i t+Rk A col k i (col k)*bt A col k k t)+ - det k (Pm_ A col)*adj (k+1) (Pm_ A col) i t,fun j=>?_⟩
    rw [hk0,Rk_lt (k:=k+1) (i:=i) (by omega),Rk_lt (k:=k) (i:=i) (j:=j) hi]
    have e:sm (k+1) (fun t=>((if t=k then - (Rk A col k i (col k)*det k (Pm_ A col)) else N*adj k (Pm_ A col) i t+Rk A col k i (col k)*bt A col k k t)+ - det k (Pm_ A col)*adj (k+1) (Pm_ A col) i t)*A t j)
        = sm (k+1) (fun t=>(if t=k then - (Rk A col k i (col k)*det k (Pm_ A col)) else N*adj k (Pm_ A col) i t+Rk A col k i (col k)*bt A col k k t)*A t j)+ - det k (Pm_ A col)*sm (k+1) (fun t=>adj (k+1) (Pm_ A col) i t*A t j):=by
      rw [← sm_mul,← sm_add]
      exact sm_congr fun t _=>by grind
    rw [e,hsplit (fun t=>N*adj k (Pm_ A col) i t+Rk A col k i (col k)*bt A col k k t) (fun _=>0)]
    have e2:sm k (fun t=>(N*adj k (Pm_ A col) i t+Rk A col k i (col k)*bt A col k k t)*A t j)=N*sm k (fun t=>adj k (Pm_ A col) i t*A t j)+Rk A col k i (col k)*sm k (fun t=>bt A col k k t*A t j):=by
      rw [← sm_mul,← sm_mul,← sm_add]
      exact sm_congr fun t _=>by grind
    rw [e2]
    grind
  · refine ⟨fun t=>(if t=k then - (Rk A col k i (col k)*det k (Pm_ A col)) else - N*bt A col k i t+Rk A col k i (col k)*bt A col k k t)+det k (Pm_ A col)*bt A col (k+1) i t,fun j=>?_⟩
    rw [hk0,Rk_row (k:=k+1) (i:=i) (by omega),Rk_row (k:=k) (i:=i) (j:=j) hi,hdn]
    have e:sm (k+1) (fun t=>((if t=k then - (Rk A col k i (col k)*det k (Pm_ A col)) else - N*bt A col k i t+Rk A col k i (col k)*bt A col k k t)+det k (Pm_ A col)*bt A col (k+1) i t)*A t j)
        = sm (k+1) (fun t=>(if t=k then - (Rk A col k i (col k)*det k (Pm_ A col)) else - N*bt A col k i t+Rk A col k i (col k)*bt A col k k t)*A t j)+det k (Pm_ A col)*sm (k+1) (fun t=>bt A col (k+1) i t*A t j):=by
      rw [← sm_mul,← sm_add]
      exact sm_congr fun t _=>by grind
    rw [e,hsplit (fun t=>- N*bt A col k i t+Rk A col k i (col k)*bt A col k k t) (fun _=>0)]
    have e2:sm k (fun t=>(- N*bt A col k i t+Rk A col k i (col k)*bt A col k k t)*A t j)= - N*sm k (fun t=>bt A col k i t*A t j)+Rk A col k i (col k)*sm k (fun t=>bt A col k k t*A t j):=by
      rw [← sm_mul,← sm_mul,← sm_add]
      exact sm_congr fun t _=>by grind
    rw [e2]
    grind
end
end Dt
namespace Dt
end Dt
namespace Dt
theorem sm_nn {n:Nat} {f:Nat→Int} (h:∀ i,i < n→0≤f i):0≤sm n f:=by
  induction n with
  | zero=>exact Int.le_refl 0
  | succ n ih=>
    have h1:=ih fun i hi=>h i (by omega)
    have h2:=h n (by omega)
    simp only [sm]
    omega
theorem sq_nn (x:Int):0≤x*x:=by
  rcases Int.le_total 0 x with h | h
  · exact Int.mul_nonneg h h
  · exact Int.mul_nonneg_of_nonpos_of_nonpos h h
theorem sq_zero {x:Int} (h:x*x=0):x=0:=by rcases Int.mul_eq_zero.1 h with h | h<;>exact h
theorem sq_sum {n:Nat} {f:Nat→Int} (h:sm n (fun i=>f i*f i)=0):∀ i,i < n→f i=0:=by
  induction n with
  | zero=>intro i hi; omega
  | succ n ih=>
    simp only [sm] at h
    have h1:0≤sm n (fun i=>f i*f i):=sm_nn fun i _=>sq_nn _
    have h2:=sq_nn (f n)
    intro i hi
    by_cases hin:i=n
    · subst hin; exact sq_zero (by omega)
    · exact ih (by omega) i (by omega)
end Dt
namespace Dt
def pr:Nat→(Nat→Int)→Int
  | 0,_=>1
  | n+1,f=>pr n f*f n
end Dt
namespace Dt
theorem adj_congr {n:Nat} {A B:Mx} (h:∀ i j,i < n→j < n→A i j=B i j) {i j:Nat}:adj n A i j=adj n B i j:=by
  unfold adj
  refine det_congr fun r c hr hc=>?_
  by_cases h1:r=j
  · subst h1; rw [up_in,up_in]
  · rw [up_out h1,up_out h1,h r c hr hc]
theorem Rk_congr {A A':Mx} {col col':Nat→Nat} {k i j:Nat} (hc:∀ s,s < k→col s=col' s) (ht:∀ t j,t < k→A t j=A' t j) (hi:∀ j,A i j=A' i j):Rk A col k i j=Rk A' col' k i j:=by
  have hP:∀ r s,r < k→s < k→Pm_ A col r s=Pm_ A' col' r s:=fun r s hr hs=>by unfold Pm_; rw [hc s hs,ht r _ hr]
  have hs:∀ s,sm k (fun t=>adj k (Pm_ A col) s t*A t j)=sm k (fun t=>adj k (Pm_ A' col') s t*A' t j):=fun s=>sm_congr fun t htk=>by rw [adj_congr hP,ht t j htk]
  by_cases h:i < k
  · rw [Rk_lt h,Rk_lt h,hs]
  · rw [Rk_ge h,Rk_ge h,hi j,det_congr hP]
    congr 1
    exact sm_congr fun s hsk=>by rw [hs,hi,hc s hsk]
def setC (col:Nat→Nat) (k c:Nat):Nat→Nat:=fun s=>if s=k then c else col s
theorem setC_lt {col:Nat→Nat} {k c s:Nat} (h:s < k):setC col k c s=col s:=by unfold setC; rw [if_neg (by omega)]
theorem setC_at {col:Nat→Nat} {k c:Nat}:setC col k c k=c:=by unfold setC; rw [if_pos rfl]
theorem Rk_setC {A:Mx} {col:Nat→Nat} {k c i j:Nat}:Rk A (setC col k c) k i j=Rk A col k i j:=Rk_congr (fun s hs=>setC_lt hs) (fun _ _ _=>rfl) (fun _=>rfl)
theorem det_setC {A:Mx} {col:Nat→Nat} {k c:Nat}:det k (Pm_ A (setC col k c))=det k (Pm_ A col):=det_congr fun r s hr hs=>by unfold Pm_; rw [setC_lt hs]
theorem Rk_sw {A:Mx} {col:Nat→Nat} {k a i j:Nat} (ha:k≤a):Rk (sw A k a) col k i j=if i=k then Rk A col k a j else if i=a then Rk A col k k j else Rk A col k i j:=by
  have ht:∀ t j,t < k→sw A k a t j=A t j:=fun t j h=>by unfold sw; rw [if_neg (by omega),if_neg (by omega)]
  have hP:∀ r s,r < k→s < k→Pm_ (sw A k a) col r s=Pm_ A col r s:=fun r s hr hs=>by unfold Pm_; rw [ht r _ hr]
  have hrow:∀ b,¬ i < k→¬ b < k→(∀ j,sw A k a i j=A b j)→Rk (sw A k a) col k i j=Rk A col k b j:=by
    intro b h1 h2 h3
    rw [Rk_ge h1,Rk_ge h2,h3,det_congr hP]
    congr 1
    exact sm_congr fun s _=>by
      rw [h3]
      congr 1
      exact sm_congr fun t htk=>by rw [adj_congr hP,ht t j htk]
  by_cases h1:i=k
  · subst h1; rw [if_pos rfl]; exact hrow a (by omega) (by omega) (fun j=>by unfold sw; rw [if_pos rfl])
  · rw [if_neg h1]
    by_cases h2:i=a
    · subst h2; rw [if_pos rfl]; exact hrow k (by omega) (by omega) (fun j=>by unfold sw; rw [if_neg h1,if_pos rfl])
    · rw [if_neg h2]; exact Rk_congr (fun _ _=>rfl) ht (fun j=>by unfold sw; rw [if_neg h1,if_neg h2])
def tr2 (k a i:Nat):Nat:=if i=k then a else if i=a then k else i
theorem tr2_tr2 (k a i:Nat):tr2 k a (tr2 k a i)=i:=by
  unfold tr2
  by_cases e1:i=k
  · rw [if_pos e1]
    by_cases e2:a=k
    · rw [if_pos e2]; omega
    · rw [if_neg e2,if_pos rfl,e1]
  · rw [if_neg e1]
    by_cases e2:i=a
    · rw [if_pos e2,if_pos rfl,e2]
    · rw [if_neg e2,if_neg e1,if_neg e2]
theorem tr2_lt {n k a i:Nat} (hk:k < n) (ha:a < n) (hi:i < n):tr2 k a i < n:=by unfold tr2; split<;>(try split)<;>omega
structure Bar (n w:Nat) (A A':Mx) (col:Nat→Nat) (k c:Nat) (sn:Int):Prop where
  kn:k≤n
  cw:c≤w
  d:det k (Pm_ A' col)≠0
  lt:∀ s,s < k→col s < c
  asc:∀ s t,s < t→t < k→col s < col t
  zero:∀ i j,k≤i→i < n→j < c→Rk A' col k i j=0
  lead:∀ s j,s < k→j < col s→Rk A' col k s j=0
  perm:∃ x xi:Nat→Nat,(∀ i,i < n→x i < n∧xi i < n∧xi (x i)=i∧x (xi i)=i)∧∀ i j,i < n→A' i j=A (x i) j
  sg:(sn=1∨sn= -1)∧det n A'=sn*det n A
theorem Bar.start {n w:Nat} {A:Mx} {col:Nat→Nat}:Bar n w A A col 0 0 1:=
  ⟨by omega,by omega,by simp [det],fun s h=>by omega,fun s t h h'=>by omega,fun i j _ _ h=>by omega,fun s j h=>by omega,⟨id,id,fun i hi=>⟨hi,hi,rfl,rfl⟩,fun i j _=>rfl⟩,.inl rfl,by omega⟩
section
variable {n w:Nat} {A A':Mx} {col:Nat→Nat} {k c:Nat} {sn:Int}
theorem Rk_zero {A:Mx} {col:Nat→Nat} {i j:Nat}:Rk A col 0 i j=A i j:=by
  rw [Rk_ge (by omega)]
  simp [sm,det]
theorem Bar.none (h:Bar n w A A' col k c sn) (hc:c < w) (hz:∀ i,k≤i→i < n→Rk A' col k i c=0):Bar n w A A' col k (c+1) sn:=by
  refine ⟨h.kn,hc,h.d,fun s hs=>by have:=h.lt s hs; omega,h.asc,fun i j h1 h2 h3=>?_,h.lead,h.perm,h.sg⟩
  by_cases hj:j=c
  · subst hj; exact hz i h1 h2
  · exact h.zero i j h1 h2 (by omega)
theorem Bar.pivot (h:Bar n w A A' col k c sn) (hc:c < w) {a:Nat} (hka:k≤a) (han:a < n) (hne:Rk A' col k a c≠0):
    Bar n w A (sw A' k a) (setC col k c) (k+1) (c+1) (if a=k then sn else -sn)∧
    det (k+1) (Pm_ (sw A' k a) (setC col k c))=Rk A' col k a c∧
    (∀ j,Rk (sw A' k a) (setC col k c) (k+1) k j=Rk A' col k a j)∧
    ∀ i j,i≠k→Rk A' col k a c*Rk (sw A' k a) col k i j - Rk (sw A' k a) col k i c*Rk A' col k a j=det k (Pm_ A' col)*Rk (sw A' k a) (setC col k c) (k+1) i j:=by
  have hd0:det k (Pm_ (sw A' k a) (setC col k c))=det k (Pm_ A' col):=by
    rw [det_setC]
    exact det_congr fun r s hr hs=>by unfold Pm_ sw; rw [if_neg (by omega),if_neg (by omega)]
  have hd:det k (Pm_ (sw A' k a) (setC col k c))≠0:=by rw [hd0]; exact h.d
  have hR:∀ i j,Rk (sw A' k a) (setC col k c) k i j=Rk (sw A' k a) col k i j:=fun i j=>Rk_setC
  have hk:∀ j,Rk (sw A' k a) (setC col k c) k k j=Rk A' col k a j:=fun j=>by rw [hR,Rk_sw hka,if_pos rfl]
  have hn:Rk (sw A' k a) (setC col k c) k k (setC col k c k)≠0:=by rw [setC_at,hk]; exact hne
  have hnext:=det_next hd
  rw [setC_at,hk] at hnext
  have htop:∀ j,Rk (sw A' k a) (setC col k c) (k+1) k j=Rk A' col k a j:=fun j=>by rw [Rk_top hd hn,hk]
  have hstep:∀ i j,i≠k→Rk A' col k a c*Rk (sw A' k a) col k i j - Rk (sw A' k a) col k i c*Rk A' col k a j=det k (Pm_ A' col)*Rk (sw A' k a) (setC col k c) (k+1) i j:=by
    intro i j hik
    have:=Rk_step (j:=j) hd hn hik
    rw [setC_at,hk,hk,hd0,hR,hR] at this
    exact this
  refine ⟨⟨by omega,hc,by rw [hnext]; exact hne,fun s hs=>?_,fun s t hs ht=>?_,fun i j h1 h2 h3=>?_,fun s j hs hj=>?_,?_,?_⟩,hnext,htop,hstep⟩
  · by_cases hsk:s=k
    · subst hsk; rw [setC_at]; omega
    · rw [setC_lt (by omega)]; have:=h.lt s (by omega); omega
  · rw [setC_lt (by omega)]
    by_cases htk:t=k
    · subst htk; rw [setC_at]; exact h.lt s hs
    · rw [setC_lt (by omega)]; exact h.asc s t hs (by omega)
  · have hz:∀ j,j < c→Rk (sw A' k a) col k i j=0:=by
      intro j hj
      rw [Rk_sw hka]
      split
      · exact h.zero a j hka han hj
      · split
        · exact h.zero k j (by omega) (by omega) hj
        · exact h.zero i j (by omega) h2 hj
    have hs:=hstep i j (by omega)
    have h0:det k (Pm_ A' col)*Rk (sw A' k a) (setC col k c) (k+1) i j=0:=by
      by_cases hj:j=c
      · subst hj; rw [← hs]; grind
      · rw [← hs,hz j (by omega),h.zero a j hka han (by omega)]; simp
    rcases Int.mul_eq_zero.1 h0 with h4 | h4
    · exact absurd h4 h.d
    · exact h4
  · by_cases hsk:s=k
    · subst hsk
      rw [setC_at] at hj
      rw [htop]
      exact h.zero a j hka han hj
    · rw [setC_lt (by omega)] at hj
      have hlt:=h.lt s (by omega)
      have hss:=hstep s j hsk
      have h1:Rk (sw A' k a) col k s j=0:=by
        rw [Rk_sw hka,if_neg hsk,if_neg (by omega)]
        exact h.lead s j (by omega) hj
      rw [h1,h.zero a j hka han (by omega)] at hss
      have h0:det k (Pm_ A' col)*Rk (sw A' k a) (setC col k c) (k+1) s j=0:=by rw [← hss]; simp
      rcases Int.mul_eq_zero.1 h0 with h4 | h4
      · exact absurd h4 h.d
      · exact h4
  · obtain ⟨x,xi,hx,hA⟩:=h.perm
    have hkn:k < n:=by omega
    refine ⟨fun i=>x (tr2 k a i),fun i=>tr2 k a (xi i),fun i hi=>?_,fun i j hi=>?_⟩
    · have h1:=hx _ (tr2_lt hkn han hi)
      have h2:=hx i hi
      refine ⟨h1.1,tr2_lt hkn han h2.2.1,?_,?_⟩
      · show tr2 k a (xi (x (tr2 k a i)))=i
        rw [h1.2.2.1,tr2_tr2]
      · show x (tr2 k a (tr2 k a (xi i)))=i
        rw [tr2_tr2]; exact h2.2.2.2
    · show sw A' k a i j=A (x (tr2 k a i)) j
      rw [← hA _ j (tr2_lt hkn han hi)]
      unfold sw tr2
      by_cases e1:i=k
      · rw [if_pos e1,if_pos e1]
      · rw [if_neg e1,if_neg e1]
        by_cases e2:i=a
        · rw [if_pos e2,if_pos e2]
        · rw [if_neg e2,if_neg e2]
  · obtain ⟨h1,h2⟩:=h.sg
    by_cases hak:a=k
    · rw [if_pos hak]
      refine ⟨h1,?_⟩
      rw [← h2]
      refine det_congr fun r c _ _=>?_
      unfold sw
      by_cases e:r=k
      · rw [if_pos e,e,hak]
      · rw [if_neg e,if_neg (by omega)]
    · rw [if_neg hak,(det_am n).swap (by omega) han (fun e=>hak e.symm) A',h2]
      exact ⟨by omega,by grind⟩
theorem Bar.det_ok (h:Bar n n A A' col n c sn):det n (Pm_ A' col)=sn*det n A:=by
  have hge:∀ s,s < n→s≤col s:=by
    intro s
    induction s with
    | zero=>intro _; omega
    | succ s ih=>
      intro hs
      have h1:=ih (by omega)
      have h2:=h.asc s (s+1) (by omega) hs
      omega
  have hup:∀ d s,s+d < n→col s+d≤col (s+d):=by
    intro d s
    induction d with
    | zero=>intro _; exact Nat.le_refl _
    | succ d ih=>intro hd; have:=h.asc (s+d) (s+(d+1)) (by omega) (by omega); have:=ih (by omega); omega
  have hid:∀ s,s < n→col s=s:=by
    intro s hs
    have h1:=hge s hs
    have h3:=hup (n - 1 - s) s (by omega)
    have h4:=h.lt (n - 1) (by omega)
    have h5:=h.cw
    rw [show s+(n - 1 - s)=n - 1 by omega] at h3
    omega
  rw [← h.sg.2]
  exact det_congr fun r s hr hs=>by unfold Pm_; rw [hid s hs]
theorem Bar.det0 (h:Bar n n A A' col k n sn) (hk:k < n):det n A=0:=by
  have hz:∀ j,j < n→det k (Pm_ A' col)*A' k j=sm k (fun t=>bt A' col k k t*A' t j):=by
    intro j hj
    have h1:=h.zero k j (Nat.le_refl k) hk hj
    rw [Rk_row (by omega)] at h1
    omega
  have h1:det n (up A' k (fun j=>det k (Pm_ A' col)*A' k j))=det k (Pm_ A' col)*det n A':=(det_am n).scale hk A' _
  have h2:det n (up A' k (fun j=>det k (Pm_ A' col)*A' k j))=det n (up A' k (fun j=>sm k (fun t=>bt A' col k k t*A' t j))):=det_congr fun r c hr hc=>by
    by_cases e:r=k
    · subst e; rw [up_in,up_in]; exact hz c hc
    · rw [up_out e,up_out e]
  have h3:det n (up A' k (fun j=>sm k (fun t=>bt A' col k k t*A' t j)))=sm k (fun t=>bt A' col k k t*det n (up A' k (A' t))):=(det_am n).sum hk A' k (fun t=>bt A' col k k t) (fun t=>A' t)
  have h4:sm k (fun t=>bt A' col k k t*det n (up A' k (A' t)))=0:=sm_zero fun t ht=>by
    have:det n (up A' k (A' t))=0:=(det_am n).equal hk (show t < n by omega) (by omega) _ fun c _=>by rw [up_in,up_out (by omega)]
    rw [this,Int.mul_zero]
  rw [h2,h3,h4] at h1
  have h5:det n A'=0:=by
    rcases Int.mul_eq_zero.1 h1.symm with h6 | h6
    · exact absurd h6 h.d
    · exact h6
  obtain ⟨s1,s2⟩:=h.sg
  rw [h5] at s2
  rcases s1 with rfl | rfl<;>omega
end
end Dt
namespace Dt
section
variable {n w:Nat} {A A':Mx} {col:Nat→Nat} {k c:Nat} {sn:Int}
theorem Bar.span (h:Bar n w A A' col k c sn) {r j:Nat} (hr:r < n) (hj:j < c∨r < k):det k (Pm_ A' col)*A' r j=sm k (fun s=>A' r (col s)*Rk A' col k s j):=by
  by_cases hrk:r < k
  · have e:sm k (fun s=>A' r (col s)*Rk A' col k s j)=sm k (fun s=>sm k fun t=>Pm_ A' col r s*adj k (Pm_ A' col) s t*A' t j):=sm_congr fun s hs=>by
      rw [Rk_lt hs,← sm_mul]
      exact sm_congr fun t _=>by unfold Pm_; grind
    rw [e,sm_swap]
    have e2:sm k (fun t=>sm k fun s=>Pm_ A' col r s*adj k (Pm_ A' col) s t*A' t j)=sm k (fun t=>if t=r then det k (Pm_ A' col)*A' t j else 0):=sm_congr fun t ht=>by
      rw [sm_mul',mul_adj _ hrk ht]
      by_cases h1:r=t
      · rw [if_pos h1,if_pos h1.symm]
      · rw [if_neg h1,if_neg (fun e=>h1 e.symm),Int.zero_mul]
    rw [e2,sm_one (f:=fun t=>det k (Pm_ A' col)*A' t j) hrk]
  · have hjc:j < c:=by omega
    have h1:=h.zero r j (by omega) hr hjc
    rw [Rk_ge hrk] at h1
    have e:sm k (fun s=>A' r (col s)*Rk A' col k s j)=sm k (fun s=>A' r (col s)*sm k (fun t=>adj k (Pm_ A' col) s t*A' t j)):=sm_congr fun s hs=>by rw [Rk_lt hs]
    rw [e]
    omega
theorem Bar.rows (h:Bar n w A A' col k c sn) {P:(Nat→Int)→Prop} (hP:∀ r,r < n→P (A' r)):∀ r,r < n→P (A r):=by
  obtain ⟨x,xi,hx,hA⟩:=h.perm
  intro r hr
  have h1:=hx r hr
  have e:A' (xi r)=A r:=by funext j; rw [hA _ j h1.2.1,h1.2.2.2]
  rw [← e]
  exact hP _ h1.2.1
theorem Bar.kernel (h:Bar n w A A' col k w sn) {fr:Nat} (hfr:fr < w) (hno:∀ s,s < k→col s≠fr) {v:Nat→Int} (h1:v fr=det k (Pm_ A' col)) (hv:∀ s,s < k→v (col s)= - Rk A' col k s fr) (h0:∀ j,j < w→j≠fr→(∀ s,s < k→col s≠j)→v j=0):∀ r,r < n→sm w (fun j=>A r j*v j)=0:=by
  refine h.rows (P:=fun row=>sm w (fun j=>row j*v j)=0) fun r hr=>?_
  have hinj:∀ s t,s < k→t < k→col s=col t→s=t:=by
    intro s t hs ht e
    rcases Nat.lt_trichotomy s t with h5 | h5 | h5
    · have:=h.asc s t h5 ht; omega
    · exact h5
    · have:=h.asc t s h5 hs; omega
  have hsum:sm w (fun j=>A' r j*v j)=sm w (fun j=>(if j=fr then A' r fr*v fr else 0)+sm k fun s=>if j=col s then A' r (col s)*v (col s) else 0):=by
    refine sm_congr fun j hj=>?_
    by_cases hjf:j=fr
    · subst hjf
      rw [if_pos rfl,sm_zero (fun s hs=>if_neg (fun e=>hno s hs e.symm))]; omega
    · rw [if_neg hjf]
      by_cases hp:∃ s,s < k∧col s=j
      · obtain ⟨s,hs,rfl⟩:=hp
        have e:sm k (fun t=>if col s=col t then A' r (col t)*v (col t) else 0)=sm k (fun t=>if t=s then A' r (col s)*v (col s) else 0):=sm_congr fun t ht=>by
          by_cases hts:t=s
          · subst hts; rw [if_pos rfl,if_pos rfl]
          · rw [if_neg (fun e=>hts (hinj t s ht hs e.symm)),if_neg hts]
        rw [e,sm_one (f:=fun _=>A' r (col s)*v (col s)) hs]; omega
      · rw [h0 j hj hjf (fun s hs e=>hp ⟨s,hs,e⟩),sm_zero (fun s hs=>if_neg (fun e=>hp ⟨s,hs,e.symm⟩))]; simp
  have h2:=h.span (j:=fr) hr (.inl hfr)
  rw [hsum,sm_add,sm_one (f:=fun _=>A' r fr*v fr) hfr]
  have e3:sm w (fun j=>sm k fun s=>if j=col s then A' r (col s)*v (col s) else 0)=sm k (fun s=>A' r (col s)*v (col s)):=by
    rw [sm_swap]
    exact sm_congr fun s hs=>sm_one (f:=fun _=>A' r (col s)*v (col s)) (h.lt s hs)
  have e4:sm k (fun s=>A' r (col s)*v (col s))= -1*sm k (fun s=>A' r (col s)*Rk A' col k s fr):=by
    rw [← sm_mul]
    exact sm_congr fun s hs=>by rw [hv s hs]; grind
  rw [e3,e4,h1,← h2]
  grind
theorem Bar.only (h:Bar n w A A' col w w sn) {v:Nat→Int} (hv:∀ r,r < n→sm w (fun j=>A r j*v j)=0):∀ j,j < w→v j=0:=by
  have hid:∀ s,s < w→col s=s:=by
    have hge:∀ s,s < w→s≤col s:=by
      intro s
      induction s with
      | zero=>intro _; omega
      | succ s ih=>intro hs; have h1:=ih (by omega); have h2:=h.asc s (s+1) (by omega) hs; omega
    have hup:∀ d s,s+d < w→col s+d≤col (s+d):=by
      intro d s
      induction d with
      | zero=>intro _; exact Nat.le_refl _
      | succ d ih=>intro hd; have:=h.asc (s+d) (s+(d+1)) (by omega) (by omega); have:=ih (by omega); omega
    intro s hs
    have h1:=hge s hs
    have h3:=hup (w - 1 - s) s (by omega)
    have h4:=h.lt (w - 1) (by omega)
    rw [show s+(w - 1 - s)=w - 1 by omega] at h3
    omega
  obtain ⟨x,xi,hx,hA⟩:=h.perm
  refine col_zero h.d fun r hr=>?_
  have hrn:r < n:=by have:=h.kn; omega
  rw [← hv (x r) (hx r hrn).1]
  exact sm_congr fun j hj=>by unfold Pm_; rw [hid j hj,hA r j hrn]
end
end Dt
namespace Dt
def Lo (n d:Int):Prop:=0 < d∧Int.gcd n d=1
theorem idvd {d n m:Int} (hg:Int.gcd n d=1) (h:d ∣ n*m):d ∣ m:=by
  refine Int.natAbs_dvd_natAbs.1 (Nat.Coprime.dvd_of_dvd_mul_left (k:=d.natAbs) (m:=n.natAbs) ?_ ?_)
  · have:Nat.gcd n.natAbs d.natAbs=1:=hg
    exact (Nat.gcd_comm _ _).trans this
  · rw [← Int.natAbs_mul]; exact Int.natAbs_dvd_natAbs.2 h
def sgcd (a b:Int):Int:=if b < 0 then -(Int.gcd a b:Int) else (Int.gcd a b:Int)
def nrm (a b:Int):Int×Int:=(a / sgcd a b,b / sgcd a b)
theorem Lo.uniq {n d n' d':Int} (h:Lo n d) (h':Lo n' d') (he:n*d'=n'*d):n=n'∧d=d':=by
  have h1:d ∣ d':=by
    have:d ∣ n*d':=⟨n',by rw [he,Int.mul_comm]⟩
    exact idvd h.2 this
  have h2:d' ∣ d:=by
    have:d' ∣ n'*d:=⟨n,by rw [← he,Int.mul_comm]⟩
    exact idvd h'.2 this
  have h3:d=d':=Int.dvd_antisymm (by have:=h.1; omega) (by have:=h'.1; omega) h1 h2
  subst h3
  refine ⟨?_,rfl⟩
  have:=h.1
  exact Int.eq_of_mul_eq_mul_right (by omega) he
theorem sgcd_ne {a b:Int} (hb:b≠0):sgcd a b≠0:=by
  unfold sgcd
  have:Int.gcd a b≠0:=fun h=>hb (Int.eq_zero_of_gcd_eq_zero_right h)
  split<;>omega
theorem sgcd_l (a b:Int):sgcd a b ∣ a:=by
  unfold sgcd
  split
  · exact Int.neg_dvd.2 (Int.gcd_dvd_left a b)
  · exact Int.gcd_dvd_left a b
theorem sgcd_r (a b:Int):sgcd a b ∣ b:=by
  unfold sgcd
  split
  · exact Int.neg_dvd.2 (Int.gcd_dvd_right a b)
  · exact Int.gcd_dvd_right a b
theorem nrm_ok {a b:Int} (hb:b≠0):Lo (nrm a b).1 (nrm a b).2∧(nrm a b).1*b=a*(nrm a b).2:=by
  have hg:=sgcd_ne (a:=a) hb
  obtain ⟨p,hp⟩:=sgcd_l a b
  obtain ⟨q,hq⟩:=sgcd_r a b
  have e1:a / sgcd a b=p:=by
    conv=>lhs; lhs; rw [hp]
    exact Int.mul_ediv_cancel_left _ hg
  have e2:b / sgcd a b=q:=by
    conv=>lhs; lhs; rw [hq]
    exact Int.mul_ediv_cancel_left _ hg
  have hn:nrm a b=(p,q):=by unfold nrm; rw [e1,e2]
  rw [hn]
  have hgg:(sgcd a b).natAbs=Int.gcd a b:=by unfold sgcd; split<;>simp
  refine ⟨⟨?_,?_⟩,?_⟩
  ·
    have hgp:Int.gcd a b≠0:=fun h=>hb (Int.eq_zero_of_gcd_eq_zero_right h)
    refine Classical.byContradiction fun hno=>?_
    have hq0:q≤0:=by omega
    by_cases hbn:b < 0
    · have hs:sgcd a b < 0:=by unfold sgcd; rw [if_pos hbn]; omega
      have:=Int.mul_nonneg_of_nonpos_of_nonpos (show sgcd a b≤0 by omega) hq0
      omega
    · have hs:0≤sgcd a b:=by unfold sgcd; rw [if_neg hbn]; omega
      have:=Int.mul_nonpos_of_nonneg_of_nonpos hs hq0
      omega
  · have h1:Int.gcd a b=(sgcd a b).natAbs*Int.gcd p q:=by
      have h0:Int.gcd (sgcd a b*p) (sgcd a b*q)=(sgcd a b).natAbs*Int.gcd p q:=Int.gcd_mul_left _ _ _
      rw [← hp,← hq] at h0
      exact h0
    rw [hgg] at h1
    have hgp:0 < Int.gcd a b:=Nat.pos_of_ne_zero fun h=>hb (Int.eq_zero_of_gcd_eq_zero_right h)
    have h2:Int.gcd a b*Int.gcd p q=Int.gcd a b*1:=by omega
    exact Nat.eq_of_mul_eq_mul_left hgp h2
  · show p*b=a*q
    conv=>lhs; rw [hq]
    conv=>rhs; rw [hp]
    grind
def Vq (n d A D:Int):Prop:=n*D=A*d
theorem minus_ok {xn xd yn yd zn zd wn wd X Y Z W D:Int} (hD:D≠0) (hW:W≠0) (hx:Lo xn xd) (hy:Lo yn yd) (hz:Lo zn zd) (hw:Lo wn wd) (ex:Vq xn xd X D) (ey:Vq yn yd Y D) (ez:Vq zn zd Z D) (ew:Vq wn wd W D):
    wn≠0∧Vq (nrm (xn*(nrm (yn*zn*wd) (yd*zd*wn)).2 - (nrm (yn*zn*wd) (yd*zd*wn)).1*xd) (xd*(nrm (yn*zn*wd) (yd*zd*wn)).2)).1 (nrm (xn*(nrm (yn*zn*wd) (yd*zd*wn)).2 - (nrm (yn*zn*wd) (yd*zd*wn)).1*xd) (xd*(nrm (yn*zn*wd) (yd*zd*wn)).2)).2 (X*W - Y*Z) (D*W):=by
  unfold Vq at*
  have hw0:wn≠0:=by
    intro h
    rw [h,Int.zero_mul] at ew
    rcases Int.mul_eq_zero.1 ew.symm with h1 | h1
    · exact hW h1
    · have:=hw.1; omega
  refine ⟨hw0,?_⟩
  have hyd:=hy.1
  have hzd:=hz.1
  have hxd:=hx.1
  have hwd:=hw.1
  have hden:yd*zd*wn≠0:=Int.mul_ne_zero (Int.mul_ne_zero (by omega) (by omega)) hw0
  obtain ⟨p1,p2⟩:=nrm_ok (a:=yn*zn*wd) hden
  generalize nrm (yn*zn*wd) (yd*zd*wn)=p at*
  obtain ⟨pn,pd⟩:=p
  simp only at p1 p2 ⊢
  have hpd:=p1.1
  have hden2:xd*pd≠0:=Int.mul_ne_zero (by omega) (by omega)
  obtain ⟨q1,q2⟩:=nrm_ok (a:=xn*pd - pn*xd) hden2
  generalize nrm (xn*pd - pn*xd) (xd*pd)=q at*
  obtain ⟨qn,qd⟩:=q
  simp only at q1 q2 ⊢
  have hp:pn*(D*W)=Y*Z*pd:=by
    have h0:(yd*zd*wd*D)*(pn*(D*W) - Y*Z*pd)=0:=by
      have a1:pn*(yd*zd*wn)=yn*zn*wd*pd:=p2
      have a2:wn*D=W*wd:=ew
      have a3:yn*D=Y*yd:=ey
      have a4:zn*D=Z*zd:=ez
      have b1:(yd*zd*wd*D)*(pn*(D*W))=(pn*(yd*zd*wn))*D*D*D:=by
        have:W*wd=wn*D:=a2.symm
        grind
      have b2:(yd*zd*wd*D)*(Y*Z*pd)=(yn*zn*wd*pd)*D*D*D:=by grind
      rw [Int.mul_sub,b1,b2,a1]; omega
    rcases Int.mul_eq_zero.1 h0 with h1 | h1
    · exact absurd h1 (Int.mul_ne_zero (Int.mul_ne_zero (Int.mul_ne_zero (by omega) (by omega)) (by omega)) hD)
    · omega
  have h0:(xd*pd)*(qn*(D*W) - (X*W - Y*Z)*qd)=0:=by
    have c1:(xd*pd)*(qn*(D*W))=(xn*pd - pn*xd)*qd*(D*W):=by
      have:=q2
      grind
    have c2:(xn*pd - pn*xd)*qd*(D*W)=(xn*D*W*pd - pn*(D*W)*xd)*qd:=by grind
    rw [Int.mul_sub,c1,c2,hp,ex]
    grind
  rcases Int.mul_eq_zero.1 h0 with h1 | h1
  · exact absurd h1 hden2
  · omega
end Dt
namespace Dt
def Bd (M x:Int):Prop:=-M≤x∧x≤M
theorem Bd.mono {M N x:Int} (h:Bd M x) (hMN:M≤N):Bd N x:=⟨by have:=h.1; omega,by have:=h.2; omega⟩
theorem Bd.nn {M x:Int} (h:Bd M x):0≤M:=by have:=h.1; have:=h.2; omega
theorem Bd.add {M N x y:Int} (h:Bd M x) (h':Bd N y):Bd (M+N) (x+y):=⟨by have:=h.1; have:=h'.1; omega,by have:=h.2; have:=h'.2; omega⟩
theorem Bd.sub {M N x y:Int} (h:Bd M x) (h':Bd N y):Bd (M+N) (x - y):=⟨by have:=h.1; have:=h'.2; omega,by have:=h.2; have:=h'.1; omega⟩
theorem Bd.neg {M x:Int} (h:Bd M x):Bd M (-x):=⟨by have:=h.2; omega,by have:=h.1; omega⟩
theorem Bd.mul {M N x y:Int} (h:Bd M x) (h':Bd N y):Bd (M*N) (x*y):=by
  have hM:=h.nn
  have hN:=h'.nn
  obtain ⟨a1,a2⟩:=h
  obtain ⟨b1,b2⟩:=h'
  have k1:0≤(M - x)*(N - y):=Int.mul_nonneg (by omega) (by omega)
  have k2:0≤(M+x)*(N+y):=Int.mul_nonneg (by omega) (by omega)
  have k3:0≤(M - x)*(N+y):=Int.mul_nonneg (by omega) (by omega)
  have k4:0≤(M+x)*(N - y):=Int.mul_nonneg (by omega) (by omega)
  have e1:(M - x)*(N - y)=M*N - M*y - x*N+x*y:=by grind
  have e2:(M+x)*(N+y)=M*N+M*y+x*N+x*y:=by grind
  have e3:(M - x)*(N+y)=M*N+M*y - x*N - x*y:=by grind
  have e4:(M+x)*(N - y)=M*N - M*y+x*N - x*y:=by grind
  rw [e1] at k1
  rw [e2] at k2
  rw [e3] at k3
  rw [e4] at k4
  exact ⟨by omega,by omega⟩
theorem sm_bd {n:Nat} {M:Int} {f:Nat→Int} (hM:0≤M) (h:∀ i,i < n→Bd M (f i)):Bd (n*M) (sm n f):=by
  induction n with
  | zero=>exact ⟨by simp [sm],by simp [sm]⟩
  | succ n ih=>
    have h1:=ih fun i hi=>h i (by omega)
    have h2:=(h1.add (h n (by omega)))
    have e:((n+1:Nat):Int)*M=n*M+M:=by rw [Int.natCast_add,Int.add_mul]; simp
    rw [e]; exact h2
theorem nat_le_mul {n K:Nat} {X:Int} (h:n≤K) (hX:0≤X):(n:Int)*X≤K*X:=Int.mul_le_mul_of_nonneg_right (by omega) hX
theorem pow_nn {X:Int} (h:0≤X) (n:Nat):0≤X ^ n:=Int.pow_nonneg h
theorem det_bd {K:Nat} {M:Int} (hM:1≤M):∀ {n:Nat} {A:Mx},n≤K→(∀ i j,i < n→j < n→Bd M (A i j))→Bd ((K*M) ^ n) (det n A)
  | 0,A,_,_=>by rw [Int.pow_zero]; exact ⟨by show (-1:Int)≤1; omega,Int.le_refl _⟩
  | n+1,A,hn,h=>by
    have hK:0≤(K:Int)*M:=Int.mul_nonneg (by omega) (by omega)
    have hp:=pow_nn hK n
    have hMp:0≤M*((K*M) ^ n):=Int.mul_nonneg (by omega) hp
    have h1:∀ j,j < n+1→Bd (M*(K*M) ^ n) (sg j*A 0 j*det n (mn A j)):=by
      intro j hj
      have h2:Bd M (sg j*A 0 j):=by
        have h3:=h 0 j (by omega) hj
        unfold sg
        split
        · rw [Int.one_mul]; exact h3
        · have:(-1:Int)*A 0 j= - A 0 j:=by omega
          rw [this]; exact h3.neg
      exact h2.mul (det_bd hM (by omega) fun i k hi hk=>h _ _ (by omega) (sk_lt hj hk))
    have h2:=sm_bd (n:=n+1) hMp h1
    rw [det]
    refine h2.mono ?_
    have h3:=nat_le_mul hn hMp
    rw [Int.pow_succ]
    have e:(K*M) ^ n*(K*M)=K*(M*(K*M) ^ n):=by grind
    rw [e]; exact h3
theorem adj_bd {K:Nat} {M:Int} (hM:1≤M) {n:Nat} {A:Mx} (hn:n≤K) (h:∀ i j,i < n→j < n→Bd M (A i j)) {i j:Nat}:Bd ((K*M) ^ n) (adj n A i j):=by
  unfold adj
  refine det_bd hM hn fun r c hr hc=>?_
  unfold up unit
  split
  · split
    · exact ⟨by omega,hM⟩
    · exact ⟨by omega,by omega⟩
  · exact h r c hr hc
theorem Rk_bd {K n w:Nat} {M:Int} {A:Mx} {col:Nat→Nat} {k i j:Nat} (hM:1≤M) (hK:1≤K) (hA:∀ i j,i < n→j < w→Bd M (A i j)) (hk:k≤n) (hkK:k≤K) (hc:∀ s,s < k→col s < w) (hi:i < n) (hj:j < w):Bd (2*(K*M) ^ (k+2)) (Rk A col k i j)∧Bd (2*(K*M) ^ (k+2)) (det k (Pm_ A col)):=by
  have hKM:1≤(K:Int)*M:=by
    have:(1:Int)*1≤K*M:=Int.mul_le_mul (by omega) hM (by omega) (by omega)
    omega
  have hp:=pow_nn (show 0≤(K:Int)*M by omega) k
  have hP:∀ r s,r < k→s < k→Bd M (Pm_ A col r s):=fun r s hr hs=>hA _ _ (by omega) (hc s hs)
  have hd:=det_bd hM hkK hP
  have hadj:∀ a b,Bd ((K*M) ^ k) (adj k (Pm_ A col) a b):=fun a b=>adj_bd hM hkK hP
  have hsum:∀ a,Bd ((K*M) ^ (k+1)) (sm k fun t=>adj k (Pm_ A col) a t*A t j):=by
    intro a
    have hpM:0≤(K*M) ^ k*M:=Int.mul_nonneg hp (by omega)
    refine (sm_bd hpM fun t ht=>(hadj a t).mul (hA t j (by omega) hj)).mono ?_
    have h3:=nat_le_mul hkK hpM
    have e:((K:Int)*M) ^ (k+1)=K*((K*M) ^ k*M):=by rw [Int.pow_succ]; grind
    rw [e]; exact h3
  have g1:((K:Int)*M) ^ k≤(K*M) ^ (k+1):=by
    rw [Int.pow_succ]
    have:(K*M) ^ k*1≤(K*M) ^ k*(K*M):=Int.mul_le_mul_of_nonneg_left hKM hp
    omega
  have g2:((K:Int)*M) ^ (k+1)≤(K*M) ^ (k+2):=by
    rw [Int.pow_succ _ (k+1)]
    have:(K*M) ^ (k+1)*1≤(K*M) ^ (k+1)*(K*M):=Int.mul_le_mul_of_nonneg_left hKM (by omega)
    omega
  refine ⟨?_,hd.mono (by omega)⟩
  by_cases hik:i < k
  · rw [Rk_lt hik]; exact (hsum i).mono (by omega)
  · rw [Rk_ge hik]
    have h1:Bd ((K*M) ^ k*M) (det k (Pm_ A col)*A i j):=hd.mul (hA i j hi hj)
    have hpM:0≤M*(K*M) ^ (k+1):=Int.mul_nonneg (by omega) (by omega)
    have h2:Bd (k*(M*(K*M) ^ (k+1))) (sm k fun s=>A i (col s)*sm k (fun t=>adj k (Pm_ A col) s t*A t j)):=sm_bd hpM fun s hs=>(hA i (col s) hi (hc s hs)).mul (hsum s)
    refine (h1.sub h2).mono ?_
    have h3:=nat_le_mul hkK hpM
    have e:((K:Int)*M) ^ (k+2)=K*(M*(K*M) ^ (k+1)):=by rw [Int.pow_succ _ (k+1)]; grind
    have h4:(K*M) ^ k*M≤(K*M) ^ k*(K*M):=by
      refine Int.mul_le_mul_of_nonneg_left ?_ hp
      have:1*M≤K*M:=Int.mul_le_mul_of_nonneg_right (by omega) (by omega)
      omega
    have e2:((K:Int)*M) ^ (k+1)=(K*M) ^ k*(K*M):=Int.pow_succ _ _
    omega
end Dt
namespace Dt
def gf (f:Nat→Int):Nat→Int
  | 0=>0
  | n+1=>((Int.gcd (gf f n) (f n):Nat):Int)
end Dt
namespace Dt
section
variable {n w:Nat} {A A':Mx} {col:Nat→Nat} {k:Nat} {sn:Int}
theorem Bar.le (h:Bar n w A A' col k w sn):k≤w:=by
  have hge:∀ d s,s+d < k→col s+d≤col (s+d):=by
    intro d s
    induction d with
    | zero=>intro _; exact Nat.le_refl _
    | succ d ih=>intro hd; have:=h.asc (s+d) (s+(d+1)) (by omega) (by omega); have:=ih (by omega); omega
  rcases Nat.eq_zero_or_pos k with h0 | h0
  · omega
  · have h1:=hge (k - 1) 0 (by omega)
    have h2:=h.lt (k - 1) (by omega)
    rw [Nat.zero_add] at h1
    omega
end
end Dt
namespace Dt
theorem nn_of_mul {a x:Int} (ha:0 < a) (h:0≤a*x):0≤x:=by
  refine Classical.byContradiction fun hc=>?_
  have:=Int.mul_neg_of_pos_of_neg ha (show x < 0 by omega)
  omega
theorem pos_of_mul {a x:Int} (ha:0 < a) (h:0 < a*x):0 < x:=by
  refine Classical.byContradiction fun hc=>?_
  have:=Int.mul_nonpos_of_nonneg_of_nonpos (show 0≤a by omega) (show x≤0 by omega)
  omega
theorem sq_le0 {x:Int} (h:x*x≤0):x=0:=sq_zero (by have:=sq_nn x; omega)
theorem psd2 {a b f:Int} (ha:0≤a) (hb:0≤b) (hd:f*f≤a*b) (y z:Int):0≤a*(y*y)+2*(f*(y*z))+b*(z*z):=by
  by_cases h0:a=0
  · subst h0
    have hf:f=0:=sq_le0 (by rw [Int.zero_mul] at hd; exact hd)
    subst hf
    have:=Int.mul_nonneg hb (sq_nn z)
    omega
  · refine nn_of_mul (a:=a) (by omega) ?_
    have e:a*(a*(y*y)+2*(f*(y*z))+b*(z*z))=(a*y+f*z)*(a*y+f*z)+(a*b - f*f)*(z*z):=by grind
    rw [e]
    have h1:=sq_nn (a*y+f*z)
    have h2:=Int.mul_nonneg (show 0≤a*b - f*f by omega) (sq_nn z)
    omega
theorem two_nn {b c f:Int} (h1:0 < b+c) (h2:0 < b*c - f*f):0≤b∧0≤c:=by
  have hf:=sq_nn f
  refine ⟨Classical.byContradiction fun hc=>?_,Classical.byContradiction fun hc=>?_⟩
  · have:=Int.mul_neg_of_neg_of_pos (show b < 0 by omega) (show 0 < c by omega)
    omega
  · have:=Int.mul_neg_of_pos_of_neg (show 0 < b by omega) (show c < 0 by omega)
    omega
theorem diag3 {a b c f g h:Int} (e1:0≤a+b+c) (e2:0≤a*b+b*c+a*c - f*f - g*g - h*h) (e3:0≤a*(b*c - f*f) - (c*(h*h) - 2*(f*(g*h))+b*(g*g))):0≤a:=by
  refine Classical.byContradiction fun hc=>?_
  have hg:=sq_nn g
  have hh:=sq_nn h
  have k1:0 < (-a)*(b+c):=Int.mul_pos (by omega) (by omega)
  have e:(-a)*(b+c)= -(a*b) - a*c:=by grind
  have h2:0 < b*c - f*f:=by omega
  obtain ⟨hb,hc'⟩:=two_nn (b:=b) (c:=c) (f:=f) (by omega) h2
  have h3:=psd2 (a:=c) (b:=b) (f:=-f) hc' hb (by have: -f* -f=f*f:=(by grind); rw [this,Int.mul_comm c b]; omega) h g
  have h4:a*(b*c - f*f) < 0:=Int.mul_neg_of_neg_of_pos (by omega) h2
  have e5:c*(h*h)+2*(-f*(h*g))+b*(g*g)=c*(h*h) - 2*(f*(g*h))+b*(g*g):=by grind
  omega
def t1 (a b c f g h:Int):Int:=a+b+c
def t2 (a b c f g h:Int):Int:=a*b+b*c+a*c - f*f - g*g - h*h
def t3 (a b c f g h:Int):Int:=a*(b*c - f*f) - (c*(h*h) - 2*(f*(g*h))+b*(g*g))
def q3 (a b c f g h x y z:Int):Int:=a*(x*x)+b*(y*y)+c*(z*z)+2*(f*(y*z))+2*(g*(x*z))+2*(h*(x*y))
theorem min3 {a b c f g h:Int} (e1:0≤t1 a b c f g h) (e2:0≤t2 a b c f g h) (e3:0≤t3 a b c f g h):(0≤a∧0≤b∧0≤c)∧0≤b*c - f*f∧0≤a*c - g*g∧0≤a*b - h*h:=by
  unfold t1 at e1
  unfold t2 at e2
  unfold t3 at e3
  have rot:∀ {a b c f g h:Int},0≤a+b+c→0≤a*b+b*c+a*c - f*f - g*g - h*h→0≤a*(b*c - f*f) - (c*(h*h) - 2*(f*(g*h))+b*(g*g))→0≤a∧0≤b∧0≤c:=fun {a b c f g h} e1 e2 e3=>⟨diag3 e1 e2 e3,diag3 (a:=b) (b:=c) (c:=a) (f:=g) (g:=h) (h:=f) (by omega) (by grind) (by grind),diag3 (a:=c) (b:=a) (c:=b) (f:=h) (g:=f) (h:=g) (by omega) (by grind) (by grind)⟩
  have k1:0≤(a+b+c)*(a*(b*c - f*f) - (c*(h*h) - 2*(f*(g*h))+b*(g*g))):=Int.mul_nonneg e1 e3
  have k2:=sq_nn (a*(b*c - f*f) - (c*(h*h) - 2*(f*(g*h))+b*(g*g)))
  refine ⟨rot e1 e2 e3,?_⟩
  exact rot (a:=b*c - f*f) (b:=a*c - g*g) (c:=a*b - h*h) (f:=g*h - a*f) (g:=f*h - b*g) (h:=f*g - c*h) (by grind) (by grind) (by grind)
theorem psd3 {a b c f g h:Int} (e1:0≤t1 a b c f g h) (e2:0≤t2 a b c f g h) (e3:0≤t3 a b c f g h) (x y z:Int):0≤q3 a b c f g h x y z:=by
  obtain ⟨⟨ha,hb,hc⟩,m1,m2,m3⟩:=min3 e1 e2 e3
  unfold q3
  by_cases h0:a=0
  · subst h0
    have hg:g=0:=sq_le0 (by rw [Int.zero_mul] at m2; omega)
    have hh:h=0:=sq_le0 (by rw [Int.zero_mul] at m3; omega)
    subst hg hh
    have:=psd2 (a:=b) (b:=c) (f:=f) hb hc (by omega) y z
    omega
  · refine nn_of_mul (a:=a) (by omega) ?_
    have k1:=psd2 (a:=a*b - h*h) (b:=a*c - g*g) (f:=a*f - g*h) m3 m2 (by
      have:0≤a*t3 a b c f g h:=Int.mul_nonneg ha e3
      unfold t3 at this
      grind) y z
    have k2:=sq_nn (a*x+h*y+g*z)
    have e:a*(a*(x*x)+b*(y*y)+c*(z*z)+2*(f*(y*z))+2*(g*(x*z))+2*(h*(x*y)))=(a*x+h*y+g*z)*(a*x+h*y+g*z)+((a*b - h*h)*(y*y)+2*((a*f - g*h)*(y*z))+(a*c - g*g)*(z*z)):=by grind
    rw [e]; omega
def u1 (d x y z a b c f g h:Int):Int:=d+t1 a b c f g h
def u2 (d x y z a b c f g h:Int):Int:=d*t1 a b c f g h+t2 a b c f g h - (x*x+y*y+z*z)
def u3 (d x y z a b c f g h:Int):Int:=d*t2 a b c f g h+t3 a b c f g h - q3 (b+c) (a+c) (a+b) (-f) (-g) (-h) x y z
def u4 (d x y z a b c f g h:Int):Int:=d*t3 a b c f g h - q3 (b*c - f*f) (a*c - g*g) (a*b - h*h) (g*h - a*f) (f*h - b*g) (f*g - c*h) x y z
theorem diag4 {d x y z a b c f g h:Int} (h1:u1 d x y z a b c f g h≤0) (h2:0≤u2 d x y z a b c f g h) (h3:u3 d x y z a b c f g h≤0) (h4:0≤u4 d x y z a b c f g h):d≤0:=by
  refine Classical.byContradiction fun hc=>?_
  have hd:0 < d:=by omega
  unfold u1 at h1
  unfold u2 at h2
  unfold u3 at h3
  unfold u4 at h4
  have hx:=sq_nn x
  have hy:=sq_nn y
  have hz:=sq_nn z
  generalize e1:t1 a b c f g h=c1 at*
  generalize e2:t2 a b c f g h=c2 at*
  generalize e3:t3 a b c f g h=c3 at*
  have k1:d*c1 < 0:=Int.mul_neg_of_pos_of_neg hd (by omega)
  have hc2:0 < c2:=by omega
  by_cases hc3:0≤c3
  · have p:=psd3 (a:=-(b+c)) (b:=-(a+c)) (c:=-(a+b)) (f:=f) (g:=g) (h:=h) (by unfold t1 at *; omega) (by
      have:t2 (-(b+c)) (-(a+c)) (-(a+b)) f g h=c1*c1+c2:=by rw [← e1,← e2]; unfold t1 t2; grind
      rw [this]
      have:=sq_nn c1
      omega) (by
      have:t3 (-(b+c)) (-(a+c)) (-(a+b)) f g h=c3+(-c1)*c2:=by rw [← e1,← e2,← e3]; unfold t1 t2 t3; grind
      rw [this]
      have:0 < (-c1)*c2:=Int.mul_pos (by omega) hc2
      omega) x y z
    have e:q3 (b+c) (a+c) (a+b) (-f) (-g) (-h) x y z= - q3 (-(b+c)) (-(a+c)) (-(a+b)) f g h x y z:=by unfold q3; grind
    have k2:0 < d*c2:=Int.mul_pos hd hc2
    omega
  · have p:=psd3 (a:=b*c - f*f) (b:=a*c - g*g) (c:=a*b - h*h) (f:=g*h - a*f) (g:=f*h - b*g) (h:=f*g - c*h) (by
      have:t1 (b*c - f*f) (a*c - g*g) (a*b - h*h) (g*h - a*f) (f*h - b*g) (f*g - c*h)=c2:=by rw [← e2]; unfold t1 t2; grind
      omega) (by
      have:t2 (b*c - f*f) (a*c - g*g) (a*b - h*h) (g*h - a*f) (f*h - b*g) (f*g - c*h)=c1*c3:=by rw [← e1,← e3]; unfold t1 t2 t3; grind
      rw [this]
      exact Int.mul_nonneg_of_nonpos_of_nonpos (by omega) (by omega)) (by
      have:t3 (b*c - f*f) (a*c - g*g) (a*b - h*h) (g*h - a*f) (f*h - b*g) (f*g - c*h)=c3*c3:=by rw [← e3]; unfold t3; grind
      rw [this]
      exact sq_nn c3) x y z
    have k2:d*c3 < 0:=Int.mul_neg_of_pos_of_neg hd (by omega)
    omega
theorem block3 {d x y z a b c f g h:Int} (b1:0 < t1 a b c f g h) (b2:0 < t2 a b c f g h) (b3:0 < t3 a b c f g h):¬ (u1 d x y z a b c f g h≤0∧0≤u2 d x y z a b c f g h)∧¬ (u2 d x y z a b c f g h≤0∧0≤u3 d x y z a b c f g h):=by
  have hx:=sq_nn x
  have hy:=sq_nn y
  have hz:=sq_nn z
  have n1:2*t2 a b c f g h≤t1 a b c f g h*t1 a b c f g h:=by
    have e:t1 a b c f g h*t1 a b c f g h=2*t2 a b c f g h+(a*a+b*b+c*c+2*(f*f)+2*(g*g)+2*(h*h)):=by unfold t1 t2; grind
    have:=sq_nn a; have:=sq_nn b; have:=sq_nn c; have:=sq_nn f; have:=sq_nn g; have:=sq_nn h
    omega
  have n2:2*(t1 a b c f g h*t3 a b c f g h)≤t2 a b c f g h*t2 a b c f g h:=by
    have e:t2 a b c f g h*t2 a b c f g h=2*(t1 a b c f g h*t3 a b c f g h)+((b*c - f*f)*(b*c - f*f)+(a*c - g*g)*(a*c - g*g)+(a*b - h*h)*(a*b - h*h)+2*((g*h - a*f)*(g*h - a*f))+2*((f*h - b*g)*(f*h - b*g))+2*((f*g - c*h)*(f*g - c*h))):=by unfold t1 t2 t3; grind
    have:=sq_nn (b*c - f*f); have:=sq_nn (a*c - g*g); have:=sq_nn (a*b - h*h); have:=sq_nn (g*h - a*f); have:=sq_nn (f*h - b*g); have:=sq_nn (f*g - c*h)
    omega
  have p:=psd3 (a:=b*c - f*f) (b:=a*c - g*g) (c:=a*b - h*h) (f:=g*h - a*f) (g:=f*h - b*g) (h:=f*g - c*h) (by
      have:t1 (b*c - f*f) (a*c - g*g) (a*b - h*h) (g*h - a*f) (f*h - b*g) (f*g - c*h)=t2 a b c f g h:=by unfold t1 t2; grind
      omega) (by
      have:t2 (b*c - f*f) (a*c - g*g) (a*b - h*h) (g*h - a*f) (f*h - b*g) (f*g - c*h)=t1 a b c f g h*t3 a b c f g h:=by unfold t1 t2 t3; grind
      rw [this]
      exact Int.mul_nonneg (by omega) (by omega)) (by
      have:t3 (b*c - f*f) (a*c - g*g) (a*b - h*h) (g*h - a*f) (f*h - b*g) (f*g - c*h)=t3 a b c f g h*t3 a b c f g h:=by unfold t3; grind
      rw [this]
      exact sq_nn _) x y z
  have cs:0≤t1 a b c f g h*q3 (b+c) (a+c) (a+b) (-f) (-g) (-h) x y z - t2 a b c f g h*(x*x+y*y+z*z):=by
    have e:t1 a b c f g h*q3 (b+c) (a+c) (a+b) (-f) (-g) (-h) x y z - t2 a b c f g h*(x*x+y*y+z*z)=q3 (b*c - f*f) (a*c - g*g) (a*b - h*h) (g*h - a*f) (f*h - b*g) (f*g - c*h) x y z+((a*y - h*x)*(a*y - h*x)+(a*z - g*x)*(a*z - g*x)+(h*z - g*y)*(h*z - g*y)+((h*y - b*x)*(h*y - b*x)+(h*z - f*x)*(h*z - f*x)+(b*z - f*y)*(b*z - f*y))+((g*y - f*x)*(g*y - f*x)+(g*z - c*x)*(g*z - c*x)+(f*z - c*y)*(f*z - c*y))):=by unfold q3 t1 t2; grind
    have:=sq_nn (a*y - h*x); have:=sq_nn (a*z - g*x); have:=sq_nn (h*z - g*y)
    have:=sq_nn (h*y - b*x); have:=sq_nn (h*z - f*x); have:=sq_nn (b*z - f*y)
    have:=sq_nn (g*y - f*x); have:=sq_nn (g*z - c*x); have:=sq_nn (f*z - c*y)
    omega
  unfold u1 u2 u3
  generalize t1 a b c f g h=c1 at*
  generalize t2 a b c f g h=c2 at*
  generalize t3 a b c f g h=c3 at*
  generalize q3 (b+c) (a+c) (a+b) (-f) (-g) (-h) x y z=q at*
  have s1:=Int.mul_pos b1 b3
  refine ⟨fun ⟨h1,h2⟩=>?_,fun ⟨h1,h2⟩=>?_⟩
  · have k:d*c1≤(-c1)*c1:=Int.mul_le_mul_of_nonneg_right (by omega) (by omega)
    have e:(-c1)*c1= -(c1*c1):=by grind
    omega
  · have k1:0≤c1*(d*c2+c3 - q):=Int.mul_nonneg (by omega) h2
    have k2:0≤c2*(-(d*c1+c2 - (x*x+y*y+z*z))):=Int.mul_nonneg (by omega) (by omega)
    have e:c1*(d*c2+c3 - q)+c2*(-(d*c1+c2 - (x*x+y*y+z*z)))=c1*c3 - c2*c2 - (c1*q - c2*(x*x+y*y+z*z)):=by grind
    omega
end Dt
namespace Dt
def tr (n:Nat) (A:Mx):Int:=sm n fun i=>A i i
theorem mul_ass (n:Nat) (A B C:Mx):mul n (mul n A B) C=mul n A (mul n B C):=by
  funext r c
  show sm n (fun k=>sm n (fun l=>A r l*B l k)*C k c)=sm n (fun l=>A r l*sm n fun k=>B l k*C k c)
  have e1:sm n (fun k=>sm n (fun l=>A r l*B l k)*C k c)=sm n (fun k=>sm n fun l=>A r l*B l k*C k c):=sm_congr fun k _=>by rw [← sm_mul']
  rw [e1,sm_swap]
  exact sm_congr fun l _=>by rw [← sm_mul]; exact sm_congr fun k _=>by rw [Int.mul_assoc]
theorem tr_comm (n:Nat) (A B:Mx):tr n (mul n A B)=tr n (mul n B A):=by
  show sm n (fun i=>sm n fun k=>A i k*B k i)=sm n fun i=>sm n fun k=>B i k*A k i
  rw [sm_swap]
  exact sm_congr fun i _=>sm_congr fun k _=>Int.mul_comm ..
theorem tr_congr {n:Nat} {A B:Mx} (h:∀ i j,i < n→j < n→A i j=B i j):tr n A=tr n B:=sm_congr fun i hi=>h i i hi hi
theorem mul_congr {n:Nat} {A B A' B':Mx} (h:∀ i j,i < n→j < n→A i j=A' i j) (h':∀ i j,i < n→j < n→B i j=B' i j):∀ i j,i < n→j < n→mul n A B i j=mul n A' B' i j:=fun i j hi hj=>sm_congr fun k hk=>by rw [h i k hi hk,h' k j hk hj]
def pt (n:Nat) (A:Mx):Nat→Mx
  | 0=>A
  | k+1=>mul n A (pt n A k)
def pw4 (A:Mx) (k:Nat):Int:=tr 4 (pt 4 A k)
theorem pt_congr {n:Nat} {A B:Mx} (h:∀ i j,i < n→j < n→A i j=B i j):∀ k i j,i < n→j < n→pt n A k i j=pt n B k i j
  | 0=>h
  | k+1=>mul_congr h (pt_congr h k)
theorem pt_rot (n:Nat) (X Y:Mx):∀ k,mul n (pt n (mul n X Y) k) X=mul n X (pt n (mul n Y X) k)
  | 0=>mul_ass n X Y X
  | k+1=>by
    show mul n (mul n (mul n X Y) (pt n (mul n X Y) k)) X=mul n X (mul n (mul n Y X) (pt n (mul n Y X) k))
    rw [mul_ass,pt_rot n X Y k,mul_ass,mul_ass]
theorem pt_tr (n:Nat) (X Y:Mx):∀ k,tr n (pt n (mul n X Y) k)=tr n (pt n (mul n Y X) k)
  | 0=>tr_comm n X Y
  | k+1=>by
    show tr n (mul n (mul n X Y) (pt n (mul n X Y) k))=tr n (mul n (mul n Y X) (pt n (mul n Y X) k))
    rw [mul_ass,tr_comm,mul_ass,mul_ass,pt_rot n X Y k]
structure Es (A:Mx) (e1 e2 e3 e4:Int):Prop where
  h1:e1=pw4 A 0
  h2:2*e2=e1*pw4 A 0 - pw4 A 1
  h3:3*e3=e2*pw4 A 0 - e1*pw4 A 1+pw4 A 2
  h4:4*e4=e3*pw4 A 0 - e2*pw4 A 1+e1*pw4 A 2 - pw4 A 3
theorem Es.uniq {A:Mx} {e1 e2 e3 e4 f1 f2 f3 f4:Int} (h:Es A e1 e2 e3 e4) (h':Es A f1 f2 f3 f4):e1=f1∧e2=f2∧e3=f3∧e4=f4:=by
  have a1:e1=f1:=by rw [h.h1,h'.h1]
  subst a1
  have a2:e2=f2:=by have:=h.h2; have:=h'.h2; omega
  subst a2
  have a3:e3=f3:=by have:=h.h3; have:=h'.h3; omega
  subst a3
  exact ⟨rfl,rfl,rfl,by have:=h.h4; have:=h'.h4; omega⟩
theorem Es.scale {A A':Mx} {N e1 e2 e3 e4:Int} (h:Es A e1 e2 e3 e4) (h0:pw4 A' 0=N*pw4 A 0) (h1:pw4 A' 1=N*N*pw4 A 1) (h2:pw4 A' 2=N*N*N*pw4 A 2) (h3:pw4 A' 3=N*N*N*N*pw4 A 3):Es A' (N*e1) (N*N*e2) (N*N*N*e3) (N*N*N*N*e4):=by
  obtain ⟨a1,a2,a3,a4⟩:=h
  exact ⟨by rw [h0,a1],by rw [h0,h1]; grind,by rw [h0,h1,h2]; grind,by rw [h0,h1,h2,h3]; grind⟩
theorem Es.congr {A A':Mx} {e1 e2 e3 e4:Int} (h:Es A e1 e2 e3 e4) (hh:∀ k,k < 4→pw4 A' k=pw4 A k):Es A' e1 e2 e3 e4:=by
  obtain ⟨a1,a2,a3,a4⟩:=h
  have h0:=hh 0 (by omega)
  have h1:=hh 1 (by omega)
  have h2:=hh 2 (by omega)
  have h3:=hh 3 (by omega)
  exact ⟨by rw [h0]; exact a1,by rw [h0,h1]; exact a2,by rw [h0,h1,h2]; exact a3,by rw [h0,h1,h2,h3]; exact a4⟩
theorem pw4_congr {A B:Mx} (h:∀ i j,i < 4→j < 4→A i j=B i j) (k:Nat):pw4 A k=pw4 B k:=tr_congr (pt_congr h k)
theorem pw4_rot (X Y:Mx) (k:Nat):pw4 (mul 4 X Y) k=pw4 (mul 4 Y X) k:=pt_tr 4 X Y k
def ipw (N:Int):Nat→Int
  | 0=>1
  | k+1=>N*ipw N k
theorem pt_scale (N:Int) (A:Mx):∀ k,pt 4 (fun i j=>N*A i j) k=fun i j=>ipw N (k+1)*pt 4 A k i j
  | 0=>by funext i j; show N*A i j=N*1*A i j; rw [Int.mul_one]
  | k+1=>by
    show mul 4 (fun i j=>N*A i j) (pt 4 (fun i j=>N*A i j) k)=_
    rw [pt_scale N A k]
    funext i j
    show sm 4 (fun l=>N*A i l*(ipw N (k+1)*pt 4 A k l j))=N*ipw N (k+1)*sm 4 (fun l=>A i l*pt 4 A k l j)
    rw [← sm_mul]
    exact sm_congr fun l _=>by grind
theorem pw4_scale (N:Int) (A:Mx) (k:Nat):pw4 (fun i j=>N*A i j) k=ipw N (k+1)*pw4 A k:=by
  unfold pw4
  rw [pt_scale]
  exact sm_mul 4 _ _
theorem Es.times {A:Mx} {N e1 e2 e3 e4:Int} (h:Es A e1 e2 e3 e4):Es (fun i j=>N*A i j) (N*e1) (N*N*e2) (N*N*N*e3) (N*N*N*N*e4):=by
  refine h.scale ?_ ?_ ?_ ?_<;>rw [pw4_scale]<;>simp only [ipw]<;>grind
theorem Es.sim {A R S:Mx} {N e1 e2 e3 e4:Int} (h:Es A e1 e2 e3 e4) (hS:∀ i j,i < 4→j < 4→mul 4 S R i j=if i=j then N else 0):Es (mul 4 R (mul 4 A S)) (N*e1) (N*N*e2) (N*N*N*e3) (N*N*N*N*e4):=by
  refine h.times.congr fun k _=>?_
  rw [pw4_rot,mul_ass]
  refine pw4_congr (fun i j hi hj=>?_) k
  have e:mul 4 A (mul 4 S R) i j=sm 4 (fun l=>if l=j then A i l*N else 0):=sm_congr fun l hl=>by
    rw [hS l j hl hj]
    split
    · rfl
    · exact Int.mul_zero _
  rw [e,sm_one (f:=fun l=>A i l*N) hj,Int.mul_comm]
def sy (d x y z a b c f g h:Int):Mx
  | 0,0=>d | 0,1=>x | 0,2=>y | 0,3=>z
  | 1,0=>x | 1,1=>a | 1,2=>h | 1,3=>g
  | 2,0=>y | 2,1=>h | 2,2=>b | 2,3=>f
  | 3,0=>z | 3,1=>g | 3,2=>f | 3,3=>c
  | _,_=>0
theorem sy_of {A:Mx} (hA:∀ i j,i < 4→j < 4→A i j=A j i):∀ i j,i < 4→j < 4→A i j=sy (A 0 0) (A 0 1) (A 0 2) (A 0 3) (A 1 1) (A 2 2) (A 3 3) (A 2 3) (A 1 3) (A 1 2) i j
  | 0,0,_,_=>rfl | 0,1,_,_=>rfl | 0,2,_,_=>rfl | 0,3,_,_=>rfl
  | 1,0,_,_=>hA 1 0 (by omega) (by omega) | 1,1,_,_=>rfl | 1,2,_,_=>rfl | 1,3,_,_=>rfl
  | 2,0,_,_=>hA 2 0 (by omega) (by omega) | 2,1,_,_=>hA 2 1 (by omega) (by omega) | 2,2,_,_=>rfl | 2,3,_,_=>rfl
  | 3,0,_,_=>hA 3 0 (by omega) (by omega) | 3,1,_,_=>hA 3 1 (by omega) (by omega) | 3,2,_,_=>hA 3 2 (by omega) (by omega) | 3,3,_,_=>rfl
  | i+4,j,h,_=>absurd h (by omega)
  | i,j+4,_,h=>absurd h (by omega)
def dg (w0 w1 w2 w3:Int) (G:Mx):Mx
  | 0,j=>w0*G 0 j
  | 1,j=>w1*G 1 j
  | 2,j=>w2*G 2 j
  | 3,j=>w3*G 3 j
  | _,_=>0
set_option maxRecDepth 100000 in
theorem Es_dg (w0 w1 w2 w3 d x y z a b c f g h:Int):Es (dg w0 w1 w2 w3 (sy d x y z a b c f g h))
    (w0*d+w1*a+w2*b+w3*c)
    (w0*w1*(d*a - x*x)+w0*w2*(d*b - y*y)+w0*w3*(d*c - z*z)+w1*w2*(a*b - h*h)+w1*w3*(a*c - g*g)+w2*w3*(b*c - f*f))
    (w0*w1*w2*t3 d a b h y x+w0*w1*w3*t3 d a c g z x+w0*w2*w3*t3 d b c f z y+w1*w2*w3*t3 a b c f g h)
    (w0*w1*w2*w3*u4 d x y z a b c f g h):=by
  refine ⟨?_,?_,?_,?_⟩
  · simp only [pw4,tr,pt,mul,sm,dg,sy]; grind
  · simp only [pw4,tr,pt,mul,sm,dg,sy]; grind
  · simp only [pw4,tr,pt,mul,sm,dg,sy,t3]; grind
  · simp only [pw4,tr,pt,mul,sm,dg,sy,t3,u4,q3]; grind
end Dt
namespace Dt
theorem Es_sy (d x y z a b c f g h:Int):Es (sy d x y z a b c f g h) (u1 d x y z a b c f g h) (u2 d x y z a b c f g h) (u3 d x y z a b c f g h) (u4 d x y z a b c f g h):=by
  have h1:=Es_dg 1 1 1 1 d x y z a b c f g h
  have h2:=h1.congr (A':=sy d x y z a b c f g h) fun k _=>pw4_congr (fun i j hi hj=>by
    match i,j,hi,hj with
    | 0,j,_,_=>exact (Int.one_mul _).symm
    | 1,j,_,_=>exact (Int.one_mul _).symm
    | 2,j,_,_=>exact (Int.one_mul _).symm
    | 3,j,_,_=>exact (Int.one_mul _).symm) k
  obtain ⟨a1,a2,a3,a4⟩:=h2
  have e1:u1 d x y z a b c f g h=1*d+1*a+1*b+1*c:=by unfold u1 t1; grind
  have e2:u2 d x y z a b c f g h=1*1*(d*a - x*x)+1*1*(d*b - y*y)+1*1*(d*c - z*z)+1*1*(a*b - h*h)+1*1*(a*c - g*g)+1*1*(b*c - f*f):=by unfold u2 t1 t2; grind
  have e3:u3 d x y z a b c f g h=1*1*1*t3 d a b h y x+1*1*1*t3 d a c g z x+1*1*1*t3 d b c f z y+1*1*1*t3 a b c f g h:=by unfold u3 t2 t3 q3; grind
  have e4:u4 d x y z a b c f g h=1*1*1*1*u4 d x y z a b c f g h:=by omega
  rw [e1,e2,e3]
  refine ⟨a1,a2,a3,?_⟩
  rw [e4]; exact a4
def fm (A:Mx) (u v:Nat→Int):Int:=sm 4 fun i=>u i*sm 4 fun j=>A i j*v j
theorem fm_congr {A:Mx} {u v u' v':Nat→Int} (hu:∀ i,i < 4→u i=u' i) (hv:∀ i,i < 4→v i=v' i):fm A u v=fm A u' v':=sm_congr fun i hi=>by
  rw [hu i hi]; congr 1; exact sm_congr fun j hj=>by rw [hv j hj]
def qm (u:Nat→Int):Mx
  | 0,0=>u 0 | 0,1=>- u 1 | 0,2=>- u 2 | 0,3=>- u 3
  | 1,0=>u 1 | 1,1=>u 0 | 1,2=>- u 3 | 1,3=>u 2
  | 2,0=>u 2 | 2,1=>u 3 | 2,2=>u 0 | 2,3=>- u 1
  | 3,0=>u 3 | 3,1=>- u 2 | 3,2=>u 1 | 3,3=>u 0
  | _,_=>0
def nq (u:Nat→Int):Int:=u 0*u 0+u 1*u 1+u 2*u 2+u 3*u 3
theorem qm_ok (u:Nat→Int):∀ i j,i < 4→j < 4→mul 4 (qm u) (tp (qm u)) i j=if i=j then nq u else 0:=by
  intro i j hi hj
  match i,j,hi,hj with
  | 0,0,_,_ | 0,1,_,_ | 0,2,_,_ | 0,3,_,_ | 1,0,_,_ | 1,1,_,_ | 1,2,_,_ | 1,3,_,_ | 2,0,_,_ | 2,1,_,_ | 2,2,_,_ | 2,3,_,_ | 3,0,_,_ | 3,1,_,_ | 3,2,_,_ | 3,3,_,_=>simp only [mul,sm,tp,qm,nq]; grind
def cb (A:Mx) (u:Nat→Int):Mx:=mul 4 (tp (qm u)) (mul 4 A (qm u))
theorem cb_fm (A:Mx) (u:Nat→Int) (i j:Nat):cb A u i j=fm A (fun k=>qm u k i) (fun k=>qm u k j):=rfl
theorem fm_symm {A:Mx} (hA:∀ i j,i < 4→j < 4→A i j=A j i) (u v:Nat→Int):fm A u v=fm A v u:=by
  have e1:∀ u v:Nat→Int,fm A u v=sm 4 (fun i=>sm 4 fun j=>u i*A i j*v j):=fun u v=>sm_congr fun i _=>by
    rw [← sm_mul]; exact sm_congr fun j _=>by rw [Int.mul_assoc]
  rw [e1,e1,sm_swap]
  exact sm_congr fun i hi=>sm_congr fun j hj=>by rw [hA i j hi hj]; grind
theorem cb_sym {A:Mx} (hA:∀ i j,i < 4→j < 4→A i j=A j i) (u:Nat→Int):∀ i j,i < 4→j < 4→cb A u i j=cb A u j i:=fun i j _ _=>by rw [cb_fm,cb_fm]; exact fm_symm hA _ _
theorem cb_Es {A:Mx} {u:Nat→Int} {e1 e2 e3 e4:Int} (h:Es A e1 e2 e3 e4):Es (cb A u) (nq u*e1) (nq u*nq u*e2) (nq u*nq u*nq u*e3) (nq u*nq u*nq u*nq u*e4):=h.sim (qm_ok u)
theorem sym_Es {A:Mx} (hA:∀ i j,i < 4→j < 4→A i j=A j i):Es A (u1 (A 0 0) (A 0 1) (A 0 2) (A 0 3) (A 1 1) (A 2 2) (A 3 3) (A 2 3) (A 1 3) (A 1 2)) (u2 (A 0 0) (A 0 1) (A 0 2) (A 0 3) (A 1 1) (A 2 2) (A 3 3) (A 2 3) (A 1 3) (A 1 2)) (u3 (A 0 0) (A 0 1) (A 0 2) (A 0 3) (A 1 1) (A 2 2) (A 3 3) (A 2 3) (A 1 3) (A 1 2)) (u4 (A 0 0) (A 0 1) (A 0 2) (A 0 3) (A 1 1) (A 2 2) (A 3 3) (A 2 3) (A 1 3) (A 1 2)):=(Es_sy _ _ _ _ _ _ _ _ _ _).congr fun k _=>pw4_congr (sy_of hA) k
theorem nq_nn (u:Nat→Int):0≤nq u:=by
  have:=sq_nn (u 0); have:=sq_nn (u 1); have:=sq_nn (u 2); have:=sq_nn (u 3)
  unfold nq; omega
theorem nq_pos {u:Nat→Int} (h:∃ i,i < 4∧u i≠0):0 < nq u:=by
  have:=sq_nn (u 0); have:=sq_nn (u 1); have:=sq_nn (u 2); have:=sq_nn (u 3)
  refine Classical.byContradiction fun hc=>?_
  unfold nq at hc
  have k0:=sq_le0 (x:=u 0) (by omega)
  have k1:=sq_le0 (x:=u 1) (by omega)
  have k2:=sq_le0 (x:=u 2) (by omega)
  have k3:=sq_le0 (x:=u 3) (by omega)
  obtain ⟨i,hi,hu⟩:=h
  match i,hi with
  | 0,_=>exact hu k0
  | 1,_=>exact hu k1
  | 2,_=>exact hu k2
  | 3,_=>exact hu k3
theorem le_mul {N e:Int} (hN:0≤N) (h:e≤0):N*e≤0:=Int.mul_nonpos_of_nonneg_of_nonpos hN h
theorem ge_mul {N e:Int} (hN:0≤N) (h:0≤e):0≤N*e:=Int.mul_nonneg hN h
theorem psd4 {A:Mx} (hA:∀ i j,i < 4→j < 4→A i j=A j i) {e1 e2 e3 e4:Int} (h:Es A e1 e2 e3 e4) (h1:e1≤0) (h2:0≤e2) (h3:e3≤0) (h4:0≤e4) (u:Nat→Int):fm A u u≤0:=by
  have hN:=nq_nn u
  have hN2:=Int.mul_nonneg hN hN
  have hN3:=Int.mul_nonneg hN2 hN
  have hN4:=Int.mul_nonneg hN3 hN
  have hE:=cb_Es (u:=u) h
  obtain ⟨a1,a2,a3,a4⟩:=hE.uniq (sym_Es (cb_sym hA u))
  have:=diag4 (by rw [← a1]; exact le_mul hN h1) (by rw [← a2]; exact ge_mul hN2 h2) (by rw [← a3]; exact le_mul hN3 h3) (by rw [← a4]; exact ge_mul hN4 h4)
  have e:cb A u 0 0=fm A u u:=by
    rw [cb_fm]
    exact fm_congr (fun i hi=>by match i,hi with | 0,_=>rfl | 1,_=>rfl | 2,_=>rfl | 3,_=>rfl) (fun i hi=>by match i,hi with | 0,_=>rfl | 1,_=>rfl | 2,_=>rfl | 3,_=>rfl)
  rw [← e]; exact this
theorem pd3 {a b c f g h:Int} (hp:∀ x y z:Int,¬ (x=0∧y=0∧z=0)→0 < q3 a b c f g h x y z):(0 < a∧0 < b∧0 < c)∧(0 < b*c - f*f∧0 < a*c - g*g∧0 < a*b - h*h)∧0 < t3 a b c f g h:=by
  have ha:0 < a:=by have:=hp 1 0 0 (by omega); unfold q3 at this; omega
  have hb:0 < b:=by have:=hp 0 1 0 (by omega); unfold q3 at this; omega
  have hc:0 < c:=by have:=hp 0 0 1 (by omega); unfold q3 at this; omega
  have m3:0 < a*b - h*h:=by
    refine pos_of_mul ha ?_
    have:=hp (-h) a 0 (by omega)
    have e:q3 a b c f g h (-h) a 0=a*(a*b - h*h):=by unfold q3; grind
    omega
  have m2:0 < a*c - g*g:=by
    refine pos_of_mul ha ?_
    have:=hp (-g) 0 a (by omega)
    have e:q3 a b c f g h (-g) 0 a=a*(a*c - g*g):=by unfold q3; grind
    omega
  have m1:0 < b*c - f*f:=by
    refine pos_of_mul hb ?_
    have:=hp 0 (-f) b (by omega)
    have e:q3 a b c f g h 0 (-f) b=b*(b*c - f*f):=by unfold q3; grind
    omega
  refine ⟨⟨ha,hb,hc⟩,⟨m1,m2,m3⟩,pos_of_mul m3 ?_⟩
  have:=hp (f*h - b*g) (g*h - a*f) (a*b - h*h) (by omega)
  have e:q3 a b c f g h (f*h - b*g) (g*h - a*f) (a*b - h*h)=(a*b - h*h)*t3 a b c f g h:=by unfold q3 t3; grind
  omega
def q4 (d x y z a b c f g h p q r s:Int):Int:=d*(p*p)+2*(p*(x*q+y*r+z*s))+q3 a b c f g h q r s
theorem pd4 {d x y z a b c f g h:Int} (hp:∀ p q r s:Int,¬ (p=0∧q=0∧r=0∧s=0)→0 < q4 d x y z a b c f g h p q r s):0 < u4 d x y z a b c f g h:=by
  obtain ⟨_,_,k3⟩:=pd3 (a:=a) (b:=b) (c:=c) (f:=f) (g:=g) (h:=h) fun q r s hn=>by
    have:=hp 0 q r s (by omega)
    unfold q4 at this; omega
  refine pos_of_mul k3 ?_
  have:=hp (t3 a b c f g h) (-((b*c - f*f)*x+(f*g - c*h)*y+(f*h - b*g)*z)) (-((f*g - c*h)*x+(a*c - g*g)*y+(g*h - a*f)*z)) (-((f*h - b*g)*x+(g*h - a*f)*y+(a*b - h*h)*z)) (by omega)
  have e:q4 d x y z a b c f g h (t3 a b c f g h) (-((b*c - f*f)*x+(f*g - c*h)*y+(f*h - b*g)*z)) (-((f*g - c*h)*x+(a*c - g*g)*y+(g*h - a*f)*z)) (-((f*h - b*g)*x+(g*h - a*f)*y+(a*b - h*h)*z))=t3 a b c f g h*u4 d x y z a b c f g h:=by unfold q4 u4 q3 t3; grind
  omega
end Dt
namespace Dt
structure Rep (A L:Mx) (d:Nat→Int) (m:Int):Prop where
  det:det 4 L≠0
  pos:0 < m
  eq:∀ x y,x < 4→y < 4→m*A x y=sm 4 fun i=>d i*(L i x*L i y)
theorem Rep.sym {A L:Mx} {d:Nat→Int} {m:Int} (h:Rep A L d m):∀ i j,i < 4→j < 4→A i j=A j i:=by
  intro i j hi hj
  have h1:=h.eq i j hi hj
  have h2:=h.eq j i hj hi
  have e:sm 4 (fun k=>d k*(L k i*L k j))=sm 4 (fun k=>d k*(L k j*L k i)):=sm_congr fun k _=>by rw [Int.mul_comm (L k i)]
  have:m*A i j=m*A j i:=by rw [h1,h2,e]
  exact Int.eq_of_mul_eq_mul_left (by have:=h.pos; omega) this
def lf (L:Mx) (i:Nat) (v:Nat→Int):Int:=sm 4 fun c=>L i c*v c
theorem Rep.form {A L:Mx} {d:Nat→Int} {m:Int} (h:Rep A L d m) (v:Nat→Int):m*fm A v v=sm 4 fun i=>d i*(lf L i v*lf L i v):=by
  have e1:m*fm A v v=sm 4 (fun x=>sm 4 fun y=>v x*(m*A x y)*v y):=by
    unfold fm
    rw [← sm_mul]
    exact sm_congr fun x _=>by
      rw [← sm_mul,← sm_mul]
      exact sm_congr fun y _=>by grind
  rw [e1]
  have e2:sm 4 (fun x=>sm 4 fun y=>v x*(m*A x y)*v y)=sm 4 (fun x=>sm 4 fun y=>sm 4 fun i=>d i*(L i x*v x*(L i y*v y))):=sm_congr fun x hx=>sm_congr fun y hy=>by
    rw [h.eq x y hx hy,← sm_mul,← sm_mul']
    exact sm_congr fun i _=>by grind
  rw [e2]
  have e3:sm 4 (fun x=>sm 4 fun y=>sm 4 fun i=>d i*(L i x*v x*(L i y*v y)))=sm 4 (fun i=>sm 4 fun x=>sm 4 fun y=>d i*(L i x*v x*(L i y*v y))):=by
    have:sm 4 (fun x=>sm 4 fun y=>sm 4 fun i=>d i*(L i x*v x*(L i y*v y)))=sm 4 (fun x=>sm 4 fun i=>sm 4 fun y=>d i*(L i x*v x*(L i y*v y))):=sm_congr fun x _=>sm_swap ..
    rw [this,sm_swap]
  rw [e3]
  refine sm_congr fun i _=>?_
  have e4:sm 4 (fun x=>sm 4 fun y=>d i*(L i x*v x*(L i y*v y)))=sm 4 (fun x=>d i*lf L i v*(L i x*v x)):=sm_congr fun x _=>by
    rw [sm_mul,sm_mul]; unfold lf; grind
  rw [e4,sm_mul]
  unfold lf; grind
theorem Rep.dual {A L:Mx} {d:Nat→Int} {m:Int} (h:Rep A L d m) {j:Nat} (hj:j < 4):m*fm A (fun c=>adj 4 L c j) (fun c=>adj 4 L c j)=d j*(Dt.det 4 L*Dt.det 4 L):=by
  rw [h.form]
  have e:sm 4 (fun i=>d i*(lf L i (fun c=>adj 4 L c j)*lf L i (fun c=>adj 4 L c j)))=sm 4 (fun i=>if i=j then d i*(Dt.det 4 L*Dt.det 4 L) else 0):=sm_congr fun i hi=>by
    have:lf L i (fun c=>adj 4 L c j)=if i=j then Dt.det 4 L else 0:=mul_adj L hi hj
    rw [this]
    by_cases e:i=j
    · rw [if_pos e,if_pos e]
    · rw [if_neg e,if_neg e]; simp
  rw [e,sm_one (f:=fun i=>d i*(Dt.det 4 L*Dt.det 4 L)) hj]
theorem sq_pos' {x:Int} (h:x≠0):0 < x*x:=by
  have h1:=sq_nn x
  have h2:x*x≠0:=fun e=>h (sq_zero e)
  omega
theorem Rep.some_pos {A L:Mx} {d:Nat→Int} {m e1 e2 e3 e4:Int} (h:Rep A L d m) (hE:Es A e1 e2 e3 e4) {j:Nat} (hj:j < 4) (hd:0 < d j):¬ (e1≤0∧0≤e2∧e3≤0∧0≤e4):=by
  rintro ⟨h1,h2,h3,h4⟩
  have k1:=psd4 h.sym hE h1 h2 h3 h4 (fun c=>adj 4 L c j)
  have k2:=h.dual hj
  have k3:0 < d j*(Dt.det 4 L*Dt.det 4 L):=Int.mul_pos hd (sq_pos' h.det)
  have k4:=Int.mul_nonpos_of_nonneg_of_nonpos (show 0≤m by have:=h.pos; omega) k1
  omega
theorem Rep.neg {A L:Mx} {d:Nat→Int} {m:Int} (h:Rep A L d m):Rep (fun i j=>-1*A i j) L (fun i=>- d i) m:=⟨h.det,h.pos,fun x y hx hy=>by
  have:=h.eq x y hx hy
  have e:m*(-1*A x y)= -1*(m*A x y):=by grind
  rw [e,this,← sm_mul]
  exact sm_congr fun i _=>by grind⟩
theorem Es.neg {A:Mx} {e1 e2 e3 e4:Int} (h:Es A e1 e2 e3 e4):Es (fun i j=>-1*A i j) (-e1) e2 (-e3) e4:=by
  have:=h.times (N:=-1)
  have k1:(-1)*e1= -e1:=by omega
  have k2:(-1)*(-1)*e2=e2:=by omega
  have k3:(-1)*(-1)*(-1)*e3= -e3:=by omega
  have k4:(-1)*(-1)*(-1)*(-1)*e4=e4:=by omega
  rw [k1,k2,k3,k4] at this
  exact this
theorem q3_fm (A Q:Mx) (hs:∀ i j,i < 4→j < 4→fm A (fun k=>Q k i) (fun k=>Q k j)=fm A (fun k=>Q k j) (fun k=>Q k i)) (x y z:Int):q3 (fm A (fun k=>Q k 1) (fun k=>Q k 1)) (fm A (fun k=>Q k 2) (fun k=>Q k 2)) (fm A (fun k=>Q k 3) (fun k=>Q k 3)) (fm A (fun k=>Q k 2) (fun k=>Q k 3)) (fm A (fun k=>Q k 1) (fun k=>Q k 3)) (fm A (fun k=>Q k 1) (fun k=>Q k 2)) x y z=fm A (fun k=>Q k 1*x+Q k 2*y+Q k 3*z) (fun k=>Q k 1*x+Q k 2*y+Q k 3*z):=by
  have h12:=hs 1 2 (by omega) (by omega)
  have h13:=hs 1 3 (by omega) (by omega)
  have h23:=hs 2 3 (by omega) (by omega)
  have e:fm A (fun k=>Q k 1*x+Q k 2*y+Q k 3*z) (fun k=>Q k 1*x+Q k 2*y+Q k 3*z)=fm A (fun k=>Q k 1) (fun k=>Q k 1)*(x*x)+fm A (fun k=>Q k 2) (fun k=>Q k 2)*(y*y)+fm A (fun k=>Q k 3) (fun k=>Q k 3)*(z*z)+(fm A (fun k=>Q k 2) (fun k=>Q k 3)+fm A (fun k=>Q k 3) (fun k=>Q k 2))*(y*z)+(fm A (fun k=>Q k 1) (fun k=>Q k 3)+fm A (fun k=>Q k 3) (fun k=>Q k 1))*(x*z)+(fm A (fun k=>Q k 1) (fun k=>Q k 2)+fm A (fun k=>Q k 2) (fun k=>Q k 1))*(x*y):=by
    simp only [fm,sm]; grind
  rw [e]
  unfold q3
  rw [← h12,← h13,← h23]
  grind
theorem Rep.three {A L:Mx} {d:Nat→Int} {m e1 e2 e3 e4:Int} (h:Rep A L d m) (hE:Es A e1 e2 e3 e4) (h0:0 < d 0) (h1:0 < d 1) (h2:0 < d 2):¬ (e1≤0∧0≤e2)∧¬ (e2≤0∧0≤e3):=by
  have hu:∃ i,i < 4∧L 3 i≠0:=by
    refine Classical.byContradiction fun hno=>h.det ?_
    exact (det_am 4).zero (i:=3) (by omega) L fun c hc=>Classical.byContradiction fun hne=>hno ⟨c,hc,hne⟩
  have hN:=nq_pos (u:=L 3) hu
  have hE':=cb_Es (u:=L 3) hE
  have hsym:=cb_sym h.sym (L 3)
  obtain ⟨a1,a2,a3,a4⟩:=hE'.uniq (sym_Es hsym)
  generalize hu3:L 3=u at*
  have hb:∀ x y z:Int,¬ (x=0∧y=0∧z=0)→0 < q3 (cb A u 1 1) (cb A u 2 2) (cb A u 3 3) (cb A u 2 3) (cb A u 1 3) (cb A u 1 2) x y z:=by
    intro x y z hne
    have e:=q3_fm A (qm u) (fun i j hi hj=>fm_symm h.sym _ _) x y z
    rw [cb_fm,cb_fm,cb_fm,cb_fm,cb_fm,cb_fm,e]
    generalize hv:(fun k=>qm u k 1*x+qm u k 2*y+qm u k 3*z)=v
    have hf:=h.form v
    have hl3:lf L 3 v=0:=by
      unfold lf
      rw [hu3,← hv]
      simp only [sm,qm]; grind
    have hvn:∃ i,i < 4∧v i≠0:=by
      refine Classical.byContradiction fun hno=>?_
      have hz:∀ i,i < 4→v i=0:=fun i hi=>Classical.byContradiction fun hn=>hno ⟨i,hi,hn⟩
      have z0:=hz 0 (by omega)
      have z1:=hz 1 (by omega)
      have z2:=hz 2 (by omega)
      have z3:=hz 3 (by omega)
      rw [← hv] at z0 z1 z2 z3
      simp only [qm] at z0 z1 z2 z3
      have kx:nq u*x=0:=by unfold nq; grind
      have ky:nq u*y=0:=by unfold nq; grind
      have kz:nq u*z=0:=by unfold nq; grind
      refine hne ⟨?_,?_,?_⟩
      · rcases Int.mul_eq_zero.1 kx with h | h<;>omega
      · rcases Int.mul_eq_zero.1 ky with h | h<;>omega
      · rcases Int.mul_eq_zero.1 kz with h | h<;>omega
    have hnz:¬ (lf L 0 v=0∧lf L 1 v=0∧lf L 2 v=0):=by
      rintro ⟨l0,l1,l2⟩
      obtain ⟨i,hi,hvi⟩:=hvn
      exact hvi (col_zero h.det (w:=v) (fun r hr=>by match r,hr with | 0,_=>exact l0 | 1,_=>exact l1 | 2,_=>exact l2 | 3,_=>exact hl3) i hi)
    have hsum:m*fm A v v=d 0*(lf L 0 v*lf L 0 v)+d 1*(lf L 1 v*lf L 1 v)+d 2*(lf L 2 v*lf L 2 v):=by
      rw [hf]; simp only [sm]; rw [hl3]; omega
    have n0:=Int.mul_nonneg (show 0≤d 0 by omega) (sq_nn (lf L 0 v))
    have n1:=Int.mul_nonneg (show 0≤d 1 by omega) (sq_nn (lf L 1 v))
    have n2:=Int.mul_nonneg (show 0≤d 2 by omega) (sq_nn (lf L 2 v))
    refine pos_of_mul h.pos ?_
    rw [hsum]
    by_cases l0:lf L 0 v=0
    · by_cases l1:lf L 1 v=0
      · have:=Int.mul_pos h2 (sq_pos' (x:=lf L 2 v) fun e=>hnz ⟨l0,l1,e⟩)
        omega
      · have:=Int.mul_pos h1 (sq_pos' l1)
        omega
    · have:=Int.mul_pos h0 (sq_pos' l0)
      omega
  obtain ⟨⟨p1,p2,p3⟩,⟨m1,m2,m3⟩,k3⟩:=pd3 hb
  have hB:=block3 (d:=cb A u 0 0) (x:=cb A u 0 1) (y:=cb A u 0 2) (z:=cb A u 0 3) (a:=cb A u 1 1) (b:=cb A u 2 2) (c:=cb A u 3 3) (f:=cb A u 2 3) (g:=cb A u 1 3) (h:=cb A u 1 2) (by unfold t1; omega) (by unfold t2; omega) k3
  rw [← a1,← a2,← a3] at hB
  have hN2:=Int.mul_pos hN hN
  have hN3:=Int.mul_pos hN2 hN
  exact ⟨fun ⟨x1,x2⟩=>hB.1 ⟨le_mul (by omega) x1,ge_mul (by omega) x2⟩,fun ⟨x1,x2⟩=>hB.2 ⟨le_mul (by omega) x1,ge_mul (by omega) x2⟩⟩
theorem Rep.coef {A L:Mx} {d:Nat→Int} {m e1 e2 e3 e4:Int} (h:Rep A L d m) (hE:Es A e1 e2 e3 e4):∃ a0 a1 a2 a3 b01 b02 b03 b12 b13 b23 c0 c1 c2 c3 f:Int,((0 < a0∧0 < a1∧0 < a2∧0 < a3)∧(0 < b01∧0 < b02∧0 < b03∧0 < b12∧0 < b13∧0 < b23)∧(0 < c0∧0 < c1∧0 < c2∧0 < c3)∧0 < f)∧
    m*e1=d 0*a0+d 1*a1+d 2*a2+d 3*a3∧m*m*e2=d 0*d 1*b01+d 0*d 2*b02+d 0*d 3*b03+d 1*d 2*b12+d 1*d 3*b13+d 2*d 3*b23∧m*m*m*e3=d 0*d 1*d 2*c0+d 0*d 1*d 3*c1+d 0*d 2*d 3*c2+d 1*d 2*d 3*c3∧m*m*m*m*e4=d 0*d 1*d 2*d 3*f:=by
  let G:Mx:=mul 4 L (tp L)
  have hG:∀ i j,i < 4→j < 4→G i j=G j i:=fun i j _ _=>sm_congr fun k _=>Int.mul_comm ..
  have hGs:=sy_of hG
  have hD:=Es_dg (d 0) (d 1) (d 2) (d 3) (G 0 0) (G 0 1) (G 0 2) (G 0 3) (G 1 1) (G 2 2) (G 3 3) (G 2 3) (G 1 3) (G 1 2)
  have hT:=hE.times (N:=m)
  have hk:∀ k,k < 4→pw4 (fun i j=>m*A i j) k=pw4 (dg (d 0) (d 1) (d 2) (d 3) (sy (G 0 0) (G 0 1) (G 0 2) (G 0 3) (G 1 1) (G 2 2) (G 3 3) (G 2 3) (G 1 3) (G 1 2))) k:=by
    intro k _
    have k1:pw4 (fun i j=>m*A i j) k=pw4 (mul 4 (tp L) (fun i y=>d i*L i y)) k:=pw4_congr (fun x y hx hy=>by
      rw [h.eq x y hx hy]
      exact sm_congr fun i _=>by show _=L i x*(d i*L i y); grind) k
    rw [k1,pw4_rot]
    refine pw4_congr (fun i j hi hj=>?_) k
    have k2:mul 4 (fun i y=>d i*L i y) (tp L) i j=d i*G i j:=by
      show sm 4 (fun c=>d i*L i c*tp L c j)=d i*sm 4 (fun c=>L i c*tp L c j)
      rw [← sm_mul]; exact sm_congr fun c _=>by rw [Int.mul_assoc]
    rw [k2,hGs i j hi hj]
    match i,hi with
    | 0,_=>rfl
    | 1,_=>rfl
    | 2,_=>rfl
    | 3,_=>rfl
  obtain ⟨g1,g2,g3,g4⟩:=hT.uniq (hD.congr hk)
  have hp:∀ p q r s:Int,¬ (p=0∧q=0∧r=0∧s=0)→0 < q4 (G 0 0) (G 0 1) (G 0 2) (G 0 3) (G 1 1) (G 2 2) (G 3 3) (G 2 3) (G 1 3) (G 1 2) p q r s:=by
    intro p q r s hne
    let w:Nat→Int:=fun i=>match i with | 0=>p | 1=>q | 2=>r | 3=>s | _=>0
    have e:q4 (G 0 0) (G 0 1) (G 0 2) (G 0 3) (G 1 1) (G 2 2) (G 3 3) (G 2 3) (G 1 3) (G 1 2) p q r s=sm 4 (fun c=>sm 4 (fun i=>w i*L i c)*sm 4 (fun i=>w i*L i c)):=by
      simp only [G,w,q4,q3,mul,tp,sm]; grind
    rw [e]
    have h1:0≤sm 4 (fun c=>sm 4 (fun i=>w i*L i c)*sm 4 (fun i=>w i*L i c)):=sm_nn fun c _=>sq_nn _
    have h2:sm 4 (fun c=>sm 4 (fun i=>w i*L i c)*sm 4 (fun i=>w i*L i c))≠0:=by
      intro h0
      have hz:=row_zero h.det (w:=w) (sq_sum h0)
      exact hne ⟨hz 0 (by omega),hz 1 (by omega),hz 2 (by omega),hz 3 (by omega)⟩
    omega
  obtain ⟨⟨p1,p2,p3⟩,⟨m1,m2,m3⟩,k3⟩:=pd3 (a:=G 1 1) (b:=G 2 2) (c:=G 3 3) (f:=G 2 3) (g:=G 1 3) (h:=G 1 2) fun q r s hn=>by
    have:=hp 0 q r s (by omega)
    unfold q4 at this; omega
  obtain ⟨⟨p4,_,_⟩,⟨_,m4,m5⟩,k4⟩:=pd3 (a:=G 0 0) (b:=G 1 1) (c:=G 2 2) (f:=G 1 2) (g:=G 0 2) (h:=G 0 1) fun p q r hn=>by
    have:=hp p q r 0 (by omega)
    have e:q4 (G 0 0) (G 0 1) (G 0 2) (G 0 3) (G 1 1) (G 2 2) (G 3 3) (G 2 3) (G 1 3) (G 1 2) p q r 0=q3 (G 0 0) (G 1 1) (G 2 2) (G 1 2) (G 0 2) (G 0 1) p q r:=by unfold q4 q3; grind
    omega
  obtain ⟨_,⟨_,m6,_⟩,k5⟩:=pd3 (a:=G 0 0) (b:=G 1 1) (c:=G 3 3) (f:=G 1 3) (g:=G 0 3) (h:=G 0 1) fun p q r hn=>by
    have:=hp p q 0 r (by omega)
    have e:q4 (G 0 0) (G 0 1) (G 0 2) (G 0 3) (G 1 1) (G 2 2) (G 3 3) (G 2 3) (G 1 3) (G 1 2) p q 0 r=q3 (G 0 0) (G 1 1) (G 3 3) (G 1 3) (G 0 3) (G 0 1) p q r:=by unfold q4 q3; grind
    omega
  obtain ⟨_,_,k6⟩:=pd3 (a:=G 0 0) (b:=G 2 2) (c:=G 3 3) (f:=G 2 3) (g:=G 0 3) (h:=G 0 2) fun p q r hn=>by
    have:=hp p 0 q r (by omega)
    have e:q4 (G 0 0) (G 0 1) (G 0 2) (G 0 3) (G 1 1) (G 2 2) (G 3 3) (G 2 3) (G 1 3) (G 1 2) p 0 q r=q3 (G 0 0) (G 2 2) (G 3 3) (G 2 3) (G 0 3) (G 0 2) p q r:=by unfold q4 q3; grind
    omega
  have k7:=pd4 hp
  exact ⟨_,_,_,_,_,_,_,_,_,_,_,_,_,_,_,⟨⟨p4,p1,p2,p3⟩,⟨m5,m4,m6,m3,m2,m1⟩,⟨k4,k5,k6,k3⟩,k7⟩,g1,g2,g3,g4⟩
end Dt
namespace Dt
def sgz (x:Int):Int:=if x < 0 then -1 else if 0 < x then 1 else 0
theorem sgz_pos {x:Int}:sgz x=1↔0 < x:=by unfold sgz; split<;>(try split)<;>omega
theorem sgz_neg {x:Int}:sgz x= -1↔x < 0:=by unfold sgz; split<;>(try split)<;>omega
theorem sgz_zero {x:Int}:sgz x=0↔x=0:=by unfold sgz; split<;>(try split)<;>omega
theorem sgz_le {x:Int}:sgz x≤0↔x≤0:=by unfold sgz; split<;>(try split)<;>omega
theorem sgz_ge {x:Int}:0≤sgz x↔0≤x:=by unfold sgz; split<;>(try split)<;>omega
theorem sgz_cases (x:Int):sgz x= -1∨sgz x=0∨sgz x=1:=by unfold sgz; split<;>(try split)<;>simp
theorem sgz_minus (x:Int):sgz (-x)= - sgz x:=by unfold sgz; split<;>split<;>(try split)<;>(try split)<;>omega
theorem sgz_mul (x y:Int):sgz (x*y)=sgz x*sgz y:=by
  rcases Int.lt_trichotomy x 0 with hx | hx | hx
  · rcases Int.lt_trichotomy y 0 with hy | hy | hy
    · rw [sgz_neg.2 hx,sgz_neg.2 hy,sgz_pos.2 (Int.mul_pos_of_neg_of_neg hx hy)]; rfl
    · subst hy; rw [Int.mul_zero,sgz_zero.2 rfl,Int.mul_zero]
    · rw [sgz_neg.2 hx,sgz_pos.2 hy,sgz_neg.2 (Int.mul_neg_of_neg_of_pos hx hy)]; rfl
  · subst hx; rw [Int.zero_mul,sgz_zero.2 rfl,Int.zero_mul]
  · rcases Int.lt_trichotomy y 0 with hy | hy | hy
    · rw [sgz_pos.2 hx,sgz_neg.2 hy,sgz_neg.2 (Int.mul_neg_of_pos_of_neg hx hy)]; rfl
    · subst hy; rw [Int.mul_zero,sgz_zero.2 rfl,Int.mul_zero]
    · rw [sgz_pos.2 hx,sgz_pos.2 hy,sgz_pos.2 (Int.mul_pos hx hy)]; rfl
def vst (st:Int×Nat) (s:Int):Int×Nat:=(if s=0 then st.1 else s,if s*st.1 < 0 then st.2+1 else st.2)
def vch (l:List Int):Nat:=(l.foldl vst (0,0)).2
def one3 (D0 D1 D2 D3 v:Int):Nat:=(if D0=v then 1 else 0)+(if D1=v then 1 else 0)+(if D2=v then 1 else 0)+(if D3=v then 1 else 0)
def lead (s1 s2 s3 s4:Int):Nat:=if s4=0 then if s3=0 then if s2=0 then if s1=0 then 4 else 3 else 2 else 1 else 0
def facts (D0 D1 D2 D3 s1 s2 s3 s4:Int):Bool:=
  decide (s4=D0*D1*D2*D3) &&
  (decide (D3≠0) || decide (s3=D0*D1*D2)) && (decide (D2≠0) || decide (s3=D0*D1*D3)) && (decide (D1≠0) || decide (s3=D0*D2*D3)) && (decide (D0≠0) || decide (s3=D1*D2*D3)) &&
  (decide (D2≠0) || decide (D3≠0) || decide (s2=D0*D1)) && (decide (D1≠0) || decide (D3≠0) || decide (s2=D0*D2)) && (decide (D1≠0) || decide (D2≠0) || decide (s2=D0*D3)) && (decide (D0≠0) || decide (D3≠0) || decide (s2=D1*D2)) && (decide (D0≠0) || decide (D2≠0) || decide (s2=D1*D3)) && (decide (D0≠0) || decide (D1≠0) || decide (s2=D2*D3)) &&
  (decide (D1≠0) || decide (D2≠0) || decide (D3≠0) || decide (s1=D0)) && (decide (D0≠0) || decide (D2≠0) || decide (D3≠0) || decide (s1=D1)) && (decide (D0≠0) || decide (D1≠0) || decide (D3≠0) || decide (s1=D2)) && (decide (D0≠0) || decide (D1≠0) || decide (D2≠0) || decide (s1=D3)) &&
  (decide (one3 D0 D1 D2 D3 1≠4) || (decide (s1=1) && decide (s2=1) && decide (s3=1))) && (decide (one3 D0 D1 D2 D3 (-1)≠4) || (decide (s1= -1) && decide (s2=1) && decide (s3= -1))) &&
  (decide (one3 D0 D1 D2 D3 1=0) || decide (0 < s1) || decide (s2 < 0) || decide (0 < s3) || decide (s4 < 0)) && (decide (one3 D0 D1 D2 D3 (-1)=0) || decide (s1 < 0) || decide (s2 < 0) || decide (s3 < 0) || decide (s4 < 0)) &&
  (decide (one3 D0 D1 D2 D3 1 < 3) || ((decide (0 < s1) || decide (s2 < 0)) && (decide (0 < s2) || decide (s3 < 0)))) && (decide (one3 D0 D1 D2 D3 (-1) < 3) || ((decide (s1 < 0) || decide (s2 < 0)) && (decide (0 < s2) || decide (0 < s3))))
def concl (D0 D1 D2 D3 s1 s2 s3 s4:Int):Bool:=decide (vch [s4,-s3,s2,-s1,1]=one3 D0 D1 D2 D3 1) && decide (lead s1 s2 s3 s4=one3 D0 D1 D2 D3 0)
def all3 (f:Int→Bool):Bool:=f (-1) && f 0 && f 1
theorem comb_all:(all3 fun D0=>all3 fun D1=>all3 fun D2=>all3 fun D3=>all3 fun s1=>all3 fun s2=>all3 fun s3=>all3 fun s4=>!(facts D0 D1 D2 D3 s1 s2 s3 s4) || concl D0 D1 D2 D3 s1 s2 s3 s4)=true:=by kernel_rfl
theorem all3_of {f:Int→Bool} (h:all3 f=true) {x:Int} (hx:x= -1∨x=0∨x=1):f x=true:=by
  unfold all3 at h
  simp only [Bool.and_eq_true] at h
  rcases hx with rfl | rfl | rfl
  · exact h.1.1
  · exact h.1.2
  · exact h.2
theorem comb {D0 D1 D2 D3 s1 s2 s3 s4:Int} (h0:D0= -1∨D0=0∨D0=1) (h1:D1= -1∨D1=0∨D1=1) (h2:D2= -1∨D2=0∨D2=1) (h3:D3= -1∨D3=0∨D3=1) (k1:s1= -1∨s1=0∨s1=1) (k2:s2= -1∨s2=0∨s2=1) (k3:s3= -1∨s3=0∨s3=1) (k4:s4= -1∨s4=0∨s4=1) (hf:facts D0 D1 D2 D3 s1 s2 s3 s4=true):vch [s4,-s3,s2,-s1,1]=one3 D0 D1 D2 D3 1∧lead s1 s2 s3 s4=one3 D0 D1 D2 D3 0:=by
  have h:=all3_of (all3_of (all3_of (all3_of (all3_of (all3_of (all3_of (all3_of comb_all h0) h1) h2) h3) k1) k2) k3) k4
  rw [hf] at h
  simpa [concl] using h
theorem Rep.swap3 {A L:Mx} {d:Nat→Int} {m:Int} (h:Rep A L d m) {j:Nat} (hj:j < 3):Rep A (sw L j 3) (fun i=>if i=j then d 3 else if i=3 then d j else d i) m:=by
  refine ⟨?_,h.pos,fun x y hx hy=>?_⟩
  · rw [(det_am 4).swap (show j < 4 by omega) (by omega) (by omega) L]
    have:=h.det
    omega
  · rw [h.eq x y hx hy]
    match j,hj with
    | 0,_=>simp [sm,sw]; omega
    | 1,_=>simp [sm,sw]; omega
    | 2,_=>simp [sm,sw]; omega
theorem Rep.threes {A L:Mx} {d:Nat→Int} {m e1 e2 e3 e4:Int} (h:Rep A L d m) (hE:Es A e1 e2 e3 e4) (hc:3≤one3 (sgz (d 0)) (sgz (d 1)) (sgz (d 2)) (sgz (d 3)) 1):¬ (e1≤0∧0≤e2)∧¬ (e2≤0∧0≤e3):=by
  have q0:=sgz_pos (x:=d 0); have q1:=sgz_pos (x:=d 1); have q2:=sgz_pos (x:=d 2); have q3:=sgz_pos (x:=d 3)
  by_cases h3:0 < d 0∧0 < d 1∧0 < d 2
  · exact h.three hE h3.1 h3.2.1 h3.2.2
  · by_cases h0:0 < d 0
    · by_cases h1:0 < d 1
      · refine (h.swap3 (j:=2) (by omega)).three hE h0 h1 ?_
        show 0 < d 3
        refine Classical.byContradiction fun hn=>?_
        have n2:¬ sgz (d 2)=1:=fun e=>h3 ⟨h0,h1,q2.1 e⟩
        have n3:¬ sgz (d 3)=1:=fun e=>hn (q3.1 e)
        unfold one3 at hc
        rw [if_neg n2,if_neg n3] at hc
        split at hc<;>split at hc<;>omega
      · have n1:¬ sgz (d 1)=1:=fun e=>h1 (q1.1 e)
        unfold one3 at hc
        rw [if_neg n1] at hc
        have k2:0 < d 2:=Classical.byContradiction fun hn=>by
          rw [if_neg (fun e=>hn (q2.1 e))] at hc
          split at hc<;>split at hc<;>omega
        have k3:0 < d 3:=Classical.byContradiction fun hn=>by
          rw [if_neg (show ¬ sgz (d 3)=1 from fun e=>hn (q3.1 e))] at hc
          split at hc<;>split at hc<;>omega
        exact (h.swap3 (j:=1) (by omega)).three hE h0 k3 k2
    · have n0:¬ sgz (d 0)=1:=fun e=>h0 (q0.1 e)
      unfold one3 at hc
      rw [if_neg n0] at hc
      have k1:0 < d 1:=Classical.byContradiction fun hn=>by
        rw [if_neg (fun e=>hn (q1.1 e))] at hc
        split at hc<;>split at hc<;>omega
      have k2:0 < d 2:=Classical.byContradiction fun hn=>by
        rw [if_neg (show ¬ sgz (d 2)=1 from fun e=>hn (q2.1 e))] at hc
        split at hc<;>split at hc<;>omega
      have k3:0 < d 3:=Classical.byContradiction fun hn=>by
        rw [if_neg (show ¬ sgz (d 3)=1 from fun e=>hn (q3.1 e))] at hc
        split at hc<;>split at hc<;>omega
      exact (h.swap3 (j:=0) (by omega)).three hE k3 k1 k2
theorem one3_neg (a b c d:Int):one3 (sgz (-a)) (sgz (-b)) (sgz (-c)) (sgz (-d)) 1=one3 (sgz a) (sgz b) (sgz c) (sgz d) (-1):=by
  have e:∀ x,(sgz (-x)=1)=(sgz x= -1):=fun x=>by rw [sgz_minus]; exact propext ⟨fun h=>by omega,fun h=>by omega⟩
  unfold one3
  simp only [e]
theorem one3_some {a b c d:Int} (h:one3 (sgz a) (sgz b) (sgz c) (sgz d) 1≠0):0 < a∨0 < b∨0 < c∨0 < d:=by
  refine Classical.byContradiction fun hn=>h ?_
  unfold one3
  rw [if_neg (fun e=>hn (.inl (sgz_pos.1 e))),if_neg (fun e=>hn (.inr (.inl (sgz_pos.1 e)))),if_neg (fun e=>hn (.inr (.inr (.inl (sgz_pos.1 e))))),if_neg (fun e=>hn (.inr (.inr (.inr (sgz_pos.1 e)))))]
theorem Rep.somes {A L:Mx} {d:Nat→Int} {m e1 e2 e3 e4:Int} (h:Rep A L d m) (hE:Es A e1 e2 e3 e4) (hc:one3 (sgz (d 0)) (sgz (d 1)) (sgz (d 2)) (sgz (d 3)) 1≠0):¬ (e1≤0∧0≤e2∧e3≤0∧0≤e4):=by
  rcases one3_some hc with k | k | k | k
  · exact h.some_pos hE (by omega) k
  · exact h.some_pos hE (by omega) k
  · exact h.some_pos hE (by omega) k
  · exact h.some_pos hE (by omega) k
theorem sgz_times {m x y:Int} (hm:0 < m) (h:m*x=y):sgz x=sgz y:=by
  rw [← h,sgz_mul,sgz_pos.2 hm,Int.one_mul]
theorem one3_four {a b c d v:Int}:one3 a b c d v=4↔a=v∧b=v∧c=v∧d=v:=by
  unfold one3
  split<;>split<;>split<;>split<;>simp_all
theorem Rep.main {A L:Mx} {d:Nat→Int} {m e1 e2 e3 e4:Int} (h:Rep A L d m) (hE:Es A e1 e2 e3 e4):vch [sgz e4,- sgz e3,sgz e2,- sgz e1,1]=one3 (sgz (d 0)) (sgz (d 1)) (sgz (d 2)) (sgz (d 3)) 1∧lead (sgz e1) (sgz e2) (sgz e3) (sgz e4)=one3 (sgz (d 0)) (sgz (d 1)) (sgz (d 2)) (sgz (d 3)) 0:=by
  have hs:=h.somes hE
  have hs':=h.neg.somes hE.neg
  have ht:=h.threes hE
  have ht':=h.neg.threes hE.neg
  rw [one3_neg] at hs' ht'
  obtain ⟨a0,a1,a2,a3,b01,b02,b03,b12,b13,b23,c0,c1,c2,c3,f,⟨⟨pa0,pa1,pa2,pa3⟩,⟨pb01,pb02,pb03,pb12,pb13,pb23⟩,⟨pc0,pc1,pc2,pc3⟩,pf⟩,g1,g2,g3,g4⟩:=h.coef hE
  have hm:=h.pos
  have hm2:=Int.mul_pos hm hm
  have hm3:=Int.mul_pos hm2 hm
  have hm4:=Int.mul_pos hm3 hm
  have s4:=sgz_times hm4 g4
  have s3:=sgz_times hm3 g3
  have s2:=sgz_times hm2 g2
  have s1:=sgz_times hm g1
  have z0:=sgz_zero (x:=d 0); have z1:=sgz_zero (x:=d 1); have z2:=sgz_zero (x:=d 2); have z3:=sgz_zero (x:=d 3)
  have u:∀ {x:Int},0 < x→sgz x=1:=fun h=>sgz_pos.2 h
  refine comb (sgz_cases _) (sgz_cases _) (sgz_cases _) (sgz_cases _) (sgz_cases _) (sgz_cases _) (sgz_cases _) (sgz_cases _) ?_
  unfold facts
  simp only [Bool.and_eq_true,Bool.or_eq_true,decide_eq_true_eq,ne_eq]
  have imp:∀ {P Q:Prop},(P→Q)→¬ P∨Q:=fun {P Q} h=>(Classical.em P).elim (fun p=>.inr (h p)) .inl
  have imp2:∀ {P R Q:Prop},(P→R→Q)→(¬ P∨¬ R)∨Q:=fun {P R Q} h=>(Classical.em P).elim (fun p=>(Classical.em R).elim (fun r=>.inr (h p r)) (fun r=>.inl (.inr r))) (fun p=>.inl (.inl p))
  have imp3:∀ {P R S Q:Prop},(P→R→S→Q)→((¬ P∨¬ R)∨¬ S)∨Q:=fun {P R S Q} h=>(Classical.em P).elim (fun p=>(Classical.em R).elim (fun r=>(Classical.em S).elim (fun s=>.inr (h p r s)) (fun s=>.inl (.inr s))) (fun r=>.inl (.inl (.inr r)))) (fun p=>.inl (.inl (.inl p)))
  refine ⟨⟨⟨⟨⟨⟨⟨⟨⟨⟨⟨⟨⟨⟨⟨⟨⟨⟨⟨⟨?_,?_⟩,?_⟩,?_⟩,?_⟩,?_⟩,?_⟩,?_⟩,?_⟩,?_⟩,?_⟩,?_⟩,?_⟩,?_⟩,?_⟩,?_⟩,?_⟩,?_⟩,?_⟩,?_⟩,?_⟩
  · rw [s4]; simp only [sgz_mul,u pf]; omega
  · refine imp fun e3=>?_
    rw [s3,z3.1 e3]; simp only [Int.mul_zero,Int.zero_mul,Int.add_zero,Int.zero_add,sgz_mul,u pc0]; omega
  · refine imp fun e=>?_
    rw [s3,z2.1 e]; simp only [Int.mul_zero,Int.zero_mul,Int.add_zero,Int.zero_add,sgz_mul,u pc1]; omega
  · refine imp fun e=>?_
    rw [s3,z1.1 e]; simp only [Int.mul_zero,Int.zero_mul,Int.add_zero,Int.zero_add,sgz_mul,u pc2]; omega
  · refine imp fun e=>?_
    rw [s3,z0.1 e]; simp only [Int.mul_zero,Int.zero_mul,Int.add_zero,Int.zero_add,sgz_mul,u pc3]; omega
  · refine imp2 fun x y=>?_
    rw [s2,z2.1 x,z3.1 y]; simp only [Int.mul_zero,Int.zero_mul,Int.add_zero,Int.zero_add,sgz_mul,u pb01]; omega
  · refine imp2 fun x y=>?_
    rw [s2,z1.1 x,z3.1 y]; simp only [Int.mul_zero,Int.zero_mul,Int.add_zero,Int.zero_add,sgz_mul,u pb02]; omega
  · refine imp2 fun x y=>?_
    rw [s2,z1.1 x,z2.1 y]; simp only [Int.mul_zero,Int.zero_mul,Int.add_zero,Int.zero_add,sgz_mul,u pb03]; omega
  · refine imp2 fun x y=>?_
    rw [s2,z0.1 x,z3.1 y]; simp only [Int.mul_zero,Int.zero_mul,Int.add_zero,Int.zero_add,sgz_mul,u pb12]; omega
  · refine imp2 fun x y=>?_
    rw [s2,z0.1 x,z2.1 y]; simp only [Int.mul_zero,Int.zero_mul,Int.add_zero,Int.zero_add,sgz_mul,u pb13]; omega
  · refine imp2 fun x y=>?_
    rw [s2,z0.1 x,z1.1 y]; simp only [Int.mul_zero,Int.zero_mul,Int.add_zero,Int.zero_add,sgz_mul,u pb23]; omega
  · refine imp3 fun x y z=>?_
    rw [s1,z1.1 x,z2.1 y,z3.1 z]; simp only [Int.mul_zero,Int.zero_mul,Int.add_zero,Int.zero_add,sgz_mul,u pa0]; omega
  · refine imp3 fun x y z=>?_
    rw [s1,z0.1 x,z2.1 y,z3.1 z]; simp only [Int.mul_zero,Int.zero_mul,Int.add_zero,Int.zero_add,sgz_mul,u pa1]; omega
  · refine imp3 fun x y z=>?_
    rw [s1,z0.1 x,z1.1 y,z3.1 z]; simp only [Int.mul_zero,Int.zero_mul,Int.add_zero,Int.zero_add,sgz_mul,u pa2]; omega
  · refine imp3 fun x y z=>?_
    rw [s1,z0.1 x,z1.1 y,z2.1 z]; simp only [Int.mul_zero,Int.zero_mul,Int.add_zero,Int.zero_add,sgz_mul,u pa3]; omega
  · refine imp fun hq=>?_
    obtain ⟨q0,q1,q2,q3⟩:=one3_four.1 hq
    have d0:=sgz_pos.1 q0; have d1:=sgz_pos.1 q1; have d2:=sgz_pos.1 q2; have d3:=sgz_pos.1 q3
    have m2:∀ {x y z:Int},0 < x→0 < y→0 < z→0 < x*y*z:=fun h1 h2 h3=>Int.mul_pos (Int.mul_pos h1 h2) h3
    have m3:∀ {x y z w:Int},0 < x→0 < y→0 < z→0 < w→0 < x*y*z*w:=fun h1 h2 h3 h4=>Int.mul_pos (Int.mul_pos (Int.mul_pos h1 h2) h3) h4
    rw [s1,s2,s3]
    refine ⟨⟨u ?_,u ?_⟩,u ?_⟩
    · have:=Int.mul_pos d0 pa0; have:=Int.mul_pos d1 pa1; have:=Int.mul_pos d2 pa2; have:=Int.mul_pos d3 pa3
      omega
    · have:=m2 d0 d1 pb01; have:=m2 d0 d2 pb02; have:=m2 d0 d3 pb03; have:=m2 d1 d2 pb12; have:=m2 d1 d3 pb13; have:=m2 d2 d3 pb23
      omega
    · have:=m3 d0 d1 d2 pc0; have:=m3 d0 d1 d3 pc1; have:=m3 d0 d2 d3 pc2; have:=m3 d1 d2 d3 pc3
      omega
  · refine imp fun hq=>?_
    obtain ⟨q0,q1,q2,q3⟩:=one3_four.1 hq
    have d0:=sgz_neg.1 q0; have d1:=sgz_neg.1 q1; have d2:=sgz_neg.1 q2; have d3:=sgz_neg.1 q3
    have m1:∀ {x y:Int},x < 0→0 < y→x*y < 0:=fun h1 h2=>Int.mul_neg_of_neg_of_pos h1 h2
    have m2:∀ {x y z:Int},x < 0→y < 0→0 < z→0 < x*y*z:=fun h1 h2 h3=>Int.mul_pos (Int.mul_pos_of_neg_of_neg h1 h2) h3
    have m3:∀ {x y z w:Int},x < 0→y < 0→z < 0→0 < w→x*y*z*w < 0:=fun h1 h2 h3 h4=>Int.mul_neg_of_neg_of_pos (Int.mul_neg_of_pos_of_neg (Int.mul_pos_of_neg_of_neg h1 h2) h3) h4
    rw [s1,s2,s3]
    refine ⟨⟨sgz_neg.2 ?_,u ?_⟩,sgz_neg.2 ?_⟩
    · have:=m1 d0 pa0; have:=m1 d1 pa1; have:=m1 d2 pa2; have:=m1 d3 pa3
      omega
    · have:=m2 d0 d1 pb01; have:=m2 d0 d2 pb02; have:=m2 d0 d3 pb03; have:=m2 d1 d2 pb12; have:=m2 d1 d3 pb13; have:=m2 d2 d3 pb23
      omega
    · have:=m3 d0 d1 d2 pc0; have:=m3 d0 d1 d3 pc1; have:=m3 d0 d2 d3 pc2; have:=m3 d1 d2 d3 pc3
      omega
  · by_cases hz:one3 (sgz (d 0)) (sgz (d 1)) (sgz (d 2)) (sgz (d 3)) 1=0
    · simp [hz]
    · have:=hs hz
      have l1:=sgz_le (x:=e1); have l2:=sgz_ge (x:=e2); have l3:=sgz_le (x:=e3); have l4:=sgz_ge (x:=e4)
      omega
  · by_cases hz:one3 (sgz (d 0)) (sgz (d 1)) (sgz (d 2)) (sgz (d 3)) (-1)=0
    · simp [hz]
    · have:=hs' hz
      have l1:=sgz_ge (x:=e1); have l2:=sgz_ge (x:=e2); have l3:=sgz_ge (x:=e3); have l4:=sgz_ge (x:=e4)
      omega
  · by_cases hz:one3 (sgz (d 0)) (sgz (d 1)) (sgz (d 2)) (sgz (d 3)) 1 < 3
    · exact .inl hz
    · have:=ht (by omega)
      have l1:=sgz_le (x:=e1); have l2:=sgz_ge (x:=e2); have l3:=sgz_ge (x:=e3); have l4:=sgz_le (x:=e2)
      refine .inr ?_
      omega
  · by_cases hz:one3 (sgz (d 0)) (sgz (d 1)) (sgz (d 2)) (sgz (d 3)) (-1) < 3
    · exact .inl hz
    · have:=ht' (by omega)
      have l1:=sgz_ge (x:=e1); have l2:=sgz_ge (x:=e2); have l3:=sgz_le (x:=e3); have l4:=sgz_le (x:=e2)
      refine .inr ?_
      omega
end Dt
namespace Dt
structure El (A X M:Mx) (d:Nat→Int) (m:Int) (S:Nat→Bool):Prop where
  det:det 4 M≠0
  pos:0 < m
  unit:∀ i,i < 4→S i=true→(∀ c,c < 4→M i c=unit i c)∧d i=0
  eq:∀ x y,x < 4→y < 4→m*A x y=sm 4 (fun i=>d i*(M i x*M i y))+(if S x=true∧S y=true then X x y else 0)
theorem El.start {A:Mx}:El A A one (fun _=>0) 1 (fun _=>true):=⟨by rw [det_one]; omega,by omega,fun i _ _=>⟨fun c _=>by unfold one Dt.unit; exact if_iff ⟨fun h=>h.symm,fun h=>h.symm⟩,rfl⟩,fun x y _ _=>by
  rw [if_pos ⟨rfl,rfl⟩,sm_zero fun i _=>Int.zero_mul _]; omega⟩
theorem El.done {A X M:Mx} {d:Nat→Int} {m:Int} {S:Nat→Bool} (h:El A X M d m S) (hz:∀ x y,x < 4→y < 4→S x=true→S y=true→X x y=0):Rep A M d m:=⟨h.det,h.pos,fun x y hx hy=>by
  rw [h.eq x y hx hy]
  by_cases hs:S x=true∧S y=true
  · rw [if_pos hs,hz x y hx hy hs.1 hs.2]; omega
  · rw [if_neg hs]; omega⟩
theorem det_row {M:Mx} {S:Nat→Bool} (hM:∀ i,i < 4→S i=true→∀ c,c < 4→M i c=unit i c) {p:Nat} (hp:p < 4) (hSp:S p=true) {v:Nat→Int} (hv:∀ c,c < 4→S c≠true→v c=0):det 4 (up M p v)=v p*det 4 M:=by
  have e1:det 4 (up M p v)=det 4 (up M p fun c=>sm 4 fun j=>v j*unit j c):=det_congr fun r c hr hc=>by
    by_cases e:r=p
    · subst e; rw [up_in,up_in,row_sum v hc]
    · rw [up_out e,up_out e]
  have e2:det 4 (up M p fun c=>sm 4 fun j=>v j*unit j c)=sm 4 fun j=>v j*det 4 (up M p (unit j)):=(det_am 4).sum hp M 4 v fun j=>unit j
  rw [e1,e2]
  have e3:sm 4 (fun j=>v j*det 4 (up M p (unit j)))=sm 4 (fun j=>if j=p then v j*det 4 M else 0):=sm_congr fun j hj=>by
    by_cases e:j=p
    · subst e
      rw [if_pos rfl]
      congr 1
      exact det_congr fun r c hr hc=>by
        by_cases e:r=j
        · subst e; rw [up_in,hM r hj hSp c hc]
        · rw [up_out e]
    · rw [if_neg e]
      by_cases hS:S j=true
      · have:det 4 (up M p (unit j))=0:=(det_am 4).equal hp hj (fun h=>e h.symm) _ fun c hc=>by rw [up_in,up_out e,hM j hj hS c hc]
        rw [this,Int.mul_zero]
      · rw [hv j hj hS,Int.zero_mul]
  rw [e3,sm_one (f:=fun j=>v j*det 4 M) hp]
theorem sm_upd {n p:Nat} (hp:p < n) (f:Nat→Int) (a:Int):sm n (fun i=>if i=p then a else f i)=sm n f - f p+a:=by
  have e:sm n (fun i=>if i=p then a else f i)=sm n (fun i=>f i+if i=p then a - f i else 0):=sm_congr fun i _=>by
    by_cases h:i=p
    · rw [if_pos h,if_pos h]; omega
    · rw [if_neg h,if_neg h]; omega
  rw [e,sm_add,sm_one (f:=fun i=>a - f i) hp]; omega
theorem El.one_ {A X M:Mx} {d:Nat→Int} {m:Int} {S:Nat→Bool} (h:El A X M d m S) (hX:∀ x y,x < 4→y < 4→S x=true→S y=true→X x y=X y x) {p:Nat} (hp:p < 4) (hSp:S p=true) (hb:X p p≠0):
    El A (fun x y=>X p p*(X p p*X x y - X x p*X p y)) (up M p fun c=>if S c=true then X p c else 0) (fun i=>if i=p then X p p else X p p*X p p*d i) (m*(X p p*X p p)) (fun i=>S i && decide (i≠p)):=by
  have hd0:=(h.unit p hp hSp).2
  refine ⟨?_,Int.mul_pos h.pos (sq_pos' hb),fun i hi hS=>?_,fun x y hx hy=>?_⟩
  · rw [det_row (S:=S) (fun i hi hS=>(h.unit i hi hS).1) hp hSp fun c _ hc=>if_neg hc,if_pos hSp]
    exact Int.mul_ne_zero hb h.det
  · simp only [Bool.and_eq_true,decide_eq_true_eq] at hS
    obtain ⟨h1,h2⟩:=h.unit i hi hS.1
    exact ⟨fun c hc=>by rw [up_out hS.2,h1 c hc],by rw [if_neg hS.2,h2,Int.mul_zero]⟩
  · have e0:m*(X p p*X p p)*A x y=X p p*X p p*(m*A x y):=by grind
    rw [e0,h.eq x y hx hy]
    have e1:sm 4 (fun i=>(if i=p then X p p else X p p*X p p*d i)*(up M p (fun c=>if S c=true then X p c else 0) i x*up M p (fun c=>if S c=true then X p c else 0) i y))=sm 4 (fun i=>if i=p then X p p*((if S x=true then X p x else 0)*(if S y=true then X p y else 0)) else X p p*X p p*(d i*(M i x*M i y))):=sm_congr fun i _=>by
      by_cases e:i=p
      · subst e; rw [if_pos rfl,if_pos rfl,up_in,up_in]
      · rw [if_neg e,if_neg e,up_out e,up_out e]; grind
    rw [e1,sm_upd hp (fun i=>X p p*X p p*(d i*(M i x*M i y))),sm_mul]
    rw [hd0]
    have hS':∀ z,((S z && decide (z≠p))=true)↔(S z=true∧z≠p):=fun z=>by simp
    by_cases hSx:S x=true
    · by_cases hSy:S y=true
      · rw [if_pos ⟨hSx,hSy⟩,if_pos hSx,if_pos hSy]
        by_cases hxp:x=p
        · subst hxp
          rw [if_neg (fun h=>((hS' x).1 h.1).2 rfl)]; grind
        · by_cases hyp:y=p
          · subst hyp
            rw [if_neg (fun h=>((hS' y).1 h.2).2 rfl),hX x y hx hy hSx hSy]; grind
          · rw [if_pos ⟨(hS' x).2 ⟨hSx,hxp⟩,(hS' y).2 ⟨hSy,hyp⟩⟩,hX x p hx hp hSx hSp]; grind
      · have hn:¬ ((S x && decide (x≠p))=true∧(S y && decide (y≠p))=true):=fun h=>hSy ((hS' y).1 h.2).1
        rw [if_neg (show ¬ (S x=true∧S y=true) from fun h=>hSy h.2),if_neg hSy,if_neg hn]; grind
    · have hn:¬ ((S x && decide (x≠p))=true∧(S y && decide (y≠p))=true):=fun h=>hSx ((hS' x).1 h.1).1
      rw [if_neg (show ¬ (S x=true∧S y=true) from fun h=>hSx h.1),if_neg hSx,if_neg hn]; grind
theorem El.two {A X M:Mx} {d:Nat→Int} {m:Int} {S:Nat→Bool} (h:El A X M d m S) (hX:∀ x y,x < 4→y < 4→S x=true→S y=true→X x y=X y x) {p q:Nat} (hp:p < 4) (hq:q < 4) (hpq:p≠q) (hSp:S p=true) (hSq:S q=true) (hpp:X p p=0) (hqq:X q q=0) (hb:X p q≠0):
    El A (fun x y=>2*X p q*(X p q*X x y - X x p*X q y - X x q*X p y)) (up (up M p fun c=>if S c=true then X p c+X q c else 0) q fun c=>if S c=true then X q c - X p c else 0) (fun i=>if i=q then - X p q else if i=p then X p q else 2*(X p q*X p q)*d i) (m*(2*(X p q*X p q))) (fun i=>S i && decide (i≠p) && decide (i≠q)):=by
  have hdp:=(h.unit p hp hSp).2
  have hdq:=(h.unit q hq hSq).2
  have hqp:X q p=X p q:=hX q p hq hp hSq hSp
  refine ⟨?_,Int.mul_pos h.pos (by have:=sq_pos' hb; omega),fun i hi hS=>?_,fun x y hx hy=>?_⟩
  ·
    generalize hg:(fun c=>if S c=true then X p c+X q c else 0)=g
    generalize he:(fun c=>if S c=true then X q c - X p c else 0)=e
    have gp:g p=X p q:=by rw [← hg]; simp only; rw [if_pos hSp,hpp,hqp]; omega
    have gq:g q=X p q:=by rw [← hg]; simp only; rw [if_pos hSq,hqq]; omega
    have ep:e p=X p q:=by rw [← he]; simp only; rw [if_pos hSp,hpp,hqp]; omega
    have eq':e q= - X p q:=by rw [← he]; simp only; rw [if_pos hSq,hqq]; omega
    have hg0:∀ c,c < 4→S c≠true→g c=0:=fun c _ hc=>by rw [← hg]; exact if_neg hc
    have he0:∀ c,c < 4→S c≠true→e c=0:=fun c _ hc=>by rw [← he]; exact if_neg hc
    have hU:=fun i hi hS=>(h.unit i hi hS).1
    have d1:Dt.det 4 (up M p g)=X p q*Dt.det 4 M:=by rw [det_row hU hp hSp hg0,gp]
    have d2:Dt.det 4 (up M q g)=X p q*Dt.det 4 M:=by rw [det_row hU hq hSq hg0,gq]
    have d3:Dt.det 4 (up (up M p g) q e)=sm 4 fun j=>e j*Dt.det 4 (up (up M p g) q (Dt.unit j)):=by
      have e1:Dt.det 4 (up (up M p g) q e)=Dt.det 4 (up (up M p g) q fun c=>sm 4 fun j=>e j*Dt.unit j c):=det_congr fun r c hr hc=>by
        by_cases h1:r=q
        · subst h1; rw [up_in,up_in,row_sum e hc]
        · rw [up_out h1,up_out h1]
      rw [e1]
      exact (det_am 4).sum hq (up M p g) 4 e fun j=>Dt.unit j
    have d4:sm 4 (fun j=>e j*Dt.det 4 (up (up M p g) q (Dt.unit j)))=sm 4 (fun j=>(if j=q then e j*(X p q*Dt.det 4 M) else 0)+if j=p then e j* -(X p q*Dt.det 4 M) else 0):=sm_congr fun j hj=>by
      by_cases h1:j=q
      · subst h1
        rw [if_pos rfl,if_neg (fun h=>hpq h.symm),Int.add_zero,← d1]
        congr 1
        exact det_congr fun r c hr hc=>by
          by_cases h2:r=j
          · subst h2; rw [up_in,up_out (fun h=>hpq h.symm),hU r hr hSq c hc]
          · rw [up_out h2]
      · rw [if_neg h1,Int.zero_add]
        by_cases h2:j=p
        · subst h2
          rw [if_pos rfl,← d2]
          congr 1
          have:=(det_am 4).swap hp hq hpq (up M q g)
          rw [← this]
          exact det_congr fun r c hr hc=>by
            unfold sw
            by_cases h3:r=j
            · subst h3; rw [if_pos rfl,up_in,up_out hpq,up_in]
            · rw [if_neg h3]
              by_cases h4:r=q
              · subst h4; rw [if_pos rfl,up_in,up_out hpq,hU j hp hSp c hc]
              · rw [if_neg h4,up_out h4,up_out h4,up_out h3]
        · rw [if_neg h2]
          by_cases hS:S j=true
          · have:Dt.det 4 (up (up M p g) q (Dt.unit j))=0:=(det_am 4).equal hq hj (fun h=>h1 h.symm) _ fun c hc=>by rw [up_in,up_out h1,up_out h2,hU j hj hS c hc]
            rw [this,Int.mul_zero]
          · rw [he0 j hj hS,Int.zero_mul]
    rw [d3,d4,sm_add,sm_one (f:=fun j=>e j*(X p q*Dt.det 4 M)) hq,sm_one (f:=fun j=>e j* -(X p q*Dt.det 4 M)) hp,ep,eq']
    have e9: -X p q*(X p q*Dt.det 4 M)+X p q* -(X p q*Dt.det 4 M)= -2*(X p q*X p q*Dt.det 4 M):=by grind
    rw [e9]
    exact Int.mul_ne_zero (by omega) (Int.mul_ne_zero (Int.mul_ne_zero hb hb) h.det)
  · simp only [Bool.and_eq_true,decide_eq_true_eq] at hS
    obtain ⟨h1,h2⟩:=h.unit i hi hS.1.1
    exact ⟨fun c hc=>by rw [up_out hS.2,up_out hS.1.2,h1 c hc],by rw [if_neg hS.2,if_neg hS.1.2,h2,Int.mul_zero]⟩
  · have e0:m*(2*(X p q*X p q))*A x y=2*(X p q*X p q)*(m*A x y):=by grind
    rw [e0,h.eq x y hx hy]
    generalize hg:(fun c=>if S c=true then X p c+X q c else 0)=g
    generalize he:(fun c=>if S c=true then X q c - X p c else 0)=e
    have hgz:∀ z,g z=if S z=true then X p z+X q z else 0:=fun z=>by rw [← hg]
    have hez:∀ z,e z=if S z=true then X q z - X p z else 0:=fun z=>by rw [← he]
    have e1:sm 4 (fun i=>(if i=q then - X p q else if i=p then X p q else 2*(X p q*X p q)*d i)*(up (up M p g) q e i x*up (up M p g) q e i y))=sm 4 (fun i=>if i=q then - X p q*(e x*e y) else if i=p then X p q*(g x*g y) else 2*(X p q*X p q)*(d i*(M i x*M i y))):=sm_congr fun i _=>by
      by_cases e1:i=q
      · subst e1; rw [if_pos rfl,if_pos rfl,up_in,up_in]
      · rw [if_neg e1,if_neg e1,up_out e1,up_out e1]
        by_cases e2:i=p
        · subst e2; rw [if_pos rfl,if_pos rfl,up_in,up_in]
        · rw [if_neg e2,if_neg e2,up_out e2,up_out e2]; grind
    rw [e1,sm_upd hq (fun i=>if i=p then X p q*(g x*g y) else 2*(X p q*X p q)*(d i*(M i x*M i y))),sm_upd hp (fun i=>2*(X p q*X p q)*(d i*(M i x*M i y))),sm_mul,if_neg (show ¬ q=p from fun h=>hpq h.symm)]
    rw [hdp,hdq,hgz,hgz,hez,hez]
    have hS':∀ z,((S z && decide (z≠p) && decide (z≠q))=true)↔(S z=true∧z≠p∧z≠q):=fun z=>by simp [and_assoc]
    by_cases hSx:S x=true
    · by_cases hSy:S y=true
      · have sxp:=hX x p hx hp hSx hSp
        have sxq:=hX x q hx hq hSx hSq
        rw [if_pos ⟨hSx,hSy⟩,if_pos hSx,if_pos hSy,if_pos hSx,if_pos hSy]
        by_cases hxp:x=p
        · subst hxp
          rw [if_neg (fun h=>((hS' x).1 h.1).2.1 rfl),hpp,hqp]; grind
        · by_cases hxq:x=q
          · subst hxq
            rw [if_neg (fun h=>((hS' x).1 h.1).2.2 rfl),hqq]; grind
          · by_cases hyp:y=p
            · subst hyp
              rw [if_neg (fun h=>((hS' y).1 h.2).2.1 rfl),hpp,hqp,sxp]; grind
            · by_cases hyq:y=q
              · subst hyq
                rw [if_neg (fun h=>((hS' y).1 h.2).2.2 rfl),hqq,sxq]; grind
              · rw [if_pos ⟨(hS' x).2 ⟨hSx,hxp,hxq⟩,(hS' y).2 ⟨hSy,hyp,hyq⟩⟩,sxp,sxq]; grind
      · have hn:¬ ((S x && decide (x≠p) && decide (x≠q))=true∧(S y && decide (y≠p) && decide (y≠q))=true):=fun h=>hSy ((hS' y).1 h.2).1
        rw [if_neg (show ¬ (S x=true∧S y=true) from fun h=>hSy h.2),if_neg hSy,if_neg hSy,if_neg hn]; grind
    · have hn:¬ ((S x && decide (x≠p) && decide (x≠q))=true∧(S y && decide (y≠p) && decide (y≠q))=true):=fun h=>hSx ((hS' x).1 h.1).1
      rw [if_neg (show ¬ (S x=true∧S y=true) from fun h=>hSx h.1),if_neg hSx,if_neg hSx,if_neg hn]; grind
def cnt (d:Nat→Int) (v:Int):Nat:=one3 (sgz (d 0)) (sgz (d 1)) (sgz (d 2)) (sgz (d 3)) v
def crd (S:Nat→Bool):Nat:=(if S 0=true then 1 else 0)+(if S 1=true then 1 else 0)+(if S 2=true then 1 else 0)+if S 3=true then 1 else 0
theorem crd_lt {S S':Nat→Bool} (h:∀ i,i < 4→S' i=true→S i=true) {p:Nat} (hp:p < 4) (h1:S p=true) (h2:S' p≠true):crd S' < crd S:=by
  have i0:=h 0 (by omega)
  have i1:=h 1 (by omega)
  have i2:=h 2 (by omega)
  have i3:=h 3 (by omega)
  unfold crd
  match p,hp with
  | 0,_=>rw [if_pos h1,if_neg h2]; split<;>split<;>split<;>split<;>split<;>split<;>simp_all
  | 1,_=>rw [if_pos h1,if_neg h2]; split<;>split<;>split<;>split<;>split<;>split<;>simp_all
  | 2,_=>rw [if_pos h1,if_neg h2]; split<;>split<;>split<;>split<;>split<;>split<;>simp_all
  | 3,_=>rw [if_pos h1,if_neg h2]; split<;>split<;>split<;>split<;>split<;>split<;>simp_all
theorem El.end_:∀ (k:Nat) {A X M:Mx} {d:Nat→Int} {m:Int} {S:Nat→Bool},crd S≤k→El A X M d m S→(∀ x y,x < 4→y < 4→S x=true→S y=true→X x y=X y x)→∃ M d m,Rep A M d m:=by
  intro k
  induction k with
  | zero=>
    intro A X M d m S hk h hX
    refine ⟨M,d,m,h.done fun x y hx hy hSx _=>?_⟩
    exfalso
    have:=crd_lt (S:=S) (S':=fun i=>S i && decide (i≠x)) (fun i _ h=>by simp at h; exact h.1) hx hSx (by simp)
    omega
  | succ k ih=>
    intro A X M d m S hk h hX
    by_cases h1:∃ p,p < 4∧S p=true∧X p p≠0
    · obtain ⟨p,hp,hSp,hb⟩:=h1
      refine ih ?_ (h.one_ hX hp hSp hb) fun x y hx hy hSx hSy=>?_
      · have:=crd_lt (S:=S) (S':=fun i=>S i && decide (i≠p)) (fun i _ h=>by simp at h; exact h.1) hp hSp (by simp)
        omega
      · simp only [Bool.and_eq_true,decide_eq_true_eq] at hSx hSy
        rw [hX x y hx hy hSx.1 hSy.1,hX x p hx hp hSx.1 hSp,hX y p hy hp hSy.1 hSp]
        grind
    · by_cases h2:∃ p q,p < 4∧q < 4∧p≠q∧S p=true∧S q=true∧X p q≠0
      · obtain ⟨p,q,hp,hq,hpq,hSp,hSq,hb⟩:=h2
        have hpp:X p p=0:=Classical.byContradiction fun e=>h1 ⟨p,hp,hSp,e⟩
        have hqq:X q q=0:=Classical.byContradiction fun e=>h1 ⟨q,hq,hSq,e⟩
        refine ih ?_ (h.two hX hp hq hpq hSp hSq hpp hqq hb) fun x y hx hy hSx hSy=>?_
        · have:=crd_lt (S:=S) (S':=fun i=>S i && decide (i≠p) && decide (i≠q)) (fun i _ h=>by simp at h; exact h.1.1) hp hSp (by simp)
          omega
        · simp only [Bool.and_eq_true,decide_eq_true_eq] at hSx hSy
          rw [hX x y hx hy hSx.1.1 hSy.1.1,hX x p hx hp hSx.1.1 hSp,hX y p hy hp hSy.1.1 hSp,hX x q hx hq hSx.1.1 hSq,hX y q hy hq hSy.1.1 hSq]
          grind
      · refine ⟨M,d,m,h.done fun x y hx hy hSx hSy=>Classical.byContradiction fun e=>?_⟩
        by_cases hxy:x=y
        · subst hxy; exact h1 ⟨x,hx,hSx,e⟩
        · exact h2 ⟨x,y,hx,hy,hxy,hSx,hSy,e⟩
theorem rep_ex {A:Mx} (hA:∀ i j,i < 4→j < 4→A i j=A j i):∃ M d m,Rep A M d m:=El.end_ 4 (by unfold crd; simp) El.start fun x y hx hy _ _=>hA x y hx hy
theorem Rep.cong {A L E:Mx} {d:Nat→Int} {m:Int} (h:Rep A L d m) (hE:Dt.det 4 E≠0) {A':Mx} (hA:∀ x y,x < 4→y < 4→A' x y=sm 4 fun r=>E r x*sm 4 fun s=>A r s*E s y):Rep A' (mul 4 L E) d m:=by
  refine ⟨by rw [det_mul]; exact Int.mul_ne_zero h.det hE,h.pos,fun x y hx hy=>?_⟩
  rw [hA x y hx hy,← sm_mul]
  have e1:sm 4 (fun r=>m*(E r x*sm 4 fun s=>A r s*E s y))=sm 4 (fun r=>sm 4 fun s=>sm 4 fun i=>d i*(L i r*E r x*(L i s*E s y))):=sm_congr fun r hr=>by
    have:m*(E r x*sm 4 fun s=>A r s*E s y)=sm 4 (fun s=>E r x*(m*A r s)*E s y):=by
      have e:m*(E r x*sm 4 fun s=>A r s*E s y)=(m*E r x)*sm 4 fun s=>A r s*E s y:=by grind
      rw [e,← sm_mul]; exact sm_congr fun s _=>by grind
    rw [this]
    exact sm_congr fun s hs=>by
      rw [h.eq r s hr hs,← sm_mul,← sm_mul']
      exact sm_congr fun i _=>by grind
  rw [e1]
  have e2:sm 4 (fun r=>sm 4 fun s=>sm 4 fun i=>d i*(L i r*E r x*(L i s*E s y)))=sm 4 (fun i=>sm 4 fun r=>sm 4 fun s=>d i*(L i r*E r x*(L i s*E s y))):=by
    have:sm 4 (fun r=>sm 4 fun s=>sm 4 fun i=>d i*(L i r*E r x*(L i s*E s y)))=sm 4 (fun r=>sm 4 fun i=>sm 4 fun s=>d i*(L i r*E r x*(L i s*E s y))):=sm_congr fun r _=>sm_swap ..
    rw [this,sm_swap]
  rw [e2]
  refine sm_congr fun i _=>?_
  have e3:sm 4 (fun r=>sm 4 fun s=>d i*(L i r*E r x*(L i s*E s y)))=sm 4 (fun r=>d i*mul 4 L E i y*(L i r*E r x)):=sm_congr fun r _=>by
    have e:∀ s,d i*(L i r*E r x*(L i s*E s y))=(d i*(L i r*E r x))*(L i s*E s y):=fun s=>by grind
    have e5:sm 4 (fun s=>d i*(L i r*E r x*(L i s*E s y)))=sm 4 (fun s=>(d i*(L i r*E r x))*(L i s*E s y)):=sm_congr fun s _=>e s
    rw [e5,sm_mul]
    show d i*(L i r*E r x)*mul 4 L E i y=_
    grind
  rw [e3,sm_mul]
  show d i*mul 4 L E i y*mul 4 L E i x=_
  grind
end Dt
