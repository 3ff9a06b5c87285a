/- Frames as functions, one step an operation, loops with fuel, regions that draw their order: the ground on which the walks of this claim stand. It holds over any program. -/
import Derived.WalkKit
theorem n0 {p:Prop} (h:p:=by omega):p:=h
theorem A0 {p:Prop} [Decidable p] {α:Sort _} {a b:α} (h:¬p:=by omega):ite p a b=b:=if_neg h
theorem B0 {p:Prop} [Decidable p] {α:Sort _} {a b:α} (h:p:=by omega):ite p a b=a:=if_pos h
theorem C0 {p:Prop} (h:p:=by simp only [List.length_cons,List.length_nil]; omega):p:=h
theorem G0 {p:Prop} (h:p:=by simp):p:=h
theorem H0 {p:Prop} (h:p:=by kernel_rfl):p:=h
abbrev I0:=@if_pos
abbrev J0:=@if_neg
abbrev S0:=@congrArg
abbrev H1:=@Int.toNat_natCast
abbrev P1:=@Option.some.inj
abbrev Z1:=@List.getElem_mem
abbrev C2:=@List.getElem?_eq_some_iff
abbrev D2:=@Bool.false_eq_true
abbrev H2:=@List.length_append
abbrev I2:=@List.mem_append
abbrev J2:=@List.getElem?_eq_getElem
abbrev O2:=@Classical.byContradiction
abbrev Z2:=@List.mem_singleton
abbrev B3:=@List.getElem?_set
abbrev C3:=@Int.pow_pos
abbrev D3:=@Int.eq_ofNat_of_zero_le
abbrev G3:=@List.mem_cons
abbrev V3:=@Int.mul_le_mul_of_nonneg_right
abbrev X3:=@Int.mul_le_mul_of_nonneg_left
abbrev n4:=@Int.emod_nonneg
abbrev A4:=@List.length_take
abbrev B4:=@List.length_cons
abbrev D4:=@Int.emod_lt_of_pos
abbrev I4:=@Int.mul_comm
abbrev O4:=@Nat.le_refl
abbrev P4:=@List.take_of_length_le
abbrev S4:=@Int.pow_add
abbrev T4:=@Int.mul_nonneg
abbrev U4:=@Bool.not_true
abbrev V4:=@Bool.and_eq_true
abbrev n5:=@Nat.min_eq_left
abbrev C5:=@Int.ediv_nonneg
abbrev F5:=@Nat.mul_le_mul
abbrev K5:=@List.getElem?_take
abbrev L5:=@List.getElem?_eq_none
abbrev Q5:=@Nat.le_trans
abbrev S5:=@Nat.add_mul
abbrev T5:=@List.length_replicate
abbrev U5:=@Bool.or_eq_true
abbrev Y5:=@Nat.eq_of_beq_eq_true
abbrev Z5:=@List.mem_map
abbrev j6:=@List.flatten_append
abbrev l6:=@Int.mul_ediv_add_emod
abbrev m6:=@Int.ediv_lt_of_lt_mul
abbrev w6:=@Option.some.injEq
abbrev y6:=@Option.bind_some
abbrev z6:=@List.pairwise_cons
abbrev A6:=@List.length_nil
abbrev B6:=@List.getElem?_drop
abbrev C6:=@List.ext_getElem?
abbrev L6:=@Nat.blt_eq
abbrev M6:=@List.take_length
abbrev N6:=@List.getElem?_set_self
abbrev O6:=@List.getElem?_append_left
abbrev P6:=@List.eq_nil_of_length_eq_zero
abbrev Q6:=@List.all_eq_true
abbrev S6:=@Int.le_of_lt
abbrev l7:=@Nat.add_zero
abbrev m7:=@List.mem_range
abbrev n7:=@List.mem_filter
abbrev o7:=@List.map_append
abbrev s7:=@List.length_set
abbrev u7:=@List.append_assoc
abbrev F7:=@List.map_cons
abbrev G7:=@List.length_pos_iff
abbrev H7:=@List.getElem?_map
abbrev I7:=@List.append_nil
abbrev P7:=@List.length_drop
abbrev Q7:=@Int.mul_add
abbrev n8:=@Nat.zero_le
abbrev o8:=@Nat.zero_add
abbrev p8:=@Nat.sub_zero
abbrev q8:=@Nat.mul_le_mul_right
abbrev s8:=@Nat.mul_comm
abbrev v8:=@List.nil_append
abbrev w8:=@List.length_singleton
abbrev y8:=@List.drop_zero
abbrev z8:=@Int.toNat_of_nonneg
abbrev H8:=@Option.map_some
abbrev J8:=@List.pairwise_iff_getElem
abbrev K8:=@List.nodup_append
abbrev L8:=@List.length_map
abbrev M8:=@List.eq_of_mem_replicate
abbrev N8:=@List.drop_of_length_le
abbrev O8:=@Int.mul_assoc
abbrev P8:=@Int.emod_eq_of_lt
abbrev Q8:=@Int.ediv_le_self
abbrev S8:=@Int.add_zero
abbrev T8:=@Int.add_mul
abbrev U8:=@Iff.rfl
abbrev V8:=@Array.getElem?_toList
abbrev A9:=@Nat.two_pow_add_eq_or_of_lt
abbrev B9:=@List.take_append_drop
abbrev C9:=@List.pairwise_append
abbrev D9:=@List.mem_iff_getElem?
abbrev E9:=@List.getElem?_replicate
abbrev F9:=@List.getElem?_append_right
abbrev G9:=@List.drop_drop
abbrev H9:=@Int.mul_zero
abbrev I9:=@Int.fdiv_eq_ediv_of_nonneg
abbrev J9:=@Array.length_toList
abbrev ra:=@Nat.mul_one
abbrev ua:=@List.take_zero
abbrev xa:=@List.take_add_one
abbrev Aa:=@List.drop_set_of_lt
abbrev Ba:=@List.drop_replicate
abbrev Ca:=@List.drop_eq_getElem_cons
abbrev Da:=@List.cons_append
abbrev Ea:=@Int.one_mul
abbrev Fa:=@Int.mul_lt_mul_of_pos_right
abbrev Ga:=@Int.ediv_eq_zero_of_lt
abbrev Ha:=@Array.toList_push
abbrev Fb:=@Nat.sub_self
abbrev Gb:=@Nat.and_two_pow_sub_one_eq_mod
abbrev Hb:=@List.flatten_cons
abbrev Ib:=@Int.zero_mul
abbrev Ic:=@Nat.testBit_two_pow_mul_add
abbrev Jc:=@List.take_take
abbrev Kc:=@List.take_left'
abbrev Mc:=@List.size_toArray
abbrev Nc:=@List.replicate_succ'
abbrev Oc:=@List.range_succ
abbrev Pc:=@List.nodup_iff_pairwise_ne
abbrev Qc:=@List.mem_cons_of_mem
abbrev Rc:=@List.getElem?_range
abbrev Sc:=@List.getElem?_cons_succ
abbrev Tc:=@List.flatMap_cons
abbrev Uc:=@List.filter_cons_of_neg
abbrev Wc:=@Int.tmod_eq_emod_of_nonneg
abbrev Xc:=@Int.tdiv_eq_ediv_of_nonneg
abbrev Zc:=@Int.natCast_pow
abbrev cd:=@Int.natCast_mul
abbrev jd:=@Int.natAbs_mul
abbrev pd:=@Int.mul_pos
abbrev qd:=@Int.mul_one
abbrev ud:=@Int.mul_le_mul
abbrev vd:=@Classical.choose_spec
abbrev xd:=@Bool.false_or
abbrev yd:=@Array.getElem?_eq_some_iff
abbrev If:=@Prod.mk.injEq
abbrev Kf:=@Option.getD_some
abbrev Lf:=@Nat.testBit_or
abbrev Mf:=@Nat.or_comm
abbrev Nf:=@Nat.mod_lt
abbrev Of:=@Nat.add_assoc
abbrev Pf:=@List.mem_or_eq_of_mem_set
abbrev Qf:=@List.mem_of_getElem?
abbrev Rf:=@List.mapM_cons
abbrev Sf:=@List.getElem?_set_ne
abbrev Tf:=@List.filter_cons_of_pos
abbrev Uf:=@List.any_eq_true
abbrev Vf:=@Int.pow_succ
abbrev Yf:=@Bool.not_eq_true'
abbrev aj:=@Nat.pow_le_pow_right
abbrev bj:=@Nat.div_add_mod
abbrev dj:=@List.take_set
abbrev fj:=@List.set_eq_of_length_le
abbrev gj:=@List.set_append_right
abbrev ij:=@List.replicate_succ
abbrev jj:=@List.replicate_append_replicate
abbrev kj:=@List.pairwise_singleton
abbrev lj:=@List.pairwise_map
abbrev mj:=@List.mem_of_mem_take
abbrev nj:=@List.mem_flatten
abbrev oj:=@List.map_congr_left
abbrev pj:=@List.getElem?_cons_zero
abbrev qj:=@List.getElem?_append
abbrev sj:=@List.getD_eq_getElem?_getD
abbrev tj:=@List.filter_eq_nil_iff
abbrev uj:=@List.drop_length
abbrev vj:=@List.drop_left'
abbrev wj:=@List.drop_eq_nil_of_le
abbrev xj:=@List.count_cons
abbrev yj:=@List.countP_le_length
abbrev zj:=@Int.neg_neg
abbrev Aj:=@Int.neg_mul
abbrev Bj:=@Int.add_mul_ediv_left
abbrev Cj:=@Bool.or_self
abbrev Dj:=@Array.mapM_eq_mapM_toList
abbrev Ej:=@Array.getElem?_modify
abbrev Qs:=@Nat.zero_mul
abbrev Ss:=@Nat.testBit_and
abbrev Us:=@Nat.succ_mul
abbrev Ws:=@Nat.or_lt_two_pow
abbrev Xs:=@Nat.lt_of_lt_of_le
abbrev Zs:=@Nat.div_lt_of_lt_mul
abbrev dt:=@Nat.and_zero
abbrev jt:=@Nat.add_sub_cancel'
abbrev nt:=@List.set_eq_take_append_cons_drop
abbrev ot:=@List.push_toArray
abbrev qt:=@List.not_mem_nil
abbrev xt:=@List.nodup_cons
abbrev zt:=@List.mem_replicate
abbrev At:=@List.mem_iff_getElem
abbrev Bt:=@List.mem_filterMap
abbrev Ct:=@List.mem_cons_self
abbrev Dt:=@List.mapM_nil
abbrev Et:=@List.length_filter_le
abbrev Gt:=@List.getLast?_eq_getElem?
abbrev Ht:=@List.getElem?_ofFn
abbrev Jt:=@List.flatMap_map
abbrev Kt:=@List.countP_cons
abbrev Lt:=@List.append_toArray
abbrev Mt:=@Int.zero_ediv
abbrev Nt:=@Int.mul_neg_of_pos_of_neg
abbrev Ot:=@Int.mul_eq_zero
abbrev Pt:=@Int.mul_ediv_cancel
abbrev Ut:=@Array.replicate_zero
abbrev Vt:=@Array.replicate_succ
abbrev Wt:=@Array.all_eq_true_iff_forall_mem
abbrev cD:=@Nat.le_mul_of_pos_right
abbrev dD:=@Nat.le_mul_of_pos_left
abbrev eD:=@Nat.add_sub_cancel_left
abbrev fD:=@List.take_length_add_append
abbrev gD:=@List.take_append_of_le_length
abbrev iD:=@List.getElem?_take_of_lt
abbrev jD:=@List.flatten_singleton
abbrev kD:=@List.exists_cons_of_ne_nil
abbrev lD:=@List.eraseIdx_cons_succ
abbrev mD:=@List.drop_length_add_append
abbrev nD:=@List.countP_eq_length_filter
abbrev pD:=@Int.mul_nonpos_of_nonneg_of_nonpos
abbrev qD:=@Int.eq_of_mul_eq_mul_left
abbrev ED:=@Array.size_setIfInBounds
abbrev FD:=@Array.getElem_setIfInBounds
namespace Sx
open Go
def upd (f:Nat→Value) (d:Nat) (v:Value):Nat→Value:=fun t=>bif Nat.beq t d then v else f t
def fr (n:Nat) (f:Nat→Value):Act:=⟨Array.ofFn (n:=n) (fun i=>f i.val),[]⟩
theorem Dc {d t:Nat} (h:t≠d):Nat.beq t d=false:=by
 cases hb:Nat.beq t d
 ·rfl
 ·exact absurd (Y5 hb) h
theorem Oa (f:Nat→Value) (d:Nat) (v:Value):upd f d v d=v:=by simp [upd]
theorem X6 (f:Nat→Value) {d t:Nat} (v:Value) (h:t≠d):upd f d v t=f t:=by simp [upd,Dc h]
theorem pc (n:Nat) (f:Nat→Value) (t:Nat) (h:t < n):(fr n f).tmps.getD t undef=f t:=by
 simp [fr,Array.getD,h]
theorem Z9 (n:Nat) (f:Nat→Value) (d:Nat) (v:Value):(fr n f).put (some d) v=fr n (upd f d v):=by
 unfold Act.put fr
 simp only [Act.mk.injEq,and_true]
 apply Array.ext
 ·simp
 ·intro i h1 h2
  simp only [ED,Array.size_ofFn] at h1
  rw [FD]
  ·by_cases h:d=i
   ·subst h; simp [upd]
   ·have h':i≠d:=fun e=>h e.symm
    rw [J0 h,Array.getElem_ofFn,Array.getElem_ofFn,X6 _ _ h']
  ·simpa using h1
theorem zq (n:Nat) (f:Nat→Value) (v:Value):(fr n f).put none v=fr n f:=rfl
theorem et {n t:Nat} {f:Nat→Value} {v:Value} (ht:Nat.blt t n=true) (h:f t=v):(fr n f).eval (.tmp t)=v:=by
 unfold Act.eval
 simp only
 rw [pc _ _ _ (by simpa [L6] using ht),h]
theorem Lj {n:Nat} {f:Nat→Value} {ops:Array Oper} {j d:Nat} {b:Bool} (hd:((ops[j]?).bind (·.dst))=some d) (ht:Nat.blt d n=true) (h:f d=.bool b):
  yielded ops (fr n f).tmps j=some b:=by
 have h2:(fr n f).tmps[d]?=some (.bool b):=by
  have:d < n:=by simpa [L6] using ht
  simp [fr,this,h]
 simp [yielded,hd,h2]
def initF (args:List Value):Nat→Value:=fun t=>args.getD t undef
theorem nA (args:List Value) (n:Nat) (h:args.length≤n):
  ({tmps:=args.toArray++Array.replicate (n - args.toArray.size) undef,defers:=[] }:Act)=fr n (initF args):=by
 unfold fr
 simp only [Act.mk.injEq,and_true]
 apply Array.ext
 ·simp; omega
 ·intro i h1 h2
  simp only [Array.size_ofFn] at h2
  by_cases hi:i < args.length
  ·rw [Array.getElem_append_left (by simpa using hi)]
   simp [initF,hi]
  ·rw [Array.getElem_append_right (by simpa using hi)]
   simp [initF,hi]
theorem enter {P:Program} {f:FuncId} {fn:Func} {c:Code} {args:List Value} {w:World} {R:Ending→World→Prop} {n:Nat}
  (hf:P.funcs[f]?=some fn) (hb:fn.body=some c) (hn:fn.ntmps=n) (hl:Nat.ble args.length n=true)
  (h:c.wp P (bodyPost P fn R) (fr n (initF args)) w):Calls P f args.toArray w R:=by
 refine calls_of_wp hf hb ?_
 rw [hn,nA args n (by simpa using hl)]
 exact h
abbrev Yi (P:Program) (a:Act) (w:World) (o:Oper) (v:Value):Prop:=(execOp a.eval o).run P w=.ok (.value v) w
def Wn (ops:Array Oper) (n:Nat) (f:Nat→Value):Option (Nat×Bool)→Prop
 | none=>True
 | some (j,b)=>∃ d,((ops[j]?).bind (·.dst))=some d∧Nat.blt d n=true∧f d=.bool b
def Wx (ops:Array Oper) (n:Nat) (f:Nat→Value):Option (Nat×Bool)→Prop
 | none=>False
 | some (j,b)=>∃ d,((ops[j]?).bind (·.dst))=some d∧Nat.blt d n=true∧(f d=.bool (!b)∨f d=undef)
theorem wn {ops:Array Oper} {n:Nat} {f:Nat→Value}:Wn ops n f none:=trivial
theorem tu {n:Nat} {f:Nat→Value} {ops:Array Oper} {j d:Nat} (hd:((ops[j]?).bind (·.dst))=some d) (ht:Nat.blt d n=true) (h:f d=undef):
  yielded ops (fr n f).tmps j=none:=by
 have h2:(fr n f).tmps[d]?=some undef:=by
  have:d < n:=by simpa [L6] using ht
  simp [fr,this,h]
 simp [yielded,hd,h2,undef]
theorem Wn.wanted {ops:Array Oper} {n:Nat} {f:Nat→Value} {o:Oper} (h:Wn ops n f o.guard):Region.wanted o (yielded ops (fr n f).tmps)=true:=by
 unfold Region.wanted
 cases hg:o.guard with
 | none=>rfl
 | some jb=>
  obtain ⟨j,b⟩:=jb
  rw [hg] at h
  obtain ⟨d,h1,h2,h3⟩:=h
  simp [Lj h1 h2 h3]
theorem Wx.wanted {ops:Array Oper} {n:Nat} {f:Nat→Value} {o:Oper} (h:Wx ops n f o.guard):Region.wanted o (yielded ops (fr n f).tmps)=false:=by
 unfold Region.wanted
 cases hg:o.guard with
 | none=>rw [hg] at h; exact h.elim
 | some jb=>
  obtain ⟨j,b⟩:=jb
  rw [hg] at h
  obtain ⟨d,h1,h2,h3 | h3⟩:=h
  ·simp only [Lj h1 h2 h3]
   cases b<;>rfl
  ·simp only [tu h1 h2 h3]
   cases b<;>rfl
section
variable {P:Program} {ops:Array Oper} {Q:Exit→Act→World→Prop} {n:Nat} {f:Nat→Value} {w:World} {rest:List Oper}
theorem Y0 {o:Oper} (hg:Wn ops n f o.guard) (k:∀ K:Act→World→Prop,(∀ a w,wpList P ops Q rest a w→K a w)→o.wp P (fr n f) w K Q):wpList P ops Q (o::rest) (fr n f) w:=by
 refine wpList_step fun K hK=>?_
 rw [hg.wanted]
 exact k K hK
theorem Y {o:Oper} {d:Nat} {v:Value} (hg:Wn ops n f o.guard) (hd:o.dst=some d) (hy:Yi P (fr n f) w o v)
  (k:wpList P ops Q rest (fr n (upd f d v)) w):wpList P ops Q (o::rest) (fr n f) w:=by
 refine Y0 hg fun K hK=>?_
 unfold Oper.wp
 rw [hy,Oper.upon_value,hd,Z9]
 exact hK _ _ k
theorem Yw {o:Oper} {d:Nat} {v:Value} {w':World} (hg:Wn ops n f o.guard) (hd:o.dst=some d) (hy:(execOp (fr n f).eval o).run P w=.ok (.value v) w')
  (k:wpList P ops Q rest (fr n (upd f d v)) w'):wpList P ops Q (o::rest) (fr n f) w:=by
 refine Y0 hg fun K hK=>?_
 unfold Oper.wp
 rw [hy,Oper.upon_value,hd,Z9]
 exact hK _ _ k
theorem Ys {o:Oper} {w':World} (hg:Wn ops n f o.guard) (hd:o.dst=none) (hy:(execOp (fr n f).eval o).run P w=.ok .skip w')
  (k:wpList P ops Q rest (fr n f) w'):wpList P ops Q (o::rest) (fr n f) w:=by
 refine Y0 hg fun K hK=>?_
 unfold Oper.wp
 rw [hy,Oper.upon_skip,hd,zq]
 exact hK _ _ k
theorem Yc {o:Oper} {d:Nat} {g:FuncId} {args:Array Value} {R:Ending→World→Prop} (hg:Wn ops n f o.guard) (hd:o.dst=some d)
  (hy:(execOp (fr n f).eval o).run P w=.ok (.enter g args) w) (hc:Calls P g args w R)
  (k:∀ e w',R e w'→∃ v,e=.returned v∧wpList P ops Q rest (fr n (upd f d v)) w'):wpList P ops Q (o::rest) (fr n f) w:=by
 refine Y0 hg fun K hK=>?_
 unfold Oper.wp
 rw [hy,Oper.upon_enter]
 refine hc.mono ?_
 intro e w' hR
 obtain ⟨v,rfl,hk⟩:=k e w' hR
 show K ((fr n f).put o.dst v) w'
 rw [hd,Z9]
 exact hK _ _ hk
theorem Gn {o:Oper} {d:Nat} (hg:Wx ops n f o.guard) (hd:o.dst=some d)
  (k:wpList P ops Q rest (fr n (upd f d undef)) w):wpList P ops Q (o::rest) (fr n f) w:=by
 refine wpList_step fun K hK=>?_
 rw [hg.wanted]
 simp only [D2,if_false]
 rw [hd,Z9]
 exact hK _ _ k
end
def loopN {σ ρ:Type} (step:σ→Option (σ⊕ρ)):Nat→σ→Option ρ
 | 0,_=>none
 | k+1,s=>match step s with
  | none=>none
  | some (.inl s')=>loopN step k s'
  | some (.inr r)=>some r
def FUEL:Nat:=9223372036854775808
def loop {σ ρ:Type} (step:σ→Option (σ⊕ρ)) (s:σ):Option ρ:=loopN step FUEL s
def LQ {σ ρ:Type} (Inv:σ→Act→World→Prop) (Q:Exit→Act→World→Prop):σ⊕ρ→Exit→Act→World→Prop
 | .inl s,.normal,a,w=>Inv s a w
 | .inl _,_,_,_=>False
 | .inr _,.normal,_,_=>False
 | .inr _,e,a,w=>Q e a w
theorem Uu {P:Program} {c:Code} {Q:Exit→Act→World→Prop} {σ ρ:Type} {step:σ→Option (σ⊕ρ)} (Inv:σ→Act→World→Prop) {out:ρ}
  (hb:∀ s a w r,Inv s a w→step s=some r→(∀ o,r=.inr o→o=out)→c.wp P (LQ Inv Q r) a w):
  ∀ (k:Nat) (s:σ) (a:Act) (w:World),loopN step k s=some out→Inv s a w→Code.rounds P c Q k a w:=by
 intro k
 induction k with
 | zero=>intro s a w h; simp [loopN] at h
 | succ k ih=>
  intro s a w h hI
  rw [rounds_succ]
  simp only [loopN] at h
  cases hs:step s with
  | none=>simp [hs] at h
  | some r=>
   cases r with
   | inl s'=>
    simp only [hs] at h
    refine Code.wp_mono ?_ (hb s a w _ hI hs G0)
    intro e a' w' hq
    cases e<;>simp only [LQ] at hq
    exact ih s' a' w' h hq
   | inr o=>
    simp only [hs] at h
    have ho:o=out:=by simpa using h
    refine Code.wp_mono ?_ (hb s a w _ hI hs (by intro o' h'; cases h'; exact ho))
    intro e a' w' hq
    cases e<;>simp only [LQ] at hq<;>exact hq
theorem Vu {P:Program} {c:Code} {Q:Exit→Act→World→Prop} {σ ρ:Type} {step:σ→Option (σ⊕ρ)} (Inv:σ→Act→World→Prop) {s:σ} {a:Act} {w:World} {out:ρ}
  (h:loop step s=some out) (hI:Inv s a w)
  (hb:∀ s a w r,Inv s a w→step s=some r→(∀ o,r=.inr o→o=out)→c.wp P (LQ Inv Q r) a w):(Code.loop c).wp P Q a w:=
 wp_loop_rounds FUEL (Uu Inv hb FUEL s a w h hI)
theorem Pz {σ ρ:Type} {step:σ→Option (σ⊕ρ)} (I:σ→Prop) (Post:ρ→Prop) (μ:σ→Nat)
  (h:∀ s,I s→∃ r,step s=some r∧(match r with | .inl s'=>I s'∧μ s' < μ s | .inr o=>Post o)):
  ∀ (k:Nat) (s:σ),I s→μ s < k→∃ o,loopN step k s=some o∧Post o:=by
 intro k
 induction k with
 | zero=>intro s _ hk; omega
 | succ k ih=>
  intro s hI hk
  obtain ⟨r,hr,hp⟩:=h s hI
  cases r with
  | inl s'=>
   obtain ⟨iI,hlt⟩:=hp
   obtain ⟨o,ho,TN⟩:=ih s' iI n0
   exact ⟨o,by simp [loopN,hr,ho],TN⟩
  | inr o=>exact ⟨o,by simp [loopN,hr],hp⟩
theorem Nz {σ ρ:Type} {step:σ→Option (σ⊕ρ)} (I:σ→Prop) (Post:ρ→Prop) (μ:σ→Nat) {s:σ} (hs:I s) (hμ:μ s < FUEL)
  (h:∀ s,I s→∃ r,step s=some r∧(match r with | .inl s'=>I s'∧μ s' < μ s | .inr o=>Post o)):∃ o,loop step s=some o∧Post o:=
 Pz I Post μ h FUEL s hs hμ
theorem bs {α β:Type} {e:Option α} {g:α→Option β} {r:β} (h:e.bind g=some r):∃ x,e=some x∧g x=some r:=by
 cases e with
 | none=>simp at h
 | some x=>exact ⟨x,rfl,h⟩
end Sx
