/- Frames as functions, one step an operation, loops with fuel, regions that draw their order: the ground on which the walks of this claim stand. It holds over any program. -/
import Derived.WalkKit
theorem A0 {p:Prop} (h:p:=by omega):p:=h
theorem B0 {p:Prop} [Decidable p] {α:Sort _} {a b:α} (h:¬p:=by omega):ite p a b=b:=if_neg h
theorem C0 {p:Prop} [Decidable p] {α:Sort _} {a b:α} (h:p:=by omega):ite p a b=a:=if_pos h
theorem G0 {p:Prop} (h:p:=by simp only [List.length_cons,List.length_nil]; omega):p:=h
theorem H0 {p:Prop} (h:p:=by simp):p:=h
theorem I0 {p:Prop} (h:p:=by kernel_rfl):p:=h
abbrev K0:=@if_neg
abbrev M0:=@if_pos
abbrev Z0:=@Int.toNat_natCast
abbrev C1:=@congrArg
abbrev H1:=@Classical.byContradiction
abbrev Q1:=@List.length_append
abbrev Z1:=@List.getElem?_eq_some_iff
abbrev H2:=@Nat.le_refl
abbrev I2:=@List.length_cons
abbrev N2:=@Option.some.inj
abbrev P2:=@Int.mul_comm
abbrev Q2:=@Bool.false_eq_true
abbrev Y2:=@List.length_nil
abbrev B3:=@List.getElem?_eq_getElem
abbrev D3:=@Int.mul_le_mul_of_nonneg_right
abbrev K3:=@Int.mul_le_mul_of_nonneg_left
abbrev N3:=@List.length_set
abbrev O3:=@Int.mul_nonneg
abbrev P3:=@Int.emod_nonneg
abbrev Q3:=@Int.mul_zero
abbrev U3:=@List.mem_cons
abbrev V3:=@Int.zero_mul
abbrev W3:=@Int.emod_lt_of_pos
abbrev w4:=@Bool.and_eq_true
abbrev B4:=@List.length_take
abbrev K4:=@Int.mul_eq_zero
abbrev M4:=@Int.one_mul
abbrev U4:=@List.length_replicate
abbrev V4:=@Int.mul_ediv_add_emod
abbrev W4:=@Int.eq_ofNat_of_zero_le
abbrev X4:=@Int.emod_eq_of_lt
abbrev Y4:=@Bool.false_ne_true
abbrev D5:=@List.getElem?_set_self
abbrev E5:=@Int.pow_add
abbrev H5:=@Bool.or_eq_true
abbrev M5:=@Option.bind_some
abbrev N5:=@List.getElem_mem
abbrev Q5:=@List.getElem?_append_left
abbrev S5:=@Int.pow_pos
abbrev T5:=@Int.ediv_nonneg
abbrev X5:=@List.getElem?_append_right
abbrev Y5:=@Bool.not_true
abbrev A6:=@List.getElem?_set_ne
abbrev E6:=@Nat.sub_self
abbrev G6:=@Nat.min_eq_left
abbrev H6:=@List.getElem?_take
abbrev I6:=@List.getD_eq_getElem?_getD
abbrev J6:=@Int.mul_one
abbrev Q6:=@List.length_range
abbrev S6:=@List.eq_nil_of_length_eq_zero
abbrev T6:=@Int.mul_add
abbrev U6:=@Int.ediv_lt_of_lt_mul
abbrev X6:=@Nat.eq_of_beq_eq_true
abbrev Y6:=@List.mem_singleton
abbrev Z6:=@List.mem_range
abbrev w7:=@List.all_eq_true
abbrev y7:=@Int.mul_assoc
abbrev B7:=@Bool.not_eq_true'
abbrev K7:=@List.getElem?_eq_none
abbrev X7:=@Nat.blt_eq
abbrev Y7:=@List.take_of_length_le
abbrev Z7:=@List.append_assoc
abbrev w8:=@Int.pow_succ
abbrev y8:=@Int.le_of_lt
abbrev G8:=@Nat.mul_comm
abbrev H8:=@List.mem_append
abbrev I8:=@Int.zero_dvd
abbrev J8:=@Int.mul_ne_zero
abbrev K8:=@Int.mul_le_mul
abbrev L8:=@Int.add_zero
abbrev Z8:=@Nat.add_mul
abbrev w9:=@List.take_length
abbrev y9:=@List.getElem?_map
abbrev A9:=@Int.mul_sub
abbrev B9:=@Int.mul_ediv_cancel_left
abbrev P9:=@Nat.zero_le
abbrev Q9:=@Nat.zero_add
abbrev S9:=@Nat.mul_le_mul
abbrev T9:=@Nat.add_zero
abbrev U9:=@List.length_drop
abbrev V9:=@List.getElem?_drop
abbrev W9:=@List.drop_zero
abbrev X9:=@List.drop_of_length_le
abbrev Ca:=@Nat.le_trans
abbrev Da:=@List.ext_getElem?
abbrev Ea:=@Int.sub_zero
abbrev Oa:=@Option.some.injEq
abbrev Pa:=@Nat.lt_or_ge
abbrev Qa:=@Nat.eq_zero_or_pos
abbrev Ra:=@List.take_append_drop
abbrev Sa:=@List.length_map
abbrev Ta:=@List.getElem?_range
abbrev Ua:=@List.drop_eq_getElem_cons
abbrev Wa:=@List.drop_drop
abbrev Xa:=@Int.zero_emod
abbrev Ya:=@Int.ediv_eq_zero_of_lt
abbrev Db:=@Nat.sub_zero
abbrev Eb:=@Nat.mul_le_mul_right
abbrev Gb:=@Nat.mod_lt
abbrev Hb:=@Nat.lt_trichotomy
abbrev Ib:=@Nat.le_of_dvd
abbrev Jb:=@List.length_pos_iff
abbrev Kb:=@List.getElem?_replicate
abbrev Lb:=@List.drop_set_of_lt
abbrev Mb:=@Int.mul_lt_mul_of_pos_right
abbrev Ob:=@Int.add_mul
abbrev Pb:=@Classical.choose_spec
abbrev Ec:=@Nat.mul_mod
abbrev Fc:=@List.range_succ
abbrev Gc:=@List.nil_append
abbrev Hc:=@List.mem_cons_self
abbrev Ic:=@List.mem_cons_of_mem
abbrev Jc:=@List.map_cons
abbrev Kc:=@Int.le_of_dvd
abbrev Mc:=@Int.gcd_dvd_right
abbrev Nc:=@Int.gcd_dvd_left
abbrev Oc:=@Int.dvd_trans
abbrev Pd:=@Nat.and_two_pow_sub_one_eq_mod
abbrev Qd:=@Nat.add_assoc
abbrev Sd:=@List.drop_replicate
abbrev Td:=@Int.tmod_eq_emod_of_nonneg
abbrev Ud:=@Int.natAbs_mul
abbrev Vd:=@Int.mul_pos
abbrev Wd:=@Int.fdiv_eq_ediv_of_nonneg
abbrev Xd:=@Int.ediv_le_self
abbrev Yd:=@Iff.rfl
abbrev Zd:=@Bool.false_or
abbrev Re:=@Nat.two_pow_add_eq_or_of_lt
abbrev Se:=@Nat.testBit_two_pow_mul_add
abbrev Te:=@Nat.mul_one
abbrev Ue:=@List.take_take
abbrev Ve:=@List.pairwise_cons
abbrev We:=@List.mem_filter
abbrev Xe:=@List.getElem_of_mem
abbrev Ye:=@List.drop_eq_nil_of_le
abbrev Ze:=@List.append_nil
abbrev cf:=@Int.mul_nonpos_of_nonneg_of_nonpos
abbrev df:=@Int.mul_neg
abbrev ef:=@Int.le_refl
abbrev ff:=@Int.le_ediv_iff_mul_le
abbrev kf:=@Array.length_toList
abbrev xh:=@Option.map_some
abbrev zh:=@Nat.testBit_or
abbrev Ah:=@Nat.pow_le_pow_right
abbrev Bh:=@Nat.one_mul
abbrev Ch:=@Nat.div_add_mod
abbrev Dh:=@List.take_zero
abbrev Eh:=@List.pairwise_append
abbrev Fh:=@List.mem_map
abbrev Gh:=@List.map_append
abbrev Hh:=@List.mapM_cons
abbrev Ih:=@List.getElem?_set
abbrev Jh:=@List.flatten_append
abbrev Kh:=@List.flatMap_cons
abbrev Lh:=@List.any_eq_true
abbrev Mh:=@Int.zero_add
abbrev Nh:=@Int.tdiv_eq_ediv_of_nonneg
abbrev Oh:=@Int.pow_mul
abbrev Ph:=@Int.neg_mul
abbrev Qh:=@Int.natAbs_dvd_natAbs
abbrev Rh:=@Int.dvd_sub
abbrev Th:=@Int.dvd_refl
abbrev Uh:=@Array.getElem?_eq_some_iff
abbrev yl:=@Option.getD_some
abbrev Bl:=@Nat.pos_of_ne_zero
abbrev Dl:=@Nat.not_lt_zero
abbrev El:=@Nat.mul_assoc
abbrev Gl:=@Nat.lt_of_lt_of_le
abbrev Hl:=@Nat.lt_irrefl
abbrev Il:=@Nat.div_lt_of_lt_mul
abbrev Jl:=@List.take_set
abbrev Kl:=@List.take_add_one
abbrev Ll:=@List.set_set
abbrev Ml:=@List.set_eq_of_length_le
abbrev Ol:=@List.pairwise_singleton
abbrev Ql:=@List.nodup_iff_pairwise_ne
abbrev Rl:=@List.mem_of_getElem?
abbrev Sl:=@List.getLast?_eq_getElem?
abbrev Tl:=@List.getElem?_ofFn
abbrev Ul:=@List.getElem?_cons_succ
abbrev Vl:=@List.filter_append
abbrev Wl:=@List.drop_length
abbrev Xl:=@Int.zero_ediv
abbrev Yl:=@Int.toNat_of_nonneg
abbrev Zl:=@Int.sub_self
abbrev bm:=@Int.natCast_pow
abbrev cm:=@Int.mul_le_mul_of_nonpos_right
abbrev dm:=@Int.mul_ediv_cancel
abbrev gm:=@Int.eq_zero_of_gcd_eq_zero_right
abbrev jm:=@Int.dvd_zero
abbrev km:=@Int.dvd_of_emod_eq_zero
abbrev mm:=@Int.add_mul_emod_self_left
abbrev om:=@Int.add_mul_ediv_left
abbrev rm:=@Array.mapM_eq_mapM_toList
abbrev iv:=@Nat.zero_mul
abbrev jv:=@Nat.testBit_and
abbrev kv:=@Nat.or_lt_two_pow
abbrev nv:=@Nat.mul_le_mul_left
abbrev uv:=@Nat.mod_eq_of_lt
abbrev vv:=@Nat.and_zero
abbrev wv:=@Nat.add_sub_cancel_left
abbrev xv:=@List.take_left'
abbrev yv:=@List.set_eq_take_append_cons_drop
abbrev Av:=@List.set_append_right
abbrev Bv:=@List.replicate_succ'
abbrev Cv:=@List.pairwise_map
abbrev Ev:=@List.pairwise_iff_getElem
abbrev Fv:=@List.not_mem_nil
abbrev Hv:=@List.mem_replicate
abbrev Iv:=@List.mem_or_eq_of_mem_set
abbrev Jv:=@List.mem_iff_getElem?
abbrev Kv:=@List.mem_filterMap
abbrev Lv:=@List.map_congr_left
abbrev Nv:=@List.mapM_nil
abbrev Ov:=@List.getElem?_append
abbrev Qv:=@List.drop_left'
abbrev Rv:=@Int.pow_zero
abbrev Sv:=@Int.ofNat_le
abbrev Tv:=@Int.ofNat_dvd_left
abbrev Uv:=@Int.natCast_mul
abbrev Vv:=@Int.natAbs_eq_zero
abbrev Wv:=@Int.mul_ediv_cancel'
abbrev Xv:=@Int.gcd_comm
abbrev Yv:=@Int.ediv_one
abbrev Zv:=@Int.add_comm
abbrev gw:=@Classical.not_not
abbrev iw:=@Bool.true_or
abbrev jw:=@Bool.not_false
abbrev mw:=@Array.all_eq_true_iff_forall_mem
abbrev AF:=@Nat.exists_eq_add_of_le
abbrev BF:=@Nat.dvd_of_mod_eq_zero
abbrev CF:=@List.take_length_add_append
abbrev DF:=@List.take_append_of_le_length
abbrev EF:=@List.pairwise_lt_range
abbrev FF:=@List.mem_of_find?_eq_some
abbrev GF:=@List.getElem?_eraseIdx
abbrev HF:=@List.filter_eq_nil_iff
abbrev IF:=@List.eraseIdx_cons_succ
abbrev JF:=@List.eq_nil_iff_forall_not_mem
abbrev KF:=@List.drop_length_add_append
abbrev MF:=@Int.mul_nonpos_of_nonpos_of_nonneg
abbrev NF:=@Int.mul_neg_of_pos_of_neg
abbrev OF:=@Int.mul_lt_mul_of_pos_left
abbrev PF:=@Int.mul_add_emod_self_left
abbrev SF:=@Int.lt_of_mul_lt_mul_right
abbrev TF:=@Int.lt_of_mul_lt_mul_left
abbrev UF:=@Int.eq_of_mul_eq_mul_right
abbrev VF:=@Int.eq_of_mul_eq_mul_left
abbrev XF:=@Int.emod_eq_zero_of_dvd
abbrev qG:=@Array.size_setIfInBounds
abbrev rG:=@Array.getElem_setIfInBounds
namespace Sx
open Go
def upd (f:Nat→Value) (d:Nat) (v:Value):Nat→Value:=fun t=>bif Nat.beq t d then v else f t
def fr (n:Nat) (f:Nat→Value):Act:=⟨Array.ofFn (n:=n) (fun i=>f i.val),[]⟩
theorem Le {d t:Nat} (h:t≠d):Nat.beq t d=false:=by
 cases hb:Nat.beq t d
 ·rfl
 ·exact absurd (X6 hb) h
theorem Sc (f:Nat→Value) (d:Nat) (v:Value):upd f d v d=v:=by simp [upd]
theorem z8 (f:Nat→Value) {d t:Nat} (v:Value) (h:t≠d):upd f d v t=f t:=by simp [upd,Le h]
theorem Fe (n:Nat) (f:Nat→Value) (t:Nat) (h:t < n):(fr n f).tmps.getD t undef=f t:=by
 simp [fr,Array.getD,h]
theorem tc (n:Nat) (f:Nat→Value) (d:Nat) (v:Value):(fr n f).put (some d) v=fr n (upd f d v):=by
 unfold Act.put fr
 simp only [Act.mk.injEq,and_true]
 apply Array.ext
 ·simp
 ·intro i h1 h2
  simp only [qG,Array.size_ofFn] at h1
  rw [rG]
  ·by_cases h:d=i
   ·subst h; simp [upd]
   ·have h':i≠d:=fun e=>h e.symm
    rw [K0 h,Array.getElem_ofFn,Array.getElem_ofFn,z8 _ _ h']
  ·simpa using h1
theorem Xt (n:Nat) (f:Nat→Value) (v:Value):(fr n f).put none v=fr n f:=rfl
theorem et {n t:Nat} {f:Nat→Value} {v:Value} (ht:Nat.blt t n=true) (h:f t=v):(fr n f).eval (.tmp t)=v:=by
 unfold Act.eval
 simp only
 rw [Fe _ _ _ (by simpa [X7] using ht),h]
theorem Om {n:Nat} {f:Nat→Value} {ops:Array Oper} {j d:Nat} {b:Bool} (hd:((ops[j]?).bind (·.dst))=some d) (ht:Nat.blt d n=true) (h:f d=.bool b):
  yielded ops (fr n f).tmps j=some b:=by
 have h2:(fr n f).tmps[d]?=some (.bool b):=by
  have:d < n:=by simpa [X7] using ht
  simp [fr,this,h]
 simp [yielded,hd,h2]
def initF (args:List Value):Nat→Value:=fun t=>args.getD t undef
theorem XC (args:List Value) (n:Nat) (h:args.length≤n):
  ({tmps:=args.toArray++Array.replicate (n - args.toArray.size) undef,defers:=[] }:Act)=fr n (initF args):=by
 unfold fr
 simp only [Act.mk.injEq,and_true]
 apply Array.ext
 ·simp; omega
 ·intro i h1 h2
  simp only [Array.size_ofFn] at h2
  by_cases hi:i < args.length
  ·rw [Array.getElem_append_left (by simpa using hi)]
   simp [initF,hi]
  ·rw [Array.getElem_append_right (by simpa using hi)]
   simp [initF,hi]
theorem enter {P:Program} {f:FuncId} {fn:Func} {c:Code} {args:List Value} {w:World} {R:Ending→World→Prop} {n:Nat}
  (hf:P.funcs[f]?=some fn) (hb:fn.body=some c) (hn:fn.ntmps=n) (hl:Nat.ble args.length n=true)
  (h:c.wp P (bodyPost P fn R) (fr n (initF args)) w):Calls P f args.toArray w R:=by
 refine calls_of_wp hf hb ?_
 rw [hn,XC args n (by simpa using hl)]
 exact h
abbrev Yi (P:Program) (a:Act) (w:World) (o:Oper) (v:Value):Prop:=(execOp a.eval o).run P w=.ok (.value v) w
def Wn (ops:Array Oper) (n:Nat) (f:Nat→Value):Option (Nat×Bool)→Prop
 | none=>True
 | some (j,b)=>∃ d,((ops[j]?).bind (·.dst))=some d∧Nat.blt d n=true∧f d=.bool b
def Wx (ops:Array Oper) (n:Nat) (f:Nat→Value):Option (Nat×Bool)→Prop
 | none=>False
 | some (j,b)=>∃ d,((ops[j]?).bind (·.dst))=some d∧Nat.blt d n=true∧(f d=.bool (!b)∨f d=undef)
theorem wn {ops:Array Oper} {n:Nat} {f:Nat→Value}:Wn ops n f none:=trivial
theorem Ax {n:Nat} {f:Nat→Value} {ops:Array Oper} {j d:Nat} (hd:((ops[j]?).bind (·.dst))=some d) (ht:Nat.blt d n=true) (h:f d=undef):
  yielded ops (fr n f).tmps j=none:=by
 have h2:(fr n f).tmps[d]?=some undef:=by
  have:d < n:=by simpa [X7] using ht
  simp [fr,this,h]
 simp [yielded,hd,h2,undef]
theorem Wn.wanted {ops:Array Oper} {n:Nat} {f:Nat→Value} {o:Oper} (h:Wn ops n f o.guard):Region.wanted o (yielded ops (fr n f).tmps)=true:=by
 unfold Region.wanted
 cases hg:o.guard with
 | none=>rfl
 | some jb=>
  obtain ⟨j,b⟩:=jb
  rw [hg] at h
  obtain ⟨d,h1,h2,h3⟩:=h
  simp [Om h1 h2 h3]
theorem Wx.wanted {ops:Array Oper} {n:Nat} {f:Nat→Value} {o:Oper} (h:Wx ops n f o.guard):Region.wanted o (yielded ops (fr n f).tmps)=false:=by
 unfold Region.wanted
 cases hg:o.guard with
 | none=>rw [hg] at h; exact h.elim
 | some jb=>
  obtain ⟨j,b⟩:=jb
  rw [hg] at h
  obtain ⟨d,h1,h2,h3 | h3⟩:=h
  ·simp only [Om h1 h2 h3]
   cases b<;>rfl
  ·simp only [Ax h1 h2 h3]
   cases b<;>rfl
section
variable {P:Program} {ops:Array Oper} {Q:Exit→Act→World→Prop} {n:Nat} {f:Nat→Value} {w:World} {rest:List Oper}
theorem Y0 {o:Oper} (hg:Wn ops n f o.guard) (k:∀ K:Act→World→Prop,(∀ a w,wpList P ops Q rest a w→K a w)→o.wp P (fr n f) w K Q):wpList P ops Q (o::rest) (fr n f) w:=by
 refine wpList_step fun K hK=>?_
 rw [hg.wanted]
 exact k K hK
theorem Y {o:Oper} {d:Nat} {v:Value} (hg:Wn ops n f o.guard) (hd:o.dst=some d) (hy:Yi P (fr n f) w o v)
  (k:wpList P ops Q rest (fr n (upd f d v)) w):wpList P ops Q (o::rest) (fr n f) w:=by
 refine Y0 hg fun K hK=>?_
 unfold Oper.wp
 rw [hy,Oper.upon_value,hd,tc]
 exact hK _ _ k
theorem Yw {o:Oper} {d:Nat} {v:Value} {w':World} (hg:Wn ops n f o.guard) (hd:o.dst=some d) (hy:(execOp (fr n f).eval o).run P w=.ok (.value v) w')
  (k:wpList P ops Q rest (fr n (upd f d v)) w'):wpList P ops Q (o::rest) (fr n f) w:=by
 refine Y0 hg fun K hK=>?_
 unfold Oper.wp
 rw [hy,Oper.upon_value,hd,tc]
 exact hK _ _ k
theorem Ys {o:Oper} {w':World} (hg:Wn ops n f o.guard) (hd:o.dst=none) (hy:(execOp (fr n f).eval o).run P w=.ok .skip w')
  (k:wpList P ops Q rest (fr n f) w'):wpList P ops Q (o::rest) (fr n f) w:=by
 refine Y0 hg fun K hK=>?_
 unfold Oper.wp
 rw [hy,Oper.upon_skip,hd,Xt]
 exact hK _ _ k
theorem Yc {o:Oper} {d:Nat} {g:FuncId} {args:Array Value} {R:Ending→World→Prop} (hg:Wn ops n f o.guard) (hd:o.dst=some d)
  (hy:(execOp (fr n f).eval o).run P w=.ok (.enter g args) w) (hc:Calls P g args w R)
  (k:∀ e w',R e w'→∃ v,e=.returned v∧wpList P ops Q rest (fr n (upd f d v)) w'):wpList P ops Q (o::rest) (fr n f) w:=by
 refine Y0 hg fun K hK=>?_
 unfold Oper.wp
 rw [hy,Oper.upon_enter]
 refine hc.mono ?_
 intro e w' hR
 obtain ⟨v,rfl,hk⟩:=k e w' hR
 show K ((fr n f).put o.dst v) w'
 rw [hd,tc]
 exact hK _ _ hk
theorem Gn {o:Oper} {d:Nat} (hg:Wx ops n f o.guard) (hd:o.dst=some d)
  (k:wpList P ops Q rest (fr n (upd f d undef)) w):wpList P ops Q (o::rest) (fr n f) w:=by
 refine wpList_step fun K hK=>?_
 rw [hg.wanted]
 simp only [Q2,if_false]
 rw [hd,tc]
 exact hK _ _ k
end
def loopN {σ ρ:Type} (step:σ→Option (σ⊕ρ)):Nat→σ→Option ρ
 | 0,_=>none
 | k+1,s=>match step s with
  | none=>none
  | some (.inl s')=>loopN step k s'
  | some (.inr r)=>some r
def FUEL:Nat:=9223372036854775808
def loop {σ ρ:Type} (step:σ→Option (σ⊕ρ)) (s:σ):Option ρ:=loopN step FUEL s
def LQ {σ ρ:Type} (Inv:σ→Act→World→Prop) (Q:Exit→Act→World→Prop):σ⊕ρ→Exit→Act→World→Prop
 | .inl s,.normal,a,w=>Inv s a w
 | .inl _,_,_,_=>False
 | .inr _,.normal,_,_=>False
 | .inr _,e,a,w=>Q e a w
theorem my {P:Program} {c:Code} {Q:Exit→Act→World→Prop} {σ ρ:Type} {step:σ→Option (σ⊕ρ)} (Inv:σ→Act→World→Prop) {out:ρ}
  (hb:∀ s a w r,Inv s a w→step s=some r→(∀ o,r=.inr o→o=out)→c.wp P (LQ Inv Q r) a w):
  ∀ (k:Nat) (s:σ) (a:Act) (w:World),loopN step k s=some out→Inv s a w→Code.rounds P c Q k a w:=by
 intro k
 induction k with
 | zero=>intro s a w h; simp [loopN] at h
 | succ k ih=>
  intro s a w h hI
  rw [rounds_succ]
  simp only [loopN] at h
  cases hs:step s with
  | none=>simp [hs] at h
  | some r=>
   cases r with
   | inl s'=>
    simp only [hs] at h
    refine Code.wp_mono ?_ (hb s a w _ hI hs H0)
    intro e a' w' hq
    cases e<;>simp only [LQ] at hq
    exact ih s' a' w' h hq
   | inr o=>
    simp only [hs] at h
    have ho:o=out:=by simpa using h
    refine Code.wp_mono ?_ (hb s a w _ hI hs (by intro o' h'; cases h'; exact ho))
    intro e a' w' hq
    cases e<;>simp only [LQ] at hq<;>exact hq
theorem ny {P:Program} {c:Code} {Q:Exit→Act→World→Prop} {σ ρ:Type} {step:σ→Option (σ⊕ρ)} (Inv:σ→Act→World→Prop) {s:σ} {a:Act} {w:World} {out:ρ}
  (h:loop step s=some out) (hI:Inv s a w)
  (hb:∀ s a w r,Inv s a w→step s=some r→(∀ o,r=.inr o→o=out)→c.wp P (LQ Inv Q r) a w):(Code.loop c).wp P Q a w:=
 wp_loop_rounds FUEL (my Inv hb FUEL s a w h hI)
theorem bs {α β:Type} {e:Option α} {g:α→Option β} {r:β} (h:e.bind g=some r):∃ x,e=some x∧g x=some r:=by
 cases e with
 | none=>simp at h
 | some x=>exact ⟨x,rfl,h⟩
end Sx
