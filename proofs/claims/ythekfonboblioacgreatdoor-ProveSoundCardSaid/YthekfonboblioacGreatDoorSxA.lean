/- Frames as functions, one step an operation, loops with fuel, regions that draw their order: the ground on which the walks of this claim stand. It holds over any program. -/
import Derived.WalkKit
theorem A0 {p:Prop} (h:p:=by omega):p:=h
theorem B0 {p:Prop} [Decidable p] {α:Sort _} {a b:α} (h:¬p:=by omega):ite p a b=b:=if_neg h
theorem C0 {p:Prop} [Decidable p] {α:Sort _} {a b:α} (h:p:=by omega):ite p a b=a:=if_pos h
theorem G0 {p:Prop} (h:p:=by simp only [List.length_cons,List.length_nil]; omega):p:=h
theorem H0 {p:Prop} (h:p:=by simp):p:=h
theorem I0 {p:Prop} (h:p:=by kernel_rfl):p:=h
abbrev K0:=@if_neg
abbrev M0:=@if_pos
abbrev Z0:=@congrArg
abbrev A1:=@Int.toNat_natCast
abbrev H1:=@Classical.byContradiction
abbrev P1:=@List.length_append
abbrev E2:=@List.length_cons
abbrev I2:=@Int.mul_comm
abbrev N2:=@List.length_nil
abbrev O2:=@Nat.le_refl
abbrev S2:=@List.getElem?_eq_some_iff
abbrev X2:=@Int.mul_le_mul_of_nonneg_right
abbrev B3:=@Int.mul_le_mul_of_nonneg_left
abbrev K3:=@Int.mul_nonneg
abbrev L3:=@Int.emod_nonneg
abbrev M3:=@Int.emod_lt_of_pos
abbrev N3:=@Option.some.inj
abbrev O3:=@List.length_set
abbrev P3:=@List.mem_cons
abbrev Q3:=@Int.zero_mul
abbrev U3:=@List.getElem?_eq_getElem
abbrev V3:=@Bool.and_eq_true
abbrev Z3:=@List.length_take
abbrev w4:=@Int.mul_zero
abbrev E4:=@Int.one_mul
abbrev L4:=@Int.mul_eq_zero
abbrev P4:=@Int.mul_ediv_add_emod
abbrev Q4:=@Bool.false_ne_true
abbrev X4:=@Int.pow_add
abbrev Y4:=@Int.emod_eq_of_lt
abbrev B5:=@List.length_replicate
abbrev C5:=@Int.pow_pos
abbrev G5:=@List.getElem?_set_self
abbrev H5:=@Bool.or_eq_true
abbrev M5:=@List.getD_eq_getElem?_getD
abbrev N5:=@Int.ediv_nonneg
abbrev W5:=@Int.eq_ofNat_of_zero_le
abbrev w6:=@List.mem_singleton
abbrev y6:=@List.length_drop
abbrev z6:=@List.getElem_mem
abbrev A6:=@List.getElem?_take
abbrev B6:=@List.getElem?_append_left
abbrev C6:=@Int.mul_one
abbrev E6:=@Nat.sub_self
abbrev G6:=@Nat.min_eq_left
abbrev H6:=@List.getElem?_set_ne
abbrev I6:=@List.getElem?_append_right
abbrev M6:=@List.mem_range
abbrev N6:=@Int.mul_assoc
abbrev O6:=@Int.mul_add
abbrev P6:=@Int.ediv_lt_of_lt_mul
abbrev S6:=@Nat.eq_of_beq_eq_true
abbrev T6:=@Nat.add_mul
abbrev U6:=@List.eq_nil_of_length_eq_zero
abbrev Z6:=@List.mem_append
abbrev w7:=@List.length_range
abbrev E7:=@List.all_eq_true
abbrev G7:=@Int.zero_dvd
abbrev I7:=@Bool.not_eq_true'
abbrev S7:=@Nat.blt_eq
abbrev T7:=@List.append_assoc
abbrev U7:=@Int.le_of_lt
abbrev V7:=@Int.add_zero
abbrev W7:=@Bool.not_true
abbrev D8:=@Nat.mul_le_mul
abbrev E8:=@List.take_length
abbrev G8:=@List.getElem?_drop
abbrev H8:=@Int.pow_succ
abbrev I8:=@Int.mul_ne_zero
abbrev J8:=@Int.mul_le_mul
abbrev Y8:=@Nat.zero_add
abbrev Z8:=@Nat.mul_comm
abbrev w9:=@Nat.add_zero
abbrev y9:=@List.take_of_length_le
abbrev A9:=@List.getElem?_eq_none
abbrev B9:=@List.drop_zero
abbrev C9:=@Int.mul_sub
abbrev D9:=@Int.mul_ediv_cancel_left
abbrev E9:=@Bool.false_eq_true
abbrev M9:=@Nat.mul_le_mul_right
abbrev N9:=@Nat.le_trans
abbrev O9:=@List.drop_of_length_le
abbrev ma:=@Nat.eq_zero_or_pos
abbrev na:=@List.drop_drop
abbrev pa:=@Int.sub_zero
abbrev qa:=@Int.mul_lt_mul_of_pos_right
abbrev Na:=@Option.some.injEq
abbrev Pa:=@Nat.lt_trichotomy
abbrev Qa:=@List.length_map
abbrev Ra:=@List.getElem?_map
abbrev Sa:=@List.ext_getElem?
abbrev Ta:=@List.drop_eq_getElem_cons
abbrev Ua:=@Int.zero_emod
abbrev Va:=@Int.ediv_eq_zero_of_lt
abbrev pb:=@Nat.sub_zero
abbrev ub:=@Nat.mod_lt
abbrev wb:=@Nat.lt_or_ge
abbrev Ab:=@List.take_append_drop
abbrev Bb:=@List.range_succ
abbrev Cb:=@List.length_pos_iff
abbrev Db:=@List.getElem?_replicate
abbrev Eb:=@List.drop_set_of_lt
abbrev Gb:=@Int.tmod_eq_emod_of_nonneg
abbrev Hb:=@Int.add_mul
abbrev Ib:=@Classical.choose_spec
abbrev oc:=@Nat.zero_le
abbrev pc:=@Nat.two_pow_add_eq_or_of_lt
abbrev qc:=@Nat.mul_mod
abbrev tc:=@Nat.le_of_dvd
abbrev xc:=@List.nil_append
abbrev Ac:=@List.mem_filter
abbrev Bc:=@List.map_cons
abbrev Cc:=@List.getElem?_range
abbrev Dc:=@Int.gcd_dvd_right
abbrev Ec:=@Int.gcd_dvd_left
abbrev Fc:=@Int.dvd_trans
abbrev Gc:=@Array.length_toList
abbrev vd:=@Nat.and_two_pow_sub_one_eq_mod
abbrev Ad:=@List.mem_cons_self
abbrev Cd:=@List.mem_cons_of_mem
abbrev Dd:=@List.drop_replicate
abbrev Ed:=@Int.mul_pos
abbrev Gd:=@Int.fdiv_eq_ediv_of_nonneg
abbrev Hd:=@Int.ediv_le_self
abbrev Jd:=@Iff.rfl
abbrev De:=@Nat.testBit_two_pow_mul_add
abbrev Ee:=@Nat.mul_one
abbrev Fe:=@List.pairwise_cons
abbrev Ge:=@List.pairwise_append
abbrev He:=@List.getElem_of_mem
abbrev Ie:=@List.filter_append
abbrev Je:=@List.drop_eq_nil_of_le
abbrev Ke:=@List.append_nil
abbrev Le:=@Int.zero_add
abbrev Me:=@Int.toNat_of_nonneg
abbrev Oe:=@Int.mul_nonpos_of_nonneg_of_nonpos
abbrev Pe:=@Int.mul_neg
abbrev Qe:=@Int.le_refl
abbrev Re:=@Int.le_of_dvd
abbrev Se:=@Int.le_ediv_iff_mul_le
abbrev Ue:=@Bool.false_or
abbrev Ug:=@Nat.testBit_or
abbrev Vg:=@Nat.pow_le_pow_right
abbrev Wg:=@Nat.one_mul
abbrev Xg:=@Nat.div_add_mod
abbrev Yg:=@Nat.add_assoc
abbrev Zg:=@List.take_zero
abbrev ah:=@List.take_take
abbrev bh:=@List.pairwise_singleton
abbrev dh:=@List.map_append
abbrev eh:=@List.mapM_cons
abbrev fh:=@List.getElem?_set
abbrev gh:=@List.flatMap_cons
abbrev jh:=@List.any_eq_true
abbrev kh:=@Int.tdiv_eq_ediv_of_nonneg
abbrev lh:=@Int.neg_mul
abbrev mh:=@Int.natAbs_mul
abbrev nh:=@Int.natAbs_dvd_natAbs
abbrev oh:=@Int.dvd_sub
abbrev ph:=@Array.getElem?_eq_some_iff
abbrev wk:=@Option.map_some
abbrev xk:=@Option.getD_some
abbrev zk:=@Nat.pos_of_ne_zero
abbrev Ak:=@Nat.or_comm
abbrev Ck:=@Nat.not_lt_zero
abbrev Dk:=@Nat.mul_assoc
abbrev Ek:=@Nat.lt_of_lt_of_le
abbrev Fk:=@Nat.lt_irrefl
abbrev Gk:=@Nat.div_lt_of_lt_mul
abbrev Hk:=@List.take_set
abbrev Ik:=@List.take_left'
abbrev Jk:=@List.take_add_one
abbrev Kk:=@List.size_toArray
abbrev Nk:=@List.set_set
abbrev Ok:=@List.set_eq_of_length_le
abbrev Pk:=@List.nodup_iff_pairwise_ne
abbrev Qk:=@List.mem_of_getElem?
abbrev Sk:=@List.mem_map
abbrev Tk:=@List.getLast?_eq_getElem?
abbrev Uk:=@List.getElem?_ofFn
abbrev Wk:=@List.getElem?_cons_succ
abbrev Xk:=@List.getElem?_append
abbrev Yk:=@List.flatten_append
abbrev Zk:=@List.drop_length
abbrev al:=@Int.zero_ediv
abbrev fl:=@Int.sub_self
abbrev il:=@Int.pow_mul
abbrev jl:=@Int.natCast_pow
abbrev kl:=@Int.mul_le_mul_of_nonpos_right
abbrev ll:=@Int.mul_ediv_cancel
abbrev ml:=@Int.eq_zero_of_gcd_eq_zero_right
abbrev tl:=@Int.dvd_of_emod_eq_zero
abbrev yl:=@Int.add_mul_emod_self_left
abbrev Al:=@Int.add_mul_ediv_left
abbrev Bl:=@Array.mapM_eq_mapM_toList
abbrev ru:=@Option.bind_some
abbrev su:=@Nat.zero_mul
abbrev tu:=@Nat.testBit_and
abbrev uu:=@Nat.or_lt_two_pow
abbrev vu:=@Nat.mod_eq_of_lt
abbrev wu:=@Nat.and_zero
abbrev xu:=@Nat.add_sub_cancel_left
abbrev yu:=@List.set_eq_take_append_cons_drop
abbrev zu:=@List.set_append_right
abbrev Au:=@List.replicate_succ'
abbrev Bu:=@List.pairwise_map
abbrev Cu:=@List.not_mem_nil
abbrev Du:=@List.mem_replicate
abbrev Fu:=@List.mem_or_eq_of_mem_set
abbrev Gu:=@List.mem_of_mem_take
abbrev Hu:=@List.mem_filterMap
abbrev Iu:=@List.map_congr_left
abbrev Ju:=@List.mapM_nil
abbrev Ku:=@List.filter_cons
abbrev Lu:=@List.drop_left'
abbrev Mu:=@Int.pow_zero
abbrev Nu:=@Int.ofNat_le
abbrev Ou:=@Int.ofNat_dvd_left
abbrev Pu:=@Int.natCast_mul
abbrev Qu:=@Int.natAbs_eq_zero
abbrev Ru:=@Int.mul_neg_of_pos_of_neg
abbrev Su:=@Int.mul_ediv_cancel'
abbrev Tu:=@Int.gcd_comm
abbrev Uu:=@Int.ediv_one
abbrev Vu:=@Int.dvd_refl
abbrev Wu:=@Int.add_comm
abbrev Yu:=@Classical.not_not
abbrev Zu:=@Array.all_eq_true_iff_forall_mem
abbrev AD:=@Nat.exists_eq_add_of_le
abbrev BD:=@Nat.dvd_of_mod_eq_zero
abbrev CD:=@List.take_length_add_append
abbrev DD:=@List.take_append_of_le_length
abbrev ED:=@List.pairwise_lt_range
abbrev FD:=@List.pairwise_iff_getElem
abbrev GD:=@List.getElem?_eraseIdx
abbrev HD:=@List.filter_eq_nil_iff
abbrev ID:=@List.exists_cons_of_ne_nil
abbrev JD:=@List.eraseIdx_cons_succ
abbrev LD:=@List.eq_nil_iff_forall_not_mem
abbrev MD:=@List.drop_length_add_append
abbrev OD:=@Int.mul_nonpos_of_nonpos_of_nonneg
abbrev PD:=@Int.mul_add_emod_self_left
abbrev QD:=@Int.lt_of_mul_lt_mul_right
abbrev SD:=@Int.lt_of_mul_lt_mul_left
abbrev TD:=@Int.eq_of_mul_eq_mul_right
abbrev UD:=@Int.eq_of_mul_eq_mul_left
abbrev VD:=@Int.emod_eq_zero_of_dvd
abbrev pE:=@Array.size_setIfInBounds
abbrev qE:=@Array.getElem_setIfInBounds
namespace Sx
open Go
def upd (f:Nat→Value) (d:Nat) (v:Value):Nat→Value:=fun t=>bif Nat.beq t d then v else f t
def fr (n:Nat) (f:Nat→Value):Act:=⟨Array.ofFn (n:=n) (fun i=>f i.val),[]⟩
theorem ye {d t:Nat} (h:t≠d):Nat.beq t d=false:=by
 cases hb:Nat.beq t d
 ·rfl
 ·exact absurd (S6 hb) h
theorem Kc (f:Nat→Value) (d:Nat) (v:Value):upd f d v d=v:=by simp [upd]
theorem X7 (f:Nat→Value) {d t:Nat} (v:Value) (h:t≠d):upd f d v t=f t:=by simp [upd,ye h]
theorem te (n:Nat) (f:Nat→Value) (t:Nat) (h:t < n):(fr n f).tmps.getD t undef=f t:=by
 simp [fr,Array.getD,h]
theorem ic (n:Nat) (f:Nat→Value) (d:Nat) (v:Value):(fr n f).put (some d) v=fr n (upd f d v):=by
 unfold Act.put fr
 simp only [Act.mk.injEq,and_true]
 apply Array.ext
 ·simp
 ·intro i h1 h2
  simp only [pE,Array.size_ofFn] at h1
  rw [qE]
  ·by_cases h:d=i
   ·subst h; simp [upd]
   ·have h':i≠d:=fun e=>h e.symm
    rw [K0 h,Array.getElem_ofFn,Array.getElem_ofFn,X7 _ _ h']
  ·simpa using h1
theorem Ts (n:Nat) (f:Nat→Value) (v:Value):(fr n f).put none v=fr n f:=rfl
theorem et {n t:Nat} {f:Nat→Value} {v:Value} (ht:Nat.blt t n=true) (h:f t=v):(fr n f).eval (.tmp t)=v:=by
 unfold Act.eval
 simp only
 rw [te _ _ _ (by simpa [S7] using ht),h]
theorem Ll {n:Nat} {f:Nat→Value} {ops:Array Oper} {j d:Nat} {b:Bool} (hd:((ops[j]?).bind (·.dst))=some d) (ht:Nat.blt d n=true) (h:f d=.bool b):
  yielded ops (fr n f).tmps j=some b:=by
 have h2:(fr n f).tmps[d]?=some (.bool b):=by
  have:d < n:=by simpa [S7] using ht
  simp [fr,this,h]
 simp [yielded,hd,h2]
def initF (args:List Value):Nat→Value:=fun t=>args.getD t undef
theorem jB (args:List Value) (n:Nat) (h:args.length≤n):
  ({tmps:=args.toArray++Array.replicate (n - args.toArray.size) undef,defers:=[] }:Act)=fr n (initF args):=by
 unfold fr
 simp only [Act.mk.injEq,and_true]
 apply Array.ext
 ·simp; omega
 ·intro i h1 h2
  simp only [Array.size_ofFn] at h2
  by_cases hi:i < args.length
  ·rw [Array.getElem_append_left (by simpa using hi)]
   simp [initF,hi]
  ·rw [Array.getElem_append_right (by simpa using hi)]
   simp [initF,hi]
theorem enter {P:Program} {f:FuncId} {fn:Func} {c:Code} {args:List Value} {w:World} {R:Ending→World→Prop} {n:Nat}
  (hf:P.funcs[f]?=some fn) (hb:fn.body=some c) (hn:fn.ntmps=n) (hl:Nat.ble args.length n=true)
  (h:c.wp P (bodyPost P fn R) (fr n (initF args)) w):Calls P f args.toArray w R:=by
 refine calls_of_wp hf hb ?_
 rw [hn,jB args n (by simpa using hl)]
 exact h
abbrev Yi (P:Program) (a:Act) (w:World) (o:Oper) (v:Value):Prop:=(execOp a.eval o).run P w=.ok (.value v) w
def Wn (ops:Array Oper) (n:Nat) (f:Nat→Value):Option (Nat×Bool)→Prop
 | none=>True
 | some (j,b)=>∃ d,((ops[j]?).bind (·.dst))=some d∧Nat.blt d n=true∧f d=.bool b
def Wx (ops:Array Oper) (n:Nat) (f:Nat→Value):Option (Nat×Bool)→Prop
 | none=>False
 | some (j,b)=>∃ d,((ops[j]?).bind (·.dst))=some d∧Nat.blt d n=true∧(f d=.bool (!b)∨f d=undef)
theorem wn {ops:Array Oper} {n:Nat} {f:Nat→Value}:Wn ops n f none:=trivial
theorem Fv {n:Nat} {f:Nat→Value} {ops:Array Oper} {j d:Nat} (hd:((ops[j]?).bind (·.dst))=some d) (ht:Nat.blt d n=true) (h:f d=undef):
  yielded ops (fr n f).tmps j=none:=by
 have h2:(fr n f).tmps[d]?=some undef:=by
  have:d < n:=by simpa [S7] using ht
  simp [fr,this,h]
 simp [yielded,hd,h2,undef]
theorem Wn.wanted {ops:Array Oper} {n:Nat} {f:Nat→Value} {o:Oper} (h:Wn ops n f o.guard):Region.wanted o (yielded ops (fr n f).tmps)=true:=by
 unfold Region.wanted
 cases hg:o.guard with
 | none=>rfl
 | some jb=>
  obtain ⟨j,b⟩:=jb
  rw [hg] at h
  obtain ⟨d,h1,h2,h3⟩:=h
  simp [Ll h1 h2 h3]
theorem Wx.wanted {ops:Array Oper} {n:Nat} {f:Nat→Value} {o:Oper} (h:Wx ops n f o.guard):Region.wanted o (yielded ops (fr n f).tmps)=false:=by
 unfold Region.wanted
 cases hg:o.guard with
 | none=>rw [hg] at h; exact h.elim
 | some jb=>
  obtain ⟨j,b⟩:=jb
  rw [hg] at h
  obtain ⟨d,h1,h2,h3 | h3⟩:=h
  ·simp only [Ll h1 h2 h3]
   cases b<;>rfl
  ·simp only [Fv h1 h2 h3]
   cases b<;>rfl
section
variable {P:Program} {ops:Array Oper} {Q:Exit→Act→World→Prop} {n:Nat} {f:Nat→Value} {w:World} {rest:List Oper}
theorem Y0 {o:Oper} (hg:Wn ops n f o.guard) (k:∀ K:Act→World→Prop,(∀ a w,wpList P ops Q rest a w→K a w)→o.wp P (fr n f) w K Q):wpList P ops Q (o::rest) (fr n f) w:=by
 refine wpList_step fun K hK=>?_
 rw [hg.wanted]
 exact k K hK
theorem Y {o:Oper} {d:Nat} {v:Value} (hg:Wn ops n f o.guard) (hd:o.dst=some d) (hy:Yi P (fr n f) w o v)
  (k:wpList P ops Q rest (fr n (upd f d v)) w):wpList P ops Q (o::rest) (fr n f) w:=by
 refine Y0 hg fun K hK=>?_
 unfold Oper.wp
 rw [hy,Oper.upon_value,hd,ic]
 exact hK _ _ k
theorem Yw {o:Oper} {d:Nat} {v:Value} {w':World} (hg:Wn ops n f o.guard) (hd:o.dst=some d) (hy:(execOp (fr n f).eval o).run P w=.ok (.value v) w')
  (k:wpList P ops Q rest (fr n (upd f d v)) w'):wpList P ops Q (o::rest) (fr n f) w:=by
 refine Y0 hg fun K hK=>?_
 unfold Oper.wp
 rw [hy,Oper.upon_value,hd,ic]
 exact hK _ _ k
theorem Ys {o:Oper} {w':World} (hg:Wn ops n f o.guard) (hd:o.dst=none) (hy:(execOp (fr n f).eval o).run P w=.ok .skip w')
  (k:wpList P ops Q rest (fr n f) w'):wpList P ops Q (o::rest) (fr n f) w:=by
 refine Y0 hg fun K hK=>?_
 unfold Oper.wp
 rw [hy,Oper.upon_skip,hd,Ts]
 exact hK _ _ k
theorem Yc {o:Oper} {d:Nat} {g:FuncId} {args:Array Value} {R:Ending→World→Prop} (hg:Wn ops n f o.guard) (hd:o.dst=some d)
  (hy:(execOp (fr n f).eval o).run P w=.ok (.enter g args) w) (hc:Calls P g args w R)
  (k:∀ e w',R e w'→∃ v,e=.returned v∧wpList P ops Q rest (fr n (upd f d v)) w'):wpList P ops Q (o::rest) (fr n f) w:=by
 refine Y0 hg fun K hK=>?_
 unfold Oper.wp
 rw [hy,Oper.upon_enter]
 refine hc.mono ?_
 intro e w' hR
 obtain ⟨v,rfl,hk⟩:=k e w' hR
 show K ((fr n f).put o.dst v) w'
 rw [hd,ic]
 exact hK _ _ hk
theorem Gn {o:Oper} {d:Nat} (hg:Wx ops n f o.guard) (hd:o.dst=some d)
  (k:wpList P ops Q rest (fr n (upd f d undef)) w):wpList P ops Q (o::rest) (fr n f) w:=by
 refine wpList_step fun K hK=>?_
 rw [hg.wanted]
 simp only [E9,if_false]
 rw [hd,ic]
 exact hK _ _ k
end
def loopN {σ ρ:Type} (step:σ→Option (σ⊕ρ)):Nat→σ→Option ρ
 | 0,_=>none
 | k+1,s=>match step s with
  | none=>none
  | some (.inl s')=>loopN step k s'
  | some (.inr r)=>some r
def FUEL:Nat:=9223372036854775808
def loop {σ ρ:Type} (step:σ→Option (σ⊕ρ)) (s:σ):Option ρ:=loopN step FUEL s
def LQ {σ ρ:Type} (Inv:σ→Act→World→Prop) (Q:Exit→Act→World→Prop):σ⊕ρ→Exit→Act→World→Prop
 | .inl s,.normal,a,w=>Inv s a w
 | .inl _,_,_,_=>False
 | .inr _,.normal,_,_=>False
 | .inr _,e,a,w=>Q e a w
theorem jw {P:Program} {c:Code} {Q:Exit→Act→World→Prop} {σ ρ:Type} {step:σ→Option (σ⊕ρ)} (Inv:σ→Act→World→Prop) {out:ρ}
  (hb:∀ s a w r,Inv s a w→step s=some r→(∀ o,r=.inr o→o=out)→c.wp P (LQ Inv Q r) a w):
  ∀ (k:Nat) (s:σ) (a:Act) (w:World),loopN step k s=some out→Inv s a w→Code.rounds P c Q k a w:=by
 intro k
 induction k with
 | zero=>intro s a w h; simp [loopN] at h
 | succ k ih=>
  intro s a w h hI
  rw [rounds_succ]
  simp only [loopN] at h
  cases hs:step s with
  | none=>simp [hs] at h
  | some r=>
   cases r with
   | inl s'=>
    simp only [hs] at h
    refine Code.wp_mono ?_ (hb s a w _ hI hs H0)
    intro e a' w' hq
    cases e<;>simp only [LQ] at hq
    exact ih s' a' w' h hq
   | inr o=>
    simp only [hs] at h
    have ho:o=out:=by simpa using h
    refine Code.wp_mono ?_ (hb s a w _ hI hs (by intro o' h'; cases h'; exact ho))
    intro e a' w' hq
    cases e<;>simp only [LQ] at hq<;>exact hq
theorem mw {P:Program} {c:Code} {Q:Exit→Act→World→Prop} {σ ρ:Type} {step:σ→Option (σ⊕ρ)} (Inv:σ→Act→World→Prop) {s:σ} {a:Act} {w:World} {out:ρ}
  (h:loop step s=some out) (hI:Inv s a w)
  (hb:∀ s a w r,Inv s a w→step s=some r→(∀ o,r=.inr o→o=out)→c.wp P (LQ Inv Q r) a w):(Code.loop c).wp P Q a w:=
 wp_loop_rounds FUEL (jw Inv hb FUEL s a w h hI)
theorem bs {α β:Type} {e:Option α} {g:α→Option β} {r:β} (h:e.bind g=some r):∃ x,e=some x∧g x=some r:=by
 cases e with
 | none=>simp at h
 | some x=>exact ⟨x,rfl,h⟩
end Sx
