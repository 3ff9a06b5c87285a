/- Frames as functions, one step an operation, loops with fuel, regions that draw their order: the ground on which the walks of this claim stand. It holds over any program. -/
import Derived.WalkKit
theorem A0 {p:Prop} (h:p:=by omega):p:=h
theorem B0 {p:Prop} [Decidable p] {α:Sort _} {a b:α} (h:¬p:=by omega):ite p a b=b:=if_neg h
theorem C0 {p:Prop} [Decidable p] {α:Sort _} {a b:α} (h:p:=by omega):ite p a b=a:=if_pos h
theorem G0 {p:Prop} (h:p:=by simp only [List.length_cons,List.length_nil]; omega):p:=h
theorem H0 {p:Prop} (h:p:=by simp):p:=h
theorem I0 {p:Prop} (h:p:=by kernel_rfl):p:=h
abbrev K0:=@if_neg
abbrev M0:=@if_pos
abbrev Z0:=@congrArg
abbrev C1:=@Int.toNat_natCast
abbrev H1:=@Classical.byContradiction
abbrev W1:=@List.length_append
abbrev D2:=@List.length_cons
abbrev E2:=@Int.mul_comm
abbrev a00:=@List.length_nil
abbrev O2:=@List.getElem?_eq_some_iff
abbrev S2:=@Nat.le_refl
abbrev W2:=@Int.mul_le_mul_of_nonneg_right
abbrev D3:=@Int.mul_le_mul_of_nonneg_left
abbrev J3:=@Int.mul_nonneg
abbrev K3:=@Int.emod_nonneg
abbrev L3:=@List.length_set
abbrev M3:=@Int.emod_lt_of_pos
abbrev N3:=@Option.some.inj
abbrev P3:=@List.mem_cons
abbrev U3:=@List.getElem?_eq_getElem
abbrev W3:=@Bool.and_eq_true
abbrev Y3:=@Int.zero_mul
abbrev Z3:=@Int.mul_zero
abbrev C4:=@List.length_take
abbrev G4:=@Int.one_mul
abbrev I4:=@Int.mul_eq_zero
abbrev S4:=@List.length_replicate
abbrev T4:=@Int.mul_ediv_add_emod
abbrev U4:=@Bool.false_ne_true
abbrev X4:=@Int.emod_eq_of_lt
abbrev Z4:=@List.getElem?_set_self
abbrev A5:=@List.getElem_mem
abbrev B5:=@Int.pow_pos
abbrev C5:=@Int.pow_add
abbrev I5:=@List.getElem?_append_left
abbrev J5:=@Int.ediv_nonneg
abbrev Q5:=@List.getElem?_append_right
abbrev S5:=@Int.eq_ofNat_of_zero_le
abbrev T5:=@Bool.or_eq_true
abbrev Y5:=@List.getElem?_set_ne
abbrev y6:=@Nat.sub_self
abbrev z6:=@Nat.min_eq_left
abbrev A6:=@List.mem_singleton
abbrev B6:=@Int.mul_one
abbrev G6:=@List.getElem?_take
abbrev H6:=@List.getD_eq_getElem?_getD
abbrev I6:=@Int.mul_assoc
abbrev J6:=@Int.mul_add
abbrev K6:=@Int.ediv_lt_of_lt_mul
abbrev M6:=@Nat.eq_of_beq_eq_true
abbrev N6:=@List.all_eq_true
abbrev S6:=@List.mem_range
abbrev Y6:=@List.mem_append
abbrev Z6:=@List.length_range
abbrev w7:=@List.getElem?_eq_none
abbrev I7:=@Nat.blt_eq
abbrev J7:=@List.eq_nil_of_length_eq_zero
abbrev K7:=@List.append_assoc
abbrev L7:=@Int.le_of_lt
abbrev M7:=@Int.add_zero
abbrev N7:=@Bool.not_eq_true'
abbrev w8:=@Int.mul_ne_zero
abbrev y8:=@Int.mul_le_mul
abbrev z8:=@Bool.not_true
abbrev O8:=@Nat.mul_le_mul
abbrev P8:=@Nat.mul_comm
abbrev Q8:=@Nat.add_mul
abbrev R8:=@List.take_of_length_le
abbrev S8:=@List.take_length
abbrev T8:=@Int.pow_succ
abbrev U8:=@Int.mul_sub
abbrev V8:=@Int.mul_ediv_cancel_left
abbrev B9:=@Nat.zero_add
abbrev C9:=@Nat.le_trans
abbrev D9:=@Nat.add_zero
abbrev E9:=@List.length_drop
abbrev G9:=@List.drop_zero
abbrev H9:=@List.drop_of_length_le
abbrev I9:=@Int.zero_dvd
abbrev V9:=@Nat.eq_zero_or_pos
abbrev W9:=@List.getElem?_drop
abbrev X9:=@List.ext_getElem?
abbrev Y9:=@Int.sub_zero
abbrev Z9:=@Int.mul_lt_mul_of_pos_right
abbrev Ga:=@Option.some.injEq
abbrev Ia:=@List.length_map
abbrev Ja:=@List.getElem?_map
abbrev Ka:=@List.drop_eq_getElem_cons
abbrev La:=@List.drop_drop
abbrev Ma:=@Int.ediv_eq_zero_of_lt
abbrev Na:=@Bool.false_eq_true
abbrev cb:=@Nat.sub_zero
abbrev db:=@Nat.mul_le_mul_right
abbrev eb:=@Nat.mod_lt
abbrev fb:=@Nat.lt_trichotomy
abbrev ib:=@Nat.lt_or_ge
abbrev kb:=@List.take_append_drop
abbrev nb:=@List.length_pos_iff
abbrev ob:=@List.getElem?_replicate
abbrev pb:=@List.drop_set_of_lt
abbrev ub:=@Int.zero_emod
abbrev wb:=@Int.tmod_eq_emod_of_nonneg
abbrev Ab:=@Int.add_mul
abbrev Bb:=@Classical.choose_spec
abbrev Zb:=@Nat.zero_le
abbrev bc:=@Nat.two_pow_add_eq_or_of_lt
abbrev dc:=@Nat.mul_mod
abbrev ec:=@Nat.le_of_dvd
abbrev ic:=@List.range_succ
abbrev jc:=@List.nil_append
abbrev mc:=@List.map_cons
abbrev nc:=@Int.gcd_dvd_right
abbrev oc:=@Int.gcd_dvd_left
abbrev pc:=@Int.dvd_trans
abbrev Zc:=@Nat.and_two_pow_sub_one_eq_mod
abbrev cd:=@List.mem_cons_self
abbrev ed:=@List.mem_cons_of_mem
abbrev jd:=@List.getElem?_range
abbrev kd:=@List.drop_replicate
abbrev c00:=@Int.mul_pos
abbrev nd:=@Int.fdiv_eq_ediv_of_nonneg
abbrev od:=@Int.ediv_le_self
abbrev sd:=@Iff.rfl
abbrev re:=@Nat.testBit_two_pow_mul_add
abbrev se:=@Nat.mul_one
abbrev te:=@List.pairwise_cons
abbrev ue:=@List.pairwise_append
abbrev ve:=@List.mem_filter
abbrev we:=@List.drop_eq_nil_of_le
abbrev xe:=@List.append_nil
abbrev ye:=@Int.zero_add
abbrev Ae:=@Int.toNat_of_nonneg
abbrev Be:=@Int.mul_nonpos_of_nonneg_of_nonpos
abbrev Ce:=@Int.mul_neg
abbrev De:=@Int.le_refl
abbrev Ee:=@Int.le_of_dvd
abbrev Fe:=@Int.le_ediv_iff_mul_le
abbrev He:=@Array.length_toList
abbrev Fg:=@Nat.testBit_or
abbrev Gg:=@Nat.pow_le_pow_right
abbrev Hg:=@Nat.one_mul
abbrev Ig:=@Nat.div_add_mod
abbrev Jg:=@Nat.add_assoc
abbrev Kg:=@List.take_zero
abbrev Mg:=@List.take_take
abbrev Ng:=@List.pairwise_singleton
abbrev Og:=@List.map_append
abbrev Pg:=@List.mapM_cons
abbrev Qg:=@List.getElem_of_mem
abbrev Rg:=@List.getElem?_set
abbrev Sg:=@List.flatMap_cons
abbrev Ug:=@List.any_eq_true
abbrev Vg:=@Int.tdiv_eq_ediv_of_nonneg
abbrev Wg:=@Int.neg_mul
abbrev Xg:=@Int.natAbs_mul
abbrev Yg:=@Int.natAbs_dvd_natAbs
abbrev Zg:=@Int.dvd_sub
abbrev ah:=@Bool.false_or
abbrev bh:=@Array.getElem?_eq_some_iff
abbrev Nj:=@Option.map_some
abbrev Oj:=@Nat.pos_of_ne_zero
abbrev Pj:=@Nat.or_comm
abbrev Qj:=@Nat.not_lt_zero
abbrev Rj:=@Nat.mul_assoc
abbrev Sj:=@Nat.lt_of_lt_of_le
abbrev Tj:=@Nat.lt_irrefl
abbrev Uj:=@Nat.div_lt_of_lt_mul
abbrev Vj:=@List.take_set
abbrev Wj:=@List.take_add_one
abbrev Xj:=@List.set_set
abbrev Yj:=@List.set_eq_of_length_le
abbrev Zj:=@List.nodup_iff_pairwise_ne
abbrev ak:=@List.mem_of_getElem?
abbrev ck:=@List.mem_map
abbrev fk:=@List.getLast?_eq_getElem?
abbrev jk:=@List.getElem?_ofFn
abbrev nk:=@List.getElem?_cons_succ
abbrev qk:=@List.flatten_append
abbrev rk:=@List.filter_append
abbrev tk:=@List.drop_length
abbrev uk:=@Int.zero_ediv
abbrev wk:=@Int.sub_self
abbrev xk:=@Int.natCast_pow
abbrev yk:=@Int.mul_le_mul_of_nonpos_right
abbrev zk:=@Int.mul_ediv_cancel
abbrev Ak:=@Int.eq_zero_of_gcd_eq_zero_right
abbrev Ck:=@Int.dvd_of_emod_eq_zero
abbrev Dk:=@Int.add_mul_emod_self_left
abbrev Ek:=@Int.add_mul_ediv_left
abbrev Fk:=@Array.mapM_eq_mapM_toList
abbrev Ts:=@Option.getD_some
abbrev Us:=@Option.bind_some
abbrev Vs:=@Nat.zero_mul
abbrev Ws:=@Nat.testBit_and
abbrev Xs:=@Nat.or_lt_two_pow
abbrev Zs:=@Nat.mod_eq_of_lt
abbrev dt:=@Nat.and_zero
abbrev jt:=@Nat.add_sub_cancel_left
abbrev C00:=@List.take_left'
abbrev nt:=@List.set_eq_take_append_cons_drop
abbrev ot:=@List.set_append_right
abbrev qt:=@List.replicate_succ'
abbrev D00:=@List.pairwise_map
abbrev E00:=@List.not_mem_nil
abbrev xt:=@List.mem_replicate
abbrev zt:=@List.mem_or_eq_of_mem_set
abbrev At:=@List.mem_filterMap
abbrev Bt:=@List.map_congr_left
abbrev Ct:=@List.mapM_nil
abbrev Et:=@List.getElem?_append
abbrev Ft:=@List.drop_left'
abbrev Gt:=@Int.pow_zero
abbrev Ht:=@Int.ofNat_le
abbrev Jt:=@Int.ofNat_dvd_left
abbrev Kt:=@Int.natCast_mul
abbrev Lt:=@Int.natAbs_eq_zero
abbrev Mt:=@Int.mul_neg_of_pos_of_neg
abbrev Ot:=@Int.mul_ediv_cancel'
abbrev Pt:=@Int.gcd_comm
abbrev Rt:=@Int.ediv_one
abbrev Tt:=@Int.dvd_refl
abbrev Ut:=@Int.add_comm
abbrev Xt:=@Array.all_eq_true_iff_forall_mem
abbrev OC:=@Nat.exists_eq_add_of_le
abbrev PC:=@Nat.dvd_of_mod_eq_zero
abbrev QC:=@List.take_length_add_append
abbrev RC:=@List.take_append_of_le_length
abbrev SC:=@List.pairwise_lt_range
abbrev TC:=@List.pairwise_iff_getElem
abbrev UC:=@List.getElem?_eraseIdx
abbrev VC:=@List.filter_eq_nil_iff
abbrev WC:=@List.eraseIdx_cons_succ
abbrev XC:=@List.eq_nil_iff_forall_not_mem
abbrev YC:=@List.drop_length_add_append
abbrev aD:=@Int.mul_nonpos_of_nonpos_of_nonneg
abbrev cD:=@Int.mul_add_emod_self_left
abbrev dD:=@Int.lt_of_mul_lt_mul_right
abbrev eD:=@Int.lt_of_mul_lt_mul_left
abbrev fD:=@Int.eq_of_mul_eq_mul_right
abbrev gD:=@Int.eq_of_mul_eq_mul_left
abbrev iD:=@Int.emod_eq_zero_of_dvd
abbrev zD:=@Array.size_setIfInBounds
abbrev AD:=@Array.getElem_setIfInBounds
namespace Sx
open Go
def upd (f:Nat→Value) (d:Nat) (v:Value):Nat→Value:=fun t=>bif Nat.beq t d then v else f t
def fr (n:Nat) (f:Nat→Value):Act:=⟨Array.ofFn (n:=n) (fun i=>f i.val),[]⟩
theorem me {d t:Nat} (h:t≠d):Nat.beq t d=false:=by
 cases hb:Nat.beq t d
 ·rfl
 ·exact absurd (M6 hb) h
theorem Ac (f:Nat→Value) (d:Nat) (v:Value):upd f d v d=v:=by simp [upd]
theorem O7 (f:Nat→Value) {d t:Nat} (v:Value) (h:t≠d):upd f d v t=f t:=by simp [upd,me h]
theorem f00 (n:Nat) (f:Nat→Value) (t:Nat) (h:t < n):(fr n f).tmps.getD t undef=f t:=by
 simp [fr,Array.getD,h]
theorem Ub (n:Nat) (f:Nat→Value) (d:Nat) (v:Value):(fr n f).put (some d) v=fr n (upd f d v):=by
 unfold Act.put fr
 simp only [Act.mk.injEq,and_true]
 apply Array.ext
 ·simp
 ·intro i h1 h2
  simp only [zD,Array.size_ofFn] at h1
  rw [AD]
  ·by_cases h:d=i
   ·subst h; simp [upd]
   ·have h':i≠d:=fun e=>h e.symm
    rw [K0 h,Array.getElem_ofFn,Array.getElem_ofFn,O7 _ _ h']
  ·simpa using h1
theorem zr (n:Nat) (f:Nat→Value) (v:Value):(fr n f).put none v=fr n f:=rfl
theorem et {n t:Nat} {f:Nat→Value} {v:Value} (ht:Nat.blt t n=true) (h:f t=v):(fr n f).eval (.tmp t)=v:=by
 unfold Act.eval
 simp only
 rw [f00 _ _ _ (by simpa [I7] using ht),h]
theorem Pk {n:Nat} {f:Nat→Value} {ops:Array Oper} {j d:Nat} {b:Bool} (hd:((ops[j]?).bind (·.dst))=some d) (ht:Nat.blt d n=true) (h:f d=.bool b):
  yielded ops (fr n f).tmps j=some b:=by
 have h2:(fr n f).tmps[d]?=some (.bool b):=by
  have:d < n:=by simpa [I7] using ht
  simp [fr,this,h]
 simp [yielded,hd,h2]
def initF (args:List Value):Nat→Value:=fun t=>args.getD t undef
theorem qA (args:List Value) (n:Nat) (h:args.length≤n):
  ({tmps:=args.toArray++Array.replicate (n - args.toArray.size) undef,defers:=[] }:Act)=fr n (initF args):=by
 unfold fr
 simp only [Act.mk.injEq,and_true]
 apply Array.ext
 ·simp; omega
 ·intro i h1 h2
  simp only [Array.size_ofFn] at h2
  by_cases hi:i < args.length
  ·rw [Array.getElem_append_left (by simpa using hi)]
   simp [initF,hi]
  ·rw [Array.getElem_append_right (by simpa using hi)]
   simp [initF,hi]
theorem enter {P:Program} {f:FuncId} {fn:Func} {c:Code} {args:List Value} {w:World} {R:Ending→World→Prop} {n:Nat}
  (hf:P.funcs[f]?=some fn) (hb:fn.body=some c) (hn:fn.ntmps=n) (hl:Nat.ble args.length n=true)
  (h:c.wp P (bodyPost P fn R) (fr n (initF args)) w):Calls P f args.toArray w R:=by
 refine calls_of_wp hf hb ?_
 rw [hn,qA args n (by simpa using hl)]
 exact h
abbrev Yi (P:Program) (a:Act) (w:World) (o:Oper) (v:Value):Prop:=(execOp a.eval o).run P w=.ok (.value v) w
def Wn (ops:Array Oper) (n:Nat) (f:Nat→Value):Option (Nat×Bool)→Prop
 | none=>True
 | some (j,b)=>∃ d,((ops[j]?).bind (·.dst))=some d∧Nat.blt d n=true∧f d=.bool b
def Wx (ops:Array Oper) (n:Nat) (f:Nat→Value):Option (Nat×Bool)→Prop
 | none=>False
 | some (j,b)=>∃ d,((ops[j]?).bind (·.dst))=some d∧Nat.blt d n=true∧(f d=.bool (!b)∨f d=undef)
theorem wn {ops:Array Oper} {n:Nat} {f:Nat→Value}:Wn ops n f none:=trivial
theorem wu {n:Nat} {f:Nat→Value} {ops:Array Oper} {j d:Nat} (hd:((ops[j]?).bind (·.dst))=some d) (ht:Nat.blt d n=true) (h:f d=undef):
  yielded ops (fr n f).tmps j=none:=by
 have h2:(fr n f).tmps[d]?=some undef:=by
  have:d < n:=by simpa [I7] using ht
  simp [fr,this,h]
 simp [yielded,hd,h2,undef]
theorem Wn.wanted {ops:Array Oper} {n:Nat} {f:Nat→Value} {o:Oper} (h:Wn ops n f o.guard):Region.wanted o (yielded ops (fr n f).tmps)=true:=by
 unfold Region.wanted
 cases hg:o.guard with
 | none=>rfl
 | some jb=>
  obtain ⟨j,b⟩:=jb
  rw [hg] at h
  obtain ⟨d,h1,h2,h3⟩:=h
  simp [Pk h1 h2 h3]
theorem Wx.wanted {ops:Array Oper} {n:Nat} {f:Nat→Value} {o:Oper} (h:Wx ops n f o.guard):Region.wanted o (yielded ops (fr n f).tmps)=false:=by
 unfold Region.wanted
 cases hg:o.guard with
 | none=>rw [hg] at h; exact h.elim
 | some jb=>
  obtain ⟨j,b⟩:=jb
  rw [hg] at h
  obtain ⟨d,h1,h2,h3 | h3⟩:=h
  ·simp only [Pk h1 h2 h3]
   cases b<;>rfl
  ·simp only [wu h1 h2 h3]
   cases b<;>rfl
section
variable {P:Program} {ops:Array Oper} {Q:Exit→Act→World→Prop} {n:Nat} {f:Nat→Value} {w:World} {rest:List Oper}
theorem Y0 {o:Oper} (hg:Wn ops n f o.guard) (k:∀ K:Act→World→Prop,(∀ a w,wpList P ops Q rest a w→K a w)→o.wp P (fr n f) w K Q):wpList P ops Q (o::rest) (fr n f) w:=by
 refine wpList_step fun K hK=>?_
 rw [hg.wanted]
 exact k K hK
theorem Y {o:Oper} {d:Nat} {v:Value} (hg:Wn ops n f o.guard) (hd:o.dst=some d) (hy:Yi P (fr n f) w o v)
  (k:wpList P ops Q rest (fr n (upd f d v)) w):wpList P ops Q (o::rest) (fr n f) w:=by
 refine Y0 hg fun K hK=>?_
 unfold Oper.wp
 rw [hy,Oper.upon_value,hd,Ub]
 exact hK _ _ k
theorem Yw {o:Oper} {d:Nat} {v:Value} {w':World} (hg:Wn ops n f o.guard) (hd:o.dst=some d) (hy:(execOp (fr n f).eval o).run P w=.ok (.value v) w')
  (k:wpList P ops Q rest (fr n (upd f d v)) w'):wpList P ops Q (o::rest) (fr n f) w:=by
 refine Y0 hg fun K hK=>?_
 unfold Oper.wp
 rw [hy,Oper.upon_value,hd,Ub]
 exact hK _ _ k
theorem Ys {o:Oper} {w':World} (hg:Wn ops n f o.guard) (hd:o.dst=none) (hy:(execOp (fr n f).eval o).run P w=.ok .skip w')
  (k:wpList P ops Q rest (fr n f) w'):wpList P ops Q (o::rest) (fr n f) w:=by
 refine Y0 hg fun K hK=>?_
 unfold Oper.wp
 rw [hy,Oper.upon_skip,hd,zr]
 exact hK _ _ k
theorem Yc {o:Oper} {d:Nat} {g:FuncId} {args:Array Value} {R:Ending→World→Prop} (hg:Wn ops n f o.guard) (hd:o.dst=some d)
  (hy:(execOp (fr n f).eval o).run P w=.ok (.enter g args) w) (hc:Calls P g args w R)
  (k:∀ e w',R e w'→∃ v,e=.returned v∧wpList P ops Q rest (fr n (upd f d v)) w'):wpList P ops Q (o::rest) (fr n f) w:=by
 refine Y0 hg fun K hK=>?_
 unfold Oper.wp
 rw [hy,Oper.upon_enter]
 refine hc.mono ?_
 intro e w' hR
 obtain ⟨v,rfl,hk⟩:=k e w' hR
 show K ((fr n f).put o.dst v) w'
 rw [hd,Ub]
 exact hK _ _ hk
theorem Gn {o:Oper} {d:Nat} (hg:Wx ops n f o.guard) (hd:o.dst=some d)
  (k:wpList P ops Q rest (fr n (upd f d undef)) w):wpList P ops Q (o::rest) (fr n f) w:=by
 refine wpList_step fun K hK=>?_
 rw [hg.wanted]
 simp only [Na,if_false]
 rw [hd,Ub]
 exact hK _ _ k
end
def loopN {σ ρ:Type} (step:σ→Option (σ⊕ρ)):Nat→σ→Option ρ
 | 0,_=>none
 | k+1,s=>match step s with
  | none=>none
  | some (.inl s')=>loopN step k s'
  | some (.inr r)=>some r
def FUEL:Nat:=9223372036854775808
def loop {σ ρ:Type} (step:σ→Option (σ⊕ρ)) (s:σ):Option ρ:=loopN step FUEL s
def LQ {σ ρ:Type} (Inv:σ→Act→World→Prop) (Q:Exit→Act→World→Prop):σ⊕ρ→Exit→Act→World→Prop
 | .inl s,.normal,a,w=>Inv s a w
 | .inl _,_,_,_=>False
 | .inr _,.normal,_,_=>False
 | .inr _,e,a,w=>Q e a w
theorem Xu {P:Program} {c:Code} {Q:Exit→Act→World→Prop} {σ ρ:Type} {step:σ→Option (σ⊕ρ)} (Inv:σ→Act→World→Prop) {out:ρ}
  (hb:∀ s a w r,Inv s a w→step s=some r→(∀ o,r=.inr o→o=out)→c.wp P (LQ Inv Q r) a w):
  ∀ (k:Nat) (s:σ) (a:Act) (w:World),loopN step k s=some out→Inv s a w→Code.rounds P c Q k a w:=by
 intro k
 induction k with
 | zero=>intro s a w h; simp [loopN] at h
 | succ k ih=>
  intro s a w h hI
  rw [rounds_succ]
  simp only [loopN] at h
  cases hs:step s with
  | none=>simp [hs] at h
  | some r=>
   cases r with
   | inl s'=>
    simp only [hs] at h
    refine Code.wp_mono ?_ (hb s a w _ hI hs H0)
    intro e a' w' hq
    cases e<;>simp only [LQ] at hq
    exact ih s' a' w' h hq
   | inr o=>
    simp only [hs] at h
    have ho:o=out:=by simpa using h
    refine Code.wp_mono ?_ (hb s a w _ hI hs (by intro o' h'; cases h'; exact ho))
    intro e a' w' hq
    cases e<;>simp only [LQ] at hq<;>exact hq
theorem Yu {P:Program} {c:Code} {Q:Exit→Act→World→Prop} {σ ρ:Type} {step:σ→Option (σ⊕ρ)} (Inv:σ→Act→World→Prop) {s:σ} {a:Act} {w:World} {out:ρ}
  (h:loop step s=some out) (hI:Inv s a w)
  (hb:∀ s a w r,Inv s a w→step s=some r→(∀ o,r=.inr o→o=out)→c.wp P (LQ Inv Q r) a w):(Code.loop c).wp P Q a w:=
 wp_loop_rounds FUEL (Xu Inv hb FUEL s a w h hI)
theorem bs {α β:Type} {e:Option α} {g:α→Option β} {r:β} (h:e.bind g=some r):∃ x,e=some x∧g x=some r:=by
 cases e with
 | none=>simp at h
 | some x=>exact ⟨x,rfl,h⟩
end Sx
