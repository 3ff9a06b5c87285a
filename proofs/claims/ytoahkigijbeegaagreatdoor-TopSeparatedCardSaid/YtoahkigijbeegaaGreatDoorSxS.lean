/- The library's Sort and Compact at ints. -/
import Derived.KernelRfl
import Derived.Shelf.Sort.Plain
import Derived.Shelf.Slices.In.SortNone
import Derived.Shelf.Slices.CompactI
import Derived.Sort.OwnSortedInts
import Derived.Test.YtoahkigijbeegaaGreatDoorTy
namespace Go.Proofs.YtoahkigijbeegaaGreatDoor
open Go Go.RowKit Go.Shelf
set_option maxRecDepth 100000
set_option linter.unusedVariables false
def Tryz.lays189_r:Ren:=⟨(fun x=>match x with | 189=>197 | 125=>220 | 257=>219 | 128=>157 | 129=>241 | 294=>233 | 295=>234 | 296=>235 | 297=>236 | 298=>237 | 299=>238 | 216=>161 | 300=>239 | 301=>240 | 328=>246 | 329=>247 | 330=>248 | 331=>249 | 332=>250 | 215=>195 | 343=>252 | _=>0),(fun x=>match x with | 28=>24 | 3=>3 | 46=>52 | 0=>0 | 51=>108 | 53=>55 | 4=>4 | 183=>262 | 182=>261 | 131=>152 | 5=>5 | 9=>9 | 218=>271 | 222=>275 | 228=>277 | 229=>278 | _=>0),(fun x=>x)⟩
theorem Tryz.lays189:Lays.n189 Tryz.prog Tryz.lays189_r where
 mixed:=H0
 f125:=H0
 f128:=H0
 f129:=H0
 f189:=H0
 f215:=H0
 f216:=H0
 f257:=H0
 f294:=H0
 f295:=H0
 f296:=H0
 f297:=H0
 f298:=H0
 f299:=H0
 f300:=H0
 f301:=H0
 f328:=H0
 f329:=H0
 f330:=H0
 f331:=H0
 f332:=H0
 f343:=H0
 t0:=H0
 a0:=fun w=>by kernel_rfl
 z0:=fun w=>by kernel_rfl
 v0:=fun w=>by kernel_rfl
 t3:=H0
 a3:=fun w=>by kernel_rfl
 z3:=fun w=>by kernel_rfl
 v3:=fun w=>by kernel_rfl
 t4:=H0
 a4:=fun w=>by kernel_rfl
 z4:=fun w=>by kernel_rfl
 v4:=fun w=>by kernel_rfl
 t5:=H0
 a5:=fun w=>by kernel_rfl
 z5:=fun w=>by kernel_rfl
 v5:=fun w=>by kernel_rfl
 t9:=H0
 a9:=fun w=>by kernel_rfl
 z9:=fun w=>by kernel_rfl
 v9:=fun w=>by kernel_rfl
 t28:=H0
 a28:=fun w=>by kernel_rfl
 z28:=fun w=>by kernel_rfl
 v28:=fun w=>by kernel_rfl
 t46:=H0
 a46:=fun w=>by kernel_rfl
 z46:=fun w=>by kernel_rfl
 v46:=fun w=>by kernel_rfl
 t51:=H0
 a51:=fun w=>by kernel_rfl
 z51:=fun w=>by kernel_rfl
 v51:=fun w=>by kernel_rfl
 t53:=H0
 a53:=fun w=>by kernel_rfl
 z53:=fun w=>by kernel_rfl
 v53:=fun w=>by kernel_rfl
 t131:=H0
 a131:=fun w=>by kernel_rfl
 z131:=fun w=>by kernel_rfl
 v131:=fun w=>by kernel_rfl
 t182:=H0
 a182:=fun w=>by kernel_rfl
 z182:=fun w=>by kernel_rfl
 v182:=fun w=>by kernel_rfl
 t183:=H0
 a183:=fun w=>by kernel_rfl
 z183:=fun w=>by kernel_rfl
 v183:=fun w=>by kernel_rfl
 t218:=H0
 a218:=fun w=>by kernel_rfl
 z218:=fun w=>by kernel_rfl
 v218:=fun w=>by kernel_rfl
 t222:=H0
 a222:=fun w=>by kernel_rfl
 z222:=fun w=>by kernel_rfl
 v222:=fun w=>by kernel_rfl
 t228:=H0
 a228:=fun w=>by kernel_rfl
 z228:=fun w=>by kernel_rfl
 v228:=fun w=>by kernel_rfl
 t229:=H0
 a229:=fun w=>by kernel_rfl
 z229:=fun w=>by kernel_rfl
 v229:=fun w=>by kernel_rfl
def Tryz.lays2_20_r:Ren:=⟨(fun x=>match x with | 20=>175 | _=>0),(fun x=>match x with | 22=>24 | 3=>3 | 4=>4 | 0=>0 | _=>0),(fun x=>x)⟩
theorem Tryz.lays2_20:Lays2.n20 Tryz.prog Tryz.lays2_20_r where
 mixed:=H0
 f20:=H0
 t0:=H0
 a0:=fun w=>by kernel_rfl
 z0:=fun w=>by kernel_rfl
 v0:=fun w=>by kernel_rfl
 t3:=H0
 a3:=fun w=>by kernel_rfl
 z3:=fun w=>by kernel_rfl
 v3:=fun w=>by kernel_rfl
 t4:=H0
 a4:=fun w=>by kernel_rfl
 z4:=fun w=>by kernel_rfl
 v4:=fun w=>by kernel_rfl
 t22:=H0
 a22:=fun w=>by kernel_rfl
 z22:=fun w=>by kernel_rfl
 v22:=fun w=>by kernel_rfl
 i3:=H0
def cI2 (n:Int):Sx.CS (Sx.rI .i64).s:=⟨[.int .i64 n],show [Value.int .i64 n].length=1 from rfl,fun v h=>by rw [Z2] at h; subst h; rfl⟩
open Sx in
theorem pf (x:List Int):cellsOf (x.map cI2)=x.map (Value.int .i64):=by
 induction x with
 | nil=>rfl
 | cons z l ih=>
  rw [F7,F7,← ih]
  rfl
open Sx in
theorem Yr (w:World) (X:Nat→Prop) (x:List Int):All2 w X (rI .i64) (x.map cI2) x:=by
 refine ⟨L8 _,fun i c y hc hy=>?_⟩
 rw [H7,hy] at hc
 obtain rfl:=P1 hc
 exact rfl
open Sx in
theorem Hs {w:World} {X:Nat→Prop} {cs:List (CS (rI .i64).s)} {x:List Int} (h:All2 w X (rI .i64) cs x):cs=x.map cI2:=by
 apply C6
 intro i
 by_cases hi:i < x.length
 ·have hc:i < cs.length:=by rw [h.1]; exact hi
  have h1:cs[i]?=some cs[i]:=by simp [hc]
  have h2:x[i]?=some x[i]:=by simp [hi]
  have h3:=h.2 i _ _ h1 h2
  rw [h1,H7,h2]
  congr 1
  exact Subtype.ext h3
 ·rw [L5 (by rw [h.1]; omega),L5 (by rw [L8]; omega)]
open Sx Go.Sort in
theorem nh {w0:World} {mu:List Fact} {rs:List Res} {w:World} {x1:List Int} {h1:Hdr} {out:List Int} (hM:sortI x1=some out) (nu:St w0 mu (row 3 (rI .i64) h1.v x1::rs) w):
  Calls Tryz.prog 197 #[h1.v] w (fun e w=>e=.returned (.tuple #[])∧St w0 mu (row 3 (rI .i64) h1.v out::rs) w):=by
 unfold sortI at hM
 split at hM
 ·rename_i hlen
  obtain rfl:=P1 hM
  unfold BIG at hlen
  have QD:(isortI x1).length=x1.length:=(Te x1).length_eq
  have Tu:∃ X F,(row 3 (rI .i64) h1.v x1).holds w X F:=by
   obtain ⟨X,hX⟩:=nu
   obtain ⟨F,hr,_⟩:=hX.own
   exact ⟨X,F,hr⟩
  obtain ⟨X,F,hm,cs,ha,Fv,he⟩:=Tu
  have oy:=Hs ha
  subst oy
  rw [pf] at Fv
  rcases Fv.2 with ⟨hv,hn⟩ | ⟨g,cap,cur,hv,hg,hh,cx,uv,sH,FK⟩
  ·have hx:x1=[]:=P6 hn
   subst hx
   rw [hv]
   refine (Any.slices_Sort_int_none Tryz.lays189 none 0 w).mono ?_
   rintro e w' ⟨rfl,rfl⟩
   exact ⟨rfl,by rw [hv] at nu; exact nu⟩
  ·rw [hv]
   have oH:(rI IntKind.i64).s=1:=rfl
   rw [oH] at sH
   have SG:cur.toList.take x1.length=x1.map (Value.int .i64):=by rw [← FK]; show _=cur.toList.take (x1.length*1); rw [ra]
   refine (Any.slices_Sort_int Tryz.lays189 g 0 cap x1 w (holds_of_blockI hh SG) (yd.1 hh).1 n0).mono ?_
   rintro e w' ⟨rfl,n,os,rfl⟩
   refine ⟨rfl,?_⟩
   rw [eA]
   have CG:=grownBy_sortedI (w:=w) (g:=g) (n:=n) (os:=os) (isortI x1).toArray
   rw [hv] at nu
   refine nu.upd fun X F _ hF=>⟨F,fun _=>?_,fun b hb=>.inl hb,?_⟩
   ·refine ⟨by rw [QD]; exact hm,(isortI x1).map cI2,Yr _ _ _,?_,hF.2.choose_spec.2.2⟩
    have:=ownsRow_sortedI (n:=n) (os:=os) QD (n8 g) hh cx uv sH
    rw [pf,QD]
    exact this
   ·obtain ⟨q1,q2,q3,q4,q5⟩:=CG
    have LK:F g:=(hF.2.choose_spec.2.2 g).2 rfl
    exact ⟨q1,q2,q3,q4,fun b hb hn=>q5 b hb (fun e=>hn (by have e':=P1 e; rw [e']; exact LK))⟩
 ·cases hM
theorem WB (zs:List Int):(Go.Lib.compact zs).length≤zs.length:=by
 unfold Go.Lib.compact Go.Lib.compactUpTo
 rw [L8]
 have:=Et (Go.Lib.keeps zs.toArray) (List.range zs.length)
 simpa using this
open Sx Go.Sort in
theorem ZB {w0:World} {mu:List Fact} {rs:List Res} {w:World} {x1:List Int} {h1:Hdr} {out:List Int} (hM:compactI x1=some out) (nu:St w0 mu (row 3 (rI .i64) h1.v x1::rs) w):
  Calls Tryz.prog 175 #[h1.v] w (fun e w=>∃ (h2:Hdr),e=.returned (h2.v)∧St w0 mu (row 3 (rI .i64) h2.v out::rs) w):=by
 unfold compactI at hM
 split at hM
 ·rename_i hlen
  obtain rfl:=P1 hM
  unfold BIG at hlen
  have Hv:=WB x1
  have Tu:∃ X F,(row 3 (rI .i64) h1.v x1).holds w X F:=by
   obtain ⟨X,hX⟩:=nu
   obtain ⟨F,hr,_⟩:=hX.own
   exact ⟨X,F,hr⟩
  obtain ⟨X,F,hm,cs,ha,Fv,he⟩:=Tu
  have oy:=Hs ha
  subst oy
  rw [pf] at Fv
  rcases Fv.2 with ⟨hv,hn⟩ | ⟨g,cap,cur,hv,hg,hh,cx,uv,sH,FK⟩
  ·have hx:x1=[]:=P6 hn
   subst hx
   rw [hv]
   refine (Any.slices_Compact_int_empty Tryz.lays2_20 none 0 w).mono ?_
   rintro e w' ⟨rfl,rfl⟩
   exact ⟨hnil,rfl,by rw [hv] at nu; exact nu⟩
  ·rw [hv]
   have oH:(rI IntKind.i64).s=1:=rfl
   rw [oH] at sH
   have SG:cur.toList.take x1.length=x1.map (Value.int .i64):=by rw [← FK]; show _=cur.toList.take (x1.length*1); rw [ra]
   refine (Any.slices_Compact_int Tryz.lays2_20 g 0 cap x1 w (holds_of_blockI hh SG) n0 cx).mono ?_
   rintro e w' ⟨rfl,n,gE⟩
   rw [← grow_empty (putRow _ _ _ _ _)] at gE
   subst gE
   refine ⟨⟨some ⟨g,0,none⟩,(Go.Lib.compact x1).length,cap⟩,rfl,?_⟩
   generalize hd:(Go.Lib.compact x1++List.replicate (x1.length - (Go.Lib.compact x1).length) 0)=d
   have DK:d.length=x1.length:=by rw [← hd,H2,T5]; omega
   have CG:=grownBy_sortedI (w:=w) (g:=g) (n:=n) (os:=#[]) d.toArray
   rw [hv] at nu
   refine nu.upd fun X F _ hF=>⟨F,fun _=>?_,fun b hb=>.inl hb,?_⟩
   ·have UN:=hF.2.choose_spec.2.2
    refine ⟨n0,(Go.Lib.compact x1).map cI2,Yr _ _ _,?_,fun b=>(UN b).trans ⟨fun h=>h,fun h=>h⟩⟩
    rw [pf]
    refine ⟨by simp [oH],.inr ⟨g,cap,_,rfl,n8 g,heap_sortedI _ hh,n0,uv,by simp [putCells,sH,oH],?_⟩⟩
    have ht:=take_putCellsI cur d (by rw [DK]; omega)
    have h2:=S0 (List.take (Go.Lib.compact x1).length) ht
    rw [Jc,n5 n0,← List.map_take,← hd,List.take_left] at h2
    rw [oH,ra,hd] at*
    exact h2
   ·obtain ⟨q1,q2,q3,q4,q5⟩:=CG
    have LK:F g:=(hF.2.choose_spec.2.2 g).2 rfl
    exact ⟨q1,q2,q3,q4,fun b hb hn=>q5 b hb (fun e=>hn (by have e':=P1 e; rw [e']; exact LK))⟩
 ·cases hM
end Go.Proofs.YtoahkigijbeegaaGreatDoor
