/- The library's iterator over a slice of ints, and what collects it. -/
import Derived.RangeFuncBox
import Derived.RangeFuncBound
import Derived.RangeFuncLeaves
import Derived.Shelf.SlIterI.Collect
import Derived.Shelf.Abstract
import Derived.WalkKit
import Derived.OwnWalkIn
import Derived.TacticsInMore
import Derived.LoopNIn
import Derived.LoopIn
import Derived.Test.YtoahkigijbeegaaGreatDoorTy
namespace Go.Proofs.YtoahkigijbeegaaGreatDoor
open Go Go.RowKit Go.Shelf
set_option linter.unusedVariables false
attribute [local go_sem] Oper.semAt_some
def upto (zs:List Int) (k:Nat):List Int:=(List.range k).map (fun j=>zs[j]?.getD 0)
theorem Nv (zs:List Int) (k:Nat):upto zs (k+1)=upto zs k++[zs[k]?.getD 0]:=by simp [upto,Oc]
theorem Ov (zs:List Int) (k:Nat):(upto zs k).length=k:=by simp [upto]
theorem Pv (zs:List Int):upto zs zs.length=zs:=by
  apply List.ext_getElem
  · simp [upto]
  · intro i h1 h2
    simp [upto,h2]
set_option maxRecDepth 100000 in
set_option maxHeartbeats 2000000 in
theorem Kv (F:Fence) (n:Nat) (h7:F.fn 204) (DF:F.round=none) (hn:1≤n) (l Bs b off len cap:Nat) (zs:List Int) (LL:len*8≤140737488351232) (J:List Int→World→Prop) (W:World)
    (hY:∀ pre x W,J pre W→pre.length < len→YieldAt F (n - 1) Tryz.prog l #[.int .i64 x] W fun e W'=>e=.returned (.bool true)∧J (pre++[x]) W')
    (PK:W.cell? ⟨Bs,0,none⟩=some (.slice (some ⟨b,off,none⟩) len cap)) (hc:∀ pre W',J pre W'→∀ j,j < len→W'.cell? ⟨b,off+j,none⟩=some (.int .i64 (zs[j]?.getD 0))) (h0:J [] W):
    CallsIn F n Tryz.prog 204 #[.func (.yield l) #[] #[],.pointer (some ⟨Bs,0,none⟩)] W fun e W'=>(∃ v,e=.returned v)∧J (upto zs len) W':=by
  refine callsIn_of_wp Tryz.func204 rfl h7 ?_ DF
  simp only [Tryz.ntmps204,Mc,B4,A6,Nat.reduceAdd,Nat.reduceSub,Vt,Ut,ot,Lt,v8,Da]
  gi_wp2
  gi_loopw [7] (fun i wr=>∃ k:Nat,k≤len∧i=.int .i64 k∧J (upto zs k) wr)
    (fun i _=>len - (Go.RowKit.intOf i).toNat)
  case atStart=>exact ⟨0,n8 _,rfl,h0⟩
  case round=>
    obtain ⟨k,hk,rfl,fI⟩:=hrel
    have TD:k < len→wr.cell? ⟨b,off+k,none⟩=some (.int .i64 (zs[k]?.getD 0)):=fun h=>hc _ _ fI k h
    by_cases hlt:k < len
    · obtain ⟨fn,tmps,assign,body,hy,hR⟩:=hY _ (zs[k]?.getD 0) wr fI (by rw [Ov]; exact hlt)
      have ZO:=TD hlt
      gi_wp2
      refine hR.mono ?_
      rintro e W3 ⟨rfl,OO⟩
      gi_wp2
      go_roundw
      case rel=>exact ⟨k+1,n0,G0,by rw [Nv]; exact OO⟩
      case measure=>simp [Go.RowKit.intOf]; omega
    · obtain rfl:k=len:=n0
      gi_wp2
      go_end0
      exact ⟨⟨_,rfl⟩,fI⟩
set_option maxRecDepth 100000 in
set_option maxHeartbeats 1000000 in
theorem Jv (F:Fence) (n:Nat) (h7:F.fn 204) (DF:F.round=none) (l Bs cap:Nat) (a:Option Addr) (J:List Int→World→Prop) (W:World) (PK:W.cell? ⟨Bs,0,none⟩=some (.slice a 0 cap)) (h0:J [] W):
    CallsIn F n Tryz.prog 204 #[.func (.yield l) #[] #[],.pointer (some ⟨Bs,0,none⟩)] W fun e W'=>(∃ v,e=.returned v)∧J [] W':=by
  refine callsIn_of_wp Tryz.func204 rfl h7 ?_ DF
  simp only [Tryz.ntmps204,Mc,B4,A6,Nat.reduceAdd,Nat.reduceSub,Vt,Ut,ot,Lt,v8,Da]
  gi_wp2
  gi_loopw [7] (fun i wr=>i=.int .i64 0∧J [] wr) (fun _ _=>0)
  case atStart=>exact ⟨rfl,h0⟩
  case round=>
    obtain ⟨rfl,fI⟩:=hrel
    gi_wp2
    go_end0
    exact ⟨⟨_,rfl⟩,fI⟩
def renV:Ren:=⟨fun _=>224,fun t=>match t with | 0=>0 | 24=>24 | 26=>3 | 28=>215 | 33=>178 | _=>0,fun g=>g⟩
theorem Wz:SlLaysZI.n11 Tryz.prog renV where
  mixed:=H0
  f11:=⟨Tryz.f224.name,H0,H0⟩
  t0:=H0
  a0:=fun w=>by kernel_rfl
  z0:=fun w=>by kernel_rfl
  v0:=fun w=>by kernel_rfl
  t24:=H0
  a24:=fun w=>by kernel_rfl
  z24:=fun w=>by kernel_rfl
  v24:=fun w=>by kernel_rfl
  t26:=H0
  a26:=fun w=>by kernel_rfl
  z26:=fun w=>by kernel_rfl
  v26:=fun w=>by kernel_rfl
  t28:=H0
  a28:=fun w=>by kernel_rfl
  z28:=fun w=>by kernel_rfl
  v28:=fun w=>by kernel_rfl
  i26:=H0
open Go.Maps Go.Sort in
set_option maxRecDepth 100000 in
set_option maxHeartbeats 2000000 in
theorem MC (F:Fence) (n:Nat) (hA:F.fn 224) (hV:F.fn 204) (DF:F.round=none) (hn:2≤n) (Bs:Nat) (a:Option Addr) (len cap:Nat) (zs:List Int) (hN:len≤maxLen) (FJ:len*8≤140737488351232) (hz:zs.length=len) (w:World)
    (PK:w.cell? ⟨Bs,0,none⟩=some (.slice a len cap)) (hlt:Bs < w.heap.size)
    (hc:0 < len→∃ b off,a=some ⟨b,off,none⟩∧b < w.heap.size∧∀ j,j < len→w.cell? ⟨b,off+j,none⟩=some (.int .i64 (zs[j]?.getD 0))):
    CallsIn F n Tryz.prog 224 #[.slice none 0 0,.func (.func 204) #[] #[.pointer (some ⟨Bs,0,none⟩)]] w fun e w'=>∃ v:Value,e=.returned v∧w'.ownsRow w.heap.size 3 1 v zs.length (zs.map encZ)∧Below w.heap.size w w':=by
  have h1:1≤n:=n0
  have L:=Wz
  have mixed:=L.mixed; have t0:=L.t0; have a0:=L.a0; have z0:=L.z0; have v0:=L.v0; have t24:=L.t24; have a24:=L.a24; have z24:=L.z24; have v24:=L.v24; have t26:=L.t26; have a26:=L.a26; have z26:=L.z26; have v26:=L.v26; have t28:=L.t28; have a28:=L.a28; have z28:=L.z28; have v28:=L.v28
  have Bu:renV.t 24≠renV.t 26:=fun e=>by have h:=L.t24; rw [e,L.t26] at h; cases h
  have u0:=run_underlying L.t0; have u24:=run_underlying L.t24; have u26:=run_underlying L.t26; have u28:=run_underlying L.t28
  obtain ⟨_,_,FG⟩:=L.f11
  refine callsIn_of_wp_marks (f:=renV.f 11) FG rfl hA ?_ DF
  simp only [SlBodyZ.n11_ntmps renV,Mc,B4,A6,Nat.reduceAdd,Nat.reduceSub,Vt,Ut,ot,Lt,v8,Da]
  gi_wp2
  refine wpIn_rangeFunc ?_
  intro fn VH
  rw [DF]
  obtain ⟨W0,CJ⟩:∃ W0,w.alloc (.cells #[.slice none 0 0] (renV.t 24))=W0:=⟨_,rfl⟩
  have FH:W0.heap.size=w.heap.size+1:=by rw [← CJ]; simp
  have uE:W0.heap[w.heap.size]?=some (.cells #[.slice none 0 0] (renV.t 24) (0,0)):=by rw [← CJ]; exact World.alloc_heap_new w _
  have WE:Below w.heap.size w W0:=by rw [← CJ]; exact (Below.refl _ w).alloc (O4 _) _
  rw [CJ]
  obtain ⟨sv,oF⟩:∃ sv:Value,sv=.func (.func 204) #[] #[.pointer (some ⟨Bs,0,none⟩)]:=⟨_,rfl⟩
  rw [← oF]
  obtain ⟨W1,vH⟩:∃ W1,(W0.alloc (.deferred (some []))).alloc (.loop (AnyZI.apRec renV fn sv w.heap.size W0.heap.size .ready none))=W1:=⟨_,rfl⟩
  have hold:∀ k,k < W0.heap.size→W1.heap[k]?=W0.heap[k]?:=fun k hk=>by
    rw [← vH]; exact (Below.heap_alloc _ _ k (by simp; omega)).trans (Below.heap_alloc _ _ k hk)
  have mE:Below w.heap.size w W1:=by rw [← vH]; exact (WE.alloc WE.size _).alloc (by have:=WE.size; simp; omega) _
  have ZF:W1.heap.size=W0.heap.size+2:=by rw [← vH]; simp
  have hM:AnyZI.ApAt renV w fn sv w.heap.size (W0.heap.size+1) W0.heap.size [] W1:=
    ⟨⟨_,(hold w.heap.size n0).trans uE,⟨rfl,.inl ⟨rfl,rfl⟩⟩,G0⟩,
     by rw [← vH]; have:=World.alloc_heap_new (W0.alloc (.deferred (some []))) (.loop (AnyZI.apRec renV fn sv w.heap.size W0.heap.size .ready none)); rwa [World.size_alloc] at this,
     by rw [← vH]; exact (Below.heap_alloc _ _ _ G0).trans (World.alloc_heap_new W0 _),mE⟩
  have WG:CallsIn F (n - 1) Tryz.prog 204 #[.func (.yield (W0.heap.size+1)) #[] #[],.pointer (some ⟨Bs,0,none⟩)] W1 fun e W'=>(∃ v,e=.returned v)∧AnyZI.ApAt renV w fn sv w.heap.size (W0.heap.size+1) W0.heap.size zs W':=by
    have GI:W1.cell? ⟨Bs,0,none⟩=some (.slice a len cap):=(mE.cell (p:=⟨Bs,0,none⟩) hlt).trans PK
    by_cases h0:len=0
    · have rG:zs=[]:=P6 n0
      subst h0; rw [rG]
      exact Jv F (n - 1) hV DF _ Bs cap a _ W1 GI hM
    · obtain ⟨b,off,rfl,hb,oy⟩:=hc n0
      have:=Kv F (n - 1) hV DF n0 (W0.heap.size+1) Bs b off len cap zs n0 (AnyZI.ApAt renV w fn sv w.heap.size (W0.heap.size+1) W0.heap.size) W1
        (fun pre x W hJ hl=>YieldAt.mono (AnyZI.apYield L F (n - 1 - 1) w fn VH sv w.heap.size (W0.heap.size+1) W0.heap.size n0 n0 n0 (O4 _) n0 len hN n0 pre x W hJ hl) (fun e W' h=>⟨h.1,h.2.1⟩))
        GI (fun pre W' hJ j hj=>(hJ.below.cell (p:=⟨b,off+j,none⟩) hb).trans (oy j hj)) hM
      rwa [← hz,Pv] at this
  refine ⟨W0.heap.size+1,[{target:=.collected W0.heap.size,args:=#[] }],W1,{target:=.fn (.func 204) #[.pointer (some ⟨Bs,0,none⟩)],args:=#[.func (.yield (W0.heap.size+1)) #[] #[]] },W1,204,
    #[.func (.yield (W0.heap.size+1)) #[] #[],.pointer (some ⟨Bs,0,none⟩)],W1,?_,?_,?_,?_,fun _=>h1,?_⟩
  · rw [← vH]; exact run_enterLoop_outer _ _ _ _ _
  · subst oF; simp [resolve,go_sem]
  · intro f' vM; simp [Target.leads] at vM; subst vM; exact hV
  · have eg:∀ args w,(callFunc 204 args).run Tryz.prog w=.ok (.enter 204 args) w:=enters_of Tryz.func204 H0 rfl
    simp [invoke,go_sem,eg]
  · refine WG.mono ?_
    rintro e W2 ⟨⟨v0,rfl⟩,h2⟩
    obtain ⟨v,hv,TA,hnil⟩:=h2.box
    have PF:=run_endLoop (P:=Tryz.prog) h2.L (by simp [AnyZI.apRec])
    obtain ⟨W3,bI⟩:∃ W3,W2.putObj (W0.heap.size+1) (.loop {AnyZI.apRec renV fn sv w.heap.size W0.heap.size .ready none with state:=.exhausted })=W3:=⟨_,rfl⟩
    rw [bI] at PF
    have sM:W2.grownBy W3 (some (W0.heap.size+1)):=by rw [← bI]; exact grownBy_putObj_a _ _ _
    have CN:W3.heap[w.heap.size]?=some (.cells #[v] (renV.t 24) (0,0)):=by rw [← bI]; exact (World.putObj_heap_other n0).trans hv
    have RM:W3.heap[W0.heap.size]?=some (.deferred (some [])):=by rw [← bI]; exact (World.putObj_heap_other n0).trans h2.K
    have lG:=TA.kept sM (ownsRow_ne_a TA h2.L (fun cur e=>by first | cases e | exact Bu (Obj.cells.inj e).2.1))
    have uH:Below w.heap.size w W3:=h2.below.grown sM h2.below.size (fun k e=>by cases e; omega)
    obtain ⟨sH,MP⟩:=cell_of_box_a CN
    clear bI
    refine ⟨none,W3,PF,?_⟩
    gi_wp2
    rw [← FH]
    refine ⟨G0,.inl ⟨_,_,rfl,run_takeDeferred RM,?_⟩⟩
    exact ⟨_,results_tmp rfl _ _ _,v,rfl,lG.kept (grownBy_putObj_a _ _ _) (ownsRow_ne_a lG RM (fun cur e=>by first | cases e | exact Bu (Obj.cells.inj e).2.1)),uH.grown (grownBy_putObj_a _ _ _) uH.size (fun k e=>by cases e; omega)⟩
open Sx in
def cIv (n:Int):CS (rI .i64).s:=⟨[.int .i64 n],show [Value.int .i64 n].length=1 from rfl,fun v h=>by rw [Z2] at h; subst h; rfl⟩
open Sx Go.Maps Go.Sort in
theorem rC (x:List Int):cellsOf (x.map cIv)=x.map encZ:=by
  induction x with
  | nil=>rfl
  | cons z l ih=>
    rw [F7,F7,← ih]
    rfl
open Sx in
theorem sC (w:World) (X:Nat→Prop) (x:List Int):All2 w X (rI .i64) (x.map cIv) x:=by
  refine ⟨L8 _,fun i c y hc hy=>?_⟩
  rw [H7,hy] at hc
  obtain rfl:=P1 hc
  exact rfl
open Sx Go.Maps Go.Sort in
theorem eC {w0:World} {mu:List Fact} {rs:List Res} {w:World} {x1:List Int} {h1:Hdr} {b:Nat} {out:List Int} (hM:colV x1=some out) (q1:imm (rI .i64) h1.v x1∈mu) (nu:St w0 mu (box b 24 [h1.v]::rs) w):
    Calls Tryz.prog 224 #[hnil.v,.func (.func 204) #[] #[.pointer (some ⟨b,0,none⟩)]] w (fun e w=>∃ (h2:Hdr),e=.returned (h2.v)∧St w0 mu (row 3 (rI .i64) h2.v out::box b 24 [h1.v]::rs) w):=by
  unfold colV at hM
  split at hM
  · rename_i hlen
    obtain rfl:=P1 hM
    unfold BIG at hlen
    have zI:=nu.box_h (.head _)
    obtain ⟨AJ,_⟩:=cell_of_box_a zI
    have hlt:b < w.heap.size:=(yd.1 zI).1
    have Tu:∃ a cap,h1.v=.slice a x1.length cap∧x1.length≤maxLen∧(0 < x1.length→∃ b off,a=some ⟨b,off,none⟩∧b < w.heap.size∧∀ j,j < x1.length→w.cell? ⟨b,off+j,none⟩=some (.int .i64 (x1[j]?.getD 0))):=by
      obtain ⟨X,hX⟩:=nu
      obtain ⟨⟨a,cap,hv,hc,hm,hx⟩,_⟩:=hX.ro _ q1
      refine ⟨a,cap,hv,hm,fun bB=>?_⟩
      have Av:∀ j,j < x1.length→a=some (sAddr h1.v)∧w.cell? ((sAddr h1.v).add j)=some (.int .i64 (x1[j]?.getD 0)):=by
        intro j hj
        obtain ⟨ha,cs,hr,oy⟩:=hx j x1[j] (by simp [hj])
        obtain rfl:cs=[Value.int .i64 x1[j]]:=hr
        have:=oy 0 (.int .i64 x1[j]) rfl
        refine ⟨ha,?_⟩
        rw [show j*(rI IntKind.i64).s+0=j from by show j*1+0=j; omega] at this
        rw [this]; simp [hj]
      obtain ⟨ha,h0⟩:=Av 0 bB
      have KI:(sAddr h1.v).spot=none:=by
        have JG:w.cell? (sAddr h1.v)=some (.int .i64 (x1[0]?.getD 0)):=h0
        unfold World.cell? at JG
        split at JG
        · split at JG
          · cases JG
          · rename_i h; simpa using h
        · cases JG
      obtain ⟨bb,off,vO⟩:∃ bb off,sAddr h1.v=⟨bb,off,none⟩:=⟨_,_,by rw [← KI]⟩
      rw [vO] at Av ha
      refine ⟨bb,off,ha,?_,fun j hj=>?_⟩
      · have:=(Av 0 bB).2
        have:=World.block_lt_of_cell? w _ this
        exact this
      · have:=(Av j hj).2
        rwa [M7] at this
    obtain ⟨a,cap,hv,Ev,oy⟩:=Tu
    refine callsIn_wide.1 ((MC Fence.wide 2 trivial trivial rfl n0 b a x1.length cap x1 Ev n0 rfl w (by rw [← hv]; exact AJ) hlt oy).mono ?_)
    rintro e w' ⟨v,rfl,TA,hB⟩
    have AN:∃ h2:Hdr,v=h2.v:=by
      rcases TA.2 with ⟨rfl,_⟩ | ⟨g,c,cur,rfl,_⟩
      · exact ⟨hnil,rfl⟩
      · exact ⟨⟨_,_,_⟩,rfl⟩
    obtain ⟨h2,rfl⟩:=AN
    refine ⟨h2,rfl,nu.new ⟨hB.os,hB.tape,hB.output,hB.size,fun k hk _=>hB.block k hk⟩ fun X _ _=>⟨fun k=>h2.v.ownBlock=some k,?_,fun k hk=>(TA.lt k hk).1⟩⟩
    refine ⟨Ev,x1.map cIv,sC _ _ _,?_,fun _=>U8⟩
    · rw [rC]
      refine ⟨TA.1,?_⟩
      rcases TA.2 with h | ⟨g,c,cur,e1,e2,e3⟩
      · exact .inl h
      · exact .inr ⟨g,c,cur,e1,n8 _,e3⟩
  · cases hM
end Go.Proofs.YtoahkigijbeegaaGreatDoor
