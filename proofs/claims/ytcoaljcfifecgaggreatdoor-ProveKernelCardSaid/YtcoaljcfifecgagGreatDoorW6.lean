/- Walks: each function computes its model, printed. -/
import Derived.Test.YtcoaljcfifecgagGreatDoorW5
namespace Go.Proofs.YtcoaljcfifecgagGreatDoor
open Go Sx M Go.Proofs.Tryz
set_option maxRecDepth 100000
set_option maxHeartbeats 40000000
set_option linter.unusedVariables false
attribute [local irreducible] wpList Code.wp Calls DR QR QS LA LS St
variable {w0:World} {ros:List Fact} {rs:List Res} {w:World}
theorem matrix_Integers_ok {f h:Int} {V W X:LI} {k l j:Hdr} {out:(List (List (Bool×LI)))×Int×Int} (b:matrix_Integers f h V W X=some out) (Z:imm I1 k.v V∈ros) (a0:imm I1 l.v W∈ros) (r:imm (rI .u64) j.v X∈ros) (C:globF∈ros) (a:St w0 ros rs w):
  Calls prog 16 #[.agg #[iV f,iV h,k.v,l.v,j.v]] w (fun e w=>∃ (a1:Hdr) (a2:List Hdr),e=.returned (.tuple #[a1.v,iV out.2.1,iV out.2.2])∧St w0 ros (row 28 rH a1.v a2::fam 40 (rP rB (rS (rI .u32))) a2 out.1::rs) w):=by
 refine en func16 rfl ntmps16 fun Q J=>q 2 rfl (yb (r_box (vals:=[iV f,iV h,k.v,l.v,j.v]) a e0 rfl) fun o w a=>q 7 rfl (y (lbs_ [iV f,iV h,k.v,l.v,j.v] ST_26 e0 a R0) (bE b fun e7 b8 b=>cZ (matrix_Check_ok b8 Z a0 r a) fun w a=>q 12 rfl ?_)))
 refine cIn b (fun c0 b=>?_) fun c0 b=>?_
 ·refine q 3 rfl (y (lb_ (iV f) O_3 e0 a R0) (q 2 rfl ?_))
  refine jW 4 [1,3] [(27,.bool ((decide ((16:Int) < f)) || (decide ((16:Int) < h))))] (St w0 ros (box o 26 [iV f,iV h,k.v,l.v,j.v]::rs)) rfl (fun a3=>?_) ?_
  ·refine gB 23 rfl (fun K=>?_) fun K=>?_
   ·exact q 4 rfl (a3 _ _ a (hasC (congrArg Value.bool (orT K)) rfl))
   ·exact q 1 rfl (y (lb_ (iV h) O_3 e0 a R0) (q 2 rfl (a3 _ _ a (hasC (congrArg Value.bool (orF K)) rfl))))
  intro g w a
  refine q 3 rfl ?_
  refine cJ b (fun c1 b=>?_) fun c1 b=>?_
  ·refine q 10 rfl ?_
   cases b
   replace a:=((a.rowNh 28 rH).fNew 40 (rP rB (rS (rI .u32)))).k10
   exact J _ _ _ (fin3r results16 ⟨rfl,rfl⟩ ⟨rfl,rfl⟩ ⟨rfl,rfl⟩ ⟨_,_,rfl,(a.k2e)⟩)
  ·refine q 12 rfl (y (lb_ j.v O_24 e0 a R0) (y (yLen SL_24 e0 a (rdI r)) (bE b fun a4 c2 b=>q 4 rfl ?_)))
   refine lp c2 [1,29,30] (fun (s,t,D)=>[(3,iV s),(5,.bool t),(31,iV D)]) (fun (s,t,D)=>St w0 ros (box o 26 [iV f,iV h,k.v,l.v,j.v]::rs)) (fun | a4=>(.exit 1,[(3,iV a4)],St w0 ros (box o 26 [iV f,iV h,k.v,l.v,j.v]::rs))) rfl a rfl ?_ ?_
   ·clear a
    intro g w a
    refine q 5 rfl (y (lb_ (iV f) O_3 e0 a R0) (bE b fun e8 c3 b=>?_))
    obtain ⟨c4,em49,c5⟩:=mkL_rep c3 hnil
    refine yh (rMk a SLH_32 e0 c5) fun x w a=>?_
    replace a:=(a.fReps 40 (rP rB (rS (rI .u32))) c4).k10
    rw [← em49] at a
    refine q 7 rfl (y (yLenF SLH_32 e0 a rO0 R1) (bE b fun a5 c6 b=>q 4 rfl ?_))
    refine lpN (List Hdr) (List Hdr) c6 [1,2,3,56] (fun (L,N) E=>[(57,iV N)]) (fun (L,N) E=>St w0 ros (box o 26 [iV f,iV h,k.v,l.v,j.v]::row 28 rH x.v E::fam 40 (rP rB (rS (rI .u32))) E L::rs)) (fun | a5,m=>(.exit 3,[],St w0 ros (box o 26 [iV f,iV h,k.v,l.v,j.v]::row 28 rH x.v m::fam 40 (rP rB (rS (rI .u32))) m a5::rs))) rfl _ (a.k16) rfl ?_ ?_
    ·clear a
     rintro m g w a
     refine q 5 rfl (y (lbs_ [iV f,iV h,k.v,l.v,j.v] ST_26 e0 a R0) (bE b fun a6 c7 b=>cO (matrix_entries_ok c7 Z a0 r a) fun a7 w a=>y (yLen SL_82 e0 a rO0) (bE b fun a8 c8 b=>q 4 rfl ?_)))
     refine lp c8 [2,3,68,69] (fun (O,F)=>[(70,iV F)]) (fun (O,F)=>St w0 ros (row 28 rH x.v m::fam 40 (rP rB (rS (rI .u32))) m O::row 85 rTi64i64u64 a7.v a6::rs)) (fun | a8=>(.exit 5,[],St w0 ros (row 28 rH x.v m::fam 40 (rP rB (rS (rI .u32))) m a8::rs))) rfl (a.k1j) rfl ?_ ?_
     ·clear a
      intro g w a
      refine q 12 rfl ?_
      cases b
      exact J _ _ _ (fin3r results16 ⟨rfl,rfl⟩ ⟨rfl,rfl⟩ ⟨rfl,rfl⟩ ⟨_,_,rfl,a⟩)
     rintro ⟨O,F⟩ g w c9 a c
     refine q 6 rfl (cI c (fun d0 c=>?_) fun d0 c=>?_)
     ·refine q 6 rfl (bE c fun z a9 c=>y (yIa SL_82 e0 e0 a rO2 a9) (y (yFn ST_85 e0 a rO2 a9 rfl) (yb (rAl a ZT_85) fun e9 w a=>sB rfl a ST_85 fun w a=>q 5 rfl (y (lb_ (.int .u64 z.2.2) O_47 e0 a R0) (bE c fun A d1 c=>cO (float_Of_ok d1 C a) fun b0 w a=>yb (rAl a ZT_53) fun f0 w a=>?_)))))
      refine sB rfl a ST_53 fun w a=>q 4 rfl (y (lbs_ [.bool A.1,.bool A.2.1,b0.v,iV A.2.2.2] ST_53 e0 a R0) (bE c fun f1 d2 c=>cZ (dyad_Sign_ok d2 F0 (mtF C) a) fun w a=>q 3 rfl ?_))
      refine jC (List (List (Bool×LI))) [2,3,68,69,70] (fun G=>[]) (fun G w=>St w0 ros (row 28 rH x.v m::fam 40 (rP rB (rS (rI .u32))) m G::row 85 rTi64i64u64 a7.v a6::rs) w∧matrix_Integers_j13 F G=some c9) rfl ?_ ?_
      ·rintro G g w ⟨a,b⟩
       refine q 6 rfl ?_
       cases b
       exact lo a
      refine cIn c (fun d3 c=>?_) fun d3 c=>?_
      ·exact q 1 rfl (jx _ ⟨((a.k2d).fc),c⟩)
      ·refine bE c fun f2 R c=>bE c fun d4 d5 c=>bE c fun f3 b1 c=>bE c fun f4 d6 c=>dR [0,0,2,7,15,0,32,0,128,0,512,0,3584,8064,16256,32640,32640,65535,196607] [13,18] 2 folM ?_
       replace a:=a.drew
       refine D1 [0,1,2,3,4,5,6,7,8,9,10,11,12] [] 13 rfl (qR 2 rfl (rQ rfl (lb_ (iV z.1) O_3 e0 a R1) ?_))
       obtain ⟨f5,p⟩:=a.famI R3 R
       refine rQ rfl (yIa SLH_32 e0 e0 a rO2 p) (rQ rfl (yF1 O_28 e0 a rO2 p rfl) (qR 1 rfl (rQ rfl (lb_ (iV z.2.1) O_3 e0 a R1) (qR 1 rfl (rQ rfl (lbs_ [.bool A.2.1,b0.v] ST_40 e0 a R0) (qR 1 rfl (rQ rfl (lb_ (iV A.2.2.2) O_3 e0 a R0) (qR 2 rfl (Rn QSn (kO (integer_Shift_ok d5 F0 a) fun d7 w a=>dU (D0 [14,15,16,17] [0,1,2,3,4,5,6] 18 rfl (qR 3 rfl ?_))))))))))))
       refine rQ rfl (yIs SL_28 e0 e0 a (rdF R3 p R) b1) (Rn (qS rfl (qS rfl (sY rfl (lb_ (iV z.1) O_3 e0 a R1) (sY rfl (yIa SLH_32 e0 e0 a rO2 p) (sY rfl (yF1 O_28 e0 a rO2 p rfl) (qS rfl (sY rfl (lb_ (iV z.2.1) O_3 e0 a R1) QSn))))))) ?_)
       replace a:=a.k1d
       refine LT wn (r_stn (cs:=[.bool d4.1,d7.v]) (a.foc p R) ST_40 e0 e0 rfl (mkP mkB (mkS F0)) b1) fun w a=>?_
       replace a:=a.unfoc' p d6
       exact Dz [] [16] (Rn (qS rfl QSn) (qx 0 rfl (jx _ ⟨((a.k2f).fc),c⟩)))
     ·refine q 2 rfl ?_
      cases c
      exact xo (a.k2e)
    rintro ⟨L,N⟩ E g w f6 a n
    refine q 6 rfl (cI n (fun d8 n=>?_) fun d8 n=>?_)
    ·refine q 14 rfl (y (lb_ (iV h) O_3 e0 a R0) (bE n fun f7 d9 n=>yh (rMk a SL_28 e0 d9) fun b2 w a=>bE n fun f8 b3 n=>?_))
     obtain ⟨f9,S⟩:=setI_len (u:=b2) b3 (a.famL (mtR (mtR (mtR mhR))))
     refine y (yIs SLH_32 e0 e0 a rO2 S) ?_
     replace a:=a.k16
     refine yt (r_sti (cs:=[b2.v]) a O_28 rfl e0 e0 rfl (mkF rfl) S) fun w a=>?_
     replace a:=(a.k2g).fput S b3
     refine q 7 rfl ?_
     cases n
     exact ln _ (a.k18)
    ·refine q 2 rfl ?_
     cases n
     exact lx _ a
   rintro ⟨s,t,D⟩ g w e1 a i
   refine q 6 rfl (cI i (fun e2 i=>?_) fun e2 i=>?_)
   ·refine q 6 rfl (bE i fun g0 b4 i=>y (yIa SL_24 e0 e0 a (rdI r) b4) (y (yI O_47 e0 a (rdI r) b4) (bE i fun d e3 i=>q 6 rfl (cO (float_Of_ok e3 C a) fun B w a=>yb (rAl a ZT_53) fun b5 w a=>sB rfl a ST_53 fun w a=>q 4 rfl (y (lbs_ [.bool d.1,.bool d.2.1,B.v,iV d.2.2.2] ST_53 e0 a R0) (bE i fun e4 e5 i=>?_))))))
    refine cZ (dyad_Sign_ok e5 F0 (mtF C) a) fun w a=>q 2 rfl ?_
    refine jW 8 [1,3,5,8,29,30,31] [(48,.bool ((!(decide (e4=0))) && (t || (decide (d.2.2.2 < s)))))] (St w0 (imm (rI .u32) B.v d.2.2.1::ros) (box o 26 [iV f,iV h,k.v,l.v,j.v]::box b5 53 [.bool d.1,.bool d.2.1,B.v,iV d.2.2.2]::rs)) rfl (fun b6=>?_) ?_
    ·refine gB 40 rfl (fun T=>?_) fun T=>?_
     ·refine q 2 rfl ?_
      refine jW 5 [1,3,5,8,29,30,31,40] [(47,.bool (t || (decide (d.2.2.2 < s))))] (St w0 (imm (rI .u32) B.v d.2.2.1::ros) (box o 26 [iV f,iV h,k.v,l.v,j.v]::box b5 53 [.bool d.1,.bool d.2.1,B.v,iV d.2.2.2]::rs)) rfl (fun b7=>?_) ?_
      ·refine gB 42 rfl (fun U=>?_) fun U=>?_
       ·exact q 5 rfl (b7 _ _ (a.k10) (hasC (congrArg Value.bool (orT U)) rfl))
       ·exact q 1 rfl (y (lb_ (iV d.2.2.2) O_3 e0 a R0) (q 3 rfl (b7 _ _ (a.k10) (hasC (congrArg Value.bool (orF U)) rfl))))
      intro g w a
      exact q 1 rfl (b6 _ _ a (hasC (congrArg Value.bool (andT T)) rfl))
     ·exact q 8 rfl (b6 _ _ (a.k10) (hasC (congrArg Value.bool (andF T)) rfl))
    intro g w a
    refine q 2 rfl ?_
    refine jC (Int×Bool) [1,29,30,31] (fun (H,I)=>[(3,iV H),(5,.bool I)]) (fun (H,I) w=>St w0 ros (box o 26 [iV f,iV h,k.v,l.v,j.v]::rs) w∧matrix_Integers_j17 D H I=some e1) rfl ?_ ?_
    ·rintro ⟨H,I⟩ g w ⟨a,b⟩
     refine q 6 rfl ?_
     cases b
     exact lo a
    refine cJ i (fun e6 i=>?_) fun e6 i=>?_
    ·refine dR [0,1,0,7] [2,3] 2 folM ?_
     replace a:=a.drew
     exact D1 [0,1] [] 2 rfl (qR 1 rfl (rQ rfl (lb_ (iV d.2.2.2) O_3 e0 a R1) (Rn QSn (Ly wn (a_ (.bool false) rfl) (dU (D1 [] [0,1] 3 rfl (Rn (qS rfl (sY rfl (lb_ (iV d.2.2.2) O_3 e0 a R1) QSn)) (Ly wn (a_ (iV d.2.2.2) e0) (dU (Dz [] [] (Rn QSn (qx 0 rfl (jx (_,_) ⟨((a.k11).fc),i⟩)))))))))))))
    ·exact q 1 rfl (jx (_,_) ⟨((a.k11).fc),i⟩)
   ·refine q 2 rfl ?_
    cases i
    exact xo a
 ·refine q 11 rfl ?_
  cases b
  replace a:=((a.rowNh 28 rH).fNew 40 (rP rB (rS (rI .u32)))).k10
  exact J _ _ _ (fin3r results16 ⟨rfl,rfl⟩ ⟨rfl,rfl⟩ ⟨rfl,rfl⟩ ⟨_,_,rfl,(a.k2e)⟩)
theorem prove_columns_ok {m:List (List (Bool×LI))} {c:Int} {o:Hdr} {out:(List (List (Bool×LI)))} (f:prove_columns m c=some out) (h:imm (rS (rP rB (rS (rI .u32)))) o.v m∈ros) (a:St w0 ros rs w):
  Calls prog 94 #[o.v,iV c] w (fun e w=>∃ (p:Hdr),e=.returned (p.v)∧St w0 ros (row 28 (rS (rP rB (rS (rI .u32)))) p.v out::rs) w):=by
 refine en func94 rfl ntmps94 fun Q x=>q 14 rfl (y (yLen SL_32 e0 a (rdI h)) (bE f fun r z f=>q 4 rfl ?_))
 replace a:=a.rowNh 28 (rS (rP rB (rS (rI .u32))))
 refine lpN Hdr Hdr z [1,8,9] (fun (i,j) d=>[(5,d.v),(10,iV j)]) (fun (i,j) d=>St w0 ros (row 28 (rS (rP rB (rS (rI .u32)))) d.v i::rs)) (fun | r,k=>(.exit 0,[(5,k.v)],St w0 ros (row 28 (rS (rP rB (rS (rI .u32)))) k.v r::rs))) rfl _ a rfl ?_ ?_
 ·clear a
  rintro k g w a
  refine q 9 rfl ?_
  cases f
  exact x _ _ _ (fin1r results94 ⟨rfl,rfl⟩ ⟨_,rfl,a⟩)
 rintro ⟨i,j⟩ d g w D a b
 refine q 6 rfl (cI b (fun A b=>?_) fun A b=>?_)
 ·refine q 6 rfl (bE b fun E s b=>y (yIa SL_32 e0 e0 a (rdI h) s) ?_)
  obtain ⟨t,a⟩:=iLs a h s
  refine y (yCt O_28 e0 a F1 rfl) (bE b fun B u b=>q 7 rfl (y (ySl (k1:=.i64) SL_28 e0 a (rdI F0) (.inr ⟨rfl,rfl⟩) (.inl (congrArg some e0)) u) ?_))
  replace a:=a.sub F0 u
  refine yh (rLt (n:=1) (l:=[B]) a SL_32 [(subH t 2 0 c).v] (bp1 e0) rfl rfl (mks1 (cs:=[(subH t 2 0 c).v]) rfl (mkS F0) mks0)) fun F w a=>bE b fun G C b=>?_
  replace a:=a.k10
  refine yh (rAp a SL_32 e0 e0 rO1 C) fun H w a=>q 8 rfl ?_
  cases b
  exact ln _ ((a.k11).fc)
 ·refine q 2 rfl ?_
  cases b
  exact lx _ a
theorem exact_columns_ok {d:List (List (Bool×LI))} {f:Hdr} {out:Int} (b:exact_columns d=some out) (c:imm (rS (rP rB (rS (rI .u32)))) f.v d∈ros) (a:St w0 ros rs w):
  Calls prog 96 #[f.v] w (fun e w=>e=.returned (iV out)∧St w0 ros rs w):=by
 refine en func96 rfl ntmps96 fun Q g=>q 9 rfl (y (yLen SL_32 e0 a (rdI c)) (q 3 rfl (cI b (fun i b=>?_) fun i b=>?_)))
 ·refine q 7 rfl ?_
  cases b
  exact za g results96 ⟨rfl,a⟩
 ·refine q 5 rfl (bE b fun j h b=>y (yIa SL_32 e0 rfl a (rdI c) h) ?_)
  obtain ⟨k,a⟩:=iLs a c h
  refine y (yCt O_28 e0 a F1 rfl) (y (yLen SL_28 e0 a (rdI F0)) (q 4 rfl ?_))
  cases b
  exact za g results96 ⟨rfl,(a.fc)⟩
theorem exact_check_1_ok {d:List (Bool×LI)} {a:Int} {f:Hdr} {b:Nat} {out:Bool} (g:exact_check_1 d a=some out) (h:imm (rP rB (rS (rI .u32))) f.v d∈ros) (c:St w0 ros (box b 3 [iV a]::rs) w):
  Calls prog 134 #[f.v,(pB b)] w (fun e w=>e=.returned (.bool out)∧St w0 ros (box b 3 [iV a]::rs) w):=by
 refine en func134 rfl ntmps134 fun Q i=>q 8 rfl (y (yLen SL_28 e0 c (rdI h)) (y (lb_ (iV a) O_3 e0 c R0) (q 5 rfl ?_)))
 cases g
 exact za i results134 ⟨rfl,c⟩
theorem slices_IndexFunc_apiBig_ok {j:List (List (Bool×LI))} {c:Int} {k:Hdr} {d:Nat} {out:Int} (f:slices_IndexFunc_apiBig j c=some out) (h:imm (rS (rP rB (rS (rI .u32)))) k.v j∈ros) (a:St w0 ros (box d 3 [iV c]::rs) w):
  Calls prog 154 #[k.v,.func (.func 134) #[] #[(pB d)]] w (fun e w=>e=.returned (iV out)∧St w0 ros (box d 3 [iV c]::rs) w):=by
 refine en func154 rfl ntmps154 fun Q l=>q 9 rfl (y (yLen SL_32 e0 a (rdI h)) (bE f fun o p f=>q 4 rfl ?_))
 refine lp p [0,1,7] (fun i=>[(8,iV i)]) (fun i=>St w0 ros (box d 3 [iV c]::rs)) (fun | .inl ()=>(.exit 0,[],St w0 ros (box d 3 [iV c]::rs)) | .inr m=>(.ret,[(4,iV m)],St w0 ros (box d 3 [iV c]::rs))) rfl a rfl ?_ ?_
 ·clear a
  intro g w a
  rcases o with ⟨⟩ | m
  ·refine q 8 rfl ?_
   cases f
   exact za l results154 ⟨rfl,a⟩
  ·refine q 2 rfl ?_
   cases f
   exact za l results154 ⟨rfl,a⟩
 rintro i g w u a b
 refine q 6 rfl (cI b (fun r b=>?_) fun r b=>?_)
 ·refine q 15 rfl (bE b fun x n b=>y (yIa SL_32 e0 e0 a (rdI h) n) ?_)
  obtain ⟨z,a⟩:=iLs a h n
  refine y (yCt O_28 e0 a F1 rfl) (bE b fun A s b=>yC (yCallw FN_134 e0 (a1 e0)) (exact_check_1_ok s F0 a) ?_)
  rintro _ w ⟨rfl,a⟩
  refine ⟨_,rfl,?_⟩
  refine nf (q 2 rfl ?_)
  refine cJ b (fun t b=>?_) fun t b=>?_
  ·refine q 9 rfl ?_
   cases b
   exact xo (a.fc)
  ·refine q 7 rfl ?_
   cases b
   exact lo (a.fc)
 ·refine q 2 rfl ?_
  cases b
  exact xo a
theorem slices_ContainsFunc_apiBig_ok {f:List (List (Bool×LI))} {a:Int} {g:Hdr} {b:Nat} {out:Bool} (c:slices_ContainsFunc_apiBig f a=some out) (h:imm (rS (rP rB (rS (rI .u32)))) g.v f∈ros) (d:St w0 ros (box b 3 [iV a]::rs) w):
  Calls prog 133 #[g.v,.func (.func 134) #[] #[(pB b)]] w (fun e w=>e=.returned (.bool out)∧St w0 ros (box b 3 [iV a]::rs) w):=by
 refine en func133 rfl ntmps133 fun Q i=>bE c fun k j c=>q 9 rfl (cZ (slices_IndexFunc_apiBig_ok j h d) fun w d=>q 5 rfl ?_)
 cases c
 exact za i results133 ⟨rfl,d⟩
theorem exact_check_ok {c:List (List (Bool×LI))} {j:Hdr} {out:Int} (b:exact_check c=some out) (d:imm (rS (rP rB (rS (rI .u32)))) j.v c∈ros) (a:St w0 ros rs w):
  Calls prog 95 #[j.v] w (fun e w=>e=.returned (iV out)∧St w0 ros rs w):=by
 refine en func95 rfl ntmps95 fun Q f=>bE b fun h l b=>q 8 rfl (cZ (exact_columns_ok l d a) fun w a=>yb (rAl a ZT_3) fun m w a=>yt (r_stb1 (vals':=[iV h]) a O_3 e0 e0 rfl rfl rfl rfl) fun w a=>q 7 rfl (y (ymf (vf:=#[]) (vc:=#[(pB m)]) a0 (a1 e0)) (bE b fun r n b=>cZ (slices_ContainsFunc_apiBig_ok n d a) fun w a=>q 3 rfl ?_)))
 refine cJ b (fun o b=>?_) fun o b=>?_
 ·refine q 8 rfl ?_
  cases b
  exact za f results95 ⟨rfl,(a.k14)⟩
 ·refine q 3 rfl (y (yLen SL_32 e0 a (rdI d)) (q 2 rfl ?_))
  refine jW 3 [] [(17,.bool ((decide ((16:Int) < (c.length:Int))) || (decide ((16:Int) < h))))] (St w0 ros rs) rfl (fun k=>?_) ?_
  ·refine gB 14 rfl (fun i=>?_) fun i=>?_
   ·exact q 3 rfl (k _ _ (a.k14) (hasC (congrArg Value.bool (orT i)) rfl))
   ·exact y (lb_ (iV h) O_3 e0 a R0) (q 2 rfl (k _ _ (a.k14) (hasC (congrArg Value.bool (orF i)) rfl)))
  intro g w a
  refine q 3 rfl ?_
  refine cJ b (fun p b=>?_) fun p b=>?_
  ·refine q 8 rfl ?_
   cases b
   exact za f results95 ⟨rfl,a⟩
  ·refine q 9 rfl ?_
   cases b
   exact za f results95 ⟨rfl,a⟩
theorem exact_twin_ok {C:List (List (Bool×LI))} {D:List (Bool×LI)} {E F:Hdr} {out:(List (List (Bool×LI)))} (f:exact_twin C D=some out) (s:imm (rS (rP rB (rS (rI .u32)))) E.v C∈ros) (t:imm (rP rB (rS (rI .u32))) F.v D∈ros) (a:St w0 ros rs w):
  Calls prog 98 #[E.v,F.v] w (fun e w=>∃ (G:Hdr) (H:List Hdr),e=.returned (G.v)∧St w0 ros (row 28 rH G.v H::fam 40 (rP rB (rS (rI .u32))) H out::rs) w):=by
 refine en func98 rfl ntmps98 fun Q V=>q 14 rfl (y (yLen SL_32 e0 a (rdI s)) (bE f fun I W f=>q 4 rfl ?_))
 replace a:=((a.rowNh 28 rH).fNew 40 (rP rB (rS (rI .u32)))).k10
 refine lpN (Hdr×(List Hdr)) (Hdr×(List Hdr)) W [1,11,12] (fun (h,m) (i,d)=>[(5,i.v),(13,iV m)]) (fun (h,m) (i,d)=>St w0 ros (row 28 rH i.v d::fam 40 (rP rB (rS (rI .u32))) d h::rs)) (fun | I,(u,x)=>(.exit 0,[(5,u.v)],St w0 ros (row 28 rH u.v x::fam 40 (rP rB (rS (rI .u32))) x I::rs))) rfl (_,_) a rfl ?_ ?_
 ·clear a
  rintro ⟨u,x⟩ g w a
  refine q 9 rfl ?_
  cases f
  exact V _ _ _ (fin1r results98 ⟨rfl,rfl⟩ ⟨_,_,rfl,a⟩)
 rintro ⟨h,m⟩ ⟨i,d⟩ g w X a b
 refine q 6 rfl (cI b (fun Z b=>?_) fun Z b=>?_)
 ·refine q 7 rfl (bE b fun a0 J b=>y (yIa SL_32 e0 e0 a (rdI s) J) ?_)
  obtain ⟨a1,a⟩:=iLs a s J
  refine y (yCt O_28 e0 a F1 rfl) (q 13 rfl (y (yLen SL_28 e0 a (rdI F0)) (bE b fun K a2 b=>q 4 rfl ?_)))
  replace a:=a.rowNh 40 (rP rB (rS (rI .u32)))
  refine lpN Hdr Hdr a2 [1,5,6,11,12,13,18,19] (fun (z,A) o=>[(8,o.v),(20,iV A)]) (fun (z,A) o=>St w0 (imm (rP rB (rS (rI .u32))) a1.v a0::ros) (row 28 rH i.v d::fam 40 (rP rB (rS (rI .u32))) d h::row 40 (rP rB (rS (rI .u32))) o.v z::rs)) (fun | K,B=>(.exit 2,[(8,B.v)],St w0 ros (row 28 rH i.v d::fam 40 (rP rB (rS (rI .u32))) d h::row 40 (rP rB (rS (rI .u32))) B.v K::rs))) rfl _ ((a.k1f).facts (allC F0 (allT (allT allI)))) rfl ?_ ?_
  ·clear a
   rintro B g w a
   refine q 7 rfl (y (yLen SL_28 e0 a (rdI t)) (q 3 rfl ?_))
   refine jC ((List (Bool×LI))×Hdr) [1,5,11,12,13] (fun (k,j)=>[(8,j.v)]) (fun (k,j) w=>St w0 ros (row 28 rH i.v d::fam 40 (rP rB (rS (rI .u32))) d h::row 40 (rP rB (rS (rI .u32))) j.v k::rs) w∧exact_twin_j7 h m k=some X) rfl ?_ ?_
   ·rintro ⟨k,j⟩ g w ⟨a,f⟩
    refine q 4 rfl (yh (rLt (n:=1) (l:=[j]) a SLH_32 [j.v] (bp1 e0) rfl rfl (mks1 rfl (mkF rfl) mks0)) fun b2 w a=>bE f fun b3 L f=>?_)
    replace a:=a.k10
    obtain ⟨b4,ey217,a3⟩:=app_rep L (a.famL R2) (show [j].length=[k].length from rfl)
    refine yh (rAp a SLH_32 e0 e0 rO1 a3) fun b5 w a=>?_
    replace a:=(a.k1h).fPush
    rw [← ey217,← (app_some L).1] at a
    refine q 8 rfl ?_
    cases f
    exact ln (_,_) (a.k1i)
   refine cI b (fun a4 b=>?_) fun a4 b=>?_
   ·refine q 4 rfl (bE b fun a5 N b=>y (yIa SL_28 e0 e0 a (rdI t) N) ?_)
    obtain ⟨b6,b7,a⟩:=iLd a t N
    obtain ⟨b8,b9,rfl,a⟩:=a.eltP
    obtain ⟨rfl,a⟩:=a.eltB
    obtain ⟨a6,rfl,a⟩:=a.eltS
    refine y (yCtn (cs:=[.bool a5.1,a6.v]) ST_40 rfl e0 a F1) (bE b fun p a7 b=>cO (integer_Norm_ok a7 F0 a) fun O w a=>yh (rLt (n:=1) (l:=[(p.1,p.2)]) a SL_28 [.agg #[.bool p.1,O.v]] (bp1 e0) rfl rfl (mks1 (cs:=[.bool p.1,O.v]) rfl (mkP mkB (mkS F0)) mks0)) fun c0 w a=>bE b fun c1 a8 b=>?_)
    replace a:=a.k1d
    exact yh (rAp a SL_28 e0 e0 rO1 a8) fun c2 w a=>q 2 rfl (jx (_,_) ⟨((a.k1j).fc),b⟩)
   ·exact q 1 rfl (jx (_,_) ⟨a,b⟩)
  rintro ⟨z,A⟩ o g w c3 a c
  refine q 6 rfl (cI c (fun a9 c=>?_) fun a9 c=>?_)
  ·refine q 6 rfl (bE c fun R S c=>y (yIa SL_28 e0 e0 a (rdI F0) S) ?_)
   obtain ⟨c4,c5,a⟩:=iLd a F0 S
   obtain ⟨c6,c7,rfl,a⟩:=a.eltP
   obtain ⟨rfl,a⟩:=a.eltB
   obtain ⟨T,rfl,a⟩:=a.eltS
   refine y (yCtn (cs:=[.bool R.1,T.v]) ST_40 rfl e0 a F1) (yb (rAl a ZT_40) fun c8 w a=>sB rfl a ST_40 fun w a=>q 4 rfl (y (lbs_ [.bool R.1,T.v] ST_40 e0 a R0) (bE c fun r b0 c=>cO (integer_Norm_ok b0 F0 a) fun U w a=>yh (rLt (n:=1) (l:=[(r.1,r.2)]) a SL_28 [.agg #[.bool r.1,U.v]] (bp1 e0) rfl rfl (mks1 (cs:=[.bool r.1,U.v]) rfl (mkP mkB (mkS F0)) mks0)) fun c9 w a=>bE c fun d0 b1 c=>?_)))
   replace a:=a.k1e
   refine yh (rAp a SL_28 e0 e0 rO1 b1) fun d1 w a=>q 8 rfl ?_
   cases c
   exact ln _ ((a.k2h).facts (allC F3 (allT (allT (allT (allT allI))))))
  ·refine q 2 rfl ?_
   cases c
   exact lx _ (a.fc)
 ·refine q 2 rfl ?_
  cases b
  exact lx (_,_) a
theorem integer_times_ok {k l:LI} {t u:Hdr} {out:LI} (b:integer_times k l=some out) (h:imm (rI .u32) t.v k∈ros) (f:imm (rI .u32) u.v l∈ros) (a:St w0 ros rs w):
  Calls prog 148 #[t.v,u.v] w (fun e w=>∃ (x:Hdr),e=.returned (x.v)∧St w0 (imm (rI .u32) x.v out::ros) rs w):=by
 refine en func148 rfl ntmps148 fun Q z=>q 9 rfl (y (yLen SL_38 e0 a (rdI h)) (q 2 rfl ?_))
 refine jW 4 [0,1] [(19,.bool ((decide ((k.length:Int)=0)) || (decide ((l.length:Int)=0))))] (St w0 ros rs) rfl (fun A=>?_) ?_
 ·refine gB 15 rfl (fun m=>?_) fun m=>?_
  ·exact q 4 rfl (A _ _ a (hasC (congrArg Value.bool (orT m)) rfl))
  ·exact q 1 rfl (y (yLen SL_38 e0 a (rdI f)) (q 2 rfl (A _ _ a (hasC (congrArg Value.bool (orF m)) rfl))))
 intro g w a
 refine q 2 rfl ?_
 refine cJ b (fun I b=>?_) fun I b=>?_
 ·refine q 7 rfl ?_
  cases b
  replace a:=a.immNh (rI .u32)
  exact z _ _ _ (fin1r results148 ⟨rfl,rfl⟩ ⟨_,rfl,a⟩)
 ·refine q 5 rfl (y (yLen SL_38 e0 a (rdI h)) (q 1 rfl (y (yLen SL_38 e0 a (rdI f)) (bE b fun V J b=>q 1 rfl (yh (rMk a SL_38 e0 J) fun i w a=>q 7 rfl (y (yLen SL_38 e0 a (rdI h)) (bE b fun B K b=>q 4 rfl ?_)))))))
  refine lp K [1,5,26,27] (fun (n,o)=>[(28,iV o)]) (fun (n,o)=>St w0 ros (row 96 (rI .u32) i.v n::rs)) (fun | B=>(.exit 0,[],St w0 ros (row 96 (rI .u32) i.v B::rs))) rfl a rfl ?_ ?_
  ·clear a
   intro g w a
   refine bE b fun W L b=>q 5 rfl ?_
   replace a:=a.fz
   refine cO (integer_trim_ok L F0 a) fun X w a=>q 4 rfl ?_
   cases b
   exact z _ _ _ (fin1r results148 ⟨rfl,rfl⟩ ⟨_,rfl,(a.facts (allC F0 (allT (allT allI))))⟩)
  rintro ⟨n,o⟩ g w Z a c
  refine q 6 rfl (cI c (fun N c=>?_) fun N c=>?_)
  ·refine q 7 rfl (bE c fun O C c=>y (yIa SL_38 e0 e0 a (rdI h) C) (y (yI O_96 e0 a (rdI h) C) (q 13 rfl (y (yLen SL_38 e0 a (rdI f)) (q 4 rfl ?_)))))
   obtain ⟨⟨D,p⟩,R,c⟩:=bs c
   refine lp R [1,5,6,7,26,27,28,33,34] (fun (r,j,s)=>[(8,.int .u64 j),(35,iV s)]) (fun (r,j,s)=>St w0 ros (row 96 (rI .u32) i.v r::rs)) (fun | (D,p)=>(.exit 2,[(8,.int .u64 p)],St w0 ros (row 96 (rI .u32) i.v D::rs))) rfl a rfl ?_ ?_
   ·clear a
    intro g w a
    refine q 6 rfl (y (yLen SL_38 e0 a (rdI f)) (bE c fun a0 E c=>q 3 rfl (y (yIs SL_38 e0 e0 a rO0 E) (yt (r_sti (cs:=[.int .u32 (wc .u32 p)]) a O_96 rfl e0 e0 rfl mkI E) fun w a=>q 7 rfl ?_))))
    cases c
    exact lo a
   rintro ⟨r,j,s⟩ g w a1 a d
   refine q 6 rfl (cI d (fun S d=>?_) fun S d=>?_)
   ·refine q 7 rfl (bE d fun T F d=>y (yIa SL_38 e0 e0 a (rdI f) F) (y (yI O_96 e0 a (rdI f) F) (bE d fun U G d=>q 15 rfl (y (yIa SL_38 e0 e0 a rO0 G) (y (yI O_96 e0 a rO0 G) (bE d fun a2 H d=>q 16 rfl (y (yIs SL_38 e0 e0 a rO0 H) (yt (r_sti (cs:=[.int .u32 (wc .u32 (wand .u64 (wa .u64 (wa .u64 (wm .u64 (wc .u64 O) (wc .u64 T)) (wc .u64 U)) j) 4294967295))]) a O_96 rfl e0 e0 rfl mkI H) fun w a=>q 13 rfl ?_))))))))
    cases d
    exact lo a
   ·refine q 2 rfl ?_
    cases d
    exact xo a
  ·refine q 2 rfl ?_
   cases c
   exact xo a
theorem integer_Mul_ok {c:Bool} {h:LI} {d:Bool} {i:LI} {g f:Hdr} {out:Bool×LI} (b:integer_Mul c h d i=some out) (m:imm (rI .u32) g.v h∈ros) (n:imm (rI .u32) f.v i∈ros) (a:St w0 ros rs w):
  Calls prog 115 #[.agg #[.bool c,g.v],.agg #[.bool d,f.v]] w (fun e w=>∃ (j:Hdr),e=.returned (.agg #[.bool out.1,j.v])∧St w0 (imm (rI .u32) j.v out.2::ros) rs w):=by
 refine en func115 rfl ntmps115 fun Q o=>q 2 rfl (yb (r_box (vals:=[.bool c,g.v]) a e0 rfl) fun u w a=>yb (r_box (vals:=[.bool d,f.v]) a e0 rfl) fun x w a=>yb (rAl a ZT_40) fun y w a=>bE b fun z p b=>bE b fun A r b=>bE b fun B s b=>bE b fun k t b=>q 3 rfl (dR [0,1,0,4,15,0,32,96,0,256,992,2016,4095,8191] [7,10,11,12,13] 5 folM ?_))
 replace a:=a.drew
 refine D1 [0,1,2,3,4,5,6,8,9] [] 7 rfl (qR 1 rfl (rQ rfl (lb_ (.bool c) O_4 e0 a R2) (qR 1 rfl (rQ rfl (lb_ (.bool d) O_4 e0 a R1) (rQ rfl (yneb (by kernel_rfl) e0 e0) (qR 1 rfl (rQ rfl (lb_ g.v O_38 e0 a R2) (qR 1 rfl (rQ rfl (lb_ f.v O_38 e0 a R1) (Rn QSn (kO (integer_trim_ok p m a) fun C w a=>dU (D1 [] [0,1,2,3,4,8,9] 10 rfl ?_))))))))))))
 refine Rn (qS rfl (sY rfl (lb_ (.bool c) O_4 e0 a R2) (qS rfl (sY rfl (lb_ (.bool d) O_4 e0 a R1) (sY rfl (yneb (by kernel_rfl) e0 e0) (qS rfl (sY rfl (lb_ f.v O_38 e0 a R1) QSn))))))) (kO (integer_trim_ok r (mtF n) a) fun D w a=>dU (D1 [] [0,1,2,3,4] 11 rfl (Rn (qS rfl (sY rfl (lb_ (.bool c) O_4 e0 a R2) (qS rfl (sY rfl (lb_ (.bool d) O_4 e0 a R1) (sY rfl (yneb (by kernel_rfl) e0 e0) QSn))))) (kO (integer_times_ok s F1 F0 a) fun E w a=>dU (D1 [] [0,1,2,3,4] 12 rfl (Rn (qS rfl (sY rfl (lb_ (.bool c) O_4 e0 a R2) (qS rfl (sY rfl (lb_ (.bool d) O_4 e0 a R1) (sY rfl (yneb (by kernel_rfl) e0 e0) QSn))))) (kO (integer_big_ok t F0 a) fun l w a=>dU (D0 [] [] 13 rfl (Rn QSn (LT wn (r_stbn (vals':=[.bool k.1,l.v]) (us:=[.bool k.1,l.v]) a ST_40 e0 e0 rfl rfl (one_of rfl) rfl) ?_))))))))))
 refine fun w a=>Dz [] [] (Rn QSn (qx 2 rfl ?_))
 cases b
 exact o _ _ _ (fin1r results115 (rcs2 rfl rfl a R0 ST_40 rfl) ⟨_,rfl,((a.k1b).facts (allC F0 (allT (allT (allT (allT allI))))))⟩)
theorem cmp_isNaN_uint32_ok {a:Int} {out:Bool} (b:cmp_isNaN_uint32 a=some out) (c:St w0 ros rs w):
  Calls prog 175 #[.int .u32 a] w (fun e w=>e=.returned (.bool out)∧St w0 ros rs w):=by
 refine en func175 rfl ntmps175 fun Q d=>q 14 rfl ?_
 cases b
 exact za d results175 ⟨rfl,c⟩
theorem cmp_Compare_uint32_ok {d f out:Int} (a:cmp_Compare_uint32 d f=some out) (b:St w0 ros rs w):
  Calls prog 170 #[.int .u32 d,.int .u32 f] w (fun e w=>e=.returned (iV out)∧St w0 ros rs w):=by
 refine en func170 rfl ntmps170 fun Q c=>bE a fun n g a=>q 8 rfl (cZ (cmp_isNaN_uint32_ok g b) fun w b=>bE a fun o h a=>q 6 rfl (cZ (cmp_isNaN_uint32_ok h b) fun w b=>q 9 rfl ?_))
 refine cJ a (fun i a=>?_) fun i a=>?_
 ·refine q 6 rfl ?_
  refine cJ a (fun j a=>?_) fun j a=>?_
  ·refine q 8 rfl ?_
   cases a
   exact za c results170 ⟨rfl,b⟩
  ·refine q 9 rfl ?_
   cases a
   exact za c results170 ⟨rfl,b⟩
 ·refine q 8 rfl ?_
  refine cJ a (fun k a=>?_) fun k a=>?_
  ·refine q 7 rfl ?_
   cases a
   exact za c results170 ⟨rfl,b⟩
  ·refine q 10 rfl (cI a (fun l a=>?_) fun l a=>?_)
   ·refine q 7 rfl ?_
    cases a
    exact za c results170 ⟨rfl,b⟩
   ·refine q 10 rfl (cI a (fun m a=>?_) fun m a=>?_)
    ·refine q 7 rfl ?_
     cases a
     exact za c results170 ⟨rfl,b⟩
    ·refine q 8 rfl ?_
     cases a
     exact za c results170 ⟨rfl,b⟩
theorem cmp_Compare_int_ok {d f out:Int} (a:cmp_Compare_int d f=some out) (b:St w0 ros rs w):
  Calls prog 169 #[iV d,iV f] w (fun e w=>e=.returned (iV out)∧St w0 ros rs w):=by
 refine en func169 rfl ntmps169 fun Q c=>bE a fun n g a=>q 8 rfl (cZ (cmp_isNaN_int_ok g b) fun w b=>bE a fun o h a=>q 6 rfl (cZ (cmp_isNaN_int_ok h b) fun w b=>q 9 rfl ?_))
 refine cJ a (fun i a=>?_) fun i a=>?_
 ·refine q 6 rfl ?_
  refine cJ a (fun j a=>?_) fun j a=>?_
  ·refine q 8 rfl ?_
   cases a
   exact za c results169 ⟨rfl,b⟩
  ·refine q 9 rfl ?_
   cases a
   exact za c results169 ⟨rfl,b⟩
 ·refine q 8 rfl ?_
  refine cJ a (fun k a=>?_) fun k a=>?_
  ·refine q 7 rfl ?_
   cases a
   exact za c results169 ⟨rfl,b⟩
  ·refine q 10 rfl (cI a (fun l a=>?_) fun l a=>?_)
   ·refine q 7 rfl ?_
    cases a
    exact za c results169 ⟨rfl,b⟩
   ·refine q 10 rfl (cI a (fun m a=>?_) fun m a=>?_)
    ·refine q 7 rfl ?_
     cases a
     exact za c results169 ⟨rfl,b⟩
    ·refine q 8 rfl ?_
     cases a
     exact za c results169 ⟨rfl,b⟩
theorem integer_compare_ok {j k:LI} {l m:Hdr} {out:Int} (c:integer_compare j k=some out) (d:imm (rI .u32) l.v j∈ros) (f:imm (rI .u32) m.v k∈ros) (a:St w0 ros rs w):
  Calls prog 146 #[l.v,m.v] w (fun e w=>e=.returned (iV out)∧St w0 ros rs w):=by
 refine en func146 rfl ntmps146 fun Q h=>q 9 rfl (y (yLen SL_38 e0 a (rdI d)) (q 1 rfl (y (yLen SL_38 e0 a (rdI f)) (q 3 rfl ?_))))
 refine cIn c (fun t c=>?_) fun t c=>?_
 ·refine q 6 rfl (y (yLen SL_38 e0 a (rdI d)) (bE c fun u x c=>q 5 rfl ?_))
  refine lp x [0,1] (fun i=>[(5,iV i)]) (fun i=>St w0 ros rs) (fun | .inl ()=>(.exit 0,[],St w0 ros rs) | .inr n=>(.ret,[(4,iV n)],St w0 ros rs)) rfl a rfl ?_ ?_
  ·clear a
   intro g w a
   rcases u with ⟨⟩ | n
   ·refine q 8 rfl ?_
    cases c
    exact za h results146 ⟨rfl,a⟩
   ·refine q 2 rfl ?_
    cases c
    exact za h results146 ⟨rfl,a⟩
  rintro i g w E a b
  refine q 7 rfl (cI b (fun z b=>?_) fun z b=>?_)
  ·refine q 5 rfl (bE b fun F o b=>bE b fun G p b=>dR [0,0,3,7,0,0,48,112,255] [] 0 folM ?_)
   replace a:=a.drew
   refine Dz [0,1,2,3,4,5,6,7,8] [] (qR 2 rfl (rQ rfl (yIa SL_38 e0 e0 a (rdI d) o) (rQ rfl (yI O_96 e0 a (rdI d) o) (qR 2 rfl (rQ rfl (yIa SL_38 e0 e0 a (rdI f) p) (rQ rfl (yI O_96 e0 a (rdI f) p) (qR 1 rfl (Rn QSn (qx 1 rfl ?_)))))))))
   refine cIn b (fun A b=>?_) fun A b=>?_
   ·refine q 8 rfl ?_
    cases b
    exact lo a
   ·refine q 1 rfl (bE b fun H r b=>bE b fun I s b=>bE b fun B C b=>dR [0,0,3,7,0,0,48,112,255,511] [8,9] 2 folM ?_)
    replace a:=a.drew
    refine D1 [0,1,2,3,4,5,6,7] [] 8 rfl (qR 2 rfl (rQ rfl (yIa SL_38 e0 e0 a (rdI d) r) (rQ rfl (yI O_96 e0 a (rdI d) r) (qR 2 rfl (rQ rfl (yIa SL_38 e0 e0 a (rdI f) s) (rQ rfl (yI O_96 e0 a (rdI f) s) (Rn QSn (kZ (cmp_Compare_uint32_ok C a) fun w a=>dU (D1 [] [] 9 rfl (Rn QSn (Ly wn (a_ (iV B) e0) (dU ?_))))))))))))
    refine Dz [] [] (Rn QSn (qx 4 rfl ?_))
    cases b
    exact xo a
  ·refine q 2 rfl ?_
   cases b
   exact xo a
 ·refine q 3 rfl (y (yLen SL_38 e0 a (rdI d)) (q 1 rfl (y (yLen SL_38 e0 a (rdI f)) (bE c fun J D c=>cZ (cmp_Compare_int_ok D a) fun w a=>q 5 rfl ?_))))
  cases c
  exact za h results146 ⟨rfl,a⟩
end Go.Proofs.YtcoaljcfifecgagGreatDoor
