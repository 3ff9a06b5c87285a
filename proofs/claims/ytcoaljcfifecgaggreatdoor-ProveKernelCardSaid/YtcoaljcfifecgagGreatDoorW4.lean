/- Walks: each function computes its model, printed. -/
import Derived.Test.YtcoaljcfifecgagGreatDoorW3
namespace Go.Proofs.YtcoaljcfifecgagGreatDoor
open Go Sx M Go.Proofs.Tryz
set_option maxRecDepth 100000
set_option maxHeartbeats 40000000
set_option linter.unusedVariables false
attribute [local irreducible] wpList Code.wp Calls DR QR QS LA LS St
variable {w0:World} {ros:List Fact} {rs:List Res} {w:World}
theorem slices_IndexFunc_apiFloat_ok {h:LI} {i:Hdr} {out:Int} (c:slices_IndexFunc_apiFloat h=some out) (d:imm (rI .u64) i.v h∈ros) (a:St w0 ros rs w):
  Calls prog 124 #[i.v,.func (.func 81) #[] #[]] w (fun e w=>e=.returned (iV out)∧St w0 ros rs w):=by
 refine en func124 rfl ntmps124 fun Q j=>q 9 rfl (y (yLen SL_24 e0 a (rdI d)) (bE c fun m n c=>q 4 rfl ?_))
 refine lp n [0,1,7] (fun f=>[(8,iV f)]) (fun f=>St w0 ros rs) (fun | .inl ()=>(.exit 0,[],St w0 ros rs) | .inr k=>(.ret,[(4,iV k)],St w0 ros rs)) rfl a rfl ?_ ?_
 ·clear a
  intro g w a
  rcases m with ⟨⟩ | k
  ·refine q 8 rfl ?_
   cases c
   exact za j results124 ⟨rfl,a⟩
  ·refine q 2 rfl ?_
   cases c
   exact za j results124 ⟨rfl,a⟩
 rintro f g w s a b
 refine q 6 rfl (cI b (fun o b=>?_) fun o b=>?_)
 ·refine q 15 rfl (bE b fun t l b=>y (yIa SL_24 e0 e0 a (rdI d) l) (y (yI O_47 e0 a (rdI d) l) (bE b fun u p b=>yC (yCallw FN_81 e0 (a1 e0)) (matrix_Check_1_ok p a) ?_)))
  rintro _ w ⟨rfl,a⟩
  refine ⟨_,rfl,?_⟩
  refine nf (q 2 rfl ?_)
  refine cJ b (fun r b=>?_) fun r b=>?_
  ·refine q 9 rfl ?_
   cases b
   exact xo a
  ·refine q 7 rfl ?_
   cases b
   exact lo a
 ·refine q 2 rfl ?_
  cases b
  exact xo a
theorem slices_ContainsFunc_apiFloat_ok {c:LI} {d:Hdr} {out:Bool} (a:slices_ContainsFunc_apiFloat c=some out) (f:imm (rI .u64) d.v c∈ros) (b:St w0 ros rs w):
  Calls prog 80 #[d.v,.func (.func 81) #[] #[]] w (fun e w=>e=.returned (.bool out)∧St w0 ros rs w):=by
 refine en func80 rfl ntmps80 fun Q g=>bE a fun i h a=>q 9 rfl (cZ (slices_IndexFunc_apiFloat_ok h f b) fun w b=>q 5 rfl ?_)
 cases a
 exact za g results80 ⟨rfl,b⟩
theorem matrix_Check_ok {c d:Int} {n l o:LI} {j f h:Hdr} {out:Int} (b:matrix_Check c d n l o=some out) (z:imm I1 j.v n∈ros) (p:imm I1 f.v l∈ros) (r:imm (rI .u64) h.v o∈ros) (a:St w0 ros rs w):
  Calls prog 38 #[.agg #[iV c,iV d,j.v,f.v,h.v]] w (fun e w=>e=.returned (iV out)∧St w0 ros rs w):=by
 refine en func38 rfl ntmps38 fun Q k=>q 2 rfl (yb (r_box (vals:=[iV c,iV d,j.v,f.v,h.v]) a e0 rfl) fun s w a=>q 8 rfl (y (lb_ (iV c) O_3 e0 a R0) (bE b fun I A b=>cZ (matrix_within_ok A a) fun w a=>bE b fun t i b=>q 2 rfl ?_)))
 refine jW 5 [1] [(13,.bool t)] (St w0 ros (box s 26 [iV c,iV d,j.v,f.v,h.v]::rs)) rfl (fun u=>?_) ?_
 ·refine gJn 8 i rfl (fun B i=>?_) fun B i=>?_
  ·refine q 1 rfl (y (lb_ (iV d) O_3 e0 a R0) (bE i fun J C i=>cZ (matrix_within_ok C a) fun w a=>q 2 rfl ?_))
   cases i
   exact u _ _ a rfl
  ·refine q 5 rfl ?_
   cases i
   exact u _ _ a rfl
 intro g w a
 refine q 1 rfl ?_
 refine jW 5 [1] [(19,.bool (t || (decide ((10000:Int) < (l.length:Int)))))] (St w0 ros (box s 26 [iV c,iV d,j.v,f.v,h.v]::rs)) rfl (fun x=>?_) ?_
 ·refine gB 14 rfl (fun m=>?_) fun m=>?_
  ·exact q 5 rfl (x _ _ a (hasC (congrArg Value.bool (orT m)) rfl))
  ·exact q 1 rfl (y (lb_ f.v O_23 e0 a R0) (y (yLen SL_23 e0 a (rdI p)) (q 2 rfl (x _ _ a (hasC (congrArg Value.bool (orF m)) rfl)))))
 intro g w a
 refine q 3 rfl ?_
 refine cJ b (fun D b=>?_) fun D b=>?_
 ·refine q 8 rfl ?_
  cases b
  exact za k results38 ⟨rfl,(a.k14)⟩
 ·refine q 2 rfl (y (lbs_ [iV c,iV d,j.v,f.v,h.v] ST_26 e0 a R0) (bE b fun K E b=>cZ (matrix_columns_ok E z p r a) fun w a=>q 4 rfl ?_))
  refine cJn b (fun F b=>?_) fun F b=>?_
  ·refine q 3 rfl (y (lb_ h.v O_24 e0 a R0) (bE b fun L G b=>cZ (slices_ContainsFunc_apiFloat_ok G r a) fun w a=>q 3 rfl ?_))
   refine cJ b (fun H b=>?_) fun H b=>?_
   ·refine q 8 rfl ?_
    cases b
    exact za k results38 ⟨rfl,(a.k14)⟩
   ·refine q 9 rfl ?_
    cases b
    exact za k results38 ⟨rfl,(a.k14)⟩
  ·refine q 8 rfl ?_
   cases b
   exact za k results38 ⟨rfl,(a.k14)⟩
theorem integer_trim_ok {i:LI} {j:Hdr} {out:LI} (d:integer_trim i=some out) (f:imm (rI .u32) j.v i∈ros) (a:St w0 ros rs w):
  Calls prog 89 #[j.v] w (fun e w=>∃ (k:Hdr),e=.returned (k.v)∧St w0 (imm (rI .u32) k.v out::ros) rs w):=by
 refine en func89 rfl ntmps89 fun Q p=>q 8 rfl (y (yLen SL_38 e0 a (rdI f)) (bE d fun l r d=>q 5 rfl ?_))
 refine lp r [0] (fun h=>[(3,iV h)]) (fun h=>St w0 ros rs) (fun | l=>(.exit 0,[(3,iV l)],St w0 ros rs)) rfl a rfl ?_ ?_
 ·clear a
  intro g w a
  refine bE d fun x m d=>q 6 rfl (y (ySl (k1:=.i64) SL_38 e0 a (rdI f) (.inr ⟨rfl,rfl⟩) (.inl (congrArg some e0)) m) ?_)
  replace a:=a.sub f m
  refine q 4 rfl ?_
  cases d
  exact p _ _ _ (fin1r results89 ⟨rfl,rfl⟩ ⟨_,rfl,a⟩)
 rintro h g w z a b
 refine bE b fun s c b=>q 6 rfl ?_
 refine jW 7 [0,3] [(15,.bool s)] (St w0 ros rs) rfl (fun n=>?_) ?_
 ·refine gI 8 c rfl (fun t c=>?_) fun t c=>?_
  ·refine q 3 rfl (bE c fun A o c=>y (yIa SL_38 e0 e0 a (rdI f) o) (y (yI O_96 e0 a (rdI f) o) (q 2 rfl ?_)))
   cases c
   exact n _ _ a rfl
  ·refine q 7 rfl ?_
   cases c
   exact n _ _ a rfl
 intro g w a
 refine q 2 rfl ?_
 refine cJ b (fun u b=>?_) fun u b=>?_
 ·refine q 9 rfl ?_
  cases b
  exact lo a
 ·refine q 2 rfl ?_
  cases b
  exact xo a
theorem integer_big_ok {c:Bool} {d:LI} {f:Hdr} {out:Bool×LI} (b:integer_big c d=some out) (j:imm (rI .u32) f.v d∈ros) (a:St w0 ros rs w):
  Calls prog 90 #[.bool c,f.v] w (fun e w=>∃ (g:Hdr),e=.returned (.agg #[.bool out.1,g.v])∧St w0 (imm (rI .u32) g.v out.2::ros) rs w):=by
 refine en func90 rfl ntmps90 fun Q h=>q 2 rfl (yb (rAl a ZT_40) fun m w a=>bE b fun n k b=>q 5 rfl (cO (integer_trim_ok k j a) fun i w a=>q 7 rfl (y (yLen SL_38 e0 a (rdI F0)) (q 3 rfl (cI b (fun l b=>?_) fun l b=>?_)))))
 ·refine q 2 rfl (y (ybuild (us:=[.bool false,hnil.v]) [] SO_40 bp0 rfl) (sB rfl a ST_40 fun w a=>q 4 rfl ?_))
  cases b
  replace a:=a.immNh (rI .u32)
  exact h _ _ _ (fin1r results90 (rcs2 rfl rfl a R0 ST_40 rfl) ⟨_,rfl,((a.k14).facts (allC F0 (allT (allT allI))))⟩)
 ·refine q 6 rfl (y (ybuild (us:=[.bool c,i.v]) [(0,.bool c),(1,i.v)] SO_40 (bp2 e0 e0) rfl) (sB rfl a ST_40 fun w a=>q 3 rfl ?_))
  cases b
  exact h _ _ _ (fin1r results90 (rcs2 rfl rfl a R0 ST_40 rfl) ⟨_,rfl,(a.k14)⟩)
theorem integer_FromInt_ok {d:Int} {out:Bool×LI} (c:integer_FromInt d=some out) (a:St w0 ros rs w):
  Calls prog 45 #[iV d] w (fun e w=>∃ (f:Hdr),e=.returned (.agg #[.bool out.1,f.v])∧St w0 (imm (rI .u32) f.v out.2::ros) rs w):=by
 refine en func45 rfl ntmps45 fun Q h=>q 2 rfl (yb (rAl a ZT_40) fun i w a=>q 16 rfl ?_)
 refine jC Int [0,2] (fun b=>[(3,.int .u64 b)]) (fun b w=>St w0 ros (box i 40 [.bool false,hnil.v]::rs) w∧integer_FromInt_j1 d b=some out) rfl ?_ ?_
 ·rintro b g w ⟨a,c⟩
  refine q 11 rfl (yh (rLt (n:=2) (l:=[wc .u32 (wand .u64 b 4294967295),wc .u32 (wsrc .u64 b 32)]) a SL_38 [.int .u32 (wc .u32 (wand .u64 b 4294967295)),.int .u32 (wc .u32 (wsrc .u64 b 32))] (bp2 e0 e0) rfl rfl (mks1 (cs:=[.int .u32 (wc .u32 (wand .u64 b 4294967295))]) rfl mkI (mks1 (cs:=[.int .u32 (wc .u32 (wsrc .u64 b 32))]) rfl mkI mks0))) fun m w a=>bE c fun o j c=>?_)
  replace a:=a.fz
  refine cO (integer_big_ok j F0 a) fun p w a=>sB rfl a ST_40 fun w a=>q 3 rfl ?_
  cases c
  exact h _ _ _ (fin1r results45 (rcs2 rfl rfl a R0 ST_40 rfl) ⟨_,rfl,((a.k14).facts (allC F0 (allT (allT allI))))⟩)
 refine cI c (fun k c=>?_) fun k c=>?_
 ·exact q 5 rfl (jx _ ⟨a,c⟩)
 ·exact q 1 rfl (jx _ ⟨a,c⟩)
theorem float_negative_ok {a:Int} {out:Bool} (b:float_negative a=some out) (c:St w0 ros rs w):
  Calls prog 84 #[.int .u64 a] w (fun e w=>e=.returned (.bool out)∧St w0 ros rs w):=by
 refine en func84 rfl ntmps84 fun Q d=>q 14 rfl ?_
 cases b
 exact za d results84 ⟨rfl,c⟩
theorem slices_Clone_uint32_ok {f:LI} {d:Hdr} {out:LI} (b:slices_Clone_uint32 f=some out) (g:imm (rI .u32) d.v f∈ros) (a:St w0 ros rs w):
  Calls prog 125 #[d.v] w (fun e w=>∃ (h:Hdr),e=.returned (h.v)∧St w0 ros (row 96 (rI .u32) h.v out::rs) w):=by
 refine en func125 rfl ntmps125 fun Q i=>q 9 rfl (y (yenil SL_38 e0 rfl) (q 2 rfl ?_))
 rcases nilS d with c | c
 ·refine kT c ?_
  obtain rfl:=nilE c g a
  replace b:=nilM b
  refine q 7 rfl ?_
  cases b
  replace a:=a.rowNh 96 (rI .u32)
  exact i _ _ _ (fin1r results125 ⟨rfl,rfl⟩ ⟨_,rfl,a⟩)
 ·refine kF c (q 4 rfl (yh (rLt (n:=0) (l:=[]) a SL_38 [] bp0 rfl rfl mks0) fun k w a=>bE b fun m j b=>q 1 rfl (yh (rAp a SL_38 e0 e0 (rdI g) j) fun o w a=>q 4 rfl ?_)))
  cases b
  exact i _ _ _ (fin1r results125 ⟨rfl,rfl⟩ ⟨_,rfl,a⟩)
theorem integer_Neg_ok {b:Bool} {f:LI} {d:Hdr} {out:Bool×LI} (c:integer_Neg b f=some out) (j:imm (rI .u32) d.v f∈ros) (a:St w0 ros rs w):
  Calls prog 85 #[.agg #[.bool b,d.v]] w (fun e w=>∃ (g:Hdr),e=.returned (.agg #[.bool out.1,g.v])∧St w0 (imm (rI .u32) g.v out.2::ros) rs w):=by
 refine en func85 rfl ntmps85 fun Q k=>q 2 rfl (yb (r_box (vals:=[.bool b,d.v]) a e0 rfl) fun n w a=>yb (rAl a ZT_40) fun o w a=>bE c fun p l c=>bE c fun h m c=>q 3 rfl (dR [0,1,3,0,8,24,63,127] [5,6,7] 3 folM ?_))
 replace a:=a.drew
 refine D1 [0,1,2,3,4] [] 5 rfl (qR 1 rfl (rQ rfl (lb_ (.bool b) O_4 e0 a R1) (qR 2 rfl (rQ rfl (lb_ d.v O_38 e0 a R1) (Rn QSn (kO (slices_Clone_uint32_ok l j a) fun r w a=>dU (D1 [] [0,1,2] 6 rfl (Rn (qS rfl (sY rfl (lb_ (.bool b) O_4 e0 a R2) (qS rfl QSn))) ?_))))))))
 replace a:=a.fz
 refine kO (integer_big_ok m F0 a) fun i w a=>dU (D0 [] [] 7 rfl (Rn QSn (LT wn (r_stbn (vals':=[.bool h.1,i.v]) (us:=[.bool h.1,i.v]) a ST_40 e0 e0 rfl rfl (one_of rfl) rfl) fun w a=>Dz [] [] (Rn QSn (qx 2 rfl ?_)))))
 cases c
 exact k _ _ _ (fin1r results85 (rcs2 rfl rfl a R0 ST_40 rfl) ⟨_,rfl,((a.k19).facts (allC F0 (allT (allT allI))))⟩)
theorem dyad_bad_ok {out:Bool×Bool×Int} (b:dyad_bad=some out) (a:St w0 ros rs w):
  Calls prog 126 #[] w (fun e w=>e=.returned (.agg #[.bool out.1,.bool out.2.1,hnil.v,iV out.2.2])∧St w0 ros rs w):=by
 refine en func126 rfl ntmps126 fun Q c=>q 2 rfl (yb (rAl a ZT_53) fun d w a=>q 4 rfl (y (ybuild (us:=[.bool true,.bool false,hnil.v,iV 0]) [(0,.bool true)] SO_53 (bp1 rfl) rfl) (sB rfl a ST_53 fun w a=>q 3 rfl ?_)))
 cases b
 exact c _ _ _ (fin1r results126 (rcs2 rfl rfl a R0 ST_53 rfl) ⟨rfl,(a.k14)⟩)
theorem integer_Norm_ok {b:Bool} {f:LI} {d:Hdr} {out:Bool×LI} (c:integer_Norm b f=some out) (j:imm (rI .u32) d.v f∈ros) (a:St w0 ros rs w):
  Calls prog 127 #[.agg #[.bool b,d.v]] w (fun e w=>∃ (g:Hdr),e=.returned (.agg #[.bool out.1,g.v])∧St w0 (imm (rI .u32) g.v out.2::ros) rs w):=by
 refine en func127 rfl ntmps127 fun Q k=>q 2 rfl (yb (r_box (vals:=[.bool b,d.v]) a e0 rfl) fun n w a=>yb (rAl a ZT_40) fun o w a=>bE c fun p l c=>bE c fun h m c=>q 3 rfl (dR [0,1,0,4,12,31,63] [4,5,6] 3 folM ?_))
 replace a:=a.drew
 refine D1 [0,1,2,3] [] 4 rfl (qR 1 rfl (rQ rfl (lb_ (.bool b) O_4 e0 a R1) (qR 1 rfl (rQ rfl (lb_ d.v O_38 e0 a R1) (Rn QSn (kO (slices_Clone_uint32_ok l j a) fun r w a=>dU (D1 [] [0,1] 5 rfl (Rn (qS rfl (sY rfl (lb_ (.bool b) O_4 e0 a R2) QSn)) ?_))))))))
 replace a:=a.fz
 refine kO (integer_big_ok m F0 a) fun i w a=>dU (D0 [] [] 6 rfl (Rn QSn (LT wn (r_stbn (vals':=[.bool h.1,i.v]) (us:=[.bool h.1,i.v]) a ST_40 e0 e0 rfl rfl (one_of rfl) rfl) fun w a=>Dz [] [] (Rn QSn (qx 2 rfl ?_)))))
 cases c
 exact k _ _ _ (fin1r results127 (rcs2 rfl rfl a R0 ST_40 rfl) ⟨_,rfl,((a.k19).facts (allC F0 (allT (allT allI))))⟩)
theorem integer_Sign_ok {c:Bool} {g:LI} {d:Hdr} {out:Int} (a:integer_Sign c g=some out) (h:imm (rI .u32) d.v g∈ros) (b:St w0 ros rs w):
  Calls prog 88 #[.agg #[.bool c,d.v]] w (fun e w=>e=.returned (iV out)∧St w0 ros rs w):=by
 refine en func88 rfl ntmps88 fun Q f=>q 2 rfl (yb (r_box (vals:=[.bool c,d.v]) b e0 rfl) fun l w b=>q 8 rfl (y (lb_ d.v O_38 e0 b R0) (bE a fun m i a=>cO (integer_trim_ok i h b) fun n w b=>y (yLen SL_38 e0 b (rdI F0)) (q 4 rfl (cI a (fun j a=>?_) fun j a=>?_)))))
 ·refine q 8 rfl ?_
  cases a
  exact za f results88 ⟨rfl,((b.k14).fc)⟩
 ·refine q 3 rfl (y (lb_ (.bool c) O_4 e0 b R0) (q 3 rfl ?_))
  refine cJ a (fun k a=>?_) fun k a=>?_
  ·refine q 8 rfl ?_
   cases a
   exact za f results88 ⟨rfl,((b.k14).fc)⟩
  ·refine q 9 rfl ?_
   cases a
   exact za f results88 ⟨rfl,((b.k14).fc)⟩
theorem integer_TrailingZeros_ok {f:Bool} {j:LI} {c:Hdr} {out:Int} (d:integer_TrailingZeros f j=some out) (h:imm (rI .u32) c.v j∈ros) (n:globF∈ros) (a:St w0 ros rs w):
  Calls prog 128 #[.agg #[.bool f,c.v]] w (fun e w=>e=.returned (iV out)∧St w0 ros rs w):=by
 refine en func128 rfl ntmps128 fun Q k=>q 2 rfl (yb (r_box (vals:=[.bool f,c.v]) a e0 rfl) fun u w a=>q 7 rfl (y (lb_ c.v O_38 e0 a R0) (y (yLen SL_38 e0 a (rdI h)) (bE d fun o p d=>q 4 rfl ?_))))
 refine lp p [6,7] (fun i=>[(8,iV i)]) (fun i=>St w0 ros rs) (fun | .inl ()=>(.exit 0,[],St w0 ros rs) | .inr l=>(.ret,[(2,iV l)],St w0 ros rs)) rfl (a.k14) rfl ?_ ?_
 ·clear a
  intro g w a
  rcases o with ⟨⟩ | l
  ·refine q 8 rfl ?_
   cases d
   exact za k results128 ⟨rfl,a⟩
  ·refine q 2 rfl ?_
   cases d
   exact za k results128 ⟨rfl,a⟩
 rintro i g w x a b
 refine q 6 rfl (cI b (fun r b=>?_) fun r b=>?_)
 ·refine q 7 rfl (bE b fun z m b=>y (yIa SL_38 e0 e0 a (rdI h) m) (y (yI O_96 e0 a (rdI h) m) (q 10 rfl ?_)))
  refine cIn b (fun s b=>?_) fun s b=>?_
  ·refine q 7 rfl ?_
   cases b
   exact lo a
  ·refine q 5 rfl (bE b fun A t b=>cZ (tz32_ok t n a) fun w a=>q 7 rfl ?_)
   cases b
   exact xo a
 ·refine q 2 rfl ?_
  cases b
  exact xo a
theorem integer_length_ok {d:LI} {f:Hdr} {out:Int} (a:integer_length d=some out) (c:imm (rI .u32) f.v d∈ros) (b:St w0 ros rs w):
  Calls prog 152 #[f.v] w (fun e w=>e=.returned (iV out)∧St w0 ros rs w):=by
 refine en func152 rfl ntmps152 fun Q g=>q 9 rfl (y (yLen SL_38 e0 b (rdI c)) (q 3 rfl (cI a (fun i a=>?_) fun i a=>?_)))
 ·refine q 7 rfl ?_
  cases a
  exact za g results152 ⟨rfl,b⟩
 ·refine q 5 rfl (y (yLen SL_38 e0 b (rdI c)) (q 4 rfl (y (yLen SL_38 e0 b (rdI c)) (bE a fun k h a=>q 1 rfl (y (yIa SL_38 e0 e0 b (rdI c) h) (y (yI O_96 e0 b (rdI c) h) (bE a fun l j a=>cZ (math_bits_Len32_ok j b) fun w b=>q 5 rfl ?_)))))))
  cases a
  exact za g results152 ⟨rfl,b⟩
end Go.Proofs.YtcoaljcfifecgagGreatDoor
