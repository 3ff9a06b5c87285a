/- Walks: each function computes its model, printed. -/
import Derived.Test.YtcoaljcfifecgagGreatDoorW6
namespace Go.Proofs.YtcoaljcfifecgagGreatDoor
open Go Sx M Go.Proofs.Tryz
set_option maxRecDepth 100000
set_option maxHeartbeats 40000000
set_option linter.unusedVariables false
attribute [local irreducible] wpList Code.wp Calls DR QR QS LA LS St
variable {w0:World} {ros:List Fact} {rs:List Res} {w:World}
theorem integer_minus_ok {m n:LI} {o p:Hdr} {out:LI} (c:integer_minus m n=some out) (h:imm (rI .u32) o.v m∈ros) (j:imm (rI .u32) p.v n∈ros) (a:St w0 ros rs w):
  Calls prog 147 #[o.v,p.v] w (fun e w=>∃ (r:Hdr),e=.returned (r.v)∧St w0 (imm (rI .u32) r.v out::ros) rs w):=by
 refine en func147 rfl ntmps147 fun Q z=>q 8 rfl (y (yLen SL_38 e0 a (rdI h)) (bE c fun G A c=>yh (rMk a SL_38 e0 A) fun k w a=>q 12 rfl (y (yLen SL_38 e0 a (rdI h)) (bE c fun s B c=>q 4 rfl ?_))))
 refine lp B [1,5,13,14] (fun (d,l,i)=>[(6,.int .u64 l),(15,iV i)]) (fun (d,l,i)=>St w0 ros (row 96 (rI .u32) k.v d::rs)) (fun | s=>(.exit 0,[],St w0 ros (row 96 (rI .u32) k.v s::rs))) rfl a rfl ?_ ?_
 ·clear a
  intro g w a
  refine bE c fun H C c=>q 5 rfl ?_
  replace a:=a.fz
  refine cO (integer_trim_ok C F0 a) fun I w a=>q 4 rfl ?_
  cases c
  exact z _ _ _ (fin1r results147 ⟨rfl,rfl⟩ ⟨_,rfl,(a.facts (allC F0 (allT (allT allI))))⟩)
 rintro ⟨d,l,i⟩ g w D a b
 refine q 6 rfl (cI b (fun E b=>?_) fun E b=>?_)
 ·refine q 7 rfl (bE b fun J t b=>y (yIa SL_38 e0 e0 a (rdI h) t) (y (yI O_96 e0 a (rdI h) t) (q 18 rfl (y (yLen SL_38 e0 a (rdI j)) (q 3 rfl ?_)))))
  refine jC Int [1,5,7,13,14,15] (fun f=>[(9,.int .u64 f)]) (fun f w=>St w0 ros (row 96 (rI .u32) k.v d::rs) w∧integer_minus_j4 d i f=some D) rfl ?_ ?_
  ·rintro f g w ⟨a,c⟩
   refine bE c fun K u c=>q 8 rfl (y (yIs SL_38 e0 e0 a rO0 u) (yt (r_sti (cs:=[.int .u32 (wc .u32 (wand .u64 f 4294967295))]) a O_96 rfl e0 e0 rfl mkI u) fun w a=>q 14 rfl ?_))
   cases c
   exact lo a
  refine cI b (fun F b=>?_) fun F b=>?_
  ·exact q 4 rfl (bE b fun L x b=>y (yIa SL_38 e0 e0 a (rdI j) x) (y (yI O_96 e0 a (rdI j) x) (q 4 rfl (jx _ ⟨a,b⟩))))
  ·exact q 1 rfl (jx _ ⟨a,b⟩)
 ·refine q 2 rfl ?_
  cases b
  exact xo a
theorem integer_Add_ok {c:Bool} {i:LI} {d:Bool} {j:LI} {g f:Hdr} {out:Bool×LI} (b:integer_Add c i d j=some out) (s:imm (rI .u32) g.v i∈ros) (t:imm (rI .u32) f.v j∈ros) (a:St w0 ros rs w):
  Calls prog 114 #[.agg #[.bool c,g.v],.agg #[.bool d,f.v]] w (fun e w=>∃ (k:Hdr),e=.returned (.agg #[.bool out.1,k.v])∧St w0 (imm (rI .u32) k.v out.2::ros) rs w):=by
 refine en func114 rfl ntmps114 fun Q h=>q 2 rfl (yb (r_box (vals:=[.bool c,g.v]) a e0 rfl) fun K w a=>yb (r_box (vals:=[.bool d,f.v]) a e0 rfl) fun L w a=>yb (rAl a ZT_40) fun N w a=>bE b fun O u b=>bE b fun R x b=>q 3 rfl (dR [0,1,3,0,8,31,63,127] [2,5,6,7] 4 folM ?_))
 replace a:=a.drew
 refine D1 [0,1,3,4] [] 2 rfl (qR 1 rfl (rQ rfl (lb_ g.v O_38 e0 a R2) (qR 1 rfl (rQ rfl (lb_ f.v O_38 e0 a R1) (Rn QSn (kO (integer_trim_ok u s a) fun z w a=>dU (D1 [] [3,4] 5 rfl (Rn (qS rfl (sY rfl (lb_ f.v O_38 e0 a R1) QSn)) (kO (integer_trim_ok x (mtF t) a) fun A w a=>dU (D1 [] [] 6 rfl (Rn QSn ?_)))))))))))
 refine Ly wn (a_ z.v e0) (dU (D1 [] [] 7 rfl (Rn QSn (Ly wn (a_ A.v e0) (dU (Dz [] [] (Rn QSn (qx 6 rfl (y (lb_ (.bool c) O_4 e0 a R2) (q 1 rfl (y (lb_ (.bool d) O_4 e0 a R1) (y (yeqb (by kernel_rfl) e0 e0) (q 3 rfl ?_)))))))))))))
 refine cJ b (fun B b=>?_) fun B b=>?_
 ·refine q 1 rfl (bE b fun S C b=>bE b fun l D b=>dR [0,1,0,0,12,31,63] [4,5,6] 3 folM ?_)
  replace a:=a.drew
  refine D1 [0,1,2,3] [] 4 rfl (qR 1 rfl (rQ rfl (lb_ (.bool c) O_4 e0 a R2) (qR 2 rfl (Rn QSn (kO (integer_plus_ok C F1 F0 a) fun T w a=>dU (D1 [] [0,1] 5 rfl (Rn (qS rfl (sY rfl (lb_ (.bool c) O_4 e0 a R2) QSn)) (kO (integer_big_ok D F0 a) fun m w a=>dU (D0 [] [] 6 rfl (Rn QSn (LT wn (r_stbn (vals':=[.bool l.1,m.v]) (us:=[.bool l.1,m.v]) a ST_40 e0 e0 rfl rfl (one_of rfl) rfl) ?_)))))))))))
  refine fun w a=>Dz [] [] (Rn QSn (qx 4 rfl ?_))
  cases b
  exact h _ _ _ (fin1r results114 (rcs2 rfl rfl a R0 ST_40 rfl) ⟨_,rfl,((a.k1b).facts (allC F0 (allT (allT (allT (allT allI))))))⟩)
 ·refine q 4 rfl (bE b fun U E b=>cZ (integer_compare_ok E F1 F0 a) fun w a=>q 4 rfl (cI b (fun F b=>?_) fun F b=>?_))
  ·refine q 1 rfl (bE b fun V G b=>bE b fun n H b=>dR [0,1,0,0,12,31,63] [4,5,6] 3 folM ?_)
   replace a:=a.drew
   refine D1 [0,1,2,3] [] 4 rfl (qR 1 rfl (rQ rfl (lb_ (.bool c) O_4 e0 a R2) (qR 2 rfl (Rn QSn (kO (integer_minus_ok G F1 F0 a) fun W w a=>dU (D1 [] [0,1] 5 rfl (Rn (qS rfl (sY rfl (lb_ (.bool c) O_4 e0 a R2) QSn)) (kO (integer_big_ok H F0 a) fun o w a=>dU (D0 [] [] 6 rfl (Rn QSn (LT wn (r_stbn (vals':=[.bool n.1,o.v]) (us:=[.bool n.1,o.v]) a ST_40 e0 e0 rfl rfl (one_of rfl) rfl) ?_)))))))))))
   refine fun w a=>Dz [] [] (Rn QSn (qx 4 rfl ?_))
   cases b
   exact h _ _ _ (fin1r results114 (rcs2 rfl rfl a R0 ST_40 rfl) ⟨_,rfl,((a.k1b).facts (allC F0 (allT (allT (allT (allT allI))))))⟩)
  ·refine q 4 rfl (bE b fun X I b=>bE b fun p J b=>dR [0,1,0,0,12,31,63] [4,5,6] 3 folM ?_)
   replace a:=a.drew
   refine D1 [0,1,2,3] [] 4 rfl (qR 1 rfl (rQ rfl (lb_ (.bool d) O_4 e0 a R1) (qR 2 rfl (Rn QSn (kO (integer_minus_ok I F0 F1 a) fun Z w a=>dU (D1 [] [0,1] 5 rfl (Rn (qS rfl (sY rfl (lb_ (.bool d) O_4 e0 a R1) QSn)) (kO (integer_big_ok J F0 a) fun r w a=>dU (D0 [] [] 6 rfl (Rn QSn (LT wn (r_stbn (vals':=[.bool p.1,r.v]) (us:=[.bool p.1,r.v]) a ST_40 e0 e0 rfl rfl (one_of rfl) rfl) ?_)))))))))))
   refine fun w a=>Dz [] [] (Rn QSn (qx 2 rfl ?_))
   cases b
   exact h _ _ _ (fin1r results114 (rcs2 rfl rfl a R0 ST_40 rfl) ⟨_,rfl,((a.k1b).facts (allC F0 (allT (allT (allT (allT allI))))))⟩)
theorem integer_Sub_ok {d:Bool} {h:LI} {b:Bool} {i:LI} {f c:Hdr} {out:Bool×LI} (g:integer_Sub d h b i=some out) (k:imm (rI .u32) f.v h∈ros) (l:imm (rI .u32) c.v i∈ros) (a:St w0 ros rs w):
  Calls prog 172 #[.agg #[.bool d,f.v],.agg #[.bool b,c.v]] w (fun e w=>∃ (j:Hdr),e=.returned (.agg #[.bool out.1,j.v])∧St w0 (imm (rI .u32) j.v out.2::ros) rs w):=by
 refine en func172 rfl ntmps172 fun Q m=>q 2 rfl (yb (r_box (vals:=[.bool d,f.v]) a e0 rfl) fun o w a=>yb (r_box (vals:=[.bool b,c.v]) a e0 rfl) fun p w a=>yb (rAl a ZT_40) fun r w a=>q 5 rfl (y (lb_ (.bool b) O_4 e0 a R1) (q 2 rfl ?_)))
 replace a:=a.k10
 refine yt (r_stb1 (vals':=[.bool (!b),c.v]) a O_4 e0 e0 rfl rfl rfl rfl) fun w a=>q 4 rfl (y (lbs_ [.bool d,f.v] ST_40 e0 a R2) (y (lbs_ [.bool (!b),c.v] ST_40 e0 a R0) (bE g fun s n g=>cO (integer_Add_ok n k l a) fun t w a=>?_)))
 replace a:=a.k10
 refine sB rfl a ST_40 fun w a=>q 3 rfl ?_
 cases g
 exact m _ _ _ (fin1r results172 (rcs2 rfl rfl a R0 ST_40 rfl) ⟨_,rfl,(a.k1b)⟩)
theorem integer_short_ok {j:LI} {k:Int} {l:Hdr} {out:LI×Int} (c:integer_short j k=some out) (d:imm (rI .u32) l.v j∈ros) (a:St w0 ros rs w):
  Calls prog 156 #[l.v,.int .u32 k] w (fun e w=>∃ (m:Hdr),e=.returned (.tuple #[m.v,.int .u32 out.2])∧St w0 (imm (rI .u32) m.v out.1::ros) rs w):=by
 refine en func156 rfl ntmps156 fun Q t=>q 9 rfl (y (yLen SL_38 e0 a (rdI d)) (bE c fun E u c=>yh (rMk a SL_38 e0 u) fun n w a=>q 12 rfl (y (yLen SL_38 e0 a (rdI d)) (q 5 rfl ?_))))
 obtain ⟨⟨o,p⟩,x,c⟩:=bs c
 refine lp x [0,1,6] (fun (f,h,i)=>[(7,.int .u64 h),(8,iV i)]) (fun (f,h,i)=>St w0 ros (row 96 (rI .u32) n.v f::rs)) (fun | (o,p)=>(.exit 0,[(7,.int .u64 p)],St w0 ros (row 96 (rI .u32) n.v o::rs))) rfl a rfl ?_ ?_
 ·clear a
  intro g w a
  refine bE c fun F z c=>q 5 rfl ?_
  replace a:=a.fz
  refine cO (integer_trim_ok z F0 a) fun G w a=>q 7 rfl ?_
  cases c
  exact t _ _ _ (fin2r results156 ⟨rfl,rfl⟩ ⟨rfl,rfl⟩ ⟨_,rfl,(a.facts (allC F0 (allT (allT allI))))⟩)
 rintro ⟨f,h,i⟩ g w H a b
 refine q 7 rfl (cI b (fun A b=>?_) fun A b=>?_)
 ·refine q 10 rfl (bE b fun I r b=>y (yIa SL_38 e0 e0 a (rdI d) r) (y (yI O_96 e0 a (rdI d) r) (bE b fun B C b=>q 12 rfl (y (yquo e0 e0 C) (bE b fun J s b=>q 1 rfl (y (yIs SL_38 e0 e0 a rO0 s) (yt (r_sti (cs:=[.int .u32 (wc .u32 B)]) a O_96 rfl e0 e0 rfl mkI s) fun w a=>bE b fun K D b=>q 6 rfl ?_)))))))
  refine y (yrem e0 e0 D) (q 9 rfl ?_)
  cases b
  exact lo a
 ·refine q 2 rfl ?_
  cases b
  exact xo a
theorem math_bits_LeadingZeros32_ok {c out:Int} (a:math_bits_LeadingZeros32 c=some out) (b:St w0 ros rs w):
  Calls prog 157 #[.int .u32 c] w (fun e w=>e=.returned (iV out)∧St w0 ros rs w):=by
 refine en func157 rfl ntmps157 fun Q d=>bE a fun g f a=>q 8 rfl (cZ (math_bits_Len32_ok f b) fun w b=>q 5 rfl ?_)
 cases a
 exact za d results157 ⟨rfl,b⟩
theorem integer_digit_ok {k:LI} {F G:Int} {H:LI} {i I:Hdr} {out:LI×Int} (b:integer_digit k F G H=some out) (c:imm (rI .u32) I.v H∈ros) (a:St w0 ros (row 96 (rI .u32) i.v k::rs) w):
  Calls prog 158 #[(subH i 1 F G).v,I.v] w (fun e w=>e=.returned (.int .u32 out.2)∧St w0 ros (row 96 (rI .u32) i.v out.1::rs) w):=by
 refine en func158 rfl ntmps158 fun Q J=>q 8 rfl (y (yLen SL_38 e0 a (rdI c)) (bE b fun a7 K b=>bE b fun a8 L b=>q 4 rfl (dR [0,0,3,7,15,31,0,0,128,448,960,1984,4095,8191] [13] 1 folM ?_)))
 replace a:=a.drew
 refine D1 [0,1,2,3,4,5,6,7,8,9,10,11,12] [] 13 rfl (qR 2 rfl (rQ rfl (yIaW SL_38 e0 e0 a rO0 K) (rQ rfl (yI O_96 e0 a rO0 (getW_g K)) (qR 5 rfl (rQ rfl (yIaW SL_38 e0 e0 a rO0 L) (rQ rfl (yI O_96 e0 a rO0 (getW_g L)) (qR 2 rfl (Rn QSn (Ly wn (a_ (.int .u64 (wor .u64 (wslc .u64 (wc .u64 a7) 32) (wc .u64 a8))) e0) (dU (Dz [] [] (Rn QSn (bE b fun c8 N b=>?_)))))))))))))
 refine bE b fun a9 b0 b=>bE b fun c9 l b=>bE b fun b1 O b=>qx 2 rfl (dR [0,0,0,4,14,30,62,127,0,0,0,1024,3584,7680,15872,32512,255,131071] [16,17] 2 folM ?_)
 replace a:=a.drew
 refine D1 [0,1,2,3,4,5,6,7,8,9,10,11,12,13,14,15] [] 16 rfl (qR 4 rfl (rQ rfl (yIa SL_38 e0 e0 a (rdI c) N) (rQ rfl (yI O_96 e0 a (rdI c) N) (qR 1 rfl (rQ rfl (yquo e0 e0 b0) (qR 4 rfl (rQ rfl (yIa SL_38 e0 e0 a (rdI c) l) (rQ rfl (yI O_96 e0 a (rdI c) l) (qR 1 rfl (rQ rfl (yrem e0 e0 O) (Rn QSn (Ly wn (a_ (.int .u64 a9) e0) (dU ?_)))))))))))))
 refine D1 [] [8,9,10,11,12,13,14,15] 17 rfl (Rn (qS rfl (qS rfl (qS rfl (qS rfl (sY rfl (yIa SL_38 e0 e0 a (rdI c) l) (sY rfl (yI O_96 e0 a (rdI c) l) (qS rfl (sY rfl (yrem e0 e0 O) QSn)))))))) (Ly wn (a_ (.int .u64 b1) e0) (dU (Dz [] [] (Rn QSn (bE b fun p b2 b=>qx 3 rfl ?_))))))
 refine lp b2 [0,1,5] (fun (r,s)=>[(7,.int .u64 r),(8,.int .u64 s)]) (fun (r,s)=>St w0 ros (row 96 (rI .u32) i.v k::rs)) (fun | p=>(.exit 0,[(7,.int .u64 p)],St w0 ros (row 96 (rI .u32) i.v k::rs))) rfl a rfl ?_ ?_
 ·clear a
  intro g w a
  refine q 12 rfl (y (yLen SL_38 e0 a (rdI c)) (q 4 rfl ?_))
  obtain ⟨⟨R,t,u⟩,b3,b⟩:=bs b
  refine lp b3 [0,1,5,7,84,85] (fun (x,m,n,z)=>[(9,.int .u64 m),(10,.int .u64 n),(86,iV z)]) (fun (x,m,n,z)=>St w0 ros (row 96 (rI .u32) i.v x::rs)) (fun | (R,t,u)=>(.exit 2,[(9,.int .u64 t),(10,.int .u64 u)],St w0 ros (row 96 (rI .u32) i.v R::rs))) rfl a rfl ?_ ?_
  ·clear a
   intro g w a
   refine bE b fun b4 S b=>q 6 rfl (y (yIaW SL_38 e0 e0 a rO0 S) (y (yI O_96 e0 a rO0 (getW_g S)) (bE b fun d0 T b=>q 15 rfl (y (yIsW SL_38 e0 e0 a rO0 T) (yt (r_sti (cs:=[.int .u32 (wc .u32 (wand .u64 (ws .u64 (ws .u64 (wc .u64 b4) t) u) 4294967295))]) a O_96 rfl e0 e0 rfl mkI (setW_g T)) fun w a=>q 11 rfl (cI b (fun b5 b=>?_) fun b5 b=>?_))))))
   ·refine q 9 rfl ?_
    cases b
    exact za J results158 ⟨rfl,a⟩
   ·refine q 11 rfl (y (yLen SL_38 e0 a (rdI c)) (q 4 rfl ?_))
    obtain ⟨⟨U,A⟩,b6,b⟩:=bs b
    refine lp b6 [0,5,7,140,141] (fun (B,o,C)=>[(9,.int .u64 o),(142,iV C)]) (fun (B,o,C)=>St w0 ros (row 96 (rI .u32) i.v B::rs)) (fun | (U,A)=>(.exit 4,[(9,.int .u64 A)],St w0 ros (row 96 (rI .u32) i.v U::rs))) rfl a rfl ?_ ?_
    ·clear a
     intro g w a
     refine bE b fun b7 V b=>q 6 rfl (y (yIaW SL_38 e0 e0 a rO0 V) (y (yI O_96 e0 a rO0 (getW_g V)) (bE b fun d1 W b=>q 3 rfl (y (yIsW SL_38 e0 e0 a rO0 W) (yt (r_sti (cs:=[.int .u32 (wa .u32 b7 (wc .u32 A))]) a O_96 rfl e0 e0 rfl mkI (setW_g W)) fun w a=>q 11 rfl ?_)))))
     cases b
     exact za J results158 ⟨rfl,a⟩
    rintro ⟨B,o,C⟩ g w d2 a f
    refine q 6 rfl (cI f (fun b8 f=>?_) fun b8 f=>?_)
    ·refine q 7 rfl (bE f fun b9 X f=>y (yIa SL_38 e0 e0 a (rdI c) X) (y (yI O_96 e0 a (rdI c) X) (bE f fun c0 Z f=>q 8 rfl (y (yIaW SL_38 e0 e0 a rO0 Z) (y (yI O_96 e0 a rO0 (getW_g Z)) (bE f fun d3 a0 f=>q 16 rfl (y (yIsW SL_38 e0 e0 a rO0 a0) (yt (r_sti (cs:=[.int .u32 (wc .u32 (wand .u64 (wa .u64 (wa .u64 (wc .u64 c0) (wc .u64 b9)) o) 4294967295))]) a O_96 rfl e0 e0 rfl mkI (setW_g a0)) fun w a=>q 13 rfl ?_))))))))
     cases f
     exact lo a
    ·refine q 2 rfl ?_
     cases f
     exact xo a
  rintro ⟨x,m,n,z⟩ g w d4 a h
  refine q 6 rfl (cI h (fun c1 h=>?_) fun c1 h=>?_)
  ·refine q 7 rfl (bE h fun c2 a1 h=>y (yIa SL_38 e0 e0 a (rdI c) a1) (y (yI O_96 e0 a (rdI c) a1) (bE h fun c3 a2 h=>q 26 rfl (y (yIaW SL_38 e0 e0 a rO0 a2) (y (yI O_96 e0 a rO0 (getW_g a2)) (bE h fun d5 a3 h=>q 16 rfl (y (yIsW SL_38 e0 e0 a rO0 a3) (yt (r_sti (cs:=[.int .u32 (wc .u32 (wand .u64 (ws .u64 (ws .u64 (wc .u64 c3) (wand .u64 (wa .u64 (wm .u64 p (wc .u64 c2)) m) 4294967295)) n) 4294967295))]) a O_96 rfl e0 e0 rfl mkI (setW_g a3)) fun w a=>q 14 rfl ?_))))))))
   cases h
   exact lo a
  ·refine q 2 rfl ?_
   cases h
   exact xo a
 rintro ⟨r,s⟩ g w d6 a d
 refine bE d fun D j d=>q 2 rfl ?_
 refine jN Unit [0,1,5,7,8] (fun _=>[(71,.bool D)]) (fun _=>St w0 ros (row 96 (rI .u32) i.v k::rs)) rfl ?_ ?_
 ·rcases iteS j with ⟨E,j⟩ | ⟨E,j⟩
  ·have c4:=someI j
   refine dR [0,1,3,7,7,7,39,119,247,503,1023,7,2055,7,7,16391,57351,122887,253959,522247,1048575,2097151] [] 0 folM ?_
   replace a:=a.drew
   exact Dz [0,1,2,3,4,5,6,7,8,9,10,11,12,13,14,15,16,17,18,19,20,21] [] (qR 3 rfl (rK 52 rfl (dT E) (qR 18 rfl (rQ rfl (pt_ (.bool D) e0 rfl (eqv c4 rfl)) (Rn QSn (jr () a))))))
  ·refine bE j fun d7 a4 j=>bE j fun d8 a5 j=>?_
   have c5:=someI j
   refine dR [0,1,3,7,7,7,39,119,247,503,1023,7,2055,7,7,16391,57351,122887,253959,522247,1048575,2097151] [] 0 folM ?_
   replace a:=a.drew
   exact Dz [0,1,2,3,4,5,6,7,8,9,10,11,12,13,14,15,16,17,18,19,20,21] [] (qR 3 rfl (rK 52 rfl (dF E) (qR 4 rfl (rQ rfl (yIa SL_38 e0 e0 a (rdI c) a4) (rQ rfl (yI O_96 e0 a (rdI c) a4) (qR 7 rfl (rQ rfl (yIaW SL_38 e0 e0 a rO0 a5) (rQ rfl (yI O_96 e0 a rO0 (getW_g a5)) (qR 3 rfl (rQ rfl (pf_ (.bool D) e0 rfl (eqv c5 e0)) (Rn QSn (jr () a))))))))))))
 rintro _ g w a
 refine q 1 rfl ?_
 refine cJ d (fun c6 d=>?_) fun c6 d=>?_
 ·refine q 16 rfl (bE d fun d9 a6 d=>y (yIa SL_38 e0 e0 a (rdI c) a6) (y (yI O_96 e0 a (rdI c) a6) (q 11 rfl (cI d (fun c7 d=>?_) fun c7 d=>?_))))
  ·refine q 2 rfl ?_
   cases d
   exact xo a
  ·refine q 2 rfl ?_
   cases d
   exact lo a
 ·refine q 2 rfl ?_
  cases d
  exact xo a
theorem integer_divide_ok {o p:LI} {r s:Hdr} {out:LI×LI} (b:integer_divide o p=some out) (f:imm (rI .u32) r.v o∈ros) (d:imm (rI .u32) s.v p∈ros) (a:St w0 ros rs w):
  Calls prog 136 #[r.v,s.v] w (fun e w=>∃ (t u:Hdr),e=.returned (.tuple #[t.v,u.v])∧St w0 (imm (rI .u32) t.v out.1::imm (rI .u32) u.v out.2::ros) rs w):=by
 refine en func136 rfl ntmps136 fun Q h=>bE b fun a6 G b=>q 11 rfl (cZ (integer_compare_ok G f d a) fun w a=>q 3 rfl (cI b (fun H b=>?_) fun H b=>?_))
 ·refine q 3 rfl (bE b fun a7 I b=>cO (slices_Clone_uint32_ok I f a) fun a8 w a=>q 6 rfl ?_)
  cases b
  replace a:=(a.immNh (rI .u32)).fz
  exact h _ _ _ (fin2r results136 ⟨rfl,rfl⟩ ⟨rfl,rfl⟩ ⟨_,_,rfl,(a.facts (allC F1 (allC F0 (allT (allT allI)))))⟩)
 ·refine q 6 rfl (y (yLen SL_38 e0 a (rdI d)) (q 3 rfl (cI b (fun J b=>?_) fun J b=>?_)))
  ·refine q 4 rfl (bE b fun a9 x b=>y (yIa SL_38 e0 rfl a (rdI d) x) (y (yI O_96 e0 a (rdI d) x) (bE b fun i K b=>cO (integer_short_ok K f a) fun b0 w a=>q 11 rfl (yh (rLt (n:=1) (l:=[i.2]) a SL_38 [.int .u32 i.2] (bp1 e0) rfl rfl (mks1 (cs:=[.int .u32 i.2]) rfl mkI mks0)) fun b1 w a=>bE b fun b2 L b=>?_))))
   replace a:=a.fz
   refine cO (integer_trim_ok L F0 a) fun b3 w a=>q 6 rfl ?_
   cases b
   exact h _ _ _ (fin2r results136 ⟨rfl,rfl⟩ ⟨rfl,rfl⟩ ⟨_,_,rfl,(a.facts (allC F2 (allC F0 (allT (allT (allT allI))))))⟩)
  ·refine q 6 rfl (y (yLen SL_38 e0 a (rdI d)) (bE b fun b4 z b=>q 1 rfl (y (yIa SL_38 e0 e0 a (rdI d) z) (y (yI O_96 e0 a (rdI d) z) (bE b fun b5 N b=>cZ (math_bits_LeadingZeros32_ok N a) fun w a=>bE b fun O R b=>q 7 rfl (cO (integer_up_ok R d a) fun S w a=>q 6 rfl (y (yLen SL_38 e0 a (rdI (mtF f))) (bE b fun b6 T b=>?_))))))))
   refine q 1 rfl (yh (rMk a SL_38 e0 T) fun A w a=>bE b fun b7 U b=>q 8 rfl (cO (integer_up_ok U (mtF f) a) fun b8 w a=>bE b fun b9 V b=>YV wn rfl (rCp a SL_38 rfl e0 (.inr ⟨rfl,rfl,rfl⟩) e0 (rdI F0) V) fun w a=>nf (q 5 rfl (y (yLen SL_38 e0 a (rdI F1)) (q 6 rfl (y (yLen SL_38 e0 a rO0) ?_))))))
   refine bE b fun c0 W b=>q 2 rfl (yh (rMk a SL_38 e0 W) fun B w a=>q 7 rfl (y (yLen SL_38 e0 a rO0) (q 5 rfl ?_)))
   obtain ⟨⟨C,D⟩,X,b⟩:=bs b
   refine lp X [4,8,9,10,11] (fun (j,k,m)=>[(12,iV m)]) (fun (j,k,m)=>St w0 (imm (rI .u32) S.v O::ros) (row 96 (rI .u32) B.v j::row 96 (rI .u32) A.v k::rs)) (fun | (C,D)=>(.exit 0,[],St w0 ros (row 96 (rI .u32) B.v C::row 96 (rI .u32) A.v D::rs))) rfl (a.facts (allC F1 (allT (allT allI)))) rfl ?_ ?_
   ·clear a
    intro g w a
    refine bE b fun c1 E b=>q 6 rfl ?_
    replace a:=(a.k10).fz
    refine y (ySl (k1:=.i64) SL_38 e0 a (rdI F0) (.inr ⟨rfl,rfl⟩) (.inl (congrArg some e0)) E) ?_
    replace a:=a.sub F0 E
    refine bE b fun c2 Z b=>cO (integer_trim_ok Z F0 a) fun c3 w a=>bE b fun c4 a0 b=>q 1 rfl (cO (integer_down_ok a0 F0 a) fun c5 w a=>bE b fun c7 a1 b=>q 9 rfl ?_)
    replace a:=a.fz
    refine cO (integer_trim_ok a1 F0 a) fun c8 w a=>q 6 rfl ?_
    cases b
    exact h _ _ _ (fin2r results136 ⟨rfl,rfl⟩ ⟨rfl,rfl⟩ ⟨_,_,rfl,(a.facts (allC F0 (allC F2 (allT (allT (allT (allT (allT (allT allI)))))))))⟩)
   rintro ⟨j,k,m⟩ g w d0 a c
   refine q 7 rfl (cI c (fun a2 c=>?_) fun a2 c=>?_)
   ·refine q 13 rfl (bE c fun d1 a3 c=>y (ySl SL_38 e0 a rO1 (.inl (congrArg some e0)) (.inl (congrArg some e0)) a3) (bE c fun a4 a5 c=>q 1 rfl ?_))
    replace a:=a.k10
    refine cZ (integer_digit_ok a5 F0 a) fun w a=>bE c fun d2 F c=>y (yIs SL_38 e0 e0 a rO1 F) ?_
    replace a:=a.k10
    refine yt (r_sti (cs:=[.int .u32 a4.2]) a O_96 rfl e0 e0 rfl mkI F) fun w a=>q 8 rfl ?_
    cases c
    exact lo a
   ·refine q 2 rfl ?_
    cases c
    exact xo (a.fc)
theorem integer_DivMod_ok {c:Bool} {r:LI} {d:Bool} {s:LI} {f h:Hdr} {out:Bool×LI×Bool×LI×Int} (b:integer_DivMod c r d s=some out) (E:imm (rI .u32) f.v r∈ros) (F:imm (rI .u32) h.v s∈ros) (a:St w0 ros rs w):
  Calls prog 137 #[.agg #[.bool c,f.v],.agg #[.bool d,h.v]] w (fun e w=>∃ (t u:Hdr),e=.returned (.tuple #[.agg #[.bool out.1,t.v],.agg #[.bool out.2.2.1,u.v],iV out.2.2.2.2])∧St w0 (imm (rI .u32) t.v out.2.1::imm (rI .u32) u.v out.2.2.2.1::ros) rs w):=by
 refine en func137 rfl ntmps137 fun Q x=>q 2 rfl (yb (r_box (vals:=[.bool c,f.v]) a e0 rfl) fun z w a=>yb (r_box (vals:=[.bool d,h.v]) a e0 rfl) fun A w a=>yb (rAl a ZT_40) fun B w a=>yb (rAl a ZT_40) fun C w a=>q 6 rfl (y (lb_ h.v O_38 e0 a R2) (bE b fun G H b=>cO (integer_trim_ok H F a) fun I w a=>?_)))
 refine q 7 rfl (y (yLen SL_38 e0 a (rdI F0)) (q 3 rfl (cI b (fun J b=>?_) fun J b=>?_)))
 ·refine q 2 rfl (y (ybuild (us:=[.bool false,hnil.v]) [] SO_40 bp0 rfl) (y (ybuild (us:=[.bool false,hnil.v]) [] SO_40 bp0 rfl) ?_))
  replace a:=a.k10
  refine sB rfl a ST_40 fun w a=>?_
  replace a:=a.k10
  refine sB rfl a ST_40 fun w a=>q 5 rfl ?_
  cases b
  replace a:=a.immNh (rI .u32)
  exact x _ _ _ (fin3r results137 (rcs2 rfl rfl a R1 ST_40 rfl) (rcs2 rfl rfl a R0 ST_40 rfl) ⟨rfl,rfl⟩ ⟨_,_,rfl,((a.k1a).facts (allC F0 (allC F0 (allT (allT allI)))))⟩)
 ·refine q 5 rfl (y (lb_ f.v O_38 e0 a R3) (bE b fun W K b=>cO (integer_trim_ok K (mtF E) a) fun X w a=>bE b fun o L b=>q 1 rfl (cT_ (integer_divide_ok L F0 F1 a) fun N O w a=>q 11 rfl (y (lb_ (.bool c) O_4 e0 a R3) (q 1 rfl ?_)))))
  refine jW 4 [2,3,4,5,7,8,9] [(32,.bool (c && (decide ((0:Int) < (o.2.length:Int)))))] (St w0 (imm (rI .u32) I.v G::imm (rI .u32) N.v o.1::imm (rI .u32) O.v o.2::ros) (box z 40 [.bool c,f.v]::box A 40 [.bool d,h.v]::box B 40 [.bool false,hnil.v]::box C 40 [.bool false,hnil.v]::rs)) rfl (fun D=>?_) ?_
  ·refine gB 28 rfl (fun p=>?_) fun p=>?_
   ·exact q 1 rfl (y (yLen SL_38 e0 a (rdI F1)) (q 2 rfl (D _ _ ((a.k21).facts (allC F3 (allC F0 (allC F1 (allT (allT (allT (allT allI)))))))) (hasC (congrArg Value.bool (andT p)) rfl))))
   ·exact q 4 rfl (D _ _ ((a.k21).facts (allC F3 (allC F0 (allC F1 (allT (allT (allT (allT allI)))))))) (hasC (congrArg Value.bool (andF p)) rfl))
  intro g w a
  refine q 2 rfl ?_
  refine jC (LI×LI×Hdr×Hdr) [2,3,4,5] (fun (i,j,k,m)=>[(8,k.v),(9,m.v)]) (fun (i,j,k,m) w=>St w0 (imm (rI .u32) k.v i::imm (rI .u32) m.v j::ros) (box z 40 [.bool c,f.v]::box A 40 [.bool d,h.v]::box B 40 [.bool false,hnil.v]::box C 40 [.bool false,hnil.v]::rs) w∧integer_DivMod_j2 c d i j=some out) rfl ?_ ?_
  ·rintro ⟨i,j,k,m⟩ g w ⟨a,b⟩
   refine q 4 rfl (y (lb_ (.bool c) O_4 e0 a R0) (q 1 rfl (y (lb_ (.bool d) O_4 e0 a R1) (y (yneb (by kernel_rfl) e0 e0) (bE b fun Z R b=>q 1 rfl (cO (integer_big_ok R F0 a) fun a0 w a=>bE b fun a1 S b=>q 1 rfl (cO (integer_big_ok S F2 a) fun a2 w a=>?_)))))))
   replace a:=a.k16
   refine sB rfl a ST_40 fun w a=>?_
   replace a:=a.k1d
   refine sB rfl a ST_40 fun w a=>q 4 rfl ?_
   cases b
   exact x _ _ _ (fin3r results137 (rcs2 rfl rfl a R1 ST_40 rfl) (rcs2 rfl rfl a R0 ST_40 rfl) ⟨rfl,rfl⟩ ⟨_,_,rfl,((a.k1a).facts (allC F1 (allC F0 (allT (allT (allT (allT allI)))))))⟩)
  refine cJ b (fun T b=>?_) fun T b=>?_
  ·refine q 2 rfl (yh (rLt (n:=1) (l:=[1]) a SL_38 [.int .u32 1] (bp1 rfl) rfl rfl (mks1 (cs:=[.int .u32 1]) rfl mkI mks0)) fun a3 w a=>bE b fun a4 U b=>?_)
   replace a:=a.fz
   exact cO (integer_plus_ok U F2 F0 a) fun a5 w a=>bE b fun a6 V b=>q 2 rfl (cO (integer_minus_ok V F2 F4 a) fun a7 w a=>q 3 rfl (jx (_,_,_,_) ⟨(a.facts (allC F1 (allC F0 (allT (allT (allT (allT (allT (allT allI))))))))),b⟩))
  ·exact q 1 rfl (jx (_,_,_,_) ⟨(a.facts (allC F1 (allC F2 (allT (allT (allT allI)))))),b⟩)
theorem integer_Quo_ok {d:Bool} {l:LI} {f:Bool} {m:LI} {h i:Hdr} {out:Bool×LI×Int} (b:integer_Quo d l f m=some out) (r:imm (rI .u32) h.v l∈ros) (s:imm (rI .u32) i.v m∈ros) (a:St w0 ros rs w):
  Calls prog 102 #[.agg #[.bool d,h.v],.agg #[.bool f,i.v]] w (fun e w=>∃ (n:Hdr),e=.returned (.tuple #[.agg #[.bool out.1,n.v],iV out.2.2])∧St w0 (imm (rI .u32) n.v out.2.1::ros) rs w):=by
 refine en func102 rfl ntmps102 fun Q o=>q 2 rfl (yb (r_box (vals:=[.bool d,h.v]) a e0 rfl) fun B w a=>yb (r_box (vals:=[.bool f,i.v]) a e0 rfl) fun C w a=>yb (rAl a ZT_40) fun t w a=>q 5 rfl (y (lbs_ [.bool d,h.v] ST_40 e0 a R2) (y (lbs_ [.bool f,i.v] ST_40 e0 a R1) (bE b fun c u b=>cT_ (integer_DivMod_ok u r s a) fun j x w a=>q 4 rfl ?_))))
 refine yb (rAl a ZT_40) fun z w a=>yb (rAl a ZT_40) fun D w a=>?_
 replace a:=a.k10
 refine sB rfl a ST_40 fun w a=>?_
 replace a:=a.k10
 refine sB rfl a ST_40 fun w a=>q 9 rfl ?_
 refine jW 5 [4,6,8] [(23,.bool ((decide (c.2.2.2.2=0)) && (decide ((0:Int) < (c.2.2.2.1.length:Int)))))] (St w0 (imm (rI .u32) j.v c.2.1::ros) (box t 40 [.bool false,hnil.v]::box z 40 [.bool c.1,j.v]::rs)) rfl (fun p=>?_) ?_
 ·refine gB 18 rfl (fun k=>?_) fun k=>?_
  ·exact q 1 rfl (y (lb_ x.v O_38 e0 a R0) (y (yLen SL_38 e0 a (rdI F1)) (q 2 rfl (p _ _ ((a.k2i).facts (allC F0 (allT (allT allI)))) (hasC (congrArg Value.bool (andT k)) rfl)))))
  ·exact q 5 rfl (p _ _ ((a.k2i).facts (allC F0 (allT (allT allI)))) (hasC (congrArg Value.bool (andF k)) rfl))
 intro g w a
 refine q 2 rfl ?_
 refine cJ b (fun A b=>?_) fun A b=>?_
 ·refine q 2 rfl (y (ybuild (us:=[.bool false,hnil.v]) [] SO_40 bp0 rfl) (sB rfl a ST_40 fun w a=>q 5 rfl ?_))
  cases b
  replace a:=a.immNh (rI .u32)
  exact o _ _ _ (fin2r results102 (rcs2 rfl rfl a R0 ST_40 rfl) ⟨rfl,rfl⟩ ⟨_,rfl,((a.k19).facts (allC F0 (allT (allT allI))))⟩)
 ·refine q 4 rfl (y (lbs_ [.bool c.1,j.v] ST_40 e0 a R1) (q 1 rfl (sB rfl a ST_40 fun w a=>q 4 rfl ?_)))
  cases b
  exact o _ _ _ (fin2r results102 (rcs2 rfl rfl a R0 ST_40 rfl) ⟨rfl,rfl⟩ ⟨_,rfl,(a.k19)⟩)
theorem exact_sweep_ok {t i:List (Bool×LI)} {f:Bool} {u:LI} {j:Bool} {x:LI} {c:Bool} {z:LI} {k l h m d:Hdr} {out:(List (Bool×LI))} (n:exact_sweep t i f u j x c z=some out) (E:imm (rI .u32) h.v u∈ros) (F:imm (rI .u32) m.v x∈ros) (G:imm (rI .u32) d.v z∈ros) (a:St w0 ros (row 40 (rP rB (rS (rI .u32))) k.v t::row 40 (rP rB (rS (rI .u32))) l.v i::rs) w):
  Calls prog 155 #[k.v,l.v,.agg #[.bool f,h.v],.agg #[.bool j,m.v],.agg #[.bool c,d.v]] w (fun e w=>e=.returned (.tuple #[])∧St w0 ros (row 40 (rP rB (rS (rI .u32))) k.v out::row 40 (rP rB (rS (rI .u32))) l.v i::rs) w):=by
 refine en func155 rfl ntmps155 fun Q H=>q 2 rfl (yb (r_box (vals:=[.bool f,h.v]) a e0 rfl) fun I w a=>yb (r_box (vals:=[.bool j,m.v]) a e0 rfl) fun J w a=>yb (r_box (vals:=[.bool c,d.v]) a e0 rfl) fun K w a=>q 5 rfl (y (yLen SL_28 e0 a rO4) (bE n fun A L n=>q 4 rfl ?_)))
 refine lp L [0,7,8,9,12,13] (fun (o,p)=>[(14,iV p)]) (fun (o,p)=>St w0 ros (row 40 (rP rB (rS (rI .u32))) k.v o::row 40 (rP rB (rS (rI .u32))) l.v i::box I 40 [.bool f,h.v]::box J 40 [.bool j,m.v]::box K 40 [.bool c,d.v]::rs)) (fun | A=>(.exit 0,[],St w0 ros (row 40 (rP rB (rS (rI .u32))) k.v A::row 40 (rP rB (rS (rI .u32))) l.v i::rs))) rfl (a.k2j) rfl ?_ ?_
 ·clear a
  intro g w a
  refine q 1 rfl ?_
  cases n
  exact H _ _ _ (fin0n results155 ⟨rfl,a⟩)
 rintro ⟨o,p⟩ g w Z a b
 refine q 6 rfl (cI b (fun N b=>?_) fun N b=>?_)
 ·refine q 7 rfl (bE b fun r B b=>y (yIa SL_28 e0 e0 a rO1 B) ?_)
  obtain ⟨a0,a1,cc67,a⟩:=a.ld rO1 B
  replace a:=a.eltP
  obtain ⟨a2,a3,rfl,a⟩:=a
  replace a:=a.eltB
  obtain ⟨rfl,a⟩:=a
  replace a:=a.eltS
  obtain ⟨s,rfl,a⟩:=a
  refine y (yCn (cs:=[.bool r.1,s.v]) ST_40 rfl e0 cc67) (yb (rAl a ZT_40) fun a4 w a=>q 1 rfl (sB rfl a ST_40 fun w a=>bE b fun O C b=>bE b fun a5 R b=>bE b fun a6 S b=>bE b fun a7 T b=>bE b fun U V b=>bE b fun a8 D b=>q 2 rfl (dR [0,0,0,0,0,24,56,124,0,0,1020,2044,0,8188,16380,32764,32764,65535,196607] [7,10,11,13,18] 5 folM ?_)))
  replace a:=a.drew
  refine D1 [0,1,2,3,4,5,6,8,9,12] [] 7 rfl (qR 2 rfl (rQ rfl (lbs_ [.bool j,m.v] ST_40 e0 a R4) (qR 2 rfl (rQ rfl (yIa SL_28 e0 e0 a rO1 C) ?_))))
  obtain ⟨a9,b0,cc82,a⟩:=a.ld rO1 C
  replace a:=a.eltP
  obtain ⟨b1,b2,rfl,a⟩:=a
  replace a:=a.eltB
  obtain ⟨rfl,a⟩:=a
  replace a:=a.eltS
  obtain ⟨W,rfl,a⟩:=a
  refine rQ rfl (yCn (cs:=[.bool O.1,W.v]) ST_40 rfl e0 cc82) (rQ rfl (lbs_ [.bool f,h.v] ST_40 e0 a R3) (rQ rfl (lbs_ [.bool r.1,s.v] ST_40 e0 a R0) (rQ rfl (lbs_ [.bool c,d.v] ST_40 e0 a R5) (Rn QSn (kO (integer_Mul_ok R (F_2 F) F0 a) fun b3 w a=>dU (D1 [] [0,1,8,9,12] 10 rfl (Rn (qS rfl (qS rfl (sY rfl (lbs_ [.bool f,h.v] ST_40 e0 a R3) (sY rfl (lbs_ [.bool r.1,s.v] ST_40 e0 a R0) (sY rfl (lbs_ [.bool c,d.v] ST_40 e0 a R5) QSn))))) (kO (integer_Mul_ok S (F_3 E) F2 a) fun b4 w a=>dU (D1 [] [0,1,12] 11 rfl (Rn (qS rfl (qS rfl (sY rfl (lbs_ [.bool c,d.v] ST_40 e0 a R5) QSn))) (kO (integer_Sub_ok T F1 F0 a) fun b5 w a=>?_)))))))))))
  refine dU (D1 [] [0,1,12] 13 rfl (Rn (qS rfl (qS rfl (sY rfl (lbs_ [.bool c,d.v] ST_40 e0 a R5) QSn))) (kO (integer_Quo_ok V F0 (F_5 G) a) fun X w a=>dU (D0 [14,15,16,17] [0,1] 18 rfl (qR 3 rfl (rQ rfl (yIs SL_28 e0 e0 a rO1 D) (Rn (qS rfl (qS rfl QSn)) ?_)))))))
  replace a:=a.k10
  refine LT wn (r_stn (cs:=[.bool U.1,X.v]) a ST_40 e0 e0 rfl (mkP mkB (mkS F0)) D) fun w a=>Dz [] [16] (Rn (qS rfl QSn) (qx 6 rfl ?_))
  cases b
  exact lo ((a.k2c).fc)
 ·refine q 2 rfl ?_
  cases b
  exact xo (a.k2k)
theorem exact_reduced_step_ok {T:List (List (Bool×LI))} {p:LI} {j:Bool} {G:LI} {x s H U:Int} {r:Nat} {c:Hdr} {V:List Hdr} {i m:Hdr} {out:(List (List (Bool×LI)))×LI×Bool×LI×Int} (b:exact_reduced_step T p j G x s H U=some out) (a9:imm (rI .u32) m.v G∈ros) (a:St w0 ros (box r 133 [c.v,i.v,.bool j,m.v,iV x]::row 28 rH c.v V::fam 40 (rP rB (rS (rI .u32))) V T::row 3 I1 i.v p::rs) w):
  Calls prog 135 #[(pB r),iV s,iV H,iV U] w (fun e w=>∃ (W:List Hdr) (X Z:Hdr),e=.returned (.tuple #[])∧St w0 (imm (rI .u32) Z.v out.2.2.2.1::ros) (row 28 rH c.v W::fam 40 (rP rB (rS (rI .u32))) W out.1::row 3 I1 X.v out.2.1::box r 133 [c.v,X.v,.bool out.2.2.1,Z.v,iV out.2.2.2.2]::rs) w):=by
 refine en func135 rfl ntmps135 fun Q b0=>q 8 rfl ?_
 refine jC ((List (List (Bool×LI)))×Int×(List Hdr)) [0,1,2] (fun (z,o,k)=>[]) (fun (z,o,k) w=>St w0 ros (row 28 rH c.v k::fam 40 (rP rB (rS (rI .u32))) k z::row 3 I1 i.v p::box r 133 [c.v,i.v,.bool j,m.v,iV o]::rs) w∧exact_reduced_step_j1 H s j G p z o=some out) rfl ?_ ?_
 ·rintro ⟨z,o,k⟩ g w ⟨a,b⟩
  refine q 6 rfl (y (lb_ c.v O_32 e0 a R3) (bE b fun c2 I b=>q 1 rfl ?_))
  obtain ⟨c3,A⟩:=a.famI R1 I
  refine y (yIa SLH_32 e0 e0 a rO0 A) (y (yF1 O_28 e0 a rO0 A rfl) (bE b fun f a0 b=>q 1 rfl (y (yIa SL_28 e0 e0 a (rdF R1 A I) a0) ?_)))
  obtain ⟨c4,c5,cc29,a⟩:=a.ld (rdF R1 A I) a0
  replace a:=a.eltP
  obtain ⟨c6,c7,rfl,a⟩:=a
  replace a:=a.eltB
  obtain ⟨rfl,a⟩:=a
  replace a:=a.eltS
  obtain ⟨h,rfl,a⟩:=a
  refine y (yCn (cs:=[.bool f.1,h.v]) ST_40 rfl e0 cc29) (yb (rAl a ZT_40) fun J w a=>sB rfl a ST_40 fun w a=>q 8 rfl (y (lb_ c.v O_32 e0 a R4) (y (yLenF SLH_32 e0 a rO1 R2) (bE b fun a1 b2 b=>q 4 rfl ?_))))
  refine lp b2 [0,1,2,8,61,62] (fun (K,B)=>[(63,iV B)]) (fun (K,B)=>St w0 (imm (rI .u32) h.v f.2::ros) (row 28 rH c.v k::fam 40 (rP rB (rS (rI .u32))) k K::row 3 I1 i.v p::box r 133 [c.v,i.v,.bool j,m.v,iV o]::box J 40 [.bool f.1,h.v]::rs)) (fun | a1=>(.exit 0,[],St w0 (imm (rI .u32) h.v f.2::ros) (row 28 rH c.v k::fam 40 (rP rB (rS (rI .u32))) k a1::row 3 I1 i.v p::box r 133 [c.v,i.v,.bool j,m.v,iV o]::box J 40 [.bool f.1,h.v]::rs))) rfl (a.k2l) rfl ?_ ?_
  ·clear a
   intro g w a
   refine bE b fun c8 b3 b=>q 2 rfl (dR [0,0,0,4,12,28,0,64,252,0,509,1533,3581,8191,16383,32767] [7,8,12,15] 4 folM ?_)
   replace a:=a.drew
   refine D1 [0,1,2,3,4,5,6,9] [] 7 rfl (qR 5 rfl (rQ rfl (lb_ i.v O_23 e0 a R3) (qR 1 rfl (rQ rfl (lbs_ [.bool f.1,h.v] ST_40 e0 a R4) (Rn QSn (LH wn (rLt (n:=1) (l:=[s]) a SL_23 [iV s] (bp1 e0) rfl rfl (mks1 (cs:=[iV s]) rfl mkI mks0)) fun c9 w a=>dU (D1 [] [0,1,2,3,4,5,9] 8 rfl (Rn (qS rfl (qS rfl (qS rfl (qS rfl (qS rfl (sY rfl (lb_ i.v O_23 e0 a R4) (sY rfl (lbs_ [.bool f.1,h.v] ST_40 e0 a R5) QSn))))))) ?_))))))))
   replace a:=a.k1d
   refine LH wn (rAp a SL_23 e0 e0 rO1 b3) fun a2 w a=>dU (D0 [10,11] [0,1,9] 12 rfl (qR 2 rfl (Rn (qS rfl (qS rfl (sY rfl (lbs_ [.bool f.1,h.v] ST_40 e0 a R5) QSn))) ?_)))
   replace a:=a.k1e
   refine LT wn (r_stb1 (vals':=[c.v,a2.v,.bool j,m.v,iV o]) a O_23 e0 e0 rfl rfl rfl rfl) fun w a=>D0 [13,14] [1,9] 15 rfl (qR 2 rfl (Rn (qS rfl (sY rfl (lbs_ [.bool f.1,h.v] ST_40 e0 a R5) QSn)) (LT wn (r_stbn (vals':=[c.v,a2.v,.bool f.1,h.v,iV o]) (us:=[.bool f.1,h.v]) a ST_40 e0 e0 rfl rfl (one_of rfl) rfl) fun w a=>Dz [] [] (Rn QSn (qx 0 rfl ?_)))))
   cases b
   exact b0 _ _ _ (fin0n results135 ⟨_,_,_,rfl,(a.k2m)⟩)
  rintro ⟨K,B⟩ g w b4 a d
  refine q 6 rfl (cI d (fun b5 d=>?_) fun b5 d=>?_)
  ·refine q 7 rfl (bE d fun d0 C d=>?_)
   obtain ⟨d1,t⟩:=a.famI R1 C
   refine y (yIa SLH_32 e0 e0 a rO0 t) (y (yF1 O_28 e0 a rO0 t rfl) (q 11 rfl ?_))
   refine jC (List (List (Bool×LI))) [0,1,2,8,61,62,63] (fun D=>[]) (fun D w=>St w0 (imm (rI .u32) h.v f.2::ros) (row 28 rH c.v k::fam 40 (rP rB (rS (rI .u32))) k D::row 3 I1 i.v p::box r 133 [c.v,i.v,.bool j,m.v,iV o]::box J 40 [.bool f.1,h.v]::rs) w∧exact_reduced_step_j5 B D=some b4) rfl ?_ ?_
   ·rintro D g w ⟨a,b⟩
    refine q 6 rfl ?_
    cases b
    exact lo a
   refine cIn d (fun b6 d=>?_) fun b6 d=>?_
   ·exact q 1 rfl (jx _ ⟨a,d⟩)
   ·refine bE d fun d2 L d=>bE d fun b7 a3 d=>bE d fun u110 gu110 d=>bE d fun d3 b8 d=>bE d fun d4 b9 d=>dR [0,0,2,6,14,0,62,126,0,0,768,1792,0,0,8192,24576,57344,131071] [17] 1 folM ?_
    replace a:=a.drew
    refine D1 [0,1,2,3,4,5,6,7,8,9,10,11,12,13,14,15,16] [] 17 rfl (qR 4 rfl (rQ rfl (lb_ c.v O_32 e0 a R3) (qR 1 rfl ?_)))
    obtain ⟨d5,E⟩:=a.famI R1 L
    refine rQ rfl (yIa SLH_32 e0 e0 a rO0 E) (rQ rfl (yF1 O_28 e0 a rO0 E rfl) (qR 2 rfl (rQ rfl (yIa SL_28 e0 e0 a (rdF R1 t C) a3) ?_)))
    obtain ⟨d6,d7,cc113,a⟩:=a.ld (rdF R1 t C) a3
    replace a:=a.eltP
    obtain ⟨d8,d9,rfl,a⟩:=a
    replace a:=a.eltB
    obtain ⟨rfl,a⟩:=a
    replace a:=a.eltS
    obtain ⟨c0,rfl,a⟩:=a
    refine rQ rfl (yCn (cs:=[.bool b7.1,c0.v]) ST_40 rfl e0 cc113) (rQ rfl (lbs_ [.bool f.1,h.v] ST_40 e0 a R4) (qR 3 rfl (rQ rfl (lbs_ [.bool j,m.v] ST_40 e0 a R3) (Rn QSn ?_))))
    replace a:=(a.k10).foc2 gu110 t C E L
    refine kZ (exact_sweep_ok b8 F0 F1 (F_2 a9) a) fun w a=>?_
    replace a:=a.unfoc2 gu110 t E L b9
    exact dU (Dz [] [] (Rn QSn (qx 0 rfl (jx _ ⟨((a.k2n).facts (allC F1 (allT (allT allI)))),d⟩))))
  ·refine q 2 rfl ?_
   cases d
   exact xo a
 refine cI b (fun c1 b=>?_) fun c1 b=>?_
 ·refine q 1 rfl (bE b fun e1 a4 b=>bE b fun e2 a5 b=>bE b fun e3 N b=>bE b fun e4 a6 b=>dR [0,1,3,7,0,0,32,96,224,0,0,1024,3072,7168,0,31744,64512,0,131072,393216,917504,0,4063232,8257536,16776703,33553919,67108863,134217727] [25,27] 2 folM ?_)
  replace a:=a.drew
  refine D0 [0,1,2,3,4,5,6,7,8,9,10,11,12,13,14,15,16,17,18,19,20,21,22,23,24] [] 25 rfl (qR 3 rfl (rQ rfl (lb_ c.v O_32 e0 a R0) (qR 4 rfl (rQ rfl (lb_ c.v O_32 e0 a R0) (qR 4 rfl (rQ rfl (lb_ c.v O_32 e0 a R0) (qR 1 rfl ?_)))))))
  obtain ⟨a7,O⟩:=a.famI R2 a4
  refine rQ rfl (yIa SLH_32 e0 e0 a rO1 O) (rQ rfl (yF1 O_28 e0 a rO1 O rfl) (qR 3 rfl (rQ rfl (lb_ c.v O_32 e0 a R0) (qR 1 rfl ?_))))
  obtain ⟨a8,R⟩:=a.famI R2 a5
  refine rQ rfl (yIa SLH_32 e0 e0 a rO1 R) (rQ rfl (yF1 O_28 e0 a rO1 R rfl) ?_)
  obtain ⟨e5,F⟩:=setI_len (u:=a7) N (a.famL (mtR (mtR mhR)))
  refine rQ rfl (yIs SLH_32 e0 e0 a rO1 F) (Rn QSn ?_)
  replace a:=a.k10
  refine LT wn (r_sti (cs:=[a7.v]) a O_28 rfl e0 e0 rfl (mkF rfl) F) fun w a=>D0 [26] [9] 27 rfl ?_
  obtain ⟨e6,S⟩:=setI_len (u:=a8) a6 (swap_len N F (a.famL (mtR (mtR mhR))))
  refine rQ rfl (yIs SLH_32 e0 e0 a rO0 S) (Rn (qS rfl QSn) (LT wn (r_sti (cs:=[a8.v]) a O_28 rfl e0 e0 rfl (mkF rfl) S) fun w a=>?_))
  replace a:=(a.k16).fswap O a4 R a5 F N S a6
  refine Dz [] [] (Rn QSn (qx 6 rfl (y (lb_ (iV x) O_3 e0 a R2) (q 3 rfl ?_))))
  replace a:=a.k16
  exact yt (r_stb1 (vals':=[c.v,i.v,.bool j,m.v,iV (wneg .i64 x)]) a O_3 e0 e0 rfl rfl rfl rfl) fun w a=>q 1 rfl (jx (_,_,_) ⟨(a.k2o),b⟩)
 ·exact q 1 rfl (jx (_,_,_) ⟨(a.k1o),b⟩)
theorem exact_eliminate_ok {S:List (List (Bool×LI))} {T:Int} {b:Hdr} {U:List Hdr} {out:(List (List (Bool×LI)))×LI×Bool×LI×Int} (j:exact_eliminate S T=some out) (a:St w0 ros (row 28 rH b.v U::fam 40 (rP rB (rS (rI .u32))) U S::rs) w):
  Calls prog 97 #[b.v,iV T] w (fun e w=>∃ (V:List Hdr) (W X:Hdr),e=.returned (.agg #[b.v,W.v,.bool out.2.2.1,X.v,iV out.2.2.2.2])∧St w0 (imm (rI .u32) X.v out.2.2.2.1::ros) (row 28 rH b.v V::fam 40 (rP rB (rS (rI .u32))) V out.1::row 3 I1 W.v out.2.1::rs) w):=by
 refine en func97 rfl ntmps97 fun Q b0=>q 2 rfl (yb (rAl a ZT_133) fun k w a=>bE j fun Z b1 j=>q 6 rfl (cO (integer_FromInt_ok b1 a) fun a0 w a=>y (ybuild (us:=[b.v,hnil.v,.bool Z.1,a0.v,iV 1]) [(0,b.v),(2,.agg #[.bool Z.1,a0.v]),(3,iV 1)] SO_133 (bp3 e0 e0 rfl) rfl) (yb (rAl a ZT_133) fun l w a=>sB rfl a ST_133 fun w a=>q 13 rfl ?_)))
 obtain ⟨⟨a1,a2,H,a3,I⟩,b2,j⟩:=bs j
 replace a:=a.rowNh 3 I1
 refine lpN ((List Hdr)×Hdr×Hdr) ((List Hdr)×Hdr×Hdr) b2 [0,4,5,12] (fun (m,n,o,p,r,s) (f,d,h)=>[(13,iV s)]) (fun (m,n,o,p,r,s) (f,d,h)=>St w0 (imm (rI .u32) h.v p::ros) (row 28 rH b.v f::fam 40 (rP rB (rS (rI .u32))) f m::box k 133 [hnil.v,hnil.v,.bool false,hnil.v,iV 0]::row 3 I1 d.v n::box l 133 [b.v,d.v,.bool o,h.v,iV r]::rs)) (fun | (a1,a2,H,a3,I),(J,t,u)=>(.exit 0,[],St w0 (imm (rI .u32) u.v a3::ros) (row 28 rH b.v J::fam 40 (rP rB (rS (rI .u32))) J a1::box k 133 [hnil.v,hnil.v,.bool false,hnil.v,iV 0]::row 3 I1 t.v a2::box l 133 [b.v,t.v,.bool H,u.v,iV I]::rs))) rfl (_,_,_) (a.k2p) rfl ?_ ?_
 ·clear a
  rintro ⟨J,t,u⟩ g w a
  refine q 4 rfl (y (lbs_ [b.v,t.v,.bool H,u.v,iV I] ST_133 e0 a R4) ?_)
  replace a:=a.k16
  refine sB rfl a ST_133 fun w a=>q 4 rfl ?_
  cases j
  exact b0 _ _ _ (fin1r results97 (rcs2 rfl rfl a R0 ST_133 rfl) ⟨_,_,_,rfl,(a.k24)⟩)
 rintro ⟨m,n,o,p,r,s⟩ ⟨f,d,h⟩ g w b3 a i
 refine q 6 rfl (cI i (fun b4 i=>?_) fun b4 i=>?_)
 ·refine q 3 rfl ?_
  refine jC ((List (List (Bool×LI)))×LI×Bool×LI×Int×(List Hdr)×Hdr×Hdr) [0,4,5,12,13] (fun (x,z,A,B,C,D,E,F)=>[]) (fun (x,z,A,B,C,D,E,F) w=>St w0 (imm (rI .u32) F.v B::ros) (row 28 rH b.v D::fam 40 (rP rB (rS (rI .u32))) D x::box k 133 [hnil.v,hnil.v,.bool false,hnil.v,iV 0]::row 3 I1 E.v z::box l 133 [b.v,E.v,.bool A,F.v,iV C]::rs) w∧exact_eliminate_j12 s x z A B C=some b3) rfl ?_ ?_
  ·rintro ⟨x,z,A,B,C,D,E,F⟩ g w ⟨a,j⟩
   refine q 5 rfl ?_
   cases j
   exact ln (_,_,_) a
  refine q 10 rfl (y (lb_ d.v O_23 e0 a R4) (y (yLen SL_23 e0 a rO3) (bE i fun b6 b7 i=>q 10 rfl ?_)))
  refine lpN Unit ((List Hdr)×Hdr×Hdr) b7 [0,4,5,6,7,12,13] (fun K _=>[(8,iV K)]) (fun K _=>St w0 (imm (rI .u32) h.v p::ros) (row 28 rH b.v f::fam 40 (rP rB (rS (rI .u32))) f m::box k 133 [hnil.v,hnil.v,.bool false,hnil.v,iV 0]::row 3 I1 d.v n::box l 133 [b.v,d.v,.bool o,h.v,iV r]::rs)) (fun | .inl (a4,a5,a6,a7,a8),(L,N,O)=>(.exit 1,[],St w0 (imm (rI .u32) O.v a7::ros) (row 28 rH b.v L::fam 40 (rP rB (rS (rI .u32))) L a4::box k 133 [hnil.v,hnil.v,.bool false,hnil.v,iV 0]::row 3 I1 N.v a5::box l 133 [b.v,N.v,.bool a6,O.v,iV a8]::rs)) | .inr (),(_,_,_)=>(.exit 2,[],St w0 (imm (rI .u32) h.v p::ros) (row 28 rH b.v f::fam 40 (rP rB (rS (rI .u32))) f m::box k 133 [hnil.v,hnil.v,.bool false,hnil.v,iV 0]::row 3 I1 d.v n::box l 133 [b.v,d.v,.bool o,h.v,iV r]::rs))) rfl () a rfl ?_ ?_
  ·clear a
   rintro ⟨L,N,O⟩ g w a
   rcases b6 with ⟨a4,a5,a6,a7,a8⟩ | ⟨⟩
   ·exact q 2 rfl (jx (_,_,_,_,_,_,_,_) ⟨a,i⟩)
   ·exact q 2 rfl (jx (_,_,_,_,_,_,_,_) ⟨a,i⟩)
  rintro K _ g w c5 a c
  refine q 5 rfl (y (yLenF SLH_32 e0 a rO0 R1) (q 3 rfl (cI c (fun b9 c=>?_) fun b9 c=>?_)))
  ·refine q 8 rfl (bE c fun c6 R c=>?_)
   obtain ⟨c7,G⟩:=a.famI R1 R
   refine y (yIa SLH_32 e0 e0 a rO0 G) (y (yF1 O_28 e0 a rO0 G rfl) (bE c fun c0 a9 c=>q 1 rfl (y (yIa SL_28 e0 e0 a (rdF R1 G R) a9) ?_)))
   obtain ⟨c8,c9,cc521,a⟩:=a.ld (rdF R1 G R) a9
   replace a:=a.eltP
   obtain ⟨d0,d1,rfl,a⟩:=a
   replace a:=a.eltB
   obtain ⟨rfl,a⟩:=a
   replace a:=a.eltS
   obtain ⟨c1,rfl,a⟩:=a
   refine y (yCn (cs:=[.bool c0.1,c1.v]) ST_40 rfl e0 cc521) (bE c fun d2 c2 c=>cZ (integer_Sign_ok c2 F0 a) fun w a=>q 3 rfl ?_)
   refine cIn c (fun c3 c=>?_) fun c3 c=>?_
   ·refine q 8 rfl ?_
    cases c
    exact ln () (a.facts (allC F1 (allT (allT allI))))
   ·refine q 5 rfl (bE c fun d3 c4 c=>?_)
    replace a:=a.k2q
    refine cR_ (exact_reduced_step_ok c4 F1 a) fun d4 d5 d6 w a=>q 5 rfl ?_
    cases c
    exact lx (_,_,_) ((a.k2r).facts (allC F0 (allT (allT (allT allI)))))
  ·refine q 2 rfl ?_
   cases c
   exact lx ([],hnil,hnil) a
 ·refine q 2 rfl ?_
  cases i
  exact lx (_,_,_) a
theorem exact_Rank_ok {d:List (List (Bool×LI))} {f:Hdr} {out:Int×Int} (a:exact_Rank d=some out) (c:imm (rS (rP rB (rS (rI .u32)))) f.v d∈ros) (b:St w0 ros rs w):
  Calls prog 73 #[f.v] w (fun e w=>e=.returned (.tuple #[iV out.1,iV out.2])∧St w0 ros rs w):=by
 refine en func73 rfl ntmps73 fun Q g=>bE a fun r i a=>q 9 rfl (cZ (exact_check_ok i c b) fun w b=>q 10 rfl ?_)
 refine cIn a (fun j a=>?_) fun j a=>?_
 ·refine q 5 rfl (bE a fun s k a=>?_)
  replace b:=b.immNh (rP rB (rS (rI .u32)))
  refine cT_ (exact_twin_ok k (mtF c) F0 b) fun l t w b=>bE a fun u m a=>q 1 rfl (cZ (exact_columns_ok m (mtF c) b) fun w b=>bE a fun h n a=>cR_ (exact_eliminate_ok n b) fun x o p w b=>y (yFv (cs:=[l.v,o.v,.bool h.2.2.1,p.v,iV h.2.2.2.2]) FV_133_1 e0 rfl) (y (yLen SL_23 e0 b rO2) (q 5 rfl ?_)))
  cases a
  exact zb g results73 ⟨rfl,((b.k1b).fc)⟩
 ·refine q 9 rfl ?_
  cases a
  exact zb g results73 ⟨rfl,b⟩
theorem prove_free_ok {i:List (List (Bool×LI))} {j:Int} {k:Hdr} {out:(List Bool)} (c:prove_free i j=some out) (p:imm (rS (rP rB (rS (rI .u32)))) k.v i∈ros) (a:St w0 ros rs w):
  Calls prog 43 #[k.v,iV j] w (fun e w=>∃ (l:Hdr),e=.returned (l.v)∧St w0 ros (row 4 rB l.v out::rs) w):=by
 refine en func43 rfl ntmps43 fun Q r=>bE c fun B s c=>q 8 rfl (yh (rMk a SL_88 e0 s) fun m w a=>bE c fun n t c=>q 16 rfl ?_)
 refine lp t [0,5,12] (fun (f,d,h)=>[(6,iV d),(13,iV h)]) (fun (f,d,h)=>St w0 ros (row 4 rB m.v f::rs)) (fun | n=>(.exit 0,[],St w0 ros (row 4 rB m.v n::rs))) rfl a rfl ?_ ?_
 ·clear a
  intro g w a
  refine q 9 rfl ?_
  cases c
  exact r _ _ _ (fin1r results43 ⟨rfl,rfl⟩ ⟨_,rfl,a⟩)
 rintro ⟨f,d,h⟩ g w C a b
 refine q 6 rfl (cI b (fun u b=>?_) fun u b=>?_)
 ·refine q 15 rfl (bE b fun D x b=>cO (prove_columns_ok x p a) fun E w a=>bE b fun z A b=>?_)
  replace a:=a.fz
  refine cZ (exact_Rank_ok A F0 a) fun w a=>bE b fun F o b=>q 14 rfl (y (yIs SL_88 e0 e0 a rO0 o) (yt (r_sti (cs:=[.bool (decide (z.1=d))]) a O_4 rfl e0 e0 rfl mkB o) fun w a=>q 12 rfl ?_))
  cases b
  exact lo (a.fc)
 ·refine q 2 rfl ?_
  cases b
  exact xo a
end Go.Proofs.YtcoaljcfifecgagGreatDoor
