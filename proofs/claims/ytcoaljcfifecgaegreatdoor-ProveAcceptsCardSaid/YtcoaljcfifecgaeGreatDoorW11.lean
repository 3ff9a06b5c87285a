/- Walks: each function computes its model, printed. -/
import Derived.Test.YtcoaljcfifecgaeGreatDoorW10
namespace Go.Proofs.YtcoaljcfifecgaeGreatDoor
open Go Sx M Go.Proofs.Tryz
set_option maxRecDepth 100000
set_option maxHeartbeats 40000000
set_option linter.unusedVariables false
attribute [local irreducible] wpList Code.wp Calls DR QR QS LA LS St row box fam imm rowS loop
variable {w0:World} {ros:List Fact} {rs:List Res} {w:World}
theorem w_ek {p:Bool} {r:LI} {s:Bool} {t:LI} {u x:Hdr} {out:Bool×LI} (c:m_il p r s t=some out) (E:imm (rI .u32) u.v r∈ros) (F:imm (rI .u32) x.v t∈ros) (a:St w0 ros rs w):
  Calls prog 115 #[.agg #[.bool p,u.v],.agg #[.bool s,x.v]] w (rb w0 ros rs out):=by
 refine en func115 rfl ntmps115 fun Q G=>?_
 refine z 3 3 ?_;intro H w a I w a j w a
 refine bE c fun y J c=>bE c fun A K c=>?_
 refine jN (Nat×Hdr×Nat×Hdr) [4] (fun (b,e,d,f)=>[(5,(pB b)),(6,(pB d))]) (fun (b,e,d,f)=>St w0 ros (box j 60 [.bool false,hnil.v]::row 106 (rI .u32) e.v y.2::box b 60 [.bool y.1,e.v]::row 106 (rI .u32) f.v A.2::box d 60 [.bool A.1,f.v]::rs)) rfl ?_ ?_
 ·refine dS [1,3,4,5,6,7] 6 folM ?_
  replace a:=a.drew
  exact zx
 rintro ⟨b,e,d,f⟩ g w a
 refine q 3 rfl ?_
 obtain ⟨⟨B,C⟩,D,c⟩:=bs c
 replace a:=(((a.k10).fz).k16).fz
 refine lpN (Hdr×Hdr) Hdr D [4,5,6] (fun (k,l,m,n) (h,i)=>[]) (fun (k,l,m,n) (h,i)=>St w0 (imm (rI .u32) h.v l::imm (rI .u32) i.v n::ros) (box j 60 [.bool false,hnil.v]::box b 60 [.bool k,h.v]::box d 60 [.bool m,i.v]::rs)) (fun | (B,C),o=>(.exit 0,[],St w0 (imm (rI .u32) o.v C::ros) (box j 60 [.bool false,hnil.v]::box b 60 [.bool B,o.v]::rs))) rfl (_,_) (a.facts (allC F1 (allC F0 (allT (allT allI))))) rfl ?_ ?_
 ·clear a
  rintro o g w a
  exact vx
 rintro ⟨k,l,m,n⟩ ⟨h,i⟩ g w L a c
 exact vx
instance:CL prog 115 (type_of% @w_ek):=⟨@w_ek⟩
theorem w_el {b:Bool} {d:LI} {f:Bool} {g:LI} {h i:Hdr} {out:Bool×LI×Bool} (c:m_im b d f g=some out) (l:imm (rI .u32) h.v d∈ros) (m:imm (rI .u32) i.v g∈ros) (a:St w0 ros rs w):
  Calls prog 116 #[.agg #[.bool b,h.v],.agg #[.bool f,i.v]] w (fun e w=>∃ (j:Hdr),e=.returned (.tuple #[.agg #[.bool out.1,j.v],.bool out.2.2])∧St w0 ros (row 106 (rI .u32) j.v out.2.1::rs) w):=by
 refine en func116 rfl ntmps116 fun Q k=>?_
 refine v 0 ?_
 refine fun _ _ _ _ _ _ _ _ _ _ _ _ _ _ _ _ _ _ _ _ _ _ _ _ _ _ _ _ _ _ a=>⟨vt,fun _ c _ a=>?_⟩
 cases c
 replace a:=a.rowNh 106 (rI .u32)
 exact k _ _ _ (fin2r results116 (rcs2 rfl rfl a R1 ST_60 rfl) ⟨rfl,rfl⟩ ⟨_,rfl,((a.k27).fc)⟩)
instance:CL prog 116 (type_of% @w_el):=⟨@w_el⟩
theorem w_em {b:Bool} {j:LI} {d:Bool} {k:LI} {l m:Hdr} {out:Bool×LI×Bool×LI} (c:m_io b j d k=some out) (y:imm (rI .u32) l.v j∈ros) (A:imm (rI .u32) m.v k∈ros) (a:St w0 ros rs w):
  Calls prog 72 #[.agg #[.bool b,l.v],.agg #[.bool d,m.v]] w (fun e w=>∃ (n o:Hdr),e=.returned (.agg #[.bool out.1,n.v,.bool out.2.2.1,o.v])∧St w0 ros (row 106 (rI .u32) n.v out.2.1::row 106 (rI .u32) o.v out.2.2.2::rs) w):=by
 refine en func72 rfl ntmps72 fun Q p=>?_
 refine z 10 3 ?_;intro r w a s w a t w a B C c D w a u w a w a E F c w a
 refine jC (Bool×LI×Hdr) [2,3,4,5] (fun (f,h,i)=>[]) (fun (f,h,i) w=>St w0 (imm (rI .u32) i.v h::ros) (box r 60 [.bool b,l.v]::box s 60 [.bool d,m.v]::box t 72 [.bool false,hnil.v,.bool false,hnil.v]::box u 60 [.bool f,i.v]::rs) w∧m_in b j d k f h=some out) rfl ?_ ?_
 ·rintro ⟨f,h,i⟩ g w ⟨a,c⟩
  refine z 14 3 ?_;intro G H c I w a J w a w a K L c N w a O w a w a w a
  cases c
  exact p _ _ _ (fin1r results72 (rcs2 rfl rfl a R0 ST_72 rfl) ⟨_,_,rfl,((a.k28).fc)⟩)
 refine cI c (fun x c=>?_) fun x c=>?_
 ·refine z 3 1 ?_;intro R S c T w a w a
  replace a:=(a.k10).fz
  exact jx (_,_,_) ⟨((a.k29).facts (allC F0 (allT (allT allI)))),c⟩
 ·exact q 1 rfl (jx (_,_,_) ⟨(a.k29),c⟩)
instance:CL prog 72 (type_of% @w_em):=⟨@w_em⟩
theorem w_en {i:Bool} {m:LI} {j:Bool} {n:LI} {o:Bool} {p:LI} {q:Bool} {r:LI} {s:Bool} {t:LI} {u:Bool} {x:LI} {y:Bool} {A:LI} {B:Bool} {C:LI} {k l D E F G H I:Hdr} {out:Bool×LI×Bool×LI} (c:m_ip i m j n o p q r s t u x y A B C=some out) (O:imm (rI .u32) k.v m∈ros) (R:imm (rI .u32) l.v n∈ros) (S:imm (rI .u32) D.v p∈ros) (T:imm (rI .u32) E.v r∈ros) (U:imm (rI .u32) F.v t∈ros) (V:imm (rI .u32) G.v x∈ros) (W:imm (rI .u32) H.v A∈ros) (X:imm (rI .u32) I.v C∈ros) (a:St w0 ros rs w):
  Calls prog 74 #[.agg #[.bool i,k.v,.bool j,l.v],.agg #[.bool o,D.v,.bool q,E.v],.agg #[.bool s,F.v,.bool u,G.v],.agg #[.bool y,H.v,.bool B,I.v]] w (fun e w=>∃ (J K:Hdr),e=.returned (.agg #[.bool out.1,J.v,.bool out.2.2.1,K.v])∧St w0 ros (row 106 (rI .u32) J.v out.2.1::row 106 (rI .u32) K.v out.2.2.2::rs) w):=by
 refine en func74 rfl ntmps74 fun Q Z=>?_
 refine z 5 3 ?_;intro L w a a0 w a a1 w a a2 w a N w a
 refine bE c fun a3 a4 c=>bE c fun a5 a6 c=>bE c fun a7 a8 c=>bE c fun a9 b0 c=>bE c fun b b1 c=>?_
 refine jN (Nat×Hdr×Hdr) [4,8] (fun (d,f,h)=>[(9,(pB d))]) (fun (d,f,h)=>St w0 ros (box L 72 [.bool i,k.v,.bool j,l.v]::box N 72 [.bool false,hnil.v,.bool false,hnil.v]::row 106 (rI .u32) f.v b.2.1::row 106 (rI .u32) h.v b.2.2.2::box d 72 [.bool b.1,f.v,.bool b.2.2.1,h.v]::rs)) rfl ?_ ?_
 ·refine dS [4,7,12,15,16,17,18] 7 folM ?_
  replace a:=a.drew
  exact zx
 rintro ⟨d,f,h⟩ g w a
 exact vx
instance:CL prog 74 (type_of% @w_en):=⟨@w_en⟩
theorem w_eo {d6:List (List (Bool×LI×Bool×LI))} {b2:Int} {d:Hdr} {d7:List Hdr} {out:(List (List (Bool×LI×Bool×LI)))×LI×Bool×LI×Bool×LI} (c:m_iw d6 b2=some out) (a:St w0 ros (row 118 rH d.v d7::fam 72 (rP rB (rP (rS (rI .u32)) (rP rB (rS (rI .u32))))) d7 d6::rs) w):
  Calls prog 30 #[d.v,iV b2] w (fun e w=>∃ (d8:List Hdr) (d9 e1 e2:Hdr),e=.returned (.tuple #[d9.v,.agg #[.bool out.2.2.1,e1.v,.bool out.2.2.2.2.1,e2.v]])∧St w0 ros (row 118 rH d.v d8::fam 72 (rP rB (rP (rS (rI .u32)) (rP rB (rS (rI .u32))))) d8 out.1::row 3 I1 d9.v out.2.1::row 106 (rI .u32) e1.v out.2.2.2.1::row 106 (rI .u32) e2.v out.2.2.2.2.2::rs) w):=by
 refine en func30 rfl ntmps30 fun Q h4=>?_
 refine z 6 14 ?_;intro k w a k5 k6 c k7 w a k8 k9 c l0 w a m w a w a
 obtain ⟨⟨e3,e4,e5,e6,e7,e8⟩,h5,c⟩:=bs c
 replace a:=a.rowNh 3 I1
 refine lpN ((List Hdr)×Hdr×Hdr×Hdr) ((List Hdr)×Hdr×Hdr×Hdr) h5 [0,1,5,6] (fun (F,G,H,p,t,h,x) (r,s,f,i)=>[(7,i.v),(8,iV x)]) (fun (F,G,H,p,t,h,x) (r,s,f,i)=>St w0 ros (row 118 rH d.v r::fam 72 (rP rB (rP (rS (rI .u32)) (rP rB (rS (rI .u32))))) r F::box k 72 [.bool false,hnil.v,.bool false,hnil.v]::row 106 (rI .u32) s.v H::row 106 (rI .u32) f.v t::box m 72 [.bool G,s.v,.bool p,f.v]::row 3 I1 i.v h::rs)) (fun | (e3,e4,e5,e6,e7,e8),(b3,b4,b6,b7)=>(.exit 0,[(7,b7.v)],St w0 ros (row 118 rH d.v b3::fam 72 (rP rB (rP (rS (rI .u32)) (rP rB (rS (rI .u32))))) b3 e3::box k 72 [.bool false,hnil.v,.bool false,hnil.v]::row 106 (rI .u32) b4.v e5::row 106 (rI .u32) b6.v e7::box m 72 [.bool e4,b4.v,.bool e6,b6.v]::row 3 I1 b7.v e8::rs))) rfl (_,_,_,_) (a.k2c) rfl ?_ ?_
 ·clear a
  rintro ⟨b3,b4,b6,b7⟩ g w a
  refine q 3 rfl (dS [2,3] 2 folM ?_)
  replace a:=a.drew
  refine z 4 2 ?_;intro w a
  cases c
  exact h4 _ _ _ (fin2r results30 ⟨rfl,rfl⟩ (rcs2 rfl rfl a R0 ST_72 rfl) ⟨_,_,_,_,rfl,(a.k2d)⟩)
 rintro ⟨F,G,H,p,t,h,x⟩ ⟨r,s,f,i⟩ g w e9 a c
 refine q 8 rfl (cI c (fun h6 c=>?_) fun h6 c=>?_)
 ·refine q 3 rfl ?_
  refine jC ((List (List (Bool×LI×Bool×LI)))×Bool×LI×Bool×LI×LI×(List Hdr)×Hdr×Hdr×Hdr) [0,1,5,6,8] (fun (L,N,O,R,S,T,U,V,W,X)=>[(7,X.v)]) (fun (L,N,O,R,S,T,U,V,W,X) w=>St w0 ros (row 118 rH d.v U::fam 72 (rP rB (rP (rS (rI .u32)) (rP rB (rS (rI .u32))))) U L::box k 72 [.bool false,hnil.v,.bool false,hnil.v]::row 106 (rI .u32) V.v O::row 106 (rI .u32) W.v S::box m 72 [.bool N,V.v,.bool R,W.v]::row 3 I1 X.v T::rs) w∧m_iq x L N O R S T=some e9) rfl ?_ ?_
  ·rintro ⟨L,N,O,R,S,T,U,V,W,X⟩ g w ⟨a,c⟩
   refine q 6 rfl ?_
   cases c
   exact ln (_,_,_,_) a
  refine z 1 11 ?_
  refine bE c fun f0 h8 c=>?_
  refine lp h8 [0,1,5,6,7,8,9] (fun b8=>[(10,iV b8)]) (fun b8=>St w0 ros (row 118 rH d.v r::fam 72 (rP rB (rP (rS (rI .u32)) (rP rB (rS (rI .u32))))) r F::box k 72 [.bool false,hnil.v,.bool false,hnil.v]::row 106 (rI .u32) s.v H::row 106 (rI .u32) f.v t::box m 72 [.bool G,s.v,.bool p,f.v]::row 3 I1 i.v h::rs)) (fun | f0=>(.exit 2,[(10,iV f0)],St w0 ros (row 118 rH d.v r::fam 72 (rP rB (rP (rS (rI .u32)) (rP rB (rS (rI .u32))))) r F::box k 72 [.bool false,hnil.v,.bool false,hnil.v]::row 106 (rI .u32) s.v H::row 106 (rI .u32) f.v t::box m 72 [.bool G,s.v,.bool p,f.v]::row 3 I1 i.v h::rs))) rfl a rfl ?_ ?_
  ·clear a
   intro g w a
   refine q 7 rfl (y (yLenF SLH_75 e0 a rO0 R1) (q 3 rfl (cI c (fun i0 c=>?_) fun i0 c=>?_)))
   ·exact q 3 rfl (jx (_,_,_,_,_,_,_,_,_,_) ⟨a,c⟩)
   ·refine q 10 rfl ?_
    refine jC ((List (List (Bool×LI×Bool×LI)))×Bool×LI×(List Hdr)×Hdr) [0,1,5,6,7,8,9] (fun (Z,J,a0,j,K)=>[]) (fun (Z,J,a0,j,K) w=>St w0 ros (row 118 rH d.v j::fam 72 (rP rB (rP (rS (rI .u32)) (rP rB (rS (rI .u32))))) j Z::box k 72 [.bool false,hnil.v,.bool false,hnil.v]::row 106 (rI .u32) K.v a0::row 106 (rI .u32) f.v t::box m 72 [.bool J,K.v,.bool p,f.v]::row 3 I1 i.v h::rs) w∧m_it h x p t b2 Z J a0=some e9) rfl ?_ ?_
    ·rintro ⟨Z,J,a0,j,K⟩ g w ⟨a,c⟩
     refine bE c fun l1 b9 c=>bE c fun c0 f1 c=>bE c fun l2 i1 c=>bE c fun l3 a1 c=>bE c fun I c1 c=>bE c fun l4 i2 c=>bE c fun b l5 c=>q 2 rfl (dS [10,21,22,23] 4 folM ?_)
     replace a:=a.drew
     refine D1 2096127 0 10 rfl (qR 1 rfl (rQ rfl (lbs_ [.bool J,K.v] ST_60 e0 a R5) (qR 2 rfl ?_)))
     obtain ⟨l6,a2⟩:=a.famI R1 b9
     refine rQ rfl (yIa SLH_75 e0 e0 a rO0 a2) (rQ rfl (yF1 O_118 e0 a rO0 a2 rfl) (qR 1 rfl (rQ rfl (yIa SL_118 e0 e0 a (rdF R1 a2 b9) f1) (rQ rfl (yFe FL_72_0 e0) ?_))))
     obtain ⟨l7,l8,cc5068,a⟩:=a.ld (rdF R1 a2 b9) f1
     replace a:=a.eltP
     obtain ⟨l9,m0,rfl,a⟩:=a
     replace a:=a.eltB
     obtain ⟨rfl,a⟩:=a
     replace a:=a.eltP
     obtain ⟨m1,m2,rfl,a⟩:=a
     replace a:=a.eltS
     obtain ⟨f2,rfl,a⟩:=a
     replace a:=a.swf.eltP
     obtain ⟨m3,m4,rfl,a⟩:=a
     replace a:=a.eltB
     obtain ⟨rfl,a⟩:=a
     replace a:=a.eltS
     obtain ⟨i3,rfl,a⟩:=a
     refine rQ rfl (yCfn (cs:=[.bool c0.1,f2.v,.bool c0.2.2.1,i3.v]) (us:=[.bool c0.1,f2.v]) ST_60 e0 cc5068 rfl rfl) (qR 1 rfl (rQ rfl (lbs_ [.bool p,f.v] ST_60 e0 a R5) (qR 2 rfl ?_)))
     obtain ⟨m5,D⟩:=a.famI R1 a1
     refine rQ rfl (yIa SLH_75 e0 e0 a rO0 D) (rQ rfl (yF1 O_118 e0 a rO0 D rfl) (qR 1 rfl (rQ rfl (yIa SL_118 e0 e0 a (rdF R1 D a1) c1) (rQ rfl (yFe FL_72_1 e0) ?_))))
     replace a:=(a.k10).pin0
     obtain ⟨m6,a⟩:=St.pinF D a1 a c1
     obtain ⟨m7,m8,rfl,a⟩:=a.eltP
     obtain ⟨rfl,a⟩:=a.eltB
     obtain ⟨m9,n0,rfl,a⟩:=a.eltP
     obtain ⟨f3,rfl,a⟩:=a.eltS
     replace a:=a.swf
     obtain ⟨n1,n2,rfl,a⟩:=a.eltP
     obtain ⟨rfl,a⟩:=a.eltB
     obtain ⟨a3,rfl,a⟩:=a.eltS
     refine rQ rfl (yCfn (cs:=[.bool I.1,f3.v,.bool I.2.2.1,a3.v]) (us:=[.bool I.2.2.1,a3.v]) ST_60 e0 (a.cAtP R0 mhP) rfl rfl) (Rn QSn ?_)
     replace a:=(a.k1c).fz
     refine kO (w_eg i1 F0 F4 a) fun n3 w a=>dU (D1 0 2095104 21 rfl (Rn (qS rfl (sY rfl (lbs_ [.bool p,f.v] ST_60 e0 a R5) (qS rfl (qS rfl (sY rfl (yIa SLH_75 e0 e0 a rO2 D) (sY rfl (yF1 O_118 e0 a rO2 D rfl) (qS rfl (sY rfl (yIa SL_118 e0 e0 a (rdFP R1 D a1) c1) (sY rfl (yFe FL_72_1 e0) (sY rfl (yCfn (cs:=[.bool I.1,f3.v,.bool I.2.2.1,a3.v]) (us:=[.bool I.2.2.1,a3.v]) ST_60 e0 (a.cAtP R1 mhP) rfl rfl) QSn)))))))))) ?_))
     replace a:=(a.k1j).fz
     refine kO (w_eg i2 F0 F2 a) fun n4 w a=>dU ?_
     refine z 2 0 ?_;intro A B w a w a
     refine Dw 0 0 (Rn QSn ?_)
     replace a:=(a.k1c).unpin
     refine bE c fun f4 i4 c=>qx 10 rfl ?_
     refine lp i4 [0,1,5,6,7,8,9] (fun (c2,c3)=>[(11,iV c3)]) (fun (c2,c3)=>St w0 ros (row 118 rH d.v j::fam 72 (rP rB (rP (rS (rI .u32)) (rP rB (rS (rI .u32))))) j c2::box k 72 [.bool false,hnil.v,.bool false,hnil.v]::row 106 (rI .u32) A.v b.2.1::row 106 (rI .u32) B.v b.2.2.2::box m 72 [.bool b.1,A.v,.bool b.2.2.1,B.v]::row 3 I1 i.v h::rs)) (fun | f4=>(.exit 4,[],St w0 ros (row 118 rH d.v j::fam 72 (rP rB (rP (rS (rI .u32)) (rP rB (rS (rI .u32))))) j f4::box k 72 [.bool false,hnil.v,.bool false,hnil.v]::row 106 (rI .u32) A.v b.2.1::row 106 (rI .u32) B.v b.2.2.2::box m 72 [.bool b.1,A.v,.bool b.2.2.1,B.v]::row 3 I1 i.v h::rs))) rfl ((a.k2e).fc) rfl ?_ ?_
     ·clear a
      intro g w a
      refine q 5 rfl (yh (rLt (n:=1) (l:=[x]) a SL_23 [iV x] (bp1 e0) rfl rfl (mks1 (cs:=[iV x]) rfl mkI mks0)) fun n5 w a=>?_)
      refine z 1 3 ?_;intro n6 n7 c n8 w a
      exact jx (_,_,_,_,_,_,_,_,_,_) ⟨(a.k2g),c⟩
     rintro ⟨c2,c3⟩ g w n9 a c
     refine q 5 rfl (y (yLenF SLH_75 e0 a rO0 R1) (q 3 rfl (cI c (fun i5 c=>?_) fun i5 c=>?_)))
     ·refine q 8 rfl (bE c fun o0 c4 c=>?_)
      obtain ⟨o1,a4⟩:=a.famI R1 c4
      refine y (yIa SLH_75 e0 e0 a rO0 a4) (y (yF1 O_118 e0 a rO0 a4 rfl) (bE c fun C f5 c=>q 1 rfl (y (yIa SL_118 e0 e0 a (rdF R1 a4 c4) f5) ?_)))
      obtain ⟨o2,o3,cc5398,a⟩:=a.ld (rdF R1 a4 c4) f5
      replace a:=a.eltP
      obtain ⟨o4,o5,rfl,a⟩:=a
      replace a:=a.eltB
      obtain ⟨rfl,a⟩:=a
      replace a:=a.eltP
      obtain ⟨o6,o7,rfl,a⟩:=a
      replace a:=a.eltS
      obtain ⟨a5,rfl,a⟩:=a
      replace a:=a.swf.eltP
      obtain ⟨o8,o9,rfl,a⟩:=a
      replace a:=a.eltB
      obtain ⟨rfl,a⟩:=a
      replace a:=a.eltS
      obtain ⟨a6,rfl,a⟩:=a
      refine y (yCn (cs:=[.bool C.1,a5.v,.bool C.2.2.1,a6.v]) ST_72 rfl e0 cc5398) ?_
      refine z 2 9 ?_;intro i6 w a w a
      refine bE c fun f6 i7 c=>?_
      refine lp i7 [0,1,5,6,7,8,9,11,12] (fun (c5,c6)=>[(13,iV c6)]) (fun (c5,c6)=>St w0 (imm (rI .u32) a5.v C.2.1::imm (rI .u32) a6.v C.2.2.2::ros) (row 118 rH d.v j::fam 72 (rP rB (rP (rS (rI .u32)) (rP rB (rS (rI .u32))))) j c5::box k 72 [.bool false,hnil.v,.bool false,hnil.v]::row 106 (rI .u32) A.v b.2.1::row 106 (rI .u32) B.v b.2.2.2::box m 72 [.bool b.1,A.v,.bool b.2.2.1,B.v]::row 3 I1 i.v h::box i6 72 [.bool C.1,a5.v,.bool C.2.2.1,a6.v]::rs)) (fun | f6=>(.exit 6,[],St w0 ros (row 118 rH d.v j::fam 72 (rP rB (rP (rS (rI .u32)) (rP rB (rS (rI .u32))))) j f6::box k 72 [.bool false,hnil.v,.bool false,hnil.v]::row 106 (rI .u32) A.v b.2.1::row 106 (rI .u32) B.v b.2.2.2::box m 72 [.bool b.1,A.v,.bool b.2.2.1,B.v]::row 3 I1 i.v h::rs))) rfl ((a.k2h).facts (allC F1 (allC F0 (allT (allT allI))))) rfl ?_ ?_
      ·clear a
       intro g w a
       refine q 8 rfl ?_
       cases c
       exact lo a
      rintro ⟨c5,c6⟩ g w p0 a c
      refine q 8 rfl (cI c (fun i8 c=>?_) fun i8 c=>?_)
      ·refine q 4 rfl (bE c fun p1 c7 c=>bE c fun p2 c8 c=>bE c fun f7 f8 c=>bE c fun p3 c9 c=>bE c fun f9 g0 c=>bE c fun p4 d0 c=>bE c fun g1 g2 c=>bE c fun g3 i9 c=>bE c fun p5 g4 c=>bE c fun p6 j0 c=>dS [27,29] 2 folM ?_)
       replace a:=a.drew
       refine D1 134217727 0 27 rfl (qR 2 rfl ?_)
       obtain ⟨p7,E⟩:=a.famI R1 c7
       refine rQ rfl (yIa SLH_75 e0 e0 a rO0 E) (rQ rfl (yF1 O_118 e0 a rO0 E rfl) (qR 3 rfl ?_))
       obtain ⟨p8,a7⟩:=a.famI R1 c8
       refine rQ rfl (yIa SLH_75 e0 e0 a rO0 a7) (rQ rfl (yF1 O_118 e0 a rO0 a7 rfl) (qR 1 rfl (rQ rfl (yIa SL_118 e0 e0 a (rdF R1 a7 c8) f8) ?_)))
       obtain ⟨p9,q0,cc5522,a⟩:=a.ld (rdF R1 a7 c8) f8
       replace a:=a.eltP
       obtain ⟨q1,q2,rfl,a⟩:=a
       replace a:=a.eltB
       obtain ⟨rfl,a⟩:=a
       replace a:=a.eltP
       obtain ⟨q3,q4,rfl,a⟩:=a
       replace a:=a.eltS
       obtain ⟨j1,rfl,a⟩:=a
       replace a:=a.swf.eltP
       obtain ⟨q5,q6,rfl,a⟩:=a
       replace a:=a.eltB
       obtain ⟨rfl,a⟩:=a
       replace a:=a.eltS
       obtain ⟨j2,rfl,a⟩:=a
       refine rQ rfl (yCn (cs:=[.bool f7.1,j1.v,.bool f7.2.2.1,j2.v]) ST_72 rfl e0 cc5522) (rQ rfl (lbs_ [.bool C.1,a5.v,.bool C.2.2.1,a6.v] ST_72 e0 a R7) (qR 2 rfl ?_))
       obtain ⟨q7,a8⟩:=a.famI R1 c9
       refine rQ rfl (yIa SLH_75 e0 e0 a rO0 a8) (rQ rfl (yF1 O_118 e0 a rO0 a8 rfl) (qR 1 rfl (rQ rfl (yIa SL_118 e0 e0 a (rdF R1 a8 c9) g0) ?_)))
       obtain ⟨q8,q9,cc5529,a⟩:=a.ld (rdF R1 a8 c9) g0
       replace a:=a.eltP
       obtain ⟨r0,r1,rfl,a⟩:=a
       replace a:=a.eltB
       obtain ⟨rfl,a⟩:=a
       replace a:=a.eltP
       obtain ⟨r2,r3,rfl,a⟩:=a
       replace a:=a.eltS
       obtain ⟨j3,rfl,a⟩:=a
       replace a:=a.swf.eltP
       obtain ⟨r4,r5,rfl,a⟩:=a
       replace a:=a.eltB
       obtain ⟨rfl,a⟩:=a
       replace a:=a.eltS
       obtain ⟨j4,rfl,a⟩:=a
       refine rQ rfl (yCn (cs:=[.bool f9.1,j3.v,.bool f9.2.2.1,j4.v]) ST_72 rfl e0 cc5529) (qR 2 rfl ?_)
       obtain ⟨r7,a9⟩:=a.famI R1 d0
       refine rQ rfl (yIa SLH_75 e0 e0 a rO0 a9) (rQ rfl (yF1 O_118 e0 a rO0 a9 rfl) (qR 1 rfl (rQ rfl (yIa SL_118 e0 e0 a (rdF R1 a9 d0) g2) ?_)))
       obtain ⟨r9,s0,cc5536,a⟩:=a.ld (rdF R1 a9 d0) g2
       replace a:=a.eltP
       obtain ⟨s1,s2,rfl,a⟩:=a
       replace a:=a.eltB
       obtain ⟨rfl,a⟩:=a
       replace a:=a.eltP
       obtain ⟨s3,s4,rfl,a⟩:=a
       replace a:=a.eltS
       obtain ⟨j5,rfl,a⟩:=a
       replace a:=a.swf.eltP
       obtain ⟨s5,s6,rfl,a⟩:=a
       replace a:=a.eltB
       obtain ⟨rfl,a⟩:=a
       replace a:=a.eltS
       obtain ⟨j6,rfl,a⟩:=a
       refine rQ rfl (yCn (cs:=[.bool g1.1,j5.v,.bool g1.2.2.1,j6.v]) ST_72 rfl e0 cc5536) (Rn QSn (kT_ (w_en i9 F5 F4 F6 F7 F3 F2 F1 F0 a) fun j7 j8 w a=>dU (D0 268435456 31 29 rfl (rQ rfl (yIs SL_118 e0 e0 a (rdF R3 E c7) g4) (Rn (qS rfl (qS rfl (sY rfl (yIa SLH_75 e0 e0 a rO2 E) (sY rfl (yF1 O_118 e0 a rO2 E rfl) (qS rfl QSn))))) ?_)))))
       replace a:=(a.fz.fz).k10
       refine LT wn (r_stn (cs:=[.bool g3.1,j7.v,.bool g3.2.2.1,j8.v]) (a.foc E c7) ST_72 e0 e0 rfl (mkP mkB (mkP (mkS F1) (mkP mkB (mkS F0)))) g4) fun w a=>?_
       replace a:=a.unfoc' E j0
       refine z 1 7 ?_
       cases c
       exact lo ((a.k2i).facts (allC F8 (allC F9 (allT (allT (allT (allT (allT (allT (allT (allT (allT (allT allI)))))))))))))
      ·refine q 2 rfl ?_
       cases c
       exact xo ((a.k2j).fc)
     ·refine q 2 rfl ?_
      cases c
      exact xo a
    refine cIn c (fun j9 c=>?_) fun j9 c=>?_
    ·exact q 1 rfl (jx (_,_,_,_,_) ⟨a,c⟩)
    ·refine q 1 rfl (bE c fun s7 g5 c=>bE c fun s8 g6 c=>bE c fun s9 d1 c=>bE c fun t0 g7 c=>dS [13,15] 2 folM ?_)
     replace a:=a.drew
     refine D0 8191 0 13 rfl (qR 6 rfl ?_)
     obtain ⟨g8,d2⟩:=a.famI R1 g5
     refine rQ rfl (yIa SLH_75 e0 e0 a rO0 d2) (rQ rfl (yF1 O_118 e0 a rO0 d2 rfl) (qR 2 rfl ?_))
     obtain ⟨g9,d3⟩:=a.famI R1 g6
     refine rQ rfl (yIa SLH_75 e0 e0 a rO0 d3) (rQ rfl (yF1 O_118 e0 a rO0 d3 rfl) ?_)
     obtain ⟨t1,b0⟩:=setI_len (u:=g8) d1 (a.famL (mtR mhR))
     refine rQ rfl (yIs SLH_75 e0 e0 a rO0 b0) (Rn QSn (LT wn (r_sti (cs:=[g8.v]) a O_118 rfl e0 e0 rfl (mkF rfl) b0) fun w a=>D0 16384 12 15 rfl ?_))
     obtain ⟨t2,d4⟩:=setI_len (u:=g9) g7 (swap_len d1 b0 (a.famL (mtR mhR)))
     refine rQ rfl (yIs SLH_75 e0 e0 a rO0 d4) (Rn (qS rfl (qS rfl QSn)) (LT wn (r_sti (cs:=[g9.v]) a O_118 rfl e0 e0 rfl (mkF rfl) d4) fun w a=>?_))
     replace a:=(a.k10).fswap d2 g5 d3 g6 b0 d1 d4 g7
     refine z 4 1 ?_;intro t3 t4 c t5 w a w a
     exact jx (_,_,_,_,_) ⟨((a.k2k).fc),c⟩
  rintro b8 g w t6 a c
  refine q 5 rfl (y (yLenF SLH_75 e0 a rO0 R1) (bE c fun k0 o c=>q 2 rfl ?_))
  refine jW 9 [0,1,5,6,7,8,9,10] [(38,.bool k0)] (St w0 ros (row 118 rH d.v r::fam 72 (rP rB (rP (rS (rI .u32)) (rP rB (rS (rI .u32))))) r F::box k 72 [.bool false,hnil.v,.bool false,hnil.v]::row 106 (rI .u32) s.v H::row 106 (rI .u32) f.v t::box m 72 [.bool G,s.v,.bool p,f.v]::row 3 I1 i.v h::rs)) rfl (fun h0=>?_) ?_
  ·refine gI 29 o rfl (fun k1 o=>?_) fun k1 o=>?_
   ·refine q 2 rfl (bE o fun t7 d5 o=>?_)
    obtain ⟨t8,b1⟩:=a.famI R1 d5
    refine y (yIa SLH_75 e0 e0 a rO0 b1) (y (yF1 O_118 e0 a rO0 b1 rfl) (bE o fun h1 h3 o=>q 1 rfl (y (yIa SL_118 e0 e0 a (rdF R1 b1 d5) h3) ?_)))
    obtain ⟨t9,u0,cc5575,a⟩:=a.ld (rdF R1 b1 d5) h3
    replace a:=a.eltP
    obtain ⟨u1,u2,rfl,a⟩:=a
    replace a:=a.eltB
    obtain ⟨rfl,a⟩:=a
    replace a:=a.eltP
    obtain ⟨u3,u4,rfl,a⟩:=a
    replace a:=a.eltS
    obtain ⟨k2,rfl,a⟩:=a
    replace a:=a.swf.eltP
    obtain ⟨u5,u6,rfl,a⟩:=a
    replace a:=a.eltB
    obtain ⟨rfl,a⟩:=a
    replace a:=a.eltS
    obtain ⟨k3,rfl,a⟩:=a
    refine y (yCn (cs:=[.bool h1.1,k2.v,.bool h1.2.2.1,k3.v]) ST_72 rfl e0 cc5575) (bE o fun u7 u8 o=>?_)
    refine z 1 1 ?_;intro w a
    cases o
    exact h0 _ _ (a.fc) rfl
   ·refine q 9 rfl ?_
    cases o
    exact h0 _ _ a rfl
  intro g w a
  refine q 2 rfl ?_
  refine cJ c (fun k4 c=>?_) fun k4 c=>?_
  ·refine q 9 rfl ?_
   cases c
   exact lo a
  ·refine q 2 rfl ?_
   cases c
   exact xo a
 ·refine q 2 rfl ?_
  cases c
  exact lx (_,_,_,_) a
instance:CL prog 30 (type_of% @w_eo):=⟨@w_eo⟩
theorem w_ep {b:List (List (Bool×LI))} {d:Hdr} {out:Int} (c:m_ix b=some out) (e:imm (rS (rP rB (rS (rI .u32)))) d.v b∈ros) (a:St w0 ros rs w):
  Calls prog 8 #[d.v] w (rv w0 ros rs (iV out)):=by
 refine en func8 rfl ntmps8 fun Q f=>bE c fun j g c=>q 8 rfl (cT_ (w_ec g e a) fun k l w a=>bE c fun m h c=>q 1 rfl (cZ (w_ed h e a) fun w a=>bE c fun n i c=>yC (yCall FN_30 (a2 e0 e0)) (w_eo i a) ?_))
 rintro _ w ⟨o,p,r,s,rfl,a⟩
 refine ⟨_,rfl,?_⟩
 refine nf (q 3 rfl (yb (rAl a ZT_72) fun t w a=>q 1 rfl (sB rfl a ST_72 fun w a=>q 5 rfl (y (yLen SL_23 e0 a rO3) (q 4 rfl ?_)))))
 cases c
 exact za f results8 ⟨rfl,(a.k2l)⟩
instance:CL prog 8 (type_of% @w_ep):=⟨@w_ep⟩
theorem w_eq {d:LI} {e f:Int} {h:Hdr} {out:Bool} (c:m_iz d e f=some out) (k:imm I1 h.v d∈ros) (a:St w0 ros rs w):
  Calls prog 34 #[h.v,iV e,iV f] w (rv w0 ros rs (.bool out)):=by
 refine en func34 rfl ntmps34 fun Q l=>?_
 refine v 0 ?_
 refine ⟨fun _ c=>?_,vt⟩
 refine bE c fun i j c=>?_
 refine lp j [0,2,13,14] (fun b=>[(15,iV b)]) (fun b=>St w0 ros rs) (fun | .inl ()=>(.exit 0,[],St w0 ros rs) | .inr ()=>(.ret,[(6,.bool false)],St w0 ros rs)) rfl a rfl ?_ ?_
 ·clear a
  intro g w a
  rcases i with ⟨⟩ | ⟨⟩
  ·exact vx
  ·exact vx
 rintro b g w m a c
 exact vx
instance:CL prog 34 (type_of% @w_eq):=⟨@w_eq⟩
theorem w_er {b:L2} {d:Int} {e:Hdr} {out:Int} (c:m_i0 b d=some out) (f:imm S1 e.v b∈ros) (a:St w0 ros rs w):
  Calls prog 118 #[e.v,iV d] w (rv w0 ros rs (iV out)):=by
 exact en func118 rfl ntmps118 fun Q g=>vx
instance:CL prog 118 (type_of% @w_er):=⟨@w_er⟩
theorem w_es {e:L2} {f:Int} {g:Hdr} {out:Int×Int} (c:m_i1 e f=some out) (b:imm S1 g.v e∈ros) (a:St w0 ros rs w):
  Calls prog 75 #[g.v,iV f] w (rv w0 ros rs (.tuple #[iV out.1,iV out.2])):=by
 refine en func75 rfl ntmps75 fun Q d=>bE c fun m h c=>q 10 rfl (cZ (w_er h b a) fun w a=>q 10 rfl ?_)
 refine cIn c (fun i c=>?_) fun i c=>?_
 ·refine q 6 rfl (bE c fun n j c=>cT_ (w_dx j b a) fun o p w a=>bE c fun r k c=>q 1 rfl (cT_ (w_d3 k a) fun s t w a=>q 11 rfl (y (yLen SL_23 e0 a rO2) (q 1 rfl (y (yLen SL_49 e0 a (rdI b)) (q 3 rfl (cI c (fun l c=>?_) fun l c=>?_)))))))
  ·refine q 8 rfl ?_
   cases c
   exact zb d results75 ⟨rfl,(a.k1b)⟩
  ·refine q 10 rfl ?_
   cases c
   exact zb d results75 ⟨rfl,(a.k1b)⟩
 ·refine q 9 rfl ?_
  cases c
  exact zb d results75 ⟨rfl,a⟩
instance:CL prog 75 (type_of% @w_es):=⟨@w_es⟩
theorem w_et {B:List (List (Bool×LI))} {d b:Int} {C D:LI} {E:List (List (Bool×LI))} {F e f h:Hdr} {out:Bool} (c:m_i4 B d b C D E=some out) (G:imm (rS (rP rB (rS (rI .u32)))) F.v B∈ros) (a0:imm I1 e.v C∈ros) (a1:imm I1 f.v D∈ros) (a3:imm (rS (rP rB (rS (rI .u32)))) h.v E∈ros) (a:St w0 ros rs w):
  Calls prog 35 #[F.v,.agg #[iV d,iV b,e.v,f.v,h.v]] w (rv w0 ros rs (.bool out)):=by
 refine en func35 rfl ntmps35 fun Q O=>?_
 refine z 3 4 ?_;intro o w a
 refine bE c fun H R c=>?_
 replace a:=a.rowNh 23 S1
 refine lpN Hdr Hdr R [0,3,16,17] (fun (j,r) i=>[(5,i.v),(18,iV r)]) (fun (j,r) i=>St w0 ros (box o 30 [iV d,iV b,e.v,f.v,h.v]::row 23 S1 i.v j::rs)) (fun | H,s=>(.exit 0,[(5,s.v)],St w0 ros (box o 30 [iV d,iV b,e.v,f.v,h.v]::row 23 S1 s.v H::rs))) rfl _ (a.k10) rfl ?_ ?_
 ·clear a
  rintro s g w a
  refine z 1 0 ?_
  refine bE c fun I S c=>?_
  have J:=a
  replace a:=(a.k10).fz
  have k:=a.guest0
  replace a:=J
  clear J
  refine yC (yCall FN_75 (a2 e0 e0)) (w_es S F0 k) ?_
  clear k
  rintro _ w ⟨rfl,k⟩
  replace a:=a.back k
  clear k
  refine ⟨_,rfl,?_⟩
  refine nf (q 12 rfl ?_)
  refine jW 3 [] [(64,.bool ((decide (I.2=0)) && (!(decide (I.1=0)))))] (St w0 ros rs) rfl (fun K=>?_) ?_
  ·refine gB 61 rfl (fun t=>?_) fun t=>?_
   ·exact q 3 rfl (K _ _ (a.k19) (hasC (congrArg Value.bool (andT t)) rfl))
   ·exact q 3 rfl (K _ _ (a.k19) (hasC (congrArg Value.bool (andF t)) rfl))
  intro g w a
  refine q 4 rfl ?_
  cases c
  exact za O results35 ⟨rfl,a⟩
 rintro ⟨j,r⟩ i g w a4 a c
 refine q 6 rfl (cI c (fun T c=>?_) fun T c=>?_)
 ·refine z 4 4 ?_;intro a5 a6 c
  refine bE c fun u U c=>?_
  replace a:=a.rowNh 3 I1
  refine lpN Hdr Hdr U [0,3,5,7,16,17,18,23,24] (fun (x,y) p=>[(8,p.v),(25,iV y)]) (fun (x,y) p=>St w0 ros (box o 30 [iV d,iV b,e.v,f.v,h.v]::row 23 S1 i.v j::row 3 I1 p.v x::rs)) (fun | u,m=>(.exit 2,[(8,m.v)],St w0 ros (box o 30 [iV d,iV b,e.v,f.v,h.v]::row 23 S1 i.v j::row 3 I1 m.v u::rs))) rfl _ (a.k1d) rfl ?_ ?_
  ·clear a
   rintro m g w a
   refine q 5 rfl ?_
   replace a:=(a.k16).fz
   refine yh (rLt (n:=1) (l:=[u]) a SL_49 [m.v] (bp1 e0) rfl rfl (mks1 (cs:=[m.v]) rfl (mkS F0) mks0)) fun a7 w a=>?_
   refine z 1 8 ?_;intro a8 a9 c b0 w a
   cases c
   exact ln _ ((a.k1o).fc)
  rintro ⟨x,y⟩ p g w b1 a c
  refine q 6 rfl (cI c (fun V c=>?_) fun V c=>?_)
  ·refine z 2 4 ?_;intro b2 b3 c
   refine bE c fun b4 L c=>bE c fun W N c=>bE c fun A X c=>dS [9,13,14] 3 folM ?_
   replace a:=a.drew
   refine D1 511 0 9 rfl (qR 2 rfl (rQ rfl (yIa SL_28 e0 e0 a (rdI G) L) ?_))
   obtain ⟨b5,a⟩:=iLs a G L
   refine rQ rfl (yCt O_54 e0 a F1 rfl) (qR 1 rfl (rQ rfl (yIa SL_54 e0 e0 a (rdI F0) N) ?_))
   obtain ⟨b6,b7,a⟩:=iLd a F0 N
   obtain ⟨b8,b9,rfl,a⟩:=a.eltP
   obtain ⟨rfl,a⟩:=a.eltB
   obtain ⟨Z,rfl,a⟩:=a.eltS
   refine rQ rfl (yCtn (cs:=[.bool W.1,Z.v]) ST_60 rfl e0 a F1) (qR 1 rfl (rQ rfl (lb_ (iV b) O_3 e0 a R0) (Rn QSn (kZ (w_do X F0 a) fun w a=>dU ?_))))
   refine z 3 4 ?_
   refine yh (rLt (n:=1) (l:=[A.1]) a SL_23 [iV A.1] (bp1 e0) rfl rfl (mks1 (cs:=[iV A.1]) rfl mkI mks0)) fun c0 w a=>?_
   refine z 1 8 ?_;intro c1 c2 c c3 w a
   cases c
   exact ln _ ((a.k1p).fc)
  ·refine q 2 rfl ?_
   cases c
   exact lx _ a
 ·refine q 2 rfl ?_
  cases c
  exact lx _ a
instance:CL prog 35 (type_of% @w_et):=⟨@w_et⟩
theorem w_eu {j:List (List (Bool×LI))} {k:List (Bool×LI)} {l m:Hdr} {out:Bool} (c:m_i7 j k=some out) (A:imm (rS (rP rB (rS (rI .u32)))) l.v j∈ros) (n:imm (rP rB (rS (rI .u32))) m.v k∈ros) (a:St w0 ros rs w):
  Calls prog 36 #[l.v,m.v] w (rv w0 ros rs (.bool out)):=by
 refine en func36 rfl ntmps36 fun Q o=>?_
 refine z 1 4 ?_
 refine bE c fun B C c=>?_
 refine lp C [1,10,11] (fun e=>[(12,iV e)]) (fun e=>St w0 ros rs) (fun | .inl ()=>(.exit 0,[],St w0 ros rs) | .inr ()=>(.ret,[(4,.bool false)],St w0 ros rs)) rfl a rfl ?_ ?_
 ·clear a
  intro g w a
  rcases B with ⟨⟩ | ⟨⟩
  ·refine q 8 rfl ?_
   cases c
   exact za o results36 ⟨rfl,a⟩
  ·refine q 2 rfl ?_
   cases c
   exact za o results36 ⟨rfl,a⟩
 rintro e g w R a c
 refine q 6 rfl (cI c (fun D c=>?_) fun D c=>?_)
 ·refine z 1 0 ?_;intro E F c
  obtain ⟨G,a⟩:=iLs a A F
  refine y (yCt O_54 e0 a F1 rfl) ?_
  refine z 4 4 ?_;intro S T c U w a p w a w a
  obtain ⟨⟨r,s⟩,H,c⟩:=bs c
  refine lpN Hdr Hdr H [1,7,10,11,12,17,18] (fun (d,f,h) b=>[(19,iV h)]) (fun (d,f,h) b=>St w0 (imm (rI .u32) b.v f::imm (rP rB (rS (rI .u32))) G.v E::ros) (box p 60 [.bool d,b.v]::rs)) (fun | (r,s),i=>(.exit 2,[],St w0 (imm (rI .u32) i.v s::ros) (box p 60 [.bool r,i.v]::rs))) rfl _ (a.facts (allC F0 (allC F1 (allT (allT (allT allI)))))) rfl ?_ ?_
  ·clear a
   rintro i g w a
   refine z 2 3 ?_;intro V W c w a
   refine cIn c (fun I c=>?_) fun I c=>?_
   ·refine q 7 rfl ?_
    cases c
    exact lo ((a.k14).fc)
   ·refine q 8 rfl ?_
    cases c
    exact xo ((a.k14).fc)
  rintro ⟨d,f,h⟩ b g w X a c
  refine q 6 rfl (cI c (fun J c=>?_) fun J c=>?_)
  ·refine z 1 0 ?_;intro t K c
   obtain ⟨Z,a0,a⟩:=iLd a F1 K
   obtain ⟨a1,a2,rfl,a⟩:=a.eltP
   obtain ⟨rfl,a⟩:=a.eltB
   obtain ⟨u,rfl,a⟩:=a.eltS
   refine y (yCtn (cs:=[.bool t.1,u.v]) ST_60 rfl e0 a F1) ?_
   refine z 2 2 ?_;intro a3 w a w a
   refine bE c fun L x c=>bE c fun a4 N c=>bE c fun a5 a6 c=>dS [6,7,8] 3 folM ?_
   replace a:=a.drew
   refine D1 63 0 6 rfl (rQ rfl (lbs_ [.bool d,b.v] ST_60 e0 a R1) (rQ rfl (lbs_ [.bool t.1,u.v] ST_60 e0 a R0) (qR 2 rfl (rQ rfl (yIa SL_54 e0 e0 a (rdI (F_4 n)) x) ?_))))
   obtain ⟨a7,a8,a⟩:=iLd a (F_4 n) x
   obtain ⟨a9,b0,rfl,a⟩:=a.eltP
   obtain ⟨rfl,a⟩:=a.eltB
   obtain ⟨O,rfl,a⟩:=a.eltS
   refine rQ rfl (yCtn (cs:=[.bool L.1,O.v]) ST_60 rfl e0 a F1) (Rn QSn (kO (w_cv N F2 F0 a) fun b1 w a=>dU ?_))
   refine z 3 6 ?_;intro b2 w a w a
   cases c
   exact ln _ ((a.k11).facts (allC F0 (allC F7 (allT (allT (allT (allT (allT (allT (allT (allT allI)))))))))))
  ·refine q 2 rfl ?_
   cases c
   exact lx _ (a.facts (allC F0 (allT (allT allI))))
 ·refine q 2 rfl ?_
  cases c
  exact xo a
instance:CL prog 36 (type_of% @w_eu):=⟨@w_eu⟩
theorem w_ev {i j:Int} {B C D:LI} {d b:Int} {E F:LI} {G:List (List (Bool×LI))} {k l m e f h:Hdr} {out:Bool} (c:m_i9 i j B C D d b E F G=some out) (Z:imm I1 k.v B∈ros) (a0:imm I1 l.v C∈ros) (a1:imm (rI .u64) m.v D∈ros) (a2:imm I1 e.v E∈ros) (a3:imm I1 f.v F∈ros) (N:imm (rS (rP rB (rS (rI .u32)))) h.v G∈ros) (a4:globF∈ros) (a:St w0 ros rs w):
  Calls prog 9 #[.agg #[iV i,iV j,k.v,l.v,m.v],.agg #[iV d,iV b,e.v,f.v,h.v]] w (rv w0 ros rs (.bool out)):=by
 refine en func9 rfl ntmps9 fun Q a5=>?_
 refine z 4 15 ?_;intro t w a r w a u a6 c x s w a
 refine bE c fun H n c=>?_
 refine jW 5 [2,3,5] [(24,.bool H)] (St w0 ros (box t 26 [iV i,iV j,k.v,l.v,m.v]::box r 30 [iV d,iV b,e.v,f.v,h.v]::row 54 rH x.v s::fam 60 (rP rB (rS (rI .u32))) s u.1::rs)) rfl (fun I=>?_) ?_
 ·refine gIn 19 n rfl (fun O n=>?_) fun O n=>?_
  ·refine z 1 0 ?_
   refine bE n fun a7 a8 n=>?_
   refine z 1 2 ?_;intro w a
   cases n
   exact I _ _ (a.k1y) rfl
  ·refine q 5 rfl ?_
   cases n
   exact I _ _ (a.k1y) rfl
 intro g w a
 refine q 1 rfl ?_
 refine jW 4 [2,3,5] [(29,.bool (H || (decide ((2147483647:Int) < b))))] (St w0 ros (box t 26 [iV i,iV j,k.v,l.v,m.v]::box r 30 [iV d,iV b,e.v,f.v,h.v]::row 54 rH x.v s::fam 60 (rP rB (rS (rI .u32))) s u.1::rs)) rfl (fun J=>?_) ?_
 ·refine gB 25 rfl (fun y=>?_) fun y=>?_
  ·exact q 4 rfl (J _ _ a (hasC (congrArg Value.bool (orT y)) rfl))
  ·refine z 1 2 ?_
   exact J _ _ a (hasC (congrArg Value.bool (orF y)) rfl)
 intro g w a
 refine v 39 ?_
 refine ⟨vt,fun _ _ _ _ c w a=>?_⟩
 refine bE c fun R o c=>?_
 refine jW 9 [2,3,5] [(47,.bool R)] (St w0 ros (box t 26 [iV i,iV j,k.v,l.v,m.v]::box r 30 [iV d,iV b,e.v,f.v,h.v]::row 54 rH x.v s::fam 60 (rP rB (rS (rI .u32))) s u.1::rs)) rfl (fun K=>?_) ?_
 ·refine gJn 38 o rfl (fun S o=>?_) fun S o=>?_
  ·refine z 3 0 ?_
   refine bE o fun a9 b0 o=>?_
   refine z 1 2 ?_;intro w a
   cases o
   exact K _ _ a rfl
  ·refine q 9 rfl ?_
   cases o
   exact K _ _ a rfl
 intro g w a
 refine bE c fun T p c=>q 1 rfl ?_
 refine jW 5 [2,3,5] [(53,.bool T)] (St w0 (imm (rS (rP rB (rS (rI .u32)))) x.v u.1::ros) (box t 26 [iV i,iV j,k.v,l.v,m.v]::box r 30 [iV d,iV b,e.v,f.v,h.v]::rs)) rfl (fun L=>?_) ?_
 ·refine gJ 48 p rfl (fun U p=>?_) fun U p=>?_
  ·refine q 5 rfl ?_
   cases p
   replace a:=(a.k2m).ffz
   exact L _ _ a rfl
  ·refine z 1 0 ?_
   refine bE p fun b1 b2 p=>?_
   replace a:=(a.k2m).ffz
   refine z 1 2 ?_;intro w a
   cases p
   exact L _ _ a rfl
 intro g w a
 refine v 0 ?_
 refine ⟨vt,fun _ _=>⟨fun _ c=>?_,vt⟩⟩
 refine bE c fun V W c=>?_
 refine lp W [2,3,5,64,65] (fun A=>[(66,iV A)]) (fun A=>St w0 (imm (rS (rP rB (rS (rI .u32)))) x.v u.1::ros) (box t 26 [iV i,iV j,k.v,l.v,m.v]::box r 30 [iV d,iV b,e.v,f.v,h.v]::rs)) (fun | .inl ()=>(.exit 0,[],St w0 ros (box r 30 [iV d,iV b,e.v,f.v,h.v]::rs)) | .inr ()=>(.ret,[(4,.bool false)],St w0 ros rs)) rfl a rfl ?_ ?_
 ·clear a
  intro g w a
  rcases V with ⟨⟩ | ⟨⟩
  ·exact vx
  ·exact vx
 rintro A g w b3 a c
 refine v 0 ?_
 refine ⟨fun _ _ _ X c=>?_,vt⟩
 obtain ⟨b4,a⟩:=iLs a (mtF N) X
 exact vx
instance:CL prog 9 (type_of% @w_ev):=⟨@w_ev⟩
theorem w_ew {b d:Int} {f g h:LI} {i j k:Hdr} {out:(List (Bool×LI))×Bool×Int} (c:m_ja b d f g h=some out) (o:imm I1 i.v f∈ros) (p:imm I1 j.v g∈ros) (q:imm (rI .u64) k.v h∈ros) (r:globF∈ros) (a:St w0 ros rs w):
  Calls prog 22 #[.agg #[iV b,iV d,i.v,j.v,k.v]] w (fun e w=>∃ (l:Hdr),e=.returned (.tuple #[l.v,.bool out.2.1,iV out.2.2])∧St w0 (imm (rP rB (rS (rI .u32))) l.v out.1::ros) rs w):=by
 refine en func22 rfl ntmps22 fun Q m=>?_
 refine v 0 ?_
 refine fun _ _ _ _ _ _ _ _ w a=>⟨fun _ c=>?_,fun _ c=>?_⟩
 ·refine bE c fun s t c=>?_
  replace a:=a.ffz
  refine z 1 0 ?_;intro u x w a
  replace a:=a.ffz
  refine v 0 ?_
  refine ⟨fun _ c=>?_,fun _ _ _ n c=>?_⟩
  ·cases c
   replace a:=a.immNh (rP rB (rS (rI .u32)))
   exact m _ _ _ (fin3r results22 ⟨rfl,rfl⟩ ⟨rfl,rfl⟩ ⟨rfl,rfl⟩ ⟨_,rfl,((a.k14).facts (allC F0 (allT (allT (allT allI)))))⟩)
  ·obtain ⟨y,a⟩:=iLs a F0 n
   exact vx
 ·cases c
  replace a:=a.immNh (rP rB (rS (rI .u32)))
  exact m _ _ _ (fin3r results22 ⟨rfl,rfl⟩ ⟨rfl,rfl⟩ ⟨rfl,rfl⟩ ⟨_,rfl,(a.k1b)⟩)
instance:CL prog 22 (type_of% @w_ew):=⟨@w_ew⟩
theorem w_ex {d e:LI} {f h:Hdr} {out:Bool} (c:m_jc d e=some out) (k:imm (rI .u32) f.v d∈ros) (l:imm (rI .u32) h.v e∈ros) (a:St w0 ros rs w):
  Calls prog 56 #[f.v,h.v] w (rv w0 ros rs (.bool out)):=by
 refine en func56 rfl ntmps56 fun Q m=>?_
 refine v 0 ?_
 refine ⟨fun _ c=>?_,vt⟩
 refine bE c fun i j c=>?_
 refine lp j [0,1] (fun b=>[(5,iV b)]) (fun b=>St w0 ros rs) (fun | .inl ()=>(.exit 0,[],St w0 ros rs) | .inr ()=>(.ret,[(4,.bool false)],St w0 ros rs)) rfl a rfl ?_ ?_
 ·clear a
  intro g w a
  rcases i with ⟨⟩ | ⟨⟩
  ·exact vx
  ·exact vx
 rintro b g w n a c
 exact vx
instance:CL prog 56 (type_of% @w_ex):=⟨@w_ex⟩
end Go.Proofs.YtcoaljcfifecgaeGreatDoor
