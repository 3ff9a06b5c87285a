/- Walks: each function computes its model, printed. -/
import Derived.Test.YtcoaljcfifecgabGreatDoorW7
namespace Go.Proofs.YtcoaljcfifecgabGreatDoor
open Go Sx M Go.Proofs.Tryz
set_option maxRecDepth 100000
set_option maxHeartbeats 40000000
set_option linter.unusedVariables false
attribute [local irreducible] wpList Code.wp Calls DR QR QS LA LS St row box fam imm rowS loop
variable {w0:World} {ros:List Fact} {rs:List Res} {w:World}
theorem w_de {f:LI} {d:Hdr} {out:LI} (c:m_fu f=some out) (i:imm I1 d.v f∈ros) (a:St w0 ros rs w):
  Calls prog 36 #[d.v] w (fun e w=>∃ (g:Hdr),e=.returned (g.v)∧St w0 ros (row 3 I1 g.v out::rs) w):=by
 refine en func36 rfl ntmps36 fun Q h=>q 9 rfl (y (yenil SL_23 e0 rfl) (q 2 rfl ?_))
 rcases nilS d with b | b
 ·refine kT b ?_
  obtain rfl:=nilE b i a
  replace c:=nilM c
  refine q 7 rfl ?_
  cases c
  replace a:=a.rowNh 3 I1
  exact h _ _ _ (fin1r results36 ⟨rfl,rfl⟩ ⟨_,rfl,a⟩)
 ·refine kF b (q 4 rfl (yh (rLt (n:=0) (l:=[]) a SL_23 [] bp0 rfl rfl mks0) fun j w a=>?_))
  refine z 1 4 ?_;intro k m c o w a
  cases c
  exact h _ _ _ (fin1r results36 ⟨rfl,rfl⟩ ⟨_,rfl,a⟩)
instance:CL prog 36 (type_of% @w_de):=⟨@w_de⟩
theorem w_df {b:Bool} {d:LI} {f:Hdr} {out:Bool×LI} (c:m_fv b d=some out) (i:imm (rI .u32) f.v d∈ros) (a:St w0 ros rs w):
  Calls prog 88 #[.agg #[.bool b,f.v]] w (fun e w=>∃ (g:Hdr),e=.returned (.agg #[.bool out.1,g.v])∧St w0 (imm (rI .u32) g.v out.2::ros) rs w):=by
 refine en func88 rfl ntmps88 fun Q h=>?_
 refine z 6 3 ?_;intro j w a k w a l m c n w a o p c q w a w a
 cases c
 exact h _ _ _ (fin1r results88 (rcs2 rfl rfl a R0 ST_49 rfl) ⟨_,rfl,((a.k19).facts (allC F0 (allT (allT allI))))⟩)
instance:CL prog 88 (type_of% @w_df):=⟨@w_df⟩
theorem w_dg {b:List (List (Bool×LI))} {d:LI} {f:Bool} {g:LI} {h:Int} {i:Bool} {j:LI} {k l m n:Hdr} {out:Bool×LI} (c:m_fw b d f g h i j=some out) (r:imm (rS (rP rB (rS (rI .u32)))) k.v b∈ros) (s:imm I1 l.v d∈ros) (t:imm (rI .u32) m.v g∈ros) (u:imm (rI .u32) n.v j∈ros) (a:St w0 ros rs w):
  Calls prog 89 #[.agg #[k.v,l.v,.bool f,m.v,iV h],.agg #[.bool i,n.v]] w (fun e w=>∃ (o:Hdr),e=.returned (.agg #[.bool out.1,o.v])∧St w0 (imm (rI .u32) o.v out.2::ros) rs w):=by
 refine en func89 rfl ntmps89 fun Q p=>?_
 refine z 5 3 ?_;intro x w a y w a A w a B C c w a
 refine cI c (fun q c=>?_) fun q c=>?_
 ·refine z 3 4 ?_;intro D E c F w a w a
  cases c
  exact p _ _ _ (fin1r results89 (rcs2 rfl rfl a R0 ST_49 rfl) ⟨_,rfl,(a.k1b)⟩)
 ·refine z 3 3 ?_;intro G H c I w a w a
  cases c
  exact p _ _ _ (fin1r results89 (rcs2 rfl rfl a R0 ST_49 rfl) ⟨_,rfl,(a.k1b)⟩)
instance:CL prog 89 (type_of% @w_dg):=⟨@w_dg⟩
theorem w_dh {j:Bool} {k:LI} {l:Bool} {m:LI} {n o:Hdr} {out:Bool×LI} (c:m_fy j k l m=some out) (y:imm (rI .u32) n.v k∈ros) (A:imm (rI .u32) o.v m∈ros) (a:St w0 ros rs w):
  Calls prog 90 #[.agg #[.bool j,n.v],.agg #[.bool l,o.v]] w (fun e w=>∃ (p:Hdr),e=.returned (.agg #[.bool out.1,p.v])∧St w0 (imm (rI .u32) p.v out.2::ros) rs w):=by
 refine en func90 rfl ntmps90 fun Q t=>?_
 refine z 3 3 ?_;intro B w a C w a r w a
 refine bE c fun D E c=>bE c fun F G c=>bE c fun H I c=>bE c fun J K c=>dS [2,3,6,7,8,9] 6 folM ?_
 replace a:=a.drew
 refine z 8 3 ?_;intro L w a N w a O w a R w a
 refine bE c fun s u c=>?_
 replace a:=((a.k16).fz).fz
 refine lpN (Hdr×Hdr) Hdr u [4] (fun (f,h) (b,d)=>[(5,b.v),(6,d.v)]) (fun (f,h) (b,d)=>St w0 (imm (rI .u32) b.v f::imm (rI .u32) d.v h::ros) (box r 49 [.bool false,hnil.v]::rs)) (fun | s,i=>(.exit 0,[(5,i.v)],St w0 (imm (rI .u32) i.v s::ros) (box r 49 [.bool false,hnil.v]::rs))) rfl (_,_) ((a.k1q).facts (allC F1 (allC F0 (allT (allT (allT (allT allI))))))) rfl ?_ ?_
 ·clear a
  rintro i g w a
  refine z 2 3 ?_;intro S T c U w a w a
  cases c
  exact t _ _ _ (fin1r results90 (rcs2 rfl rfl a R0 ST_49 rfl) ⟨_,rfl,((a.k13).facts (allC F0 (allT (allT allI))))⟩)
 rintro ⟨f,h⟩ ⟨b,d⟩ g w V a c
 refine z 1 3 ?_
 refine cI c (fun x c=>?_) fun x c=>?_
 ·refine z 1 14 ?_;intro W X c Z a0 w a
  cases c
  exact ln (_,_) (a.facts (allC F3 (allC F1 (allT (allT (allT (allT allI)))))))
 ·refine q 2 rfl ?_
  cases c
  exact lx _ (a.facts (allC F0 (allT (allT allI))))
instance:CL prog 90 (type_of% @w_dh):=⟨@w_dh⟩
theorem w_di {E:List (List (Bool×LI))} {F:Hdr} {out:(List (Bool×LI))×Int} (c:m_f2 E=some out) (X:imm (rS (rP rB (rS (rI .u32)))) F.v E∈ros) (a:St w0 ros rs w):
  Calls prog 38 #[F.v] w (fun e w=>∃ (G:Hdr),e=.returned (.tuple #[G.v,iV out.2])∧St w0 ros (row 49 (rP rB (rS (rI .u32))) G.v out.1::rs) w):=by
 refine en func38 rfl ntmps38 fun Q r=>?_
 refine z 1 10 ?_;intro d1 d2 c w a
 refine cIn c (fun Z c=>?_) fun Z c=>?_
 ·refine z 1 6 ?_;intro d3 d4 c w a
  refine bE c fun d5 a0 c=>?_
  replace a:=a.immNh (rP rB (rS (rI .u32)))
  refine cT_ (w_ct a0 (mtF X) F0 a) fun d d6 w a=>?_
  refine z 3 9 ?_;intro b d7 c j f h w a m w a w a
  refine bE c fun H a1 c=>?_
  refine lp a1 [5,6] (fun s=>[(7,iV s)]) (fun s=>St w0 (imm (rI .u32) h.v b.2.2.2.1::ros) (row 28 rH d.v j::fam 49 (rP rB (rS (rI .u32))) j b.1::row 3 I1 f.v b.2.1::box m 124 [d.v,f.v,.bool b.2.2.1,h.v,iV b.2.2.2.2]::rs)) (fun | H=>(.exit 0,[(7,iV H)],St w0 (imm (rI .u32) h.v b.2.2.2.1::ros) (row 28 rH d.v j::fam 49 (rP rB (rS (rI .u32))) j b.1::row 3 I1 f.v b.2.1::box m 124 [d.v,f.v,.bool b.2.2.1,h.v,iV b.2.2.2.2]::rs))) rfl ((a.k1p).facts (allC F0 (allT (allT allI)))) rfl ?_ ?_
  ·clear a
   intro g w a
   refine q 10 rfl (cI c (fun a2 c=>?_) fun a2 c=>?_)
   ·refine q 8 rfl ?_
    cases c
    replace a:=a.rowNh 49 (rP rB (rS (rI .u32)))
    exact r _ _ _ (fin2r results38 ⟨rfl,rfl⟩ ⟨rfl,rfl⟩ ⟨_,rfl,((a.k2r).fc)⟩)
   ·refine q 5 rfl (bE c fun d8 a3 c=>yh (rMk a SL_28 e0 a3) fun n w a=>?_)
    refine z 2 0 ?_;intro a4 d9 c a5 w a
    refine bE c fun e1 I c=>y (yIs SL_28 e0 e0 a rO0 I) (yt (r_stn (cs:=[.bool a4.1,a5.v]) a ST_49 e0 e0 rfl (mkP mkB (mkS F0)) I) fun w a=>?_)
    refine z 1 0 ?_;intro a6 a7 c
    obtain ⟨e2,e3,cc38,a⟩:=a.ld rO0 a7
    replace a:=a.eltP
    obtain ⟨e4,e5,rfl,a⟩:=a
    replace a:=a.eltB
    obtain ⟨rfl,a⟩:=a
    replace a:=a.eltS
    obtain ⟨a8,rfl,a⟩:=a
    refine y (yCn (cs:=[.bool a6.1,a8.v]) ST_49 rfl e0 cc38) ?_
    refine z 4 4 ?_;intro t w a w a
    obtain ⟨⟨J,o,u⟩,a9,c⟩:=bs c
    replace a:=(((a.k20).ffz).k15).fz
    refine lpN Hdr Hdr a9 [6,7,8,9,56,57] (fun (x,p,A,B) l=>[(58,iV B)]) (fun (x,p,A,B) l=>St w0 (imm (rS (rP rB (rS (rI .u32)))) d.v b.1::imm I1 f.v b.2.1::imm (rI .u32) h.v b.2.2.2.1::imm (rI .u32) l.v A::ros) (box m 124 [d.v,f.v,.bool b.2.2.1,h.v,iV b.2.2.2.2]::row 49 (rP rB (rS (rI .u32))) n.v x::box t 49 [.bool p,l.v]::rs)) (fun | (J,o,u),k=>(.exit 2,[],St w0 (imm (rI .u32) k.v u::ros) (row 49 (rP rB (rS (rI .u32))) n.v J::box t 49 [.bool o,k.v]::rs))) rfl _ ((a.k18).facts (allC F1 (allC F0 (allC F4 (allC F2 (allT (allT (allT (allT (allT allI)))))))))) rfl ?_ ?_
    ·clear a
     rintro k g w a
     refine z 1 4 ?_
     refine bE c fun K b0 c=>?_
     refine lp b0 [8,9,85] (fun (C,D)=>[(86,iV D)]) (fun (C,D)=>St w0 (imm (rI .u32) k.v u::ros) (row 49 (rP rB (rS (rI .u32))) n.v C::box t 49 [.bool o,k.v]::rs)) (fun | K=>(.exit 4,[],St w0 ros (row 49 (rP rB (rS (rI .u32))) n.v K::rs))) rfl a rfl ?_ ?_
     ·clear a
      intro g w a
      refine q 10 rfl ?_
      cases c
      exact r _ _ _ (fin2r results38 ⟨rfl,rfl⟩ ⟨rfl,rfl⟩ ⟨_,rfl,a⟩)
     rintro ⟨C,D⟩ g w e6 a c
     refine q 6 rfl (cI c (fun b1 c=>?_) fun b1 c=>?_)
     ·refine q 10 rfl (bE c fun b2 L c=>bE c fun b3 b4 c=>bE c fun e7 N c=>dS [7,12] 2 folM ?_)
      replace a:=a.drew
      refine D1 127 0 7 rfl (qR 4 rfl (rQ rfl (yIa SL_28 e0 e0 a rO0 L) ?_))
      obtain ⟨e8,e9,cc127,a⟩:=a.ld rO0 L
      replace a:=a.eltP
      obtain ⟨f0,f1,rfl,a⟩:=a
      replace a:=a.eltB
      obtain ⟨rfl,a⟩:=a
      replace a:=a.eltS
      obtain ⟨b5,rfl,a⟩:=a
      refine rQ rfl (yCn (cs:=[.bool b2.1,b5.v]) ST_49 rfl e0 cc127) (rQ rfl (lbs_ [.bool o,k.v] ST_49 e0 a R1) (Rn QSn (kO (w_c8 b4 F0 F1 a) fun b6 w a=>dU (D0 3840 3 12 rfl (qR 3 rfl (rQ rfl (yIs SL_28 e0 e0 a rO0 N) (Rn (qS rfl (qS rfl QSn)) (LT wn (r_stn (cs:=[.bool b3.1,b6.v]) a ST_49 e0 e0 rfl (mkP mkB (mkS F0)) N) fun w a=>Dw 0 1024 (Rn (qS rfl QSn) (qx 6 rfl ?_))))))))))
      cases c
      exact lo (a.facts (allC F2 (allT (allT (allT allI)))))
     ·refine q 2 rfl ?_
      cases c
      exact xo ((a.k10).fc)
    rintro ⟨x,p,A,B⟩ l g w f2 a c
    refine q 6 rfl (cI c (fun b7 c=>?_) fun b7 c=>?_)
    ·refine z 2 5 ?_;intro f3 f4 c
     refine bE c fun f5 O c=>bE c fun b8 R c=>bE c fun f6 b9 c=>bE c fun c0 c1 c=>bE c fun f7 S c=>dS [11,12,14] 3 folM ?_
     replace a:=a.drew
     refine D1 2047 0 11 rfl (qR 2 rfl (rQ rfl (lbs_ [d.v,f.v,.bool b.2.2.1,h.v,iV b.2.2.2.2] ST_124 e0 a R0) (qR 1 rfl (rQ rfl (lb_ d.v O_42 e0 a R0) (qR 1 rfl (rQ rfl (yIa SL_42 e0 e0 a (rdI F0) O) ?_))))))
     obtain ⟨f8,a⟩:=iLs a F0 O
     refine rQ rfl (yCt O_28 e0 a F1 rfl) (qR 1 rfl (rQ rfl (yIa SL_28 e0 e0 a (rdI F0) R) ?_))
     obtain ⟨f9,g0,a⟩:=iLd a F0 R
     obtain ⟨g1,g2,rfl,a⟩:=a.eltP
     obtain ⟨rfl,a⟩:=a.eltB
     obtain ⟨c2,rfl,a⟩:=a.eltS
     refine rQ rfl (yCtn (cs:=[.bool b8.1,c2.v]) ST_49 rfl e0 a F1) (Rn QSn (kO (w_dg b9 F4 F5 F6 F0 a) fun g3 w a=>dU (D1 0 3 12 rfl (Rn (qS rfl (qS rfl QSn)) (kO (w_b2 c1 F0 a) fun c3 w a=>dU (D0 8192 3 14 rfl (rQ rfl (yIs SL_28 e0 e0 a rO1 S) (Rn (qS rfl (qS rfl QSn)) ?_))))))))
     replace a:=a.k16
     refine LT wn (r_stn (cs:=[.bool c0.1,c3.v]) a ST_49 e0 e0 rfl (mkP mkB (mkS F0)) S) fun w a=>Dw 0 0 (Rn QSn (bE c fun c5 T c=>bE c fun U c6 c=>qx 1 rfl (dS [5,6] 2 folM ?_)))
     replace a:=a.drew
     refine D1 31 0 5 rfl (rQ rfl (lbs_ [.bool p,l.v] ST_49 e0 a R2) (qR 2 rfl (rQ rfl (yIa SL_28 e0 e0 a rO0 T) ?_)))
     obtain ⟨g4,g5,cc148,a⟩:=a.ld rO0 T
     replace a:=a.eltP
     obtain ⟨g6,g7,rfl,a⟩:=a
     replace a:=a.eltB
     obtain ⟨rfl,a⟩:=a
     replace a:=a.eltS
     obtain ⟨c7,rfl,a⟩:=a
     refine rQ rfl (yCn (cs:=[.bool c5.1,c7.v]) ST_49 rfl e0 cc148) (Rn QSn (kO (w_dh c6 F10 F0 a) fun V w a=>dU (D0 0 0 6 rfl (Rn QSn ?_))))
     replace a:=a.k15
     refine LT wn (r_stbn (vals':=[.bool U.1,V.v]) (us:=[.bool U.1,V.v]) a ST_49 e0 e0 rfl rfl (one_of rfl) rfl) fun w a=>Dw 0 0 (Rn QSn (qx 6 rfl ?_))
     cases c
     exact ln _ ((a.k18).facts (allC F8 (allC F9 (allC F10 (allC F0 (allT (allT (allT (allT (allT (allT (allT (allT (allT (allT (allT (allT allI)))))))))))))))))
    ·refine q 2 rfl ?_
     cases c
     exact lx _ ((a.k2s).facts (allC F3 (allT (allT (allT (allT allI))))))
  rintro s g w g8 a c
  refine z 2 2 ?_
  refine bE c fun c8 i c=>?_
  refine jW 8 [5,6,7] [(37,.bool c8)] (St w0 (imm (rI .u32) h.v b.2.2.2.1::ros) (row 28 rH d.v j::fam 49 (rP rB (rS (rI .u32))) j b.1::row 3 I1 f.v b.2.1::box m 124 [d.v,f.v,.bool b.2.2.1,h.v,iV b.2.2.2.2]::rs)) rfl (fun W=>?_) ?_
  ·refine gI 29 i rfl (fun c9 i=>?_) fun c9 i=>?_
   ·refine z 1 1 ?_
    refine bE i fun g9 h0 i=>?_
    refine z 2 3 ?_
    cases i
    exact W _ _ a rfl
   ·refine q 8 rfl ?_
    cases i
    exact W _ _ a rfl
  intro g w a
  refine q 2 rfl ?_
  refine cJ c (fun d0 c=>?_) fun d0 c=>?_
  ·refine q 9 rfl ?_
   cases c
   exact lo a
  ·refine q 2 rfl ?_
   cases c
   exact xo a
 ·refine q 9 rfl ?_
  cases c
  replace a:=a.rowNh 49 (rP rB (rS (rI .u32)))
  exact r _ _ _ (fin2r results38 ⟨rfl,rfl⟩ ⟨rfl,rfl⟩ ⟨_,rfl,a⟩)
instance:CL prog 38 (type_of% @w_di):=⟨@w_di⟩
theorem w_dj {X:List (List (Bool×LI))} {Z:Int} {a0:Hdr} {out:(List (List (Bool×LI)))} (c:m_f9 X Z=some out) (C:imm (rS (rP rB (rS (rI .u32)))) a0.v X∈ros) (a:St w0 ros rs w):
  Calls prog 15 #[a0.v,iV Z] w (fun e w=>∃ (a2:Hdr) (a3:List Hdr),e=.returned (a2.v)∧St w0 ros (row 28 rH a2.v a3::fam 49 (rP rB (rS (rI .u32))) a3 out::rs) w):=by
 refine en func15 rfl ntmps15 fun Q c1=>bE c fun k c2 c=>q 9 rfl (cO (w_dd c2 C a) fun m w a=>bE c fun a4 c3 c=>q 21 rfl ?_)
 replace a:=(((a.rowNh 3 I1).rowNh 28 rH).fNew 49 (rP rB (rS (rI .u32)))).k16
 refine lpN (Hdr×Hdr×(List Hdr)) (Hdr×(List Hdr)) c3 [0,1,5,24] (fun (d,f,h) (i,j,b)=>[(6,i.v),(7,j.v),(25,iV h)]) (fun (d,f,h) (i,j,b)=>St w0 ros (row 4 rB m.v k::row 3 I1 i.v d::row 28 rH j.v b::fam 49 (rP rB (rS (rI .u32))) b f::rs)) (fun | a4,(J,K)=>(.exit 0,[(7,J.v)],St w0 ros (row 28 rH J.v K::fam 49 (rP rB (rS (rI .u32))) K a4::rs))) rfl (_,_,_) (a.k1i) rfl ?_ ?_
 ·clear a
  rintro ⟨J,K⟩ g w a
  refine q 9 rfl ?_
  cases c
  exact c1 _ _ _ (fin1r results15 ⟨rfl,rfl⟩ ⟨_,_,rfl,a⟩)
 rintro ⟨d,f,h⟩ ⟨i,j,b⟩ g w a5 a c
 refine q 6 rfl (cI c (fun c4 c=>?_) fun c4 c=>?_)
 ·refine q 3 rfl ?_
  refine jC (LI×(List (List (Bool×LI)))×Hdr×Hdr×(List Hdr)) [0,1,5,24,25] (fun (D,E,F,G,H)=>[(6,F.v),(7,G.v)]) (fun (D,E,F,G,H) w=>St w0 ros (row 4 rB m.v k::row 3 I1 F.v D::row 28 rH G.v H::fam 49 (rP rB (rS (rI .u32))) H E::rs) w∧m_f3 h D E=some a5) rfl ?_ ?_
  ·rintro ⟨D,E,F,G,H⟩ g w ⟨a,c⟩
   refine q 5 rfl ?_
   cases c
   exact ln (_,_,_) a
  refine bE c fun e9 a6 c=>q 12 rfl (y (yIa SL_74 e0 e0 a rO0 a6) (y (yB O_4 e0 a rO0 a6) (q 3 rfl ?_)))
  refine cJn c (fun c5 c=>?_) fun c5 c=>?_
  ·refine q 5 rfl (bE c fun f0 c6 c=>?_)
   have a7:=a
   replace a:=(a.k16).fz
   have t:=a.guest0
   replace a:=a7
   clear a7
   refine yC (yCall FN_36 (a1 e0)) (w_de c6 F0 t) ?_
   clear t
   rintro _ w ⟨f1,rfl,t⟩
   replace a:=a.back1 t
   clear t
   refine ⟨_,rfl,?_⟩
   refine nf (q 1 rfl (yh (rLt (n:=1) (l:=[h]) a SL_23 [iV h] (bp1 e0) rfl rfl (mks1 (cs:=[iV h]) rfl mkI mks0)) fun f2 w a=>bE c fun u c7 c=>?_))
   replace a:=a.k16
   refine yh (rAp a SL_23 e0 e0 rO1 c7) fun x w a=>q 12 rfl (y (yLen SL_42 e0 a (rdI C)) (bE c fun a8 c8 c=>q 4 rfl ?_))
   replace a:=((a.rowNh 28 rH).fNew 49 (rP rB (rS (rI .u32)))).k16
   refine lpN (Hdr×(List Hdr)) (Hdr×(List Hdr)) c8 [0,1,5,6,7,8,9,24,25,42,43] (fun (z,L) (p,o)=>[(10,p.v),(44,iV L)]) (fun (z,L) (p,o)=>St w0 ros (row 4 rB m.v k::row 3 I1 i.v d::row 28 rH j.v b::fam 49 (rP rB (rS (rI .u32))) b f::row 3 I1 x.v u::row 28 rH p.v o::fam 49 (rP rB (rS (rI .u32))) o z::rs)) (fun | a8,(N,O)=>(.exit 2,[(10,N.v)],St w0 ros (row 4 rB m.v k::row 3 I1 i.v d::row 28 rH j.v b::fam 49 (rP rB (rS (rI .u32))) b f::row 3 I1 x.v u::row 28 rH N.v O::fam 49 (rP rB (rS (rI .u32))) O a8::rs))) rfl (_,_) (a.k2t) rfl ?_ ?_
   ·clear a
    rintro ⟨N,O⟩ g w a
    refine bE c fun f3 c9 c=>q 5 rfl (yh (rMk a SL_28 e0 c9) fun r w a=>q 7 rfl (y (yLenF SLH_42 e0 a rO6 R7) (q 3 rfl ?_)))
    refine jC (List (Bool×LI)) [0,1,5,6,7,16,24,25] (fun A=>[]) (fun A w=>St w0 ros (row 4 rB m.v k::row 3 I1 i.v d::row 28 rH j.v b::fam 49 (rP rB (rS (rI .u32))) b f::row 49 (rP rB (rS (rI .u32))) r.v A::rs) w∧m_f4 f h d A=some a5) rfl ?_ ?_
    ·rintro A g w ⟨a,c⟩
     refine q 4 rfl (yh (rLt (n:=1) (l:=[r]) a SLH_42 [r.v] (bp1 e0) rfl rfl (mks1 rfl (mkF rfl) mks0)) fun f4 w a=>bE c fun f5 a9 c=>?_)
     replace a:=a.k1e
     obtain ⟨f6,ey2087,d0⟩:=app_rep a9 (a.famL R4) (show [r].length=[A].length from rfl)
     refine yh (rAp a SLH_42 e0 e0 rO1 d0) fun f7 w a=>?_
     replace a:=(a.k2u).fPush
     rw [← ey2087,← (app_some a9).1] at a
     exact q 3 rfl (jx (_,_,_,_,_) ⟨(a.k2v),c⟩)
    refine cI c (fun d1 c=>?_) fun d1 c=>?_
    ·exact q 3 rfl (bE c fun d2 d3 c=>cO (w_bz d3 a) fun d4 w a=>bE c fun f8 b0 c=>y (yIs SL_28 e0 e0 a rO0 b0) (yt (r_stn (cs:=[.bool d2.1,d4.v]) a ST_49 e0 e0 rfl (mkP mkB (mkS F0)) b0) fun w a=>q 1 rfl (jx _ ⟨((a.k2w).fc),c⟩)))
    ·refine q 3 rfl (bE c fun d5 d6 c=>?_)
     replace a:=(a.k2x).ffz
     refine cO (w_di d6 F0 a) fun d7 w a=>q 10 rfl (y (yLen SL_23 e0 a rO6) (bE c fun b1 d8 c=>q 4 rfl ?_))
     refine lp d8 [0,1,5,6,7,16,17,24,25,81,82] (fun (R,S)=>[(83,iV S)]) (fun (R,S)=>St w0 ros (row 4 rB m.v k::row 3 I1 i.v d::row 28 rH j.v b::fam 49 (rP rB (rS (rI .u32))) b f::row 49 (rP rB (rS (rI .u32))) r.v R::row 49 (rP rB (rS (rI .u32))) d7.v d5.1::row 3 I1 x.v u::rs)) (fun | b1=>(.exit 6,[],St w0 ros (row 4 rB m.v k::row 3 I1 i.v d::row 28 rH j.v b::fam 49 (rP rB (rS (rI .u32))) b f::row 49 (rP rB (rS (rI .u32))) r.v b1::rs))) rfl ((a.k2y).fc) rfl ?_ ?_
     ·clear a
      intro g w a
      exact q 1 rfl (jx _ ⟨a,c⟩)
     rintro ⟨R,S⟩ g w f9 a c
     refine q 6 rfl (cI c (fun d9 c=>?_) fun d9 c=>?_)
     ·refine q 7 rfl (bE c fun g0 b2 c=>y (yIa SL_23 e0 e0 a rO6 b2) (y (yI O_3 e0 a rO6 b2) (bE c fun b3 b4 c=>q 9 rfl (y (yIa SL_28 e0 e0 a rO5 b4) ?_))))
      obtain ⟨g1,g2,cc2119,a⟩:=a.ld rO5 b4
      replace a:=a.eltP
      obtain ⟨g3,g4,rfl,a⟩:=a
      replace a:=a.eltB
      obtain ⟨rfl,a⟩:=a
      replace a:=a.eltS
      obtain ⟨b5,rfl,a⟩:=a
      refine y (yCn (cs:=[.bool b3.1,b5.v]) ST_49 rfl e0 cc2119) (bE c fun g5 b6 c=>y (yIs SL_28 e0 e0 a rO4 b6) ?_)
      replace a:=a.k1f
      refine yt (r_stn (cs:=[.bool b3.1,b5.v]) a ST_49 e0 e0 rfl (mkP mkB (mkS F0)) b6) fun w a=>q 7 rfl ?_
      cases c
      exact lo ((a.k2z).fc)
     ·refine q 2 rfl ?_
      cases c
      exact xo (a.k30)
   rintro ⟨z,L⟩ ⟨p,o⟩ g w g6 a c
   refine q 6 rfl (cI c (fun e1 c=>?_) fun e1 c=>?_)
   ·refine q 6 rfl (bE c fun e2 b7 c=>y (yIa SL_42 e0 e0 a (rdI C) b7) ?_)
    obtain ⟨e3,a⟩:=iLs a C b7
    refine y (yCt O_28 e0 a F1 rfl) (q 12 rfl (y (yLen SL_23 e0 a rO4) (bE c fun T e4 c=>q 4 rfl ?_)))
    replace a:=a.rowNh 49 (rP rB (rS (rI .u32)))
    refine lpN Hdr Hdr e4 [0,1,5,6,7,8,9,10,12,24,25,42,43,44,48,49] (fun (U,V) I=>[(13,I.v),(50,iV V)]) (fun (U,V) I=>St w0 (imm (rP rB (rS (rI .u32))) e3.v e2::ros) (row 4 rB m.v k::row 3 I1 i.v d::row 28 rH j.v b::fam 49 (rP rB (rS (rI .u32))) b f::row 3 I1 x.v u::row 28 rH p.v o::fam 49 (rP rB (rS (rI .u32))) o z::row 49 (rP rB (rS (rI .u32))) I.v U::rs)) (fun | T,s=>(.exit 4,[(13,s.v)],St w0 ros (row 4 rB m.v k::row 3 I1 i.v d::row 28 rH j.v b::fam 49 (rP rB (rS (rI .u32))) b f::row 3 I1 x.v u::row 28 rH p.v o::fam 49 (rP rB (rS (rI .u32))) o z::row 49 (rP rB (rS (rI .u32))) s.v T::rs))) rfl _ ((a.k31).facts (allC F0 (allT (allT allI)))) rfl ?_ ?_
    ·clear a
     rintro s g w a
     refine q 5 rfl (yh (rLt (n:=1) (l:=[s]) a SLH_42 [s.v] (bp1 e0) rfl rfl (mks1 rfl (mkF rfl) mks0)) fun g7 w a=>bE c fun g8 b8 c=>?_)
     replace a:=a.k27
     obtain ⟨g9,ey2158,e5⟩:=app_rep b8 (a.famL R7) (show [s].length=[T].length from rfl)
     refine yh (rAp a SLH_42 e0 e0 rO1 e5) fun h0 w a=>?_
     replace a:=(a.k32).fPush
     rw [← ey2158,← (app_some b8).1] at a
     refine q 8 rfl ?_
     cases c
     exact ln (_,_) (a.k33)
    rintro ⟨U,V⟩ I g w h1 a c
    refine q 6 rfl (cI c (fun e6 c=>?_) fun e6 c=>?_)
    ·refine q 6 rfl (bE c fun h3 b9 c=>y (yIa SL_23 e0 e0 a rO4 b9) (y (yI O_3 e0 a rO4 b9) (bE c fun B c0 c=>q 7 rfl (y (yIa SL_28 e0 e0 a (rdI F0) c0) ?_))))
     obtain ⟨h4,h6,a⟩:=iLd a F0 c0
     obtain ⟨h7,h8,rfl,a⟩:=a.eltP
     obtain ⟨rfl,a⟩:=a.eltB
     obtain ⟨W,rfl,a⟩:=a.eltS
     refine y (yCtn (cs:=[.bool B.1,W.v]) ST_49 rfl e0 a F1) (yh (rLt (n:=1) (l:=[(B.1,B.2)]) a SL_28 [.agg #[.bool B.1,W.v]] (bp1 e0) rfl rfl (mks1 (cs:=[.bool B.1,W.v]) rfl (mkP mkB (mkS F0)) mks0)) fun h9 w a=>bE c fun i0 e7 c=>?_)
     replace a:=a.k34
     refine yh (rAp a SL_28 e0 e0 rO1 e7) fun i1 w a=>q 8 rfl ?_
     cases c
     exact ln _ ((a.k35).facts (allC F2 (allT (allT (allT allI)))))
    ·refine q 2 rfl ?_
     cases c
     exact lx _ (a.fc)
   ·refine q 2 rfl ?_
    cases c
    exact lx (_,_) a
  ·refine q 4 rfl (yh (rLt (n:=1) (l:=[h]) a SL_23 [iV h] (bp1 e0) rfl rfl (mks1 (cs:=[iV h]) rfl mkI mks0)) fun i2 w a=>bE c fun i3 e8 c=>?_)
   replace a:=a.k15
   exact yh (rAp a SL_23 e0 e0 rO1 e8) fun i4 w a=>q 6 rfl (jx (_,_,_,_,_) ⟨(a.k36),c⟩)
 ·refine q 2 rfl ?_
  cases c
  exact lx (_,_) (a.k37)
instance:CL prog 15 (type_of% @w_dj):=⟨@w_dj⟩
theorem w_dk {d f:Int} {g h i:LI} {j k l:Hdr} {out:(List (Bool×LI))×Bool×Int} (c:m_ga d f g h i=some out) (r:imm I1 j.v g∈ros) (s:imm I1 k.v h∈ros) (t:imm (rI .u64) l.v i∈ros) (u:globF∈ros) (a:St w0 ros rs w):
  Calls prog 5 #[.agg #[iV d,iV f,j.v,k.v,l.v]] w (fun e w=>∃ (m:Hdr),e=.returned (.tuple #[m.v,.bool out.2.1,iV out.2.2])∧St w0 (imm (rP rB (rS (rI .u32))) m.v out.1::ros) rs w):=by
 refine en func5 rfl ntmps5 fun Q b=>?_
 refine z 3 16 ?_;intro x w a A B c C D w a
 refine cIn c (fun n c=>?_) fun n c=>?_
 ·refine z 1 0 ?_
  refine bE c fun E F c=>?_
  replace a:=a.ffz
  refine z 1 0 ?_;intro G H w a
  replace a:=a.ffz
  refine z 1 3 ?_
  refine cI c (fun o c=>?_) fun o c=>?_
  ·refine q 9 rfl ?_
   cases c
   replace a:=a.immNh (rP rB (rS (rI .u32)))
   exact b _ _ _ (fin3r results5 ⟨rfl,rfl⟩ ⟨rfl,rfl⟩ ⟨rfl,rfl⟩ ⟨_,rfl,((a.k13).facts (allC F0 (allT (allT (allT allI)))))⟩)
  ·refine z 1 0 ?_;intro I p c
   obtain ⟨J,a⟩:=iLs a F0 p
   refine y (yCt O_28 e0 a F1 rfl) (q 6 rfl ?_)
   cases c
   exact b _ _ _ (fin3r results5 ⟨rfl,rfl⟩ ⟨rfl,rfl⟩ ⟨rfl,rfl⟩ ⟨_,rfl,((a.k13).facts (allC F0 (allT (allT (allT (allT allI))))))⟩)
 ·refine q 10 rfl ?_
  cases c
  replace a:=a.immNh (rP rB (rS (rI .u32)))
  exact b _ _ _ (fin3r results5 ⟨rfl,rfl⟩ ⟨rfl,rfl⟩ ⟨rfl,rfl⟩ ⟨_,rfl,(a.k1b)⟩)
instance:CL prog 5 (type_of% @w_dk):=⟨@w_dk⟩
theorem w_dl {b d:Bool} {f:LI} {g:Int} {h:Hdr} {out:Int} (c:m_gb b d f g=some out) (k:imm (rI .u32) h.v f∈ros) (l:globF∈ros) (a:St w0 ros rs w):
  Calls prog 39 #[.agg #[.bool b,.bool d,h.v,iV g]] w (fun e w=>e=.returned (iV out)∧St w0 ros rs w):=by
 refine en func39 rfl ntmps39 fun Q i=>?_
 refine z 5 2 ?_;intro m w a n o c p w a w a
 refine cJ c (fun j c=>?_) fun j c=>?_
 ·refine q 7 rfl ?_
  cases c
  exact za i results39 ⟨rfl,((a.k13).fc)⟩
 ·refine z 2 4 ?_;intro r s c w a
  cases c
  exact za i results39 ⟨rfl,((a.k13).fc)⟩
instance:CL prog 39 (type_of% @w_dl):=⟨@w_dl⟩
theorem w_dm {d f:Int} {A B C:LI} {h i j:Hdr} {out:(List (Int×Int×Int))} (c:m_ge d f A B C=some out) (N:imm I1 h.v A∈ros) (O:imm I1 i.v B∈ros) (R:imm (rI .u64) j.v C∈ros) (a:St w0 ros rs w):
  Calls prog 92 #[.agg #[iV d,iV f,h.v,i.v,j.v]] w (fun e w=>∃ (D:Hdr),e=.returned (D.v)∧St w0 ros (row 71 rTi64i64u64 D.v out::rs) w):=by
 refine en func92 rfl ntmps92 fun Q E=>?_
 refine z 3 3 ?_;intro o w a S T c w a
 refine cIn c (fun H c=>?_) fun H c=>?_
 ·refine q 14 rfl (bE c fun F I c=>?_)
  replace a:=a.rowNh 71 rTi64i64u64
  refine lpN Hdr Hdr I [1] (fun (p,b) k=>[(3,k.v),(4,iV b)]) (fun (p,b) k=>St w0 ros (box o 26 [iV d,iV f,h.v,i.v,j.v]::row 71 rTi64i64u64 k.v p::rs)) (fun | F,r=>(.exit 0,[(3,r.v)],St w0 ros (row 71 rTi64i64u64 r.v F::rs))) rfl _ (a.k16) rfl ?_ ?_
  ·clear a
   rintro r g w a
   refine q 9 rfl ?_
   cases c
   exact E _ _ _ (fin1r results92 ⟨rfl,rfl⟩ ⟨_,rfl,a⟩)
  rintro ⟨p,b⟩ k g w U a c
  refine z 1 3 ?_
  refine cI c (fun J c=>?_) fun J c=>?_
  ·refine z 3 4 ?_;intro V W c
   refine bE c fun G K c=>?_
   refine lpN Hdr Hdr K [1,4] (fun (s,t) m=>[(3,m.v),(5,iV t)]) (fun (s,t) m=>St w0 ros (box o 26 [iV d,iV f,h.v,i.v,j.v]::row 71 rTi64i64u64 m.v s::rs)) (fun | G,u=>(.exit 2,[(3,u.v)],St w0 ros (box o 26 [iV d,iV f,h.v,i.v,j.v]::row 71 rTi64i64u64 u.v G::rs))) rfl _ a rfl ?_ ?_
   ·clear a
    rintro u g w a
    refine q 8 rfl ?_
    cases c
    exact ln _ a
   rintro ⟨s,t⟩ m g w X a c
   refine z 3 3 ?_;intro Z a0 c
   refine cI c (fun L c=>?_) fun L c=>?_
   ·refine q 4 rfl (bE c fun x a1 c=>bE c fun y a2 c=>bE c fun a3 a4 c=>dS [13,14,15] 3 folM ?_)
    replace a:=a.drew
    refine z 7 0 ?_
    refine LH wn (rLt (n:=1) (l:=[(x,b,y)]) a SL_68 [.agg #[iV x,iV b,.int .u64 y]] (bp1 e0) rfl rfl (mks1 (cs:=[iV x,iV b,.int .u64 y]) rfl (mkF rfl) mks0)) fun a5 w a=>dU ?_
    refine z 2 7 ?_;intro a6 w a
    cases c
    exact ln _ (a.k1z)
   ·refine q 2 rfl ?_
    cases c
    exact lx _ a
  ·refine q 2 rfl ?_
   cases c
   exact lx _ (a.k11)
 ·refine q 7 rfl ?_
  cases c
  replace a:=a.rowNh 71 rTi64i64u64
  exact E _ _ _ (fin1r results92 ⟨rfl,rfl⟩ ⟨_,rfl,(a.k10)⟩)
instance:CL prog 92 (type_of% @w_dm):=⟨@w_dm⟩
theorem w_dn {h i:Int} {B C D:LI} {j k m:Hdr} {out:L2×Int} (c:m_gh h i B C D=some out) (a7:imm I1 j.v B∈ros) (a8:imm I1 k.v C∈ros) (a9:imm (rI .u64) m.v D∈ros) (a:St w0 ros rs w):
  Calls prog 40 #[.agg #[iV h,iV i,j.v,k.v,m.v]] w (fun e w=>∃ (E:Hdr) (F:List Hdr),e=.returned (.tuple #[E.v,iV out.2])∧St w0 ros (row 24 rH E.v F::fam 39 (rI .u64) F out.1::rs) w):=by
 refine en func40 rfl ntmps40 fun Q G=>?_
 refine z 3 9 ?_;intro H w a b0 b1 c w a
 refine cIn c (fun T c=>?_) fun T c=>?_
 ·refine q 14 rfl (bE c fun I U c=>?_)
  replace a:=((a.rowNh 24 rH).fNew 39 (rI .u64)).k16
  refine lpN (Hdr×(List Hdr)) (Hdr×(List Hdr)) U [1] (fun (r,s) (o,p)=>[(5,o.v),(6,iV s)]) (fun (r,s) (o,p)=>St w0 ros (box H 26 [iV h,iV i,j.v,k.v,m.v]::row 24 rH o.v p::fam 39 (rI .u64) p r::rs)) (fun | I,(d,b)=>(.exit 0,[(5,d.v)],St w0 ros (box H 26 [iV h,iV i,j.v,k.v,m.v]::row 24 rH d.v b::fam 39 (rI .u64) b I::rs))) rfl (_,_) (a.k15) rfl ?_ ?_
  ·clear a
   rintro ⟨d,b⟩ g w a
   refine z 2 10 ?_;intro V b2 c W w a
   refine bE c fun J X c=>?_
   refine lp X [5,7] (fun (t,x)=>[(8,iV x)]) (fun (t,x)=>St w0 ros (row 24 rH d.v b::fam 39 (rI .u64) b t::row 71 rTi64i64u64 W.v V::rs)) (fun | J=>(.exit 2,[],St w0 ros (row 24 rH d.v b::fam 39 (rI .u64) b J::rs))) rfl (a.k1k) rfl ?_ ?_
   ·clear a
    intro g w a
    refine q 10 rfl ?_
    cases c
    exact G _ _ _ (fin2r results40 ⟨rfl,rfl⟩ ⟨rfl,rfl⟩ ⟨_,_,rfl,a⟩)
   rintro ⟨t,x⟩ g w b3 a c
   refine z 1 3 ?_
   refine cI c (fun Z c=>?_) fun Z c=>?_
   ·refine q 4 rfl (bE c fun a0 K c=>bE c fun b4 y c=>bE c fun a1 L c=>bE c fun N O c=>bE c fun b5 R c=>bE c fun b6 a2 c=>dS [19] 1 folM ?_)
    replace a:=a.drew
    refine D0 524287 0 19 rfl (qR 3 rfl (rQ rfl (yIa SL_68 e0 e0 a rO2 K) (rQ rfl (yFe FL_71_0 e0) (rQ rfl (yFf (u:=iV a0.1) O_3 e0 a rO2 K rfl) ?_))))
    obtain ⟨b7,f⟩:=a.famI R1 y
    refine rQ rfl (yIa SLH_79 e0 e0 a rO0 f) (rQ rfl (yF1 O_24 e0 a rO0 f rfl) (qR 2 rfl (rQ rfl (yIa SL_68 e0 e0 a rO2 L) (rQ rfl (yFe FL_71_1 e0) (rQ rfl (yFf (u:=iV a1.2.1) O_3 e0 a rO2 L rfl) (qR 2 rfl (rQ rfl (yIa SL_68 e0 e0 a rO2 O) (rQ rfl (yFe FL_71_2 e0) (rQ rfl (yFf (u:=.int .u64 N.2.2) O_39 e0 a rO2 O rfl) (rQ rfl (yIs SL_24 e0 e0 a (rdF R1 f y) R) (Rn QSn ?_)))))))))))
    replace a:=a.k16
    refine LT wn (r_sti (cs:=[.int .u64 N.2.2]) (a.foc f y) O_39 rfl e0 e0 rfl mkI R) fun w a=>?_
    replace a:=a.unfoc' f a2
    refine Dw 0 0 (Rn QSn (qx 7 rfl ?_))
    cases c
    exact lo (a.k1c)
   ·refine q 2 rfl ?_
    cases c
    exact xo (a.k1d)
  rintro ⟨r,s⟩ ⟨o,p⟩ g w b8 a c
  refine z 1 3 ?_
  refine cI c (fun a3 c=>?_) fun a3 c=>?_
  ·refine z 1 0 ?_
   refine bE c fun a4 a5 c=>yh (rMk a SL_24 e0 a5) fun A w a=>yh (rLt (n:=1) (l:=[A]) a SLH_79 [A.v] (bp1 e0) rfl rfl (mks1 rfl (mkF rfl) mks0)) fun c0 w a=>bE c fun c1 S c=>?_
   replace a:=a.k1e
   obtain ⟨c2,ey80,a6⟩:=app_rep S (a.famL R4) (show [A].length=[a4].length from rfl)
   refine yh (rAp a SLH_79 e0 e0 rO1 a6) fun c3 w a=>?_
   replace a:=(a.k38).fPush
   rw [← ey80,← (app_some S).1] at a
   refine q 9 rfl ?_
   cases c
   exact ln (_,_) (a.k17)
  ·refine q 2 rfl ?_
   cases c
   exact lx (_,_) a
 ·refine q 9 rfl ?_
  cases c
  replace a:=((a.rowNh 24 rH).fNew 39 (rI .u64)).k16
  exact G _ _ _ (fin2r results40 ⟨rfl,rfl⟩ ⟨rfl,rfl⟩ ⟨_,_,rfl,(a.k1d)⟩)
instance:CL prog 40 (type_of% @w_dn):=⟨@w_dn⟩
theorem w_do {b d:Int} {W X Z:LI} {f h i:Hdr} {out:(List (List (Bool×LI)))×Int×Int} (c:m_gn b d W X Z=some out) (c3:imm I1 f.v W∈ros) (c4:imm I1 h.v X∈ros) (c5:imm (rI .u64) i.v Z∈ros) (c6:globF∈ros) (a:St w0 ros rs w):
  Calls prog 16 #[.agg #[iV b,iV d,f.v,h.v,i.v]] w (fun e w=>∃ (a0:Hdr),e=.returned (.tuple #[a0.v,iV out.2.1,iV out.2.2])∧St w0 ros (row 28 (rS (rP rB (rS (rI .u32)))) a0.v out.1::rs) w):=by
 refine en func16 rfl ntmps16 fun Q K=>?_
 refine z 3 9 ?_;intro j w a c7 c8 c w a
 refine cIn c (fun a9 c=>?_) fun a9 c=>?_
 ·refine z 1 2 ?_
  refine jW 4 [1] [(29,.bool ((decide ((16:Int) < b)) || (decide ((16:Int) < d))))] (St w0 ros (box j 26 [iV b,iV d,f.v,h.v,i.v]::rs)) rfl (fun a1=>?_) ?_
  ·refine gB 25 rfl (fun L=>?_) fun L=>?_
   ·exact q 4 rfl (a1 _ _ a (hasC (congrArg Value.bool (orT L)) rfl))
   ·refine z 1 2 ?_
    exact a1 _ _ a (hasC (congrArg Value.bool (orF L)) rfl)
  intro g w a
  refine q 2 rfl ?_
  refine cJ c (fun b0 c=>?_) fun b0 c=>?_
  ·refine q 9 rfl ?_
   cases c
   replace a:=a.rowNh 28 (rS (rP rB (rS (rI .u32))))
   exact K _ _ _ (fin3r results16 ⟨rfl,rfl⟩ ⟨rfl,rfl⟩ ⟨rfl,rfl⟩ ⟨_,rfl,(a.k10)⟩)
  ·refine q 15 rfl (bE c fun a2 b1 c=>?_)
   refine lp b1 [1] (fun (r,s,u)=>[(6,iV r),(7,.bool s),(8,iV u)]) (fun (r,s,u)=>St w0 ros (box j 26 [iV b,iV d,f.v,h.v,i.v]::rs)) (fun | a2=>(.exit 0,[(6,iV a2)],St w0 ros (box j 26 [iV b,iV d,f.v,h.v,i.v]::rs))) rfl a rfl ?_ ?_
   ·clear a
    intro g w a
    refine z 2 19 ?_;intro x c9 c A m w a
    refine bE c fun a3 b2 c=>?_
    replace a:=a.rowNh 28 (rS (rP rB (rS (rI .u32))))
    refine lpN Hdr Hdr b2 [1,6,10] (fun (p,N) o=>[(12,o.v),(13,iV N)]) (fun (p,N) o=>St w0 ros (box j 26 [iV b,iV d,f.v,h.v,i.v]::row 24 rH A.v m::fam 39 (rI .u64) m x.1::row 28 (rS (rP rB (rS (rI .u32)))) o.v p::rs)) (fun | a3,O=>(.exit 2,[(12,O.v)],St w0 ros (row 28 (rS (rP rB (rS (rI .u32)))) O.v a3::rs))) rfl _ (a.k39) rfl ?_ ?_
    ·clear a
     rintro O g w a
     refine q 12 rfl ?_
     cases c
     exact K _ _ _ (fin3r results16 ⟨rfl,rfl⟩ ⟨rfl,rfl⟩ ⟨rfl,rfl⟩ ⟨_,rfl,a⟩)
    rintro ⟨p,N⟩ o g w d0 a c
    refine z 1 3 ?_
    refine cI c (fun b3 c=>?_) fun b3 c=>?_
    ·refine q 16 rfl (bE c fun R b4 c=>?_)
     replace a:=a.rowNh 49 (rP rB (rS (rI .u32)))
     refine lpN Hdr Hdr b4 [1,6,10,12,13] (fun (S,B) C=>[(14,C.v),(15,iV B)]) (fun (S,B) C=>St w0 ros (box j 26 [iV b,iV d,f.v,h.v,i.v]::row 24 rH A.v m::fam 39 (rI .u64) m x.1::row 28 (rS (rP rB (rS (rI .u32)))) o.v p::row 49 (rP rB (rS (rI .u32))) C.v S::rs)) (fun | R,t=>(.exit 4,[(14,t.v)],St w0 ros (box j 26 [iV b,iV d,f.v,h.v,i.v]::row 24 rH A.v m::fam 39 (rI .u64) m x.1::row 28 (rS (rP rB (rS (rI .u32)))) o.v p::row 49 (rP rB (rS (rI .u32))) t.v R::rs))) rfl _ (a.k2l) rfl ?_ ?_
     ·clear a
      rintro t g w a
      refine q 5 rfl ?_
      replace a:=(a.k1f).fz
      refine yh (rLt (n:=1) (l:=[R]) a SL_42 [t.v] (bp1 e0) rfl rfl (mks1 (cs:=[t.v]) rfl (mkS F0) mks0)) fun d1 w a=>?_
      refine z 1 9 ?_;intro d2 d3 c d4 w a
      cases c
      exact ln _ ((a.k3a).fc)
     rintro ⟨S,B⟩ C g w b5 a c
     refine z 1 3 ?_
     refine cI c (fun b6 c=>?_) fun b6 c=>?_
     ·refine q 8 rfl (bE c fun d5 T c=>?_)
      obtain ⟨d6,D⟩:=a.famI R2 T
      refine y (yIa SLH_79 e0 e0 a rO1 D) (y (yF1 O_24 e0 a rO1 D rfl) (bE c fun d7 a4 c=>q 1 rfl (y (yIa SL_24 e0 e0 a (rdF R2 D T) a4) (y (yI O_39 e0 a (rdF R2 D T) a4) ?_))))
      refine z 5 3 ?_;intro d8 d9 c e1 w a e2 w a w a e3 e4 c w a
      refine jC ((List (Bool×LI))×Hdr) [1,6,10,12,13,15] (fun (E,F)=>[(14,F.v)]) (fun (E,F) w=>St w0 ros (box j 26 [iV b,iV d,f.v,h.v,i.v]::row 24 rH A.v m::fam 39 (rI .u64) m x.1::row 28 (rS (rP rB (rS (rI .u32)))) o.v p::row 49 (rP rB (rS (rI .u32))) F.v E::rs) w∧m_gi B E=some b5) rfl ?_ ?_
      ·rintro ⟨E,F⟩ g w ⟨a,c⟩
       refine q 7 rfl ?_
       cases c
       exact ln _ a
      refine cI c (fun b7 c=>?_) fun b7 c=>?_
      ·refine z 1 0 ?_
       refine yh (rLt (n:=1) (l:=[(false,[])]) a SL_28 [.agg #[.bool false,hnil.v]] (bp1 e0) rfl rfl (mks1 (cs:=[.bool false,hnil.v]) rfl (mkP mkB mkSn) mks0)) fun e5 w a=>?_
       refine z 1 2 ?_;intro e6 e7 c e8 w a
       exact jx (_,_) ⟨((a.k3b).fc),c⟩
      ·refine z 3 0 ?_;intro G e9 c a5 w a
       replace a:=a.fz
       refine yh (rLt (n:=1) (l:=[(G.1,G.2)]) a SL_28 [.agg #[.bool G.1,a5.v]] (bp1 e0) rfl rfl (mks1 (cs:=[.bool G.1,a5.v]) rfl (mkP mkB (mkS F0)) mks0)) fun f0 w a=>?_
       refine z 1 2 ?_;intro f1 f2 c f3 w a
       exact jx (_,_) ⟨((a.k3b).fc),c⟩
     ·refine q 2 rfl ?_
      cases c
      exact lx _ a
    ·refine q 2 rfl ?_
     cases c
     exact lx _ (a.k3c)
   rintro ⟨r,s,u⟩ g w b8 a c
   refine z 2 3 ?_
   refine cI c (fun c0 c=>?_) fun c0 c=>?_
   ·refine z 8 2 ?_;intro f4 f5 c k f6 c H w a a6 w a w a c1 f7 c w a
    refine jW 9 [1,6,7,8,9] [(55,.bool ((!(decide (c1=0))) && ((!s) || (decide (k.2.2.2 < r)))))] (St w0 (imm (rI .u32) H.v k.2.2.1::ros) (box j 26 [iV b,iV d,f.v,h.v,i.v]::box a6 63 [.bool k.1,.bool k.2.1,H.v,iV k.2.2.2]::rs)) rfl (fun a7=>?_) ?_
    ·refine gB 46 rfl (fun U=>?_) fun U=>?_
     ·refine q 3 rfl ?_
      refine jW 5 [1,6,7,8,9,46] [(54,.bool ((!s) || (decide (k.2.2.2 < r))))] (St w0 (imm (rI .u32) H.v k.2.2.1::ros) (box j 26 [iV b,iV d,f.v,h.v,i.v]::box a6 63 [.bool k.1,.bool k.2.1,H.v,iV k.2.2.2]::rs)) rfl (fun a8=>?_) ?_
      ·refine gB 49 rfl (fun V=>?_) fun V=>?_
       ·exact q 5 rfl (a8 _ _ (a.k16) (hasC (congrArg Value.bool (orT V)) rfl))
       ·refine z 1 3 ?_
        exact a8 _ _ (a.k16) (hasC (congrArg Value.bool (orF V)) rfl)
      intro g w a
      exact q 1 rfl (a7 _ _ a (hasC (congrArg Value.bool (andT U)) rfl))
     ·exact q 9 rfl (a7 _ _ (a.k16) (hasC (congrArg Value.bool (andF U)) rfl))
    intro g w a
    refine q 2 rfl ?_
    refine jC (Int×Bool) [1,8] (fun (I,J)=>[(6,iV I),(7,.bool J)]) (fun (I,J) w=>St w0 ros (box j 26 [iV b,iV d,f.v,h.v,i.v]::rs) w∧m_gl u I J=some b8) rfl ?_ ?_
    ·rintro ⟨I,J⟩ g w ⟨a,c⟩
     refine q 7 rfl ?_
     cases c
     exact lo a
    refine cJ c (fun c2 c=>?_) fun c2 c=>?_
    ·refine z 1 3 ?_
     exact jx (_,_) ⟨((a.k10).fc),c⟩
    ·exact q 1 rfl (jx (_,_) ⟨((a.k10).fc),c⟩)
   ·refine q 2 rfl ?_
    cases c
    exact xo a
 ·refine q 10 rfl ?_
  cases c
  replace a:=a.rowNh 28 (rS (rP rB (rS (rI .u32))))
  exact K _ _ _ (fin3r results16 ⟨rfl,rfl⟩ ⟨rfl,rfl⟩ ⟨rfl,rfl⟩ ⟨_,rfl,(a.k10)⟩)
instance:CL prog 16 (type_of% @w_do):=⟨@w_do⟩
theorem w_dp {s:List (List (Bool×LI))} {t:LI} {u x:Hdr} {out:(List (List (Bool×LI)))} (c:m_gq s t=some out) (y:imm (rS (rP rB (rS (rI .u32)))) u.v s∈ros) (A:imm I1 x.v t∈ros) (a:St w0 ros rs w):
  Calls prog 43 #[u.v,x.v] w (fun e w=>∃ (B:Hdr),e=.returned (B.v)∧St w0 ros (row 28 (rS (rP rB (rS (rI .u32)))) B.v out::rs) w):=by
 refine en func43 rfl ntmps43 fun Q G=>bE c fun C H c=>q 17 rfl ?_
 replace a:=a.rowNh 28 (rS (rP rB (rS (rI .u32))))
 refine lpN Hdr Hdr H [0,1] (fun (d,j) b=>[(5,b.v),(6,iV j)]) (fun (d,j) b=>St w0 ros (row 28 (rS (rP rB (rS (rI .u32)))) b.v d::rs)) (fun | C,k=>(.exit 0,[(5,k.v)],St w0 ros (row 28 (rS (rP rB (rS (rI .u32)))) k.v C::rs))) rfl _ a rfl ?_ ?_
 ·clear a
  rintro k g w a
  refine q 9 rfl ?_
  cases c
  exact G _ _ _ (fin1r results43 ⟨rfl,rfl⟩ ⟨_,rfl,a⟩)
 rintro ⟨d,j⟩ b g w O a c
 refine z 1 3 ?_
 refine cI c (fun I c=>?_) fun I c=>?_
 ·refine q 16 rfl (bE c fun m J c=>?_)
  replace a:=a.rowNh 49 (rP rB (rS (rI .u32)))
  refine lpN Hdr Hdr J [0,1,5,6] (fun (o,p) i=>[(7,i.v),(8,iV p)]) (fun (o,p) i=>St w0 ros (row 28 (rS (rP rB (rS (rI .u32)))) b.v d::row 49 (rP rB (rS (rI .u32))) i.v o::rs)) (fun | m,f=>(.exit 2,[(7,f.v)],St w0 ros (row 28 (rS (rP rB (rS (rI .u32)))) b.v d::row 49 (rP rB (rS (rI .u32))) f.v m::rs))) rfl _ (a.k16) rfl ?_ ?_
  ·clear a
   rintro f g w a
   refine q 5 rfl ?_
   replace a:=(a.k16).fz
   refine yh (rLt (n:=1) (l:=[m]) a SL_42 [f.v] (bp1 e0) rfl rfl (mks1 (cs:=[f.v]) rfl (mkS F0) mks0)) fun R w a=>?_
   refine z 1 9 ?_;intro S T c U w a
   cases c
   exact ln _ ((a.k10).fc)
  rintro ⟨o,p⟩ i g w V a c
  refine z 1 3 ?_
  refine cI c (fun K c=>?_) fun K c=>?_
  ·refine q 4 rfl (bE c fun W D c=>bE c fun X E c=>bE c fun h F c=>bE c fun Z L c=>dS [11,12,13] 3 folM ?_)
   replace a:=a.drew
   refine D1 2047 0 11 rfl (qR 3 rfl (rQ rfl (yIa SL_42 e0 e0 a (rdI y) D) ?_))
   obtain ⟨a0,a⟩:=iLs a y D
   refine rQ rfl (yCt O_28 e0 a F1 rfl) (qR 2 rfl (rQ rfl (yIa SL_23 e0 e0 a (rdI (F_2 A)) E) (rQ rfl (yI O_3 e0 a (rdI (F_2 A)) E) (rQ rfl (yIa SL_28 e0 e0 a (rdI F0) F) ?_))))
   obtain ⟨a1,a2,a⟩:=iLd a F0 F
   obtain ⟨a3,a4,rfl,a⟩:=a.eltP
   obtain ⟨rfl,a⟩:=a.eltB
   obtain ⟨r,rfl,a⟩:=a.eltS
   refine rQ rfl (yCtn (cs:=[.bool h.1,r.v]) ST_49 rfl e0 a F1) (Rn QSn (LH wn (rLt (n:=1) (l:=[(h.1,h.2)]) a SL_28 [.agg #[.bool h.1,r.v]] (bp1 e0) rfl rfl (mks1 (cs:=[.bool h.1,r.v]) rfl (mkP mkB (mkS F0)) mks0)) fun a5 w a=>dU (D1 0 1 12 rfl (Rn (qS rfl QSn) ?_))))
   replace a:=a.k15
   refine LH wn (rAp a SL_28 e0 e0 rO1 L) fun N w a=>dU (D1 0 0 13 rfl (Rn QSn (Ly wn (a_ N.v e0) (dU (Dw 0 0 (Rn QSn (qx 7 rfl ?_)))))))
   cases c
   exact ln _ ((a.k1z).fc)
  ·refine q 2 rfl ?_
   cases c
   exact lx _ a
 ·refine q 2 rfl ?_
  cases c
  exact lx _ a
instance:CL prog 43 (type_of% @w_dp):=⟨@w_dp⟩
theorem w_dq {u:List (List (Bool×LI))} {x:Hdr} {out:(List (List (Bool×LI×Bool×LI)))} (c:m_gt u=some out) (A:imm (rS (rP rB (rS (rI .u32)))) x.v u∈ros) (a:St w0 ros rs w):
  Calls prog 99 #[x.v] w (fun e w=>∃ (B:Hdr) (C:List Hdr),e=.returned (B.v)∧St w0 ros (row 135 rH B.v C::fam 132 (rP rB (rP (rS (rI .u32)) (rP rB (rS (rI .u32))))) C out::rs) w):=by
 refine en func99 rfl ntmps99 fun Q H=>bE c fun D I c=>q 17 rfl ?_
 replace a:=((a.rowNh 135 rH).fNew 132 (rP rB (rP (rS (rI .u32)) (rP rB (rS (rI .u32)))))).k16
 refine lpN (Hdr×(List Hdr)) (Hdr×(List Hdr)) I [0] (fun (h,m) (d,b)=>[(3,d.v),(4,iV m)]) (fun (h,m) (d,b)=>St w0 ros (row 135 rH d.v b::fam 132 (rP rB (rP (rS (rI .u32)) (rP rB (rS (rI .u32))))) b h::rs)) (fun | D,(o,p)=>(.exit 0,[(3,o.v)],St w0 ros (row 135 rH o.v p::fam 132 (rP rB (rP (rS (rI .u32)) (rP rB (rS (rI .u32))))) p D::rs))) rfl (_,_) a rfl ?_ ?_
 ·clear a
  rintro ⟨o,p⟩ g w a
  refine q 9 rfl ?_
  cases c
  exact H _ _ _ (fin1r results99 ⟨rfl,rfl⟩ ⟨_,_,rfl,a⟩)
 rintro ⟨h,m⟩ ⟨d,b⟩ g w V a c
 refine z 1 3 ?_
 refine cI c (fun J c=>?_) fun J c=>?_
 ·refine q 16 rfl (bE c fun r K c=>?_)
  replace a:=a.rowNh 132 (rP rB (rP (rS (rI .u32)) (rP rB (rS (rI .u32)))))
  refine lpN Hdr Hdr K [0,3,4] (fun (s,t) i=>[(5,i.v),(6,iV t)]) (fun (s,t) i=>St w0 ros (row 135 rH d.v b::fam 132 (rP rB (rP (rS (rI .u32)) (rP rB (rS (rI .u32))))) b h::row 132 (rP rB (rP (rS (rI .u32)) (rP rB (rS (rI .u32))))) i.v s::rs)) (fun | r,f=>(.exit 2,[(5,f.v)],St w0 ros (row 135 rH d.v b::fam 132 (rP rB (rP (rS (rI .u32)) (rP rB (rS (rI .u32))))) b h::row 132 (rP rB (rP (rS (rI .u32)) (rP rB (rS (rI .u32))))) f.v r::rs))) rfl _ (a.k1g) rfl ?_ ?_
  ·clear a
   rintro f g w a
   refine q 5 rfl (yh (rLt (n:=1) (l:=[f]) a SLH_129 [f.v] (bp1 e0) rfl rfl (mks1 rfl (mkF rfl) mks0)) fun W w a=>bE c fun X E c=>?_)
   replace a:=a.k16
   obtain ⟨Z,ey191,L⟩:=app_rep E (a.famL R2) (show [f].length=[r].length from rfl)
   refine yh (rAp a SLH_129 e0 e0 rO1 L) fun a0 w a=>?_
   replace a:=(a.k1i).fPush
   rw [← ey191,← (app_some E).1] at a
   refine q 9 rfl ?_
   cases c
   exact ln (_,_) (a.k1j)
  rintro ⟨s,t⟩ i g w a1 a c
  refine z 1 0 ?_;intro a2 N c
  obtain ⟨a3,a⟩:=iLs a A N
  refine y (yCt O_28 e0 a F1 rfl) ?_
  refine z 1 3 ?_
  refine cI c (fun O c=>?_) fun O c=>?_
  ·refine z 1 0 ?_;intro a4 R c
   obtain ⟨a5,a⟩:=iLs a (F_2 A) R
   refine y (yCt O_28 e0 a F1 rfl) ?_
   refine z 1 0 ?_;intro S T c
   obtain ⟨a6,a7,a⟩:=iLd a F0 T
   obtain ⟨a8,a9,rfl,a⟩:=a.eltP
   obtain ⟨rfl,a⟩:=a.eltB
   obtain ⟨U,rfl,a⟩:=a.eltS
   refine y (yCtn (cs:=[.bool S.1,U.v]) ST_49 rfl e0 a F1) ?_
   refine z 3 0 ?_;intro j b0 c F w a k b1 c G w a
   replace a:=((a.k16).fz).fz
   refine yh (rLt (n:=1) (l:=[(j.1,j.2,k.1,k.2)]) a SL_135 [.agg #[.bool j.1,F.v,.bool k.1,G.v]] (bp1 e0) rfl rfl (mks1 (cs:=[.bool j.1,F.v,.bool k.1,G.v]) rfl (mkP mkB (mkP (mkS F1) (mkP mkB (mkS F0)))) mks0)) fun b2 w a=>?_
   refine z 1 9 ?_;intro b3 b4 c b5 w a
   cases c
   exact ln _ ((a.k1k).fc)
  ·refine q 2 rfl ?_
   cases c
   exact lx _ (a.fc)
 ·refine q 2 rfl ?_
  cases c
  exact lx (_,_) a
instance:CL prog 99 (type_of% @w_dq):=⟨@w_dq⟩
theorem w_dr {b:List (List (Bool×LI))} {d:Hdr} {out:Int} (c:m_gu b=some out) (g:imm (rS (rP rB (rS (rI .u32)))) d.v b∈ros) (a:St w0 ros rs w):
  Calls prog 98 #[d.v] w (fun e w=>e=.returned (iV out)∧St w0 ros rs w):=by
 refine en func98 rfl ntmps98 fun Q f=>?_
 refine z 1 3 ?_
 refine cI c (fun h c=>?_) fun h c=>?_
 ·refine q 7 rfl ?_
  cases c
  exact za f results98 ⟨rfl,a⟩
 ·refine z 1 0 ?_;intro j i c
  obtain ⟨k,a⟩:=iLs a g i
  refine y (yCt O_28 e0 a F1 rfl) ?_
  refine z 1 4 ?_
  cases c
  exact za f results98 ⟨rfl,(a.fc)⟩
instance:CL prog 98 (type_of% @w_dr):=⟨@w_dr⟩
end Go.Proofs.YtcoaljcfifecgabGreatDoor
