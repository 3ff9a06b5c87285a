/- Walks: each function computes its model, printed. -/
import Derived.Test.YtoahkigijbeegaaGreatDoorW14
namespace Go.Proofs.YtoahkigijbeegaaGreatDoor
open Go Sx M Go.Proofs.Tryz
set_option maxRecDepth 100000
set_option maxHeartbeats 40000000
set_option linter.unusedVariables false
attribute [local irreducible] wpList Code.wp Calls DR QR QS LA LS St row box fam imm rowS loop
variable {w0:World} {mu:List Fact} {rs:List Res} {w:World}
theorem Xq {p:Prop}(h:p:=by
  refine z 4 0 ?_;intro A B c r C c
  refine bE c fun D l c=>y (yIs E2 e0 e0 a rO0 l) (yt (V1 (cs:=[.int .u64 r]) a B5 rfl e0 e0 rfl mkI l) fun w a=>q 7 rfl ?_)
  cases c
  exact lo a):p:=h
theorem Ze {p:Prop}(h:p:=by
  refine q 2 rfl ?_
  cases c
  exact lx _ a):p:=h
theorem fk {F G H I:LI} {f d e h:Hdr} {out:Bool} (c:m_mq F G H I=some out) (b2:imm I1 f.v F∈mu) (b:imm I1 d.v G∈mu) (n:imm I1 e.v H∈mu) (b3:imm iu h.v I∈mu) (a:St w0 mu rs w):
  Calls prog 41 #[.agg #[f.v,d.v,e.v,h.v]] w (rv w0 mu rs (.bool out)):=by
 refine en func41 rfl ntmps41 fun Q u=>?_
 refine z 3 5 ?_;intro i w a
 refine bE c fun b4 o c=>bE c fun x j c=>?_
 refine jN Unit [1,3] (fun _=>[(25,.bool x)]) (fun _=>St w0 mu (box i 43 [f.v,d.v,e.v,h.v]::rs)) rfl ?_ ?_
 ·rcases Z4 j with ⟨y,j⟩ | ⟨y,j⟩
  ·refine bE j fun b5 J j=>?_
   have T:=U2 j
   refine dS [] 0 V0 ?_
   replace a:=a.drew
   refine Dw 65535 0 (qR 1 rfl (rQ rfl (lb_ d.v P0 e0 a R0) (rQ rfl (yIa N0 e0 rfl a (rdI b) o) (rQ rfl (yI O_3 e0 a (rdI b) o) (qR 2 rfl (rK 15 rfl (nF (dT y)) (qR 1 rfl (rQ rfl (lb_ d.v P0 e0 a R0) (qR 1 rfl (rQ rfl (yIa N0 e0 e0 a (rdI b) J) (rQ rfl (yI O_3 e0 a (rdI b) J) (qR 1 rfl (rQ rfl (lb_ e.v P0 e0 a R0) ?_)))))))))))))
   exact rQ rfl (T1 N0 e0 a (rdI n)) (qR 1 rfl (rQ rfl (pf_ (.bool x) e0 rfl (eqv T e0)) (Rn QSn (jr () a))))
  ·have U:=U2 j
   refine dS [] 0 V0 ?_
   replace a:=a.drew
   exact Dw 65535 0 (qR 1 rfl (rQ rfl (lb_ d.v P0 e0 a R0) (rQ rfl (yIa N0 e0 rfl a (rdI b) o) (rQ rfl (yI O_3 e0 a (rdI b) o) (qR 2 rfl (rK 15 rfl (nT (dF y)) (qR 9 rfl (rQ rfl (pt_ (.bool x) e0 rfl (eqv U rfl)) (Rn QSn (jr () a))))))))))
 rintro _ g w a
 refine q 1 rfl ?_
 refine cJ c (fun V c=>?_) fun V c=>?_
 ·refine q 7 rfl ?_
  cases c
  exact za u results41 ⟨rfl,(a.k14)⟩
 ·refine q 10 rfl (bE c fun W X c=>?_)
  refine lp X [1,3,26] (fun A=>[(27,iV A)]) (fun A=>St w0 mu (box i 43 [f.v,d.v,e.v,h.v]::rs)) (fun | .inl ()=>(.exit 0,[],St w0 mu rs) | .inr ()=>(.ret,[(2,.bool false)],St w0 mu rs)) rfl a rfl ?_ ?_
  ·clear a
   intro g w a
   rcases W with ⟨⟩ | ⟨⟩
   ·refine q 8 rfl ?_
    cases c
    exact za u results41 ⟨rfl,a⟩
   ·refine q 2 rfl ?_
    cases c
    exact za u results41 ⟨rfl,a⟩
  rintro A g w b6 a c
  refine q 6 rfl (cI c (fun Z c=>?_) fun Z c=>?_)
  ·refine q 12 rfl (bE c fun b7 p c=>bE c fun b8 r c=>bE c fun B k c=>?_)
   refine jN Unit [1,3,4,26,27] (fun _=>[(53,.bool B)]) (fun _=>St w0 mu (box i 43 [f.v,d.v,e.v,h.v]::rs)) rfl ?_ ?_
   ·rcases Z4 k with ⟨C,k⟩ | ⟨C,k⟩
    ·have a0:=U2 k
     refine dS [] 0 V0 ?_
     replace a:=a.drew
     refine Dw 16777215 0 (qR 1 rfl (rQ rfl (lb_ d.v P0 e0 a R0) (qR 1 rfl (rQ rfl (yIa N0 e0 e0 a (rdI b) p) (rQ rfl (yI O_3 e0 a (rdI b) p) (qR 1 rfl (rQ rfl (lb_ d.v P0 e0 a R0) (qR 2 rfl (rQ rfl (yIa N0 e0 e0 a (rdI b) r) (rQ rfl (yI O_3 e0 a (rdI b) r) (qR 2 rfl (rK 42 rfl (dT C) (qR 10 rfl ?_)))))))))))))
     exact rQ rfl (pt_ (.bool B) e0 rfl (eqv a0 rfl)) (Rn QSn (jr () a))
    ·refine bE k fun c0 K k=>?_
     have a1:=U2 k
     refine dS [] 0 V0 ?_
     replace a:=a.drew
     refine Dw 16777215 0 (qR 1 rfl (rQ rfl (lb_ d.v P0 e0 a R0) (qR 1 rfl (rQ rfl (yIa N0 e0 e0 a (rdI b) p) (rQ rfl (yI O_3 e0 a (rdI b) p) (qR 1 rfl (rQ rfl (lb_ d.v P0 e0 a R0) (qR 2 rfl (rQ rfl (yIa N0 e0 e0 a (rdI b) r) (rQ rfl (yI O_3 e0 a (rdI b) r) (qR 2 rfl (rK 42 rfl (dF C) (qR 1 rfl ?_)))))))))))))
     exact rQ rfl (lb_ d.v P0 e0 a R0) (qR 2 rfl (rQ rfl (yIa N0 e0 e0 a (rdI b) K) (rQ rfl (yI O_3 e0 a (rdI b) K) (qR 1 rfl (rQ rfl (lb_ e.v P0 e0 a R0) (rQ rfl (T1 N0 e0 a (rdI n)) (qR 1 rfl (rQ rfl (pf_ (.bool B) e0 rfl (eqv a1 e0)) (Rn QSn (jr () a))))))))))
   rintro _ g w a
   refine q 1 rfl ?_
   refine cJ c (fun a2 c=>?_) fun a2 c=>?_
   ·refine q 9 rfl ?_
    cases c
    exact xo (a.k14)
   ·refine q 3 rfl (bE c fun s L c=>bE c fun t N c=>bE c fun D O c=>dS [14] 1 V0 ?_)
    replace a:=a.drew
    refine D1 16383 0 14 rfl (qR 1 rfl (rQ rfl (lb_ e.v P0 e0 a R0) (qR 1 rfl (rQ rfl (lb_ d.v P0 e0 a R0) (qR 1 rfl (rQ rfl (yIa N0 e0 e0 a (rdI b) L) (rQ rfl (yI O_3 e0 a (rdI b) L) (qR 1 rfl (rQ rfl (lb_ d.v P0 e0 a R0) (qR 2 rfl (rQ rfl (yIa N0 e0 e0 a (rdI b) N) (rQ rfl (yI O_3 e0 a (rdI b) N) (rQ rfl (ySl N0 e0 a (rdI n) (.inl (S0 some e0)) (.inl (S0 some e0)) O) ?_)))))))))))))
    replace a:=a.sub n O
    refine Rn QSn (Ly wn (a_ ((subH e 1 s t).v) e0) (dU ?_))
    refine z 2 2 ?_
    refine bE c fun a3 l c=>?_
    refine jW 6 [1,3,5,26,27] [(77,.bool a3)] (St w0 (imm I1 (subH e 1 s t).v D::mu) (box i 43 [f.v,d.v,e.v,h.v]::rs)) rfl (fun R=>?_) ?_
    ·refine gI 71 l rfl (fun a4 l=>?_) fun a4 l=>?_
     ·refine q 6 rfl ?_
      cases l
      exact R _ _ a rfl
     ·refine q 1 rfl (bE l fun c1 c2 l=>?_)
      refine z 2 3 ?_
      cases l
      exact R _ _ a rfl
    intro g w a
    refine bE c fun a5 m c=>q 1 rfl ?_
    refine jW 9 [1,3,5,26,27] [(87,.bool a5)] (St w0 (imm I1 (subH e 1 s t).v D::mu) (box i 43 [f.v,d.v,e.v,h.v]::rs)) rfl (fun S=>?_) ?_
    ·refine gJ 78 m rfl (fun a6 m=>?_) fun a6 m=>?_
     ·refine q 9 rfl ?_
      cases m
      exact S _ _ a rfl
     ·refine z 1 1 ?_
      refine bE m fun c3 c4 m=>?_
      refine z 2 3 ?_
      cases m
      exact S _ _ a rfl
    intro g w a
    refine q 2 rfl ?_
    refine cJ c (fun a7 c=>?_) fun a7 c=>?_
    ·refine q 9 rfl ?_
     cases c
     exact xo ((a.k14).fc)
    ·refine q 8 rfl (bE c fun a8 a9 c=>?_)
     refine lp a9 [1,3,5,26,27] (fun E=>[(6,iV E)]) (fun E=>St w0 (imm I1 (subH e 1 s t).v D::mu) (box i 43 [f.v,d.v,e.v,h.v]::rs)) (fun | .inl ()=>(.exit 2,[],St w0 mu (box i 43 [f.v,d.v,e.v,h.v]::rs)) | .inr ()=>(.ret,[(2,.bool false)],St w0 mu rs)) rfl a rfl ?_ ?_
     ·clear a
      intro g w a
      rcases a8 with ⟨⟩ | ⟨⟩
      ·refine q 7 rfl ?_
       cases c
       exact lo a
      ·refine q 3 rfl ?_
       cases c
       exact xo a
     rintro E g w c5 a c
     refine z 1 3 ?_
     refine cI c (fun b0 c=>?_) fun b0 c=>?_
     ·refine q 5 rfl (bE c fun c6 c7 c=>bE c fun c8 c9 c=>dS [] 0 V0 ?_)
      replace a:=a.drew
      refine z 5 1 ?_
      refine cI c (fun b1 c=>?_) fun b1 c=>?_
      ·refine q 8 rfl ?_
       cases c
       exact xo ((a.k14).fc)
      ·refine q 8 rfl ?_
       cases c
       exact lo a
     ·refine q 2 rfl ?_
      cases c
      exact xo (a.fc)
  ·refine q 2 rfl ?_
   cases c
   exact xo (a.k14)
instance:CL prog 41 (type_of% @fk):=⟨@fk⟩
theorem zg {i j k l:LI} {b d e f:Hdr} {out:Int} (c:m_mt i j k l=some out) (x:imm I1 b.v i∈mu) (y:imm I1 d.v j∈mu) (A:imm I1 e.v k∈mu) (B:imm iu f.v l∈mu) (C:globF∈mu) (a:St w0 mu rs w):
  Calls prog 14 #[.agg #[b.v,d.v,e.v,f.v]] w (rv w0 mu rs (iV out)):=by
 refine en func14 rfl ntmps14 fun Q D=>?_
 refine v 26 ?_
 refine fun h w a=>⟨vt,fun _ _ _ _ _ w a=>⟨fun _ c=>?_,vt⟩⟩
 refine jW 8 [1,3] [(33,.bool ((!(decide ((j.length:Int)=(wa .i64 (i.length:Int) 1)))) || (!(decide ((k.length:Int)=(l.length:Int))))))] (St w0 mu (box h 43 [b.v,d.v,e.v,f.v]::rs)) rfl (fun p=>?_) ?_
 ·refine gB 25 rfl (fun m=>?_) fun m=>?_
  ·exact q 8 rfl (p _ _ a (Z0 (S0 Value.bool (orT m)) rfl))
  ·refine z 4 2 ?_
   exact p _ _ a (Z0 (S0 Value.bool (orF m)) rfl)
 intro g w a
 refine v 0 ?_
 refine ⟨vt,fun _ _ _ _ _ w a=>⟨fun _ c=>?_,vt⟩⟩
 refine bE c fun r s c=>?_
 refine lp s [1,3,39,40] (fun n=>[(41,iV n)]) (fun n=>St w0 mu (box h 43 [b.v,d.v,e.v,f.v]::rs)) (fun | .inl ()=>(.exit 1,[],St w0 mu (box h 43 [b.v,d.v,e.v,f.v]::rs)) | .inr ()=>(.ret,[(2,iV 4)],St w0 mu rs)) rfl a rfl ?_ ?_
 ·clear a
  intro g w a
  rcases r with ⟨⟩ | ⟨⟩
  ·refine q 10 rfl (bE c fun t u c=>?_)
   refine lp u [1,49] (fun o=>[(50,iV o)]) (fun o=>St w0 mu (box h 43 [b.v,d.v,e.v,f.v]::rs)) (fun | .inl ()=>(.exit 3,[],St w0 mu rs) | .inr ()=>(.ret,[(2,iV 4)],St w0 mu rs)) rfl a rfl ?_ ?_
   ·clear a
    intro g w a
    rcases t with ⟨⟩ | ⟨⟩
    ·exact vx
    ·exact vx
   rintro o g w E a c
   exact vx
  ·exact vx
 rintro n g w F a c
 exact vx
instance:CL prog 14 (type_of% @zg):=⟨@zg⟩
theorem dk {d:LI} {e:Hdr} {out:Int} (c:m_mv d=some out) (i:imm iu e.v d∈mu) (a:St w0 mu rs w):
  Calls prog 192 #[e.v] w (rv w0 mu rs (iV out)):=by
 refine en func192 rfl ntmps192 fun Q j=>?_
 refine z 1 4 ?_
 refine bE c fun f h c=>?_
 refine lp h [5,6] (fun b=>[(7,iV b)]) (fun b=>St w0 mu rs) (fun | .inl ()=>(.exit 0,[],St w0 mu rs) | .inr ()=>(.ret,[(2,iV 4)],St w0 mu rs)) rfl a rfl ?_ ?_
 ·clear a
  intro g w a
  rcases f with ⟨⟩ | ⟨⟩
  ·exact vx
  ·exact vx
 rintro b g w k a c
 exact vx
instance:CL prog 192 (type_of% @dk):=⟨@dk⟩
theorem bk {b:LI} {d:Int} {e:Hdr} {out:Int} (c:m_mw b d=some out) (f:imm iu e.v b∈mu) (a:St w0 mu rs w):
  Calls prog 143 #[e.v,iV d] w (rv w0 mu rs (iV out)):=by
 exact en func143 rfl ntmps143 fun Q g=>vx
instance:CL prog 143 (type_of% @bk):=⟨@bk⟩
theorem xg {b d e f g:LI} {h i j k l:Hdr} {out:Int} (c:m_mx b d e f g=some out) (m:imm I1 h.v b∈mu) (n:imm I1 i.v d∈mu) (o:imm I1 j.v e∈mu) (p:imm iu k.v f∈mu) (q:imm iu l.v g∈mu) (r:globF∈mu) (a:St w0 mu rs w):
  Calls prog 84 #[.agg #[h.v,i.v,j.v,k.v],l.v] w (rv w0 mu rs (iV out)):=by
 exact en func84 rfl ntmps84 fun Q s=>vx
instance:CL prog 84 (type_of% @xg):=⟨@xg⟩
theorem wg {e f:LI} {h i:Hdr} {out:LI} (c:m_mz e f=some out) (s:imm iu h.v e∈mu) (t:imm I1 i.v f∈mu) (a:St w0 mu rs w):
  Calls prog 86 #[h.v,i.v] w (ro w0 mu rs 56 iu out):=by
 refine en func86 rfl ntmps86 fun Q m=>?_
 refine z 1 0 ?_
 refine bE c fun u n c=>yh (rMk a E2 e0 n) fun j w a=>?_
 refine z 1 4 ?_
 refine bE c fun k o c=>?_
 refine lp o [0,5,11,12] (fun (b,d)=>[(13,iV d)]) (fun (b,d)=>St w0 mu (row 56 iu j.v b::rs)) (fun | k=>(.exit 0,[],St w0 mu (row 56 iu j.v k::rs))) rfl a rfl ?_ ?_
 ·clear a
  intro g w a
  refine q 9 rfl ?_
  cases c
  exact m _ _ _ (X1 results86 ⟨rfl,rfl⟩ ⟨_,rfl,a⟩)
 rintro ⟨b,d⟩ g w x a c
 refine q 6 rfl (cI c (fun p c=>?_) fun p c=>?_)
 ·exact Xq
 ·refine q 2 rfl ?_
  cases c
  exact xo a
instance:CL prog 86 (type_of% @wg):=⟨@wg⟩
theorem vg {h:Int} {out:LI} (c:m_m1 h=some out) (a:St w0 mu rs w):
  Calls prog 87 #[iV h] w (ro w0 mu rs 3 I1 out):=by
 refine en func87 rfl ntmps87 fun Q k=>bE c fun i j c=>q 18 rfl ?_
 replace a:=a.rowNh 3 I1
 refine lpN Hdr Hdr j [5] (fun (d,e) b=>[(3,b.v),(6,iV e)]) (fun (d,e) b=>St w0 mu (row 3 I1 b.v d::rs)) (fun | i,f=>(.exit 0,[(3,f.v)],St w0 mu (row 3 I1 f.v i::rs))) rfl _ a rfl ?_ ?_
 ·clear a
  rintro f g w a
  exact vx
 rintro ⟨d,e⟩ b g w l a c
 exact vx
instance:CL prog 87 (type_of% @vg):=⟨@vg⟩
theorem La {k:LI} {m:Hdr} {out:(List (List (Bool×Bool×LI×Int)))} (c:m_m3 k=some out) (H:imm iu m.v k∈mu) (I:globF∈mu) (a:St w0 mu rs w):
  Calls prog 144 #[m.v] w (fun e w=>∃ (o:Hdr) (p:List Hdr),e=.returned (o.v)∧St w0 mu (row 67 rH o.v p::fam 65 (rP rB (rP rB (rP (rS Zt) I1))) p out::rs) w):=by
 refine en func144 rfl ntmps144 fun Q B=>?_
 refine z 1 0 ?_
 refine bE c fun J C c=>?_
 obtain ⟨D,em4,E⟩:=G5 C hnil
 refine yh (rMk a l8 e0 E) fun r w a=>?_
 replace a:=(a.fReps 65 (rP rB (rP rB (rP (rS Zt) I1))) D).k10
 rw [← em4] at a
 refine z 1 4 ?_
 refine bE c fun s F c=>?_
 refine lpN (List Hdr) (List Hdr) F [3,9,10] (fun (f,h) d=>[(11,iV h)]) (fun (f,h) d=>St w0 mu (row 67 rH r.v d::fam 65 (rP rB (rP rB (rP (rS Zt) I1))) d f::rs)) (fun | s,i=>(.exit 0,[],St w0 mu (row 67 rH r.v i::fam 65 (rP rB (rP rB (rP (rS Zt) I1))) i s::rs))) rfl _ a rfl ?_ ?_
 ·clear a
  rintro i g w a
  refine q 9 rfl ?_
  cases c
  exact B _ _ _ (X1 results144 ⟨rfl,rfl⟩ ⟨_,_,rfl,a⟩)
 rintro ⟨f,h⟩ d g w K a c
 refine q 6 rfl (cI c (fun G c=>?_) fun G c=>?_)
 ·refine z 3 0 ?_;intro L N c b O c t w a
  refine yh (rLt (n:=1) (l:=[(b.1,b.2.1,b.2.2.1,b.2.2.2)]) a N7 [.agg #[.bool b.1,.bool b.2.1,t.v,iV b.2.2.2]] (bp1 e0) rfl rfl (J1 (cs:=[.bool b.1,.bool b.2.1,t.v,iV b.2.2.2]) rfl (mkP mkB (mkP mkB (mkP (mkS F0) mkI))) L1)) fun x w a=>bE c fun R A c=>?_
  obtain ⟨S,j⟩:=V5 (u:=x) A (a.famL (mtR (mtR mhR)))
  refine y (yIs l8 e0 e0 a rO1 j) ?_
  replace a:=a.k10
  refine yt (V1 (cs:=[x.v]) a m8 rfl e0 e0 rfl (mkF rfl) j) fun w a=>?_
  replace a:=(a.k1i).fput j A
  refine q 7 rfl ?_
  cases c
  exact ln _ ((a.k10).fc)
 ·exact Ze
instance:CL prog 144 (type_of% @La):=⟨@La⟩
theorem w_gi {d:List (Bool×Bool×LI×Int)} {f:Hdr} {out:Bool×Bool×LI×Int} (c:m_m6 d=some out) (a0:globF∈mu) (a:St w0 mu (row 65 (rP rB (rP rB (rP (rS Zt) I1))) f.v d::rs) w):
  Calls prog 135 #[f.v] w (fun e w=>∃ (C:Hdr),e=.returned (.agg #[.bool out.1,.bool out.2.1,C.v,iV out.2.2.2])∧St w0 (imm Zt C.v out.2.2.1::mu) (row 65 (rP rB (rP rB (rP (rS Zt) I1))) f.v d::rs) w):=by
 refine en func135 rfl ntmps135 fun Q D=>?_
 refine z 2 4 ?_;intro h w a
 refine bE c fun N O c=>?_
 replace a:=a.rowNh 65 (rP rB (rP rB (rP (rS Zt) I1)))
 refine lpN Hdr Hdr O [2,12,13] (fun (m,o,p) i=>[(3,i.v),(4,iV o),(14,iV p)]) (fun (m,o,p) i=>St w0 mu (row 65 (rP rB (rP rB (rP (rS Zt) I1))) f.v d::box h 65 [.bool false,.bool false,hnil.v,iV 0]::row 65 (rP rB (rP rB (rP (rS Zt) I1))) i.v m::rs)) (fun | .inl (r,E),j=>(.exit 0,[(3,j.v),(4,iV E)],St w0 mu (row 65 (rP rB (rP rB (rP (rS Zt) I1))) f.v d::box h 65 [.bool false,.bool false,hnil.v,iV 0]::row 65 (rP rB (rP rB (rP (rS Zt) I1))) j.v r::rs)) | .inr (F,G,H),_=>(.ret,[],St w0 mu (row 65 (rP rB (rP rB (rP (rS Zt) I1))) f.v d::box h 65 [.bool F,.bool G,hnil.v,iV H]::rs))) rfl _ (a.k18) rfl ?_ ?_
 ·clear a
  rintro j g w a
  rcases N with ⟨r,E⟩ | ⟨F,G,H⟩
  ·refine z 2 4 ?_;intro I w a
   obtain ⟨⟨J,K⟩,R,c⟩:=bs c
   replace a:=a.immNh Zt
   refine lpN Hdr Hdr R [2,4,9,35,36] (fun (s,t,u) k=>[(37,iV u)]) (fun (s,t,u) k=>St w0 (imm Zt k.v t::mu) (row 65 (rP rB (rP rB (rP (rS Zt) I1))) f.v d::box h 65 [.bool false,.bool false,hnil.v,iV 0]::box I 63 [.bool s,k.v]::row 65 (rP rB (rP rB (rP (rS Zt) I1))) j.v r::rs)) (fun | (J,K),x=>(.exit 2,[],St w0 (imm Zt x.v K::mu) (row 65 (rP rB (rP rB (rP (rS Zt) I1))) f.v d::box h 65 [.bool false,.bool false,hnil.v,iV 0]::box I 63 [.bool J,x.v]::rs))) rfl _ (a.k32) rfl ?_ ?_
   ·clear a
    rintro x g w a
    refine z 3 3 ?_;intro a1 a2 c a3 w a w a
    cases c
    exact D _ _ _ (X1 results135 (V2 rfl rfl a R0 J3 rfl) ⟨_,rfl,((a.k13).facts (U0 F0 (M0 (M0 M1))))⟩)
   rintro ⟨s,t,u⟩ k g w a4 a c
   refine q 6 rfl (cI c (fun S c=>?_) fun S c=>?_)
   ·refine z 1 0 ?_;intro A T c
    obtain ⟨a5,a6,cc103,a⟩:=a.ld rO3 T
    replace a:=a.eltP
    obtain ⟨a7,a8,rfl,a⟩:=a
    replace a:=a.eltB
    obtain ⟨rfl,a⟩:=a
    replace a:=a.eltP
    obtain ⟨a9,b0,rfl,a⟩:=a
    replace a:=a.eltB
    obtain ⟨rfl,a⟩:=a
    replace a:=a.eltP
    obtain ⟨b1,b2,rfl,a⟩:=a
    replace a:=a.eltS
    obtain ⟨U,rfl,a⟩:=a
    replace a:=a.swf.eltI
    obtain ⟨rfl,a⟩:=a
    refine y (yCn (cs:=[.bool A.1,.bool A.2.1,U.v,iV A.2.2.2]) J3 rfl e0 cc103) ?_
    refine z 2 2 ?_;intro b4 w a w a
    refine bE c fun b5 b6 c=>bE c fun b7 b8 c=>dS [7,8,9] 3 V0 ?_
    replace a:=a.drew
    refine z 7 6 ?_;intro b9 w a c0 w a w a
    cases c
    exact ln _ ((a.k33).facts (U0 F0 (M0 (M0 (M0 (M0 M1))))))
   ·refine q 2 rfl ?_
    cases c
    exact lx _ (a.k1k)
  ·refine q 2 rfl ?_
   cases c
   replace a:=a.immNh Zt
   exact D _ _ _ (X1 results135 (V2 rfl rfl a R1 J3 rfl) ⟨_,rfl,(a.k11)⟩)
 rintro ⟨m,o,p⟩ i g w c1 a c
 refine q 6 rfl (cI c (fun V c=>?_) fun V c=>?_)
 ·refine z 1 0 ?_;intro B W c
  obtain ⟨c2,c3,cc118,a⟩:=a.ld rO0 W
  replace a:=a.eltP
  obtain ⟨c4,c5,rfl,a⟩:=a
  replace a:=a.eltB
  obtain ⟨rfl,a⟩:=a
  replace a:=a.eltP
  obtain ⟨c6,c7,rfl,a⟩:=a
  replace a:=a.eltB
  obtain ⟨rfl,a⟩:=a
  replace a:=a.eltP
  obtain ⟨c8,c9,rfl,a⟩:=a
  replace a:=a.eltS
  obtain ⟨X,rfl,a⟩:=a
  replace a:=a.swf.eltI
  obtain ⟨rfl,a⟩:=a
  refine y (yCn (cs:=[.bool B.1,.bool B.2.1,X.v,iV B.2.2.2]) J3 rfl e0 cc118) ?_
  refine z 6 10 ?_;intro d0 w a w a b d1 c L w a d2 w a w a
  refine cJn c (fun Z c=>?_) fun Z c=>?_
  ·refine z 2 0 ?_
   refine yh (rLt (n:=1) (l:=[(b.1,b.2.1,b.2.2.1,b.2.2.2.1)]) a N7 [.agg #[.bool b.1,.bool b.2.1,L.v,iV b.2.2.2.1]] (bp1 e0) rfl rfl (J1 (cs:=[.bool b.1,.bool b.2.1,L.v,iV b.2.2.2.1]) rfl (mkP mkB (mkP mkB (mkP (mkS F0) mkI))) L1)) fun d3 w a=>?_
   refine z 1 8 ?_;intro d4 d5 c d6 w a
   cases c
   exact ln _ ((a.k34).fc)
  ·refine z 2 6 ?_;intro d7 d8 c w a w a
   cases c
   exact lx hnil ((a.k35).fc)
 ·exact Ze
theorem Kd {f:List (List (Bool×Bool×LI×Int))} {i:Int} {g:Hdr} {b:List Hdr} {out:Bool×Bool×LI×Int} (c:m_m7 f i=some out) (k:globF∈mu) (a:St w0 mu (row 67 rH g.v b::fam 65 (rP rB (rP rB (rP (rS Zt) I1))) b f::rs) w):
  Calls prog 145 #[g.v,iV i] w (fun e w=>∃ (j:Hdr),e=.returned (.agg #[.bool out.1,.bool out.2.1,j.v,iV out.2.2.2])∧St w0 (imm Zt j.v out.2.2.1::mu) (row 67 rH g.v b::fam 65 (rP rB (rP rB (rP (rS Zt) I1))) b f::rs) w):=by
 refine en func145 rfl ntmps145 fun Q m=>?_
 refine z 1 6 ?_;intro n w a
 refine bE c fun o h c=>?_
 obtain ⟨p,d⟩:=a.famI R2 h
 refine y (yIa l8 e0 e0 a rO1 d) (y (yF1 m8 e0 a rO1 d rfl) (bE c fun q l c=>?_))
 replace a:=(a.k16).foc d h
 refine cO (w_gi l k a) fun r w a=>?_
 replace a:=a.unfoc0 d h
 exact vx
instance:CL prog 145 (type_of% @Kd):=⟨@Kd⟩
theorem Jd {i:List (List (Bool×Bool×LI×Int))} {j k m:Int} {g:Hdr} {o:List Hdr} {out:(List (List (Bool×Bool×LI×Int)))} (c:m_m8 i j k m=some out) (f:globF∈mu) (a:St w0 mu (row 67 rH g.v o::fam 65 (rP rB (rP rB (rP (rS Zt) I1))) o i::rs) w):
  Calls prog 146 #[g.v,iV j,.int .u64 k,.int .u64 m] w (fun e w=>∃ (p:List Hdr),e=.returned (.tuple #[])∧St w0 mu (row 67 rH g.v p::fam 65 (rP rB (rP rB (rP (rS Zt) I1))) p out::rs) w):=by
 refine en func146 rfl ntmps146 fun Q x=>bE c fun E q c=>bE c fun F y c=>bE c fun G A c=>bE c fun H B c=>bE c fun d C c=>bE c fun I D c=>bE c fun J r c=>dS [7,9,10,11,12,13,15] 7 V0 ?_
 replace a:=a.drew
 refine D1 383 0 7 rfl (qR 4 rfl ?_)
 obtain ⟨K,b⟩:=a.famI R1 q
 refine rQ rfl (yIa l8 e0 e0 a rO0 b) (rQ rfl (yF1 m8 e0 a rO0 b rfl) (qR 2 rfl (Rn QSn (kO (E6 y f a) fun L w a=>dU (D1 0 319 9 rfl (Rn (qS rfl (qS rfl (qS rfl (qS rfl (sY rfl (yIa l8 e0 e0 a rO0 b) (sY rfl (yF1 m8 e0 a rO0 b rfl) (qS rfl QSn))))))) (kO (E6 A (mtF f) a) fun N w a=>dU (D1 0 63 10 rfl (Rn (qS rfl (qS rfl (qS rfl (qS rfl (sY rfl (yIa l8 e0 e0 a rO0 b) (sY rfl (yF1 m8 e0 a rO0 b rfl) QSn)))))) (kO (Ud B F1 F0 (F_2 f) a) fun O w a=>dU ?_))))))))))
 refine D1 0 63 11 rfl (Rn (qS rfl (qS rfl (qS rfl (qS rfl (sY rfl (yIa l8 e0 e0 a rO0 b) (sY rfl (yF1 m8 e0 a rO0 b rfl) QSn)))))) (kO (Td C F0 (F_3 f) a) fun s w a=>dU (D1 0 63 12 rfl (Rn (qS rfl (qS rfl (qS rfl (qS rfl (sY rfl (yIa l8 e0 e0 a rO0 b) (sY rfl (yF1 m8 e0 a rO0 b rfl) QSn)))))) (LH wn (rLt (n:=1) (l:=[(d.1,d.2.1,d.2.2.1,d.2.2.2)]) a N7 [.agg #[.bool d.1,.bool d.2.1,s.v,iV d.2.2.2]] (bp1 e0) rfl rfl (J1 (cs:=[.bool d.1,.bool d.2.1,s.v,iV d.2.2.2]) rfl (mkP mkB (mkP mkB (mkP (mkS F0) mkI))) L1)) fun R w a=>dU (D1 0 63 13 rfl (Rn (qS rfl (qS rfl (qS rfl (qS rfl (sY rfl (yIa l8 e0 e0 a rO1 b) (sY rfl (yF1 m8 e0 a rO1 b rfl) QSn)))))) ?_)))))))
 replace a:=(a.k16).foc b q
 refine LH wn (rAp a N7 e0 e0 rO2 D) fun t w a=>dU (D0 16384 3 15 rfl ?_)
 obtain ⟨S,h⟩:=V5 (u:=t) r (a.famLx (mtR mhR))
 refine rQ rfl (yIs l8 e0 e0 a rO3 h) (Rn (qS rfl (qS rfl QSn)) ?_)
 replace a:=a.k1d
 refine LT wn (V1 (cs:=[t.v]) a m8 rfl e0 e0 rfl (mkF rfl) h) fun w a=>?_
 replace a:=(a.k1i).unfS b h r
 refine z 1 0 ?_
 cases c
 exact x _ _ _ (p9 results146 ⟨_,rfl,((a.k37).fc)⟩)
instance:CL prog 146 (type_of% @Jd):=⟨@Jd⟩
theorem ug {I J K L N O:LI} {j b f d R S:Hdr} {out:LI×Int} (c:m_nb I J K L N O=some out) (c4:imm I1 j.v I∈mu) (h:imm I1 b.v J∈mu) (T:imm I1 f.v K∈mu) (l:imm iu d.v L∈mu) (n:imm iu R.v N∈mu) (A:imm I1 S.v O∈mu) (m:globF∈mu) (a:St w0 mu rs w):
  Calls prog 85 #[.agg #[j.v,b.v,f.v,d.v],R.v,S.v] w (fun e w=>∃ (U:Hdr),e=.returned (.tuple #[U.v,iV out.2])∧St w0 mu (row 56 iu U.v out.1::rs) w):=by
 refine en func85 rfl ntmps85 fun Q V=>q 2 rfl (yb (W5 (vals:=[j.v,b.v,f.v,d.v]) a e0 rfl) fun p w a=>bE c fun a9 W c=>bE c fun b0 B c=>q 5 rfl ?_)
 refine jN (Hdr×(List Hdr)×Hdr) [2,3] (fun (k,r,i)=>[(8,k.v),(9,i.v)]) (fun (k,r,i)=>St w0 mu (box p 43 [j.v,b.v,f.v,d.v]::row 67 rH k.v r::fam 65 (rP rB (rP rB (rP (rS Zt) I1))) r a9::row 56 iu i.v b0::rs)) rfl ?_ ?_
 ·refine dS [1,4,5,6] 4 V0 ?_
  replace a:=a.drew
  refine Dm 13 0 [1,4] (qR 2 rfl (rQ rfl (T1 E2 e0 a (rdI n)) (Rn QSn ?_)))
  refine La1 rfl ?_ (La1 rfl ?_ LAn)
  ·refine kT_ (La W n m a) fun s b1 w a=>dU (Dm 0 12 [4,5] (Rn (qS rfl (sY rfl (T1 E2 e0 a (rdI n)) QSn)) ?_))
   refine La1 rfl ?_ (La1 rfl ?_ LAn)
   ·exact LH wn (rMk a E2 e0 B) fun o w a=>dU (D1 0 0 5 rfl (Rn QSn (Ly wn (a_ s.v e0) (dU (D1 0 0 6 rfl (Rn QSn (Ly wn (a_ o.v e0) (dU (Dw 0 0 (Rn QSn (jr (_,_,_) (a.k38))))))))))))
   ·exact Ly wn (a_ s.v e0) (dU (D1 0 12 4 rfl (Rn (qS rfl (sY rfl (T1 E2 e0 a (rdI n)) QSn)) (LH wn (rMk a E2 e0 B) fun o w a=>dU (D1 0 0 6 rfl (Rn QSn (Ly wn (a_ o.v e0) (dU (Dw 0 0 (Rn QSn (jr (_,_,_) (a.k38))))))))))))
  ·refine LH wn (rMk a E2 e0 B) fun o w a=>dU (D1 0 1 1 rfl (Rn (qS rfl QSn) (kT_ (La W n m a) fun s b1 w a=>dU (D1 0 0 5 rfl (Rn QSn (Ly wn (a_ s.v e0) (dU (D1 0 0 6 rfl (Rn QSn (Ly wn (a_ o.v e0) ?_))))))))))
   exact dU (Dw 0 0 (Rn QSn (jr (_,_,_) (a.k1d))))
 rintro ⟨k,r,i⟩ g w a
 refine q 5 rfl (y (T1 N0 e0 a (rdI A)) (bE c fun b2 b3 c=>q 4 rfl ?_))
 refine lpN (List Hdr) Unit b3 [3,8,9,18,19] (fun (C,D,E) t=>[(20,iV E)]) (fun (C,D,E) t=>St w0 mu (box p 43 [j.v,b.v,f.v,d.v]::row 67 rH k.v t::fam 65 (rP rB (rP rB (rP (rS Zt) I1))) t C::row 56 iu i.v D::rs)) (fun | .inl X,_=>(.exit 0,[],St w0 mu (row 56 iu i.v X::rs)) | .inr (),_=>(.ret,[(6,hnil.v),(7,iV 233)],St w0 mu rs)) rfl _ a rfl ?_ ?_
 ·clear a
  rintro _ g w a
  rcases b2 with X | ⟨⟩
  ·refine q 10 rfl ?_
   cases c
   exact V _ _ _ (M3 results85 ⟨rfl,rfl⟩ ⟨rfl,rfl⟩ ⟨_,rfl,a⟩)
  ·refine q 2 rfl ?_
   cases c
   replace a:=a.rowNh 56 iu
   exact V _ _ _ (M3 results85 ⟨rfl,rfl⟩ ⟨rfl,rfl⟩ ⟨_,rfl,a⟩)
 rintro ⟨C,D,E⟩ t g w c5 a c
 refine q 6 rfl (cI c (fun b4 c=>?_) fun b4 c=>?_)
 ·refine q 6 rfl (bE c fun c6 Z c=>y (yIa N0 e0 e0 a (rdI A) Z) (y (yI O_3 e0 a (rdI A) Z) (bE c fun c7 b5 c=>bE c fun c8 u c=>bE c fun c9 x c=>bE c fun d0 b6 c=>bE c fun b7 b8 c=>bE c fun a0 a1 c=>q 4 rfl (dS [4,14,15,17] 4 V0 ?_))))
  replace a:=a.drew
  refine D1 16367 0 4 rfl (qR 5 rfl (rQ rfl (lb_ d.v T3 e0 a R0) (qR 1 rfl (rQ rfl (lb_ b.v P0 e0 a R0) (qR 1 rfl (rQ rfl (yIa N0 e0 e0 a (rdI h) u) (rQ rfl (yI O_3 e0 a (rdI h) u) (rQ rfl (yIa E2 e0 e0 a (rdI l) x) (rQ rfl (yI B5 e0 a (rdI l) x) (Rn QSn ?_))))))))))
  replace a:=a.k1i
  refine kO (Kd b5 m a) fun d1 w a=>dU (D1 0 16355 14 rfl (Rn (qS rfl (qS rfl (qS rfl (sY rfl (lb_ d.v T3 e0 a R2) (qS rfl (sY rfl (lb_ b.v P0 e0 a R2) (qS rfl (sY rfl (yIa N0 e0 e0 a (rdI (mtF h)) u) (sY rfl (yI O_3 e0 a (rdI (mtF h)) u) (sY rfl (yIa E2 e0 e0 a (rdI (mtF l)) x) (sY rfl (yI B5 e0 a (rdI (mtF l)) x) QSn))))))))))) (kO (E6 b6 (mtF m) a) fun d2 w a=>dU (D1 0 3 15 rfl (Rn (qS rfl (qS rfl QSn)) (kZ (Pb b8 F1 F0 (F_2 m) a) fun w a=>dU (D0 65536 3 17 rfl (rQ rfl (yIs E2 e0 e0 a rO3 a1) (Rn (qS rfl (qS rfl QSn)) ?_)))))))))
  replace a:=a.k1d
  refine LT wn (V1 (cs:=[.int .u64 b7]) a B5 rfl e0 e0 rfl mkI a1) fun w a=>Dw 0 0 (Rn QSn (bE c fun d3 a2 c=>qx 6 rfl (y (yIa E2 e0 e0 a rO0 a2) (y (yI B5 e0 a rO0 a2) (bE c fun d4 b9 c=>cZ (Na b9 a) fun w a=>q 3 rfl ?_)))))
  refine cJn c (fun c0 c=>?_) fun c0 c=>?_
  ·refine q 5 rfl (y (lb_ b.v P0 e0 a R3) (bE c fun d5 a3 c=>q 1 rfl (y (yIa N0 e0 e0 a (rdI (F_2 h)) a3) (y (yI O_3 e0 a (rdI (F_2 h)) a3) (bE c fun a4 c1 c=>q 5 rfl ?_)))))
   refine lpN (List Hdr) (List Hdr) c1 [3,8,9,11,18,19,20] (fun (F,G) z=>[(12,iV G)]) (fun (F,G) z=>St w0 mu (box p 43 [j.v,b.v,f.v,d.v]::row 67 rH k.v z::fam 65 (rP rB (rP rB (rP (rS Zt) I1))) z F::row 56 iu i.v a0::rs)) (fun | a4,H=>(.exit 2,[],St w0 mu (box p 43 [j.v,b.v,f.v,d.v]::row 67 rH k.v H::fam 65 (rP rB (rP rB (rP (rS Zt) I1))) H a4::row 56 iu i.v a0::rs))) rfl _ ((a.k38).fc) rfl ?_ ?_
   ·clear a
    rintro H g w a
    refine q 7 rfl ?_
    cases c
    exact ln _ a
   rintro ⟨F,G⟩ z g w d6 a c
   refine q 5 rfl (y (lb_ b.v P0 e0 a R0) (bE c fun d7 a5 c=>q 2 rfl (y (yIa N0 e0 e0 a (rdI h) a5) (y (yI O_3 e0 a (rdI h) a5) (q 3 rfl (cI c (fun c2 c=>?_) fun c2 c=>?_))))))
   ·refine q 4 rfl (bE c fun d8 a6 c=>bE c fun d9 a7 c=>bE c fun e1 a8 c=>bE c fun e2 c3 c=>dS [15] 1 V0 ?_)
    replace a:=a.drew
    refine D1 32767 0 15 rfl (qR 2 rfl (rQ rfl (lb_ f.v P0 e0 a R0) (qR 1 rfl (rQ rfl (yIa N0 e0 e0 a (rdI T) a6) (rQ rfl (yI O_3 e0 a (rdI T) a6) (qR 1 rfl (rQ rfl (lb_ d.v T3 e0 a R0) (qR 1 rfl (rQ rfl (yIa E2 e0 e0 a (rdI l) a7) (rQ rfl (yI B5 e0 a (rdI l) a7) (qR 2 rfl (rQ rfl (yIa E2 e0 e0 a rO3 a8) (rQ rfl (yI B5 e0 a rO3 a8) ?_)))))))))))))
    refine Rn QSn ?_
    replace a:=a.k1i
    refine kO (Jd c3 m a) fun e3 w a=>dU (Dw 0 0 (Rn QSn (qx 7 rfl ?_)))
    cases c
    exact ln _ (a.k39)
   ·exact Ze
  ·refine q 10 rfl ?_
   cases c
   exact lx () ((a.k1a).fc)
 ·refine q 2 rfl ?_
  cases c
  exact lx () (a.k3a)
instance:CL prog 85 (type_of% @ug):=⟨@ug⟩
theorem tg {H I J K L:LI} {j b f d N:Hdr} {out:LI×Int} (c:m_ne H I J K L=some out) (b9:imm I1 j.v H∈mu) (h:imm I1 b.v I∈mu) (O:imm I1 f.v J∈mu) (l:imm iu d.v K∈mu) (m:imm iu N.v L∈mu) (n:globF∈mu) (a:St w0 mu rs w):
  Calls prog 88 #[.agg #[j.v,b.v,f.v,d.v],N.v] w (fun e w=>∃ (R:Hdr),e=.returned (.tuple #[R.v,iV out.2])∧St w0 mu (row 56 iu R.v out.1::rs) w):=by
 refine en func88 rfl ntmps88 fun Q S=>q 2 rfl (yb (W5 (vals:=[j.v,b.v,f.v,d.v]) a e0 rfl) fun r w a=>bE c fun a4 T c=>bE c fun a5 B c=>q 5 rfl ?_)
 refine jN (Hdr×(List Hdr)×Hdr) [1,2] (fun (k,s,i)=>[(6,k.v),(7,i.v)]) (fun (k,s,i)=>St w0 mu (box r 43 [j.v,b.v,f.v,d.v]::row 67 rH k.v s::fam 65 (rP rB (rP rB (rP (rS Zt) I1))) s a4::row 56 iu i.v a5::rs)) rfl ?_ ?_
 ·refine dS [1,4,5,6] 4 V0 ?_
  replace a:=a.drew
  refine Dm 13 0 [1,4] (qR 2 rfl (rQ rfl (T1 E2 e0 a (rdI m)) (Rn QSn ?_)))
  refine La1 rfl ?_ (La1 rfl ?_ LAn)
  ·refine kT_ (La T m n a) fun t a6 w a=>dU (Dm 0 12 [4,5] (Rn (qS rfl (sY rfl (T1 E2 e0 a (rdI m)) QSn)) ?_))
   refine La1 rfl ?_ (La1 rfl ?_ LAn)
   ·exact LH wn (rMk a E2 e0 B) fun o w a=>dU (D1 0 0 5 rfl (Rn QSn (Ly wn (a_ t.v e0) (dU (D1 0 0 6 rfl (Rn QSn (Ly wn (a_ o.v e0) (dU (Dw 0 0 (Rn QSn (jr (_,_,_) (a.k38))))))))))))
   ·exact Ly wn (a_ t.v e0) (dU (D1 0 12 4 rfl (Rn (qS rfl (sY rfl (T1 E2 e0 a (rdI m)) QSn)) (LH wn (rMk a E2 e0 B) fun o w a=>dU (D1 0 0 6 rfl (Rn QSn (Ly wn (a_ o.v e0) (dU (Dw 0 0 (Rn QSn (jr (_,_,_) (a.k38))))))))))))
  ·refine LH wn (rMk a E2 e0 B) fun o w a=>dU (D1 0 1 1 rfl (Rn (qS rfl QSn) (kT_ (La T m n a) fun t a6 w a=>dU (D1 0 0 5 rfl (Rn QSn (Ly wn (a_ t.v e0) (dU (D1 0 0 6 rfl (Rn QSn (Ly wn (a_ o.v e0) ?_))))))))))
   exact dU (Dw 0 0 (Rn QSn (jr (_,_,_) (a.k1d))))
 rintro ⟨k,s,i⟩ g w a
 refine q 5 rfl (y (T1 E2 e0 a (rdI m)) (bE c fun a7 a8 c=>q 5 rfl ?_))
 refine lpN (List Hdr) Unit a8 [2,6,7] (fun (C,p,D) u=>[(8,iV D)]) (fun (C,p,D) u=>St w0 mu (box r 43 [j.v,b.v,f.v,d.v]::row 67 rH k.v u::fam 65 (rP rB (rP rB (rP (rS Zt) I1))) u C::row 56 iu i.v p::rs)) (fun | .inl U,_=>(.exit 0,[],St w0 mu (row 56 iu i.v U::rs)) | .inr (),_=>(.ret,[(4,hnil.v),(5,iV 233)],St w0 mu rs)) rfl _ a rfl ?_ ?_
 ·clear a
  rintro _ g w a
  rcases a7 with U | ⟨⟩
  ·refine q 10 rfl ?_
   cases c
   exact S _ _ _ (M3 results88 ⟨rfl,rfl⟩ ⟨rfl,rfl⟩ ⟨_,rfl,a⟩)
  ·refine q 2 rfl ?_
   cases c
   replace a:=a.rowNh 56 iu
   exact S _ _ _ (M3 results88 ⟨rfl,rfl⟩ ⟨rfl,rfl⟩ ⟨_,rfl,a⟩)
 rintro ⟨C,p,D⟩ u g w c0 a c
 refine q 7 rfl (cI c (fun a9 c=>?_) fun a9 c=>?_)
 ·refine q 8 rfl (y (lb_ b.v P0 e0 a R0) (bE c fun c1 V c=>q 1 rfl (y (yIa N0 e0 e0 a (rdI h) V) (y (yI O_3 e0 a (rdI h) V) (bE c fun W b0 c=>q 5 rfl ?_)))))
  refine lpN (List Hdr) (List Hdr) b0 [2,6,7,8] (fun (E,F) x=>[(9,iV F)]) (fun (E,F) x=>St w0 mu (box r 43 [j.v,b.v,f.v,d.v]::row 67 rH k.v x::fam 65 (rP rB (rP rB (rP (rS Zt) I1))) x E::row 56 iu i.v p::rs)) (fun | W,G=>(.exit 2,[],St w0 mu (box r 43 [j.v,b.v,f.v,d.v]::row 67 rH k.v G::fam 65 (rP rB (rP rB (rP (rS Zt) I1))) G W::row 56 iu i.v p::rs))) rfl _ a rfl ?_ ?_
  ·clear a
   rintro G g w a
   refine bE c fun c2 b1 c=>bE c fun c3 z c=>bE c fun c4 A c=>bE c fun c5 b2 c=>bE c fun b3 b4 c=>bE c fun c6 X c=>q 3 rfl (dS [4,14,15,17] 4 V0 ?_)
   replace a:=a.drew
   refine D1 16367 0 4 rfl (qR 5 rfl (rQ rfl (lb_ d.v T3 e0 a R0) (qR 1 rfl (rQ rfl (lb_ b.v P0 e0 a R0) (qR 1 rfl (rQ rfl (yIa N0 e0 e0 a (rdI h) z) (rQ rfl (yI O_3 e0 a (rdI h) z) (rQ rfl (yIa E2 e0 e0 a (rdI l) A) (rQ rfl (yI B5 e0 a (rdI l) A) (Rn QSn ?_))))))))))
   replace a:=a.k1i
   refine kO (Kd b1 n a) fun c7 w a=>dU (D1 0 16355 14 rfl (Rn (qS rfl (qS rfl (qS rfl (sY rfl (lb_ d.v T3 e0 a R2) (qS rfl (sY rfl (lb_ b.v P0 e0 a R2) (qS rfl (sY rfl (yIa N0 e0 e0 a (rdI (mtF h)) z) (sY rfl (yI O_3 e0 a (rdI (mtF h)) z) (sY rfl (yIa E2 e0 e0 a (rdI (mtF l)) A) (sY rfl (yI B5 e0 a (rdI (mtF l)) A) QSn))))))))))) (kO (E6 b2 (mtF n) a) fun c8 w a=>dU (D1 0 3 15 rfl (Rn (qS rfl (qS rfl QSn)) (kZ (Pb b4 F1 F0 (F_2 n) a) fun w a=>dU (D0 65536 3 17 rfl (rQ rfl (yIs E2 e0 e0 a rO3 X) (Rn (qS rfl (qS rfl QSn)) ?_)))))))))
   replace a:=a.k1d
   refine LT wn (V1 (cs:=[.int .u64 b3]) a B5 rfl e0 e0 rfl mkI X) fun w a=>Dw 0 0 (Rn QSn (bE c fun c9 Z c=>qx 5 rfl (y (yIa E2 e0 e0 a rO0 Z) (y (yI B5 e0 a rO0 Z) (bE c fun d0 b5 c=>cZ (Na b5 a) fun w a=>q 3 rfl ?_)))))
   refine cJn c (fun b6 c=>?_) fun b6 c=>?_
   ·refine q 8 rfl ?_
    cases c
    exact ln _ ((a.k38).fc)
   ·refine q 9 rfl ?_
    cases c
    exact lx () ((a.k1a).fc)
  rintro ⟨E,F⟩ x g w d1 a c
  refine q 5 rfl (y (lb_ b.v P0 e0 a R0) (bE c fun d2 a0 c=>q 2 rfl (y (yIa N0 e0 e0 a (rdI h) a0) (y (yI O_3 e0 a (rdI h) a0) (q 3 rfl (cI c (fun b7 c=>?_) fun b7 c=>?_))))))
  ·refine q 4 rfl (bE c fun d3 a1 c=>bE c fun d4 a2 c=>bE c fun d5 a3 c=>bE c fun d6 b8 c=>dS [15] 1 V0 ?_)
   replace a:=a.drew
   refine D1 32767 0 15 rfl (qR 3 rfl (rQ rfl (lb_ d.v T3 e0 a R0) (qR 1 rfl (rQ rfl (yIa E2 e0 e0 a (rdI l) a1) (rQ rfl (yI B5 e0 a (rdI l) a1) (qR 2 rfl (rQ rfl (lb_ f.v P0 e0 a R0) (qR 1 rfl (rQ rfl (yIa N0 e0 e0 a (rdI O) a2) (rQ rfl (yI O_3 e0 a (rdI O) a2) (rQ rfl (yIa E2 e0 e0 a rO3 a3) (rQ rfl (yI B5 e0 a rO3 a3) (Rn QSn ?_)))))))))))))
   replace a:=a.k1i
   refine kO (Jd b8 n a) fun d7 w a=>dU (Dw 0 0 (Rn QSn (qx 7 rfl ?_)))
   cases c
   exact ln _ (a.k39)
  ·exact Ze
 ·refine q 2 rfl ?_
  cases c
  exact lx () (a.k3a)
instance:CL prog 88 (type_of% @tg):=⟨@tg⟩
theorem qg {e f:LI} {h i:Hdr} {out:LI} (c:m_ng e f=some out) (s:imm iu h.v e∈mu) (t:imm I1 i.v f∈mu) (a:St w0 mu rs w):
  Calls prog 89 #[h.v,i.v] w (ro w0 mu rs 56 iu out):=by
 refine en func89 rfl ntmps89 fun Q m=>?_
 refine z 1 0 ?_
 refine bE c fun u n c=>yh (rMk a E2 e0 n) fun j w a=>?_
 refine z 1 4 ?_
 refine bE c fun k o c=>?_
 refine lp o [0,5,11,12] (fun (b,d)=>[(13,iV d)]) (fun (b,d)=>St w0 mu (row 56 iu j.v b::rs)) (fun | k=>(.exit 0,[],St w0 mu (row 56 iu j.v k::rs))) rfl a rfl ?_ ?_
 ·clear a
  intro g w a
  refine q 9 rfl ?_
  cases c
  exact m _ _ _ (X1 results89 ⟨rfl,rfl⟩ ⟨_,rfl,a⟩)
 rintro ⟨b,d⟩ g w x a c
 refine q 6 rfl (cI c (fun p c=>?_) fun p c=>?_)
 ·exact Xq
 ·refine q 2 rfl ?_
  cases c
  exact xo a
instance:CL prog 89 (type_of% @qg):=⟨@qg⟩
theorem Wq {p:Prop}(h:p:=by
  refine q 9 rfl ?_
  cases c
  replace a:=a.rowNh 56 iu
  exact j _ _ _ (M3 results39 ⟨rfl,rfl⟩ ⟨rfl,rfl⟩ ⟨_,rfl,((a.k1l).fc)⟩)):p:=h
theorem oi {p:Prop}(h:p:=by
  cases c
  exact za p results3 ⟨rfl,((a.k2h).fc)⟩):p:=h
theorem Vq {p:Prop}(h:p:=by exact b6 _ _ (a.facts (U0 F3 (U0 F2 (U0 F1 (U0 F0 (M0 (M0 (M0 (M0 M1))))))))) rfl):p:=h
theorem pg {o p r s t:LI} {b d f g u:Hdr} {out:LI×Int} (c:m_nh o p r s t=some out) (h:imm I1 b.v o∈mu) (k:imm I1 d.v p∈mu) (l:imm I1 f.v r∈mu) (m:imm iu g.v s∈mu) (i:imm iu u.v t∈mu) (n:globF∈mu) (a:St w0 mu rs w):
  Calls prog 39 #[.agg #[b.v,d.v,f.v,g.v],u.v] w (fun e w=>∃ (x:Hdr),e=.returned (.tuple #[x.v,iV out.2])∧St w0 mu (row 56 iu x.v out.1::rs) w):=by
 refine en func39 rfl ntmps39 fun Q j=>q 2 rfl (yb (W5 (vals:=[b.v,d.v,f.v,g.v]) a e0 rfl) fun K w a=>q 7 rfl (y (A1 [b.v,d.v,f.v,g.v] P5 e0 a R0) (bE c fun L z c=>q 1 rfl (cZ (xg z h k l m i n a) fun w a=>q 9 rfl ?_))))
 refine cIn c (fun A c=>?_) fun A c=>?_
 ·refine q 3 rfl (bE c fun N B c=>bE c fun O C c=>bE c fun D E c=>dS [4,7,8,12,13] 5 V0 ?_)
  replace a:=a.drew
  refine D1 111 0 4 rfl (rQ rfl (A1 [b.v,d.v,f.v,g.v] P5 e0 a R0) (qR 2 rfl (rQ rfl (lb_ b.v P0 e0 a R0) (qR 1 rfl (rQ rfl (T1 E2 e0 a (rdI i)) (Rn QSn (kO (wg B i h a) fun R w a=>dU (D1 0 97 7 rfl (Rn (sY rfl (A1 [b.v,d.v,f.v,g.v] P5 e0 a R1) (qS rfl (sY rfl (T1 E2 e0 a (rdI i)) QSn))) (kO (vg C a) fun S w a=>dU (D1 0 1 8 rfl ?_)))))))))))
  refine Rn (sY rfl (A1 [b.v,d.v,f.v,g.v] P5 e0 a R2) QSn) ?_
  replace a:=((a.k10).fz).fz
  refine kO (ug E (F_2 h) (F_2 k) (F_2 l) (F_2 m) F1 F0 (F_2 n) a) fun F w a=>dU (D1 3584 0 12 rfl (qR 3 rfl (Rn QSn (Ly wn (a_ F.v e0) (dU (D1 0 2048 13 rfl (Rn (qS rfl QSn) (Ly wn (a_ (iV D.2) e0) (dU (Dw 0 0 (Rn QSn (qx 8 rfl ?_))))))))))))
  refine cIn c (fun G c=>?_) fun G c=>?_
  ·refine q 4 rfl (y (A1 [b.v,d.v,f.v,g.v] P5 e0 a R1) (bE c fun T H c=>q 1 rfl ?_))
   replace a:=a.fz
   refine cO (tg H (F_3 h) (F_3 k) (F_3 l) (F_3 m) F0 (F_3 n) a) fun U w a=>q 14 rfl ?_
   refine cIn c (fun I c=>?_) fun I c=>?_
   ·refine q 6 rfl (y (lb_ b.v P0 e0 a R1) (bE c fun V J c=>?_))
    replace a:=a.fz
    refine cO (qg J F0 (F_4 h) a) fun W w a=>q 5 rfl ?_
    cases c
    exact j _ _ _ (M3 results39 ⟨rfl,rfl⟩ ⟨rfl,rfl⟩ ⟨_,rfl,((a.k11).fc)⟩)
   ·exact Wq
  ·exact Wq
 ·refine q 9 rfl ?_
  cases c
  replace a:=a.rowNh 56 iu
  exact j _ _ _ (M3 results39 ⟨rfl,rfl⟩ ⟨rfl,rfl⟩ ⟨_,rfl,(a.k11)⟩)
instance:CL prog 39 (type_of% @pg):=⟨@pg⟩
theorem Ob {out:Bool} (c:m_ni=some out) (p:globF∈mu) (a:St w0 mu rs w):
  Calls prog 13 #[] w (rv w0 mu rs (.bool out)):=by
 refine en func13 rfl ntmps13 fun Q z=>q 7 rfl (yh (rLt (n:=2) (l:=[0,1]) a N0 [iV 0,iV 1] (bp2 rfl rfl) rfl rfl (J1 (cs:=[iV 0]) rfl mkI (J1 (cs:=[iV 1]) rfl mkI L1))) fun f w a=>yh (rLt (n:=1) (l:=[0]) a N0 [iV 0] (bp1 rfl) rfl rfl (J1 (cs:=[iV 0]) rfl mkI L1)) fun h w a=>yh (rLt (n:=1) (l:=[4616189618054758400]) a E2 [.int .u64 4616189618054758400] (bp1 rfl) rfl rfl (J1 (cs:=[.int .u64 4616189618054758400]) rfl mkI L1)) fun i w a=>y (D6 (us:=[iV 1,iV 1,f.v,h.v,i.v]) [(0,iV 1),(1,iV 1),(2,f.v),(3,h.v),(4,i.v)] Ns (bp5 rfl rfl e0 e0 e0) rfl) (yb (rAl a Ef) fun I w a=>sB rfl a E5 fun w a=>q 4 rfl ?_))
 refine y (A1 [iV 1,iV 1,f.v,h.v,i.v] E5 e0 a R0) (yh (rLt (n:=1) (l:=[0]) a N0 [iV 0] (bp1 rfl) rfl rfl (J1 (cs:=[iV 0]) rfl mkI L1)) fun J w a=>bE c fun d A c=>?_)
 replace a:=((((((a.k1o).fz).k1d).fz).k16).fz).fz
 refine yC (S7 Tt (a2 e0 e0)) (Nd A F3 F2 F1 F0 (F_4 p) a) ?_
 rintro _ w ⟨B,C,D,E,rfl,a⟩
 refine ⟨_,rfl,?_⟩
 refine nf (q 4 rfl (yb (rAl a Bf) fun K w a=>sB rfl a P5 fun w a=>q 6 rfl (y (A1 [B.v,C.v,D.v,E.v] P5 e0 a R0) (yh (rLt (n:=1) (l:=[4620693217682128896]) a E2 [.int .u64 4620693217682128896] (bp1 rfl) rfl rfl (J1 (cs:=[.int .u64 4620693217682128896]) rfl mkI L1)) fun L w a=>bE c fun e F c=>?_))))
 replace a:=((((((((a.k16).fz).k16).fz).k16).fz).k16).fz).fz
 refine cO (pg F F4 F3 F2 F1 F0 (F_9 p) a) fun j w a=>q 12 rfl ?_
 refine jW 3 [5,6] [(29,.bool ((decide (d.2.2.2.2.2=0)) && (decide (d.2.2.2.2.1=1))))] (St w0 mu (row 56 iu j.v e.1::rs)) rfl (fun r=>?_) ?_
 ·refine gB 26 rfl (fun k=>?_) fun k=>?_
  ·exact q 3 rfl (r _ _ ((a.k1l).fc) (Z0 (S0 Value.bool (j5 k)) rfl))
  ·exact q 3 rfl (r _ _ ((a.k1l).fc) (Z0 (S0 Value.bool (m5 k)) rfl))
 intro g w a
 refine q 1 rfl ?_
 refine jW 3 [5] [(33,.bool (((decide (d.2.2.2.2.2=0)) && (decide (d.2.2.2.2.1=1))) && (decide (e.2=0))))] (St w0 mu (row 56 iu j.v e.1::rs)) rfl (fun s=>?_) ?_
 ·refine gB 30 rfl (fun m=>?_) fun m=>?_
  ·exact q 3 rfl (s _ _ a (Z0 (S0 Value.bool (j5 m)) rfl))
  ·exact q 3 rfl (s _ _ a (Z0 (S0 Value.bool (m5 m)) rfl))
 intro g w a
 refine q 1 rfl ?_
 refine jW 4 [5] [(38,.bool ((((decide (d.2.2.2.2.2=0)) && (decide (d.2.2.2.2.1=1))) && (decide (e.2=0))) && (decide ((e.1.length:Int)=1))))] (St w0 mu (row 56 iu j.v e.1::rs)) rfl (fun t=>?_) ?_
 ·refine gB 34 rfl (fun o=>?_) fun o=>?_
  ·exact q 1 rfl (y (T1 E2 e0 a rO0) (q 2 rfl (t _ _ a (Z0 (S0 Value.bool (j5 o)) rfl))))
  ·exact q 4 rfl (t _ _ a (Z0 (S0 Value.bool (m5 o)) rfl))
 intro g w a
 refine bE c fun G b c=>q 1 rfl ?_
 refine jW 5 [] [(44,.bool G)] (St w0 mu rs) rfl (fun u=>?_) ?_
 ·refine gJ 39 b rfl (fun H b=>?_) fun H b=>?_
  ·refine q 1 rfl (bE b fun N x b=>y (yIa E2 e0 rfl a rO0 x) (y (yI B5 e0 a rO0 x) (q 2 rfl ?_)))
   cases b
   exact u _ _ (a.k14) rfl
  ·refine q 5 rfl ?_
   cases b
   exact u _ _ (a.k14) rfl
 intro g w a
 refine q 4 rfl ?_
 cases c
 exact za z results13 ⟨rfl,a⟩
instance:CL prog 13 (type_of% @Ob):=⟨@Ob⟩
theorem og {a3:LI} {a4 a5:Int} {a6:Hdr} {out:Bool} (c:m_nm a3 a4 a5=some out) (g8:out=true) (c9:imm iu a6.v a3∈mu) (x:globF∈mu) (a:St w0 mu rs w):
  Calls prog 3 #[a6.v,iV a4,iV a5] w (rv w0 mu rs (.bool out)):=by
 refine en func3 rfl ntmps3 fun Q p=>bE c fun G d0 c=>q 8 rfl (cZ (w_a d0 a) fun w a=>bE c fun g9 d1 c=>q 8 rfl (cR_ (eh d1 c9 x a) fun h0 h1 h3 w a=>bE c fun A d2 c=>?_))
 replace a:=(a.fz.fz).fz
 refine cR_ (dh d2 F2 F1 F0 a) fun a7 a8 a9 w a=>yb (rAl a Ef) fun h4 w a=>sB rfl a E5 fun w a=>q 4 rfl (y (A1 [iV A.1,iV A.2.1,a7.v,a8.v,a9.v] E5 e0 a R0) (bE c fun H d3 c=>?_))
 replace a:=(((((a.k10).fz).k10).fz).k10).fz
 refine cO (Yd d3 F2 F1 F0 a) fun I w a=>q 3 rfl (yb (rAl a Df) fun h5 w a=>sB rfl a Z3 fun w a=>q 5 rfl (y (A1 [I.v] Z3 e0 a R0) (bE c fun d d4 c=>?_)))
 replace a:=(a.k10).fz
 refine cR_ (Yg d4 F0 a) fun f i j w a=>q 3 rfl (yb (rAl a Cf) fun m w a=>sB rfl a Db fun w a=>q 5 rfl (y (A1 [I.v] Z3 e0 a R4) (bE c fun z d5 c=>cO (Pg d5 F0 a) fun J w a=>q 9 rfl (y (A1 [iV A.1,iV A.2.1,a7.v,a8.v,a9.v] E5 e0 a R6) (bE c fun b d6 c=>q 1 rfl ?_)))))
 replace a:=a.fz
 refine yC (S7 Tt (a2 e0 e0)) (Nd d6 F4 F3 F2 F0 (F_8 x) a) ?_
 rintro _ w ⟨l,e,h,k,rfl,a⟩
 refine ⟨_,rfl,?_⟩
 refine nf (q 4 rfl (yb (rAl a Bf) fun n w a=>sB rfl a P5 fun w a=>q 6 rfl (y (A1 [I.v] Z3 e0 a R9) (bE c fun K d7 c=>q 1 rfl (cZ (Fg d7 F1 F0 a) fun w a=>q 13 rfl ?_)))))
 refine jW 3 [1,10,12,13,14,16,17,18] [(62,.bool ((!(decide (H.2=0))) || (!(decide (d.2.2.2=0)))))] (St w0 (imm I1 J.v z.1::mu) (row 3 I1 f.v d.1::row 3 I1 i.v d.2.1::row 3 I1 j.v d.2.2.1::box m 37 [f.v,i.v,j.v]::row 3 I1 l.v b.1::row 3 I1 e.v b.2.1::row 3 I1 h.v b.2.2.1::row 56 iu k.v b.2.2.2.1::box n 43 [l.v,e.v,h.v,k.v]::rs)) rfl (fun b0=>?_) ?_
 ·refine gB 59 rfl (fun L=>?_) fun L=>?_
  ·exact q 3 rfl (b0 _ _ ((a.k3b).facts (U0 F0 (M0 (M0 (M0 (M0 (M0 (M0 (M0 (M0 M1)))))))))) (Z0 (S0 Value.bool (orT L)) rfl))
  ·exact q 3 rfl (b0 _ _ ((a.k3b).facts (U0 F0 (M0 (M0 (M0 (M0 (M0 (M0 (M0 (M0 M1)))))))))) (Z0 (S0 Value.bool (orF L)) rfl))
 intro g w a
 refine q 1 rfl ?_
 refine jW 3 [1,10,12,14,16,17,18] [(66,.bool (((!(decide (H.2=0))) || (!(decide (d.2.2.2=0)))) || (!(decide (z.2=0)))))] (St w0 (imm I1 J.v z.1::mu) (row 3 I1 f.v d.1::row 3 I1 i.v d.2.1::row 3 I1 j.v d.2.2.1::box m 37 [f.v,i.v,j.v]::row 3 I1 l.v b.1::row 3 I1 e.v b.2.1::row 3 I1 h.v b.2.2.1::row 56 iu k.v b.2.2.2.1::box n 43 [l.v,e.v,h.v,k.v]::rs)) rfl (fun b1=>?_) ?_
 ·refine gB 63 rfl (fun N=>?_) fun N=>?_
  ·exact q 3 rfl (b1 _ _ a (Z0 (S0 Value.bool (orT N)) rfl))
  ·exact q 3 rfl (b1 _ _ a (Z0 (S0 Value.bool (orF N)) rfl))
 intro g w a
 refine q 1 rfl ?_
 refine jW 3 [1,10,12,14,16,17] [(70,.bool ((((!(decide (H.2=0))) || (!(decide (d.2.2.2=0)))) || (!(decide (z.2=0)))) || (!(decide (K.2=0)))))] (St w0 (imm I1 J.v z.1::mu) (row 3 I1 f.v d.1::row 3 I1 i.v d.2.1::row 3 I1 j.v d.2.2.1::box m 37 [f.v,i.v,j.v]::row 3 I1 l.v b.1::row 3 I1 e.v b.2.1::row 3 I1 h.v b.2.2.1::row 56 iu k.v b.2.2.2.1::box n 43 [l.v,e.v,h.v,k.v]::rs)) rfl (fun b2=>?_) ?_
 ·refine gB 67 rfl (fun O=>?_) fun O=>?_
  ·exact q 3 rfl (b2 _ _ a (Z0 (S0 Value.bool (orT O)) rfl))
  ·exact q 3 rfl (b2 _ _ a (Z0 (S0 Value.bool (orF O)) rfl))
 intro g w a
 refine bE c fun d8 r c=>q 1 rfl ?_
 refine jW 5 [1,10,14,16,17] [(76,.bool d8)] (St w0 mu (row 3 I1 f.v d.1::row 3 I1 i.v d.2.1::row 3 I1 j.v d.2.2.1::box m 37 [f.v,i.v,j.v]::row 3 I1 l.v b.1::row 3 I1 e.v b.2.1::row 3 I1 h.v b.2.2.1::row 56 iu k.v b.2.2.2.1::box n 43 [l.v,e.v,h.v,k.v]::rs)) rfl (fun b3=>?_) ?_
 ·refine gJ 71 r rfl (fun d9 r=>?_) fun d9 r=>?_
  ·refine q 5 rfl ?_
   cases r
   exact b3 _ _ (a.fc) rfl
  ·refine q 2 rfl (bE r fun h6 e1 r=>cZ (Eg e1 F0 a) fun w a=>q 2 rfl ?_)
   cases r
   exact b3 _ _ (a.fc) rfl
 intro g w a
 refine q 2 rfl ?_
 refine cJ c (fun e2 c=>?_) fun e2 c=>?_
 ·refine q 7 rfl ?_
  cases c
  exact za p results3 ⟨rfl,(a.k3c)⟩
 ·refine q 9 rfl ?_
  refine cIn c (fun e3 c=>?_) fun e3 c=>?_
  ·refine q 6 rfl (y (lb_ h.v P0 e0 a R8) (y (T1 N0 e0 a rO6) (q 3 rfl ?_)))
   refine jW 6 [1,10,14] [(91,.bool ((!(decide ((b.2.2.1.length:Int)=K.1))) || (!(decide ((b.2.2.2.1.length:Int)=K.1)))))] (St w0 mu (row 3 I1 f.v d.1::row 3 I1 i.v d.2.1::row 3 I1 j.v d.2.2.1::box m 37 [f.v,i.v,j.v]::row 3 I1 l.v b.1::row 3 I1 e.v b.2.1::row 3 I1 h.v b.2.2.1::row 56 iu k.v b.2.2.2.1::box n 43 [l.v,e.v,h.v,k.v]::rs)) rfl (fun b4=>?_) ?_
   ·refine gB 85 rfl (fun R=>?_) fun R=>?_
    ·exact q 6 rfl (b4 _ _ a (Z0 (S0 Value.bool (orT R)) rfl))
    ·exact q 1 rfl (y (lb_ k.v T3 e0 a R8) (y (T1 E2 e0 a rO7) (q 3 rfl (b4 _ _ a (Z0 (S0 Value.bool (orF R)) rfl)))))
   intro g w a
   refine bE c fun b5 s c=>q 1 rfl ?_
   refine jW 4 [1,10,14] [(96,.bool b5)] (St w0 (imm I1 l.v b.1::imm I1 e.v b.2.1::imm I1 h.v b.2.2.1::imm iu k.v b.2.2.2.1::mu) (row 3 I1 f.v d.1::row 3 I1 i.v d.2.1::row 3 I1 j.v d.2.2.1::box m 37 [f.v,i.v,j.v]::box n 43 [l.v,e.v,h.v,k.v]::rs)) rfl (fun b6=>?_) ?_
   ·refine gJ 92 s rfl (fun e4 s=>?_) fun e4 s=>?_
    ·refine q 4 rfl ?_
     cases s
     replace a:=(((((((a.k1o).fz).k1o).fz).k1o).fz).k1o).fz
     exact Vq
    ·refine y (A1 [l.v,e.v,h.v,k.v] P5 e0 a R8) (bE s fun i0 e5 s=>?_)
     replace a:=(((((((a.k1o).fz).k1o).fz).k1o).fz).k1o).fz
     refine cZ (zg e5 F3 F2 F1 F0 (F_4 x) a) fun w a=>q 2 rfl ?_
     cases s
     exact Vq
   intro g w a
   refine q 1 rfl ?_
   refine jW 7 [1,10,14] [(104,.bool (b5 || (!(decide ((b.2.1.length:Int)=(wa .i64 G 1))))))] (St w0 (imm I1 l.v b.1::imm I1 e.v b.2.1::imm I1 h.v b.2.2.1::imm iu k.v b.2.2.2.1::mu) (row 3 I1 f.v d.1::row 3 I1 i.v d.2.1::row 3 I1 j.v d.2.2.1::box m 37 [f.v,i.v,j.v]::box n 43 [l.v,e.v,h.v,k.v]::rs)) rfl (fun b7=>?_) ?_
   ·refine gB 97 rfl (fun S=>?_) fun S=>?_
    ·exact q 7 rfl (b7 _ _ a (Z0 (S0 Value.bool (orT S)) rfl))
    ·exact q 1 rfl (y (lb_ e.v P0 e0 a R4) (y (T1 N0 e0 a (rdI F1)) (q 4 rfl (b7 _ _ a (Z0 (S0 Value.bool (orF S)) rfl)))))
   intro g w a
   refine q 2 rfl ?_
   refine cJ c (fun e6 c=>?_) fun e6 c=>?_
   ·refine q 7 rfl ?_
    exact oi
   ·refine q 8 rfl ?_
    refine jW 5 [1,10,14] [(112,.bool ((decide (G < 2)) || (decide ((d.1.length:Int)=0))))] (St w0 (imm I1 l.v b.1::imm I1 e.v b.2.1::imm I1 h.v b.2.2.1::imm iu k.v b.2.2.2.1::mu) (row 3 I1 f.v d.1::row 3 I1 i.v d.2.1::row 3 I1 j.v d.2.2.1::box m 37 [f.v,i.v,j.v]::box n 43 [l.v,e.v,h.v,k.v]::rs)) rfl (fun b8=>?_) ?_
    ·refine gB 107 rfl (fun T=>?_) fun T=>?_
     ·exact q 5 rfl (b8 _ _ a (Z0 (S0 Value.bool (orT T)) rfl))
     ·exact q 1 rfl (y (lb_ f.v P0 e0 a R3) (y (T1 N0 e0 a rO0) (q 2 rfl (b8 _ _ a (Z0 (S0 Value.bool (orF T)) rfl)))))
    intro g w a
    refine q 1 rfl ?_
    refine jW 5 [1,10,14] [(118,.bool (((decide (G < 2)) || (decide ((d.1.length:Int)=0))) || (decide ((d.2.1.length:Int)=0))))] (St w0 (imm I1 l.v b.1::imm I1 e.v b.2.1::imm I1 h.v b.2.2.1::imm iu k.v b.2.2.2.1::mu) (row 3 I1 f.v d.1::row 3 I1 i.v d.2.1::row 3 I1 j.v d.2.2.1::box m 37 [f.v,i.v,j.v]::box n 43 [l.v,e.v,h.v,k.v]::rs)) rfl (fun b9=>?_) ?_
    ·refine gB 113 rfl (fun U=>?_) fun U=>?_
     ·exact q 5 rfl (b9 _ _ a (Z0 (S0 Value.bool (orT U)) rfl))
     ·exact q 1 rfl (y (lb_ i.v P0 e0 a R3) (y (T1 N0 e0 a rO1) (q 2 rfl (b9 _ _ a (Z0 (S0 Value.bool (orF U)) rfl)))))
    intro g w a
    refine q 2 rfl ?_
    refine cJ c (fun e7 c=>?_) fun e7 c=>?_
    ·refine q 2 rfl (bE c fun i1 e8 c=>cZ (Ob e8 (F_4 x) a) fun w a=>q 5 rfl ?_)
     exact oi
    ·refine q 4 rfl (bE c fun B t c=>bE c fun C o c=>?_)
     refine jN Unit [1,10,14] (fun _=>[(150,.bool C)]) (fun _=>St w0 (imm I1 l.v b.1::imm I1 e.v b.2.1::imm I1 h.v b.2.2.1::imm iu k.v b.2.2.2.1::mu) (row 3 I1 f.v d.1::row 3 I1 i.v d.2.1::row 3 I1 j.v d.2.2.1::box m 37 [f.v,i.v,j.v]::box n 43 [l.v,e.v,h.v,k.v]::rs)) rfl ?_ ?_
     ·rcases Z4 t with ⟨D,t⟩ | ⟨D,t⟩
      ·refine bE t fun i2 E t=>?_
       have c0:=U2 t
       rcases Z4 o with ⟨V,o⟩ | ⟨V,o⟩
       ·have e9:=U2 o
        refine dS [] 0 V0 ?_
        replace a:=a.drew
        refine Dw 2147483647 0 (qR 1 rfl (rQ rfl (lb_ f.v P0 e0 a R3) (rQ rfl (T1 N0 e0 a rO0) (qR 1 rfl (rQ rfl (lb_ i.v P0 e0 a R3) (rQ rfl (T1 N0 e0 a rO1) (qR 2 rfl (rQ rfl (lb_ j.v P0 e0 a R3) (rQ rfl (T1 N0 e0 a rO2) (qR 4 rfl (rK 133 rfl (nF (dT D)) (qR 1 rfl (rQ rfl (lb_ e.v P0 e0 a R4) ?_)))))))))))))
        exact rQ rfl (yIa N0 e0 rfl a (rdI F1) E) (rQ rfl (yI O_3 e0 a (rdI F1) E) (qR 1 rfl (rQ rfl (pf_ (.bool B) e0 rfl (eqv c0 e0)) (qR 1 rfl (rK 140 rfl V (qR 9 rfl (rQ rfl (pt_ (.bool C) e0 rfl (eqv e9 rfl)) (Rn QSn (jr () a)))))))))
       ·refine bE o fun i3 c1 o=>?_
        have f0:=U2 o
        refine dS [] 0 V0 ?_
        replace a:=a.drew
        refine Dw 2147483647 0 (qR 1 rfl (rQ rfl (lb_ f.v P0 e0 a R3) (rQ rfl (T1 N0 e0 a rO0) (qR 1 rfl (rQ rfl (lb_ i.v P0 e0 a R3) (rQ rfl (T1 N0 e0 a rO1) (qR 2 rfl (rQ rfl (lb_ j.v P0 e0 a R3) (rQ rfl (T1 N0 e0 a rO2) (qR 4 rfl (rK 133 rfl (nF (dT D)) (qR 1 rfl (rQ rfl (lb_ e.v P0 e0 a R4) ?_)))))))))))))
        refine rQ rfl (yIa N0 e0 rfl a (rdI F1) E) (rQ rfl (yI O_3 e0 a (rdI F1) E) (qR 1 rfl (rQ rfl (pf_ (.bool B) e0 rfl (eqv c0 e0)) (qR 1 rfl (rK 140 rfl (k8 V) (qR 1 rfl (rQ rfl (lb_ e.v P0 e0 a R4) (qR 1 rfl (rQ rfl (yIa N0 e0 e0 a (rdI F1) c1) (rQ rfl (yI O_3 e0 a (rdI F1) c1) (qR 1 rfl (rQ rfl (lb_ h.v P0 e0 a R4) (rQ rfl (T1 N0 e0 a (rdI F2)) ?_)))))))))))))
        exact qR 1 rfl (rQ rfl (pf_ (.bool C) e0 rfl (eqv f0 e0)) (Rn QSn (jr () a)))
      ·have c2:=U2 t
       have c3:B=true:=c2.symm
       rw [I0 c3] at o
       have f1:=U2 o
       refine dS [] 0 V0 ?_
       replace a:=a.drew
       refine Dw 2147483647 0 (qR 1 rfl (rQ rfl (lb_ f.v P0 e0 a R3) (rQ rfl (T1 N0 e0 a rO0) (qR 1 rfl (rQ rfl (lb_ i.v P0 e0 a R3) (rQ rfl (T1 N0 e0 a rO1) (qR 2 rfl (rQ rfl (lb_ j.v P0 e0 a R3) (rQ rfl (T1 N0 e0 a rO2) (qR 4 rfl (rK 133 rfl (nT (dF D)) (qR 5 rfl (rQ rfl (pt_ (.bool B) e0 rfl (eqv c2 rfl)) ?_)))))))))))))
       exact qR 1 rfl (rK 140 rfl c3 (qR 9 rfl (rQ rfl (pt_ (.bool C) e0 rfl (eqv f1 rfl)) (Rn QSn (jr () a)))))
     rintro _ g w a
     refine q 1 rfl ?_
     refine cJ c (fun f2 c=>?_) fun f2 c=>?_
     ·refine q 7 rfl ?_
      exact oi
     ·refine q 9 rfl (bE c fun f3 f4 c=>?_)
      refine lp f4 [1,10,14] (fun W=>[(19,iV W)]) (fun W=>St w0 (imm I1 l.v b.1::imm I1 e.v b.2.1::imm I1 h.v b.2.2.1::imm iu k.v b.2.2.2.1::mu) (row 3 I1 f.v d.1::row 3 I1 i.v d.2.1::row 3 I1 j.v d.2.2.1::box m 37 [f.v,i.v,j.v]::box n 43 [l.v,e.v,h.v,k.v]::rs)) (fun | .inl ()=>(.exit 0,[],St w0 (imm I1 l.v b.1::imm I1 e.v b.2.1::imm I1 h.v b.2.2.1::imm iu k.v b.2.2.2.1::mu) (row 3 I1 f.v d.1::row 3 I1 i.v d.2.1::row 3 I1 j.v d.2.2.1::box m 37 [f.v,i.v,j.v]::box n 43 [l.v,e.v,h.v,k.v]::rs)) | .inr ()=>(.ret,[(6,.bool false)],St w0 mu rs)) rfl a rfl ?_ ?_
      ·clear a
       intro g w a
       rcases f3 with ⟨⟩ | ⟨⟩
       ·refine q 9 rfl (bE c fun f5 f6 c=>?_)
        refine lp f6 [10,14] (fun X=>[(20,iV X)]) (fun X=>St w0 (imm I1 l.v b.1::imm I1 e.v b.2.1::imm I1 h.v b.2.2.1::imm iu k.v b.2.2.2.1::mu) (row 3 I1 f.v d.1::row 3 I1 i.v d.2.1::row 3 I1 j.v d.2.2.1::box m 37 [f.v,i.v,j.v]::box n 43 [l.v,e.v,h.v,k.v]::rs)) (fun | .inl ()=>(.exit 2,[],St w0 mu rs) | .inr ()=>(.ret,[(6,.bool false)],St w0 mu rs)) rfl a rfl ?_ ?_
        ·clear a
         intro g w a
         rcases f5 with ⟨⟩ | ⟨⟩
         ·refine q 4 rfl (bE c fun i4 f7 c=>cZ (Ob f7 x a) fun w a=>q 4 rfl ?_)
          cases c
          exact za p results3 ⟨rfl,a⟩
         ·refine q 2 rfl ?_
          cases c
          exact za p results3 ⟨rfl,a⟩
        rintro X g w i5 a c
        refine q 5 rfl (y (lb_ f.v P0 e0 a R3) (y (T1 N0 e0 a rO0) (q 3 rfl (cI c (fun f8 c=>?_) fun f8 c=>?_))))
        ·refine q 7 rfl (y (lb_ e.v P0 e0 a R4) (bE c fun i6 c4 c=>q 1 rfl (y (yIa N0 e0 e0 a (rdI F1) c4) (y (yI O_3 e0 a (rdI F1) c4) (bE c fun f9 g0 c=>q 4 rfl ?_)))))
         refine lp g0 [10,14,20] (fun Z=>[(21,iV Z)]) (fun Z=>St w0 (imm I1 l.v b.1::imm I1 e.v b.2.1::imm I1 h.v b.2.2.1::imm iu k.v b.2.2.2.1::mu) (row 3 I1 f.v d.1::row 3 I1 i.v d.2.1::row 3 I1 j.v d.2.2.1::box m 37 [f.v,i.v,j.v]::box n 43 [l.v,e.v,h.v,k.v]::rs)) (fun | .inl ()=>(.exit 4,[],St w0 (imm I1 l.v b.1::imm I1 e.v b.2.1::imm I1 h.v b.2.2.1::imm iu k.v b.2.2.2.1::mu) (row 3 I1 f.v d.1::row 3 I1 i.v d.2.1::row 3 I1 j.v d.2.2.1::box m 37 [f.v,i.v,j.v]::box n 43 [l.v,e.v,h.v,k.v]::rs)) | .inr ()=>(.ret,[(6,.bool false)],St w0 mu rs)) rfl a rfl ?_ ?_
         ·clear a
          intro g w a
          rcases f9 with ⟨⟩ | ⟨⟩
          ·refine q 8 rfl ?_
           cases c
           exact lo a
          ·refine q 3 rfl ?_
           cases c
           exact xo a
         rintro Z g w i7 a c
         refine q 5 rfl (y (lb_ e.v P0 e0 a R4) (bE c fun i8 c5 c=>q 2 rfl (y (yIa N0 e0 e0 a (rdI F1) c5) (y (yI O_3 e0 a (rdI F1) c5) (q 3 rfl (cI c (fun g1 c=>?_) fun g1 c=>?_))))))
         ·refine q 5 rfl (bE c fun i9 F c=>bE c fun a0 u c=>?_)
          refine jN Unit [10,14,20,21] (fun _=>[(213,.bool a0)]) (fun _=>St w0 (imm I1 l.v b.1::imm I1 e.v b.2.1::imm I1 h.v b.2.2.1::imm iu k.v b.2.2.2.1::mu) (row 3 I1 f.v d.1::row 3 I1 i.v d.2.1::row 3 I1 j.v d.2.2.1::box m 37 [f.v,i.v,j.v]::box n 43 [l.v,e.v,h.v,k.v]::rs)) rfl ?_ ?_
          ·rcases Z4 u with ⟨a1,u⟩ | ⟨a1,u⟩
           ·refine bE u fun j0 c6 u=>?_
            have g2:=U2 u
            refine dS [] 0 V0 ?_
            replace a:=a.drew
            refine Dw 16777215 0 (qR 1 rfl (rQ rfl (lb_ h.v P0 e0 a R4) (qR 1 rfl (rQ rfl (yIa N0 e0 e0 a (rdI F2) F) (rQ rfl (yI O_3 e0 a (rdI F2) F) (qR 1 rfl (rQ rfl (lb_ f.v P0 e0 a R3) (rQ rfl (T1 N0 e0 a rO0) (qR 2 rfl (rK 199 rfl (dT a1) (qR 1 rfl (rQ rfl (lb_ h.v P0 e0 a R4) (qR 1 rfl ?_)))))))))))))
            exact rQ rfl (yIa N0 e0 e0 a (rdI F2) c6) (rQ rfl (yI O_3 e0 a (rdI F2) c6) (qR 1 rfl (rQ rfl (lb_ f.v P0 e0 a R3) (rQ rfl (T1 N0 e0 a rO0) (qR 1 rfl (rQ rfl (lb_ i.v P0 e0 a R3) (rQ rfl (T1 N0 e0 a rO1) (qR 2 rfl (rQ rfl (pt_ (.bool a0) e0 rfl (eqv g2 e0)) (Rn QSn (jr () a)))))))))))
           ·have g3:=U2 u
            refine dS [] 0 V0 ?_
            replace a:=a.drew
            exact Dw 16777215 0 (qR 1 rfl (rQ rfl (lb_ h.v P0 e0 a R4) (qR 1 rfl (rQ rfl (yIa N0 e0 e0 a (rdI F2) F) (rQ rfl (yI O_3 e0 a (rdI F2) F) (qR 1 rfl (rQ rfl (lb_ f.v P0 e0 a R3) (rQ rfl (T1 N0 e0 a rO0) (qR 2 rfl (rK 199 rfl (dF a1) (qR 13 rfl (rQ rfl (pf_ (.bool a0) e0 rfl (eqv g3 rfl)) (Rn QSn (jr () a))))))))))))))
          rintro _ g w a
          refine q 1 rfl ?_
          refine cJ c (fun g4 c=>?_) fun g4 c=>?_
          ·refine q 8 rfl ?_
           cases c
           exact xo ((a.k2h).fc)
          ·refine q 8 rfl ?_
           cases c
           exact lo a
         ·refine q 2 rfl ?_
          cases c
          exact xo a
        ·refine q 2 rfl ?_
         cases c
         exact xo ((a.k2h).fc)
       ·refine q 2 rfl ?_
        cases c
        exact za p results3 ⟨rfl,a⟩
      rintro W g w k0 a c
      refine q 8 rfl (cI c (fun g5 c=>?_) fun g5 c=>?_)
      ·refine q 5 rfl (bE c fun k1 c7 c=>bE c fun k2 c8 c=>dS [] 0 V0 ?_)
       replace a:=a.drew
       refine Dw 4095 0 (qR 1 rfl (rQ rfl (lb_ e.v P0 e0 a R4) (qR 1 rfl (rQ rfl (yIa N0 e0 e0 a (rdI F1) c7) (rQ rfl (yI O_3 e0 a (rdI F1) c7) (qR 1 rfl (rQ rfl (lb_ e.v P0 e0 a R4) (qR 2 rfl (rQ rfl (yIa N0 e0 e0 a (rdI F1) c8) (rQ rfl (yI O_3 e0 a (rdI F1) c8) (qR 1 rfl (Rn QSn (qx 1 rfl (cI c (fun g6 c=>?_) fun g6 c=>?_))))))))))))))
       ·refine q 8 rfl ?_
        cases c
        exact xo ((a.k2h).fc)
       ·refine q 8 rfl ?_
        cases c
        exact lo a
      ·refine q 2 rfl ?_
       cases c
       exact xo a
  ·refine q 2 rfl (bE c fun k3 g7 c=>cZ (Ob g7 x a) fun w a=>q 5 rfl ?_)
   cases c
   exact za p results3 ⟨rfl,(a.k3c)⟩
instance:CL prog 3 (type_of% @og):=⟨@og⟩
end Go.Proofs.YtoahkigijbeegaaGreatDoor
