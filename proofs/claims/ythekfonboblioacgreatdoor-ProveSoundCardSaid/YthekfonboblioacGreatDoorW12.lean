/- Walks: each function computes its model, printed. -/
import Derived.Test.YthekfonboblioacGreatDoorW11
namespace Go.Proofs.YthekfonboblioacGreatDoor
open Go Sx M Go.Proofs.Tryz
set_option maxRecDepth 100000
set_option maxHeartbeats 40000000
set_option linter.unusedVariables false
attribute [local irreducible] wpList Code.wp Calls DR QR QS LA LS St row box fam imm rowS loop
variable {w0:World} {ros:List Fact} {rs:List Res} {w:World}
theorem tm {b:List (List (Bool×LI))} {d:Hdr} {out:Int×Int} (c:m_jr b=some out) (f:imm (rS (rP rB (rS (rI .u32)))) d.v b∈ros) (a:St w0 ros rs w):
  Calls prog 33 #[d.v] w (rv w0 ros rs (.tuple #[iV out.1,iV out.2])):=by
 refine en func33 rfl ntmps33 fun Q k=>?_
 refine v 0 ?_
 refine fun _ _ _ w a=>⟨fun _ c=>?_,vt⟩
 refine bE c fun l g c=>?_
 replace a:=a.immNh (rP rB (rS (rI .u32)))
 refine cT_ (jf g (mtF f) F0 a) fun h m w a=>?_
 refine z 2 0 ?_;intro n o c w a e p c q i j w a
 exact y (yFv (cs:=[h.v,i.v,.bool e.2.2.1,j.v,iV e.2.2.2.2]) XD e0 rfl) vx
instance:CL prog 33 (type_of% @tm):=⟨@tm⟩
theorem ff {i j:Int} {B C D:LI} {d b:Int} {E F:LI} {G:List (List (Bool×LI))} {k l m e f h:Hdr} {out:Bool} (c:m_jt i j B C D d b E F G=some out) (Z:imm I1 k.v B∈ros) (a0:imm I1 l.v C∈ros) (a1:imm (rI .u64) m.v D∈ros) (a2:imm I1 e.v E∈ros) (a3:imm I1 f.v F∈ros) (N:imm (rS (rP rB (rS (rI .u32)))) h.v G∈ros) (a4:globF∈ros) (a:St w0 ros rs w):
  Calls prog 9 #[.agg #[iV i,iV j,k.v,l.v,m.v],.agg #[iV d,iV b,e.v,f.v,h.v]] w (rv w0 ros rs (.bool out)):=by
 refine en func9 rfl ntmps9 fun Q a5=>?_
 refine z 4 15 ?_;intro t w a r w a u a6 c x s w a
 refine bE c fun H n c=>?_
 refine jW 5 [2,3,5] [(24,.bool H)] (St w0 ros (box t 27 [iV i,iV j,k.v,l.v,m.v]::box r 35 [iV d,iV b,e.v,f.v,h.v]::row 39 rH x.v s::fam 52 (rP rB (rS (rI .u32))) s u.1::rs)) rfl (fun I=>?_) ?_
 ·refine gIn 19 n rfl (fun O n=>?_) fun O n=>?_
  ·refine z 1 0 ?_
   refine bE n fun a7 a8 n=>?_
   refine z 1 2 ?_;intro w a
   cases n
   exact I _ _ (a.k1d) rfl
  ·refine q 5 rfl ?_
   cases n
   exact I _ _ (a.k1d) rfl
 intro g w a
 refine q 1 rfl ?_
 refine jW 4 [2,3,5] [(29,.bool (H || (decide ((2147483647:Int) < b))))] (St w0 ros (box t 27 [iV i,iV j,k.v,l.v,m.v]::box r 35 [iV d,iV b,e.v,f.v,h.v]::row 39 rH x.v s::fam 52 (rP rB (rS (rI .u32))) s u.1::rs)) rfl (fun J=>?_) ?_
 ·refine gB 25 rfl (fun y=>?_) fun y=>?_
  ·exact q 4 rfl (J _ _ a (J1 (Z0 Value.bool (orT y)) rfl))
  ·refine z 1 2 ?_
   exact J _ _ a (J1 (Z0 Value.bool (orF y)) rfl)
 intro g w a
 refine v 39 ?_
 refine ⟨vt,fun _ _ _ _ c w a=>?_⟩
 refine bE c fun R o c=>?_
 refine jW 9 [2,3,5] [(47,.bool R)] (St w0 ros (box t 27 [iV i,iV j,k.v,l.v,m.v]::box r 35 [iV d,iV b,e.v,f.v,h.v]::row 39 rH x.v s::fam 52 (rP rB (rS (rI .u32))) s u.1::rs)) rfl (fun K=>?_) ?_
 ·refine gJn 38 o rfl (fun S o=>?_) fun S o=>?_
  ·refine z 3 0 ?_
   refine bE o fun a9 b0 o=>?_
   refine z 1 2 ?_;intro w a
   cases o
   exact K _ _ a rfl
  ·refine q 9 rfl ?_
   cases o
   exact K _ _ a rfl
 intro g w a
 refine bE c fun T p c=>q 1 rfl ?_
 refine jW 5 [2,3,5] [(53,.bool T)] (St w0 (imm (rS (rP rB (rS (rI .u32)))) x.v u.1::ros) (box t 27 [iV i,iV j,k.v,l.v,m.v]::box r 35 [iV d,iV b,e.v,f.v,h.v]::rs)) rfl (fun L=>?_) ?_
 ·refine gJ 48 p rfl (fun U p=>?_) fun U p=>?_
  ·refine q 5 rfl ?_
   cases p
   replace a:=(a.k21).ffz
   exact L _ _ a rfl
  ·refine z 1 0 ?_
   refine bE p fun b1 b2 p=>?_
   replace a:=(a.k21).ffz
   refine z 1 2 ?_;intro w a
   cases p
   exact L _ _ a rfl
 intro g w a
 refine v 0 ?_
 refine ⟨vt,fun _ _=>⟨fun _ c=>?_,vt⟩⟩
 refine bE c fun V W c=>?_
 refine lp W [2,3,5,64,65] (fun A=>[(66,iV A)]) (fun A=>St w0 (imm (rS (rP rB (rS (rI .u32)))) x.v u.1::ros) (box t 27 [iV i,iV j,k.v,l.v,m.v]::box r 35 [iV d,iV b,e.v,f.v,h.v]::rs)) (fun | .inl ()=>(.exit 0,[],St w0 ros (box r 35 [iV d,iV b,e.v,f.v,h.v]::rs)) | .inr ()=>(.ret,[(4,.bool false)],St w0 ros rs)) rfl a rfl ?_ ?_
 ·clear a
  intro g w a
  rcases V with ⟨⟩ | ⟨⟩
  ·exact vx
  ·exact vx
 rintro A g w b3 a c
 refine v 0 ?_
 refine ⟨fun _ _ _ X c=>?_,vt⟩
 obtain ⟨b4,a⟩:=iLs a (mtF N) X
 exact vx
instance:CL prog 9 (type_of% @ff):=⟨@ff⟩
theorem Um {j:List (List (Bool×LI))} {b:Int} {k:Hdr} {out:(List (List (Bool×LI)))} (c:m_jv j b=some out) (s:imm (rS (rP rB (rS (rI .u32)))) k.v j∈ros) (a:St w0 ros rs w):
  Calls prog 171 #[k.v,iV b] w (fun e w=>∃ (m:Hdr),e=.returned (m.v)∧St w0 ros (row 39 (rS (rP rB (rS (rI .u32)))) m.v out::rs) w):=by
 refine en func171 rfl ntmps171 fun Q A=>?_
 refine z 1 4 ?_
 refine bE c fun o t c=>?_
 replace a:=a.rowNh 39 (rS (rP rB (rS (rI .u32))))
 refine lpN Hdr Hdr t [1,8,9] (fun (f,h) d=>[(5,d.v),(10,iV h)]) (fun (f,h) d=>St w0 ros (row 39 (rS (rP rB (rS (rI .u32)))) d.v f::rs)) (fun | o,i=>(.exit 0,[(5,i.v)],St w0 ros (row 39 (rS (rP rB (rS (rI .u32)))) i.v o::rs))) rfl _ a rfl ?_ ?_
 ·clear a
  rintro i g w a
  exact vx
 rintro ⟨f,h⟩ d g w B a c
 refine v 0 ?_
 refine ⟨fun _ _ _ u c=>?_,vt⟩
 obtain ⟨p,a⟩:=iLs a s u
 refine y (yCt W4 e0 a F1 rfl) (bE c fun x r c=>q 7 rfl (y (ySl (k1:=.i64) D3 e0 a (rdI F0) (.inr ⟨rfl,rfl⟩) (.inl (Z0 some e0)) r) ?_))
 replace a:=a.sub F0 r
 exact yh (rLt (n:=1) (l:=[x]) a L5 [(subH p 2 0 b).v] (bp1 e0) rfl rfl (N1 (cs:=[(subH p 2 0 b).v]) rfl (mkS F0) Y1)) fun C w a=>vx
instance:CL prog 171 (type_of% @Um):=⟨@Um⟩
theorem Oh {f:List (List (Bool×LI))} {h:Int} {i:Hdr} {out:BL} (c:m_jx f h=some out) (s:imm (rS (rP rB (rS (rI .u32)))) i.v f∈ros) (a:St w0 ros rs w):
  Calls prog 132 #[i.v,iV h] w (ro w0 ros rs 4 rB out):=by
 refine en func132 rfl ntmps132 fun Q m=>bE c fun t n c=>q 8 rfl (yh (rMk a ob e0 n) fun j w a=>bE c fun k o c=>q 16 rfl ?_)
 refine lp o [0,5,12] (fun (d,b,e)=>[(6,iV b),(13,iV e)]) (fun (d,b,e)=>St w0 ros (row 4 rB j.v d::rs)) (fun | k=>(.exit 0,[],St w0 ros (row 4 rB j.v k::rs))) rfl a rfl ?_ ?_
 ·clear a
  intro g w a
  refine q 9 rfl ?_
  cases c
  exact m _ _ _ (I3 results132 ⟨rfl,rfl⟩ ⟨_,rfl,a⟩)
 rintro ⟨d,b,e⟩ g w u a c
 refine q 6 rfl (cI c (fun p c=>?_) fun p c=>?_)
 ·refine z 2 14 ?_;intro x A c B w a r C c w a
  refine bE c fun D l c=>y (yIs ob e0 e0 a rO0 l) (yt (W3 (cs:=[.bool (decide (r.1=b))]) a O_4 rfl e0 e0 rfl mkB l) fun w a=>q 12 rfl ?_)
  cases c
  exact lo (a.fc)
 ·refine q 2 rfl ?_
  cases c
  exact xo a
instance:CL prog 132 (type_of% @Oh):=⟨@Oh⟩
theorem Nh {e:LI} {d:Hdr} {out:LI} (c:m_jy e=some out) (f:imm I1 d.v e∈ros) (a:St w0 ros rs w):
  Calls prog 133 #[d.v] w (ro w0 ros rs 3 I1 out):=by
 refine en func133 rfl ntmps133 fun Q g=>q 9 rfl (y (Ol W0 e0 rfl) (q 2 rfl ?_))
 rcases Sr d with b | b
 ·refine kT b ?_
  obtain rfl:=Vr b f a
  replace c:=Ur c
  refine q 7 rfl ?_
  cases c
  replace a:=a.rowNh 3 I1
  exact g _ _ _ (I3 results133 ⟨rfl,rfl⟩ ⟨_,rfl,a⟩)
 ·exact kF b (q 4 rfl (yh (rLt (n:=0) (l:=[]) a W0 [] bp0 rfl rfl Y1) fun h w a=>vx))
instance:CL prog 133 (type_of% @Nh):=⟨@Nh⟩
theorem Sm {b:Bool} {d:LI} {e:Hdr} {out:Bool×LI} (c:m_jz b d=some out) (f:imm (rI .u32) e.v d∈ros) (a:St w0 ros rs w):
  Calls prog 172 #[.agg #[.bool b,e.v]] w (rb w0 ros rs out):=by
 exact en func172 rfl ntmps172 fun Q g=>vx
instance:CL prog 172 (type_of% @Sm):=⟨@Sm⟩
theorem Mh {b:List (List (Bool×LI))} {d:LI} {e:Bool} {f:LI} {g:Int} {h:Bool} {i:LI} {j k l m:Hdr} {out:Bool×LI} (c:m_j0 b d e f g h i=some out) (n:imm (rS (rP rB (rS (rI .u32)))) j.v b∈ros) (o:imm I1 k.v d∈ros) (p:imm (rI .u32) l.v f∈ros) (q:imm (rI .u32) m.v i∈ros) (a:St w0 ros rs w):
  Calls prog 173 #[.agg #[j.v,k.v,.bool e,l.v,iV g],.agg #[.bool h,m.v]] w (rb w0 ros rs out):=by
 exact en func173 rfl ntmps173 fun Q r=>vx
instance:CL prog 173 (type_of% @Mh):=⟨@Mh⟩
theorem Lh {i:Bool} {j:LI} {k:Bool} {l:LI} {m n:Hdr} {out:Bool×LI} (c:m_j2 i j k l=some out) (r:imm (rI .u32) m.v j∈ros) (s:imm (rI .u32) n.v l∈ros) (a:St w0 ros rs w):
  Calls prog 174 #[.agg #[.bool i,m.v],.agg #[.bool k,n.v]] w (rb w0 ros rs out):=by
 refine en func174 rfl ntmps174 fun Q t=>?_
 refine z 3 3 ?_;intro u w a x w a o w a
 refine bE c fun y A c=>bE c fun B C c=>bE c fun D E c=>bE c fun F G c=>dS [2,3,6,7,8,9] 6 C1 ?_
 replace a:=a.drew
 refine z 9 3 ?_;intro H w a I w a J w a K w a
 refine bE c fun p q c=>?_
 replace a:=((a.k10).fz).fz
 refine lpN (Hdr×Hdr) Hdr q [4] (fun (e,f) (b,d)=>[(5,b.v),(6,d.v)]) (fun (e,f) (b,d)=>St w0 (imm (rI .u32) b.v e::imm (rI .u32) d.v f::ros) (box o 52 [.bool false,hnil.v]::rs)) (fun | p,h=>(.exit 0,[(5,h.v)],St w0 (imm (rI .u32) h.v p::ros) (box o 52 [.bool false,hnil.v]::rs))) rfl (_,_) ((a.k22).facts (S0 F1 (S0 F0 (N0 (N0 (N0 (N0 E1))))))) rfl ?_ ?_
 ·clear a
  rintro h g w a
  exact vx
 rintro ⟨e,f⟩ ⟨b,d⟩ g w L a c
 exact vx
instance:CL prog 174 (type_of% @Lh):=⟨@Lh⟩
theorem Kh {E:List (List (Bool×LI))} {F:Hdr} {out:(List (Bool×LI))×Int} (c:m_j6 E=some out) (V:imm (rS (rP rB (rS (rI .u32)))) F.v E∈ros) (a:St w0 ros rs w):
  Calls prog 134 #[F.v] w (fun e w=>∃ (G:Hdr),e=.returned (.tuple #[G.v,iV out.2])∧St w0 ros (row 52 (rP rB (rS (rI .u32))) G.v out.1::rs) w):=by
 refine en func134 rfl ntmps134 fun Q r=>?_
 refine z 1 10 ?_;intro c8 c9 c w a
 refine cIn c (fun W c=>?_) fun W c=>?_
 ·refine z 1 6 ?_;intro d0 d1 c w a
  refine bE c fun d2 X c=>?_
  replace a:=a.immNh (rP rB (rS (rI .u32)))
  refine cT_ (jf X (mtF V) F0 a) fun d d3 w a=>?_
  refine z 3 9 ?_;intro b d4 c j f h w a m w a w a
  refine bE c fun H Z c=>?_
  refine lp Z [5,6] (fun s=>[(7,iV s)]) (fun s=>St w0 (imm (rI .u32) h.v b.2.2.2.1::ros) (row 39 rH d.v j::fam 52 (rP rB (rS (rI .u32))) j b.1::row 3 I1 f.v b.2.1::box m 123 [d.v,f.v,.bool b.2.2.1,h.v,iV b.2.2.2.2]::rs)) (fun | H=>(.exit 0,[(7,iV H)],St w0 (imm (rI .u32) h.v b.2.2.2.1::ros) (row 39 rH d.v j::fam 52 (rP rB (rS (rI .u32))) j b.1::row 3 I1 f.v b.2.1::box m 123 [d.v,f.v,.bool b.2.2.1,h.v,iV b.2.2.2.2]::rs))) rfl ((a.k1l).facts (S0 F0 (N0 (N0 E1)))) rfl ?_ ?_
  ·clear a
   intro g w a
   refine q 10 rfl (cI c (fun a0 c=>?_) fun a0 c=>?_)
   ·refine q 8 rfl ?_
    cases c
    replace a:=a.rowNh 52 (rP rB (rS (rI .u32)))
    exact r _ _ _ (G4 results134 ⟨rfl,rfl⟩ ⟨rfl,rfl⟩ ⟨_,rfl,((a.k23).fc)⟩)
   ·refine q 5 rfl (bE c fun d5 a1 c=>yh (rMk a D3 e0 a1) fun n w a=>?_)
    refine z 2 0 ?_;intro a2 d6 c a3 w a
    refine bE c fun d7 I c=>y (yIs D3 e0 e0 a rO0 I) (yt (w8 (cs:=[.bool a2.1,a3.v]) a P0 e0 e0 rfl (mkP mkB (mkS F0)) I) fun w a=>?_)
    refine z 1 0 ?_;intro a4 a5 c
    obtain ⟨d8,d9,cc38,a⟩:=a.ld rO0 a5
    replace a:=a.eltP
    obtain ⟨e1,e2,rfl,a⟩:=a
    replace a:=a.eltB
    obtain ⟨rfl,a⟩:=a
    replace a:=a.eltS
    obtain ⟨a6,rfl,a⟩:=a
    refine y (yCn (cs:=[.bool a4.1,a6.v]) P0 rfl e0 cc38) ?_
    refine z 4 4 ?_;intro t w a w a
    obtain ⟨⟨J,o,u⟩,a7,c⟩:=bs c
    replace a:=(((a.k21).ffz).k16).fz
    refine lpN Hdr Hdr a7 [6,7,8,9,56,57] (fun (x,p,A,B) l=>[(58,iV B)]) (fun (x,p,A,B) l=>St w0 (imm (rS (rP rB (rS (rI .u32)))) d.v b.1::imm I1 f.v b.2.1::imm (rI .u32) h.v b.2.2.2.1::imm (rI .u32) l.v A::ros) (box m 123 [d.v,f.v,.bool b.2.2.1,h.v,iV b.2.2.2.2]::row 52 (rP rB (rS (rI .u32))) n.v x::box t 52 [.bool p,l.v]::rs)) (fun | (J,o,u),k=>(.exit 2,[],St w0 (imm (rI .u32) k.v u::ros) (row 52 (rP rB (rS (rI .u32))) n.v J::box t 52 [.bool o,k.v]::rs))) rfl _ ((a.k18).facts (S0 F1 (S0 F0 (S0 F4 (S0 F2 (N0 (N0 (N0 (N0 (N0 E1)))))))))) rfl ?_ ?_
    ·clear a
     rintro k g w a
     refine z 1 4 ?_
     refine bE c fun K a8 c=>?_
     refine lp a8 [8,9,85] (fun (C,D)=>[(86,iV D)]) (fun (C,D)=>St w0 (imm (rI .u32) k.v u::ros) (row 52 (rP rB (rS (rI .u32))) n.v C::box t 52 [.bool o,k.v]::rs)) (fun | K=>(.exit 4,[],St w0 ros (row 52 (rP rB (rS (rI .u32))) n.v K::rs))) rfl a rfl ?_ ?_
     ·clear a
      intro g w a
      refine q 10 rfl ?_
      cases c
      exact r _ _ _ (G4 results134 ⟨rfl,rfl⟩ ⟨rfl,rfl⟩ ⟨_,rfl,a⟩)
     rintro ⟨C,D⟩ g w e3 a c
     refine q 6 rfl (cI c (fun a9 c=>?_) fun a9 c=>?_)
     ·refine q 10 rfl (bE c fun b0 L c=>bE c fun b1 b2 c=>bE c fun e4 N c=>dS [7,12] 2 C1 ?_)
      replace a:=a.drew
      refine D1 127 0 7 rfl (qR 4 rfl (rQ rfl (yIa D3 e0 e0 a rO0 L) ?_))
      obtain ⟨e5,e6,cc127,a⟩:=a.ld rO0 L
      replace a:=a.eltP
      obtain ⟨e7,e8,rfl,a⟩:=a
      replace a:=a.eltB
      obtain ⟨rfl,a⟩:=a
      replace a:=a.eltS
      obtain ⟨b3,rfl,a⟩:=a
      refine rQ rfl (yCn (cs:=[.bool b0.1,b3.v]) P0 rfl e0 cc127) (rQ rfl (J2 [.bool o,k.v] P0 e0 a R1) (Rn QSn (kO (Eh b2 F0 F1 a) fun b4 w a=>dU (D0 3840 3 12 rfl (qR 3 rfl (rQ rfl (yIs D3 e0 e0 a rO0 N) (Rn (qS rfl (qS rfl QSn)) (LT wn (w8 (cs:=[.bool b1.1,b4.v]) a P0 e0 e0 rfl (mkP mkB (mkS F0)) N) fun w a=>?_))))))))
      refine z 1 6 ?_
      cases c
      exact lo (a.facts (S0 F2 (N0 (N0 (N0 E1)))))
     ·refine q 2 rfl ?_
      cases c
      exact xo ((a.k11).fc)
    rintro ⟨x,p,A,B⟩ l g w e9 a c
    refine q 6 rfl (cI c (fun b5 c=>?_) fun b5 c=>?_)
    ·refine z 2 5 ?_;intro f0 f1 c
     refine bE c fun f2 O c=>bE c fun b6 R c=>bE c fun f3 b7 c=>bE c fun b8 f4 c=>bE c fun f5 S c=>dS [11,12,14] 3 C1 ?_
     replace a:=a.drew
     refine D1 2047 0 11 rfl (qR 2 rfl (rQ rfl (J2 [d.v,f.v,.bool b.2.2.1,h.v,iV b.2.2.2.2] nk e0 a R0) (qR 1 rfl (rQ rfl (lb_ d.v V5 e0 a R0) (qR 1 rfl (rQ rfl (yIa L5 e0 e0 a (rdI F0) O) ?_))))))
     obtain ⟨f6,a⟩:=iLs a F0 O
     refine rQ rfl (yCt W4 e0 a F1 rfl) (qR 1 rfl (rQ rfl (yIa D3 e0 e0 a (rdI F0) R) ?_))
     obtain ⟨f7,f8,a⟩:=iLd a F0 R
     obtain ⟨f9,g0,rfl,a⟩:=a.eltP
     obtain ⟨rfl,a⟩:=a.eltB
     obtain ⟨b9,rfl,a⟩:=a.eltS
     refine rQ rfl (V6 (cs:=[.bool b6.1,b9.v]) P0 rfl e0 a F1) (Rn QSn (kO (Mh b7 F4 F5 F6 F0 a) fun g1 w a=>dU ?_))
     refine z 1 0 ?_;intro c0 w a
     refine dU (D0 8192 3 14 rfl (rQ rfl (yIs D3 e0 e0 a rO1 S) (Rn (qS rfl (qS rfl QSn)) ?_)))
     replace a:=a.k10
     refine LT wn (w8 (cs:=[.bool b8.1,c0.v]) a P0 e0 e0 rfl (mkP mkB (mkS F0)) S) fun w a=>?_
     refine z 1 1 ?_
     refine bE c fun c1 T c=>bE c fun g2 c2 c=>dS [5,6] 2 C1 ?_
     replace a:=a.drew
     refine D1 31 0 5 rfl (rQ rfl (J2 [.bool p,l.v] P0 e0 a R2) (qR 2 rfl (rQ rfl (yIa D3 e0 e0 a rO0 T) ?_)))
     obtain ⟨g3,g4,cc148,a⟩:=a.ld rO0 T
     replace a:=a.eltP
     obtain ⟨g5,g6,rfl,a⟩:=a
     replace a:=a.eltB
     obtain ⟨rfl,a⟩:=a
     replace a:=a.eltS
     obtain ⟨c3,rfl,a⟩:=a
     refine rQ rfl (yCn (cs:=[.bool c1.1,c3.v]) P0 rfl e0 cc148) (Rn QSn (kO (Lh c2 F10 F0 a) fun g7 w a=>dU ?_))
     refine z 2 6 ?_;intro w a
     cases c
     exact ln _ ((a.k18).facts (S0 F8 (S0 F9 (S0 F10 (S0 F0 (N0 (N0 (N0 (N0 (N0 (N0 (N0 (N0 (N0 (N0 (N0 (N0 E1)))))))))))))))))
    ·refine q 2 rfl ?_
     cases c
     exact lx _ ((a.k24).facts (S0 F3 (N0 (N0 (N0 (N0 E1))))))
  rintro s g w g8 a c
  refine z 2 2 ?_
  refine bE c fun c5 i c=>?_
  refine jW 8 [5,6,7] [(37,.bool c5)] (St w0 (imm (rI .u32) h.v b.2.2.2.1::ros) (row 39 rH d.v j::fam 52 (rP rB (rS (rI .u32))) j b.1::row 3 I1 f.v b.2.1::box m 123 [d.v,f.v,.bool b.2.2.1,h.v,iV b.2.2.2.2]::rs)) rfl (fun U=>?_) ?_
  ·refine gI 29 i rfl (fun c6 i=>?_) fun c6 i=>?_
   ·refine z 1 1 ?_
    refine bE i fun g9 h0 i=>?_
    refine z 2 3 ?_
    cases i
    exact U _ _ a rfl
   ·refine q 8 rfl ?_
    cases i
    exact U _ _ a rfl
  intro g w a
  refine q 2 rfl ?_
  refine cJ c (fun c7 c=>?_) fun c7 c=>?_
  ·refine q 9 rfl ?_
   cases c
   exact lo a
  ·refine q 2 rfl ?_
   cases c
   exact xo a
 ·refine q 9 rfl ?_
  cases c
  replace a:=a.rowNh 52 (rP rB (rS (rI .u32)))
  exact r _ _ _ (G4 results134 ⟨rfl,rfl⟩ ⟨rfl,rfl⟩ ⟨_,rfl,a⟩)
instance:CL prog 134 (type_of% @Kh):=⟨@Kh⟩
theorem Rm {X:List (List (Bool×LI))} {Z:Int} {a0:Hdr} {out:(List (List (Bool×LI)))} (c:m_kd X Z=some out) (C:imm (rS (rP rB (rS (rI .u32)))) a0.v X∈ros) (a:St w0 ros rs w):
  Calls prog 86 #[a0.v,iV Z] w (fun e w=>∃ (a2:Hdr) (a3:List Hdr),e=.returned (a2.v)∧St w0 ros (row 39 rH a2.v a3::fam 52 (rP rB (rS (rI .u32))) a3 out::rs) w):=by
 refine en func86 rfl ntmps86 fun Q c1=>bE c fun k c2 c=>q 9 rfl (cO (Oh c2 C a) fun m w a=>bE c fun a4 c3 c=>q 21 rfl ?_)
 replace a:=(((a.rowNh 3 I1).rowNh 39 rH).fNew 52 (rP rB (rS (rI .u32)))).k10
 refine lpN (Hdr×Hdr×(List Hdr)) (Hdr×(List Hdr)) c3 [0,1,5,24] (fun (d,f,h) (i,j,b)=>[(6,i.v),(7,j.v),(25,iV h)]) (fun (d,f,h) (i,j,b)=>St w0 ros (row 4 rB m.v k::row 3 I1 i.v d::row 39 rH j.v b::fam 52 (rP rB (rS (rI .u32))) b f::rs)) (fun | a4,(J,K)=>(.exit 0,[(7,J.v)],St w0 ros (row 39 rH J.v K::fam 52 (rP rB (rS (rI .u32))) K a4::rs))) rfl (_,_,_) (a.k1d) rfl ?_ ?_
 ·clear a
  rintro ⟨J,K⟩ g w a
  refine q 9 rfl ?_
  cases c
  exact c1 _ _ _ (I3 results86 ⟨rfl,rfl⟩ ⟨_,_,rfl,a⟩)
 rintro ⟨d,f,h⟩ ⟨i,j,b⟩ g w a5 a c
 refine q 6 rfl (cI c (fun c4 c=>?_) fun c4 c=>?_)
 ·refine q 3 rfl ?_
  refine jC (LI×(List (List (Bool×LI)))×Hdr×Hdr×(List Hdr)) [0,1,5,24,25] (fun (D,E,F,G,H)=>[(6,F.v),(7,G.v)]) (fun (D,E,F,G,H) w=>St w0 ros (row 4 rB m.v k::row 3 I1 F.v D::row 39 rH G.v H::fam 52 (rP rB (rS (rI .u32))) H E::rs) w∧m_j7 h D E=some a5) rfl ?_ ?_
  ·rintro ⟨D,E,F,G,H⟩ g w ⟨a,c⟩
   refine q 5 rfl ?_
   cases c
   exact ln (_,_,_) a
  refine bE c fun e9 a6 c=>q 12 rfl (y (yIa ob e0 e0 a rO0 a6) (y (yB O_4 e0 a rO0 a6) (q 3 rfl ?_)))
  refine cJn c (fun c5 c=>?_) fun c5 c=>?_
  ·refine q 5 rfl (bE c fun f0 c6 c=>?_)
   have a7:=a
   replace a:=(a.k10).fz
   have t:=a.guest0
   replace a:=a7
   clear a7
   refine yC (P9 jE (a1 e0)) (Nh c6 F0 t) ?_
   clear t
   rintro _ w ⟨f1,rfl,t⟩
   replace a:=a.back1 t
   clear t
   refine ⟨_,rfl,?_⟩
   refine nf (q 1 rfl (yh (rLt (n:=1) (l:=[h]) a W0 [iV h] (bp1 e0) rfl rfl (N1 (cs:=[iV h]) rfl mkI Y1)) fun f2 w a=>bE c fun u c7 c=>?_))
   replace a:=a.k10
   refine yh (rAp a W0 e0 e0 rO1 c7) fun x w a=>q 12 rfl (y (Y2 L5 e0 a (rdI C)) (bE c fun a8 c8 c=>q 4 rfl ?_))
   replace a:=((a.rowNh 39 rH).fNew 52 (rP rB (rS (rI .u32)))).k10
   refine lpN (Hdr×(List Hdr)) (Hdr×(List Hdr)) c8 [0,1,5,6,7,8,9,24,25,42,43] (fun (z,L) (p,o)=>[(10,p.v),(44,iV L)]) (fun (z,L) (p,o)=>St w0 ros (row 4 rB m.v k::row 3 I1 i.v d::row 39 rH j.v b::fam 52 (rP rB (rS (rI .u32))) b f::row 3 I1 x.v u::row 39 rH p.v o::fam 52 (rP rB (rS (rI .u32))) o z::rs)) (fun | a8,(N,O)=>(.exit 2,[(10,N.v)],St w0 ros (row 4 rB m.v k::row 3 I1 i.v d::row 39 rH j.v b::fam 52 (rP rB (rS (rI .u32))) b f::row 3 I1 x.v u::row 39 rH N.v O::fam 52 (rP rB (rS (rI .u32))) O a8::rs))) rfl (_,_) (a.k25) rfl ?_ ?_
   ·clear a
    rintro ⟨N,O⟩ g w a
    refine bE c fun f3 c9 c=>q 5 rfl (yh (rMk a D3 e0 c9) fun r w a=>q 7 rfl (y (J6 O4 e0 a rO6 R7) (q 3 rfl ?_)))
    refine jC (List (Bool×LI)) [0,1,5,6,7,16,24,25] (fun A=>[]) (fun A w=>St w0 ros (row 4 rB m.v k::row 3 I1 i.v d::row 39 rH j.v b::fam 52 (rP rB (rS (rI .u32))) b f::row 52 (rP rB (rS (rI .u32))) r.v A::rs) w∧m_j8 f h d A=some a5) rfl ?_ ?_
    ·rintro A g w ⟨a,c⟩
     refine q 4 rfl (yh (rLt (n:=1) (l:=[r]) a O4 [r.v] (bp1 e0) rfl rfl (N1 rfl (mkF rfl) Y1)) fun f4 w a=>bE c fun f5 a9 c=>?_)
     replace a:=a.k1f
     obtain ⟨f6,ey2087,d0⟩:=mc a9 (a.famL R4) (show [r].length=[A].length from rfl)
     refine yh (rAp a O4 e0 e0 rO1 d0) fun f7 w a=>?_
     replace a:=(a.k26).fPush
     rw [← ey2087,← (ga a9).1] at a
     exact q 3 rfl (jx (_,_,_,_,_) ⟨(a.k27),c⟩)
    refine cI c (fun d1 c=>?_) fun d1 c=>?_
    ·exact q 3 rfl (bE c fun d2 d3 c=>cO (mi d3 a) fun d4 w a=>bE c fun f8 b0 c=>y (yIs D3 e0 e0 a rO0 b0) (yt (w8 (cs:=[.bool d2.1,d4.v]) a P0 e0 e0 rfl (mkP mkB (mkS F0)) b0) fun w a=>q 1 rfl (jx _ ⟨((a.k28).fc),c⟩)))
    ·refine q 3 rfl (bE c fun d5 d6 c=>?_)
     replace a:=(a.k29).ffz
     refine cO (Kh d6 F0 a) fun d7 w a=>q 10 rfl (y (Y2 W0 e0 a rO6) (bE c fun b1 d8 c=>q 4 rfl ?_))
     refine lp d8 [0,1,5,6,7,16,17,24,25,81,82] (fun (R,S)=>[(83,iV S)]) (fun (R,S)=>St w0 ros (row 4 rB m.v k::row 3 I1 i.v d::row 39 rH j.v b::fam 52 (rP rB (rS (rI .u32))) b f::row 52 (rP rB (rS (rI .u32))) r.v R::row 52 (rP rB (rS (rI .u32))) d7.v d5.1::row 3 I1 x.v u::rs)) (fun | b1=>(.exit 6,[],St w0 ros (row 4 rB m.v k::row 3 I1 i.v d::row 39 rH j.v b::fam 52 (rP rB (rS (rI .u32))) b f::row 52 (rP rB (rS (rI .u32))) r.v b1::rs))) rfl ((a.k2a).fc) rfl ?_ ?_
     ·clear a
      intro g w a
      exact q 1 rfl (jx _ ⟨a,c⟩)
     rintro ⟨R,S⟩ g w f9 a c
     refine q 6 rfl (cI c (fun d9 c=>?_) fun d9 c=>?_)
     ·refine q 7 rfl (bE c fun g0 b2 c=>y (yIa W0 e0 e0 a rO6 b2) (y (yI O_3 e0 a rO6 b2) (bE c fun b3 b4 c=>q 9 rfl (y (yIa D3 e0 e0 a rO5 b4) ?_))))
      obtain ⟨g1,g2,cc2119,a⟩:=a.ld rO5 b4
      replace a:=a.eltP
      obtain ⟨g3,g4,rfl,a⟩:=a
      replace a:=a.eltB
      obtain ⟨rfl,a⟩:=a
      replace a:=a.eltS
      obtain ⟨b5,rfl,a⟩:=a
      refine y (yCn (cs:=[.bool b3.1,b5.v]) P0 rfl e0 cc2119) (bE c fun g5 b6 c=>y (yIs D3 e0 e0 a rO4 b6) ?_)
      replace a:=a.k1n
      refine yt (w8 (cs:=[.bool b3.1,b5.v]) a P0 e0 e0 rfl (mkP mkB (mkS F0)) b6) fun w a=>q 7 rfl ?_
      cases c
      exact lo ((a.k2b).fc)
     ·refine q 2 rfl ?_
      cases c
      exact xo (a.k2c)
   rintro ⟨z,L⟩ ⟨p,o⟩ g w g6 a c
   refine q 6 rfl (cI c (fun e1 c=>?_) fun e1 c=>?_)
   ·refine q 6 rfl (bE c fun e2 b7 c=>y (yIa L5 e0 e0 a (rdI C) b7) ?_)
    obtain ⟨e3,a⟩:=iLs a C b7
    refine y (yCt W4 e0 a F1 rfl) (q 12 rfl (y (Y2 W0 e0 a rO4) (bE c fun T e4 c=>q 4 rfl ?_)))
    replace a:=a.rowNh 52 (rP rB (rS (rI .u32)))
    refine lpN Hdr Hdr e4 [0,1,5,6,7,8,9,10,12,24,25,42,43,44,48,49] (fun (U,V) I=>[(13,I.v),(50,iV V)]) (fun (U,V) I=>St w0 (imm (rP rB (rS (rI .u32))) e3.v e2::ros) (row 4 rB m.v k::row 3 I1 i.v d::row 39 rH j.v b::fam 52 (rP rB (rS (rI .u32))) b f::row 3 I1 x.v u::row 39 rH p.v o::fam 52 (rP rB (rS (rI .u32))) o z::row 52 (rP rB (rS (rI .u32))) I.v U::rs)) (fun | T,s=>(.exit 4,[(13,s.v)],St w0 ros (row 4 rB m.v k::row 3 I1 i.v d::row 39 rH j.v b::fam 52 (rP rB (rS (rI .u32))) b f::row 3 I1 x.v u::row 39 rH p.v o::fam 52 (rP rB (rS (rI .u32))) o z::row 52 (rP rB (rS (rI .u32))) s.v T::rs))) rfl _ ((a.k2d).facts (S0 F0 (N0 (N0 E1)))) rfl ?_ ?_
    ·clear a
     rintro s g w a
     refine q 5 rfl (yh (rLt (n:=1) (l:=[s]) a O4 [s.v] (bp1 e0) rfl rfl (N1 rfl (mkF rfl) Y1)) fun g7 w a=>bE c fun g8 b8 c=>?_)
     replace a:=a.k2e
     obtain ⟨g9,ey2158,e5⟩:=mc b8 (a.famL R7) (show [s].length=[T].length from rfl)
     refine yh (rAp a O4 e0 e0 rO1 e5) fun h0 w a=>?_
     replace a:=(a.k2f).fPush
     rw [← ey2158,← (ga b8).1] at a
     refine q 8 rfl ?_
     cases c
     exact ln (_,_) (a.k2g)
    rintro ⟨U,V⟩ I g w h1 a c
    refine q 6 rfl (cI c (fun e6 c=>?_) fun e6 c=>?_)
    ·refine q 6 rfl (bE c fun h3 b9 c=>y (yIa W0 e0 e0 a rO4 b9) (y (yI O_3 e0 a rO4 b9) (bE c fun B c0 c=>q 7 rfl (y (yIa D3 e0 e0 a (rdI F0) c0) ?_))))
     obtain ⟨h4,h6,a⟩:=iLd a F0 c0
     obtain ⟨h7,h8,rfl,a⟩:=a.eltP
     obtain ⟨rfl,a⟩:=a.eltB
     obtain ⟨W,rfl,a⟩:=a.eltS
     refine y (V6 (cs:=[.bool B.1,W.v]) P0 rfl e0 a F1) (yh (rLt (n:=1) (l:=[(B.1,B.2)]) a D3 [.agg #[.bool B.1,W.v]] (bp1 e0) rfl rfl (N1 (cs:=[.bool B.1,W.v]) rfl (mkP mkB (mkS F0)) Y1)) fun h9 w a=>bE c fun i0 e7 c=>?_)
     replace a:=a.k2h
     refine yh (rAp a D3 e0 e0 rO1 e7) fun i1 w a=>q 8 rfl ?_
     cases c
     exact ln _ ((a.k2i).facts (S0 F2 (N0 (N0 (N0 E1)))))
    ·refine q 2 rfl ?_
     cases c
     exact lx _ (a.fc)
   ·refine q 2 rfl ?_
    cases c
    exact lx (_,_) a
  ·refine q 4 rfl (yh (rLt (n:=1) (l:=[h]) a W0 [iV h] (bp1 e0) rfl rfl (N1 (cs:=[iV h]) rfl mkI Y1)) fun i2 w a=>bE c fun i3 e8 c=>?_)
   replace a:=a.k16
   exact yh (rAp a W0 e0 e0 rO1 e8) fun i4 w a=>q 6 rfl (jx (_,_,_,_,_) ⟨(a.k2j),c⟩)
 ·refine q 2 rfl ?_
  cases c
  exact lx (_,_) (a.k2k)
instance:CL prog 86 (type_of% @Rm):=⟨@Rm⟩
theorem Qm {l i:Int} {out:LI} (c:m_kg l i=some out) (a:St w0 ros rs w):
  Calls prog 87 #[iV l,iV i] w (ro w0 ros rs 3 I1 out):=by
 refine en func87 rfl ntmps87 fun Q o=>?_
 refine v 0 ?_
 refine ⟨fun _ c=>?_,fun _ c=>?_⟩
 ·cases c
  replace a:=a.rowNh 3 I1
  exact o _ _ _ (I3 results87 ⟨rfl,rfl⟩ ⟨_,rfl,a⟩)
 ·refine bE c fun m p c=>?_
  replace a:=a.rowNh 3 I1
  refine lpN Hdr Hdr p [1] (fun (b,d) e=>[(5,e.v),(6,iV d)]) (fun (b,d) e=>St w0 ros (row 3 I1 e.v b::rs)) (fun | m,j=>(.exit 0,[(5,j.v)],St w0 ros (row 3 I1 j.v m::rs))) rfl _ a rfl ?_ ?_
  ·clear a
   rintro j g w a
   exact vx
  rintro ⟨b,d⟩ e g w r a c
  refine q 6 rfl ?_
  refine jW 6 [1,5,6] [(20,.bool ((decide ((2:Int)≤d)) && (decide ((b.length:Int) < (imin i 100)))))] (St w0 ros (row 3 I1 e.v b::rs)) rfl (fun n=>?_) ?_
  ·refine gB 14 rfl (fun k=>?_) fun k=>?_
   ·refine z 1 4 ?_
    exact n _ _ a (J1 (Z0 Value.bool (J5 k)) rfl)
   ·exact q 6 rfl (n _ _ a (J1 (Z0 Value.bool (K5 k)) rfl))
  intro g w a
  refine v 25 ?_
  refine ⟨fun _ _ _ _ c w a=>?_,vt⟩
  refine jC (LI×Hdr) [1,6] (fun (f,h)=>[(5,h.v)]) (fun (f,h) w=>St w0 ros (row 3 I1 h.v f::rs) w∧m_ke d f=some r) rfl ?_ ?_
  ·rintro ⟨f,h⟩ g w ⟨a,c⟩
   exact vx
  exact vx
instance:CL prog 87 (type_of% @Qm):=⟨@Qm⟩
theorem Om {x:List (List (Bool×LI))} {z:Int} {A:Hdr} {out:L2} (c:m_kj x z=some out) (b:imm (rS (rP rB (rS (rI .u32)))) A.v x∈ros) (a:St w0 ros rs w):
  Calls prog 88 #[A.v,iV z] w (fun e w=>∃ (B:Hdr) (C:List Hdr),e=.returned (B.v)∧St w0 ros (row 24 rH B.v C::fam 3 I1 C out::rs) w):=by
 refine en func88 rfl ntmps88 fun Q N=>q 8 rfl (y (Y2 L5 e0 a (rdI b)) (bE c fun a2 O c=>?_))
 obtain ⟨R,em5,S⟩:=rj O hnil
 refine yh (rMk a Z2 e0 S) fun d w a=>?_
 replace a:=(a.fReps 3 I1 R).k10
 rw [← em5] at a
 refine q 7 rfl (y (Y2 L5 e0 a (rdI b)) (bE c fun D T c=>q 4 rfl ?_))
 refine lpN (List Hdr) (List Hdr) T [1,5,15,16] (fun (j,k) f=>[(17,iV k)]) (fun (j,k) f=>St w0 ros (row 24 rH d.v f::fam 3 I1 f j::rs)) (fun | D,m=>(.exit 0,[],St w0 ros (row 24 rH d.v m::fam 3 I1 m D::rs))) rfl _ a rfl ?_ ?_
 ·clear a
  rintro m g w a
  refine q 9 rfl ?_
  cases c
  exact N _ _ _ (I3 results88 ⟨rfl,rfl⟩ ⟨_,_,rfl,a⟩)
 rintro ⟨j,k⟩ f g w a3 a c
 refine q 6 rfl (cI c (fun U c=>?_) fun U c=>?_)
 ·refine q 7 rfl (bE c fun V E c=>y (yIa L5 e0 e0 a (rdI b) E) ?_)
  obtain ⟨W,a⟩:=iLs a b E
  refine y (yCt W4 e0 a F1 rfl) (q 7 rfl (y (Y2 D3 e0 a (rdI F0)) (bE c fun F X c=>q 4 rfl ?_)))
  refine lpN (List Hdr) (List Hdr) X [1,5,6,15,16,17,22,23] (fun (o,p) h=>[(24,iV p)]) (fun (o,p) h=>St w0 (imm (rP rB (rS (rI .u32))) W.v V::ros) (row 24 rH d.v h::fam 3 I1 h o::rs)) (fun | F,r=>(.exit 2,[],St w0 ros (row 24 rH d.v r::fam 3 I1 r F::rs))) rfl _ (a.facts (S0 F0 (N0 (N0 E1)))) rfl ?_ ?_
  ·clear a
   rintro r g w a
   refine q 7 rfl ?_
   cases c
   exact ln _ a
  rintro ⟨o,p⟩ h g w a4 a c
  refine q 6 rfl (cI c (fun Z c=>?_) fun Z c=>?_)
  ·refine q 6 rfl (bE c fun G H c=>y (yIa D3 e0 e0 a (rdI F0) H) ?_)
   obtain ⟨a5,a6,a⟩:=iLd a F0 H
   obtain ⟨a7,a8,rfl,a⟩:=a.eltP
   obtain ⟨rfl,a⟩:=a.eltB
   obtain ⟨I,rfl,a⟩:=a.eltS
   refine y (V6 (cs:=[.bool G.1,I.v]) P0 rfl e0 a F1) (yb (rAl a I4) fun a9 w a=>sB rfl a P0 fun w a=>q 4 rfl (y (J2 [.bool G.1,I.v] P0 e0 a R0) (bE c fun s a0 c=>q 1 rfl (cZ (pf a0 F0 a) fun w a=>bE c fun b0 J c=>q 12 rfl ?_))))
   obtain ⟨b1,i⟩:=a.famI R2 J
   refine y (yIa Z2 e0 e0 a rO1 i) (y (yF1 M1 e0 a rO1 i rfl) (q 1 rfl (yh (rLt (n:=1) (l:=[s.1]) a W0 [iV s.1] (bp1 e0) rfl rfl (N1 (cs:=[iV s.1]) rfl mkI Y1)) fun b2 w a=>bE c fun b3 a1 c=>?_)))
   replace a:=(a.k1f).foc i J
   refine yh (rAp a W0 e0 e0 rO2 a1) fun K w a=>bE c fun b4 L c=>?_
   obtain ⟨b5,t⟩:=H9 (u:=K) L (a.famLx (mtR mhR))
   refine y (yIs Z2 e0 e0 a rO4 t) ?_
   replace a:=a.k1n
   refine yt (W3 (cs:=[K.v]) a M1 rfl e0 e0 rfl (mkF rfl) t) fun w a=>?_
   replace a:=(a.k1c).unfS i t L
   refine q 7 rfl ?_
   cases c
   exact ln _ ((a.k2l).facts (S0 F2 (N0 (N0 (N0 E1)))))
  ·refine q 2 rfl ?_
   cases c
   exact lx _ (a.fc)
 ·refine q 2 rfl ?_
  cases c
  exact lx _ a
instance:CL prog 88 (type_of% @Om):=⟨@Om⟩
theorem rm {d:L2} {b:Hdr} {out:Unit} (c:m_kk d=some out) (e:imm S1 b.v d∈ros) (a:St w0 ros rs w):
  Calls prog 135 #[b.v] w (rv w0 ros rs ((clH b).v)):=by
 refine en func135 rfl ntmps135 fun Q f=>?_
 refine z 2 0 ?_
 exact y (ySl3 ja e0 a (rdI e) e0 e0 rfl rfl) vx
instance:CL prog 135 (type_of% @rm):=⟨@rm⟩
theorem Ch {b:L2} {d:Int} {e:Hdr} {out:Int×Int} (c:m_kl b d=some out) (f:imm S1 e.v b∈ros) (a:St w0 ros rs w):
  Calls prog 136 #[e.v,iV d] w (rv w0 ros rs (.tuple #[iV out.1,iV out.2])):=by
 refine en func136 rfl ntmps136 fun Q g=>bE c fun l h c=>q 10 rfl (cZ (Uh h f a) fun w a=>q 10 rfl ?_)
 refine cIn c (fun i c=>?_) fun i c=>?_
 ·refine q 6 rfl (bE c fun m j c=>cT_ (mf j f a) fun n o w a=>bE c fun p k c=>q 1 rfl (cT_ (lf k a) fun r s w a=>q 10 rfl (y (Y2 W0 e0 a rO2) (q 5 rfl ?_))))
  cases c
  exact zb g results136 ⟨rfl,(a.k1b)⟩
 ·refine q 9 rfl ?_
  cases c
  exact zb g results136 ⟨rfl,a⟩
instance:CL prog 136 (type_of% @Ch):=⟨@Ch⟩
end Go.Proofs.YthekfonboblioacGreatDoor
