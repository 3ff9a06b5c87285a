/- Walks: each function computes its model, printed. -/
import Derived.Test.YthekfonboblioabGreatDoorW12
namespace Go.Proofs.YthekfonboblioabGreatDoor
open Go Sx M Go.Proofs.Tryz
set_option maxRecDepth 100000
set_option maxHeartbeats 40000000
set_option linter.unusedVariables false
attribute [local irreducible] wpList Code.wp Calls DR QR QS LA LS St row box fam imm rowS loop
variable {w0:World} {ax:List Fact} {rs:List Res} {w:World}
theorem vi {b:L2} {d:Int} {e:Hdr} {out:Int} (c:m_km b d=some out) (f:imm S1 e.v b∈ax) (a:St w0 ax rs w):
  Calls prog 129 #[e.v,iV d] w (rv w0 ax rs (iV out)):=by
 exact en func129 rfl ntmps129 fun Q g=>vx
instance:CL prog 129 (type_of% @vi):=⟨@vi⟩
theorem ui {e:L2} {f:Int} {g:Hdr} {out:Int×Int} (c:m_kn e f=some out) (b:imm S1 g.v e∈ax) (a:St w0 ax rs w):
  Calls prog 72 #[g.v,iV f] w (rv w0 ax rs (.tuple #[iV out.1,iV out.2])):=by
 refine en func72 rfl ntmps72 fun Q d=>bE c fun m h c=>q 10 rfl (cZ (vi h b a) fun w a=>q 10 rfl ?_)
 refine cIn c (fun i c=>?_) fun i c=>?_
 ·refine q 6 rfl (bE c fun n j c=>cT_ (If j b a) fun o p w a=>bE c fun r k c=>q 1 rfl (cT_ (Hf k a) fun s t w a=>q 11 rfl (y (O2 V0 e0 a rO2) (q 1 rfl (y (O2 N9 e0 a (rdI b)) (q 3 rfl (cI c (fun l c=>?_) fun l c=>?_)))))))
  ·refine q 8 rfl ?_
   cases c
   exact zb d results72 ⟨rfl,(a.k1b)⟩
  ·refine q 10 rfl ?_
   cases c
   exact zb d results72 ⟨rfl,(a.k1b)⟩
 ·refine q 9 rfl ?_
  cases c
  exact zb d results72 ⟨rfl,a⟩
instance:CL prog 72 (type_of% @ui):=⟨@ui⟩
theorem Qn {B:List (List (Bool×LI))} {d b:Int} {C D:LI} {E:List (List (Bool×LI))} {F e f h:Hdr} {out:Bool} (c:m_kq B d b C D E=some out) (G:imm (rS Cw) F.v B∈ax) (a0:imm I1 e.v C∈ax) (a1:imm I1 f.v D∈ax) (a3:imm (rS Cw) h.v E∈ax) (a:St w0 ax rs w):
  Calls prog 34 #[F.v,.agg #[iV d,iV b,e.v,f.v,h.v]] w (rv w0 ax rs (.bool out)):=by
 refine en func34 rfl ntmps34 fun Q O=>?_
 refine z 3 4 ?_;intro o w a
 refine bE c fun H R c=>?_
 replace a:=a.rowNh 23 S1
 refine lpN Hdr Hdr R [0,3,16,17] (fun (j,r) i=>[(5,i.v),(18,iV r)]) (fun (j,r) i=>St w0 ax (box o 33 [iV d,iV b,e.v,f.v,h.v]::row 23 S1 i.v j::rs)) (fun | H,s=>(.exit 0,[(5,s.v)],St w0 ax (box o 33 [iV d,iV b,e.v,f.v,h.v]::row 23 S1 s.v H::rs))) rfl _ (a.k10) rfl ?_ ?_
 ·clear a
  rintro s g w a
  refine z 1 0 ?_
  refine bE c fun I S c=>?_
  have J:=a
  replace a:=(a.k10).fz
  have k:=a.guest0
  replace a:=J
  clear J
  refine yC (C9 aG (a2 e0 e0)) (ui S F0 k) ?_
  clear k
  rintro _ w ⟨rfl,k⟩
  replace a:=a.back k
  clear k
  refine ⟨_,rfl,?_⟩
  refine nf (q 12 rfl ?_)
  refine jW 3 [] [(64,.bool ((decide (I.2=0)) && (!(decide (I.1=0)))))] (St w0 ax rs) rfl (fun K=>?_) ?_
  ·refine gB 61 rfl (fun t=>?_) fun t=>?_
   ·exact q 3 rfl (K _ _ (a.k19) (O1 (C1 Value.bool (B6 t)) rfl))
   ·exact q 3 rfl (K _ _ (a.k19) (O1 (C1 Value.bool (C6 t)) rfl))
  intro g w a
  refine q 4 rfl ?_
  cases c
  exact za O results34 ⟨rfl,a⟩
 rintro ⟨j,r⟩ i g w a4 a c
 refine q 6 rfl (cI c (fun T c=>?_) fun T c=>?_)
 ·refine z 4 4 ?_;intro a5 a6 c
  refine bE c fun u U c=>?_
  replace a:=a.rowNh 3 I1
  refine lpN Hdr Hdr U [0,3,5,7,16,17,18,23,24] (fun (x,y) p=>[(8,p.v),(25,iV y)]) (fun (x,y) p=>St w0 ax (box o 33 [iV d,iV b,e.v,f.v,h.v]::row 23 S1 i.v j::row 3 I1 p.v x::rs)) (fun | u,m=>(.exit 2,[(8,m.v)],St w0 ax (box o 33 [iV d,iV b,e.v,f.v,h.v]::row 23 S1 i.v j::row 3 I1 m.v u::rs))) rfl _ (a.k1d) rfl ?_ ?_
  ·clear a
   rintro m g w a
   refine q 5 rfl ?_
   replace a:=(a.k16).fz
   refine yh (rLt (n:=1) (l:=[u]) a N9 [m.v] (bp1 e0) rfl rfl (U1 (cs:=[m.v]) rfl (mkS F0) E2)) fun a7 w a=>?_
   refine z 1 8 ?_;intro a8 a9 c b0 w a
   cases c
   exact ln _ ((a.k1c).fc)
  rintro ⟨x,y⟩ p g w b1 a c
  refine q 6 rfl (cI c (fun V c=>?_) fun V c=>?_)
  ·refine z 2 4 ?_;intro b2 b3 c
   refine bE c fun b4 L c=>bE c fun W N c=>bE c fun A X c=>dS [9,13,14] 3 A1 ?_
   replace a:=a.drew
   refine D1 511 0 9 rfl (qR 2 rfl (rQ rfl (yIa A5 e0 e0 a (rdI G) L) ?_))
   obtain ⟨b5,a⟩:=iLs a G L
   refine rQ rfl (yCt D4 e0 a F1 rfl) (qR 1 rfl (rQ rfl (yIa V2 e0 e0 a (rdI F0) N) ?_))
   obtain ⟨b6,b7,a⟩:=iLd a F0 N
   obtain ⟨b8,b9,rfl,a⟩:=a.eltP
   obtain ⟨rfl,a⟩:=a.eltB
   obtain ⟨Z,rfl,a⟩:=a.eltS
   refine rQ rfl (Z5 (cs:=[.bool W.1,Z.v]) P0 rfl e0 a F1) (qR 1 rfl (rQ rfl (lb_ (iV b) O_3 e0 a R0) (Rn QSn (kZ (Jf X F0 a) fun w a=>dU ?_))))
   refine z 3 4 ?_
   refine yh (rLt (n:=1) (l:=[A.1]) a V0 [iV A.1] (bp1 e0) rfl rfl (U1 (cs:=[iV A.1]) rfl mkI E2)) fun c0 w a=>?_
   refine z 1 8 ?_;intro c1 c2 c c3 w a
   cases c
   exact ln _ ((a.k1h).fc)
  ·refine q 2 rfl ?_
   cases c
   exact lx _ a
 ·refine q 2 rfl ?_
  cases c
  exact lx _ a
instance:CL prog 34 (type_of% @Qn):=⟨@Qn⟩
theorem On {j:List (List (Bool×LI))} {k:List (Bool×LI)} {l m:Hdr} {out:Bool} (c:m_kt j k=some out) (A:imm (rS Cw) l.v j∈ax) (n:imm Cw m.v k∈ax) (a:St w0 ax rs w):
  Calls prog 35 #[l.v,m.v] w (rv w0 ax rs (.bool out)):=by
 refine en func35 rfl ntmps35 fun Q o=>?_
 refine z 1 4 ?_
 refine bE c fun B C c=>?_
 refine lp C [1,10,11] (fun e=>[(12,iV e)]) (fun e=>St w0 ax rs) (fun | .inl ()=>(.exit 0,[],St w0 ax rs) | .inr ()=>(.ret,[(4,.bool false)],St w0 ax rs)) rfl a rfl ?_ ?_
 ·clear a
  intro g w a
  rcases B with ⟨⟩ | ⟨⟩
  ·refine q 8 rfl ?_
   cases c
   exact za o results35 ⟨rfl,a⟩
  ·refine q 2 rfl ?_
   cases c
   exact za o results35 ⟨rfl,a⟩
 rintro e g w R a c
 refine q 6 rfl (cI c (fun D c=>?_) fun D c=>?_)
 ·refine z 1 0 ?_;intro E F c
  obtain ⟨G,a⟩:=iLs a A F
  refine y (yCt D4 e0 a F1 rfl) ?_
  refine z 4 4 ?_;intro S T c U w a p w a w a
  obtain ⟨⟨r,s⟩,H,c⟩:=bs c
  refine lpN Hdr Hdr H [1,7,10,11,12,17,18] (fun (d,f,h) b=>[(19,iV h)]) (fun (d,f,h) b=>St w0 (imm xw b.v f::imm Cw G.v E::ax) (box p 62 [.bool d,b.v]::rs)) (fun | (r,s),i=>(.exit 2,[],St w0 (imm xw i.v s::ax) (box p 62 [.bool r,i.v]::rs))) rfl _ (a.facts (S0 F0 (S0 F1 (N0 (N0 (N0 E1)))))) rfl ?_ ?_
  ·clear a
   rintro i g w a
   refine z 2 3 ?_;intro V W c w a
   refine cIn c (fun I c=>?_) fun I c=>?_
   ·refine q 7 rfl ?_
    cases c
    exact lo ((a.k14).fc)
   ·refine q 8 rfl ?_
    cases c
    exact xo ((a.k14).fc)
  rintro ⟨d,f,h⟩ b g w X a c
  refine q 6 rfl (cI c (fun J c=>?_) fun J c=>?_)
  ·refine z 1 0 ?_;intro t K c
   obtain ⟨Z,a0,a⟩:=iLd a F1 K
   obtain ⟨a1,a2,rfl,a⟩:=a.eltP
   obtain ⟨rfl,a⟩:=a.eltB
   obtain ⟨u,rfl,a⟩:=a.eltS
   refine y (Z5 (cs:=[.bool t.1,u.v]) P0 rfl e0 a F1) ?_
   refine z 2 2 ?_;intro a3 w a w a
   refine bE c fun L x c=>bE c fun a4 N c=>bE c fun a5 a6 c=>dS [6,7,8] 3 A1 ?_
   replace a:=a.drew
   refine D1 63 0 6 rfl (rQ rfl (W1 [.bool d,b.v] P0 e0 a R1) (rQ rfl (W1 [.bool t.1,u.v] P0 e0 a R0) (qR 2 rfl (rQ rfl (yIa V2 e0 e0 a (rdI (F_4 n)) x) ?_))))
   obtain ⟨a7,a8,a⟩:=iLd a (F_4 n) x
   obtain ⟨a9,b0,rfl,a⟩:=a.eltP
   obtain ⟨rfl,a⟩:=a.eltB
   obtain ⟨O,rfl,a⟩:=a.eltS
   refine rQ rfl (Z5 (cs:=[.bool L.1,O.v]) P0 rfl e0 a F1) (Rn QSn (kO (Nf N F2 F0 a) fun b1 w a=>dU ?_))
   refine z 3 6 ?_;intro b2 w a w a
   cases c
   exact ln _ ((a.k11).facts (S0 F0 (S0 F7 (N0 (N0 (N0 (N0 (N0 (N0 (N0 (N0 E1)))))))))))
  ·refine q 2 rfl ?_
   cases c
   exact lx _ (a.facts (S0 F0 (N0 (N0 E1))))
 ·refine q 2 rfl ?_
  cases c
  exact xo a
instance:CL prog 35 (type_of% @On):=⟨@On⟩
theorem tf {i j:Int} {B C D:LI} {d b:Int} {E F:LI} {G:List (List (Bool×LI))} {k l m e f h:Hdr} {out:Bool} (c:m_kv i j B C D d b E F G=some out) (Z:imm I1 k.v B∈ax) (a0:imm I1 l.v C∈ax) (a1:imm Ow m.v D∈ax) (a2:imm I1 e.v E∈ax) (a3:imm I1 f.v F∈ax) (N:imm (rS Cw) h.v G∈ax) (a4:globF∈ax) (a:St w0 ax rs w):
  Calls prog 12 #[.agg #[iV i,iV j,k.v,l.v,m.v],.agg #[iV d,iV b,e.v,f.v,h.v]] w (rv w0 ax rs (.bool out)):=by
 refine en func12 rfl ntmps12 fun Q a5=>?_
 refine z 4 15 ?_;intro t w a r w a u a6 c x s w a
 refine bE c fun H n c=>?_
 refine jW 5 [2,3,5] [(24,.bool H)] (St w0 ax (box t 26 [iV i,iV j,k.v,l.v,m.v]::box r 33 [iV d,iV b,e.v,f.v,h.v]::row 37 rH x.v s::fam 62 Cw s u.1::rs)) rfl (fun I=>?_) ?_
 ·refine gIn 19 n rfl (fun O n=>?_) fun O n=>?_
  ·refine z 1 0 ?_
   refine bE n fun a7 a8 n=>?_
   refine z 1 2 ?_;intro w a
   cases n
   exact I _ _ (a.k1e) rfl
  ·refine q 5 rfl ?_
   cases n
   exact I _ _ (a.k1e) rfl
 intro g w a
 refine q 1 rfl ?_
 refine jW 4 [2,3,5] [(29,.bool (H || (decide ((2147483647:Int) < b))))] (St w0 ax (box t 26 [iV i,iV j,k.v,l.v,m.v]::box r 33 [iV d,iV b,e.v,f.v,h.v]::row 37 rH x.v s::fam 62 Cw s u.1::rs)) rfl (fun J=>?_) ?_
 ·refine gB 25 rfl (fun y=>?_) fun y=>?_
  ·exact q 4 rfl (J _ _ a (O1 (C1 Value.bool (orT y)) rfl))
  ·refine z 1 2 ?_
   exact J _ _ a (O1 (C1 Value.bool (orF y)) rfl)
 intro g w a
 refine v 39 ?_
 refine ⟨vt,fun _ _ _ _ c w a=>?_⟩
 refine bE c fun R o c=>?_
 refine jW 9 [2,3,5] [(47,.bool R)] (St w0 ax (box t 26 [iV i,iV j,k.v,l.v,m.v]::box r 33 [iV d,iV b,e.v,f.v,h.v]::row 37 rH x.v s::fam 62 Cw s u.1::rs)) rfl (fun K=>?_) ?_
 ·refine gJn 38 o rfl (fun S o=>?_) fun S o=>?_
  ·refine z 3 0 ?_
   refine bE o fun a9 b0 o=>?_
   refine z 1 2 ?_;intro w a
   cases o
   exact K _ _ a rfl
  ·refine q 9 rfl ?_
   cases o
   exact K _ _ a rfl
 intro g w a
 refine bE c fun T p c=>q 1 rfl ?_
 refine jW 5 [2,3,5] [(53,.bool T)] (St w0 (imm (rS Cw) x.v u.1::ax) (box t 26 [iV i,iV j,k.v,l.v,m.v]::box r 33 [iV d,iV b,e.v,f.v,h.v]::rs)) rfl (fun L=>?_) ?_
 ·refine gJ 48 p rfl (fun U p=>?_) fun U p=>?_
  ·refine q 5 rfl ?_
   cases p
   replace a:=(a.k2r).ffz
   exact L _ _ a rfl
  ·refine z 1 0 ?_
   refine bE p fun b1 b2 p=>?_
   replace a:=(a.k2r).ffz
   refine z 1 2 ?_;intro w a
   cases p
   exact L _ _ a rfl
 intro g w a
 refine v 0 ?_
 refine ⟨vt,fun _ _=>⟨fun _ c=>?_,vt⟩⟩
 refine bE c fun V W c=>?_
 refine lp W [2,3,5,64,65] (fun A=>[(66,iV A)]) (fun A=>St w0 (imm (rS Cw) x.v u.1::ax) (box t 26 [iV i,iV j,k.v,l.v,m.v]::box r 33 [iV d,iV b,e.v,f.v,h.v]::rs)) (fun | .inl ()=>(.exit 0,[],St w0 ax (box r 33 [iV d,iV b,e.v,f.v,h.v]::rs)) | .inr ()=>(.ret,[(4,.bool false)],St w0 ax rs)) rfl a rfl ?_ ?_
 ·clear a
  intro g w a
  rcases V with ⟨⟩ | ⟨⟩
  ·exact vx
  ·exact vx
 rintro A g w b3 a c
 refine v 0 ?_
 refine ⟨fun _ _ _ X c=>?_,vt⟩
 obtain ⟨b4,a⟩:=iLs a (mtF N) X
 exact vx
instance:CL prog 12 (type_of% @tf):=⟨@tf⟩
theorem sf {r:LI} {s t:Int} {u:Hdr} {out:Bool} (c:m_kx r s t=some out) (b:imm I1 u.v r∈ax) (a:St w0 ax rs w):
  Calls prog 38 #[u.v,iV s,iV t] w (rv w0 ax rs (.bool out)):=by
 refine en func38 rfl ntmps38 fun Q x=>bE c fun F G c=>q 12 rfl ?_
 refine lp G [0,1,2] (fun n=>[(7,iV n)]) (fun n=>St w0 ax rs) (fun | .inl ()=>(.exit 0,[],St w0 ax rs) | .inr ()=>(.ret,[(6,.bool false)],St w0 ax rs)) rfl a rfl ?_ ?_
 ·clear a
  intro g w a
  rcases F with ⟨⟩ | ⟨⟩
  ·refine z 1 6 ?_
   cases c
   exact za x results38 ⟨rfl,a⟩
  ·refine q 2 rfl ?_
   cases c
   exact za x results38 ⟨rfl,a⟩
 rintro n g w O a c
 refine z 1 3 ?_
 refine cI c (fun H c=>?_) fun H c=>?_
 ·refine q 5 rfl (bE c fun R f c=>bE c fun j h c=>bE c fun k d c=>?_)
  refine jN Unit [0,1,2,7] (fun _=>[(42,.bool k)]) (fun _=>St w0 ax rs) rfl ?_ ?_
  ·rcases G5 h with ⟨l,h⟩ | ⟨l,h⟩
   ·have y:=J1 h
    have A:j=true:=y.symm
    rw [M0 A] at d
    have I:=J1 d
    refine dS [] 0 A1 ?_
    replace a:=a.drew
    exact Dw 536870911 0 (qR 2 rfl (rQ rfl (yIa V0 e0 e0 a (rdI b) f) (rQ rfl (yI O_3 e0 a (rdI b) f) (qR 2 rfl (rK 19 rfl (dT l) (qR 6 rfl (rQ rfl (pt_ (.bool j) e0 rfl (eqv y rfl)) (qR 1 rfl (rK 27 rfl A (qR 14 rfl (rQ rfl (pt_ (.bool k) e0 rfl (eqv I rfl)) (Rn QSn (jr () a)))))))))))))
   ·refine bE h fun S i h=>?_
    have o:=J1 h
    rcases G5 d with ⟨m,d⟩ | ⟨m,d⟩
    ·have J:=J1 d
     refine dS [] 0 A1 ?_
     replace a:=a.drew
     refine Dw 536870911 0 (qR 2 rfl (rQ rfl (yIa V0 e0 e0 a (rdI b) f) (rQ rfl (yI O_3 e0 a (rdI b) f) (qR 2 rfl (rK 19 rfl (dF l) (qR 2 rfl (rQ rfl (yIa V0 e0 e0 a (rdI b) i) (rQ rfl (yI O_3 e0 a (rdI b) i) (qR 2 rfl (rQ rfl (pf_ (.bool j) e0 rfl (eqv o e0)) (qR 1 rfl (rK 27 rfl m (qR 14 rfl ?_)))))))))))))
     exact rQ rfl (pt_ (.bool k) e0 rfl (eqv J rfl)) (Rn QSn (jr () a))
    ·refine bE d fun B e d=>?_
     have C:=J1 d
     rcases G5 e with ⟨p,e⟩ | ⟨p,e⟩
     ·refine bE e fun T D e=>bE e fun U E e=>?_
      have K:=J1 e
      refine dS [] 0 A1 ?_
      replace a:=a.drew
      refine Dw 536870911 0 (qR 2 rfl (rQ rfl (yIa V0 e0 e0 a (rdI b) f) (rQ rfl (yI O_3 e0 a (rdI b) f) (qR 2 rfl (rK 19 rfl (dF l) (qR 2 rfl (rQ rfl (yIa V0 e0 e0 a (rdI b) i) (rQ rfl (yI O_3 e0 a (rdI b) i) (qR 2 rfl (rQ rfl (pf_ (.bool j) e0 rfl (eqv o e0)) (qR 1 rfl (rK 27 rfl (E3 m) (qR 3 rfl ?_)))))))))))))
      exact rK 30 rfl (dT p) (qR 2 rfl (rQ rfl (yIa V0 e0 e0 a (rdI b) D) (rQ rfl (yI O_3 e0 a (rdI b) D) (qR 3 rfl (rQ rfl (yIa V0 e0 e0 a (rdI b) E) (rQ rfl (yI O_3 e0 a (rdI b) E) (qR 1 rfl (rQ rfl (pt_ (.bool B) e0 rfl (eqv K e0)) (rQ rfl (pf_ (.bool k) e0 rfl (eqv C e0)) (Rn QSn (jr () a)))))))))))
     ·have L:=J1 e
      refine dS [] 0 A1 ?_
      replace a:=a.drew
      refine Dw 536870911 0 (qR 2 rfl (rQ rfl (yIa V0 e0 e0 a (rdI b) f) (rQ rfl (yI O_3 e0 a (rdI b) f) (qR 2 rfl (rK 19 rfl (dF l) (qR 2 rfl (rQ rfl (yIa V0 e0 e0 a (rdI b) i) (rQ rfl (yI O_3 e0 a (rdI b) i) (qR 2 rfl (rQ rfl (pf_ (.bool j) e0 rfl (eqv o e0)) (qR 1 rfl (rK 27 rfl (E3 m) (qR 3 rfl ?_)))))))))))))
      exact rK 30 rfl (dF p) (qR 10 rfl (rQ rfl (pf_ (.bool B) e0 rfl (eqv L rfl)) (rQ rfl (pf_ (.bool k) e0 rfl (eqv C e0)) (Rn QSn (jr () a)))))
  rintro _ g w a
  refine q 1 rfl ?_
  refine cJ c (fun N c=>?_) fun N c=>?_
  ·refine q 8 rfl ?_
   cases c
   exact xo a
  ·refine q 8 rfl ?_
   cases c
   exact lo a
 ·refine q 2 rfl ?_
  cases c
  exact xo a
instance:CL prog 38 (type_of% @sf):=⟨@sf⟩
theorem si {b:L2} {d:Int} {e:Hdr} {out:Int} (c:m_ky b d=some out) (f:imm S1 e.v b∈ax) (a:St w0 ax rs w):
  Calls prog 39 #[e.v,iV d] w (rv w0 ax rs (iV out)):=by
 refine en func39 rfl ntmps39 fun Q g=>bE c fun j h c=>q 9 rfl (cR_ (uf h f a) fun k l m w a=>q 13 rfl (y (O2 V0 e0 a rO2) (q 1 rfl (y (O2 N9 e0 a (rdI f)) (q 3 rfl (cI c (fun i c=>?_) fun i c=>?_))))))
 ·refine q 7 rfl ?_
  cases c
  exact za g results39 ⟨rfl,(a.k1b)⟩
 ·refine q 9 rfl ?_
  cases c
  exact za g results39 ⟨rfl,(a.k1b)⟩
instance:CL prog 39 (type_of% @si):=⟨@si⟩
theorem Nn {i j:List (Bool×LI)} {k l:Hdr} {out:Bool×LI} (c:m_k0 i j=some out) (m:imm Cw k.v i∈ax) (n:imm Cw l.v j∈ax) (a:St w0 ax rs w):
  Calls prog 81 #[k.v,l.v] w (rc w0 ax rs 126 out):=by
 refine en func81 rfl ntmps81 fun Q x=>?_
 refine z 4 9 ?_;intro o w a p w a w a
 obtain ⟨⟨r,s⟩,y,c⟩:=bs c
 replace a:=a.rowNh 126 xw
 refine lpN Hdr Hdr y [0,1,4,5] (fun (d,e,f) b=>[(6,iV f)]) (fun (d,e,f) b=>St w0 ax (box o 62 [.bool false,hnil.v]::row 126 xw b.v e::box p 62 [.bool d,b.v]::rs)) (fun | (r,s),h=>(.exit 0,[],St w0 ax (box o 62 [.bool false,hnil.v]::row 126 xw h.v s::box p 62 [.bool r,h.v]::rs))) rfl _ (a.k16) rfl ?_ ?_
 ·clear a
  rintro h g w a
  refine z 2 3 ?_;intro w a
  cases c
  exact x _ _ _ (M3 results81 (C4 rfl rfl a R0 P0 rfl) ⟨_,rfl,(a.k13)⟩)
 rintro ⟨d,e,f⟩ b g w G a c
 refine z 1 3 ?_
 refine cI c (fun A c=>?_) fun A c=>?_
 ·refine q 4 rfl (bE c fun B t c=>bE c fun C u c=>bE c fun H D c=>bE c fun I J c=>dS [9,10,11] 3 A1 ?_)
  replace a:=a.drew
  refine D1 511 0 9 rfl (rQ rfl (W1 [.bool d,b.v] P0 e0 a R2) (qR 2 rfl (rQ rfl (yIa V2 e0 e0 a (rdI m) t) ?_)))
  obtain ⟨K,L,a⟩:=iLd a m t
  obtain ⟨N,O,rfl,a⟩:=a.eltP
  obtain ⟨rfl,a⟩:=a.eltB
  obtain ⟨E,rfl,a⟩:=a.eltS
  refine rQ rfl (Z5 (cs:=[.bool B.1,E.v]) P0 rfl e0 a F1) (qR 2 rfl (rQ rfl (yIa V2 e0 e0 a (rdI (F_2 n)) u) ?_))
  obtain ⟨R,S,a⟩:=iLd a (F_2 n) u
  obtain ⟨T,U,rfl,a⟩:=a.eltP
  obtain ⟨rfl,a⟩:=a.eltB
  obtain ⟨F,rfl,a⟩:=a.eltS
  refine rQ rfl (Z5 (cs:=[.bool C.1,F.v]) P0 rfl e0 a F1) (Rn QSn (kO (aa D F2 F0 a) fun V w a=>dU ?_))
  refine z 3 7 ?_;intro W w a w a
  cases c
  exact ln _ ((a.k18).fc)
 ·refine q 2 rfl ?_
  cases c
  exact lx _ a
instance:CL prog 81 (type_of% @Nn):=⟨@Nn⟩
theorem qi {i:List (List (Bool×LI))} {j:List (Bool×LI)} {k m:Hdr} {out:(List (Bool×LI))} (c:m_k2 i j=some out) (r:imm (rS Cw) k.v i∈ax) (A:imm Cw m.v j∈ax) (a:St w0 ax rs w):
  Calls prog 41 #[k.v,m.v] w (ro w0 ax rs 62 Cw out):=by
 refine en func41 rfl ntmps41 fun Q s=>bE c fun o t c=>q 17 rfl ?_
 replace a:=a.rowNh 62 Cw
 refine lpN Hdr Hdr t [0,1] (fun (e,f) b=>[(5,b.v),(6,iV f)]) (fun (e,f) b=>St w0 ax (row 62 Cw b.v e::rs)) (fun | o,h=>(.exit 0,[(5,h.v)],St w0 ax (row 62 Cw h.v o::rs))) rfl _ a rfl ?_ ?_
 ·clear a
  rintro h g w a
  refine q 9 rfl ?_
  cases c
  exact s _ _ _ (M3 results41 ⟨rfl,rfl⟩ ⟨_,rfl,a⟩)
 rintro ⟨e,f⟩ b g w B a c
 refine z 1 3 ?_
 refine cI c (fun u c=>?_) fun u c=>?_
 ·refine z 1 0 ?_;intro C x c
  obtain ⟨D,a⟩:=iLs a r x
  refine y (yCt D4 e0 a F1 rfl) ?_
  refine z 1 0 ?_;intro d E c p w a
  replace a:=a.fz
  refine yh (rLt (n:=1) (l:=[(d.1,d.2)]) a V2 [.agg #[.bool d.1,p.v]] (bp1 e0) rfl rfl (U1 (cs:=[.bool d.1,p.v]) rfl (mkP mkB (mkS F0)) E2)) fun F w a=>?_
  refine z 1 9 ?_;intro G H c I w a
  cases c
  exact ln _ ((a.k11).fc)
 ·refine q 2 rfl ?_
  cases c
  exact lx _ a
instance:CL prog 41 (type_of% @qi):=⟨@qi⟩
theorem oi {j e:Int} {I J K:LI} {f d:Int} {L N:LI} {C:List (List (Bool×LI))} {k l m h i b:Hdr} {out:Bool} (c:m_k5 j e I J K f d L N C=some out) (a2:imm I1 k.v I∈ax) (a3:imm I1 l.v J∈ax) (a4:imm Ow m.v K∈ax) (O:imm I1 h.v L∈ax) (R:imm I1 i.v N∈ax) (n:imm (rS Cw) b.v C∈ax) (a5:globF∈ax) (a:St w0 ax rs w):
  Calls prog 13 #[.agg #[iV j,iV e,k.v,l.v,m.v],.agg #[iV f,iV d,h.v,i.v,b.v]] w (rv w0 ax rs (.bool out)):=by
 refine en func13 rfl ntmps13 fun Q B=>q 2 rfl (yb (jd (vals:=[iV j,iV e,k.v,l.v,m.v]) a e0 rfl) fun r w a=>yb (jd (vals:=[iV f,iV d,h.v,i.v,b.v]) a e0 rfl) fun o w a=>q 5 rfl (y (W1 [iV j,iV e,k.v,l.v,m.v] J7 e0 a R1) (bE c fun p a6 c=>cO (je a6 a2 a3 a4 a5 a) fun s w a=>q 15 rfl ?_)))
 refine jW 4 [2,3,5] [(23,.bool ((!(decide (p.2.2=0))) || (decide ((2147483647:Int) < d))))] (St w0 ax (box r 26 [iV j,iV e,k.v,l.v,m.v]::box o 33 [iV f,iV d,h.v,i.v,b.v]::row 37 (rS Cw) s.v p.1::rs)) rfl (fun S=>?_) ?_
 ·refine gB 19 rfl (fun D=>?_) fun D=>?_
  ·exact q 4 rfl (S _ _ (a.k18) (O1 (C1 Value.bool (orT D)) rfl))
  ·exact q 1 rfl (y (lb_ (iV d) O_3 e0 a R1) (q 2 rfl (S _ _ (a.k18) (O1 (C1 Value.bool (orF D)) rfl))))
 intro g w a
 refine bE c fun a7 t c=>q 1 rfl ?_
 refine jW 5 [2,3,5] [(29,.bool a7)] (St w0 ax (box r 26 [iV j,iV e,k.v,l.v,m.v]::box o 33 [iV f,iV d,h.v,i.v,b.v]::row 37 (rS Cw) s.v p.1::rs)) rfl (fun T=>?_) ?_
 ·refine gJ 24 t rfl (fun a8 t=>?_) fun a8 t=>?_
  ·refine q 5 rfl ?_
   cases t
   exact T _ _ a rfl
  ·refine q 1 rfl (y (lb_ (iV d) O_3 e0 a R1) (bE t fun d7 a9 t=>cZ (Ci a9 a) fun w a=>q 2 rfl ?_))
   cases t
   exact T _ _ a rfl
 intro g w a
 refine bE c fun b0 u c=>q 1 rfl ?_
 refine jW 9 [2,3,5] [(39,.bool b0)] (St w0 ax (box r 26 [iV j,iV e,k.v,l.v,m.v]::box o 33 [iV f,iV d,h.v,i.v,b.v]::row 37 (rS Cw) s.v p.1::rs)) rfl (fun U=>?_) ?_
 ·refine gJ 30 u rfl (fun b1 u=>?_) fun b1 u=>?_
  ·refine q 9 rfl ?_
   cases u
   exact U _ _ a rfl
  ·refine q 1 rfl (y (lb_ h.v L1 e0 a R1) (q 1 rfl (y (lb_ (iV f) O_3 e0 a R1) (q 1 rfl (y (lb_ (iV j) O_3 e0 a R0) (bE u fun d8 b2 u=>cZ (sf b2 O a) fun w a=>q 2 rfl ?_))))))
   cases u
   exact U _ _ a rfl
 intro g w a
 refine bE c fun V x c=>q 1 rfl ?_
 refine jW 9 [2,3,5] [(49,.bool V)] (St w0 ax (box r 26 [iV j,iV e,k.v,l.v,m.v]::box o 33 [iV f,iV d,h.v,i.v,b.v]::row 37 (rS Cw) s.v p.1::rs)) rfl (fun W=>?_) ?_
 ·refine gJ 40 x rfl (fun b3 x=>?_) fun b3 x=>?_
  ·refine q 9 rfl ?_
   cases x
   exact W _ _ a rfl
  ·refine q 1 rfl (y (lb_ i.v L1 e0 a R1) (q 1 rfl (y (lb_ (iV f) O_3 e0 a R1) (q 1 rfl (y (lb_ (iV e) O_3 e0 a R0) (bE x fun d9 b4 x=>cZ (sf b4 R a) fun w a=>q 2 rfl ?_))))))
   cases x
   exact W _ _ a rfl
 intro g w a
 refine q 1 rfl ?_
 refine jW 10 [2,3,5] [(60,.bool (V || (!(decide ((C.length:Int)=(ws .i64 e f))))))] (St w0 ax (box r 26 [iV j,iV e,k.v,l.v,m.v]::box o 33 [iV f,iV d,h.v,i.v,b.v]::row 37 (rS Cw) s.v p.1::rs)) rfl (fun X=>?_) ?_
 ·refine gB 50 rfl (fun E=>?_) fun E=>?_
  ·exact q 10 rfl (X _ _ a (O1 (C1 Value.bool (orT E)) rfl))
  ·exact q 1 rfl (y (lb_ b.v z6 e0 a R1) (y (O2 A5 e0 a (rdI n)) (q 1 rfl (y (lb_ (iV e) O_3 e0 a R0) (q 1 rfl (y (lb_ (iV f) O_3 e0 a R1) (q 3 rfl (X _ _ a (O1 (C1 Value.bool (orF E)) rfl)))))))))
 intro g w a
 refine q 2 rfl ?_
 refine cJ c (fun b5 c=>?_) fun b5 c=>?_
 ·refine q 7 rfl ?_
  cases c
  exact za B results13 ⟨rfl,(a.k1b)⟩
 ·refine q 4 rfl (bE c fun e1 b6 c=>bE c fun e2 b7 c=>bE c fun e3 b8 c=>dS [3,8,11] 3 A1 ?_)
  replace a:=a.drew
  refine D1 1783 0 3 rfl (qR 2 rfl (rQ rfl (lb_ (iV d) O_3 e0 a R1) (qR 1 rfl (rQ rfl (lb_ h.v L1 e0 a R1) (qR 1 rfl (rQ rfl (lb_ i.v L1 e0 a R1) (qR 1 rfl (rQ rfl (lb_ (iV d) O_3 e0 a R1) (Rn QSn ?_)))))))))
  replace a:=(a.k16).fz
  refine kO (xf b6 F0 a) fun e4 w a=>dU (D1 0 1776 8 rfl (Rn (qS rfl (sY rfl (lb_ h.v L1 e0 a R2) (qS rfl (sY rfl (lb_ i.v L1 e0 a R2) (qS rfl (sY rfl (lb_ (iV d) O_3 e0 a R2) QSn)))))) ?_))
  replace a:=a.fz
  refine kO (Ai b7 F0 (F_2 O) (F_2 R) a) fun e5 w a=>dU (D1 0 1536 11 rfl (Rn (qS rfl (sY rfl (lb_ (iV d) O_3 e0 a R2) QSn)) ?_))
  replace a:=a.fz
  refine kZ (si b8 F0 a) fun w a=>dU (Dw 4096 0 (qR 1 rfl (Rn QSn (qx 1 rfl (cI c (fun b9 c=>?_) fun b9 c=>?_)))))
  ·refine q 7 rfl ?_
   cases c
   exact za B results13 ⟨rfl,((a.k19).fc)⟩
  ·refine q 9 rfl (bE c fun c0 c1 c=>?_)
   refine lp c1 [2,3,5] (fun F=>[(8,iV F)]) (fun F=>St w0 (imm (rS Cw) s.v p.1::ax) (box r 26 [iV j,iV e,k.v,l.v,m.v]::box o 33 [iV f,iV d,h.v,i.v,b.v]::rs)) (fun | .inl ()=>(.exit 0,[],St w0 ax (box o 33 [iV f,iV d,h.v,i.v,b.v]::rs)) | .inr ()=>(.ret,[(4,.bool false)],St w0 ax rs)) rfl (a.facts (S0 F2 (N0 (N0 (N0 E1))))) rfl ?_ ?_
   ·clear a
    intro g w a
    rcases c0 with ⟨⟩ | ⟨⟩
    ·refine q 3 rfl (bE c fun A z c=>?_)
     refine jN Unit [] (fun _=>[(4,.bool A)]) (fun _=>St w0 ax rs) rfl ?_ ?_
     ·rcases G5 z with ⟨G,z⟩ | ⟨G,z⟩
      ·have c2:=J1 z
       refine dS [7,13] 2 A1 ?_
       replace a:=a.drew
       refine D1 1919 0 7 rfl (qR 1 rfl (rQ rfl (lb_ b.v z6 e0 a R0) (rQ rfl (O2 A5 e0 a (rdI n)) (qR 2 rfl (rK 113 rfl (dT G) (qR 5 rfl (Rn QSn (Lx (S2.2 rfl) (dU (D1 6144 1792 13 rfl (qR 1 rfl (rQ rfl (pt_ (.bool A) e0 rfl (eqv c2 rfl)) (Rn (qS rfl (qS rfl (qS rfl QSn))) ?_)))))))))))))
       exact Ly wn (a_ (.bool A) e0) (dU (Dw 0 0 (Rn QSn (jr () (a.k14)))))
      ·refine bE z fun e6 c3 z=>?_
       have c4:=J1 z
       refine dS [7,13] 2 A1 ?_
       replace a:=a.drew
       refine D1 1919 0 7 rfl (qR 1 rfl (rQ rfl (lb_ b.v z6 e0 a R0) (rQ rfl (O2 A5 e0 a (rdI n)) (qR 2 rfl (rK 113 rfl (dF G) (qR 1 rfl (rQ rfl (lb_ b.v z6 e0 a R0) (qR 1 rfl (rQ rfl (lb_ b.v z6 e0 a R0) (rQ rfl (O2 A5 e0 a (rdI n)) (Rn QSn (kZ (Ei c3 n a) fun w a=>dU ?_))))))))))))
       exact D1 6144 1792 13 rfl (qR 1 rfl (rQ rfl (pf_ (.bool A) e0 rfl (eqv c4 e0)) (Rn (qS rfl (sY rfl (lb_ b.v z6 e0 a R0) (sY rfl (O2 A5 e0 a (rdI n)) QSn))) (Ly wn (a_ (.bool A) e0) (dU (Dw 0 0 (Rn QSn (jr () (a.k14)))))))))
     rintro _ g w a
     refine q 2 rfl ?_
     cases c
     exact za B results13 ⟨rfl,a⟩
    ·refine q 2 rfl ?_
     cases c
     exact za B results13 ⟨rfl,a⟩
   rintro F g w e7 a c
   refine q 5 rfl (y (lb_ b.v z6 e0 a R1) (y (O2 A5 e0 a (rdI (mtF n))) (q 3 rfl (cI c (fun c5 c=>?_) fun c5 c=>?_))))
   ·refine q 6 rfl (bE c fun e8 Z c=>dS [] 0 A1 ?_)
    replace a:=a.drew
    refine Dw 511 0 (qR 1 rfl (rQ rfl (lb_ b.v z6 e0 a R1) (qR 1 rfl (rQ rfl (yIa A5 e0 e0 a (rdI (mtF n)) Z) ?_))))
    obtain ⟨e9,a⟩:=iLs a (mtF n) Z
    refine rQ rfl (yCt D4 e0 a F1 rfl) (rQ rfl (O2 V2 e0 a (rdI F0)) (qR 1 rfl (rQ rfl (lb_ (iV e) O_3 e0 a R0) (qR 1 rfl (Rn QSn (qx 1 rfl ?_))))))
    refine cIn c (fun c6 c=>?_) fun c6 c=>?_
    ·refine q 6 rfl (y (lb_ b.v z6 e0 a R1) (bE c fun f0 a0 c=>q 1 rfl (y (yIa A5 e0 e0 a (rdI (F_3 n)) a0) ?_)))
     obtain ⟨f1,a⟩:=iLs a (F_3 n) a0
     refine y (yCt D4 e0 a F1 rfl) (bE c fun c7 c8 c=>cO (qi c8 F4 F0 a) fun c9 w a=>bE c fun d0 d1 c=>q 9 rfl ?_)
     refine lp d1 [2,3,5,8,9] (fun H=>[(10,iV H)]) (fun H=>St w0 (imm (rS Cw) s.v p.1::ax) (box r 26 [iV j,iV e,k.v,l.v,m.v]::box o 33 [iV f,iV d,h.v,i.v,b.v]::row 62 Cw c9.v c7::rs)) (fun | .inl ()=>(.exit 2,[],St w0 (imm (rS Cw) s.v p.1::ax) (box r 26 [iV j,iV e,k.v,l.v,m.v]::box o 33 [iV f,iV d,h.v,i.v,b.v]::rs)) | .inr ()=>(.ret,[(4,.bool false)],St w0 ax rs)) rfl ((a.k1d).facts (S0 F4 (N0 (N0 (N0 (N0 (N0 E1))))))) rfl ?_ ?_
     ·clear a
      intro g w a
      rcases d0 with ⟨⟩ | ⟨⟩
      ·refine q 8 rfl ?_
       cases c
       exact lo a
      ·refine q 3 rfl ?_
       cases c
       exact xo a
     rintro H g w f2 a c
     refine q 5 rfl (y (O2 V2 e0 a rO2) (q 3 rfl (cI c (fun d2 c=>?_) fun d2 c=>?_)))
     ·refine q 8 rfl (bE c fun d3 a1 c=>y (yIa V2 e0 e0 a rO2 a1) ?_)
      obtain ⟨f3,f4,cc151,a⟩:=a.ld rO2 a1
      replace a:=a.eltP
      obtain ⟨f5,f6,rfl,a⟩:=a
      replace a:=a.eltB
      obtain ⟨rfl,a⟩:=a
      replace a:=a.eltS
      obtain ⟨d4,rfl,a⟩:=a
      refine y (yCn (cs:=[.bool d3.1,d4.v]) P0 rfl e0 cc151) (bE c fun f7 d5 c=>cZ (w_z d5 F0 a) fun w a=>q 3 rfl ?_)
      refine cIn c (fun d6 c=>?_) fun d6 c=>?_
      ·refine q 8 rfl ?_
       cases c
       exact lo (a.facts (S0 F1 (N0 (N0 E1))))
      ·refine q 8 rfl ?_
       cases c
       exact xo ((a.k1b).fc)
     ·refine q 2 rfl ?_
      cases c
      exact xo (a.k1q)
    ·refine q 9 rfl ?_
     cases c
     exact xo ((a.k19).fc)
   ·refine q 2 rfl ?_
    cases c
    exact xo ((a.k12).fc)
instance:CL prog 13 (type_of% @oi):=⟨@oi⟩
theorem ni {out:Bool} (c:m_k6=some out) (Z:globF∈ax) (a:St w0 ax rs w):
  Calls prog 14 #[] w (rv w0 ax rs (.bool out)):=by
 refine en func14 rfl ntmps14 fun Q i4=>?_
 refine z 2 6 ?_;intro G i5 c w a V i6 c w a
 refine yh (rLt (n:=3) (l:=[0,2,4]) a V0 [iV 0,iV 2,iV 4] (bp3 rfl rfl rfl) rfl rfl (U1 (cs:=[iV 0]) rfl mkI (U1 (cs:=[iV 2]) rfl mkI (U1 (cs:=[iV 4]) rfl mkI E2)))) fun g2 w a=>yh (rLt (n:=4) (l:=[0,1,0,1]) a V0 [iV 0,iV 1,iV 0,iV 1] (bp4 rfl rfl rfl rfl) rfl rfl (U1 (cs:=[iV 0]) rfl mkI (U1 (cs:=[iV 1]) rfl mkI (U1 (cs:=[iV 0]) rfl mkI (U1 (cs:=[iV 1]) rfl mkI E2))))) fun g3 w a=>q 3 rfl (yh (rLt (n:=4) (l:=[4607182418800017408,G,G,V]) a X8 [.int .u64 4607182418800017408,.int .u64 G,.int .u64 G,.int .u64 V] (bp4 rfl e0 e0 e0) rfl rfl (U1 (cs:=[.int .u64 4607182418800017408]) rfl mkI (U1 (cs:=[.int .u64 G]) rfl mkI (U1 (cs:=[.int .u64 G]) rfl mkI (U1 (cs:=[.int .u64 V]) rfl mkI E2))))) fun g4 w a=>?_)
 refine z 4 0 ?_;intro i7 w a w a
 refine bE c fun m g5 c=>?_
 replace a:=(((((a.k1g).fz).k16).fz).k10).fz
 refine yC (C9 dw (a1 e0)) (Ef g5 F2 F1 F0 (F_3 Z) a) ?_
 rintro _ w ⟨g6,g7,K,i8,rfl,a⟩
 refine ⟨_,rfl,?_⟩
 refine nf ?_
 refine z 4 10 ?_;intro i9 w a w a j0 j1 c j2 w a
 refine bE c fun u L c=>bE c fun s D c=>bE c fun r y c=>bE c fun o t c=>bE c fun k p c=>bE c fun i j c=>bE c fun f b c=>bE c fun e d c=>?_
 refine jN Unit [] (fun _=>[(0,.bool e)]) (fun _=>St w0 ax rs) rfl ?_ ?_
 ·rcases G5 L with ⟨x,L⟩ | ⟨x,L⟩
  ·have B:=J1 L
   rcases G5 D with ⟨A,D⟩ | ⟨A,D⟩
   ·have E:=J1 D
    rcases G5 y with ⟨C,y⟩ | ⟨C,y⟩
    ·have H:=J1 y
     rcases G5 t with ⟨F,t⟩ | ⟨F,t⟩
     ·have N:=J1 t
      rcases G5 p with ⟨I,p⟩ | ⟨I,p⟩
      ·have S:=J1 p
       rcases G5 j with ⟨O,j⟩ | ⟨O,j⟩
       ·have W:=J1 j
        rcases G5 b with ⟨T,b⟩ | ⟨T,b⟩
        ·refine bE b fun U J b=>bE b fun j3 a0 b=>bE b fun j4 a2 b=>?_
         have a3:=J1 b
         rcases G5 d with ⟨X,d⟩ | ⟨X,d⟩
         ·refine bE d fun j5 g8 d=>?_
          have g9:=J1 d
          refine dS [34,35,40,42] 4 A1 ?_
          replace a:=a.drew
          refine D1 17179869183 0 34 rfl (qR 3 rfl (rK 31 rfl (dT x) (qR 2 rfl (rQ rfl (pt_ (.bool u) e0 rfl (eqv B e0)) (qR 1 rfl (rK 35 rfl A (qR 1 rfl (rQ rfl (pt_ (.bool s) e0 rfl (eqv E e0)) (qR 1 rfl (rK 38 rfl C (qR 1 rfl (rQ rfl (lb_ (iV m.1) O_3 e0 a R0) (qR 1 rfl ?_)))))))))))))
          refine rQ rfl (pt_ (.bool r) e0 rfl (eqv H e0)) (qR 1 rfl (rK 43 rfl F (qR 1 rfl (rQ rfl (lb_ (iV m.2.1) O_3 e0 a R0) (qR 1 rfl (rQ rfl (pt_ (.bool o) e0 rfl (eqv N e0)) (qR 1 rfl (rK 48 rfl I (qR 1 rfl (rQ rfl (lb_ K.v z6 e0 a R0) (rQ rfl (K6 T4 e0 a rO3 R4) (qR 1 rfl (rQ rfl (pt_ (.bool k) e0 rfl (eqv S e0)) ?_)))))))))))))
          refine qR 1 rfl (rK 54 rfl O (qR 1 rfl (rQ rfl (O2 V2 e0 a (rdI F0)) (qR 1 rfl (rQ rfl (pt_ (.bool i) e0 rfl (eqv W e0)) (qR 1 rfl (rK 59 rfl T (qR 1 rfl (rQ rfl (yIa V2 e0 rfl a (rdI F0) J) ?_)))))))))
          obtain ⟨j6,j7,a⟩:=iLd a F0 J
          obtain ⟨j8,j9,rfl,a⟩:=a.eltP
          obtain ⟨rfl,a⟩:=a.eltB
          obtain ⟨R,rfl,a⟩:=a.eltS
          refine rQ rfl (Z5 (cs:=[.bool U.1,R.v]) P0 rfl e0 a F1) (Rn QSn (kO (w_f a0 a) fun h0 w a=>dU (D1 0 15032385536 35 rfl (Rn (qS rfl (sY rfl (yIa V2 e0 rfl a (rdI F2) J) (sY rfl (Z5 (cs:=[.bool U.1,R.v]) P0 rfl e0 a F1) QSn))) ?_))))
          replace a:=a.fz
          refine kZ (ie a2 F1 F0 a) fun w a=>dU (D1 1030792151040 0 40 rfl (rQ rfl (pt_ (.bool f) e0 rfl (eqv a3 e0)) (qR 1 rfl (rK 66 rfl X (rQ rfl (W1 [iV 2,iV 2,g2.v,g3.v,g4.v] J7 e0 a R5) (rQ rfl (W1 [iV m.1,iV m.2.1,g6.v,g7.v,K.v] P6 e0 a R0) (Rn QSn ?_)))))))
          replace a:=(((((a.k10).fz).k10).fz).k1d).ffz
          exact kZ (tf g8 F9 F8 F7 F2 F1 F0 (aw Z) a) fun w a=>dU (D1 2199023255552 0 42 rfl (rQ rfl (pt_ (.bool e) e0 rfl (eqv g9 e0)) (Rn QSn (Ly wn (a_ (.bool e) e0) (dU (Dw 0 0 (Rn QSn (jr () ((a.k19).fc)))))))))
         ·have h1:=J1 d
          refine dS [34,35,40,42] 4 A1 ?_
          replace a:=a.drew
          refine D1 17179869183 0 34 rfl (qR 3 rfl (rK 31 rfl (dT x) (qR 2 rfl (rQ rfl (pt_ (.bool u) e0 rfl (eqv B e0)) (qR 1 rfl (rK 35 rfl A (qR 1 rfl (rQ rfl (pt_ (.bool s) e0 rfl (eqv E e0)) (qR 1 rfl (rK 38 rfl C (qR 1 rfl (rQ rfl (lb_ (iV m.1) O_3 e0 a R0) (qR 1 rfl ?_)))))))))))))
          refine rQ rfl (pt_ (.bool r) e0 rfl (eqv H e0)) (qR 1 rfl (rK 43 rfl F (qR 1 rfl (rQ rfl (lb_ (iV m.2.1) O_3 e0 a R0) (qR 1 rfl (rQ rfl (pt_ (.bool o) e0 rfl (eqv N e0)) (qR 1 rfl (rK 48 rfl I (qR 1 rfl (rQ rfl (lb_ K.v z6 e0 a R0) (rQ rfl (K6 T4 e0 a rO3 R4) (qR 1 rfl (rQ rfl (pt_ (.bool k) e0 rfl (eqv S e0)) ?_)))))))))))))
          refine qR 1 rfl (rK 54 rfl O (qR 1 rfl (rQ rfl (O2 V2 e0 a (rdI F0)) (qR 1 rfl (rQ rfl (pt_ (.bool i) e0 rfl (eqv W e0)) (qR 1 rfl (rK 59 rfl T (qR 1 rfl (rQ rfl (yIa V2 e0 rfl a (rdI F0) J) ?_)))))))))
          obtain ⟨k0,k1,a⟩:=iLd a F0 J
          obtain ⟨k2,k3,rfl,a⟩:=a.eltP
          obtain ⟨rfl,a⟩:=a.eltB
          obtain ⟨R,rfl,a⟩:=a.eltS
          refine rQ rfl (Z5 (cs:=[.bool U.1,R.v]) P0 rfl e0 a F1) (Rn QSn (kO (w_f a0 a) fun h0 w a=>dU (D1 0 15032385536 35 rfl (Rn (qS rfl (sY rfl (yIa V2 e0 rfl a (rdI F2) J) (sY rfl (Z5 (cs:=[.bool U.1,R.v]) P0 rfl e0 a F1) QSn))) ?_))))
          replace a:=a.fz
          refine kZ (ie a2 F1 F0 a) fun w a=>dU (D1 1030792151040 0 40 rfl (rQ rfl (pt_ (.bool f) e0 rfl (eqv a3 e0)) (qR 1 rfl (rK 66 rfl (E3 X) (qR 2 rfl (Rn QSn (Lx (S2.2 rfl) (dU (D1 2199023255552 0 42 rfl (rQ rfl (pf_ (.bool e) e0 rfl (eqv h1 rfl)) (Rn QSn (Ly wn (a_ (.bool e) e0) ?_))))))))))))
          exact dU (Dw 0 0 (Rn QSn (jr () ((a.k27).fc))))
        ·have a4:=J1 b
         have a5:¬ f=true:=fun h=>Y4 (a4.trans h)
         rw [K0 a5] at d
         have h2:=J1 d
         refine dS [34,35,40,42] 4 A1 ?_
         replace a:=a.drew
         refine D1 17179869183 0 34 rfl (qR 3 rfl (rK 31 rfl (dT x) (qR 2 rfl (rQ rfl (pt_ (.bool u) e0 rfl (eqv B e0)) (qR 1 rfl (rK 35 rfl A (qR 1 rfl (rQ rfl (pt_ (.bool s) e0 rfl (eqv E e0)) (qR 1 rfl (rK 38 rfl C (qR 1 rfl (rQ rfl (lb_ (iV m.1) O_3 e0 a R0) (qR 1 rfl ?_)))))))))))))
         refine rQ rfl (pt_ (.bool r) e0 rfl (eqv H e0)) (qR 1 rfl (rK 43 rfl F (qR 1 rfl (rQ rfl (lb_ (iV m.2.1) O_3 e0 a R0) (qR 1 rfl (rQ rfl (pt_ (.bool o) e0 rfl (eqv N e0)) (qR 1 rfl (rK 48 rfl I (qR 1 rfl (rQ rfl (lb_ K.v z6 e0 a R0) (rQ rfl (K6 T4 e0 a rO3 R4) (qR 1 rfl (rQ rfl (pt_ (.bool k) e0 rfl (eqv S e0)) ?_)))))))))))))
         refine qR 1 rfl (rK 54 rfl O (qR 1 rfl (rQ rfl (O2 V2 e0 a (rdI F0)) (qR 1 rfl (rQ rfl (pt_ (.bool i) e0 rfl (eqv W e0)) (qR 1 rfl (rK 59 rfl (E3 T) (qR 3 rfl (Rn QSn (Lx (S2.2 rfl) (dU (D1 0 15032385536 35 rfl (Rn (qS rfl (qS rfl (qS rfl QSn))) ?_)))))))))))))
         refine Lx (S2.2 rfl) (dU (D1 1030792151040 0 40 rfl (rQ rfl (pf_ (.bool f) e0 rfl (eqv a4 rfl)) (qR 1 rfl (rK 66 rfl (E3 a5) (qR 2 rfl (Rn QSn (Lx (S2.2 rfl) (dU (D1 2199023255552 0 42 rfl (rQ rfl (pf_ (.bool e) e0 rfl (eqv h2 rfl)) (Rn QSn (Ly wn (a_ (.bool e) e0) ?_)))))))))))))
         exact dU (Dw 0 0 (Rn QSn (jr () ((a.k27).fc))))
       ·have a6:=J1 j
        have a7:¬ i=true:=fun h=>Y4 (a6.trans h)
        rw [K0 a7] at b
        have a8:=J1 b
        have a9:¬ f=true:=fun h=>Y4 (a8.trans h)
        rw [K0 a9] at d
        have h6:=J1 d
        refine dS [34,35,40,42] 4 A1 ?_
        replace a:=a.drew
        refine D1 17179869183 0 34 rfl (qR 3 rfl (rK 31 rfl (dT x) (qR 2 rfl (rQ rfl (pt_ (.bool u) e0 rfl (eqv B e0)) (qR 1 rfl (rK 35 rfl A (qR 1 rfl (rQ rfl (pt_ (.bool s) e0 rfl (eqv E e0)) (qR 1 rfl (rK 38 rfl C (qR 1 rfl (rQ rfl (lb_ (iV m.1) O_3 e0 a R0) (qR 1 rfl ?_)))))))))))))
        refine rQ rfl (pt_ (.bool r) e0 rfl (eqv H e0)) (qR 1 rfl (rK 43 rfl F (qR 1 rfl (rQ rfl (lb_ (iV m.2.1) O_3 e0 a R0) (qR 1 rfl (rQ rfl (pt_ (.bool o) e0 rfl (eqv N e0)) (qR 1 rfl (rK 48 rfl I (qR 1 rfl (rQ rfl (lb_ K.v z6 e0 a R0) (rQ rfl (K6 T4 e0 a rO3 R4) (qR 1 rfl (rQ rfl (pt_ (.bool k) e0 rfl (eqv S e0)) ?_)))))))))))))
        refine qR 1 rfl (rK 54 rfl (E3 O) (qR 3 rfl (rQ rfl (pf_ (.bool i) e0 rfl (eqv a6 rfl)) (qR 1 rfl (rK 59 rfl (E3 a7) (qR 3 rfl (Rn QSn (Lx (S2.2 rfl) (dU (D1 0 15032385536 35 rfl (Rn (qS rfl (qS rfl (qS rfl QSn))) (Lx (S2.2 rfl) (dU ?_)))))))))))))
        refine D1 1030792151040 0 40 rfl (rQ rfl (pf_ (.bool f) e0 rfl (eqv a8 rfl)) (qR 1 rfl (rK 66 rfl (E3 a9) (qR 2 rfl (Rn QSn (Lx (S2.2 rfl) (dU (D1 2199023255552 0 42 rfl (rQ rfl (pf_ (.bool e) e0 rfl (eqv h6 rfl)) (Rn QSn (Ly wn (a_ (.bool e) e0) (dU (Dw 0 0 ?_)))))))))))))
        exact Rn QSn (jr () ((a.k27).fc))
      ·have b0:=J1 p
       have b1:¬ k=true:=fun h=>Y4 (b0.trans h)
       rw [K0 b1] at j
       have b2:=J1 j
       have b3:¬ i=true:=fun h=>Y4 (b2.trans h)
       rw [K0 b3] at b
       have b4:=J1 b
       have b5:¬ f=true:=fun h=>Y4 (b4.trans h)
       rw [K0 b5] at d
       have h7:=J1 d
       refine dS [34,35,40,42] 4 A1 ?_
       replace a:=a.drew
       refine D1 17179869183 0 34 rfl (qR 3 rfl (rK 31 rfl (dT x) (qR 2 rfl (rQ rfl (pt_ (.bool u) e0 rfl (eqv B e0)) (qR 1 rfl (rK 35 rfl A (qR 1 rfl (rQ rfl (pt_ (.bool s) e0 rfl (eqv E e0)) (qR 1 rfl (rK 38 rfl C (qR 1 rfl (rQ rfl (lb_ (iV m.1) O_3 e0 a R0) (qR 1 rfl ?_)))))))))))))
       refine rQ rfl (pt_ (.bool r) e0 rfl (eqv H e0)) (qR 1 rfl (rK 43 rfl F (qR 1 rfl (rQ rfl (lb_ (iV m.2.1) O_3 e0 a R0) (qR 1 rfl (rQ rfl (pt_ (.bool o) e0 rfl (eqv N e0)) (qR 1 rfl (rK 48 rfl (E3 I) (qR 4 rfl (rQ rfl (pf_ (.bool k) e0 rfl (eqv b0 rfl)) (qR 1 rfl (rK 54 rfl (E3 b1) (qR 3 rfl ?_)))))))))))))
       refine rQ rfl (pf_ (.bool i) e0 rfl (eqv b2 rfl)) (qR 1 rfl (rK 59 rfl (E3 b3) (qR 3 rfl (Rn QSn (Lx (S2.2 rfl) (dU (D1 0 15032385536 35 rfl (Rn (qS rfl (qS rfl (qS rfl QSn))) (Lx (S2.2 rfl) (dU (D1 1030792151040 0 40 rfl (rQ rfl (pf_ (.bool f) e0 rfl (eqv b4 rfl)) (qR 1 rfl ?_)))))))))))))
       exact rK 66 rfl (E3 b5) (qR 2 rfl (Rn QSn (Lx (S2.2 rfl) (dU (D1 2199023255552 0 42 rfl (rQ rfl (pf_ (.bool e) e0 rfl (eqv h7 rfl)) (Rn QSn (Ly wn (a_ (.bool e) e0) (dU (Dw 0 0 (Rn QSn (jr () ((a.k27).fc)))))))))))))
     ·have b7:=J1 t
      have b8:¬ o=true:=fun h=>Y4 (b7.trans h)
      rw [K0 b8] at p
      have b9:=J1 p
      have c0:¬ k=true:=fun h=>Y4 (b9.trans h)
      rw [K0 c0] at j
      have c1:=J1 j
      have c2:¬ i=true:=fun h=>Y4 (c1.trans h)
      rw [K0 c2] at b
      have c3:=J1 b
      have c4:¬ f=true:=fun h=>Y4 (c3.trans h)
      rw [K0 c4] at d
      have i0:=J1 d
      refine dS [34,35,40,42] 4 A1 ?_
      replace a:=a.drew
      refine D1 17179869183 0 34 rfl (qR 3 rfl (rK 31 rfl (dT x) (qR 2 rfl (rQ rfl (pt_ (.bool u) e0 rfl (eqv B e0)) (qR 1 rfl (rK 35 rfl A (qR 1 rfl (rQ rfl (pt_ (.bool s) e0 rfl (eqv E e0)) (qR 1 rfl (rK 38 rfl C (qR 1 rfl (rQ rfl (lb_ (iV m.1) O_3 e0 a R0) (qR 1 rfl ?_)))))))))))))
      refine rQ rfl (pt_ (.bool r) e0 rfl (eqv H e0)) (qR 1 rfl (rK 43 rfl (E3 F) (qR 3 rfl (rQ rfl (pf_ (.bool o) e0 rfl (eqv b7 rfl)) (qR 1 rfl (rK 48 rfl (E3 b8) (qR 4 rfl (rQ rfl (pf_ (.bool k) e0 rfl (eqv b9 rfl)) (qR 1 rfl (rK 54 rfl (E3 c0) (qR 3 rfl (rQ rfl (pf_ (.bool i) e0 rfl (eqv c1 rfl)) (qR 1 rfl ?_)))))))))))))
      refine rK 59 rfl (E3 c2) (qR 3 rfl (Rn QSn (Lx (S2.2 rfl) (dU (D1 0 15032385536 35 rfl (Rn (qS rfl (qS rfl (qS rfl QSn))) (Lx (S2.2 rfl) (dU (D1 1030792151040 0 40 rfl (rQ rfl (pf_ (.bool f) e0 rfl (eqv c3 rfl)) (qR 1 rfl (rK 66 rfl (E3 c4) (qR 2 rfl ?_)))))))))))))
      exact Rn QSn (Lx (S2.2 rfl) (dU (D1 2199023255552 0 42 rfl (rQ rfl (pf_ (.bool e) e0 rfl (eqv i0 rfl)) (Rn QSn (Ly wn (a_ (.bool e) e0) (dU (Dw 0 0 (Rn QSn (jr () ((a.k27).fc)))))))))))
    ·have c5:=J1 y
     have c6:¬ r=true:=fun h=>Y4 (c5.trans h)
     rw [K0 c6] at t
     have c7:=J1 t
     have c8:¬ o=true:=fun h=>Y4 (c7.trans h)
     rw [K0 c8] at p
     have c9:=J1 p
     have d0:¬ k=true:=fun h=>Y4 (c9.trans h)
     rw [K0 d0] at j
     have d1:=J1 j
     have d2:¬ i=true:=fun h=>Y4 (d1.trans h)
     rw [K0 d2] at b
     have d3:=J1 b
     have d4:¬ f=true:=fun h=>Y4 (d3.trans h)
     rw [K0 d4] at d
     have i1:=J1 d
     refine dS [34,35,40,42] 4 A1 ?_
     replace a:=a.drew
     refine D1 17179869183 0 34 rfl (qR 3 rfl (rK 31 rfl (dT x) (qR 2 rfl (rQ rfl (pt_ (.bool u) e0 rfl (eqv B e0)) (qR 1 rfl (rK 35 rfl A (qR 1 rfl (rQ rfl (pt_ (.bool s) e0 rfl (eqv E e0)) (qR 1 rfl (rK 38 rfl (E3 C) (qR 3 rfl (rQ rfl (pf_ (.bool r) e0 rfl (eqv c5 rfl)) (qR 1 rfl ?_)))))))))))))
     refine rK 43 rfl (E3 c6) (qR 3 rfl (rQ rfl (pf_ (.bool o) e0 rfl (eqv c7 rfl)) (qR 1 rfl (rK 48 rfl (E3 c8) (qR 4 rfl (rQ rfl (pf_ (.bool k) e0 rfl (eqv c9 rfl)) (qR 1 rfl (rK 54 rfl (E3 d0) (qR 3 rfl (rQ rfl (pf_ (.bool i) e0 rfl (eqv d1 rfl)) (qR 1 rfl (rK 59 rfl (E3 d2) (qR 3 rfl ?_)))))))))))))
     refine Rn QSn (Lx (S2.2 rfl) (dU (D1 0 15032385536 35 rfl (Rn (qS rfl (qS rfl (qS rfl QSn))) (Lx (S2.2 rfl) (dU (D1 1030792151040 0 40 rfl (rQ rfl (pf_ (.bool f) e0 rfl (eqv d3 rfl)) (qR 1 rfl (rK 66 rfl (E3 d4) (qR 2 rfl (Rn QSn (Lx (S2.2 rfl) ?_)))))))))))))
     exact dU (D1 2199023255552 0 42 rfl (rQ rfl (pf_ (.bool e) e0 rfl (eqv i1 rfl)) (Rn QSn (Ly wn (a_ (.bool e) e0) (dU (Dw 0 0 (Rn QSn (jr () ((a.k27).fc)))))))))
   ·have d5:=J1 D
    have d6:¬ s=true:=fun h=>Y4 (d5.trans h)
    rw [K0 d6] at y
    have d7:=J1 y
    have d8:¬ r=true:=fun h=>Y4 (d7.trans h)
    rw [K0 d8] at t
    have d9:=J1 t
    have e1:¬ o=true:=fun h=>Y4 (d9.trans h)
    rw [K0 e1] at p
    have e2:=J1 p
    have e3:¬ k=true:=fun h=>Y4 (e2.trans h)
    rw [K0 e3] at j
    have e4:=J1 j
    have e5:¬ i=true:=fun h=>Y4 (e4.trans h)
    rw [K0 e5] at b
    have e6:=J1 b
    have e7:¬ f=true:=fun h=>Y4 (e6.trans h)
    rw [K0 e7] at d
    have i2:=J1 d
    refine dS [34,35,40,42] 4 A1 ?_
    replace a:=a.drew
    refine D1 17179869183 0 34 rfl (qR 3 rfl (rK 31 rfl (dT x) (qR 2 rfl (rQ rfl (pt_ (.bool u) e0 rfl (eqv B e0)) (qR 1 rfl (rK 35 rfl (E3 A) (qR 1 rfl (rQ rfl (pf_ (.bool s) e0 rfl (eqv d5 rfl)) (qR 1 rfl (rK 38 rfl (E3 d6) (qR 3 rfl (rQ rfl (pf_ (.bool r) e0 rfl (eqv d7 rfl)) (qR 1 rfl ?_)))))))))))))
    refine rK 43 rfl (E3 d8) (qR 3 rfl (rQ rfl (pf_ (.bool o) e0 rfl (eqv d9 rfl)) (qR 1 rfl (rK 48 rfl (E3 e1) (qR 4 rfl (rQ rfl (pf_ (.bool k) e0 rfl (eqv e2 rfl)) (qR 1 rfl (rK 54 rfl (E3 e3) (qR 3 rfl (rQ rfl (pf_ (.bool i) e0 rfl (eqv e4 rfl)) (qR 1 rfl (rK 59 rfl (E3 e5) (qR 3 rfl ?_)))))))))))))
    refine Rn QSn (Lx (S2.2 rfl) (dU (D1 0 15032385536 35 rfl (Rn (qS rfl (qS rfl (qS rfl QSn))) (Lx (S2.2 rfl) (dU (D1 1030792151040 0 40 rfl (rQ rfl (pf_ (.bool f) e0 rfl (eqv e6 rfl)) (qR 1 rfl (rK 66 rfl (E3 e7) (qR 2 rfl (Rn QSn (Lx (S2.2 rfl) ?_)))))))))))))
    exact dU (D1 2199023255552 0 42 rfl (rQ rfl (pf_ (.bool e) e0 rfl (eqv i2 rfl)) (Rn QSn (Ly wn (a_ (.bool e) e0) (dU (Dw 0 0 (Rn QSn (jr () ((a.k27).fc)))))))))
  ·have e8:=J1 L
   have e9:¬ u=true:=fun h=>Y4 (e8.trans h)
   rw [K0 e9] at D
   have f0:=J1 D
   have f1:¬ s=true:=fun h=>Y4 (f0.trans h)
   rw [K0 f1] at y
   have f2:=J1 y
   have f3:¬ r=true:=fun h=>Y4 (f2.trans h)
   rw [K0 f3] at t
   have f4:=J1 t
   have f5:¬ o=true:=fun h=>Y4 (f4.trans h)
   rw [K0 f5] at p
   have f6:=J1 p
   have f7:¬ k=true:=fun h=>Y4 (f6.trans h)
   rw [K0 f7] at j
   have f8:=J1 j
   have f9:¬ i=true:=fun h=>Y4 (f8.trans h)
   rw [K0 f9] at b
   have g0:=J1 b
   have g1:¬ f=true:=fun h=>Y4 (g0.trans h)
   rw [K0 g1] at d
   have i3:=J1 d
   refine dS [34,35,40,42] 4 A1 ?_
   replace a:=a.drew
   refine D1 17179869183 0 34 rfl (qR 3 rfl (rK 31 rfl (dF x) (qR 2 rfl (rQ rfl (pf_ (.bool u) e0 rfl (eqv e8 rfl)) (qR 1 rfl (rK 35 rfl (E3 e9) (qR 1 rfl (rQ rfl (pf_ (.bool s) e0 rfl (eqv f0 rfl)) (qR 1 rfl (rK 38 rfl (E3 f1) (qR 3 rfl (rQ rfl (pf_ (.bool r) e0 rfl (eqv f2 rfl)) (qR 1 rfl ?_)))))))))))))
   refine rK 43 rfl (E3 f3) (qR 3 rfl (rQ rfl (pf_ (.bool o) e0 rfl (eqv f4 rfl)) (qR 1 rfl (rK 48 rfl (E3 f5) (qR 4 rfl (rQ rfl (pf_ (.bool k) e0 rfl (eqv f6 rfl)) (qR 1 rfl (rK 54 rfl (E3 f7) (qR 3 rfl (rQ rfl (pf_ (.bool i) e0 rfl (eqv f8 rfl)) (qR 1 rfl (rK 59 rfl (E3 f9) (qR 3 rfl ?_)))))))))))))
   refine Rn QSn (Lx (S2.2 rfl) (dU (D1 0 15032385536 35 rfl (Rn (qS rfl (qS rfl (qS rfl QSn))) (Lx (S2.2 rfl) (dU (D1 1030792151040 0 40 rfl (rQ rfl (pf_ (.bool f) e0 rfl (eqv g0 rfl)) (qR 1 rfl (rK 66 rfl (E3 g1) (qR 2 rfl (Rn QSn (Lx (S2.2 rfl) ?_)))))))))))))
   exact dU (D1 2199023255552 0 42 rfl (rQ rfl (pf_ (.bool e) e0 rfl (eqv i3 rfl)) (Rn QSn (Ly wn (a_ (.bool e) e0) (dU (Dw 0 0 (Rn QSn (jr () ((a.k27).fc)))))))))
 rintro _ g w a
 exact vx
instance:CL prog 14 (type_of% @ni):=⟨@ni⟩
theorem mi {S:LI} {T U K:Int} {V:Hdr} {out:Bool} (c:m_la S T U K=some out) (a7:out=true) (a8:imm Ow V.v S∈ax) (l:globF∈ax) (a:St w0 ax rs w):
  Calls prog 3 #[V.v,iV T,iV U,iV K] w (rv w0 ax rs (.bool out)):=by
 refine en func3 rfl ntmps3 fun Q a9=>bE c fun f1 b0 c=>q 9 rfl (cZ (w_a b0 a) fun w a=>bE c fun f2 b1 c=>q 1 rfl (cZ (w_a b1 a) fun w a=>bE c fun b b2 c=>cR_ (gj b2 a8 l a) fun o d k w a=>yb (rAl a Yu) fun t w a=>sB rfl a J7 fun w a=>q 12 rfl ?_))
 refine jC (Int×Int×LI×LI×LI×Hdr×Hdr×Hdr) [9] (fun (e,f,u,x,z,h,i,j)=>[]) (fun (e,f,u,x,z,h,i,j) w=>St w0 ax (row 3 I1 h.v u::row 3 I1 i.v x::row 30 Ow j.v z::box t 26 [iV e,iV f,h.v,i.v,j.v]::rs) w∧m_k7 e f u x z=some out) rfl ?_ ?_
 ·rintro ⟨e,f,u,x,z,h,i,j⟩ g w ⟨a,c⟩
  refine q 4 rfl (y (W1 [iV e,iV f,h.v,i.v,j.v] J7 e0 a R3) (bE c fun W b3 c=>?_))
  replace a:=(a.fz.fz).fz
  refine yC (C9 dw (a1 e0)) (Ef b3 F2 F1 F0 (F_3 l) a) ?_
  rintro _ w ⟨b4,b5,b6,f3,rfl,a⟩
  refine ⟨_,rfl,?_⟩
  refine nf (q 3 rfl (yb (rAl a th) fun f4 w a=>sB rfl a P6 fun w a=>q 5 rfl (y (W1 [iV e,iV f,h.v,i.v,j.v] J7 e0 a R5) (bE c fun m b7 c=>cR_ (Ji b7 F2 F1 F0 (F_3 l) a) fun A B C w a=>q 3 rfl (yb (rAl a th) fun f5 w a=>sB rfl a P6 ?_)))))
  refine fun w a=>q 5 rfl (y (W1 [iV e,iV f,h.v,i.v,j.v] J7 e0 a R9) (bE c fun f6 b8 c=>cO (Ii b8 F2 F1 F0 (F_3 l) a) fun f7 w a=>q 11 rfl (y (W1 [iV e,iV f,h.v,i.v,j.v] J7 e0 a R9) (bE c fun f8 b9 c=>cO (Hi b9 F3 F2 F1 (F_4 l) a) fun f9 w a=>q 10 rfl ?_))))
  replace a:=(((((((((((a.k1i).fz).k1i).fz).k2s).ffz).k10).fz).k10).fz).k10).fz
  refine bE c fun c0 p c=>bE c fun c1 L c=>bE c fun c2 N c=>bE c fun c3 r c=>bE c fun c4 n c=>bE c fun O s c=>?_
  refine jN Unit [] (fun _=>[(8,.bool O)]) (fun _=>St w0 ax rs) rfl ?_ ?_
  ·have c5:=(J1 c).trans a7
   obtain ⟨X,s⟩:=chT s c5
   obtain ⟨Z,n⟩:=chT n X
   obtain ⟨a0,r⟩:=chT r Z
   obtain ⟨a2,N⟩:=chT N a0
   obtain ⟨a3,L⟩:=chT L a2
   obtain ⟨c6,p⟩:=chT p a3
   refine bE p fun g0 c7 p=>?_
   have c8:=J1 p
   have c9:=J1 L
   have d0:=J1 N
   refine bE r fun g1 d1 r=>?_
   have d2:=J1 r
   refine bE n fun g2 d3 n=>bE n fun g3 d4 n=>?_
   have d5:=J1 n
   refine bE s fun g4 d6 s=>?_
   have d7:=J1 s
   refine dS [6,21,26,29,33,35] 6 A1 ?_
   replace a:=a.drew
   refine D1 63 0 6 rfl (qR 4 rfl (rK 104 rfl (dT c6) (rQ rfl (W1 [iV W.1,iV W.2.1,b4.v,b5.v,b6.v] P6 e0 a R1) (rQ rfl (W1 [iV m.1,iV m.2.1,A.v,B.v,C.v] P6 e0 a R0) (Rn QSn (kZ (wi c7 F5 F4 F3 F2 F1 F0 a) fun w a=>dU (D1 2097024 0 21 rfl (rQ rfl (pt_ (.bool c0) e0 rfl (eqv c8 e0)) (qR 1 rfl (rK 109 rfl a3 (qR 3 rfl (rQ rfl (pt_ (.bool c1) e0 rfl (eqv c9 e0)) ?_))))))))))))
   refine qR 1 rfl (rK 114 rfl a2 (qR 2 rfl (rQ rfl (Pc I0 e0 e0) (rQ rfl (pt_ (.bool c2) e0 rfl (eqv d0 e0)) (qR 1 rfl (rK 119 rfl a0 (qR 2 rfl (Rn QSn (kZ (Cf d1 F7 F6 a) fun w a=>dU (D1 465567744 0 26 rfl (rQ rfl (pt_ (.bool c3) e0 rfl (eqv d2 e0)) (qR 1 rfl ?_))))))))))))
   refine rK 124 rfl Z (rQ rfl (W1 [iV e,iV f,h.v,i.v,j.v] J7 e0 a R2) (rQ rfl (W1 [iV m.1,iV m.2.1,A.v,B.v,C.v] P6 e0 a R0) (rQ rfl (W1 [iV e,iV f,h.v,i.v,j.v] J7 e0 a R2) (rQ rfl (W1 [iV m.1,iV m.2.1,A.v,B.v,C.v] P6 e0 a R0) (Rn QSn (kZ (tf d3 F10 F9 F8 F2 F1 F0 (qm l) a) fun w a=>dU (D1 0 402653184 29 rfl (Rn (sY rfl (W1 [iV e,iV f,h.v,i.v,j.v] J7 e0 a R2) (sY rfl (W1 [iV m.1,iV m.2.1,A.v,B.v,C.v] P6 e0 a R0) QSn)) (kZ (oi d4 F10 F9 F8 F2 F1 F0 (qm l) a) fun w a=>dU (D1 7516192768 0 33 rfl (rQ rfl (Pc I0 e0 e0) ?_)))))))))))
   exact rQ rfl (pt_ (.bool c4) e0 rfl (eqv d5 e0)) (qR 1 rfl (rK 133 rfl X (Rn QSn (kZ (ni d6 (qm l) a) fun w a=>dU (D1 17179869184 0 35 rfl (rQ rfl (pt_ (.bool O) e0 rfl (eqv d7 e0)) (Rn QSn (Ly wn (a_ (.bool O) e0) (dU (Dw 0 0 (Rn QSn (jr () ((a.k1b).fc)))))))))))))
  rintro _ g w a
  refine q 2 rfl ?_
  cases c
  exact za a9 results3 ⟨rfl,a⟩
 refine cI c (fun d8 c=>?_) fun d8 c=>?_
 ·refine q 2 rfl (bE c fun D d9 c=>cZ (w_a d9 a) fun w a=>bE c fun E e1 c=>q 2 rfl (cZ (w_a e1 a) fun w a=>bE c fun g5 e2 c=>q 2 rfl (cZ (w_a e2 a) fun w a=>bE c fun g6 e3 c=>q 2 rfl (yh (rMk a V0 e0 e3) fun F w a=>y (Y9 (us:=[iV (wa .i64 16 D),iV (wa .i64 16 E),F.v,hnil.v,hnil.v]) [(0,iV (wa .i64 16 D)),(1,iV (wa .i64 16 E)),(2,F.v)] cv (bp3 e0 e0 e0) rfl) ?_))))
  replace a:=a.k10
  refine yt (I3 (dx:=[iV (wa .i64 16 D),iV (wa .i64 16 E),F.v,hnil.v,hnil.v]) (us:=[iV (wa .i64 16 D),iV (wa .i64 16 E),F.v,hnil.v,hnil.v]) a J7 e0 e0 rfl rfl (J3 rfl) rfl) fun w a=>q 1 rfl ?_
  replace a:=(a.rowNh 3 I1).rowNh 30 Ow
  exact jx (_,_,_,_,_,_,_,_) ⟨(a.k2t),c⟩
 ·refine q 3 rfl (y (lb_ d.v L1 e0 a R0) (y (O2 V0 e0 a rO2) (q 2 rfl ?_)))
  refine jW 4 [3,9] [(51,.bool ((decide ((0:Int) < (b.2.2.2.1.length:Int))) && (decide ((wrc K 3)=0))))] (St w0 ax (row 3 I1 o.v b.2.2.1::row 3 I1 d.v b.2.2.2.1::row 30 Ow k.v b.2.2.2.2::box t 26 [iV b.1,iV b.2.1,o.v,d.v,k.v]::rs)) rfl (fun a4=>?_) ?_
  ·refine gB 47 rfl (fun R=>?_) fun R=>?_
   ·exact q 4 rfl (a4 _ _ (a.k2a) (O1 (C1 Value.bool (B6 R)) rfl))
   ·exact q 4 rfl (a4 _ _ (a.k2a) (O1 (C1 Value.bool (C6 R)) rfl))
  intro g w a
  refine q 3 rfl ?_
  refine jC (LI×LI) [9] (fun (G,H)=>[]) (fun (G,H) w=>St w0 ax (row 3 I1 o.v b.2.2.1::row 3 I1 d.v G::row 30 Ow k.v H::box t 26 [iV b.1,iV b.2.1,o.v,d.v,k.v]::rs) w∧m_k8 b G H=some out) rfl ?_ ?_
  ·rintro ⟨G,H⟩ g w ⟨a,c⟩
   exact jx (_,_,_,_,_,_,_,_) ⟨a,c⟩
  refine cJ c (fun e4 c=>?_) fun e4 c=>?_
  ·refine bE c fun g7 e5 c=>bE c fun e6 I c=>bE c fun e7 e8 c=>bE c fun g8 a5 c=>dS [6,10,14] 3 A1 ?_
   replace a:=a.drew
   refine D1 575 0 6 rfl (qR 1 rfl (rQ rfl (lb_ d.v L1 e0 a R3) (qR 2 rfl (rQ rfl (lb_ d.v L1 e0 a R3) (rQ rfl (O2 V0 e0 a rO1) (qR 1 rfl (Rn QSn (kZ (w_a e5 a) fun w a=>dU (D1 384 515 10 rfl (rQ rfl (yIa V0 e0 e0 a rO1 I) (rQ rfl (yI O_3 e0 a rO1 I) (Rn (qS rfl (sY rfl (lb_ d.v L1 e0 a R3) (qS rfl QSn))) ?_))))))))))))
   refine kZ (w_a e8 a) fun w a=>dU (D0 14336 387 14 rfl (qR 2 rfl (rQ rfl (yIs V0 e0 e0 a rO1 a5) (Rn (qS rfl (sY rfl (lb_ d.v L1 e0 a R3) (sY rfl (yIa V0 e0 e0 a rO1 I) (sY rfl (yI O_3 e0 a rO1 I) QSn)))) ?_))))
   replace a:=a.k10
   exact LT wn (S3 (cs:=[iV (wa .i64 e6 (ws .i64 e7 2))]) a O_3 rfl e0 e0 rfl mkI a5) fun w a=>Dw 0 0 (Rn QSn (qx 0 rfl (jx (_,_) ⟨(a.k2u),c⟩)))
  ·refine q 3 rfl (y (lb_ k.v O9 e0 a R3) (y (O2 X8 e0 a rO2) (q 4 rfl ?_)))
   refine jC LI [9] (fun J=>[]) (fun J w=>St w0 ax (row 3 I1 o.v b.2.2.1::row 3 I1 d.v b.2.2.2.1::row 30 Ow k.v J::box t 26 [iV b.1,iV b.2.1,o.v,d.v,k.v]::rs) w∧m_k9 b J=some out) rfl ?_ ?_
   ·rintro J g w ⟨a,c⟩
    exact jx (_,_) ⟨a,c⟩
   refine cI c (fun e9 c=>?_) fun e9 c=>?_
   ·refine bE c fun g9 f0 c=>bE c fun h0 a6 c=>dS [6,8] 2 A1 ?_
    replace a:=a.drew
    refine D1 63 0 6 rfl (qR 1 rfl (rQ rfl (lb_ k.v O9 e0 a R3) (qR 2 rfl (rQ rfl (lb_ k.v O9 e0 a R3) (rQ rfl (O2 X8 e0 a rO2) (Rn QSn (kZ (w_a f0 a) fun w a=>dU (D0 128 3 8 rfl (rQ rfl (yIs X8 e0 e0 a rO2 a6) (Rn (qS rfl (sY rfl (lb_ k.v O9 e0 a R3) QSn)) ?_))))))))))
    replace a:=a.k16
    exact LT wn (S3 (cs:=[.int .u64 9218868437227405312]) a Dc rfl e0 rfl rfl mkI a6) fun w a=>Dw 0 0 (Rn QSn (qx 0 rfl (jx _ ⟨(a.k2v),c⟩)))
   ·exact q 1 rfl (jx _ ⟨a,c⟩)
instance:CL prog 3 (type_of% @mi):=⟨@mi⟩
end Go.Proofs.YthekfonboblioabGreatDoor
