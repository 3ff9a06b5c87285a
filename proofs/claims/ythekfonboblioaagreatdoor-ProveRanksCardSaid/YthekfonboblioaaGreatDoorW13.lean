/- Walks: each function computes its model, printed. -/
import Derived.Test.YthekfonboblioaaGreatDoorW12
namespace Go.Proofs.YthekfonboblioaaGreatDoor
open Go Sx M Go.Proofs.Tryz
set_option maxRecDepth 100000
set_option maxHeartbeats 40000000
set_option linter.unusedVariables false
attribute [local irreducible] wpList Code.wp Calls DR QR QS LA LS St row box fam imm rowS loop
variable {w0:World} {ros:List Fact} {rs:List Res} {w:World}
theorem qh {e f:List (Bool×LI)} {h i:Hdr} {out:Bool} (c:m_ko e f=some out) (j:imm (rP rB (rS (rI .u32))) h.v e∈ros) (k:imm (rP rB (rS (rI .u32))) i.v f∈ros) (a:St w0 ros rs w):
  Calls prog 64 #[h.v,i.v] w (rv w0 ros rs (.bool out)):=by
 refine en func64 rfl ntmps64 fun Q b=>?_
 refine z 2 3 ?_
 refine cIn c (fun n c=>?_) fun n c=>?_
 ·refine q 9 rfl (bE c fun o p c=>?_)
  refine lp p [0,1] (fun d=>[(5,iV d)]) (fun d=>St w0 ros rs) (fun | .inl ()=>(.exit 0,[],St w0 ros rs) | .inr ()=>(.ret,[(4,.bool false)],St w0 ros rs)) rfl a rfl ?_ ?_
  ·clear a
   intro g w a
   rcases o with ⟨⟩ | ⟨⟩
   ·refine q 8 rfl ?_
    cases c
    exact za b results64 ⟨rfl,a⟩
   ·refine q 2 rfl ?_
    cases c
    exact za b results64 ⟨rfl,a⟩
  rintro d g w B a c
  refine z 1 3 ?_
  refine cI c (fun r c=>?_) fun r c=>?_
  ·refine q 5 rfl (bE c fun s l c=>bE c fun t m c=>bE c fun C u c=>dS [8] 1 E1 ?_)
   replace a:=a.drew
   refine D1 255 0 8 rfl (qR 2 rfl (rQ rfl (yIa Q2 e0 e0 a (rdI j) l) ?_))
   obtain ⟨D,E,a⟩:=iLd a j l
   obtain ⟨F,G,rfl,a⟩:=a.eltP
   obtain ⟨rfl,a⟩:=a.eltB
   obtain ⟨x,rfl,a⟩:=a.eltS
   refine rQ rfl (D6 (cs:=[.bool s.1,x.v]) P0 rfl e0 a F1) (qR 2 rfl (rQ rfl (yIa Q2 e0 e0 a (rdI (F_2 k)) m) ?_))
   obtain ⟨H,I,a⟩:=iLd a (F_2 k) m
   obtain ⟨J,K,rfl,a⟩:=a.eltP
   obtain ⟨rfl,a⟩:=a.eltB
   obtain ⟨y,rfl,a⟩:=a.eltS
   refine rQ rfl (D6 (cs:=[.bool t.1,y.v]) P0 rfl e0 a F1) (Rn QSn (kZ (Ad u F2 F0 a) fun w a=>dU ?_))
   refine z 1 1 ?_
   refine cJn c (fun A c=>?_) fun A c=>?_
   ·refine q 8 rfl ?_
    cases c
    exact lo (a.fc)
   ·refine q 8 rfl ?_
    cases c
    exact xo (a.fc)
  ·refine q 2 rfl ?_
   cases c
   exact xo a
 ·refine q 7 rfl ?_
  cases c
  exact za b results64 ⟨rfl,a⟩
instance:CL prog 64 (type_of% @qh):=⟨@qh⟩
theorem Dl {e f:List (List (Bool×LI))} {h i:Hdr} {out:Bool} (c:m_kq e f=some out) (j:imm (rS (rP rB (rS (rI .u32)))) h.v e∈ros) (k:imm (rS (rP rB (rS (rI .u32)))) i.v f∈ros) (a:St w0 ros rs w):
  Calls prog 27 #[h.v,i.v] w (rv w0 ros rs (.bool out)):=by
 refine en func27 rfl ntmps27 fun Q b=>?_
 refine z 2 3 ?_
 refine cIn c (fun n c=>?_) fun n c=>?_
 ·refine q 9 rfl (bE c fun o p c=>?_)
  refine lp p [0,1] (fun d=>[(5,iV d)]) (fun d=>St w0 ros rs) (fun | .inl ()=>(.exit 0,[],St w0 ros rs) | .inr ()=>(.ret,[(4,.bool false)],St w0 ros rs)) rfl a rfl ?_ ?_
  ·clear a
   intro g w a
   rcases o with ⟨⟩ | ⟨⟩
   ·refine q 8 rfl ?_
    cases c
    exact za b results27 ⟨rfl,a⟩
   ·refine q 2 rfl ?_
    cases c
    exact za b results27 ⟨rfl,a⟩
  rintro d g w u a c
  refine z 1 3 ?_
  refine cI c (fun r c=>?_) fun r c=>?_
  ·refine q 5 rfl (bE c fun x l c=>bE c fun y m c=>bE c fun A s c=>dS [8] 1 E1 ?_)
   replace a:=a.drew
   refine D1 255 0 8 rfl (qR 2 rfl (rQ rfl (yIa P5 e0 e0 a (rdI j) l) ?_))
   obtain ⟨B,a⟩:=iLs a j l
   refine rQ rfl (yCt Q4 e0 a F1 rfl) (qR 2 rfl (rQ rfl (yIa P5 e0 e0 a (rdI (F_2 k)) m) ?_))
   obtain ⟨C,a⟩:=iLs a (F_2 k) m
   refine rQ rfl (yCt Q4 e0 a F1 rfl) (Rn QSn (kZ (qh s F2 F0 a) fun w a=>dU ?_))
   refine z 1 1 ?_
   refine cJn c (fun t c=>?_) fun t c=>?_
   ·refine q 8 rfl ?_
    cases c
    exact lo (a.fc)
   ·refine q 8 rfl ?_
    cases c
    exact xo (a.fc)
  ·refine q 2 rfl ?_
   cases c
   exact xo a
 ·refine q 7 rfl ?_
  cases c
  exact za b results27 ⟨rfl,a⟩
instance:CL prog 27 (type_of% @Dl):=⟨@Dl⟩
theorem Cl {f h:Int} {u x:LI} {y:List (List (Bool×LI))} {i j:Int} {A B:LI} {C:List (List (Bool×LI))} {k l m n o p:Hdr} {out:Bool} (c:m_kr f h u x y i j A B C=some out) (O:imm I1 k.v u∈ros) (R:imm I1 l.v x∈ros) (S:imm (rS (rP rB (rS (rI .u32)))) m.v y∈ros) (T:imm I1 n.v A∈ros) (U:imm I1 o.v B∈ros) (V:imm (rS (rP rB (rS (rI .u32)))) p.v C∈ros) (a:St w0 ros rs w):
  Calls prog 7 #[.agg #[iV f,iV h,k.v,l.v,m.v],.agg #[iV i,iV j,n.v,o.v,p.v]] w (rv w0 ros rs (.bool out)):=by
 refine en func7 rfl ntmps7 fun Q W=>?_
 refine z 4 2 ?_;intro r w a s w a
 refine jW 6 [2,3] [(16,.bool ((decide (f=i)) && (decide (h=j))))] (St w0 ros (box r 30 [iV f,iV h,k.v,l.v,m.v]::box s 30 [iV i,iV j,n.v,o.v,p.v]::rs)) rfl (fun D=>?_) ?_
 ·refine gB 10 rfl (fun t=>?_) fun t=>?_
  ·refine z 2 2 ?_
   exact D _ _ (a.k10) (J1 (Z0 Value.bool (W5 t)) rfl)
  ·exact q 6 rfl (D _ _ (a.k10) (J1 (Z0 Value.bool (X5 t)) rfl))
 intro g w a
 refine bE c fun H b c=>q 1 rfl ?_
 refine jW 6 [2,3] [(23,.bool H)] (St w0 ros (box r 30 [iV f,iV h,k.v,l.v,m.v]::box s 30 [iV i,iV j,n.v,o.v,p.v]::rs)) rfl (fun E=>?_) ?_
 ·refine gJ 17 b rfl (fun I b=>?_) fun I b=>?_
  ·refine z 2 0 ?_
   refine bE b fun X Z b=>?_
   refine z 1 1 ?_;intro w a
   cases b
   exact E _ _ a rfl
  ·refine q 6 rfl ?_
   cases b
   exact E _ _ a rfl
 intro g w a
 refine bE c fun J d c=>q 1 rfl ?_
 refine jW 6 [2,3] [(30,.bool J)] (St w0 ros (box r 30 [iV f,iV h,k.v,l.v,m.v]::box s 30 [iV i,iV j,n.v,o.v,p.v]::rs)) rfl (fun F=>?_) ?_
 ·refine gJ 24 d rfl (fun K d=>?_) fun K d=>?_
  ·refine z 2 0 ?_
   refine bE d fun a0 a1 d=>?_
   refine z 1 1 ?_;intro w a
   cases d
   exact F _ _ a rfl
  ·refine q 6 rfl ?_
   cases d
   exact F _ _ a rfl
 intro g w a
 refine bE c fun L e c=>q 1 rfl ?_
 refine jW 6 [] [(37,.bool L)] (St w0 ros rs) rfl (fun G=>?_) ?_
 ·refine gJ 31 e rfl (fun N e=>?_) fun N e=>?_
  ·refine z 2 0 ?_
   refine bE e fun a2 a3 e=>?_
   refine z 1 1 ?_;intro w a
   cases e
   exact G _ _ (a.k19) rfl
  ·refine q 6 rfl ?_
   cases e
   exact G _ _ (a.k19) rfl
 intro g w a
 exact vx
instance:CL prog 7 (type_of% @Cl):=⟨@Cl⟩
theorem Bl {b d:Int} {f g h:LI} {i j k:Hdr} {out:(List (Bool×LI))×Bool×Int} (c:m_ks b d f g h=some out) (o:imm I1 i.v f∈ros) (p:imm I1 j.v g∈ros) (q:imm (rI .u64) k.v h∈ros) (r:globF∈ros) (a:St w0 ros rs w):
  Calls prog 29 #[.agg #[iV b,iV d,i.v,j.v,k.v]] w (fun e w=>∃ (l:Hdr),e=.returned (.tuple #[l.v,.bool out.2.1,iV out.2.2])∧St w0 (imm (rP rB (rS (rI .u32))) l.v out.1::ros) rs w):=by
 refine en func29 rfl ntmps29 fun Q m=>?_
 refine v 0 ?_
 refine fun _ _ _ _ _ _ _ _ w a=>⟨fun _ c=>?_,fun _ c=>?_⟩
 ·refine bE c fun s t c=>?_
  replace a:=a.ffz
  refine z 1 0 ?_;intro u x w a
  replace a:=a.ffz
  refine v 0 ?_
  refine ⟨fun _ c=>?_,fun _ _ _ n c=>?_⟩
  ·cases c
   replace a:=a.immNh (rP rB (rS (rI .u32)))
   exact m _ _ _ (J8 results29 ⟨rfl,rfl⟩ ⟨rfl,rfl⟩ ⟨rfl,rfl⟩ ⟨_,rfl,((a.k14).facts (Q0 F0 (N0 (N0 (N0 A1)))))⟩)
  ·obtain ⟨y,a⟩:=iLs a F0 n
   exact vx
 ·cases c
  replace a:=a.immNh (rP rB (rS (rI .u32)))
  exact m _ _ _ (J8 results29 ⟨rfl,rfl⟩ ⟨rfl,rfl⟩ ⟨rfl,rfl⟩ ⟨_,rfl,(a.k1b)⟩)
instance:CL prog 29 (type_of% @Bl):=⟨@Bl⟩
theorem Al {d:LI} {e f:Int} {h:Hdr} {out:Bool} (c:m_ku d e f=some out) (k:imm I1 h.v d∈ros) (a:St w0 ros rs w):
  Calls prog 68 #[h.v,iV e,iV f] w (rv w0 ros rs (.bool out)):=by
 refine en func68 rfl ntmps68 fun Q l=>?_
 refine v 0 ?_
 refine ⟨fun _ c=>?_,vt⟩
 refine bE c fun i j c=>?_
 refine lp j [0,2,13,14] (fun b=>[(15,iV b)]) (fun b=>St w0 ros rs) (fun | .inl ()=>(.exit 0,[],St w0 ros rs) | .inr ()=>(.ret,[(6,.bool false)],St w0 ros rs)) rfl a rfl ?_ ?_
 ·clear a
  intro g w a
  rcases i with ⟨⟩ | ⟨⟩
  ·exact vx
  ·exact vx
 rintro b g w m a c
 exact vx
instance:CL prog 68 (type_of% @Al):=⟨@Al⟩
theorem ph {b:L2} {d:Int} {e:Hdr} {out:Int} (c:m_kv b d=some out) (f:imm S1 e.v b∈ros) (a:St w0 ros rs w):
  Calls prog 170 #[e.v,iV d] w (rv w0 ros rs (iV out)):=by
 exact en func170 rfl ntmps170 fun Q g=>vx
instance:CL prog 170 (type_of% @ph):=⟨@ph⟩
theorem oh {e:L2} {f:Int} {g:Hdr} {out:Int×Int} (c:m_kw e f=some out) (b:imm S1 g.v e∈ros) (a:St w0 ros rs w):
  Calls prog 129 #[g.v,iV f] w (rv w0 ros rs (.tuple #[iV out.1,iV out.2])):=by
 refine en func129 rfl ntmps129 fun Q d=>bE c fun m h c=>q 10 rfl (cZ (ph h b a) fun w a=>q 10 rfl ?_)
 refine cIn c (fun i c=>?_) fun i c=>?_
 ·refine q 6 rfl (bE c fun n j c=>cT_ (Xe j b a) fun o p w a=>bE c fun r k c=>q 1 rfl (cT_ (cf k a) fun s t w a=>q 11 rfl (y (Y2 V0 e0 a rO2) (q 1 rfl (y (Y2 M8 e0 a (rdI b)) (q 3 rfl (cI c (fun l c=>?_) fun l c=>?_)))))))
  ·refine q 8 rfl ?_
   cases c
   exact zb d results129 ⟨rfl,(a.k1b)⟩
  ·refine q 10 rfl ?_
   cases c
   exact zb d results129 ⟨rfl,(a.k1b)⟩
 ·refine q 9 rfl ?_
  cases c
  exact zb d results129 ⟨rfl,a⟩
instance:CL prog 129 (type_of% @oh):=⟨@oh⟩
theorem yl {B:List (List (Bool×LI))} {d b:Int} {C D:LI} {E:List (List (Bool×LI))} {F e f h:Hdr} {out:Bool} (c:m_kz B d b C D E=some out) (G:imm (rS (rP rB (rS (rI .u32)))) F.v B∈ros) (a0:imm I1 e.v C∈ros) (a1:imm I1 f.v D∈ros) (a3:imm (rS (rP rB (rS (rI .u32)))) h.v E∈ros) (a:St w0 ros rs w):
  Calls prog 69 #[F.v,.agg #[iV d,iV b,e.v,f.v,h.v]] w (rv w0 ros rs (.bool out)):=by
 refine en func69 rfl ntmps69 fun Q O=>?_
 refine z 3 4 ?_;intro o w a
 refine bE c fun H R c=>?_
 replace a:=a.rowNh 23 S1
 refine lpN Hdr Hdr R [0,3,16,17] (fun (j,r) i=>[(5,i.v),(18,iV r)]) (fun (j,r) i=>St w0 ros (box o 30 [iV d,iV b,e.v,f.v,h.v]::row 23 S1 i.v j::rs)) (fun | H,s=>(.exit 0,[(5,s.v)],St w0 ros (box o 30 [iV d,iV b,e.v,f.v,h.v]::row 23 S1 s.v H::rs))) rfl _ (a.k10) rfl ?_ ?_
 ·clear a
  rintro s g w a
  refine z 1 0 ?_
  refine bE c fun I S c=>?_
  have J:=a
  replace a:=(a.k10).fz
  have k:=a.guest0
  replace a:=J
  clear J
  refine yC (W8 vD (a2 e0 e0)) (oh S F0 k) ?_
  clear k
  rintro _ w ⟨rfl,k⟩
  replace a:=a.back k
  clear k
  refine ⟨_,rfl,?_⟩
  refine nf (q 12 rfl ?_)
  refine jW 3 [] [(64,.bool ((decide (I.2=0)) && (!(decide (I.1=0)))))] (St w0 ros rs) rfl (fun K=>?_) ?_
  ·refine gB 61 rfl (fun t=>?_) fun t=>?_
   ·exact q 3 rfl (K _ _ (a.k19) (J1 (Z0 Value.bool (W5 t)) rfl))
   ·exact q 3 rfl (K _ _ (a.k19) (J1 (Z0 Value.bool (X5 t)) rfl))
  intro g w a
  refine q 4 rfl ?_
  cases c
  exact za O results69 ⟨rfl,a⟩
 rintro ⟨j,r⟩ i g w a4 a c
 refine q 6 rfl (cI c (fun T c=>?_) fun T c=>?_)
 ·refine z 4 4 ?_;intro a5 a6 c
  refine bE c fun u U c=>?_
  replace a:=a.rowNh 3 I1
  refine lpN Hdr Hdr U [0,3,5,7,16,17,18,23,24] (fun (x,y) p=>[(8,p.v),(25,iV y)]) (fun (x,y) p=>St w0 ros (box o 30 [iV d,iV b,e.v,f.v,h.v]::row 23 S1 i.v j::row 3 I1 p.v x::rs)) (fun | u,m=>(.exit 2,[(8,m.v)],St w0 ros (box o 30 [iV d,iV b,e.v,f.v,h.v]::row 23 S1 i.v j::row 3 I1 m.v u::rs))) rfl _ (a.k1d) rfl ?_ ?_
  ·clear a
   rintro m g w a
   refine q 5 rfl ?_
   replace a:=(a.k16).fz
   refine yh (rLt (n:=1) (l:=[u]) a M8 [m.v] (bp1 e0) rfl rfl (N1 (cs:=[m.v]) rfl (mkS F0) X1)) fun a7 w a=>?_
   refine z 1 8 ?_;intro a8 a9 c b0 w a
   cases c
   exact ln _ ((a.k1o).fc)
  rintro ⟨x,y⟩ p g w b1 a c
  refine q 6 rfl (cI c (fun V c=>?_) fun V c=>?_)
  ·refine z 2 4 ?_;intro b2 b3 c
   refine bE c fun b4 L c=>bE c fun W N c=>bE c fun A X c=>dS [9,13,14] 3 E1 ?_
   replace a:=a.drew
   refine D1 511 0 9 rfl (qR 2 rfl (rQ rfl (yIa P5 e0 e0 a (rdI G) L) ?_))
   obtain ⟨b5,a⟩:=iLs a G L
   refine rQ rfl (yCt Q4 e0 a F1 rfl) (qR 1 rfl (rQ rfl (yIa Q2 e0 e0 a (rdI F0) N) ?_))
   obtain ⟨b6,b7,a⟩:=iLd a F0 N
   obtain ⟨b8,b9,rfl,a⟩:=a.eltP
   obtain ⟨rfl,a⟩:=a.eltB
   obtain ⟨Z,rfl,a⟩:=a.eltS
   refine rQ rfl (D6 (cs:=[.bool W.1,Z.v]) P0 rfl e0 a F1) (qR 1 rfl (rQ rfl (lb_ (iV b) O_3 e0 a R0) (Rn QSn (kZ (Ye X F0 a) fun w a=>dU ?_))))
   refine z 3 4 ?_
   refine yh (rLt (n:=1) (l:=[A.1]) a V0 [iV A.1] (bp1 e0) rfl rfl (N1 (cs:=[iV A.1]) rfl mkI X1)) fun c0 w a=>?_
   refine z 1 8 ?_;intro c1 c2 c c3 w a
   cases c
   exact ln _ ((a.k1p).fc)
  ·refine q 2 rfl ?_
   cases c
   exact lx _ a
 ·refine q 2 rfl ?_
  cases c
  exact lx _ a
instance:CL prog 69 (type_of% @yl):=⟨@yl⟩
theorem m00 {j:List (List (Bool×LI))} {k:List (Bool×LI)} {l m:Hdr} {out:Bool} (c:m_k2 j k=some out) (A:imm (rS (rP rB (rS (rI .u32)))) l.v j∈ros) (n:imm (rP rB (rS (rI .u32))) m.v k∈ros) (a:St w0 ros rs w):
  Calls prog 70 #[l.v,m.v] w (rv w0 ros rs (.bool out)):=by
 refine en func70 rfl ntmps70 fun Q o=>?_
 refine z 1 4 ?_
 refine bE c fun B C c=>?_
 refine lp C [1,10,11] (fun e=>[(12,iV e)]) (fun e=>St w0 ros rs) (fun | .inl ()=>(.exit 0,[],St w0 ros rs) | .inr ()=>(.ret,[(4,.bool false)],St w0 ros rs)) rfl a rfl ?_ ?_
 ·clear a
  intro g w a
  rcases B with ⟨⟩ | ⟨⟩
  ·refine q 8 rfl ?_
   cases c
   exact za o results70 ⟨rfl,a⟩
  ·refine q 2 rfl ?_
   cases c
   exact za o results70 ⟨rfl,a⟩
 rintro e g w R a c
 refine q 6 rfl (cI c (fun D c=>?_) fun D c=>?_)
 ·refine z 1 0 ?_;intro E F c
  obtain ⟨G,a⟩:=iLs a A F
  refine y (yCt Q4 e0 a F1 rfl) ?_
  refine z 4 4 ?_;intro S T c U w a p w a w a
  obtain ⟨⟨r,s⟩,H,c⟩:=bs c
  refine lpN Hdr Hdr H [1,7,10,11,12,17,18] (fun (d,f,h) b=>[(19,iV h)]) (fun (d,f,h) b=>St w0 (imm (rI .u32) b.v f::imm (rP rB (rS (rI .u32))) G.v E::ros) (box p 62 [.bool d,b.v]::rs)) (fun | (r,s),i=>(.exit 2,[],St w0 (imm (rI .u32) i.v s::ros) (box p 62 [.bool r,i.v]::rs))) rfl _ (a.facts (Q0 F0 (Q0 F1 (N0 (N0 (N0 A1)))))) rfl ?_ ?_
  ·clear a
   rintro i g w a
   refine z 2 3 ?_;intro V W c w a
   refine cIn c (fun I c=>?_) fun I c=>?_
   ·refine q 7 rfl ?_
    cases c
    exact lo ((a.k14).fc)
   ·refine q 8 rfl ?_
    cases c
    exact xo ((a.k14).fc)
  rintro ⟨d,f,h⟩ b g w X a c
  refine q 6 rfl (cI c (fun J c=>?_) fun J c=>?_)
  ·refine z 1 0 ?_;intro t K c
   obtain ⟨Z,a0,a⟩:=iLd a F1 K
   obtain ⟨a1,a2,rfl,a⟩:=a.eltP
   obtain ⟨rfl,a⟩:=a.eltB
   obtain ⟨u,rfl,a⟩:=a.eltS
   refine y (D6 (cs:=[.bool t.1,u.v]) P0 rfl e0 a F1) ?_
   refine z 2 2 ?_;intro a3 w a w a
   refine bE c fun L x c=>bE c fun a4 N c=>bE c fun a5 a6 c=>dS [6,7,8] 3 E1 ?_
   replace a:=a.drew
   refine D1 63 0 6 rfl (rQ rfl (I2 [.bool d,b.v] P0 e0 a R1) (rQ rfl (I2 [.bool t.1,u.v] P0 e0 a R0) (qR 2 rfl (rQ rfl (yIa Q2 e0 e0 a (rdI (F_4 n)) x) ?_))))
   obtain ⟨a7,a8,a⟩:=iLd a (F_4 n) x
   obtain ⟨a9,b0,rfl,a⟩:=a.eltP
   obtain ⟨rfl,a⟩:=a.eltB
   obtain ⟨O,rfl,a⟩:=a.eltS
   refine rQ rfl (D6 (cs:=[.bool L.1,O.v]) P0 rfl e0 a F1) (Rn QSn (kO (df N F2 F0 a) fun b1 w a=>dU ?_))
   refine z 3 6 ?_;intro b2 w a w a
   cases c
   exact ln _ ((a.k11).facts (Q0 F0 (Q0 F7 (N0 (N0 (N0 (N0 (N0 (N0 (N0 (N0 A1)))))))))))
  ·refine q 2 rfl ?_
   cases c
   exact lx _ (a.facts (Q0 F0 (N0 (N0 A1))))
 ·refine q 2 rfl ?_
  cases c
  exact xo a
instance:CL prog 70 (type_of% @m00):=⟨@m00⟩
theorem nh {i j:Int} {B C D:LI} {d b:Int} {E F:LI} {G:List (List (Bool×LI))} {k l m e f h:Hdr} {out:Bool} (c:m_k4 i j B C D d b E F G=some out) (Z:imm I1 k.v B∈ros) (a0:imm I1 l.v C∈ros) (a1:imm (rI .u64) m.v D∈ros) (a2:imm I1 e.v E∈ros) (a3:imm I1 f.v F∈ros) (N:imm (rS (rP rB (rS (rI .u32)))) h.v G∈ros) (a4:globF∈ros) (a:St w0 ros rs w):
  Calls prog 32 #[.agg #[iV i,iV j,k.v,l.v,m.v],.agg #[iV d,iV b,e.v,f.v,h.v]] w (rv w0 ros rs (.bool out)):=by
 refine en func32 rfl ntmps32 fun Q a5=>?_
 refine z 4 15 ?_;intro t w a r w a u a6 c x s w a
 refine bE c fun H n c=>?_
 refine jW 5 [2,3,5] [(24,.bool H)] (St w0 ros (box t 26 [iV i,iV j,k.v,l.v,m.v]::box r 30 [iV d,iV b,e.v,f.v,h.v]::row 56 rH x.v s::fam 62 (rP rB (rS (rI .u32))) s u.1::rs)) rfl (fun I=>?_) ?_
 ·refine gIn 19 n rfl (fun O n=>?_) fun O n=>?_
  ·refine z 1 0 ?_
   refine bE n fun a7 a8 n=>?_
   refine z 1 2 ?_;intro w a
   cases n
   exact I _ _ (a.k1y) rfl
  ·refine q 5 rfl ?_
   cases n
   exact I _ _ (a.k1y) rfl
 intro g w a
 refine q 1 rfl ?_
 refine jW 4 [2,3,5] [(29,.bool (H || (decide ((2147483647:Int) < b))))] (St w0 ros (box t 26 [iV i,iV j,k.v,l.v,m.v]::box r 30 [iV d,iV b,e.v,f.v,h.v]::row 56 rH x.v s::fam 62 (rP rB (rS (rI .u32))) s u.1::rs)) rfl (fun J=>?_) ?_
 ·refine gB 25 rfl (fun y=>?_) fun y=>?_
  ·exact q 4 rfl (J _ _ a (J1 (Z0 Value.bool (orT y)) rfl))
  ·refine z 1 2 ?_
   exact J _ _ a (J1 (Z0 Value.bool (orF y)) rfl)
 intro g w a
 refine v 39 ?_
 refine ⟨vt,fun _ _ _ _ c w a=>?_⟩
 refine bE c fun R o c=>?_
 refine jW 9 [2,3,5] [(47,.bool R)] (St w0 ros (box t 26 [iV i,iV j,k.v,l.v,m.v]::box r 30 [iV d,iV b,e.v,f.v,h.v]::row 56 rH x.v s::fam 62 (rP rB (rS (rI .u32))) s u.1::rs)) rfl (fun K=>?_) ?_
 ·refine gJn 38 o rfl (fun S o=>?_) fun S o=>?_
  ·refine z 3 0 ?_
   refine bE o fun a9 b0 o=>?_
   refine z 1 2 ?_;intro w a
   cases o
   exact K _ _ a rfl
  ·refine q 9 rfl ?_
   cases o
   exact K _ _ a rfl
 intro g w a
 refine bE c fun T p c=>q 1 rfl ?_
 refine jW 5 [2,3,5] [(53,.bool T)] (St w0 (imm (rS (rP rB (rS (rI .u32)))) x.v u.1::ros) (box t 26 [iV i,iV j,k.v,l.v,m.v]::box r 30 [iV d,iV b,e.v,f.v,h.v]::rs)) rfl (fun L=>?_) ?_
 ·refine gJ 48 p rfl (fun U p=>?_) fun U p=>?_
  ·refine q 5 rfl ?_
   cases p
   replace a:=(a.k32).ffz
   exact L _ _ a rfl
  ·refine z 1 0 ?_
   refine bE p fun b1 b2 p=>?_
   replace a:=(a.k32).ffz
   refine z 1 2 ?_;intro w a
   cases p
   exact L _ _ a rfl
 intro g w a
 refine v 0 ?_
 refine ⟨vt,fun _ _=>⟨fun _ c=>?_,vt⟩⟩
 refine bE c fun V W c=>?_
 refine lp W [2,3,5,64,65] (fun A=>[(66,iV A)]) (fun A=>St w0 (imm (rS (rP rB (rS (rI .u32)))) x.v u.1::ros) (box t 26 [iV i,iV j,k.v,l.v,m.v]::box r 30 [iV d,iV b,e.v,f.v,h.v]::rs)) (fun | .inl ()=>(.exit 0,[],St w0 ros (box r 30 [iV d,iV b,e.v,f.v,h.v]::rs)) | .inr ()=>(.ret,[(4,.bool false)],St w0 ros rs)) rfl a rfl ?_ ?_
 ·clear a
  intro g w a
  rcases V with ⟨⟩ | ⟨⟩
  ·exact vx
  ·exact vx
 rintro A g w b3 a c
 refine v 0 ?_
 refine ⟨fun _ _ _ X c=>?_,vt⟩
 obtain ⟨b4,a⟩:=iLs a (mtF N) X
 exact vx
instance:CL prog 32 (type_of% @nh):=⟨@nh⟩
theorem tl {out:Bool} (c:m_k5=some out) (Z:globF∈ros) (a:St w0 ros rs w):
  Calls prog 8 #[] w (rv w0 ros rs (.bool out)):=by
 refine en func8 rfl ntmps8 fun Q i4=>?_
 refine z 2 6 ?_;intro G i5 c w a V i6 c w a
 refine yh (rLt (n:=3) (l:=[0,2,4]) a V0 [iV 0,iV 2,iV 4] (bp3 rfl rfl rfl) rfl rfl (N1 (cs:=[iV 0]) rfl mkI (N1 (cs:=[iV 2]) rfl mkI (N1 (cs:=[iV 4]) rfl mkI X1)))) fun g2 w a=>yh (rLt (n:=4) (l:=[0,1,0,1]) a V0 [iV 0,iV 1,iV 0,iV 1] (bp4 rfl rfl rfl rfl) rfl rfl (N1 (cs:=[iV 0]) rfl mkI (N1 (cs:=[iV 1]) rfl mkI (N1 (cs:=[iV 0]) rfl mkI (N1 (cs:=[iV 1]) rfl mkI X1))))) fun g3 w a=>q 3 rfl (yh (rLt (n:=4) (l:=[4607182418800017408,G,G,V]) a U9 [.int .u64 4607182418800017408,.int .u64 G,.int .u64 G,.int .u64 V] (bp4 rfl e0 e0 e0) rfl rfl (N1 (cs:=[.int .u64 4607182418800017408]) rfl mkI (N1 (cs:=[.int .u64 G]) rfl mkI (N1 (cs:=[.int .u64 G]) rfl mkI (N1 (cs:=[.int .u64 V]) rfl mkI X1))))) fun g4 w a=>?_)
 refine z 4 0 ?_;intro i7 w a w a
 refine bE c fun m g5 c=>?_
 replace a:=(((((a.k1c).fz).k16).fz).k10).fz
 refine yC (W8 Vt (a1 e0)) (Ze g5 F2 F1 F0 (F_3 Z) a) ?_
 rintro _ w ⟨g6,g7,K,i8,rfl,a⟩
 refine ⟨_,rfl,?_⟩
 refine nf ?_
 refine z 4 10 ?_;intro i9 w a w a j0 j1 c j2 w a
 refine bE c fun u L c=>bE c fun s D c=>bE c fun r y c=>bE c fun o t c=>bE c fun k p c=>bE c fun i j c=>bE c fun f b c=>bE c fun e d c=>?_
 refine jN Unit [] (fun _=>[(0,.bool e)]) (fun _=>St w0 ros rs) rfl ?_ ?_
 ·rcases V5 L with ⟨x,L⟩ | ⟨x,L⟩
  ·have B:=P1 L
   rcases V5 D with ⟨A,D⟩ | ⟨A,D⟩
   ·have E:=P1 D
    rcases V5 y with ⟨C,y⟩ | ⟨C,y⟩
    ·have H:=P1 y
     rcases V5 t with ⟨F,t⟩ | ⟨F,t⟩
     ·have N:=P1 t
      rcases V5 p with ⟨I,p⟩ | ⟨I,p⟩
      ·have S:=P1 p
       rcases V5 j with ⟨O,j⟩ | ⟨O,j⟩
       ·have W:=P1 j
        rcases V5 b with ⟨T,b⟩ | ⟨T,b⟩
        ·refine bE b fun U J b=>bE b fun j3 a0 b=>bE b fun j4 a2 b=>?_
         have a3:=P1 b
         rcases V5 d with ⟨X,d⟩ | ⟨X,d⟩
         ·refine bE d fun j5 g8 d=>?_
          have g9:=P1 d
          refine dS [34,35,40,42] 4 E1 ?_
          replace a:=a.drew
          refine D1 17179869183 0 34 rfl (qR 3 rfl (rK 31 rfl (dT x) (qR 2 rfl (rQ rfl (pt_ (.bool u) e0 rfl (eqv B e0)) (qR 1 rfl (rK 35 rfl A (qR 1 rfl (rQ rfl (pt_ (.bool s) e0 rfl (eqv E e0)) (qR 1 rfl (rK 38 rfl C (qR 1 rfl (rQ rfl (lb_ (iV m.1) O_3 e0 a R0) (qR 1 rfl ?_)))))))))))))
          refine rQ rfl (pt_ (.bool r) e0 rfl (eqv H e0)) (qR 1 rfl (rK 43 rfl F (qR 1 rfl (rQ rfl (lb_ (iV m.2.1) O_3 e0 a R0) (qR 1 rfl (rQ rfl (pt_ (.bool o) e0 rfl (eqv N e0)) (qR 1 rfl (rK 48 rfl I (qR 1 rfl (rQ rfl (lb_ K.v A9 e0 a R0) (rQ rfl (C6 P4 e0 a rO3 R4) (qR 1 rfl (rQ rfl (pt_ (.bool k) e0 rfl (eqv S e0)) ?_)))))))))))))
          refine qR 1 rfl (rK 54 rfl O (qR 1 rfl (rQ rfl (Y2 Q2 e0 a (rdI F0)) (qR 1 rfl (rQ rfl (pt_ (.bool i) e0 rfl (eqv W e0)) (qR 1 rfl (rK 59 rfl T (qR 1 rfl (rQ rfl (yIa Q2 e0 rfl a (rdI F0) J) ?_)))))))))
          obtain ⟨j6,j7,a⟩:=iLd a F0 J
          obtain ⟨j8,j9,rfl,a⟩:=a.eltP
          obtain ⟨rfl,a⟩:=a.eltB
          obtain ⟨R,rfl,a⟩:=a.eltS
          refine rQ rfl (D6 (cs:=[.bool U.1,R.v]) P0 rfl e0 a F1) (Rn QSn (kO (w_f a0 a) fun h0 w a=>dU (D1 0 15032385536 35 rfl (Rn (qS rfl (sY rfl (yIa Q2 e0 rfl a (rdI F2) J) (sY rfl (D6 (cs:=[.bool U.1,R.v]) P0 rfl e0 a F1) QSn))) ?_))))
          replace a:=a.fz
          refine kZ (Ad a2 F1 F0 a) fun w a=>dU (D1 1030792151040 0 40 rfl (rQ rfl (pt_ (.bool f) e0 rfl (eqv a3 e0)) (qR 1 rfl (rK 66 rfl X (rQ rfl (I2 [iV 2,iV 2,g2.v,g3.v,g4.v] Yb e0 a R5) (rQ rfl (I2 [iV m.1,iV m.2.1,g6.v,g7.v,K.v] b00 e0 a R0) (Rn QSn ?_)))))))
          replace a:=(((((a.k10).fz).k10).fz).k1d).ffz
          exact kZ (nh g8 F9 F8 F7 F2 F1 F0 (F_10 Z) a) fun w a=>dU (D1 2199023255552 0 42 rfl (rQ rfl (pt_ (.bool e) e0 rfl (eqv g9 e0)) (Rn QSn (Ly wn (a_ (.bool e) e0) (dU (Dw 0 0 (Rn QSn (jr () ((a.k19).fc)))))))))
         ·have h1:=P1 d
          refine dS [34,35,40,42] 4 E1 ?_
          replace a:=a.drew
          refine D1 17179869183 0 34 rfl (qR 3 rfl (rK 31 rfl (dT x) (qR 2 rfl (rQ rfl (pt_ (.bool u) e0 rfl (eqv B e0)) (qR 1 rfl (rK 35 rfl A (qR 1 rfl (rQ rfl (pt_ (.bool s) e0 rfl (eqv E e0)) (qR 1 rfl (rK 38 rfl C (qR 1 rfl (rQ rfl (lb_ (iV m.1) O_3 e0 a R0) (qR 1 rfl ?_)))))))))))))
          refine rQ rfl (pt_ (.bool r) e0 rfl (eqv H e0)) (qR 1 rfl (rK 43 rfl F (qR 1 rfl (rQ rfl (lb_ (iV m.2.1) O_3 e0 a R0) (qR 1 rfl (rQ rfl (pt_ (.bool o) e0 rfl (eqv N e0)) (qR 1 rfl (rK 48 rfl I (qR 1 rfl (rQ rfl (lb_ K.v A9 e0 a R0) (rQ rfl (C6 P4 e0 a rO3 R4) (qR 1 rfl (rQ rfl (pt_ (.bool k) e0 rfl (eqv S e0)) ?_)))))))))))))
          refine qR 1 rfl (rK 54 rfl O (qR 1 rfl (rQ rfl (Y2 Q2 e0 a (rdI F0)) (qR 1 rfl (rQ rfl (pt_ (.bool i) e0 rfl (eqv W e0)) (qR 1 rfl (rK 59 rfl T (qR 1 rfl (rQ rfl (yIa Q2 e0 rfl a (rdI F0) J) ?_)))))))))
          obtain ⟨k0,k1,a⟩:=iLd a F0 J
          obtain ⟨k2,k3,rfl,a⟩:=a.eltP
          obtain ⟨rfl,a⟩:=a.eltB
          obtain ⟨R,rfl,a⟩:=a.eltS
          refine rQ rfl (D6 (cs:=[.bool U.1,R.v]) P0 rfl e0 a F1) (Rn QSn (kO (w_f a0 a) fun h0 w a=>dU (D1 0 15032385536 35 rfl (Rn (qS rfl (sY rfl (yIa Q2 e0 rfl a (rdI F2) J) (sY rfl (D6 (cs:=[.bool U.1,R.v]) P0 rfl e0 a F1) QSn))) ?_))))
          replace a:=a.fz
          refine kZ (Ad a2 F1 F0 a) fun w a=>dU (D1 1030792151040 0 40 rfl (rQ rfl (pt_ (.bool f) e0 rfl (eqv a3 e0)) (qR 1 rfl (rK 66 rfl (E3 X) (qR 2 rfl (Rn QSn (Lx (N2.2 rfl) (dU (D1 2199023255552 0 42 rfl (rQ rfl (pf_ (.bool e) e0 rfl (eqv h1 rfl)) (Rn QSn (Ly wn (a_ (.bool e) e0) ?_))))))))))))
          exact dU (Dw 0 0 (Rn QSn (jr () ((a.k2l).fc))))
        ·have a4:=P1 b
         have a5:¬ f=true:=fun h=>U4 (a4.trans h)
         rw [K0 a5] at d
         have h2:=P1 d
         refine dS [34,35,40,42] 4 E1 ?_
         replace a:=a.drew
         refine D1 17179869183 0 34 rfl (qR 3 rfl (rK 31 rfl (dT x) (qR 2 rfl (rQ rfl (pt_ (.bool u) e0 rfl (eqv B e0)) (qR 1 rfl (rK 35 rfl A (qR 1 rfl (rQ rfl (pt_ (.bool s) e0 rfl (eqv E e0)) (qR 1 rfl (rK 38 rfl C (qR 1 rfl (rQ rfl (lb_ (iV m.1) O_3 e0 a R0) (qR 1 rfl ?_)))))))))))))
         refine rQ rfl (pt_ (.bool r) e0 rfl (eqv H e0)) (qR 1 rfl (rK 43 rfl F (qR 1 rfl (rQ rfl (lb_ (iV m.2.1) O_3 e0 a R0) (qR 1 rfl (rQ rfl (pt_ (.bool o) e0 rfl (eqv N e0)) (qR 1 rfl (rK 48 rfl I (qR 1 rfl (rQ rfl (lb_ K.v A9 e0 a R0) (rQ rfl (C6 P4 e0 a rO3 R4) (qR 1 rfl (rQ rfl (pt_ (.bool k) e0 rfl (eqv S e0)) ?_)))))))))))))
         refine qR 1 rfl (rK 54 rfl O (qR 1 rfl (rQ rfl (Y2 Q2 e0 a (rdI F0)) (qR 1 rfl (rQ rfl (pt_ (.bool i) e0 rfl (eqv W e0)) (qR 1 rfl (rK 59 rfl (E3 T) (qR 3 rfl (Rn QSn (Lx (N2.2 rfl) (dU (D1 0 15032385536 35 rfl (Rn (qS rfl (qS rfl (qS rfl QSn))) ?_)))))))))))))
         refine Lx (N2.2 rfl) (dU (D1 1030792151040 0 40 rfl (rQ rfl (pf_ (.bool f) e0 rfl (eqv a4 rfl)) (qR 1 rfl (rK 66 rfl (E3 a5) (qR 2 rfl (Rn QSn (Lx (N2.2 rfl) (dU (D1 2199023255552 0 42 rfl (rQ rfl (pf_ (.bool e) e0 rfl (eqv h2 rfl)) (Rn QSn (Ly wn (a_ (.bool e) e0) ?_)))))))))))))
         exact dU (Dw 0 0 (Rn QSn (jr () ((a.k2l).fc))))
       ·have a6:=P1 j
        have a7:¬ i=true:=fun h=>U4 (a6.trans h)
        rw [K0 a7] at b
        have a8:=P1 b
        have a9:¬ f=true:=fun h=>U4 (a8.trans h)
        rw [K0 a9] at d
        have h6:=P1 d
        refine dS [34,35,40,42] 4 E1 ?_
        replace a:=a.drew
        refine D1 17179869183 0 34 rfl (qR 3 rfl (rK 31 rfl (dT x) (qR 2 rfl (rQ rfl (pt_ (.bool u) e0 rfl (eqv B e0)) (qR 1 rfl (rK 35 rfl A (qR 1 rfl (rQ rfl (pt_ (.bool s) e0 rfl (eqv E e0)) (qR 1 rfl (rK 38 rfl C (qR 1 rfl (rQ rfl (lb_ (iV m.1) O_3 e0 a R0) (qR 1 rfl ?_)))))))))))))
        refine rQ rfl (pt_ (.bool r) e0 rfl (eqv H e0)) (qR 1 rfl (rK 43 rfl F (qR 1 rfl (rQ rfl (lb_ (iV m.2.1) O_3 e0 a R0) (qR 1 rfl (rQ rfl (pt_ (.bool o) e0 rfl (eqv N e0)) (qR 1 rfl (rK 48 rfl I (qR 1 rfl (rQ rfl (lb_ K.v A9 e0 a R0) (rQ rfl (C6 P4 e0 a rO3 R4) (qR 1 rfl (rQ rfl (pt_ (.bool k) e0 rfl (eqv S e0)) ?_)))))))))))))
        refine qR 1 rfl (rK 54 rfl (E3 O) (qR 3 rfl (rQ rfl (pf_ (.bool i) e0 rfl (eqv a6 rfl)) (qR 1 rfl (rK 59 rfl (E3 a7) (qR 3 rfl (Rn QSn (Lx (N2.2 rfl) (dU (D1 0 15032385536 35 rfl (Rn (qS rfl (qS rfl (qS rfl QSn))) (Lx (N2.2 rfl) (dU ?_)))))))))))))
        refine D1 1030792151040 0 40 rfl (rQ rfl (pf_ (.bool f) e0 rfl (eqv a8 rfl)) (qR 1 rfl (rK 66 rfl (E3 a9) (qR 2 rfl (Rn QSn (Lx (N2.2 rfl) (dU (D1 2199023255552 0 42 rfl (rQ rfl (pf_ (.bool e) e0 rfl (eqv h6 rfl)) (Rn QSn (Ly wn (a_ (.bool e) e0) (dU (Dw 0 0 ?_)))))))))))))
        exact Rn QSn (jr () ((a.k2l).fc))
      ·have b0:=P1 p
       have b1:¬ k=true:=fun h=>U4 (b0.trans h)
       rw [K0 b1] at j
       have b2:=P1 j
       have b3:¬ i=true:=fun h=>U4 (b2.trans h)
       rw [K0 b3] at b
       have b4:=P1 b
       have b5:¬ f=true:=fun h=>U4 (b4.trans h)
       rw [K0 b5] at d
       have h7:=P1 d
       refine dS [34,35,40,42] 4 E1 ?_
       replace a:=a.drew
       refine D1 17179869183 0 34 rfl (qR 3 rfl (rK 31 rfl (dT x) (qR 2 rfl (rQ rfl (pt_ (.bool u) e0 rfl (eqv B e0)) (qR 1 rfl (rK 35 rfl A (qR 1 rfl (rQ rfl (pt_ (.bool s) e0 rfl (eqv E e0)) (qR 1 rfl (rK 38 rfl C (qR 1 rfl (rQ rfl (lb_ (iV m.1) O_3 e0 a R0) (qR 1 rfl ?_)))))))))))))
       refine rQ rfl (pt_ (.bool r) e0 rfl (eqv H e0)) (qR 1 rfl (rK 43 rfl F (qR 1 rfl (rQ rfl (lb_ (iV m.2.1) O_3 e0 a R0) (qR 1 rfl (rQ rfl (pt_ (.bool o) e0 rfl (eqv N e0)) (qR 1 rfl (rK 48 rfl (E3 I) (qR 4 rfl (rQ rfl (pf_ (.bool k) e0 rfl (eqv b0 rfl)) (qR 1 rfl (rK 54 rfl (E3 b1) (qR 3 rfl ?_)))))))))))))
       refine rQ rfl (pf_ (.bool i) e0 rfl (eqv b2 rfl)) (qR 1 rfl (rK 59 rfl (E3 b3) (qR 3 rfl (Rn QSn (Lx (N2.2 rfl) (dU (D1 0 15032385536 35 rfl (Rn (qS rfl (qS rfl (qS rfl QSn))) (Lx (N2.2 rfl) (dU (D1 1030792151040 0 40 rfl (rQ rfl (pf_ (.bool f) e0 rfl (eqv b4 rfl)) (qR 1 rfl ?_)))))))))))))
       exact rK 66 rfl (E3 b5) (qR 2 rfl (Rn QSn (Lx (N2.2 rfl) (dU (D1 2199023255552 0 42 rfl (rQ rfl (pf_ (.bool e) e0 rfl (eqv h7 rfl)) (Rn QSn (Ly wn (a_ (.bool e) e0) (dU (Dw 0 0 (Rn QSn (jr () ((a.k2l).fc)))))))))))))
     ·have b7:=P1 t
      have b8:¬ o=true:=fun h=>U4 (b7.trans h)
      rw [K0 b8] at p
      have b9:=P1 p
      have c0:¬ k=true:=fun h=>U4 (b9.trans h)
      rw [K0 c0] at j
      have c1:=P1 j
      have c2:¬ i=true:=fun h=>U4 (c1.trans h)
      rw [K0 c2] at b
      have c3:=P1 b
      have c4:¬ f=true:=fun h=>U4 (c3.trans h)
      rw [K0 c4] at d
      have i0:=P1 d
      refine dS [34,35,40,42] 4 E1 ?_
      replace a:=a.drew
      refine D1 17179869183 0 34 rfl (qR 3 rfl (rK 31 rfl (dT x) (qR 2 rfl (rQ rfl (pt_ (.bool u) e0 rfl (eqv B e0)) (qR 1 rfl (rK 35 rfl A (qR 1 rfl (rQ rfl (pt_ (.bool s) e0 rfl (eqv E e0)) (qR 1 rfl (rK 38 rfl C (qR 1 rfl (rQ rfl (lb_ (iV m.1) O_3 e0 a R0) (qR 1 rfl ?_)))))))))))))
      refine rQ rfl (pt_ (.bool r) e0 rfl (eqv H e0)) (qR 1 rfl (rK 43 rfl (E3 F) (qR 3 rfl (rQ rfl (pf_ (.bool o) e0 rfl (eqv b7 rfl)) (qR 1 rfl (rK 48 rfl (E3 b8) (qR 4 rfl (rQ rfl (pf_ (.bool k) e0 rfl (eqv b9 rfl)) (qR 1 rfl (rK 54 rfl (E3 c0) (qR 3 rfl (rQ rfl (pf_ (.bool i) e0 rfl (eqv c1 rfl)) (qR 1 rfl ?_)))))))))))))
      refine rK 59 rfl (E3 c2) (qR 3 rfl (Rn QSn (Lx (N2.2 rfl) (dU (D1 0 15032385536 35 rfl (Rn (qS rfl (qS rfl (qS rfl QSn))) (Lx (N2.2 rfl) (dU (D1 1030792151040 0 40 rfl (rQ rfl (pf_ (.bool f) e0 rfl (eqv c3 rfl)) (qR 1 rfl (rK 66 rfl (E3 c4) (qR 2 rfl ?_)))))))))))))
      exact Rn QSn (Lx (N2.2 rfl) (dU (D1 2199023255552 0 42 rfl (rQ rfl (pf_ (.bool e) e0 rfl (eqv i0 rfl)) (Rn QSn (Ly wn (a_ (.bool e) e0) (dU (Dw 0 0 (Rn QSn (jr () ((a.k2l).fc)))))))))))
    ·have c5:=P1 y
     have c6:¬ r=true:=fun h=>U4 (c5.trans h)
     rw [K0 c6] at t
     have c7:=P1 t
     have c8:¬ o=true:=fun h=>U4 (c7.trans h)
     rw [K0 c8] at p
     have c9:=P1 p
     have d0:¬ k=true:=fun h=>U4 (c9.trans h)
     rw [K0 d0] at j
     have d1:=P1 j
     have d2:¬ i=true:=fun h=>U4 (d1.trans h)
     rw [K0 d2] at b
     have d3:=P1 b
     have d4:¬ f=true:=fun h=>U4 (d3.trans h)
     rw [K0 d4] at d
     have i1:=P1 d
     refine dS [34,35,40,42] 4 E1 ?_
     replace a:=a.drew
     refine D1 17179869183 0 34 rfl (qR 3 rfl (rK 31 rfl (dT x) (qR 2 rfl (rQ rfl (pt_ (.bool u) e0 rfl (eqv B e0)) (qR 1 rfl (rK 35 rfl A (qR 1 rfl (rQ rfl (pt_ (.bool s) e0 rfl (eqv E e0)) (qR 1 rfl (rK 38 rfl (E3 C) (qR 3 rfl (rQ rfl (pf_ (.bool r) e0 rfl (eqv c5 rfl)) (qR 1 rfl ?_)))))))))))))
     refine rK 43 rfl (E3 c6) (qR 3 rfl (rQ rfl (pf_ (.bool o) e0 rfl (eqv c7 rfl)) (qR 1 rfl (rK 48 rfl (E3 c8) (qR 4 rfl (rQ rfl (pf_ (.bool k) e0 rfl (eqv c9 rfl)) (qR 1 rfl (rK 54 rfl (E3 d0) (qR 3 rfl (rQ rfl (pf_ (.bool i) e0 rfl (eqv d1 rfl)) (qR 1 rfl (rK 59 rfl (E3 d2) (qR 3 rfl ?_)))))))))))))
     refine Rn QSn (Lx (N2.2 rfl) (dU (D1 0 15032385536 35 rfl (Rn (qS rfl (qS rfl (qS rfl QSn))) (Lx (N2.2 rfl) (dU (D1 1030792151040 0 40 rfl (rQ rfl (pf_ (.bool f) e0 rfl (eqv d3 rfl)) (qR 1 rfl (rK 66 rfl (E3 d4) (qR 2 rfl (Rn QSn (Lx (N2.2 rfl) ?_)))))))))))))
     exact dU (D1 2199023255552 0 42 rfl (rQ rfl (pf_ (.bool e) e0 rfl (eqv i1 rfl)) (Rn QSn (Ly wn (a_ (.bool e) e0) (dU (Dw 0 0 (Rn QSn (jr () ((a.k2l).fc)))))))))
   ·have d5:=P1 D
    have d6:¬ s=true:=fun h=>U4 (d5.trans h)
    rw [K0 d6] at y
    have d7:=P1 y
    have d8:¬ r=true:=fun h=>U4 (d7.trans h)
    rw [K0 d8] at t
    have d9:=P1 t
    have e1:¬ o=true:=fun h=>U4 (d9.trans h)
    rw [K0 e1] at p
    have e2:=P1 p
    have e3:¬ k=true:=fun h=>U4 (e2.trans h)
    rw [K0 e3] at j
    have e4:=P1 j
    have e5:¬ i=true:=fun h=>U4 (e4.trans h)
    rw [K0 e5] at b
    have e6:=P1 b
    have e7:¬ f=true:=fun h=>U4 (e6.trans h)
    rw [K0 e7] at d
    have i2:=P1 d
    refine dS [34,35,40,42] 4 E1 ?_
    replace a:=a.drew
    refine D1 17179869183 0 34 rfl (qR 3 rfl (rK 31 rfl (dT x) (qR 2 rfl (rQ rfl (pt_ (.bool u) e0 rfl (eqv B e0)) (qR 1 rfl (rK 35 rfl (E3 A) (qR 1 rfl (rQ rfl (pf_ (.bool s) e0 rfl (eqv d5 rfl)) (qR 1 rfl (rK 38 rfl (E3 d6) (qR 3 rfl (rQ rfl (pf_ (.bool r) e0 rfl (eqv d7 rfl)) (qR 1 rfl ?_)))))))))))))
    refine rK 43 rfl (E3 d8) (qR 3 rfl (rQ rfl (pf_ (.bool o) e0 rfl (eqv d9 rfl)) (qR 1 rfl (rK 48 rfl (E3 e1) (qR 4 rfl (rQ rfl (pf_ (.bool k) e0 rfl (eqv e2 rfl)) (qR 1 rfl (rK 54 rfl (E3 e3) (qR 3 rfl (rQ rfl (pf_ (.bool i) e0 rfl (eqv e4 rfl)) (qR 1 rfl (rK 59 rfl (E3 e5) (qR 3 rfl ?_)))))))))))))
    refine Rn QSn (Lx (N2.2 rfl) (dU (D1 0 15032385536 35 rfl (Rn (qS rfl (qS rfl (qS rfl QSn))) (Lx (N2.2 rfl) (dU (D1 1030792151040 0 40 rfl (rQ rfl (pf_ (.bool f) e0 rfl (eqv e6 rfl)) (qR 1 rfl (rK 66 rfl (E3 e7) (qR 2 rfl (Rn QSn (Lx (N2.2 rfl) ?_)))))))))))))
    exact dU (D1 2199023255552 0 42 rfl (rQ rfl (pf_ (.bool e) e0 rfl (eqv i2 rfl)) (Rn QSn (Ly wn (a_ (.bool e) e0) (dU (Dw 0 0 (Rn QSn (jr () ((a.k2l).fc)))))))))
  ·have e8:=P1 L
   have e9:¬ u=true:=fun h=>U4 (e8.trans h)
   rw [K0 e9] at D
   have f0:=P1 D
   have f1:¬ s=true:=fun h=>U4 (f0.trans h)
   rw [K0 f1] at y
   have f2:=P1 y
   have f3:¬ r=true:=fun h=>U4 (f2.trans h)
   rw [K0 f3] at t
   have f4:=P1 t
   have f5:¬ o=true:=fun h=>U4 (f4.trans h)
   rw [K0 f5] at p
   have f6:=P1 p
   have f7:¬ k=true:=fun h=>U4 (f6.trans h)
   rw [K0 f7] at j
   have f8:=P1 j
   have f9:¬ i=true:=fun h=>U4 (f8.trans h)
   rw [K0 f9] at b
   have g0:=P1 b
   have g1:¬ f=true:=fun h=>U4 (g0.trans h)
   rw [K0 g1] at d
   have i3:=P1 d
   refine dS [34,35,40,42] 4 E1 ?_
   replace a:=a.drew
   refine D1 17179869183 0 34 rfl (qR 3 rfl (rK 31 rfl (dF x) (qR 2 rfl (rQ rfl (pf_ (.bool u) e0 rfl (eqv e8 rfl)) (qR 1 rfl (rK 35 rfl (E3 e9) (qR 1 rfl (rQ rfl (pf_ (.bool s) e0 rfl (eqv f0 rfl)) (qR 1 rfl (rK 38 rfl (E3 f1) (qR 3 rfl (rQ rfl (pf_ (.bool r) e0 rfl (eqv f2 rfl)) (qR 1 rfl ?_)))))))))))))
   refine rK 43 rfl (E3 f3) (qR 3 rfl (rQ rfl (pf_ (.bool o) e0 rfl (eqv f4 rfl)) (qR 1 rfl (rK 48 rfl (E3 f5) (qR 4 rfl (rQ rfl (pf_ (.bool k) e0 rfl (eqv f6 rfl)) (qR 1 rfl (rK 54 rfl (E3 f7) (qR 3 rfl (rQ rfl (pf_ (.bool i) e0 rfl (eqv f8 rfl)) (qR 1 rfl (rK 59 rfl (E3 f9) (qR 3 rfl ?_)))))))))))))
   refine Rn QSn (Lx (N2.2 rfl) (dU (D1 0 15032385536 35 rfl (Rn (qS rfl (qS rfl (qS rfl QSn))) (Lx (N2.2 rfl) (dU (D1 1030792151040 0 40 rfl (rQ rfl (pf_ (.bool f) e0 rfl (eqv g0 rfl)) (qR 1 rfl (rK 66 rfl (E3 g1) (qR 2 rfl (Rn QSn (Lx (N2.2 rfl) ?_)))))))))))))
   exact dU (D1 2199023255552 0 42 rfl (rQ rfl (pf_ (.bool e) e0 rfl (eqv i3 rfl)) (Rn QSn (Ly wn (a_ (.bool e) e0) (dU (Dw 0 0 (Rn QSn (jr () ((a.k2l).fc)))))))))
 rintro _ g w a
 exact vx
instance:CL prog 8 (type_of% @tl):=⟨@tl⟩
theorem mh {d:LI} {e f h:Int} {i:Bool} {j:Hdr} {out:Bool} (c:m_k6 d e f h i=some out) (p:out=true) (r:imm (rI .u64) j.v d∈ros) (l:globF∈ros) (a:St w0 ros rs w):
  Calls prog 3 #[j.v,iV e,iV f,iV h,.bool i] w (rv w0 ros rs (.bool out)):=by
 refine en func3 rfl ntmps3 fun Q s=>?_
 refine z 4 0 ?_;intro t u c x y A w a B w a w a
 refine bE c fun C m c=>?_
 replace a:=(((((a.k10).fz).k10).fz).k10).fz
 refine yC (W8 Vt (a1 e0)) (Ze m F2 F1 F0 (F_3 l) a) ?_
 rintro _ w ⟨D,E,F,G,rfl,a⟩
 refine ⟨_,rfl,?_⟩
 refine nf ?_
 refine z 6 9 ?_;intro H w a w a I J c K L N w a O w a w a
 refine bE c fun n b c=>?_
 refine jW 4 [] [(39,.bool n)] (St w0 ros rs) rfl (fun k=>?_) ?_
 ·refine gI 35 b rfl (fun o b=>?_) fun o b=>?_
  ·refine z 2 0 ?_
   refine bE b fun R S b=>?_
   replace a:=(((((a.k1z).fz).k1z).fz).k33).ffz
   refine z 1 1 ?_;intro w a
   cases b
   exact k _ _ ((a.k1b).fc) rfl
  ·refine q 4 rfl ?_
   cases b
   exact k _ _ ((a.k34).fc) rfl
 intro g w a
 exact vx
instance:CL prog 3 (type_of% @mh):=⟨@mh⟩
end Go.Proofs.YthekfonboblioaaGreatDoor
