/- Walks: each function computes its model, printed. -/
import Derived.Test.YthekfonboblioabGreatDoorW4
namespace Go.Proofs.YthekfonboblioabGreatDoor
open Go Sx M Go.Proofs.Tryz
set_option maxRecDepth 100000
set_option maxHeartbeats 40000000
set_option linter.unusedVariables false
attribute [local irreducible] wpList Code.wp Calls DR QR QS LA LS St row box fam imm rowS loop
variable {w0:World} {ax:List Fact} {rs:List Res} {w:World}
theorem mq {b:Bool} {d:LI} {e:Int} {f:Hdr} {out:Bool×Bool×LI×Int} (c:m_di b d e=some out) (g:imm xw f.v d∈ax) (h:globF∈ax) (a:St w0 ax rs w):
  Calls prog 97 #[.agg #[.bool b,f.v],iV e] w (rd w0 ax rs out):=by
 exact en func97 rfl ntmps97 fun Q i=>vx
instance:CL prog 97 (type_of% @mq):=⟨@mq⟩
theorem kq {b:Int} {out:Bool×Bool×LI×Int} (c:m_dl b=some out) (e:globF∈ax) (a:St w0 ax rs w):
  Calls prog 49 #[.int .u64 b] w (rd w0 ax rs out):=by
 refine en func49 rfl ntmps49 fun Q d=>?_
 refine v 0 ?_
 refine fun _ _ _ _ _ _ _ a=>⟨fun _ c _ a=>?_,vt⟩
 cases c
 replace a:=a.immNh xw
 exact d _ _ _ (M3 results49 (C4 rfl rfl a R0 M9 rfl) ⟨_,rfl,(a.k14)⟩)
instance:CL prog 49 (type_of% @kq):=⟨@kq⟩
theorem Bp {b d:Bool} {e:LI} {f:Int} {g:Hdr} {out:Int} (c:m_dm b d e f=some out) (h:imm xw g.v e∈ax) (i:globF∈ax) (a:St w0 ax rs w):
  Calls prog 50 #[.agg #[.bool b,.bool d,g.v,iV f]] w (rv w0 ax rs (iV out)):=by
 exact en func50 rfl ntmps50 fun Q j=>vx
instance:CL prog 50 (type_of% @Bp):=⟨@Bp⟩
theorem Ap {f h:Int} {y A B:LI} {i d e:Hdr} {out:(List (Int×Int×Int))} (c:m_dp f h y A B=some out) (O:imm I1 i.v y∈ax) (C:imm I1 d.v A∈ax) (D:imm Ow e.v B∈ax) (a:St w0 ax rs w):
  Calls prog 51 #[.agg #[iV f,iV h,i.v,d.v,e.v]] w (ro w0 ax rs 86 rTi64i64u64 out):=by
 refine en func51 rfl ntmps51 fun Q I=>?_
 refine z 2 4 ?_;intro p w a
 refine bE c fun E J c=>?_
 replace a:=a.rowNh 86 rTi64i64u64
 refine lpN Hdr Hdr J [1,7] (fun (r,b) m=>[(3,m.v),(8,iV b)]) (fun (r,b) m=>St w0 ax (box p 26 [iV f,iV h,i.v,d.v,e.v]::row 86 rTi64i64u64 m.v r::rs)) (fun | E,s=>(.exit 0,[(3,s.v)],St w0 ax (row 86 rTi64i64u64 s.v E::rs))) rfl _ (a.k10) rfl ?_ ?_
 ·clear a
  rintro s g w a
  refine q 9 rfl ?_
  cases c
  exact I _ _ _ (M3 results51 ⟨rfl,rfl⟩ ⟨_,rfl,a⟩)
 rintro ⟨r,b⟩ m g w R a c
 refine q 6 rfl (cI c (fun K c=>?_) fun K c=>?_)
 ·refine z 3 4 ?_;intro S T c
  refine bE c fun F L c=>?_
  refine lpN Hdr Hdr L [1,4,7,8] (fun (t,u) o=>[(3,o.v),(5,iV u)]) (fun (t,u) o=>St w0 ax (box p 26 [iV f,iV h,i.v,d.v,e.v]::row 86 rTi64i64u64 o.v t::rs)) (fun | F,x=>(.exit 2,[(3,x.v)],St w0 ax (box p 26 [iV f,iV h,i.v,d.v,e.v]::row 86 rTi64i64u64 x.v F::rs))) rfl _ a rfl ?_ ?_
  ·clear a
   rintro x g w a
   refine q 7 rfl ?_
   cases c
   exact ln _ a
  rintro ⟨t,u⟩ o g w U a c
  refine z 3 3 ?_;intro V W c
  refine cI c (fun N c=>?_) fun N c=>?_
  ·refine q 4 rfl (bE c fun j G c=>bE c fun k H c=>bE c fun X Z c=>dS [13,14,15] 3 A1 ?_)
   replace a:=a.drew
   refine D1 8191 0 13 rfl (qR 2 rfl (rQ rfl (lb_ d.v L1 e0 a R0) (qR 1 rfl (rQ rfl (yIa V0 e0 e0 a (rdI C) G) (rQ rfl (yI O_3 e0 a (rdI C) G) (qR 2 rfl (rQ rfl (lb_ e.v O9 e0 a R0) (qR 1 rfl (rQ rfl (yIa X8 e0 e0 a (rdI D) H) (rQ rfl (yI Dc e0 a (rdI D) H) (rQ rfl (Y9 (us:=[iV j,iV b,.int .u64 k]) [(0,iV j),(1,iV b),(2,.int .u64 k)] kl (bp3 e0 e0 e0) rfl) (Rn QSn (LH wn (rLt (n:=1) (l:=[(j,b,k)]) a Ld [.agg #[iV j,iV b,.int .u64 k]] (bp1 e0) rfl rfl (U1 (cs:=[iV j,iV b,.int .u64 k]) rfl (mkF rfl) E2)) ?_)))))))))))))
   refine fun a0 w a=>dU ?_
   refine z 3 7 ?_;intro a1 w a
   cases c
   exact ln _ (a.k1c)
  ·refine q 2 rfl ?_
   cases c
   exact lx _ a
 ·refine q 2 rfl ?_
  cases c
  exact lx _ (a.k12)
instance:CL prog 51 (type_of% @Ap):=⟨@Ap⟩
theorem vp {b d:Int} {O R S:LI} {f h i:Hdr} {out:(List (List (Bool×LI)))×Int×Int} (c:m_dv b d O R S=some out) (d3:imm I1 f.v O∈ax) (d4:imm I1 h.v R∈ax) (d5:imm Ow i.v S∈ax) (d6:globF∈ax) (a:St w0 ax rs w):
  Calls prog 17 #[.agg #[iV b,iV d,f.v,h.v,i.v]] w (fun e w=>∃ (T:Hdr) (U:List Hdr),e=.returned (.tuple #[T.v,iV out.2.1,iV out.2.2])∧St w0 ax (row 37 rH T.v U::fam 62 Cw U out.1::rs) w):=by
 refine en func17 rfl ntmps17 fun Q E=>?_
 refine z 3 12 ?_;intro l w a d7 d8 c w a
 refine cIn c (fun a9 c=>?_) fun a9 c=>?_
 ·refine z 1 2 ?_
  refine jW 4 [1,3] [(27,.bool ((decide ((16:Int) < b)) || (decide ((16:Int) < d))))] (St w0 ax (box l 26 [iV b,iV d,f.v,h.v,i.v]::rs)) rfl (fun V=>?_) ?_
  ·refine gB 23 rfl (fun F=>?_) fun F=>?_
   ·exact q 4 rfl (V _ _ a (O1 (C1 Value.bool (orT F)) rfl))
   ·refine z 1 2 ?_
    exact V _ _ a (O1 (C1 Value.bool (orF F)) rfl)
  intro g w a
  refine q 3 rfl ?_
  refine cJ c (fun b0 c=>?_) fun b0 c=>?_
  ·refine q 10 rfl ?_
   cases c
   replace a:=((a.rowNh 37 rH).fNew 62 Cw).k10
   exact E _ _ _ (V7 results17 ⟨rfl,rfl⟩ ⟨rfl,rfl⟩ ⟨rfl,rfl⟩ ⟨_,_,rfl,(a.k1q)⟩)
  ·refine z 2 4 ?_
   refine bE c fun W b1 c=>?_
   refine lp b1 [1,29,30] (fun (n,o,r)=>[(3,iV n),(5,.bool o),(31,iV r)]) (fun (n,o,r)=>St w0 ax (box l 26 [iV b,iV d,f.v,h.v,i.v]::rs)) (fun | W=>(.exit 1,[(3,iV W)],St w0 ax (box l 26 [iV b,iV d,f.v,h.v,i.v]::rs))) rfl a rfl ?_ ?_
   ·clear a
    intro g w a
    refine z 1 0 ?_
    refine bE c fun d9 b2 c=>?_
    obtain ⟨b3,em49,b4⟩:=Vj b2 hnil
    refine yh (rMk a T4 e0 b4) fun p w a=>?_
    replace a:=(a.fReps 62 Cw b3).k10
    rw [← em49] at a
    refine q 7 rfl (y (K6 T4 e0 a rO0 R1) (bE c fun X b5 c=>q 4 rfl ?_))
    refine lpN (List Hdr) (List Hdr) b5 [1,2,3,56] (fun (G,H) s=>[(57,iV H)]) (fun (G,H) s=>St w0 ax (box l 26 [iV b,iV d,f.v,h.v,i.v]::row 37 rH p.v s::fam 62 Cw s G::rs)) (fun | X,k=>(.exit 3,[],St w0 ax (box l 26 [iV b,iV d,f.v,h.v,i.v]::row 37 rH p.v k::fam 62 Cw k X::rs))) rfl _ (a.k16) rfl ?_ ?_
    ·clear a
     rintro k g w a
     refine z 3 4 ?_;intro Z e1 c a0 w a
     refine bE c fun a1 b6 c=>?_
     refine lp b6 [2,3,68,69] (fun (I,t)=>[(70,iV t)]) (fun (I,t)=>St w0 ax (row 37 rH p.v k::fam 62 Cw k I::row 86 rTi64i64u64 a0.v Z::rs)) (fun | a1=>(.exit 5,[],St w0 ax (row 37 rH p.v k::fam 62 Cw k a1::rs))) rfl (a.k1h) rfl ?_ ?_
     ·clear a
      intro g w a
      refine q 12 rfl ?_
      cases c
      exact E _ _ _ (V7 results17 ⟨rfl,rfl⟩ ⟨rfl,rfl⟩ ⟨rfl,rfl⟩ ⟨_,_,rfl,a⟩)
     rintro ⟨I,t⟩ g w b7 a c
     refine q 6 rfl (cI c (fun b8 c=>?_) fun b8 c=>?_)
     ·refine z 1 0 ?_;intro x c0 c
      refine y (yFn Zu e0 a rO2 c0 rfl) ?_
      refine z 8 3 ?_;intro e2 w a w a a2 e3 c c1 w a e4 w a w a e5 e6 c w a
      refine jC (List (List (Bool×LI))) [2,3,68,69,70] (fun A=>[]) (fun A w=>St w0 ax (row 37 rH p.v k::fam 62 Cw k A::row 86 rTi64i64u64 a0.v Z::rs) w∧m_dq t A=some b7) rfl ?_ ?_
      ·rintro A g w ⟨a,c⟩
       refine q 6 rfl ?_
       cases c
       exact lo a
      refine cIn c (fun c2 c=>?_) fun c2 c=>?_
      ·exact q 1 rfl (jx _ ⟨((a.k31).fc),c⟩)
      ·refine bE c fun e7 J c=>bE c fun c3 c4 c=>bE c fun e8 a3 c=>bE c fun e9 c5 c=>dS [13,18] 2 A1 ?_
       replace a:=a.drew
       refine D1 8191 0 13 rfl (qR 2 rfl (rQ rfl (lb_ (iV x.1) O_3 e0 a R1) ?_))
       obtain ⟨f0,m⟩:=a.famI R3 J
       refine rQ rfl (yIa T4 e0 e0 a rO2 m) (rQ rfl (yF1 D4 e0 a rO2 m rfl) (qR 1 rfl (rQ rfl (lb_ (iV x.2.1) O_3 e0 a R1) (qR 1 rfl (rQ rfl (W1 [.bool a2.2.1,c1.v] P0 e0 a R0) (qR 1 rfl (rQ rfl (lb_ (iV a2.2.2.2) O_3 e0 a R0) (qR 2 rfl (Rn QSn (kO (ij c4 F0 a) fun c6 w a=>dU (D0 245760 127 18 rfl (qR 3 rfl ?_))))))))))))
       refine rQ rfl (yIs V2 e0 e0 a (rdF R3 m J) a3) (Rn (qS rfl (qS rfl (sY rfl (lb_ (iV x.1) O_3 e0 a R1) (sY rfl (yIa T4 e0 e0 a rO2 m) (sY rfl (yF1 D4 e0 a rO2 m rfl) (qS rfl (sY rfl (lb_ (iV x.2.1) O_3 e0 a R1) QSn))))))) ?_)
       replace a:=a.k1g
       refine LT wn (C8 (cs:=[.bool c3.1,c6.v]) (a.foc m J) P0 e0 e0 rfl (mkP mkB (mkS F0)) a3) fun w a=>?_
       replace a:=a.unfoc' m c5
       refine z 1 0 ?_
       exact jx _ ⟨((a.k32).fc),c⟩
     ·refine q 2 rfl ?_
      cases c
      exact xo (a.k1q)
    rintro ⟨G,H⟩ s g w f1 a c
    refine q 6 rfl (cI c (fun c7 c=>?_) fun c7 c=>?_)
    ·refine z 1 0 ?_
     refine bE c fun f2 c8 c=>yh (rMk a V2 e0 c8) fun a4 w a=>bE c fun f3 a5 c=>?_
     obtain ⟨f4,K⟩:=H9 (u:=a4) a5 (a.famL (mtR (mtR (mtR mhR))))
     refine y (yIs T4 e0 e0 a rO2 K) ?_
     replace a:=a.k16
     refine yt (S3 (cs:=[a4.v]) a D4 rfl e0 e0 rfl (mkF rfl) K) fun w a=>?_
     replace a:=(a.k33).fput K a5
     refine q 7 rfl ?_
     cases c
     exact ln _ (a.k18)
    ·refine q 2 rfl ?_
     cases c
     exact lx _ a
   rintro ⟨n,o,r⟩ g w c9 a c
   refine q 6 rfl (cI c (fun d0 c=>?_) fun d0 c=>?_)
   ·refine z 7 2 ?_;intro f5 f6 c j f7 c B w a a6 w a w a d1 f8 c w a
    refine jW 8 [1,3,5,8,29,30,31] [(48,.bool ((!(decide (d1=0))) && (o || (decide (j.2.2.2 < n)))))] (St w0 (imm xw B.v j.2.2.1::ax) (box l 26 [iV b,iV d,f.v,h.v,i.v]::box a6 80 [.bool j.1,.bool j.2.1,B.v,iV j.2.2.2]::rs)) rfl (fun a7=>?_) ?_
    ·refine gB 40 rfl (fun L=>?_) fun L=>?_
     ·refine q 2 rfl ?_
      refine jW 5 [1,3,5,8,29,30,31,40] [(47,.bool (o || (decide (j.2.2.2 < n))))] (St w0 (imm xw B.v j.2.2.1::ax) (box l 26 [iV b,iV d,f.v,h.v,i.v]::box a6 80 [.bool j.1,.bool j.2.1,B.v,iV j.2.2.2]::rs)) rfl (fun a8=>?_) ?_
      ·refine gB 42 rfl (fun N=>?_) fun N=>?_
       ·exact q 5 rfl (a8 _ _ (a.k10) (O1 (C1 Value.bool (orT N)) rfl))
       ·refine z 1 3 ?_
        exact a8 _ _ (a.k10) (O1 (C1 Value.bool (orF N)) rfl)
      intro g w a
      exact q 1 rfl (a7 _ _ a (O1 (C1 Value.bool (B6 L)) rfl))
     ·exact q 8 rfl (a7 _ _ (a.k10) (O1 (C1 Value.bool (C6 L)) rfl))
    intro g w a
    refine q 2 rfl ?_
    refine jC (Int×Bool) [1,29,30,31] (fun (C,D)=>[(3,iV C),(5,.bool D)]) (fun (C,D) w=>St w0 ax (box l 26 [iV b,iV d,f.v,h.v,i.v]::rs) w∧m_dt r C D=some c9) rfl ?_ ?_
    ·rintro ⟨C,D⟩ g w ⟨a,c⟩
     refine q 6 rfl ?_
     cases c
     exact lo a
    refine cJ c (fun d2 c=>?_) fun d2 c=>?_
    ·refine dS [2,3] 2 A1 ?_
     replace a:=a.drew
     refine z 4 0 ?_
     exact jx (_,_) ⟨((a.k11).fc),c⟩
    ·exact q 1 rfl (jx (_,_) ⟨((a.k11).fc),c⟩)
   ·refine q 2 rfl ?_
    cases c
    exact xo a
 ·refine q 11 rfl ?_
  cases c
  replace a:=((a.rowNh 37 rH).fNew 62 Cw).k10
  exact E _ _ _ (V7 results17 ⟨rfl,rfl⟩ ⟨rfl,rfl⟩ ⟨rfl,rfl⟩ ⟨_,_,rfl,(a.k1q)⟩)
instance:CL prog 17 (type_of% @vp):=⟨@vp⟩
theorem rp {j:List (List (Bool×LI))} {b:Int} {k:Hdr} {out:(List (List (Bool×LI)))} (c:m_dx j b=some out) (s:imm (rS Cw) k.v j∈ax) (a:St w0 ax rs w):
  Calls prog 104 #[k.v,iV b] w (fun e w=>∃ (m:Hdr),e=.returned (m.v)∧St w0 ax (row 37 (rS Cw) m.v out::rs) w):=by
 refine en func104 rfl ntmps104 fun Q A=>?_
 refine z 1 4 ?_
 refine bE c fun o t c=>?_
 replace a:=a.rowNh 37 (rS Cw)
 refine lpN Hdr Hdr t [1,8,9] (fun (f,h) d=>[(5,d.v),(10,iV h)]) (fun (f,h) d=>St w0 ax (row 37 (rS Cw) d.v f::rs)) (fun | o,i=>(.exit 0,[(5,i.v)],St w0 ax (row 37 (rS Cw) i.v o::rs))) rfl _ a rfl ?_ ?_
 ·clear a
  rintro i g w a
  exact vx
 rintro ⟨f,h⟩ d g w B a c
 refine v 0 ?_
 refine ⟨fun _ _ _ u c=>?_,vt⟩
 obtain ⟨p,a⟩:=iLs a s u
 refine y (yCt D4 e0 a F1 rfl) (bE c fun x r c=>q 7 rfl (y (ySl (k1:=.i64) V2 e0 a (rdI F0) (.inr ⟨rfl,rfl⟩) (.inl (C1 some e0)) r) ?_))
 replace a:=a.sub F0 r
 exact yh (rLt (n:=1) (l:=[x]) a A5 [(subH p 2 0 b).v] (bp1 e0) rfl rfl (U1 (cs:=[(subH p 2 0 b).v]) rfl (mkS F0) E2)) fun C w a=>vx
instance:CL prog 104 (type_of% @rp):=⟨@rp⟩
theorem qp {b:List (List (Bool×LI))} {d:Hdr} {out:Int} (c:m_dy b=some out) (e:imm (rS Cw) d.v b∈ax) (a:St w0 ax rs w):
  Calls prog 79 #[d.v] w (rv w0 ax rs (iV out)):=by
 refine en func79 rfl ntmps79 fun Q g=>?_
 refine v 0 ?_
 refine ⟨vt,fun _ _ _ f c=>?_⟩
 obtain ⟨h,a⟩:=iLs a e f
 exact vx
instance:CL prog 79 (type_of% @qp):=⟨@qp⟩
theorem Wi {f:List (Bool×LI)} {b:Int} {g:Hdr} {d:Nat} {out:Bool} (c:m_dz f b=some out) (h:imm Cw g.v f∈ax) (a:St w0 ax (box d 3 [iV b]::rs) w):
  Calls prog 134 #[g.v,(pB d)] w (fun e w=>e=.returned (.bool out)∧St w0 ax (box d 3 [iV b]::rs) w):=by
 exact en func134 rfl ntmps134 fun Q i=>vx
instance:CL prog 134 (type_of% @Wi):=⟨@Wi⟩
theorem np {h:List (List (Bool×LI))} {b:Int} {i:Hdr} {d:Nat} {out:Int} (c:m_d1 h b=some out) (k:imm (rS Cw) i.v h∈ax) (a:St w0 ax (box d 3 [iV b]::rs) w):
  Calls prog 173 #[i.v,.func (.func 134) #[] #[(pB d)]] w (fun e w=>e=.returned (iV out)∧St w0 ax (box d 3 [iV b]::rs) w):=by
 refine en func173 rfl ntmps173 fun Q p=>?_
 refine z 1 4 ?_
 refine bE c fun l m c=>?_
 refine lp m [0,1,7] (fun f=>[(8,iV f)]) (fun f=>St w0 ax (box d 3 [iV b]::rs)) (fun | .inl ()=>(.exit 0,[],St w0 ax (box d 3 [iV b]::rs)) | .inr j=>(.ret,[(4,iV j)],St w0 ax (box d 3 [iV b]::rs))) rfl a rfl ?_ ?_
 ·clear a
  intro g w a
  rcases l with ⟨⟩ | j
  ·exact vx
  ·exact vx
 rintro f g w q a c
 refine v 0 ?_
 refine ⟨fun _ _ _ n c=>?_,vt⟩
 obtain ⟨r,a⟩:=iLs a k n
 refine y (yCt D4 e0 a F1 rfl) (bE c fun s o c=>yC (ae mG e0 (a1 e0)) (Wi o F0 a) ?_)
 rintro _ w ⟨rfl,a⟩
 refine ⟨_,rfl,?_⟩
 exact nf vx
instance:CL prog 173 (type_of% @np):=⟨@np⟩
theorem kp {f:List (List (Bool×LI))} {b:Int} {g:Hdr} {d:Nat} {out:Bool} (c:m_d2 f b=some out) (h:imm (rS Cw) g.v f∈ax) (a:St w0 ax (box d 3 [iV b]::rs) w):
  Calls prog 133 #[g.v,.func (.func 134) #[] #[(pB d)]] w (fun e w=>e=.returned (.bool out)∧St w0 ax (box d 3 [iV b]::rs) w):=by
 exact en func133 rfl ntmps133 fun Q i=>vx
instance:CL prog 133 (type_of% @kp):=⟨@kp⟩
theorem fp {b:List (List (Bool×LI))} {d:Hdr} {out:Int} (c:m_d3 b=some out) (f:imm (rS Cw) d.v b∈ax) (a:St w0 ax rs w):
  Calls prog 76 #[d.v] w (rv w0 ax rs (iV out)):=by
 refine en func76 rfl ntmps76 fun Q g=>?_
 refine z 3 7 ?_;intro h i c w a e w a w a
 exact y (ymf (vf:=#[]) (vc:=#[(pB e)]) a0 (a1 e0)) vx
instance:CL prog 76 (type_of% @fp):=⟨@fp⟩
theorem Of {x:List (List (Bool×LI))} {A:List (Bool×LI)} {B C:Hdr} {out:(List (List (Bool×LI)))} (c:m_d7 x A=some out) (K:imm (rS Cw) B.v x∈ax) (L:imm Cw C.v A∈ax) (a:St w0 ax rs w):
  Calls prog 78 #[B.v,C.v] w (fun e w=>∃ (D:Hdr) (E:List Hdr),e=.returned (D.v)∧St w0 ax (row 37 rH D.v E::fam 62 Cw E out::rs) w):=by
 refine en func78 rfl ntmps78 fun Q N=>?_
 refine z 1 4 ?_
 refine bE c fun F O c=>?_
 replace a:=((a.rowNh 37 rH).fNew 62 Cw).k10
 refine lpN (Hdr×(List Hdr)) (Hdr×(List Hdr)) O [1,11,12] (fun (d,j) (f,b)=>[(5,f.v),(13,iV j)]) (fun (d,j) (f,b)=>St w0 ax (row 37 rH f.v b::fam 62 Cw b d::rs)) (fun | F,(p,r)=>(.exit 0,[(5,p.v)],St w0 ax (row 37 rH p.v r::fam 62 Cw r F::rs))) rfl (_,_) a rfl ?_ ?_
 ·clear a
  rintro ⟨p,r⟩ g w a
  refine q 9 rfl ?_
  cases c
  exact N _ _ _ (M3 results78 ⟨rfl,rfl⟩ ⟨_,_,rfl,a⟩)
 rintro ⟨d,j⟩ ⟨f,b⟩ g w R a c
 refine q 6 rfl (cI c (fun S c=>?_) fun S c=>?_)
 ·refine z 1 0 ?_;intro T U c
  obtain ⟨V,a⟩:=iLs a K U
  refine y (yCt D4 e0 a F1 rfl) ?_
  refine z 1 4 ?_
  refine bE c fun G W c=>?_
  replace a:=a.rowNh 62 Cw
  refine lpN Hdr Hdr W [1,5,6,11,12,13,18,19] (fun (s,t) k=>[(8,k.v),(20,iV t)]) (fun (s,t) k=>St w0 (imm Cw V.v T::ax) (row 37 rH f.v b::fam 62 Cw b d::row 62 Cw k.v s::rs)) (fun | G,u=>(.exit 2,[(8,u.v)],St w0 ax (row 37 rH f.v b::fam 62 Cw b d::row 62 Cw u.v G::rs))) rfl _ ((a.k1d).facts (S0 F0 (N0 (N0 E1)))) rfl ?_ ?_
  ·clear a
   rintro u g w a
   refine z 1 3 ?_
   refine jC ((List (Bool×LI))×Hdr) [1,5,11,12,13] (fun (i,h)=>[(8,h.v)]) (fun (i,h) w=>St w0 ax (row 37 rH f.v b::fam 62 Cw b d::row 62 Cw h.v i::rs) w∧m_d4 d j i=some R) rfl ?_ ?_
   ·rintro ⟨i,h⟩ g w ⟨a,c⟩
    refine q 4 rfl (yh (rLt (n:=1) (l:=[h]) a T4 [h.v] (bp1 e0) rfl rfl (U1 rfl (mkF rfl) E2)) fun a7 w a=>bE c fun a8 H c=>?_)
    replace a:=a.k10
    obtain ⟨a9,ey217,X⟩:=Bc H (a.famL R2) (show [h].length=[i].length from rfl)
    refine yh (rAp a T4 e0 e0 rO1 X) fun b0 w a=>?_
    replace a:=(a.k1e).fPush
    rw [← ey217,← (Ma H).1] at a
    refine q 8 rfl ?_
    cases c
    exact ln (_,_) (a.k1f)
   refine cI c (fun Z c=>?_) fun Z c=>?_
   ·refine z 1 0 ?_;intro a0 a1 c
    obtain ⟨b1,b2,a⟩:=iLd a L a1
    obtain ⟨b3,b4,rfl,a⟩:=a.eltP
    obtain ⟨rfl,a⟩:=a.eltB
    obtain ⟨a2,rfl,a⟩:=a.eltS
    refine y (Z5 (cs:=[.bool a0.1,a2.v]) P0 rfl e0 a F1) ?_
    refine z 1 0 ?_;intro m b5 c I w a
    refine yh (rLt (n:=1) (l:=[(m.1,m.2)]) a V2 [.agg #[.bool m.1,I.v]] (bp1 e0) rfl rfl (U1 (cs:=[.bool m.1,I.v]) rfl (mkP mkB (mkS F0)) E2)) fun b6 w a=>?_
    refine z 1 2 ?_;intro b7 b8 c b9 w a
    exact jx (_,_) ⟨((a.k1h).fc),c⟩
   ·exact q 1 rfl (jx (_,_) ⟨a,c⟩)
  rintro ⟨s,t⟩ k g w c0 a c
  refine q 6 rfl (cI c (fun a3 c=>?_) fun a3 c=>?_)
  ·refine z 1 0 ?_;intro a4 a5 c
   obtain ⟨c1,c2,a⟩:=iLd a F0 a5
   obtain ⟨c3,c4,rfl,a⟩:=a.eltP
   obtain ⟨rfl,a⟩:=a.eltB
   obtain ⟨a6,rfl,a⟩:=a.eltS
   refine y (Z5 (cs:=[.bool a4.1,a6.v]) P0 rfl e0 a F1) ?_
   refine z 4 0 ?_;intro c5 w a w a o c6 c J w a
   refine yh (rLt (n:=1) (l:=[(o.1,o.2)]) a V2 [.agg #[.bool o.1,J.v]] (bp1 e0) rfl rfl (U1 (cs:=[.bool o.1,J.v]) rfl (mkP mkB (mkS F0)) E2)) fun c7 w a=>?_
   refine z 1 8 ?_;intro c8 c9 c d0 w a
   cases c
   exact ln _ ((a.k34).facts (S0 F3 (N0 (N0 (N0 (N0 E1))))))
  ·refine q 2 rfl ?_
   cases c
   exact lx _ (a.fc)
 ·refine q 2 rfl ?_
  cases c
  exact lx (_,_) a
instance:CL prog 78 (type_of% @Of):=⟨@Of⟩
theorem dp {e f:LI} {n o:Hdr} {out:LI} (c:m_ea e f=some out) (J:imm xw n.v e∈ax) (K:imm xw o.v f∈ax) (a:St w0 ax rs w):
  Calls prog 132 #[n.v,o.v] w (ri w0 ax rs xw out):=by
 refine en func132 rfl ntmps132 fun Q p=>?_
 refine z 1 2 ?_
 refine jW 4 [0,1] [(19,.bool ((decide ((e.length:Int)=0)) || (decide ((f.length:Int)=0))))] (St w0 ax rs) rfl (fun r=>?_) ?_
 ·refine gB 15 rfl (fun h=>?_) fun h=>?_
  ·exact q 4 rfl (r _ _ a (O1 (C1 Value.bool (orT h)) rfl))
  ·refine z 1 2 ?_
   exact r _ _ a (O1 (C1 Value.bool (orF h)) rfl)
 intro g w a
 refine q 2 rfl ?_
 refine cJ c (fun A c=>?_) fun A c=>?_
 ·refine q 7 rfl ?_
  cases c
  replace a:=a.immNh xw
  exact p _ _ _ (M3 results132 ⟨rfl,rfl⟩ ⟨_,rfl,a⟩)
 ·refine z 2 1 ?_
  refine bE c fun L B c=>yh (rMk a X1 e0 B) fun b w a=>?_
  refine z 1 4 ?_
  refine bE c fun s C c=>?_
  refine lp C [1,5,26,27] (fun (i,j)=>[(28,iV j)]) (fun (i,j)=>St w0 ax (row 126 xw b.v i::rs)) (fun | s=>(.exit 0,[],St w0 ax (row 126 xw b.v s::rs))) rfl a rfl ?_ ?_
  ·clear a
   intro g w a
   refine z 1 4 ?_;intro N O c R w a
   cases c
   exact p _ _ _ (M3 results132 ⟨rfl,rfl⟩ ⟨_,rfl,(a.facts (S0 F0 (N0 (N0 E1))))⟩)
  rintro ⟨i,j⟩ g w S a c
  refine q 6 rfl (cI c (fun D c=>?_) fun D c=>?_)
  ·refine z 3 4 ?_;intro E T c
   obtain ⟨⟨t,k⟩,F,c⟩:=bs c
   refine lp F [1,5,6,7,26,27,28,33,34] (fun (l,d,m)=>[(8,.int .u64 d),(35,iV m)]) (fun (l,d,m)=>St w0 ax (row 126 xw b.v l::rs)) (fun | (t,k)=>(.exit 2,[(8,.int .u64 k)],St w0 ax (row 126 xw b.v t::rs))) rfl a rfl ?_ ?_
   ·clear a
    intro g w a
    refine z 1 3 ?_
    refine bE c fun U u c=>y (yIs X1 e0 e0 a rO0 u) (yt (S3 (cs:=[.int .u32 (wc .u32 k)]) a Z3 rfl e0 e0 rfl mkI u) fun w a=>q 7 rfl ?_)
    cases c
    exact lo a
   rintro ⟨l,d,m⟩ g w V a c
   refine q 6 rfl (cI c (fun G c=>?_) fun G c=>?_)
   ·refine z 4 16 ?_;intro H W c I X c
    refine bE c fun Z x c=>y (yIs X1 e0 e0 a rO0 x) (yt (S3 (cs:=[.int .u32 (wc .u32 (wand .u64 (wa .u64 (wa .u64 (wm .u64 (wc .u64 E) (wc .u64 H)) (wc .u64 I)) d) 4294967295))]) a Z3 rfl e0 e0 rfl mkI x) fun w a=>q 13 rfl ?_)
    cases c
    exact lo a
   ·refine q 2 rfl ?_
    cases c
    exact xo a
  ·refine q 2 rfl ?_
   cases c
   exact xo a
instance:CL prog 132 (type_of% @dp):=⟨@dp⟩
theorem Nf {b:Bool} {d:LI} {e:Bool} {f:LI} {g h:Hdr} {out:Bool×LI} (c:m_eb b d e f=some out) (i:imm xw g.v d∈ax) (j:imm xw h.v f∈ax) (a:St w0 ax rs w):
  Calls prog 74 #[.agg #[.bool b,g.v],.agg #[.bool e,h.v]] w (rb w0 ax rs out):=by
 exact en func74 rfl ntmps74 fun Q k=>vx
instance:CL prog 74 (type_of% @Nf):=⟨@Nf⟩
end Go.Proofs.YthekfonboblioabGreatDoor
