/- Walks: each function computes its model, printed. -/
import Derived.Test.YthekfonboblioacGreatDoorW5
namespace Go.Proofs.YthekfonboblioacGreatDoor
open Go Sx M Go.Proofs.Tryz
set_option maxRecDepth 100000
set_option maxHeartbeats 40000000
set_option linter.unusedVariables false
attribute [local irreducible] wpList Code.wp Calls DR QR QS LA LS St row box fam imm rowS loop
variable {w0:World} {ros:List Fact} {rs:List Res} {w:World}
theorem Zh {o:L2} {p:Int} {r:Hdr} {out:L2} (c:m_fi o p=some out) (t:imm S1 r.v o∈ros) (a:St w0 ros rs w):
  Calls prog 27 #[r.v,iV p] w (ro w0 ros rs 24 S1 out):=by
 refine en func27 rfl ntmps27 fun Q z=>bE c fun s u c=>q 17 rfl ?_
 replace a:=a.rowNh 24 S1
 refine lpN Hdr Hdr u [0,1] (fun (d,h) b=>[(5,b.v),(6,iV h)]) (fun (d,h) b=>St w0 ros (row 24 S1 b.v d::rs)) (fun | s,i=>(.exit 0,[(5,i.v)],St w0 ros (row 24 S1 i.v s::rs))) rfl _ a rfl ?_ ?_
 ·clear a
  rintro i g w a
  exact vx
 rintro ⟨d,h⟩ b g w A a c
 refine v 0 ?_
 refine ⟨fun _ c=>?_,vt⟩
 refine bE c fun j x c=>?_
 replace a:=a.rowNh 3 I1
 refine lpN Hdr Hdr x [0,1,5,6] (fun (k,m) f=>[(7,f.v),(8,iV m)]) (fun (k,m) f=>St w0 ros (row 24 S1 b.v d::row 3 I1 f.v k::rs)) (fun | j,e=>(.exit 2,[(7,e.v)],St w0 ros (row 24 S1 b.v d::row 3 I1 e.v j::rs))) rfl _ (a.k10) rfl ?_ ?_
 ·clear a
  rintro e g w a
  refine q 5 rfl ?_
  replace a:=(a.k10).fz
  exact yh (rLt (n:=1) (l:=[j]) a ja [e.v] (bp1 e0) rfl rfl (N1 (cs:=[e.v]) rfl (mkS F0) Y1)) fun B w a=>vx
 rintro ⟨k,m⟩ f g w C a c
 refine v 0 ?_
 refine ⟨fun _ _ _ y c=>?_,vt⟩
 obtain ⟨D,a⟩:=iLs a t y
 exact vx
instance:CL prog 27 (type_of% @Zh):=⟨@Zh⟩
theorem Yh {d b:Int} {x z A:LI} {i j k:Hdr} {out:Int×Int×LI×LI×(List (List (Bool×LI)))×Int} (c:m_fk d b x z A=some out) (K:imm I1 i.v x∈ros) (L:imm I1 j.v z∈ros) (N:imm (rI .u64) k.v A∈ros) (O:globF∈ros) (a:St w0 ros rs w):
  Calls prog 7 #[.agg #[iV d,iV b,i.v,j.v,k.v]] w (fun e w=>∃ (B C D:Hdr),e=.returned (.tuple #[.agg #[iV out.1,iV out.2.1,B.v,C.v,D.v],iV out.2.2.2.2.2])∧St w0 ros (row 3 I1 B.v out.2.2.1::row 3 I1 C.v out.2.2.2.1::row 39 (rS (rP rB (rS (rI .u32)))) D.v out.2.2.2.2.1::rs) w):=by
 refine en func7 rfl ntmps7 fun Q p=>q 2 rfl (yb (Ui (vals:=[iV d,iV b,i.v,j.v,k.v]) a e0 rfl) fun R w a=>yb (rAl a jk) fun r w a=>q 5 rfl (y (J2 [iV d,iV b,i.v,j.v,k.v] L9 e0 a R1) (bE c fun S T c=>cO (xf T K L N O a) fun U w a=>q 16 rfl ?_)))
 refine cIn c (fun V c=>?_) fun V c=>?_
 ·refine q 6 rfl (y (lb_ (iV b) O_3 e0 a R2) (bE c fun f W c=>?_))
  replace a:=a.fz
  refine cO (si W F0 a) fun h w a=>q 6 rfl (y (lb_ (iV b) O_3 e0 a R2) (q 1 rfl (y (Y2 L5 e0 a rO0) (bE c fun X Z c=>q 6 rfl (cO (ki Z a) fun a0 w a=>bE c fun a1 a2 c=>q 10 rfl ?_)))))
  refine lpN Unit (Hdr×Hdr) a2 [1,2,4,7,8,9] (fun s _=>[(10,iV s)]) (fun s _=>St w0 (imm (rS (rP rB (rS (rI .u32)))) U.v S.1::ros) (box R 27 [iV d,iV b,i.v,j.v,k.v]::box r 35 [iV 0,iV 0,hnil.v,hnil.v,hnil.v]::row 39 (rS (rP rB (rS (rI .u32)))) h.v f::row 3 I1 a0.v X::rs)) (fun | .inl (),(_,_)=>(.exit 0,[],St w0 ros (box r 35 [iV 0,iV 0,hnil.v,hnil.v,hnil.v]::rs)) | .inr (E,F,G),(t,u)=>(.ret,[(3,iV 0)],St w0 ros (row 3 I1 t.v F::row 3 I1 u.v G::row 39 (rS (rP rB (rS (rI .u32)))) h.v f::box r 35 [iV (ws .i64 b (f.length:Int)),iV E,t.v,u.v,h.v]::rs))) rfl () (a.k33) rfl ?_ ?_
  ·clear a
   rintro ⟨t,u⟩ g w a
   rcases a1 with ⟨⟩ | ⟨E,F,G⟩
   ·refine q 4 rfl (y (ua (us:=[iV 0,iV 0,hnil.v,hnil.v,hnil.v]) [] Rg bp0 rfl) (sB rfl a C8 fun w a=>q 4 rfl ?_))
    cases c
    replace a:=((a.rowNh 3 I1).rowNh 3 I1).rowNh 39 (rS (rP rB (rS (rI .u32))))
    exact p _ _ _ (G4 results7 (A4 rfl rfl a R3 C8 rfl) ⟨rfl,rfl⟩ ⟨_,_,_,rfl,(a.k46)⟩)
   ·refine q 2 rfl ?_
    cases c
    exact p _ _ _ (G4 results7 (A4 rfl rfl a R3 C8 rfl) ⟨rfl,rfl⟩ ⟨_,_,_,rfl,(a.k4a)⟩)
  rintro s _ g w a9 a c
  refine q 5 rfl (y (Y2 W0 e0 a rO3) (q 3 rfl (cI c (fun a3 c=>?_) fun a3 c=>?_)))
  ·refine q 9 rfl (bE c fun b0 H c=>y (yIa W0 e0 e0 a rO3 H) (y (yI O_3 e0 a rO3 H) (bE c fun b1 a4 c=>cO (ji a4 F0 a) fun b2 w a=>bE c fun b3 I c=>bE c fun b4 a5 c=>q 4 rfl (dS [7,8] 2 C1 ?_))))
   replace a:=a.drew
   refine D1 127 0 7 rfl (qR 2 rfl (rQ rfl (lb_ (iV b) O_3 e0 a R1) (qR 2 rfl (rQ rfl (yIa W0 e0 e0 a rO4 I) (rQ rfl (yI O_3 e0 a rO4 I) (Rn QSn ?_))))))
   replace a:=a.fz
   refine kO (qf a5 F0 a) fun l w a=>dU (D1 0 0 8 rfl (Rn QSn (Ly wn (a_ l.v e0) (dU (Dw 0 0 (Rn QSn (qx 5 rfl (y (Y2 W0 e0 a rO0) (q 4 rfl ?_)))))))))
   refine cIn c (fun a6 c=>?_) fun a6 c=>?_
   ·refine q 3 rfl (bE c fun b5 a7 c=>bE c fun b6 n c=>bE c fun b7 a8 c=>dS [3,10,11] 3 C1 ?_)
    replace a:=a.drew
    refine D1 1015 0 3 rfl (qR 2 rfl (rQ rfl (lb_ (iV b) O_3 e0 a R1) (qR 1 rfl (rQ rfl (lb_ (iV d) O_3 e0 a R1) (qR 2 rfl (rQ rfl (yIa W0 e0 e0 a rO4 n) (rQ rfl (yI O_3 e0 a rO4 n) (Rn QSn (kO (Zh a7 F0 a) fun b8 w a=>dU (D1 0 1008 10 rfl (Rn (qS rfl (sY rfl (lb_ (iV d) O_3 e0 a R2) (qS rfl (qS rfl (sY rfl (yIa W0 e0 e0 a rO5 n) (sY rfl (yI O_3 e0 a rO5 n) QSn)))))) ?_)))))))))))
    replace a:=a.fz
    refine kO (qf a8 F0 a) fun m w a=>dU (D1 0 0 11 rfl (Rn QSn (Ly wn (a_ m.v e0) (dU (Dw 0 0 (Rn QSn (bE c fun o J c=>qx 6 rfl (y (yIa W0 e0 e0 a rO5 J) (y (yI O_3 e0 a rO5 J) (q 3 rfl (y (ua (us:=[iV (ws .i64 b (f.length:Int)),iV o,m.v,l.v,h.v]) [(0,iV (ws .i64 b (f.length:Int))),(1,iV o),(2,m.v),(3,l.v),(4,h.v)] Rg (bp5 e0 e0 e0 e0 e0) rfl) ?_)))))))))))
    replace a:=a.k1f
    refine yt (G3 (vals':=[iV (ws .i64 b (f.length:Int)),iV o,m.v,l.v,h.v]) (us:=[iV (ws .i64 b (f.length:Int)),iV o,m.v,l.v,h.v]) a C8 e0 e0 rfl rfl (H3 rfl) rfl) fun w a=>q 6 rfl ?_
    cases c
    exact lx (_,_) ((a.k4b).fc)
   ·refine q 9 rfl ?_
    cases c
    exact ln () ((a.k34).facts (S0 F1 (N0 (N0 E1))))
  ·refine q 2 rfl ?_
   cases c
   exact lx (hnil,hnil) ((a.k15).fc)
 ·refine q 2 rfl (y (ua (us:=[iV 0,iV 0,hnil.v,hnil.v,hnil.v]) [] Rg bp0 rfl) (q 1 rfl ?_))
  replace a:=a.k10
  refine sB rfl a C8 fun w a=>q 5 rfl ?_
  cases c
  replace a:=((a.rowNh 3 I1).rowNh 3 I1).rowNh 39 (rS (rP rB (rS (rI .u32))))
  exact p _ _ _ (G4 results7 (A4 rfl rfl a R3 C8 rfl) ⟨rfl,rfl⟩ ⟨_,_,_,rfl,(a.k4c)⟩)
instance:CL prog 7 (type_of% @Yh):=⟨@Yh⟩
theorem vo {b d e:Int} {out:Bool} (c:m_fl b d e=some out) (a:St w0 ros rs w):
  Calls prog 106 #[iV b,iV d,iV e] w (rv w0 ros rs (.bool out)):=by
 refine en func106 rfl ntmps106 fun Q i=>q 11 rfl ?_
 refine jW 4 [] [(14,.bool ((decide (d≤b)) && (decide (b≤e))))] (St w0 ros rs) rfl (fun h=>?_) ?_
 ·refine gB 10 rfl (fun f=>?_) fun f=>?_
  ·exact q 4 rfl (h _ _ a (J1 (Z0 Value.bool (J5 f)) rfl))
  ·exact q 4 rfl (h _ _ a (J1 (Z0 Value.bool (K5 f)) rfl))
 intro g w a
 exact vx
instance:CL prog 106 (type_of% @vo):=⟨@vo⟩
theorem uo {b:Int} {out:Bool} (c:m_fm b=some out) (a:St w0 ros rs w):
  Calls prog 188 #[iV b] w (rv w0 ros rs (.bool out)):=by
 exact en func188 rfl ntmps188 fun Q d=>vx
instance:CL prog 188 (type_of% @uo):=⟨@uo⟩
theorem so {b d:Int} {out:Bool} (c:m_fn b d=some out) (a:St w0 ros rs w):
  Calls prog 181 #[iV b,iV d] w (rv w0 ros rs (.bool out)):=by
 exact en func181 rfl ntmps181 fun Q e=>vx
instance:CL prog 181 (type_of% @so):=⟨@so⟩
theorem Od {d:LI} {e:Hdr} {out:Bool} (c:m_fp d=some out) (i:imm I1 e.v d∈ros) (a:St w0 ros rs w):
  Calls prog 149 #[e.v] w (rv w0 ros rs (.bool out)):=by
 refine en func149 rfl ntmps149 fun Q j=>?_
 refine z 1 5 ?_
 refine bE c fun f h c=>?_
 refine lp h [0] (fun b=>[(3,iV b)]) (fun b=>St w0 ros rs) (fun | .inl ()=>(.exit 0,[],St w0 ros rs) | .inr ()=>(.ret,[(2,.bool false)],St w0 ros rs)) rfl a rfl ?_ ?_
 ·clear a
  intro g w a
  rcases f with ⟨⟩ | ⟨⟩
  ·exact vx
  ·exact vx
 rintro b g w k a c
 exact vx
instance:CL prog 149 (type_of% @Od):=⟨@Od⟩
theorem qo {p e:Int} {J K L:LI} {d f m:Hdr} {out:Bool} (c:m_fs p e J K L=some out) (b:imm I1 d.v J∈ros) (u:imm I1 f.v K∈ros) (a6:imm (rI .u64) m.v L∈ros) (a:St w0 ros rs w):
  Calls prog 107 #[.agg #[iV p,iV e,d.v,f.v,m.v]] w (rv w0 ros rs (.bool out)):=by
 refine en func107 rfl ntmps107 fun Q c1=>?_
 refine z 1 5 ?_;intro y w a
 refine bE c fun r n c=>bE c fun o j c=>bE c fun k h c=>bE c fun s i c=>?_
 refine jN Unit [1] (fun _=>[(47,.bool s)]) (fun _=>St w0 ros (box y 27 [iV p,iV e,d.v,f.v,m.v]::rs)) rfl ?_ ?_
 ·rcases Z5 n with ⟨t,n⟩ | ⟨t,n⟩
  ·refine bE n fun c2 l n=>?_
   have A:=U1 n
   rcases Z5 j with ⟨x,j⟩ | ⟨x,j⟩
   ·have N:=U1 j
    have O:o=true:=N.symm
    rw [M0 O] at h
    have R:=U1 h
    have S:k=true:=R.symm
    rw [M0 S] at i
    have a7:=U1 i
    refine dS [17] 1 C1 ?_
    replace a:=a.drew
    refine D1 131071 0 17 rfl (qR 1 rfl (rQ rfl (lb_ d.v M1 e0 a R0) (rQ rfl (Y2 W0 e0 a (rdI b)) (qR 1 rfl (rQ rfl (lb_ (iV e) O_3 e0 a R0) (qR 3 rfl (rK 14 rfl (nF (dT t)) (qR 1 rfl (rQ rfl (lb_ d.v M1 e0 a R0) (rQ rfl (yIa W0 e0 rfl a (rdI b) l) (rQ rfl (yI O_3 e0 a (rdI b) l) (qR 1 rfl (rQ rfl (pf_ (.bool r) e0 rfl (eqv A e0)) ?_)))))))))))))
    refine qR 1 rfl (rK 21 rfl x (qR 2 rfl (Rn QSn (Lx (Q2.2 rfl) (dU (Dw 2199022993408 0 (qR 1 rfl (rQ rfl (pt_ (.bool o) e0 rfl (eqv N rfl)) (qR 1 rfl (rK 27 rfl O (qR 10 rfl (rQ rfl (pt_ (.bool k) e0 rfl (eqv R rfl)) (qR 1 rfl ?_)))))))))))))
    exact rK 39 rfl S (qR 7 rfl (rQ rfl (pt_ (.bool s) e0 rfl (eqv a7 rfl)) (Rn QSn (jr () a))))
   ·refine bE j fun c3 D j=>?_
    have E:=U1 j
    rcases Z5 h with ⟨B,h⟩ | ⟨B,h⟩
    ·have T:=U1 h
     have U:k=true:=T.symm
     rw [M0 U] at i
     have a8:=U1 i
     refine dS [17] 1 C1 ?_
     replace a:=a.drew
     refine D1 131071 0 17 rfl (qR 1 rfl (rQ rfl (lb_ d.v M1 e0 a R0) (rQ rfl (Y2 W0 e0 a (rdI b)) (qR 1 rfl (rQ rfl (lb_ (iV e) O_3 e0 a R0) (qR 3 rfl (rK 14 rfl (nF (dT t)) (qR 1 rfl (rQ rfl (lb_ d.v M1 e0 a R0) (rQ rfl (yIa W0 e0 rfl a (rdI b) l) (rQ rfl (yI O_3 e0 a (rdI b) l) (qR 1 rfl (rQ rfl (pf_ (.bool r) e0 rfl (eqv A e0)) ?_)))))))))))))
     refine qR 1 rfl (rK 21 rfl (J3 x) (qR 1 rfl (rQ rfl (lb_ d.v M1 e0 a R0) (Rn QSn (kZ (Od D b a) fun w a=>dU (Dw 2199022993408 0 (qR 1 rfl (rQ rfl (pf_ (.bool o) e0 rfl (eqv E e0)) (qR 1 rfl (rK 27 rfl B (qR 10 rfl (rQ rfl (pt_ (.bool k) e0 rfl (eqv T rfl)) ?_))))))))))))
     exact qR 1 rfl (rK 39 rfl U (qR 7 rfl (rQ rfl (pt_ (.bool s) e0 rfl (eqv a8 rfl)) (Rn QSn (jr () a)))))
    ·refine bE h fun c4 C h=>?_
     have V:=U1 h
     rcases Z5 i with ⟨F,i⟩ | ⟨F,i⟩
     ·have a9:=U1 i
      refine dS [17] 1 C1 ?_
      replace a:=a.drew
      refine D1 131071 0 17 rfl (qR 1 rfl (rQ rfl (lb_ d.v M1 e0 a R0) (rQ rfl (Y2 W0 e0 a (rdI b)) (qR 1 rfl (rQ rfl (lb_ (iV e) O_3 e0 a R0) (qR 3 rfl (rK 14 rfl (nF (dT t)) (qR 1 rfl (rQ rfl (lb_ d.v M1 e0 a R0) (rQ rfl (yIa W0 e0 rfl a (rdI b) l) (rQ rfl (yI O_3 e0 a (rdI b) l) (qR 1 rfl (rQ rfl (pf_ (.bool r) e0 rfl (eqv A e0)) ?_)))))))))))))
      refine qR 1 rfl (rK 21 rfl (J3 x) (qR 1 rfl (rQ rfl (lb_ d.v M1 e0 a R0) (Rn QSn (kZ (Od D b a) fun w a=>dU (Dw 2199022993408 0 (qR 1 rfl (rQ rfl (pf_ (.bool o) e0 rfl (eqv E e0)) (qR 1 rfl (rK 27 rfl (J3 B) (qR 1 rfl (rQ rfl (lb_ d.v M1 e0 a R0) ?_))))))))))))
      exact qR 1 rfl (rQ rfl (lb_ (iV e) O_3 e0 a R0) (rQ rfl (yIa W0 e0 e0 a (rdI b) C) (rQ rfl (yI O_3 e0 a (rdI b) C) (qR 1 rfl (rQ rfl (lb_ f.v M1 e0 a R0) (rQ rfl (Y2 W0 e0 a (rdI u)) (qR 1 rfl (rQ rfl (pf_ (.bool k) e0 rfl (eqv V e0)) (qR 1 rfl (rK 39 rfl F (qR 7 rfl (rQ rfl (pt_ (.bool s) e0 rfl (eqv a9 rfl)) (Rn QSn (jr () a))))))))))))))
     ·have b0:=U1 i
      refine dS [17] 1 C1 ?_
      replace a:=a.drew
      refine D1 131071 0 17 rfl (qR 1 rfl (rQ rfl (lb_ d.v M1 e0 a R0) (rQ rfl (Y2 W0 e0 a (rdI b)) (qR 1 rfl (rQ rfl (lb_ (iV e) O_3 e0 a R0) (qR 3 rfl (rK 14 rfl (nF (dT t)) (qR 1 rfl (rQ rfl (lb_ d.v M1 e0 a R0) (rQ rfl (yIa W0 e0 rfl a (rdI b) l) (rQ rfl (yI O_3 e0 a (rdI b) l) (qR 1 rfl (rQ rfl (pf_ (.bool r) e0 rfl (eqv A e0)) ?_)))))))))))))
      refine qR 1 rfl (rK 21 rfl (J3 x) (qR 1 rfl (rQ rfl (lb_ d.v M1 e0 a R0) (Rn QSn (kZ (Od D b a) fun w a=>dU (Dw 2199022993408 0 (qR 1 rfl (rQ rfl (pf_ (.bool o) e0 rfl (eqv E e0)) (qR 1 rfl (rK 27 rfl (J3 B) (qR 1 rfl (rQ rfl (lb_ d.v M1 e0 a R0) ?_))))))))))))
      refine qR 1 rfl (rQ rfl (lb_ (iV e) O_3 e0 a R0) (rQ rfl (yIa W0 e0 e0 a (rdI b) C) (rQ rfl (yI O_3 e0 a (rdI b) C) (qR 1 rfl (rQ rfl (lb_ f.v M1 e0 a R0) (rQ rfl (Y2 W0 e0 a (rdI u)) (qR 1 rfl (rQ rfl (pf_ (.bool k) e0 rfl (eqv V e0)) (qR 1 rfl (rK 39 rfl (J3 F) (qR 1 rfl (rQ rfl (lb_ f.v M1 e0 a R0) (rQ rfl (Y2 W0 e0 a (rdI u)) ?_)))))))))))))
      exact qR 1 rfl (rQ rfl (lb_ m.v Oa e0 a R0) (rQ rfl (Y2 ka e0 a (rdI a6)) (qR 1 rfl (rQ rfl (pf_ (.bool s) e0 rfl (eqv b0 e0)) (Rn QSn (jr () a))))))
  ·have W:=U1 n
   have X:r=true:=W.symm
   rw [M0 X] at j
   have Z:=U1 j
   have a0:o=true:=Z.symm
   rw [M0 a0] at h
   have a1:=U1 h
   have a2:k=true:=a1.symm
   rw [M0 a2] at i
   have b1:=U1 i
   refine dS [17] 1 C1 ?_
   replace a:=a.drew
   refine D1 131071 0 17 rfl (qR 1 rfl (rQ rfl (lb_ d.v M1 e0 a R0) (rQ rfl (Y2 W0 e0 a (rdI b)) (qR 1 rfl (rQ rfl (lb_ (iV e) O_3 e0 a R0) (qR 3 rfl (rK 14 rfl (nT (dF t)) (qR 5 rfl (rQ rfl (pt_ (.bool r) e0 rfl (eqv W rfl)) (qR 1 rfl (rK 21 rfl X (qR 2 rfl (Rn QSn ?_)))))))))))))
   exact Lx (Q2.2 rfl) (dU (Dw 2199022993408 0 (qR 1 rfl (rQ rfl (pt_ (.bool o) e0 rfl (eqv Z rfl)) (qR 1 rfl (rK 27 rfl a0 (qR 10 rfl (rQ rfl (pt_ (.bool k) e0 rfl (eqv a1 rfl)) (qR 1 rfl (rK 39 rfl a2 (qR 7 rfl (rQ rfl (pt_ (.bool s) e0 rfl (eqv b1 rfl)) (Rn QSn (jr () a))))))))))))))
 rintro _ g w a
 refine v 0 ?_
 refine ⟨vt,fun _ c=>?_⟩
 refine bE c fun b2 b3 c=>?_
 refine lp b3 [1,49] (fun G=>[(50,iV G)]) (fun G=>St w0 ros (box y 27 [iV p,iV e,d.v,f.v,m.v]::rs)) (fun | .inl ()=>(.exit 0,[],St w0 ros rs) | .inr ()=>(.ret,[(2,.bool false)],St w0 ros rs)) rfl a rfl ?_ ?_
 ·clear a
  intro g w a
  rcases b2 with ⟨⟩ | ⟨⟩
  ·exact vx
  ·exact vx
 rintro G g w c5 a c
 refine q 6 rfl (cI c (fun b4 c=>?_) fun b4 c=>?_)
 ·refine q 16 rfl (bE c fun b5 a3 c=>bE c fun b6 a4 c=>bE c fun b7 a5 c=>dS [] 0 C1 ?_)
  replace a:=a.drew
  refine Dw 65535 0 (qR 1 rfl (rQ rfl (lb_ f.v M1 e0 a R0) (qR 1 rfl (rQ rfl (lb_ d.v M1 e0 a R0) (qR 1 rfl (rQ rfl (yIa W0 e0 e0 a (rdI b) a3) (rQ rfl (yI O_3 e0 a (rdI b) a3) (qR 1 rfl (rQ rfl (lb_ d.v M1 e0 a R0) (qR 2 rfl (rQ rfl (yIa W0 e0 e0 a (rdI b) a4) (rQ rfl (yI O_3 e0 a (rdI b) a4) (rQ rfl (ySl W0 e0 a (rdI u) (.inl (Z0 some e0)) (.inl (Z0 some e0)) a5) ?_)))))))))))))
  replace a:=a.sub u a5
  refine rQ rfl (Y2 W0 e0 a (rdI F0)) (qR 1 rfl (Rn QSn (bE c fun b8 c0 c=>qx 2 rfl ?_)))
  refine lp c0 [1,49,50,66,67] (fun (H,I)=>[(4,iV H),(68,iV I)]) (fun (H,I)=>St w0 (imm I1 (subH f 1 b5 b6).v b7::ros) (box y 27 [iV p,iV e,d.v,f.v,m.v]::rs)) (fun | .inl ()=>(.exit 2,[],St w0 ros (box y 27 [iV p,iV e,d.v,f.v,m.v]::rs)) | .inr ()=>(.ret,[(2,.bool false)],St w0 ros rs)) rfl a rfl ?_ ?_
  ·clear a
   intro g w a
   rcases b8 with ⟨⟩ | ⟨⟩
   ·exact vx
   ·exact vx
  rintro ⟨H,I⟩ g w c6 a c
  exact vx
 ·exact vx
instance:CL prog 107 (type_of% @qo):=⟨@qo⟩
theorem po {b:Int} {out:Int×Int} (c:m_ft b=some out) (a:St w0 ros rs w):
  Calls prog 111 #[.int .u64 b] w (rv w0 ros rs (.tuple #[iV out.1,.int .u64 out.2])):=by
 exact en func111 rfl ntmps111 fun Q d=>vx
instance:CL prog 111 (type_of% @po):=⟨@po⟩
theorem oo {b:Int} {out:Bool} (c:m_fu b=some out) (a:St w0 ros rs w):
  Calls prog 110 #[.int .u64 b] w (rv w0 ros rs (.bool out)):=by
 exact en func110 rfl ntmps110 fun Q d=>vx
instance:CL prog 110 (type_of% @oo):=⟨@oo⟩
theorem Xh {b:Int} {out:Bool} (c:m_fv b=some out) (a:St w0 ros rs w):
  Calls prog 109 #[.int .u64 b] w (rv w0 ros rs (.bool out)):=by
 exact en func109 rfl ntmps109 fun Q d=>vx
instance:CL prog 109 (type_of% @Xh):=⟨@Xh⟩
theorem mo {d:LI} {e:Hdr} {out:Int} (c:m_fx d=some out) (k:imm (rI .u64) e.v d∈ros) (a:St w0 ros rs w):
  Calls prog 150 #[e.v,.func (.func 109) #[] #[]] w (rv w0 ros rs (iV out)):=by
 refine en func150 rfl ntmps150 fun Q l=>?_
 refine z 1 4 ?_
 refine bE c fun h i c=>?_
 refine lp i [0,1,7] (fun b=>[(8,iV b)]) (fun b=>St w0 ros rs) (fun | .inl ()=>(.exit 0,[],St w0 ros rs) | .inr f=>(.ret,[(4,iV f)],St w0 ros rs)) rfl a rfl ?_ ?_
 ·clear a
  intro g w a
  rcases h with ⟨⟩ | f
  ·exact vx
  ·exact vx
 rintro b g w m a c
 refine v 0 ?_
 refine ⟨fun _ _ _ _ c=>?_,vt⟩
 refine bE c fun n j c=>yC (Kd lE e0 (a1 e0)) (Xh j a) ?_
 rintro _ w ⟨rfl,a⟩
 refine ⟨_,rfl,?_⟩
 exact nf vx
instance:CL prog 150 (type_of% @mo):=⟨@mo⟩
theorem ko {b:LI} {d:Hdr} {out:Bool} (c:m_fy b=some out) (e:imm (rI .u64) d.v b∈ros) (a:St w0 ros rs w):
  Calls prog 108 #[d.v,.func (.func 109) #[] #[]] w (rv w0 ros rs (.bool out)):=by
 exact en func108 rfl ntmps108 fun Q f=>vx
instance:CL prog 108 (type_of% @ko):=⟨@ko⟩
theorem jo {b d:Int} {e f g:LI} {h i j:Hdr} {out:Int} (c:m_fz b d e f g=some out) (k:imm I1 h.v e∈ros) (l:imm I1 i.v f∈ros) (m:imm (rI .u64) j.v g∈ros) (a:St w0 ros rs w):
  Calls prog 70 #[.agg #[iV b,iV d,h.v,i.v,j.v]] w (rv w0 ros rs (iV out)):=by
 exact en func70 rfl ntmps70 fun Q n=>vx
instance:CL prog 70 (type_of% @jo):=⟨@jo⟩
theorem fo {e:LI} {f:Hdr} {out:LI} (c:m_f1 e=some out) (h:imm (rI .u32) f.v e∈ros) (a:St w0 ros rs w):
  Calls prog 116 #[f.v] w (ri w0 ros rs (rI .u32) out):=by
 refine en func116 rfl ntmps116 fun Q o=>?_
 refine z 1 5 ?_
 refine bE c fun i l c=>?_
 refine lp l [0] (fun d=>[(3,iV d)]) (fun d=>St w0 ros rs) (fun | i=>(.exit 0,[(3,iV i)],St w0 ros rs)) rfl a rfl ?_ ?_
 ·clear a
  intro g w a
  refine bE c fun p j c=>q 6 rfl (y (ySl (k1:=.i64) Z1 e0 a (rdI h) (.inr ⟨rfl,rfl⟩) (.inl (Z0 some e0)) j) ?_)
  replace a:=a.sub h j
  exact vx
 rintro d g w r a c
 refine bE c fun m b c=>q 6 rfl ?_
 refine jW 7 [0,3] [(15,.bool m)] (St w0 ros rs) rfl (fun k=>?_) ?_
 ·refine gI 8 b rfl (fun n b=>?_) fun n b=>?_
  ·refine q 3 rfl (bE b fun s t b=>?_)
   refine z 2 2 ?_
   cases b
   exact k _ _ a rfl
  ·refine q 7 rfl ?_
   cases b
   exact k _ _ a rfl
 intro g w a
 exact vx
instance:CL prog 116 (type_of% @fo):=⟨@fo⟩
end Go.Proofs.YthekfonboblioacGreatDoor
