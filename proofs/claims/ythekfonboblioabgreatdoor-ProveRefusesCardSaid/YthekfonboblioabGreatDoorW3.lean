/- Walks: each function computes its model, printed. -/
import Derived.Test.YthekfonboblioabGreatDoorW2
namespace Go.Proofs.YthekfonboblioabGreatDoor
open Go Sx M Go.Proofs.Tryz
set_option maxRecDepth 100000
set_option maxHeartbeats 40000000
set_option linter.unusedVariables false
attribute [local irreducible] wpList Code.wp Calls DR QR QS LA LS St row box fam imm rowS loop
variable {w0:World} {ax:List Fact} {rs:List Res} {w:World}
theorem dq {p e:Int} {J K L:LI} {d f m:Hdr} {out:Bool} (c:m_cd p e J K L=some out) (b:imm I1 d.v J∈ax) (u:imm I1 f.v K∈ax) (a6:imm Ow m.v L∈ax) (a:St w0 ax rs w):
  Calls prog 90 #[.agg #[iV p,iV e,d.v,f.v,m.v]] w (rv w0 ax rs (.bool out)):=by
 refine en func90 rfl ntmps90 fun Q c1=>?_
 refine z 1 5 ?_;intro y w a
 refine bE c fun r n c=>bE c fun o j c=>bE c fun k h c=>bE c fun s i c=>?_
 refine jN Unit [1] (fun _=>[(47,.bool s)]) (fun _=>St w0 ax (box y 26 [iV p,iV e,d.v,f.v,m.v]::rs)) rfl ?_ ?_
 ·rcases G5 n with ⟨t,n⟩ | ⟨t,n⟩
  ·refine bE n fun c2 l n=>?_
   have A:=J1 n
   rcases G5 j with ⟨x,j⟩ | ⟨x,j⟩
   ·have N:=J1 j
    have O:o=true:=N.symm
    rw [M0 O] at h
    have R:=J1 h
    have S:k=true:=R.symm
    rw [M0 S] at i
    have a7:=J1 i
    refine dS [17] 1 A1 ?_
    replace a:=a.drew
    refine D1 131071 0 17 rfl (qR 1 rfl (rQ rfl (lb_ d.v L1 e0 a R0) (rQ rfl (O2 V0 e0 a (rdI b)) (qR 1 rfl (rQ rfl (lb_ (iV e) O_3 e0 a R0) (qR 3 rfl (rK 14 rfl (nF (dT t)) (qR 1 rfl (rQ rfl (lb_ d.v L1 e0 a R0) (rQ rfl (yIa V0 e0 rfl a (rdI b) l) (rQ rfl (yI O_3 e0 a (rdI b) l) (qR 1 rfl (rQ rfl (pf_ (.bool r) e0 rfl (eqv A e0)) ?_)))))))))))))
    refine qR 1 rfl (rK 21 rfl x (qR 2 rfl (Rn QSn (Lx (S2.2 rfl) (dU (Dw 2199022993408 0 (qR 1 rfl (rQ rfl (pt_ (.bool o) e0 rfl (eqv N rfl)) (qR 1 rfl (rK 27 rfl O (qR 10 rfl (rQ rfl (pt_ (.bool k) e0 rfl (eqv R rfl)) (qR 1 rfl ?_)))))))))))))
    exact rK 39 rfl S (qR 7 rfl (rQ rfl (pt_ (.bool s) e0 rfl (eqv a7 rfl)) (Rn QSn (jr () a))))
   ·refine bE j fun c3 D j=>?_
    have E:=J1 j
    rcases G5 h with ⟨B,h⟩ | ⟨B,h⟩
    ·have T:=J1 h
     have U:k=true:=T.symm
     rw [M0 U] at i
     have a8:=J1 i
     refine dS [17] 1 A1 ?_
     replace a:=a.drew
     refine D1 131071 0 17 rfl (qR 1 rfl (rQ rfl (lb_ d.v L1 e0 a R0) (rQ rfl (O2 V0 e0 a (rdI b)) (qR 1 rfl (rQ rfl (lb_ (iV e) O_3 e0 a R0) (qR 3 rfl (rK 14 rfl (nF (dT t)) (qR 1 rfl (rQ rfl (lb_ d.v L1 e0 a R0) (rQ rfl (yIa V0 e0 rfl a (rdI b) l) (rQ rfl (yI O_3 e0 a (rdI b) l) (qR 1 rfl (rQ rfl (pf_ (.bool r) e0 rfl (eqv A e0)) ?_)))))))))))))
     refine qR 1 rfl (rK 21 rfl (E3 x) (qR 1 rfl (rQ rfl (lb_ d.v L1 e0 a R0) (Rn QSn (kZ (ke D b a) fun w a=>dU (Dw 2199022993408 0 (qR 1 rfl (rQ rfl (pf_ (.bool o) e0 rfl (eqv E e0)) (qR 1 rfl (rK 27 rfl B (qR 10 rfl (rQ rfl (pt_ (.bool k) e0 rfl (eqv T rfl)) ?_))))))))))))
     exact qR 1 rfl (rK 39 rfl U (qR 7 rfl (rQ rfl (pt_ (.bool s) e0 rfl (eqv a8 rfl)) (Rn QSn (jr () a)))))
    ·refine bE h fun c4 C h=>?_
     have V:=J1 h
     rcases G5 i with ⟨F,i⟩ | ⟨F,i⟩
     ·have a9:=J1 i
      refine dS [17] 1 A1 ?_
      replace a:=a.drew
      refine D1 131071 0 17 rfl (qR 1 rfl (rQ rfl (lb_ d.v L1 e0 a R0) (rQ rfl (O2 V0 e0 a (rdI b)) (qR 1 rfl (rQ rfl (lb_ (iV e) O_3 e0 a R0) (qR 3 rfl (rK 14 rfl (nF (dT t)) (qR 1 rfl (rQ rfl (lb_ d.v L1 e0 a R0) (rQ rfl (yIa V0 e0 rfl a (rdI b) l) (rQ rfl (yI O_3 e0 a (rdI b) l) (qR 1 rfl (rQ rfl (pf_ (.bool r) e0 rfl (eqv A e0)) ?_)))))))))))))
      refine qR 1 rfl (rK 21 rfl (E3 x) (qR 1 rfl (rQ rfl (lb_ d.v L1 e0 a R0) (Rn QSn (kZ (ke D b a) fun w a=>dU (Dw 2199022993408 0 (qR 1 rfl (rQ rfl (pf_ (.bool o) e0 rfl (eqv E e0)) (qR 1 rfl (rK 27 rfl (E3 B) (qR 1 rfl (rQ rfl (lb_ d.v L1 e0 a R0) ?_))))))))))))
      exact qR 1 rfl (rQ rfl (lb_ (iV e) O_3 e0 a R0) (rQ rfl (yIa V0 e0 e0 a (rdI b) C) (rQ rfl (yI O_3 e0 a (rdI b) C) (qR 1 rfl (rQ rfl (lb_ f.v L1 e0 a R0) (rQ rfl (O2 V0 e0 a (rdI u)) (qR 1 rfl (rQ rfl (pf_ (.bool k) e0 rfl (eqv V e0)) (qR 1 rfl (rK 39 rfl F (qR 7 rfl (rQ rfl (pt_ (.bool s) e0 rfl (eqv a9 rfl)) (Rn QSn (jr () a))))))))))))))
     ·have b0:=J1 i
      refine dS [17] 1 A1 ?_
      replace a:=a.drew
      refine D1 131071 0 17 rfl (qR 1 rfl (rQ rfl (lb_ d.v L1 e0 a R0) (rQ rfl (O2 V0 e0 a (rdI b)) (qR 1 rfl (rQ rfl (lb_ (iV e) O_3 e0 a R0) (qR 3 rfl (rK 14 rfl (nF (dT t)) (qR 1 rfl (rQ rfl (lb_ d.v L1 e0 a R0) (rQ rfl (yIa V0 e0 rfl a (rdI b) l) (rQ rfl (yI O_3 e0 a (rdI b) l) (qR 1 rfl (rQ rfl (pf_ (.bool r) e0 rfl (eqv A e0)) ?_)))))))))))))
      refine qR 1 rfl (rK 21 rfl (E3 x) (qR 1 rfl (rQ rfl (lb_ d.v L1 e0 a R0) (Rn QSn (kZ (ke D b a) fun w a=>dU (Dw 2199022993408 0 (qR 1 rfl (rQ rfl (pf_ (.bool o) e0 rfl (eqv E e0)) (qR 1 rfl (rK 27 rfl (E3 B) (qR 1 rfl (rQ rfl (lb_ d.v L1 e0 a R0) ?_))))))))))))
      refine qR 1 rfl (rQ rfl (lb_ (iV e) O_3 e0 a R0) (rQ rfl (yIa V0 e0 e0 a (rdI b) C) (rQ rfl (yI O_3 e0 a (rdI b) C) (qR 1 rfl (rQ rfl (lb_ f.v L1 e0 a R0) (rQ rfl (O2 V0 e0 a (rdI u)) (qR 1 rfl (rQ rfl (pf_ (.bool k) e0 rfl (eqv V e0)) (qR 1 rfl (rK 39 rfl (E3 F) (qR 1 rfl (rQ rfl (lb_ f.v L1 e0 a R0) (rQ rfl (O2 V0 e0 a (rdI u)) ?_)))))))))))))
      exact qR 1 rfl (rQ rfl (lb_ m.v O9 e0 a R0) (rQ rfl (O2 X8 e0 a (rdI a6)) (qR 1 rfl (rQ rfl (pf_ (.bool s) e0 rfl (eqv b0 e0)) (Rn QSn (jr () a))))))
  ·have W:=J1 n
   have X:r=true:=W.symm
   rw [M0 X] at j
   have Z:=J1 j
   have a0:o=true:=Z.symm
   rw [M0 a0] at h
   have a1:=J1 h
   have a2:k=true:=a1.symm
   rw [M0 a2] at i
   have b1:=J1 i
   refine dS [17] 1 A1 ?_
   replace a:=a.drew
   refine D1 131071 0 17 rfl (qR 1 rfl (rQ rfl (lb_ d.v L1 e0 a R0) (rQ rfl (O2 V0 e0 a (rdI b)) (qR 1 rfl (rQ rfl (lb_ (iV e) O_3 e0 a R0) (qR 3 rfl (rK 14 rfl (nT (dF t)) (qR 5 rfl (rQ rfl (pt_ (.bool r) e0 rfl (eqv W rfl)) (qR 1 rfl (rK 21 rfl X (qR 2 rfl (Rn QSn ?_)))))))))))))
   exact Lx (S2.2 rfl) (dU (Dw 2199022993408 0 (qR 1 rfl (rQ rfl (pt_ (.bool o) e0 rfl (eqv Z rfl)) (qR 1 rfl (rK 27 rfl a0 (qR 10 rfl (rQ rfl (pt_ (.bool k) e0 rfl (eqv a1 rfl)) (qR 1 rfl (rK 39 rfl a2 (qR 7 rfl (rQ rfl (pt_ (.bool s) e0 rfl (eqv b1 rfl)) (Rn QSn (jr () a))))))))))))))
 rintro _ g w a
 refine v 0 ?_
 refine ⟨vt,fun _ c=>?_⟩
 refine bE c fun b2 b3 c=>?_
 refine lp b3 [1,49] (fun G=>[(50,iV G)]) (fun G=>St w0 ax (box y 26 [iV p,iV e,d.v,f.v,m.v]::rs)) (fun | .inl ()=>(.exit 0,[],St w0 ax rs) | .inr ()=>(.ret,[(2,.bool false)],St w0 ax rs)) rfl a rfl ?_ ?_
 ·clear a
  intro g w a
  rcases b2 with ⟨⟩ | ⟨⟩
  ·exact vx
  ·exact vx
 rintro G g w c5 a c
 refine q 6 rfl (cI c (fun b4 c=>?_) fun b4 c=>?_)
 ·refine q 16 rfl (bE c fun b5 a3 c=>bE c fun b6 a4 c=>bE c fun b7 a5 c=>dS [] 0 A1 ?_)
  replace a:=a.drew
  refine Dw 65535 0 (qR 1 rfl (rQ rfl (lb_ f.v L1 e0 a R0) (qR 1 rfl (rQ rfl (lb_ d.v L1 e0 a R0) (qR 1 rfl (rQ rfl (yIa V0 e0 e0 a (rdI b) a3) (rQ rfl (yI O_3 e0 a (rdI b) a3) (qR 1 rfl (rQ rfl (lb_ d.v L1 e0 a R0) (qR 2 rfl (rQ rfl (yIa V0 e0 e0 a (rdI b) a4) (rQ rfl (yI O_3 e0 a (rdI b) a4) (rQ rfl (ySl V0 e0 a (rdI u) (.inl (C1 some e0)) (.inl (C1 some e0)) a5) ?_)))))))))))))
  replace a:=a.sub u a5
  refine rQ rfl (O2 V0 e0 a (rdI F0)) (qR 1 rfl (Rn QSn (bE c fun b8 c0 c=>qx 2 rfl ?_)))
  refine lp c0 [1,49,50,66,67] (fun (H,I)=>[(4,iV H),(68,iV I)]) (fun (H,I)=>St w0 (imm I1 (subH f 1 b5 b6).v b7::ax) (box y 26 [iV p,iV e,d.v,f.v,m.v]::rs)) (fun | .inl ()=>(.exit 2,[],St w0 ax (box y 26 [iV p,iV e,d.v,f.v,m.v]::rs)) | .inr ()=>(.ret,[(2,.bool false)],St w0 ax rs)) rfl a rfl ?_ ?_
  ·clear a
   intro g w a
   rcases b8 with ⟨⟩ | ⟨⟩
   ·exact vx
   ·exact vx
  rintro ⟨H,I⟩ g w c6 a c
  exact vx
 ·exact vx
instance:CL prog 90 (type_of% @dq):=⟨@dq⟩
theorem aq {b:Int} {out:Int×Int} (c:m_ce b=some out) (a:St w0 ax rs w):
  Calls prog 94 #[.int .u64 b] w (rv w0 ax rs (.tuple #[iV out.1,.int .u64 out.2])):=by
 exact en func94 rfl ntmps94 fun Q d=>vx
instance:CL prog 94 (type_of% @aq):=⟨@aq⟩
theorem Zp {b:Int} {out:Bool} (c:m_cf b=some out) (a:St w0 ax rs w):
  Calls prog 93 #[.int .u64 b] w (rv w0 ax rs (.bool out)):=by
 exact en func93 rfl ntmps93 fun Q d=>vx
instance:CL prog 93 (type_of% @Zp):=⟨@Zp⟩
theorem fj {b:Int} {out:Bool} (c:m_cg b=some out) (a:St w0 ax rs w):
  Calls prog 92 #[.int .u64 b] w (rv w0 ax rs (.bool out)):=by
 exact en func92 rfl ntmps92 fun Q d=>vx
instance:CL prog 92 (type_of% @fj):=⟨@fj⟩
theorem Yp {d:LI} {e:Hdr} {out:Int} (c:m_ci d=some out) (k:imm Ow e.v d∈ax) (a:St w0 ax rs w):
  Calls prog 147 #[e.v,.func (.func 92) #[] #[]] w (rv w0 ax rs (iV out)):=by
 refine en func147 rfl ntmps147 fun Q l=>?_
 refine z 1 4 ?_
 refine bE c fun h i c=>?_
 refine lp i [0,1,7] (fun b=>[(8,iV b)]) (fun b=>St w0 ax rs) (fun | .inl ()=>(.exit 0,[],St w0 ax rs) | .inr f=>(.ret,[(4,iV f)],St w0 ax rs)) rfl a rfl ?_ ?_
 ·clear a
  intro g w a
  rcases h with ⟨⟩ | f
  ·exact vx
  ·exact vx
 rintro b g w m a c
 refine v 0 ?_
 refine ⟨fun _ _ _ _ c=>?_,vt⟩
 refine bE c fun n j c=>yC (ae ZF e0 (a1 e0)) (fj j a) ?_
 rintro _ w ⟨rfl,a⟩
 refine ⟨_,rfl,?_⟩
 exact nf vx
instance:CL prog 147 (type_of% @Yp):=⟨@Yp⟩
theorem Xp {b:LI} {d:Hdr} {out:Bool} (c:m_cj b=some out) (e:imm Ow d.v b∈ax) (a:St w0 ax rs w):
  Calls prog 91 #[d.v,.func (.func 92) #[] #[]] w (rv w0 ax rs (.bool out)):=by
 exact en func91 rfl ntmps91 fun Q f=>vx
instance:CL prog 91 (type_of% @Xp):=⟨@Xp⟩
theorem Wp {b d:Int} {e f g:LI} {h i j:Hdr} {out:Int} (c:m_ck b d e f g=some out) (k:imm I1 h.v e∈ax) (l:imm I1 i.v f∈ax) (m:imm Ow j.v g∈ax) (a:St w0 ax rs w):
  Calls prog 48 #[.agg #[iV b,iV d,h.v,i.v,j.v]] w (rv w0 ax rs (iV out)):=by
 exact en func48 rfl ntmps48 fun Q n=>vx
instance:CL prog 48 (type_of% @Wp):=⟨@Wp⟩
theorem Vp {e:LI} {f:Hdr} {out:LI} (c:m_cm e=some out) (h:imm xw f.v e∈ax) (a:St w0 ax rs w):
  Calls prog 99 #[f.v] w (ri w0 ax rs xw out):=by
 refine en func99 rfl ntmps99 fun Q o=>?_
 refine z 1 5 ?_
 refine bE c fun i l c=>?_
 refine lp l [0] (fun d=>[(3,iV d)]) (fun d=>St w0 ax rs) (fun | i=>(.exit 0,[(3,iV i)],St w0 ax rs)) rfl a rfl ?_ ?_
 ·clear a
  intro g w a
  refine bE c fun p j c=>q 6 rfl (y (ySl (k1:=.i64) X1 e0 a (rdI h) (.inr ⟨rfl,rfl⟩) (.inl (C1 some e0)) j) ?_)
  replace a:=a.sub h j
  exact vx
 rintro d g w r a c
 refine bE c fun m b c=>q 6 rfl ?_
 refine jW 7 [0,3] [(15,.bool m)] (St w0 ax rs) rfl (fun k=>?_) ?_
 ·refine gI 8 b rfl (fun n b=>?_) fun n b=>?_
  ·refine q 3 rfl (bE b fun s t b=>?_)
   refine z 2 2 ?_
   cases b
   exact k _ _ a rfl
  ·refine q 7 rfl ?_
   cases b
   exact k _ _ a rfl
 intro g w a
 exact vx
instance:CL prog 99 (type_of% @Vp):=⟨@Vp⟩
theorem Up {b:Bool} {d:LI} {e:Hdr} {out:Bool×LI} (c:m_cn b d=some out) (g:imm xw e.v d∈ax) (a:St w0 ax rs w):
  Calls prog 100 #[.bool b,e.v] w (rb w0 ax rs out):=by
 refine en func100 rfl ntmps100 fun Q f=>?_
 refine v 0 ?_
 refine fun _ _ _ _ _ _ _ _ a=>⟨fun _ c _ a=>?_,vt⟩
 cases c
 replace a:=a.immNh xw
 exact f _ _ _ (M3 results100 (C4 rfl rfl a R0 P0 rfl) ⟨_,rfl,((a.k14).facts (S0 F0 (N0 (N0 E1))))⟩)
instance:CL prog 100 (type_of% @Up):=⟨@Up⟩
theorem dj {d:Int} {out:Bool×LI} (c:m_cp d=some out) (a:St w0 ax rs w):
  Calls prog 55 #[iV d] w (rb w0 ax rs out):=by
 refine en func55 rfl ntmps55 fun Q f=>?_
 refine z 1 16 ?_;intro e w a
 refine jC Int [0,2] (fun b=>[(3,.int .u64 b)]) (fun b w=>St w0 ax (box e 62 [.bool false,hnil.v]::rs) w∧m_co d b=some out) rfl ?_ ?_
 ·rintro b g w ⟨a,c⟩
  exact q 11 rfl (yh (rLt (n:=2) (l:=[wc .u32 (wand .u64 b 4294967295),wc .u32 (wsrc .u64 b 32)]) a X1 [.int .u32 (wc .u32 (wand .u64 b 4294967295)),.int .u32 (wc .u32 (wsrc .u64 b 32))] (bp2 e0 e0) rfl rfl (U1 (cs:=[.int .u32 (wc .u32 (wand .u64 b 4294967295))]) rfl mkI (U1 (cs:=[.int .u32 (wc .u32 (wsrc .u64 b 32))]) rfl mkI E2))) fun h w a=>vx)
 exact vx
instance:CL prog 55 (type_of% @dj):=⟨@dj⟩
theorem Tp {b:Int} {out:Bool} (c:m_cq b=some out) (a:St w0 ax rs w):
  Calls prog 95 #[.int .u64 b] w (rv w0 ax rs (.bool out)):=by
 exact en func95 rfl ntmps95 fun Q d=>vx
instance:CL prog 95 (type_of% @Tp):=⟨@Tp⟩
theorem Qp {e:LI} {d:Hdr} {out:LI} (c:m_cr e=some out) (f:imm xw d.v e∈ax) (a:St w0 ax rs w):
  Calls prog 148 #[d.v] w (ro w0 ax rs 126 xw out):=by
 refine en func148 rfl ntmps148 fun Q g=>q 9 rfl (y (Rm X1 e0 rfl) (q 2 rfl ?_))
 rcases Ss d with b | b
 ·refine kT b ?_
  obtain rfl:=Us b f a
  replace c:=Ts c
  refine q 7 rfl ?_
  cases c
  replace a:=a.rowNh 126 xw
  exact g _ _ _ (M3 results148 ⟨rfl,rfl⟩ ⟨_,rfl,a⟩)
 ·exact kF b (q 4 rfl (yh (rLt (n:=0) (l:=[]) a X1 [] bp0 rfl rfl E2) fun h w a=>vx))
instance:CL prog 148 (type_of% @Qp):=⟨@Qp⟩
theorem Pp {b:Bool} {d:LI} {e:Hdr} {out:Bool×LI} (c:m_cs b d=some out) (f:imm xw e.v d∈ax) (a:St w0 ax rs w):
  Calls prog 96 #[.agg #[.bool b,e.v]] w (rb w0 ax rs out):=by
 exact en func96 rfl ntmps96 fun Q g=>vx
instance:CL prog 96 (type_of% @Pp):=⟨@Pp⟩
theorem Np {out:Bool×Bool×Int} (c:m_ct=some out) (a:St w0 ax rs w):
  Calls prog 149 #[] w (rv w0 ax rs (.agg #[.bool out.1,.bool out.2.1,hnil.v,iV out.2.2])):=by
 exact en func149 rfl ntmps149 fun Q b=>vx
instance:CL prog 149 (type_of% @Np):=⟨@Np⟩
end Go.Proofs.YthekfonboblioabGreatDoor
