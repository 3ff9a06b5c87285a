/- Walks: each function computes its model, printed. -/
import Derived.Test.YthekfonboblioabGreatDoorW3
namespace Go.Proofs.YthekfonboblioabGreatDoor
open Go Sx M Go.Proofs.Tryz
set_option maxRecDepth 100000
set_option maxHeartbeats 40000000
set_option linter.unusedVariables false
attribute [local irreducible] wpList Code.wp Calls DR QR QS LA LS St row box fam imm rowS loop
variable {w0:World} {ax:List Fact} {rs:List Res} {w:World}
theorem Mp {b:Bool} {d:LI} {e:Hdr} {out:Bool×LI} (c:m_cu b d=some out) (f:imm xw e.v d∈ax) (a:St w0 ax rs w):
  Calls prog 136 #[.agg #[.bool b,e.v]] w (rb w0 ax rs out):=by
 exact en func136 rfl ntmps136 fun Q g=>vx
instance:CL prog 136 (type_of% @Mp):=⟨@Mp⟩
theorem Lp {b:Bool} {d:LI} {e:Hdr} {out:Int} (c:m_cv b d=some out) (f:imm xw e.v d∈ax) (a:St w0 ax rs w):
  Calls prog 75 #[.agg #[.bool b,e.v]] w (rv w0 ax rs (iV out)):=by
 exact en func75 rfl ntmps75 fun Q g=>vx
instance:CL prog 75 (type_of% @Lp):=⟨@Lp⟩
theorem Kp {d:Bool} {e:LI} {f:Hdr} {out:Int} (c:m_cx d e=some out) (m:imm xw f.v e∈ax) (i:globF∈ax) (a:St w0 ax rs w):
  Calls prog 150 #[.agg #[.bool d,f.v]] w (rv w0 ax rs (iV out)):=by
 refine en func150 rfl ntmps150 fun Q n=>?_
 refine z 3 4 ?_;intro o w a
 refine bE c fun j k c=>?_
 refine lp k [6,7] (fun b=>[(8,iV b)]) (fun b=>St w0 ax rs) (fun | .inl ()=>(.exit 0,[],St w0 ax rs) | .inr h=>(.ret,[(2,iV h)],St w0 ax rs)) rfl (a.k14) rfl ?_ ?_
 ·clear a
  intro g w a
  rcases j with ⟨⟩ | h
  ·exact vx
  ·exact vx
 rintro b g w p a c
 refine v 0 ?_
 refine ⟨fun _ _ _ _ _=>⟨vt,fun _ c=>?_⟩,vt⟩
 exact bE c fun q l c=>cZ (Gq l i a) fun w a=>vx
instance:CL prog 150 (type_of% @Kp):=⟨@Kp⟩
theorem Jp {b:LI} {d:Hdr} {out:Int} (c:m_cy b=some out) (e:imm xw d.v b∈ax) (a:St w0 ax rs w):
  Calls prog 184 #[d.v] w (rv w0 ax rs (iV out)):=by
 exact en func184 rfl ntmps184 fun Q f=>vx
instance:CL prog 184 (type_of% @Jp):=⟨@Jp⟩
theorem Ip {b:Bool} {d:LI} {e:Hdr} {out:Int} (c:m_cz b d=some out) (f:imm xw e.v d∈ax) (a:St w0 ax rs w):
  Calls prog 151 #[.agg #[.bool b,e.v]] w (rv w0 ax rs (iV out)):=by
 exact en func151 rfl ntmps151 fun Q g=>vx
instance:CL prog 151 (type_of% @Ip):=⟨@Ip⟩
theorem Hp {e:LI} {f:Int} {h:Hdr} {out:LI} (c:m_c1 e f=some out) (u:imm xw h.v e∈ax) (a:St w0 ax rs w):
  Calls prog 101 #[h.v,iV f] w (ri w0 ax rs xw out):=by
 refine en func101 rfl ntmps101 fun Q i=>?_
 refine z 1 3 ?_
 refine cI c (fun o c=>?_) fun o c=>?_
 ·refine q 7 rfl ?_
  cases c
  replace a:=a.immNh xw
  exact i _ _ _ (M3 results101 ⟨rfl,rfl⟩ ⟨_,rfl,a⟩)
 ·refine z 1 2 ?_
  refine bE c fun x p c=>yh (rMk a X1 e0 p) fun j w a=>?_
  refine z 1 4 ?_
  refine bE c fun k r c=>?_
  refine lp r [5,6,7,25,26] (fun (b,d)=>[(27,iV d)]) (fun (b,d)=>St w0 ax (row 126 xw j.v b::rs)) (fun | k=>(.exit 0,[],St w0 ax (row 126 xw j.v k::rs))) rfl a rfl ?_ ?_
  ·clear a
   intro g w a
   refine z 1 4 ?_;intro A B c C w a
   cases c
   exact i _ _ _ (M3 results101 ⟨rfl,rfl⟩ ⟨_,rfl,(a.facts (S0 F0 (N0 (N0 E1))))⟩)
  rintro ⟨b,d⟩ g w D a c
  refine q 6 rfl (cI c (fun s c=>?_) fun s c=>?_)
  ·refine z 5 4 ?_;intro E F c l G c t H c
   refine bE c fun I m c=>y (yIs X1 e0 e0 a rO0 m) (yt (S3 (cs:=[.int .u32 (wor .u32 t (wc .u32 (wand .u64 l 4294967295)))]) a Z3 rfl e0 e0 rfl mkI m) fun w a=>bE c fun J n c=>q 11 rfl (y (yIs X1 e0 e0 a rO0 n) (yt (S3 (cs:=[.int .u32 (wc .u32 (wsrc .u64 l 32))]) a Z3 rfl e0 e0 rfl mkI n) fun w a=>q 7 rfl ?_)))
   cases c
   exact lo a
  ·refine q 2 rfl ?_
   cases c
   exact xo a
instance:CL prog 101 (type_of% @Hp):=⟨@Hp⟩
theorem jj {b:Int} {out:Bool} (c:m_c2 b=some out) (a:St w0 ax rs w):
  Calls prog 154 #[.int .u32 b] w (rv w0 ax rs (.bool out)):=by
 exact en func154 rfl ntmps154 fun Q d=>vx
instance:CL prog 154 (type_of% @jj):=⟨@jj⟩
theorem vq {d:LI} {e:Hdr} {out:Int} (c:m_c4 d=some out) (k:imm xw e.v d∈ax) (a:St w0 ax rs w):
  Calls prog 185 #[e.v,.func (.func 154) #[] #[]] w (rv w0 ax rs (iV out)):=by
 refine en func185 rfl ntmps185 fun Q l=>?_
 refine z 1 4 ?_
 refine bE c fun h i c=>?_
 refine lp i [0,1,7] (fun b=>[(8,iV b)]) (fun b=>St w0 ax rs) (fun | .inl ()=>(.exit 0,[],St w0 ax rs) | .inr f=>(.ret,[(4,iV f)],St w0 ax rs)) rfl a rfl ?_ ?_
 ·clear a
  intro g w a
  rcases h with ⟨⟩ | f
  ·exact vx
  ·exact vx
 rintro b g w m a c
 refine v 0 ?_
 refine ⟨fun _ _ _ _ c=>?_,vt⟩
 refine bE c fun n j c=>yC (ae kG e0 (a1 e0)) (jj j a) ?_
 rintro _ w ⟨rfl,a⟩
 refine ⟨_,rfl,?_⟩
 exact nf vx
instance:CL prog 185 (type_of% @vq):=⟨@vq⟩
theorem uq {b:LI} {d:Hdr} {out:Bool} (c:m_c5 b=some out) (e:imm xw d.v b∈ax) (a:St w0 ax rs w):
  Calls prog 153 #[d.v,.func (.func 154) #[] #[]] w (rv w0 ax rs (.bool out)):=by
 exact en func153 rfl ntmps153 fun Q f=>vx
instance:CL prog 153 (type_of% @uq):=⟨@uq⟩
theorem tq {k:LI} {i:Int} {l:Hdr} {out:LI×Bool} (c:m_c8 k i=some out) (m:imm xw l.v k∈ax) (a:St w0 ax rs w):
  Calls prog 102 #[l.v,iV i] w (fun e w=>∃ (n:Hdr),e=.returned (.tuple #[n.v,.bool out.2])∧St w0 (imm xw n.v out.1::ax) rs w):=by
 refine en func102 rfl ntmps102 fun Q o=>?_
 refine z 1 3 ?_
 refine cI c (fun u c=>?_) fun u c=>?_
 ·refine z 1 7 ?_
  cases c
  replace a:=a.immNh xw
  exact o _ _ _ (I4 results102 ⟨rfl,rfl⟩ ⟨rfl,rfl⟩ ⟨_,rfl,a⟩)
 ·refine q 6 rfl (bE c fun H p c=>y (ySl (k1:=.i64) X1 e0 a (rdI m) (.inr ⟨rfl,rfl⟩) (.inl (C1 some e0)) p) ?_)
  replace a:=a.sub m p
  refine z 1 1 ?_;intro I J c w a
  refine bE c fun x b c=>?_
  refine jW 10 [0,6,7] [(38,.bool x)] (St w0 ax rs) rfl (fun r=>?_) ?_
  ·refine gJ 28 b rfl (fun A b=>?_) fun A b=>?_
   ·refine q 10 rfl ?_
    cases b
    exact r _ _ (a.fc) rfl
   ·refine q 2 rfl (bE b fun K L b=>?_)
    refine z 2 1 ?_
    refine bE b fun N O b=>?_
    refine z 1 4 ?_
    cases b
    exact r _ _ (a.fc) rfl
  intro g w a
  refine z 1 2 ?_
  refine bE c fun R B c=>yh (rMk a X1 e0 B) fun j w a=>?_
  refine z 1 4 ?_
  refine bE c fun s C c=>?_
  refine lp C [0,6,7,8,9,45] (fun (d,f)=>[(46,iV f)]) (fun (d,f)=>St w0 ax (row 126 xw j.v d::rs)) (fun | s=>(.exit 0,[],St w0 ax (row 126 xw j.v s::rs))) rfl a rfl ?_ ?_
  ·clear a
   intro g w a
   refine z 1 6 ?_;intro S T c U w a
   cases c
   exact o _ _ _ (I4 results102 ⟨rfl,rfl⟩ ⟨rfl,rfl⟩ ⟨_,rfl,(a.facts (S0 F0 (N0 (N0 E1))))⟩)
  rintro ⟨d,f⟩ g w D a c
  refine q 6 rfl (cI c (fun E c=>?_) fun E c=>?_)
  ·refine z 3 3 ?_;intro V W c
   refine jC Int [0,6,7,8,9,10,45,46] (fun h=>[(11,.int .u64 h)]) (fun h w=>St w0 ax (row 126 xw j.v d::rs) w∧m_c6 i d f h=some D) rfl ?_ ?_
   ·rintro h g w ⟨a,c⟩
    refine z 1 2 ?_;intro F X c
    refine bE c fun Z t c=>y (yIs X1 e0 e0 a rO0 t) (yt (S3 (cs:=[.int .u32 (wc .u32 (wand .u64 F 4294967295))]) a Z3 rfl e0 e0 rfl mkI t) fun w a=>q 7 rfl ?_)
    cases c
    exact lo a
   refine cI c (fun G c=>?_) fun G c=>?_
   ·refine z 2 5 ?_;intro a0 a1 c
    exact jx _ ⟨a,c⟩
   ·exact q 1 rfl (jx _ ⟨a,c⟩)
  ·refine q 2 rfl ?_
   cases c
   exact xo a
instance:CL prog 102 (type_of% @tq):=⟨@tq⟩
theorem qq {m n:LI} {o p:Hdr} {out:LI} (c:m_dc m n=some out) (u:imm xw o.v m∈ax) (x:imm xw p.v n∈ax) (a:St w0 ax rs w):
  Calls prog 103 #[o.v,p.v] w (ri w0 ax rs xw out):=by
 refine en func103 rfl ntmps103 fun Q y=>?_
 refine z 2 3 ?_
 refine jC (LI×LI×Hdr×Hdr) [] (fun (b,d,e,f)=>[(0,e.v),(1,f.v)]) (fun (b,d,e,f) w=>St w0 (imm xw e.v b::imm xw f.v d::ax) rs w∧m_db b d=some out) rfl ?_ ?_
 ·rintro ⟨b,d,e,f⟩ g w ⟨a,c⟩
  refine z 1 1 ?_
  refine bE c fun A s c=>yh (rMkc a X1 rfl e0 s) fun B w a=>?_
  refine z 1 4 ?_
  obtain ⟨⟨q,r⟩,t,c⟩:=bs c
  refine lpN Hdr Hdr t [1,21,22] (fun (i,j,k) h=>[(5,h.v),(6,.int .u64 j),(23,iV k)]) (fun (i,j,k) h=>St w0 (imm xw f.v d::imm xw e.v b::ax) (row 126 xw h.v i::rs)) (fun | (q,r),l=>(.exit 0,[(5,l.v),(6,.int .u64 r)],St w0 ax (row 126 xw l.v q::rs))) rfl _ (a.facts (S0 F1 (S0 F0 (N0 (N0 E1))))) rfl ?_ ?_
  ·clear a
   rintro l g w a
   exact vx
  rintro ⟨i,j,k⟩ h g w C a c
  exact vx
 exact vx
instance:CL prog 103 (type_of% @qq):=⟨@qq⟩
theorem ij {b:Bool} {n:LI} {f:Int} {d:Hdr} {out:Bool×LI×Int} (c:m_de b n f=some out) (x:imm xw d.v n∈ax) (a:St w0 ax rs w):
  Calls prog 52 #[.agg #[.bool b,d.v],iV f] w (fun e w=>∃ (o:Hdr),e=.returned (.tuple #[.agg #[.bool out.1,o.v],iV out.2.2])∧St w0 (imm xw o.v out.2.1::ax) rs w):=by
 refine en func52 rfl ntmps52 fun Q t=>?_
 refine z 2 9 ?_;intro j w a k w a
 refine jW 3 [1,2,4] [(14,.bool ((decide (f < (-1048576))) || (decide ((1048576:Int) < f))))] (St w0 ax (box j 62 [.bool b,d.v]::box k 62 [.bool false,hnil.v]::rs)) rfl (fun p=>?_) ?_
 ·refine gB 11 rfl (fun l=>?_) fun l=>?_
  ·exact q 3 rfl (p _ _ (a.k10) (O1 (C1 Value.bool (orT l)) rfl))
  ·exact q 3 rfl (p _ _ (a.k10) (O1 (C1 Value.bool (orF l)) rfl))
 intro g w a
 refine v 37 ?_
 refine ⟨fun _ c _ a=>?_,fun _ _ _ _ _ _ w a=>⟨vt,fun _ _ r _ c u w a=>?_⟩⟩
 ·cases c
  replace a:=a.immNh xw
  exact t _ _ _ (I4 results52 (C4 rfl rfl a R0 P0 rfl) ⟨rfl,rfl⟩ ⟨_,rfl,(a.k19)⟩)
 ·refine jW 2 [2,4,7] [(38,.bool (b && r.2))] (St w0 (imm xw u.v r.1::ax) (box j 62 [.bool b,d.v]::box k 62 [.bool false,hnil.v]::rs)) rfl (fun s=>?_) ?_
  ·refine gB 36 rfl (fun m=>?_) fun m=>?_
   ·exact q 2 rfl (s _ _ (a.facts (S0 F0 (N0 (N0 E1)))) (O1 (C1 Value.bool (B6 m)) rfl))
   ·exact q 2 rfl (s _ _ (a.facts (S0 F0 (N0 (N0 E1)))) (O1 (C1 Value.bool (C6 m)) rfl))
  intro g w a
  refine q 2 rfl ?_
  refine jC (LI×Hdr) [2,4] (fun (h,i)=>[(7,i.v)]) (fun (h,i) w=>St w0 (imm xw i.v h::ax) (box j 62 [.bool b,d.v]::box k 62 [.bool false,hnil.v]::rs) w∧m_dd b h=some out) rfl ?_ ?_
  ·rintro ⟨h,i⟩ g w ⟨a,c⟩
   exact vx
  exact vx
instance:CL prog 52 (type_of% @ij):=⟨@ij⟩
theorem oq {i:Bool} {j:LI} {k:Int} {l:Hdr} {out:Bool×LI} (c:m_dg i j k=some out) (r:imm xw l.v j∈ax) (a:St w0 ax rs w):
  Calls prog 152 #[.agg #[.bool i,l.v],iV k] w (rb w0 ax rs out):=by
 refine en func152 rfl ntmps152 fun Q t=>?_
 refine z 2 4 ?_;intro m w a n w a
 obtain ⟨⟨o,p,q⟩,s,c⟩:=bs c
 refine lpN Hdr Hdr s [2,4] (fun (d,e,f) b=>[(1,iV d)]) (fun (d,e,f) b=>St w0 (imm xw b.v f::ax) (box m 62 [.bool e,b.v]::box n 62 [.bool false,hnil.v]::rs)) (fun | (o,p,q),h=>(.exit 0,[(1,iV o)],St w0 (imm xw h.v q::ax) (box m 62 [.bool p,h.v]::box n 62 [.bool false,hnil.v]::rs))) rfl _ ((a.k10).facts (S0 r E1)) rfl ?_ ?_
 ·clear a
  rintro h g w a
  exact vx
 rintro ⟨d,e,f⟩ b g w u a c
 exact vx
instance:CL prog 152 (type_of% @oq):=⟨@oq⟩
theorem nq {h i:Bool} {m:LI} {b:Int} {j:Hdr} {out:Bool×Bool×LI×Int×Bool} (c:m_dh h i m b=some out) (C:imm xw j.v m∈ax) (D:globF∈ax) (a:St w0 ax rs w):
  Calls prog 98 #[.agg #[.bool h,.bool i,j.v,iV b]] w (fun e w=>∃ (n:Hdr),e=.returned (.tuple #[.agg #[.bool out.1,.bool out.2.1,n.v,iV out.2.2.2.1],.bool out.2.2.2.2])∧St w0 (imm xw n.v out.2.2.1::ax) rs w):=by
 refine en func98 rfl ntmps98 fun Q f=>?_
 refine z 3 2 ?_;intro r w a s w a
 refine cJ c (fun t c=>?_) fun t c=>?_
 ·refine z 2 5 ?_;intro E F c w a w a
  cases c
  replace a:=a.immNh xw
  exact f _ _ _ (I4 results98 (C4 rfl rfl a R0 M9 rfl) ⟨rfl,rfl⟩ ⟨_,rfl,(a.k19)⟩)
 ·refine z 6 3 ?_;intro o G c p w a u w a w a H I c w a
  refine cI c (fun x c=>?_) fun x c=>?_
  ·refine z 2 5 ?_;intro w a
   cases c
   replace a:=a.immNh xw
   exact f _ _ _ (I4 results98 (C4 rfl rfl a R0 M9 rfl) ⟨rfl,rfl⟩ ⟨_,rfl,((a.k1b).facts (S0 F0 (N0 (N0 E1))))⟩)
  ·refine z 2 5 ?_;intro J K c w a
   refine bE c fun L N c=>bE c fun k d c=>?_
   refine jN Unit [1,2,4,5] (fun _=>[(30,.bool k)]) (fun _=>St w0 (imm xw p.v o.2::ax) (box r 80 [.bool h,.bool i,j.v,iV b]::box s 80 [.bool false,.bool false,hnil.v,iV 0]::box u 62 [.bool o.1,p.v]::rs)) rfl ?_ ?_
   ·rcases G5 d with ⟨l,d⟩ | ⟨l,d⟩
    ·have y:=J1 d
     refine dS [3] 1 A1 ?_
     replace a:=a.drew
     refine z 3 0 ?_;intro w a
     exact dU (Dw 8176 3 (qR 3 rfl (rK 24 rfl (dT l) (qR 5 rfl (rQ rfl (pt_ (.bool k) e0 rfl (eqv y rfl)) (Rn (qS rfl (sY rfl (lb_ (iV b) O_3 e0 a R2) QSn)) (jr () (a.k18))))))))
    ·have A:=J1 d
     refine dS [3] 1 A1 ?_
     replace a:=a.drew
     refine z 3 0 ?_;intro w a
     exact dU (Dw 8176 3 (qR 3 rfl (rK 24 rfl (dF l) (qR 1 rfl (rQ rfl (lb_ (iV b) O_3 e0 a R2) (qR 3 rfl (rQ rfl (pf_ (.bool k) e0 rfl (eqv A e0)) (Rn (qS rfl (sY rfl (lb_ (iV b) O_3 e0 a R2) QSn)) (jr () (a.k18))))))))))
   rintro _ g w a
   refine q 1 rfl ?_
   refine cJ c (fun B c=>?_) fun B c=>?_
   ·refine z 2 5 ?_;intro O R c w a w a
    cases c
    replace a:=a.immNh xw
    exact f _ _ _ (I4 results98 (C4 rfl rfl a R0 M9 rfl) ⟨rfl,rfl⟩ ⟨_,rfl,((a.k1b).facts (S0 F0 (N0 (N0 E1))))⟩)
   ·refine q 3 rfl (bE c fun S T c=>dS [2,8,9] 3 A1 ?_)
    replace a:=a.drew
    refine z 7 2 ?_;intro U w a w a
    cases c
    exact f _ _ _ (I4 results98 (C4 rfl rfl a R0 M9 rfl) ⟨rfl,rfl⟩ ⟨_,rfl,((a.k1b).facts (S0 F0 (N0 (N0 E1))))⟩)
instance:CL prog 98 (type_of% @nq):=⟨@nq⟩
end Go.Proofs.YthekfonboblioabGreatDoor
