/- Walks: each function computes its model, printed. -/
import Derived.Test.YtpfmbaidflhamaaGreatDoorW3
namespace Go.Proofs.YtpfmbaidflhamaaGreatDoor
open Go Sx M
set_option maxRecDepth 100000
set_option maxHeartbeats 40000000
set_option linter.unusedVariables false
attribute [local irreducible] wpList Code.wp Calls DR QR QS LA LS St
variable {w0:World} {ros:List Fact} {rs:List Res} {w:World}
theorem sparsekit_Bigs_ok {q r:List (Bool×LI)} {h i:Hdr} {out:Bool} (d:sparsekit_Bigs q r=some out) (j:imm (rP rB (rS (rI .u32))) h.v q∈ros) (l:imm (rP rB (rS (rI .u32))) i.v r∈ros) (b:St w0 ros rs w):
  Calls Tryz.prog 22 #[h.v,i.v] w (fun e w=>e=.returned (.bool out)∧St w0 ros rs w):=by
 refine enterQ Tryz.func22 rfl Tryz.ntmps22 rfl fun Q m=>sR fun _ E=>Ya (.bool false) rfl (wK E (seqQ fun b0 F G=>sR fun _ H=>Ym h.v e0 (yY (yLen SL_32 e0 b (rdI j)) (Ym i.v e0 (yY (yLen SL_32 e0 b (rdI l)) (yY (yneq e0 e0) ?_))))))
 refine wK H ?_
 rcases iteS d with ⟨n,d⟩ | ⟨n,d⟩
 ·refine condF e0 (nF (dT n)) (wp_skip (F _ _ (seqQ fun b1 I J=>sR fun _ K=>Ya (iV 0) rfl (wK K (blockQ fun t u=>bE d fun x L d=>?_)))))
  have N:∀ (f:FV) w,St w0 ros rs w→.inl ()=x→t (.exit 0) (fr 27 f) w:=by
   intro f w b ho
   subst ho
   refine u _ _ _ (I _ _ (sR fun _ O=>Ya (.bool true) rfl (wK O (wp_ret ?_))))
   cases d
   exact m _ _ _ (fin1r Tryz.results22 ⟨rfl,rfl⟩ ⟨rfl,b⟩)
  have R:∀ (f:FV) w,f 4=.bool false→St w0 ros rs w→.inr ()=x→t .ret (fr 27 f) w:=by
   intro f w S b ho
   subst ho
   refine u _ _ _ (J _ _ _ rfl ?_)
   cases d
   exact m _ _ _ (fin1r Tryz.results22 ⟨rfl,S⟩ ⟨rfl,b⟩)
  refine loopQ (fun s a w=>∃ (g:Int) (f:FV),g=s∧a=fr 27 f∧f 0=h.v∧f 1=i.v∧f 5=iV g∧St w0 ros rs w) L ⟨_,_,rfl,rfl,rfl,rfl,rfl,b⟩ ?_
  rintro _ _ w b2 ⟨g,f,rfl,rfl,o,y,k,b⟩ c z b3 T A
  refine seqQ fun b4 U V=>sR fun _ W=>Ym (iV g) (eh k) (Ym h.v (eh o) (yY (yLen SL_32 e0 b (rdI j)) (yY (ylss e0 e0) (wK W ?_))))
  refine cIf e0 c (fun X c=>?_) fun X c=>?_
  ·refine wp_skip (U _ _ (seqQ fun b5 Z a0=>blockQ fun _ B=>sQ fun _ a1=>bE c fun a3 C c=>bE c fun a4 D c=>bE c fun b6 a5 c=>dR [0,0,3,7,0,0,48,112,255,511] [8] 1 folM ?_))
   replace b:=b.drew
   refine Dn [0,1,2,3,4,5,6,7] [] [8] (yR rfl (m_ h.v (eh o)) (yR rfl (m_ (iV g) (eh k)) (yR rfl (yIa SL_32 e0 e0 b (rdI j) C) ?_)))
   obtain ⟨b7,b8,b⟩:=iLd b j C
   obtain ⟨b9,c0,rfl,b⟩:=b.eltP
   obtain ⟨rfl,b⟩:=b.eltB
   obtain ⟨a6,rfl,b⟩:=b.eltS
   refine yR rfl (yCtn (cs:=[.bool a3.1,a6.v]) ST_31 rfl e0 b F1) (yR rfl (m_ i.v (eh y)) (yR rfl (m_ (iV g) (eh k)) (yR rfl (yIa SL_32 e0 e0 b (rdI (F_2 l)) D) ?_)))
   obtain ⟨c1,c2,b⟩:=iLd b (F_2 l) D
   obtain ⟨c3,c4,rfl,b⟩:=b.eltP
   obtain ⟨rfl,b⟩:=b.eltB
   obtain ⟨a7,rfl,b⟩:=b.eltS
   refine yR rfl (yCtn (cs:=[.bool a4.1,a7.v]) ST_31 rfl e0 b F1) (Rn QSn ?_)
   refine Lc1 rfl ?_
   refine Lk wn (yCall FN_23 (a2 e0 e0)) (sparsekit_Big_ok a5 F2 F0 b) ?_
   rintro _ w ⟨rfl,b⟩
   refine ⟨_,rfl,?_⟩
   refine Dz [9] [] (yR rfl (ynot e0) (Rn QSn (a1 _ _ ?_)))
   rcases iteS c with ⟨p,c⟩ | ⟨p,c⟩
   ·refine condF e0 (nF p) (wp_skip (B _ _ _ (Z _ _ (wR (Ym (iV g) (eh k) (yY (yadd e0 rfl) (Ya (iV (wa .i64 g 1)) e0 (wN ?_))))))))
    cases c
    exact T _ _ _ rfl ⟨_,_,rfl,rfl,o,y,rfl,(b.facts (allT (allT (allT (allT allI)))))⟩
   ·refine condT e0 (nT (bfalse p)) (sR fun _ a8=>Ya (.bool false) rfl (wK a8 (wp_ret (B _ _ _ (a0 _ _ _ rfl ?_)))))
    cases c
    exact A _ _ _ _ rfl rfl (R _ _ rfl (b.facts (allT (allT (allT (allT allI))))) (z _ rfl))
  ·refine wp_exit (V _ _ _ rfl ?_)
   cases c
   exact A _ _ _ _ rfl rfl (N _ _ b (z _ rfl))
 ·refine condT e0 (nT (dF n)) (sR fun _ a9=>Ya (.bool false) rfl (wK a9 (wp_ret (G _ _ _ rfl ?_))))
  cases d
  exact m _ _ _ (fin1r Tryz.results22 ⟨rfl,rfl⟩ ⟨rfl,b⟩)
theorem sparsekit_Rows_ok {q r:List (List (Bool×LI))} {h i:Hdr} {out:Bool} (d:sparsekit_Rows q r=some out) (j:imm (rS (rP rB (rS (rI .u32)))) h.v q∈ros) (l:imm (rS (rP rB (rS (rI .u32)))) i.v r∈ros) (b:St w0 ros rs w):
  Calls Tryz.prog 21 #[h.v,i.v] w (fun e w=>e=.returned (.bool out)∧St w0 ros rs w):=by
 refine enterQ Tryz.func21 rfl Tryz.ntmps21 rfl fun Q m=>sR fun _ E=>Ya (.bool false) rfl (wK E (seqQ fun a6 F G=>sR fun _ H=>Ym h.v e0 (yY (yLen SL_22 e0 b (rdI j)) (Ym i.v e0 (yY (yLen SL_22 e0 b (rdI l)) (yY (yneq e0 e0) ?_))))))
 refine wK H ?_
 rcases iteS d with ⟨n,d⟩ | ⟨n,d⟩
 ·refine condF e0 (nF (dT n)) (wp_skip (F _ _ (seqQ fun a7 I J=>sR fun _ K=>Ya (iV 0) rfl (wK K (blockQ fun t u=>bE d fun x L d=>?_)))))
  have N:∀ (f:FV) w,St w0 ros rs w→.inl ()=x→t (.exit 0) (fr 27 f) w:=by
   intro f w b ho
   subst ho
   refine u _ _ _ (I _ _ (sR fun _ O=>Ya (.bool true) rfl (wK O (wp_ret ?_))))
   cases d
   exact m _ _ _ (fin1r Tryz.results21 ⟨rfl,rfl⟩ ⟨rfl,b⟩)
  have R:∀ (f:FV) w,f 4=.bool false→St w0 ros rs w→.inr ()=x→t .ret (fr 27 f) w:=by
   intro f w S b ho
   subst ho
   refine u _ _ _ (J _ _ _ rfl ?_)
   cases d
   exact m _ _ _ (fin1r Tryz.results21 ⟨rfl,S⟩ ⟨rfl,b⟩)
  refine loopQ (fun s a w=>∃ (g:Int) (f:FV),g=s∧a=fr 27 f∧f 0=h.v∧f 1=i.v∧f 5=iV g∧St w0 ros rs w) L ⟨_,_,rfl,rfl,rfl,rfl,rfl,b⟩ ?_
  rintro _ _ w a8 ⟨g,f,rfl,rfl,o,y,k,b⟩ c z a9 T A
  refine seqQ fun b0 U V=>sR fun _ W=>Ym (iV g) (eh k) (Ym h.v (eh o) (yY (yLen SL_22 e0 b (rdI j)) (yY (ylss e0 e0) (wK W ?_))))
  refine cIf e0 c (fun X c=>?_) fun X c=>?_
  ·refine wp_skip (U _ _ (seqQ fun b1 Z a0=>blockQ fun _ B=>sQ fun _ a1=>bE c fun b2 C c=>bE c fun b3 D c=>bE c fun b4 a3 c=>dR [0,0,3,7,0,0,48,112,255,511] [8] 1 folM ?_))
   replace b:=b.drew
   refine Dn [0,1,2,3,4,5,6,7] [] [8] (yR rfl (m_ h.v (eh o)) (yR rfl (m_ (iV g) (eh k)) (yR rfl (yIa SL_22 e0 e0 b (rdI j) C) ?_)))
   obtain ⟨b5,b⟩:=iLs b j C
   refine yR rfl (yCt O_32 e0 b F1 rfl) (yR rfl (m_ i.v (eh y)) (yR rfl (m_ (iV g) (eh k)) (yR rfl (yIa SL_22 e0 e0 b (rdI (F_2 l)) D) ?_)))
   obtain ⟨b6,b⟩:=iLs b (F_2 l) D
   refine yR rfl (yCt O_32 e0 b F1 rfl) (Rn QSn ?_)
   refine Lc1 rfl ?_
   refine Lk wn (yCall FN_22 (a2 e0 e0)) (sparsekit_Bigs_ok a3 F2 F0 b) ?_
   rintro _ w ⟨rfl,b⟩
   refine ⟨_,rfl,?_⟩
   refine Dz [9] [] (yR rfl (ynot e0) (Rn QSn (a1 _ _ ?_)))
   rcases iteS c with ⟨p,c⟩ | ⟨p,c⟩
   ·refine condF e0 (nF p) (wp_skip (B _ _ _ (Z _ _ (wR (Ym (iV g) (eh k) (yY (yadd e0 rfl) (Ya (iV (wa .i64 g 1)) e0 (wN ?_))))))))
    cases c
    exact T _ _ _ rfl ⟨_,_,rfl,rfl,o,y,rfl,(b.facts (allT (allT (allT (allT allI)))))⟩
   ·refine condT e0 (nT (bfalse p)) (sR fun _ a4=>Ya (.bool false) rfl (wK a4 (wp_ret (B _ _ _ (a0 _ _ _ rfl ?_)))))
    cases c
    exact A _ _ _ _ rfl rfl (R _ _ rfl (b.facts (allT (allT (allT (allT allI))))) (z _ rfl))
  ·refine wp_exit (V _ _ _ rfl ?_)
   cases c
   exact A _ _ _ _ rfl rfl (N _ _ b (z _ rfl))
 ·refine condT e0 (nT (dF n)) (sR fun _ a5=>Ya (.bool false) rfl (wK a5 (wp_ret (G _ _ _ rfl ?_))))
  cases d
  exact m _ _ _ (fin1r Tryz.results21 ⟨rfl,rfl⟩ ⟨rfl,b⟩)
theorem sparseref07_Shape_ok {n:LI} {h:Hdr} {out:Int} (i:sparseref07_Shape n=some out) (j:imm I1 h.v n∈ros) (b:St w0 ros rs w):
  Calls Tryz.prog 51 #[h.v] w (fun e w=>e=.returned (iV out)∧St w0 ros rs w):=by
 refine enterQ Tryz.func51 rfl Tryz.ntmps51 rfl fun Q p=>sR fun _ I=>Ya (iV 0) rfl (wK I (seqQ fun b4 J K=>sR fun _ L=>Ya (iV 0) rfl (wK L (blockQ fun u x=>bE i fun y N i=>?_))))
 have O:∀ (f:FV) w,f 0=h.v→St w0 ros rs w→.inl ()=y→u (.exit 0) (fr 32 f) w:=by
  intro f w q b ho
  subst ho
  refine x _ _ _ (J _ _ (seqQ fun b5 R S=>sR fun _ T=>Ym h.v (eh q) (yY (yLen SL_48 e0 b (rdI j)) (yY (ygtr e0 rfl) (Ym (.bool (decide ((200:Int) < (n.length:Int)))) e0 (bE i fun U k i=>?_))))))
  refine joinW 10 (fun f w=>f 31=.bool U∧St w0 ros rs w) (fun z=>?_) ?_
  ·rcases iteS k with ⟨c,k⟩ | ⟨c,k⟩
   ·refine gN (dT c) (gN (dT c) (gN (dT c) (gN (dT c) (Gn (wxu rfl rfl rfl) rfl (Gn (wxu rfl rfl rfl) rfl (Gn (wxu rfl rfl rfl) rfl (Gn (wxu rfl rfl rfl) rfl (gN (dT c) (yY (pt_ (.bool true) e0 (dT c) rfl) ?_)))))))))
    cases k
    exact z _ _ ⟨rfl,b⟩
   ·refine yG (dF c) (m_ h.v (eh q)) (yG (dF c) (yLen SL_48 e0 b (rdI j)) (yG (dF c) (ygtr e0 rfl) (yG (dF c) (m_ (.bool (decide ((0:Int) < (n.length:Int)))) e0) (bE k fun A l k=>?_))))
    refine joinW 5 (fun f w=>f 21=.bool (decide ((200:Int) < (n.length:Int)))∧f 30=.bool A∧St w0 ros rs w) (fun B=>?_) ?_
    ·rcases iteS l with ⟨g,l⟩ | ⟨g,l⟩
     ·refine yG (dT g) (m_ h.v (eh q)) (bE l fun V C l=>yG (dT g) (yIa SL_48 e0 rfl b (rdI j) C) (yG (dT g) (yI O_3 e0 b (rdI j) C) (yG (dT g) (ygtr e0 rfl) (yG (dF c) (pt_ (.bool (decide ((200:Int) < V))) e0 (dT g) e0) ?_))))
      cases l
      exact B _ _ ⟨rfl,rfl,b⟩
     ·refine gN (dF g) (gN (dF g) (gN (dF g) (gN (dF g) (yG (dF c) (pf_ (.bool false) e0 (dF g) rfl) ?_))))
      cases l
      exact B _ _ ⟨rfl,rfl,b⟩
    rintro f w ⟨W,X,b⟩
    refine yY (pf_ (.bool A) (eh W) (dF c) (eh X)) ?_
    cases k
    exact z _ _ ⟨rfl,b⟩
  rintro f w ⟨Z,b⟩
  refine wK T (cB (eh Z) i (fun a0 i=>?_) fun a0 i=>?_)
  ·refine sR fun _ a1=>Ya (iV 6) rfl (wK a1 (wp_ret (S _ _ _ rfl ?_)))
   cases i
   exact p _ _ _ (fin1r Tryz.results51 ⟨rfl,rfl⟩ ⟨rfl,b⟩)
  ·refine wp_skip (R _ _ (sR fun _ a2=>Ya (iV 0) rfl (wK a2 (wp_ret ?_))))
   cases i
   exact p _ _ _ (fin1r Tryz.results51 ⟨rfl,rfl⟩ ⟨rfl,b⟩)
 have a3:∀ (f:FV) w,f 2=iV 5→St w0 ros rs w→.inr ()=y→u .ret (fr 32 f) w:=by
  intro f w a4 b ho
  subst ho
  refine x _ _ _ (K _ _ _ rfl ?_)
  cases i
  exact p _ _ _ (fin1r Tryz.results51 ⟨rfl,a4⟩ ⟨rfl,b⟩)
 refine loopQ (fun s a w=>∃ (m:Int) (f:FV),m=s∧a=fr 32 f∧f 0=h.v∧f 3=iV m∧St w0 ros rs w) N ⟨_,_,rfl,rfl,rfl,rfl,b⟩ ?_
 rintro _ _ w b6 ⟨m,f,rfl,rfl,o,r,b⟩ d D b7 a5 E
 refine seqQ fun b8 a6 a7=>sR fun _ a8=>Ym (iV m) (eh r) (Ym h.v (eh o) (yY (yLen SL_48 e0 b (rdI j)) (yY (ylss e0 e0) (wK a8 ?_))))
 refine cIf e0 d (fun a9 d=>?_) fun a9 d=>?_
 ·refine wp_skip (a6 _ _ (seqQ fun b9 b0 b1=>blockQ fun _ F=>sQ fun _ b2=>bE d fun c0 G d=>bE d fun c1 H d=>dR [0,0,3,7,0,16,48,127] [] 0 folM ?_))
  replace b:=b.drew
  refine Dz [0,1,2,3,4,5,6,7] [] (yR rfl (m_ h.v (eh o)) (yR rfl (m_ (iV m) (eh r)) (yR rfl (yIa SL_48 e0 e0 b (rdI j) G) (yR rfl (yI O_3 e0 b (rdI j) G) (yR rfl (m_ h.v (eh o)) (yR rfl (yIa SL_48 e0 rfl b (rdI j) H) (yR rfl (yI O_3 e0 b (rdI j) H) (yR rfl (yneq e0 e0) (Rn QSn (b2 _ _ ?_))))))))))
  rcases iteS d with ⟨t,d⟩ | ⟨t,d⟩
  ·refine condF e0 (nF (dT t)) (wp_skip (F _ _ _ (b0 _ _ (wR (Ym (iV m) (eh r) (yY (yadd e0 rfl) (Ya (iV (wa .i64 m 1)) e0 (wN ?_))))))))
   cases d
   exact a5 _ _ _ rfl ⟨_,_,rfl,rfl,o,rfl,b⟩
  ·refine condT e0 (nT (dF t)) (sR fun _ b3=>Ya (iV 5) rfl (wK b3 (wp_ret (F _ _ _ (b1 _ _ _ rfl ?_)))))
   cases d
   exact E _ _ _ _ rfl rfl (a3 _ _ rfl b (D _ rfl))
 ·refine wp_exit (a7 _ _ _ rfl ?_)
  cases d
  exact E _ _ _ _ rfl rfl (O _ _ o b (D _ rfl))
theorem sparseref08_Cols_ok {f:List (List (Bool×LI))} {c:Hdr} {out:Int} (b:sparseref08_Cols f=some out) (d:imm (rS (rP rB (rS (rI .u32)))) c.v f∈ros) (a:St w0 ros rs w):
  Calls Tryz.prog 13 #[c.v] w (fun e w=>e=.returned (iV out)∧St w0 ros rs w):=by
 refine enterQ Tryz.func13 rfl Tryz.ntmps13 rfl fun Q g=>sR fun _ i=>Ya (iV 0) rfl (wK i (seqQ fun q j k=>sR fun _ l=>Ym c.v e0 (yY (yLen SL_22 e0 a (rdI d)) (yY (yeql e0 rfl) (wK l ?_)))))
 refine cIf e0 b (fun m b=>?_) fun m b=>?_
 ·refine sR fun _ n=>Ya (iV 0) rfl (wK n (wp_ret (k _ _ _ rfl ?_)))
  cases b
  exact g _ _ _ (fin1r Tryz.results13 ⟨rfl,rfl⟩ ⟨rfl,a⟩)
 ·refine wp_skip (j _ _ (sR fun _ o=>Ym c.v e0 (bE b fun p h b=>yY (yIa SL_22 e0 rfl a (rdI d) h) ?_)))
  obtain ⟨r,a⟩:=iLs a d h
  refine yY (yCt O_32 e0 a F1 rfl) (yY (yLen SL_32 e0 a (rdI F0)) (Ya (iV (p.length:Int)) e0 (wK o (wp_ret ?_))))
  cases b
  exact g _ _ _ (fin1r Tryz.results13 ⟨rfl,rfl⟩ ⟨rfl,(a.facts (allT (allT allI)))⟩)
theorem sparseref08_Check_ok {q:List (List (Bool×LI))} {h:Hdr} {out:Int} (c:sparseref08_Check q=some out) (k:imm (rS (rP rB (rS (rI .u32)))) h.v q∈ros) (b:St w0 ros rs w):
  Calls Tryz.prog 12 #[h.v] w (fun e w=>e=.returned (iV out)∧St w0 ros rs w):=by
 refine enterQ Tryz.func12 rfl Tryz.ntmps12 rfl fun Q r=>sR fun _ D=>Ya (iV 0) rfl (wK D (sR fun _ E=>Ya hnil.v rfl (wK E (sQ fun _ F=>sR fun _ G=>?_))))
 refine Ya (iV 0) rfl (wK G (blockQ fun H I=>bE c fun J K c=>?_))
 have L:∀ (t:LI) (m:Hdr) (f:FV) w,f 0=h.v→f 3=m.v→St w0 ros (row 3 I1 m.v t::rs) w→t=J→H (.exit 0) (fr 30 f) w:=by
  intro t m f w z N b ho
  subst ho
  refine I _ _ _ (F _ _ (seqQ fun b9 O R=>sR fun _ S=>Ym m.v (eh N) (bE c fun c0 T c=>?_)))
  replace b:=b.fz
  refine yC (yCall FN_51 (a1 e0)) (sparseref07_Shape_ok T F0 b) ?_
  rintro _ w ⟨rfl,b⟩
  refine ⟨_,rfl,?_⟩
  refine yY (yeql e0 rfl) (wK S ?_)
  refine cIf e0 c (fun U c=>?_) fun U c=>?_
  ·refine sR fun _ V=>Ya (iV 5) rfl (wK V (wp_ret (R _ _ _ rfl ?_)))
   cases c
   exact r _ _ _ (fin1r Tryz.results12 ⟨rfl,rfl⟩ ⟨rfl,(b.facts (allT allI))⟩)
  ·refine wp_skip (O _ _ (seqQ fun c1 W X=>sR fun _ Z=>Ym h.v (eh z) (yY (yLen SL_22 e0 b (rdI (mtF k))) (yY (ygtr e0 rfl) (Ym (.bool (decide ((16:Int) < (q.length:Int)))) e0 (bE c fun a0 i c=>?_))))))
   refine joinW 4 (fun f w=>f 29=.bool a0∧St w0 ros rs w) (fun A=>?_) ?_
   ·rcases iteS i with ⟨d,i⟩ | ⟨d,i⟩
    ·refine gN (dT d) (gN (dT d) (gN (dT d) (yY (pt_ (.bool true) e0 (dT d) rfl) ?_)))
     cases i
     exact A _ _ ⟨rfl,(b.facts (allT allI))⟩
    ·refine yG (dF d) (m_ h.v (eh z)) (bE i fun a2 a3 i=>Yc (wG (dF d)) rfl (yCall FN_13 (a1 e0)) (sparseref08_Cols_ok a3 (mtF k) b) ?_)
     rintro _ w ⟨rfl,b⟩
     refine ⟨_,rfl,?_⟩
     refine yG (dF d) (ygtr e0 rfl) (yY (pf_ (.bool (decide ((16:Int) < a2))) e0 (dF d) e0) ?_)
     cases i
     exact A _ _ ⟨rfl,(b.facts (allT allI))⟩
   rintro f w ⟨a4,b⟩
   refine wK Z (cB (eh a4) c (fun a5 c=>?_) fun a5 c=>?_)
   ·refine sR fun _ a6=>Ya (iV 6) rfl (wK a6 (wp_ret (X _ _ _ rfl ?_)))
    cases c
    exact r _ _ _ (fin1r Tryz.results12 ⟨rfl,rfl⟩ ⟨rfl,b⟩)
   ·refine wp_skip (W _ _ (sR fun _ a7=>Ya (iV 0) rfl (wK a7 (wp_ret ?_))))
    cases c
    exact r _ _ _ (fin1r Tryz.results12 ⟨rfl,rfl⟩ ⟨rfl,b⟩)
 replace b:=b.rowNh 3 I1
 refine loopQ (fun s a w=>∃ (u:LI) (j:Int) (f:FV) (o:Hdr),(u,j)=s∧a=fr 30 f∧f 0=h.v∧f 3=o.v∧f 4=iV j∧St w0 ros (row 3 I1 o.v u::rs) w) K ⟨_,_,_,_,rfl,rfl,rfl,rfl,rfl,b⟩ ?_
 rintro _ _ w c2 ⟨u,j,f,o,rfl,rfl,p,B,x,b⟩ g a8 c3 a9 b0
 refine seqQ fun c4 b1 b2=>sR fun _ b3=>Ym (iV j) (eh x) (Ym h.v (eh p) (yY (yLen SL_22 e0 b (rdI k)) (yY (ylss e0 e0) (wK b3 ?_))))
 refine cIf e0 g (fun b4 g=>?_) fun b4 g=>?_
 ·refine wp_skip (b1 _ _ (sQ fun _ b5=>blockQ fun _ b6=>wR (Ym o.v (eh B) (Ym h.v (eh p) (Ym (iV j) (eh x) (bE g fun y C g=>yY (yIa SL_22 e0 e0 b (rdI k) C) ?_))))))
  obtain ⟨c5,b⟩:=iLs b k C
  refine yY (yCt O_32 e0 b F1 rfl) (yY (yLen SL_32 e0 b (rdI F0)) (yH (rLt (n:=1) (l:=[(y.length:Int)]) b SL_48 [iV (y.length:Int)] (bp1 e0) rfl rfl (mks1 (cs:=[iV (y.length:Int)]) rfl mkI mks0)) fun c6 w b=>bE g fun c7 b7 g=>yH (rAp (b.k17) SL_48 e0 e0 rO1 b7) fun b8 w b=>Ya b8.v e0 (wN (b6 _ _ _ (b5 _ _ (wR (Ym (iV j) (eh x) (yY (yadd e0 rfl) ?_))))))))
  refine Ya (iV (wa .i64 j 1)) e0 (wN ?_)
  cases g
  exact a9 _ _ _ rfl ⟨_,_,_,_,rfl,rfl,p,rfl,rfl,((b.k18).facts (allT (allT allI)))⟩
 ·refine wp_exit (b2 _ _ _ rfl ?_)
  cases g
  exact b0 _ _ _ _ rfl rfl (L _ _ _ _ p B b (a8 _ rfl))
theorem sparseref01_trim_ok {u:LI} {d:Hdr} {out:LI} (m:sparseref01_trim u=some out) (o:imm (rI .u32) d.v u∈ros) (b:St w0 ros rs w):
  Calls Tryz.prog 116 #[d.v] w (fun e w=>∃ (C:Hdr),e=.returned (C.v)∧St w0 ros (row 103 (rI .u32) C.v out::rs) w):=by
 refine enterQ Tryz.func116 rfl Tryz.ntmps116 rfl fun Q L=>sR fun _ N=>Ya hnil.v rfl (wK N (sR fun _ O=>Ym d.v e0 (yY (yLen SL_29 e0 b (rdI o)) (Ya (iV (u.length:Int)) e0 (wK O (sQ fun _ R=>?_))))))
 refine blockQ fun S T=>bE m fun U V m=>?_
 have W:∀ (p:Int) (f:FV) w,f 0=d.v→f 3=iV p→St w0 ros rs w→p=U→S (.exit 0) (fr 33 f) w:=by
  intro p f w X Z b ho
  subst ho
  refine T _ _ _ (R _ _ (sR fun _ a0=>Ya hnil.v rfl (wK a0 (sQ fun _ a1=>sR fun _ a2=>Ya (iV 0) rfl (wK a2 (blockQ fun a3 a4=>?_))))))
  refine bE m fun a5 a6 m=>?_
  have a7:∀ (x:LI) (q:Hdr) (f:FV) w,f 4=q.v→St w0 ros (row 103 (rI .u32) q.v x::rs) w→x=a5→a3 (.exit 2) (fr 33 f) w:=by
   intro x q f w a8 b ho
   subst ho
   refine a4 _ _ _ (a1 _ _ (sR fun _ a9=>Ym q.v (eh a8) (Ya q.v e0 (wK a9 (wp_ret ?_)))))
   cases m
   exact L _ _ _ (fin1r Tryz.results116 ⟨rfl,rfl⟩ ⟨_,rfl,b⟩)
  replace b:=b.rowNh 103 (rI .u32)
  refine loopQ (fun s a w=>∃ (y:LI) (i:Int) (f:FV) (r:Hdr),(y,i)=s∧a=fr 33 f∧f 0=d.v∧f 3=iV p∧f 4=r.v∧f 5=iV i∧St w0 ros (row 103 (rI .u32) r.v y::rs) w) a6 ⟨_,_,_,_,rfl,rfl,X,Z,rfl,rfl,b⟩ ?_
  rintro _ _ w d2 ⟨y,i,f,r,rfl,rfl,D,E,F,z,b⟩ g b0 d3 b1 b2
  refine seqQ fun d4 b3 b4=>sR fun _ b5=>Ym (iV i) (eh z) (Ym (iV p) (eh E) (yY (ylss e0 e0) (wK b5 ?_)))
  refine cIf e0 g (fun b6 g=>?_) fun b6 g=>?_
  ·refine wp_skip (b3 _ _ (sQ fun _ b7=>blockQ fun _ b8=>wR (Ym r.v (eh F) (Ym d.v (eh D) (Ym (iV i) (eh z) (bE g fun A G g=>yY (yIa SL_29 e0 e0 b (rdI o) G) (yY (yI O_103 e0 b (rdI o) G) (yH (rLt (n:=1) (l:=[A]) b SL_29 [.int .u32 A] (bp1 e0) rfl rfl (mks1 (cs:=[.int .u32 A]) rfl mkI mks0)) fun d5 w b=>bE g fun d6 b9 g=>?_))))))))
   refine yH (rAp (b.k17) SL_29 e0 e0 rO1 b9) fun c0 w b=>Ya c0.v e0 (wN (b8 _ _ _ (b7 _ _ (wR (Ym (iV i) (eh z) (yY (yadd e0 rfl) (Ya (iV (wa .i64 i 1)) e0 (wN ?_))))))))
   cases g
   exact b1 _ _ _ rfl ⟨_,_,_,_,rfl,rfl,D,E,rfl,rfl,(b.k18)⟩
  ·refine wp_exit (b4 _ _ _ rfl ?_)
   cases g
   exact b2 _ _ _ _ rfl rfl (a7 _ _ _ _ F b (b0 _ rfl))
 refine loopQ (fun s a w=>∃ (h:Int) (f:FV),h=s∧a=fr 33 f∧f 0=d.v∧f 3=iV h∧St w0 ros rs w) V ⟨_,_,rfl,rfl,rfl,rfl,b⟩ ?_
 rintro _ _ w d7 ⟨h,f,rfl,rfl,B,t,b⟩ j c1 d8 c2 c3
 refine seqQ fun d9 c4 c5=>sR fun _ c6=>Ym (iV h) (eh t) (yY (ygtr e0 rfl) (Ym (.bool (decide ((0:Int) < h))) e0 (bE j fun c7 k j=>?_)))
 refine joinW 7 (fun f w=>f 0=d.v∧f 3=iV h∧f 17=.bool c7∧St w0 ros rs w) (fun H=>?_) ?_
 ·rcases iteS k with ⟨c,k⟩ | ⟨c,k⟩
  ·refine yG (dT c) (m_ d.v (eh B)) (yG (dT c) (m_ (iV h) (eh t)) (yG (dT c) (ysub e0 rfl) (bE k fun c8 I k=>yG (dT c) (yIa SL_29 e0 e0 b (rdI o) I) (yG (dT c) (yI O_103 e0 b (rdI o) I) (yG (dT c) (yeql e0 rfl) (yY (pt_ (.bool (decide (c8=0))) e0 (dT c) e0) ?_))))))
   cases k
   exact H _ _ ⟨B,t,rfl,b⟩
  ·refine gN (dF c) (gN (dF c) (gN (dF c) (gN (dF c) (gN (dF c) (gN (dF c) (yY (pf_ (.bool false) e0 (dF c) rfl) ?_))))))
   cases k
   exact H _ _ ⟨B,t,rfl,b⟩
 rintro f w ⟨J,K,c9,b⟩
 refine wK c6 (cB (eh c9) j (fun d0 j=>?_) fun d0 j=>?_)
 ·refine wp_skip (c4 _ _ (blockQ fun _ d1=>wR (Ym (iV h) (eh K) (yY (ysub e0 rfl) (Ya (iV (ws .i64 h 1)) e0 (wN (d1 _ _ _ ?_)))))))
  cases j
  exact c2 _ _ _ rfl ⟨_,_,rfl,rfl,J,rfl,b⟩
 ·refine wp_exit (c5 _ _ _ rfl ?_)
  cases j
  exact c3 _ _ _ _ rfl rfl (W _ _ _ J K b (c1 _ rfl))
theorem sparseref01_make1_ok {c:Bool} {j:LI} {h:Hdr} {out:Bool×LI} (i:sparseref01_make1 c j=some out) (o:imm (rI .u32) h.v j∈ros) (a:St w0 ros rs w):
  Calls Tryz.prog 110 #[.bool c,h.v] w (fun e w=>∃ (k:Hdr),e=.returned (.agg #[.bool out.1,k.v])∧St w0 ros (row 103 (rI .u32) k.v out.2::rs) w):=by
 refine enterQ Tryz.func110 rfl Tryz.ntmps110 rfl fun Q p=>sR fun _ q=>yBb (rAl a ZT_31) fun l w a=>wK q (sR fun _ r=>Ym h.v e0 (bE i fun g s i=>yC (yCall FN_116 (a1 e0)) (sparseref01_trim_ok s o a) ?_))
 rintro _ w ⟨d,rfl,a⟩
 refine ⟨_,rfl,?_⟩
 refine Ya d.v e0 (wK r (sR fun _ t=>Ym (.bool c) e0 (Ym (.bool c) e0 ?_)))
 refine joinW 4 (fun f w=>f 1=d.v∧f 4=(pB l)∧f 12=.bool (c && (decide ((0:Int) < (g.length:Int))))∧St w0 ros (row 103 (rI .u32) d.v g::box l 31 [.bool false,hnil.v]::rs) w) (fun m=>?_) ?_
 ·rcases Bool.eq_false_or_eq_true c with b | b
  ·exact yG b (m_ d.v e0) (yG b (yLen SL_29 e0 a rO0) (yG b (ygtr e0 rfl) (yY (pt_ (.bool (decide ((0:Int) < (g.length:Int)))) e0 b e0) (m _ _ ⟨rfl,rfl,(congrArg Value.bool (andT b)),a⟩))))
  ·exact gN b (gN b (gN b (yY (pf_ (.bool false) e0 b rfl) (m _ _ ⟨rfl,rfl,(congrArg Value.bool (andF b)),a⟩))))
 rintro f w ⟨u,n,x,a⟩
 refine Ym d.v (eh u) (yY (ybuild (us:=[.bool (c && (decide ((0:Int) < (g.length:Int)))),d.v]) [(0,.bool (c && (decide ((0:Int) < (g.length:Int))))),(1,d.v)] SO_31 (bp2 (eh x) e0) rfl) (yT (r_stbn (vals':=[.bool (c && (decide ((0:Int) < (g.length:Int)))),d.v]) (us:=[.bool (c && (decide ((0:Int) < (g.length:Int)))),d.v]) (a.k17) ST_31 (eh n) e0 rfl rfl (one_of rfl) rfl) fun w a=>wK t (wp_ret ?_)))
 cases i
 exact p _ _ _ (fin1r Tryz.results110 (rcs2 rfl n a R0 ST_31 rfl) ⟨_,rfl,(a.k20)⟩)
theorem sparseref01_Norm_ok {b:Bool} {f:LI} {c:Hdr} {out:Bool×LI} (d:sparseref01_Norm b f=some out) (j:imm (rI .u32) c.v f∈ros) (a:St w0 ros rs w):
  Calls Tryz.prog 78 #[.agg #[.bool b,c.v]] w (fun e w=>∃ (g:Hdr),e=.returned (.agg #[.bool out.1,g.v])∧St w0 ros (row 103 (rI .u32) g.v out.2::rs) w):=by
 refine enterQ Tryz.func78 rfl Tryz.ntmps78 rfl fun Q k=>sR fun _ l=>yBb (r_box (vals:=[.bool b,c.v]) a e0 rfl) fun o w a=>yBb (rAl a ZT_31) fun p w a=>wK l (sR fun _ m=>yY (yFb FL_31_0 e0) (yY (lb_ (.bool b) O_4 e0 a R1) (yY (yFb FL_31_1 e0) ?_)))
 refine yY (lb_ c.v O_29 e0 a R1) (bE d fun h n d=>yC (yCall FN_110 (a2 e0 e0)) (sparseref01_make1_ok n j a) ?_)
 rintro _ w ⟨i,rfl,a⟩
 refine ⟨_,rfl,?_⟩
 refine yT (r_stbn (vals':=[.bool h.1,i.v]) (us:=[.bool h.1,i.v]) (a.k17) ST_31 e0 e0 rfl rfl (one_of rfl) rfl) fun w a=>wK m (wp_ret ?_)
 cases d
 exact k _ _ _ (fin1r Tryz.results78 (rcs2 rfl rfl a R0 ST_31 rfl) ⟨_,rfl,(a.k11)⟩)
theorem sparseref01_FromInt_ok {c:Int} {out:Bool×LI} (d:sparseref01_FromInt c=some out) (a:St w0 ros rs w):
  Calls Tryz.prog 84 #[iV c] w (fun e w=>∃ (g:Hdr),e=.returned (.agg #[.bool out.1,g.v])∧St w0 ros (row 103 (rI .u32) g.v out.2::rs) w):=by
 refine enterQ Tryz.func84 rfl Tryz.ntmps84 rfl fun Q p=>sR fun _ q=>yBb (rAl a ZT_31) fun h w a=>wK q (sR fun _ r=>Ym (iV c) e0 (yY (ycv (k':=.u64) (by kernel_rfl) (by kernel_rfl) e0) (Ya (.int .u64 (wc .u64 c)) e0 (wK r ?_))))
 refine sQ fun s t=>sR fun _ u=>Ym (iV c) e0 (yY (ylss e0 rfl) (wK u ?_))
 have i:∀ (b:Int) (f:FV) w,f 0=iV c→f 2=(pB h)→f 3=.int .u64 b→St w0 ros (box h 31 [.bool false,hnil.v]::rs) w→sparseref01_FromInt_j1 c b=some out→s .normal (fr 22 f) w:=by
  intro b f w x j k a d
  refine t _ _ (sR fun _ y=>Ym (iV c) (eh x) (yY (ylss e0 rfl) (Ym (.int .u64 b) (eh k) (yY (ycv (k':=.u32) (by kernel_rfl) (by kernel_rfl) e0) (Ym (.int .u64 b) (eh k) (yY (yshrc e0 rfl) (yY (ycv (k':=.u32) (by kernel_rfl) (by kernel_rfl) e0) (yH (rLt (n:=2) (l:=[wc .u32 b,wc .u32 (wsrc .u64 b 32)]) a SL_29 [.int .u32 (wc .u32 b),.int .u32 (wc .u32 (wsrc .u64 b 32))] (bp2 e0 e0) rfl rfl (mks1 (cs:=[.int .u32 (wc .u32 b)]) rfl mkI (mks1 (cs:=[.int .u32 (wc .u32 (wsrc .u64 b 32))]) rfl mkI mks0))) fun B w a=>bE d fun m z d=>?_))))))))
  replace a:=a.fz
  refine yC (yCall FN_110 (a2 e0 e0)) (sparseref01_make1_ok z F0 a) ?_
  rintro _ w ⟨o,rfl,a⟩
  refine ⟨_,rfl,?_⟩
  refine yT (r_stbn (vals':=[.bool m.1,o.v]) (us:=[.bool m.1,o.v]) (a.k17) ST_31 (eh j) e0 rfl rfl (one_of rfl) rfl) fun w a=>wK y (wp_ret ?_)
  cases d
  exact p _ _ _ (fin1r Tryz.results84 (rcs2 rfl j a R0 ST_31 rfl) ⟨_,rfl,((a.k20).facts (allT allI))⟩)
 refine cIf e0 d (fun A d=>?_) fun A d=>?_
 ·exact wR (Ym (iV c) e0 (yY (yadd e0 rfl) (yY (yneg e0) (yY (ycv (k':=.u64) (by kernel_rfl) (by kernel_rfl) e0) (yY (yadd e0 rfl) (Ya (.int .u64 (wa .u64 (wc .u64 (wneg .i64 (wa .i64 c 1))) 1)) e0 (wN (i _ _ _ rfl rfl rfl a d))))))))
 ·exact wp_skip (i _ _ _ rfl rfl rfl a d)
theorem sparseref08_fracs_ok {H:List (List (Bool×LI))} {h:Hdr} {out:(List (List (Bool×LI×Bool×LI)))} (C:sparseref08_fracs H=some out) (q:imm (rS (rP rB (rS (rI .u32)))) h.v H∈ros) (b:St w0 ros rs w):
  Calls Tryz.prog 56 #[h.v] w (fun e w=>∃ (I:Hdr) (J:List Hdr),e=.returned (I.v)∧St w0 ros (row 81 rH I.v J::fam 80 (rP rB (rP (rS (rI .u32)) (rP rB (rS (rI .u32))))) J out::rs) w):=by
 refine enterQ Tryz.func56 rfl Tryz.ntmps56 rfl fun Q W=>sR fun _ X=>Ya hnil.v rfl (wK X (sR fun _ Z=>Ya hnil.v rfl (wK Z (sQ fun _ a0=>sR fun _ a2=>?_))))
 refine Ya (iV 0) rfl (wK a2 (blockQ fun a3 a4=>bE C fun a5 a6 C=>?_))
 have a7:∀ (D:List (List (Bool×LI×Bool×LI))) (r:Hdr) (E:List Hdr) (f:FV) w,f 3=r.v→St w0 ros (row 81 rH r.v E::fam 80 (rP rB (rP (rS (rI .u32)) (rP rB (rS (rI .u32))))) E D::rs) w→D=a5→a3 (.exit 0) (fr 40 f) w:=by
  intro D r E f w a8 b ho
  subst ho
  refine a4 _ _ _ (a0 _ _ (sR fun _ a9=>Ym r.v (eh a8) (Ya r.v e0 (wK a9 (wp_ret ?_)))))
  cases C
  exact W _ _ _ (fin1r Tryz.results56 ⟨rfl,rfl⟩ ⟨_,_,rfl,b⟩)
 replace b:=((b.rowNh 81 rH).fNew 80 (rP rB (rP (rS (rI .u32)) (rP rB (rS (rI .u32)))))).k17
 refine loopQ (fun s a w=>∃ (t:List (List (Bool×LI×Bool×LI))) (d:Int) (f:FV) (i:Hdr) (j:List Hdr),(t,d)=s∧a=fr 40 f∧f 0=h.v∧f 3=i.v∧f 4=iV d∧St w0 ros (row 81 rH i.v j::fam 80 (rP rB (rP (rS (rI .u32)) (rP rB (rS (rI .u32))))) j t::rs) w) a6 ⟨_,_,_,_,_,rfl,rfl,rfl,rfl,rfl,b⟩ ?_
 rintro _ _ w e9 ⟨t,d,f,i,j,rfl,rfl,K,L,N,b⟩ g b0 f0 b1 b2
 refine seqQ fun f1 b3 b4=>sR fun _ b5=>Ym (iV d) (eh N) (Ym h.v (eh K) (yY (yLen SL_22 e0 b (rdI q)) (yY (ylss e0 e0) (wK b5 ?_))))
 refine cIf e0 g (fun b6 g=>?_) fun b6 g=>?_
 ·refine wp_skip (b3 _ _ (sQ fun _ b7=>blockQ fun _ b8=>sR fun _ b9=>Ya hnil.v rfl (wK b9 (sQ fun _ c0=>sR fun _ c1=>Ya (iV 0) rfl (wN ?_)))))
  refine c1 _ _ (blockQ fun c2 c3=>bE g fun c4 c5 g=>?_)
  have c6:∀ (u:List (Bool×LI×Bool×LI)) (k:Hdr) (f:FV) w,f 0=h.v→f 3=i.v→f 4=iV d→f 5=k.v→St w0 ros (row 81 rH i.v j::fam 80 (rP rB (rP (rS (rI .u32)) (rP rB (rS (rI .u32))))) j t::row 80 (rP rB (rP (rS (rI .u32)) (rP rB (rS (rI .u32))))) k.v u::rs) w→u=c4→c2 (.exit 2) (fr 40 f) w:=by
   intro u k f w c7 c8 c9 d0 b ho
   subst ho
   refine c3 _ _ _ (c0 _ _ (wR (Ym i.v (eh c8) (Ym k.v (eh d0) (yH (rLt (n:=1) (l:=[k]) b SLH_75 [k.v] (bp1 e0) rfl rfl (mks1 rfl (mkF rfl) mks0)) fun f2 w b=>bE g fun f3 O g=>?_)))))
   replace b:=b.k17
   obtain ⟨f4,ey191,d1⟩:=app_rep O (b.famL R2) (show [k].length=[u].length from rfl)
   refine yH (rAp b SLH_75 e0 e0 rO1 d1) fun d2 w b=>?_
   replace b:=(b.k12).fPush
   rw [← ey191,← (app_some O).1] at b
   refine Ya d2.v e0 (wN (b8 _ _ _ (b7 _ _ (wR (Ym (iV d) (eh c9) (yY (yadd e0 rfl) (Ya (iV (wa .i64 d 1)) e0 (wN ?_))))))))
   cases g
   exact b1 _ _ _ rfl ⟨_,_,_,_,_,rfl,rfl,c7,rfl,rfl,(b.k1a)⟩
  replace b:=b.rowNh 80 (rP rB (rP (rS (rI .u32)) (rP rB (rS (rI .u32)))))
  refine loopQ (fun s a w=>∃ (F:List (Bool×LI×Bool×LI)) (m:Int) (f:FV) (x:Hdr),(F,m)=s∧a=fr 40 f∧f 0=h.v∧f 3=i.v∧f 4=iV d∧f 5=x.v∧f 6=iV m∧St w0 ros (row 81 rH i.v j::fam 80 (rP rB (rP (rS (rI .u32)) (rP rB (rS (rI .u32))))) j t::row 80 (rP rB (rP (rS (rI .u32)) (rP rB (rS (rI .u32))))) x.v F::rs) w) c5 ⟨_,_,_,_,rfl,rfl,K,L,N,rfl,rfl,(b.k1c)⟩ ?_
  rintro _ _ w f5 ⟨F,m,f,x,rfl,rfl,y,R,z,S,G,b⟩ c d3 f6 d4 d5
  refine seqQ fun f7 d6 d7=>sR fun _ d8=>Ym (iV m) (eh G) (Ym h.v (eh y) (Ym (iV d) (eh z) (bE c fun f8 T c=>yY (yIa SL_22 e0 e0 b (rdI q) T) ?_)))
  obtain ⟨f9,b⟩:=iLs b q T
  refine yY (yCt O_32 e0 b F1 rfl) (yY (yLen SL_32 e0 b (rdI F0)) (yY (ylss e0 e0) (wK d8 ?_)))
  refine cIf e0 c (fun d9 c=>?_) fun d9 c=>?_
  ·refine wp_skip (d6 _ _ (sQ fun _ e1=>blockQ fun _ e2=>wR (Ym x.v (eh S) (Ym h.v (eh y) (Ym (iV d) (eh z) (bE c fun g0 U c=>yY (yIa SL_22 e0 e0 b (rdI (F_2 q)) U) ?_))))))
   obtain ⟨g1,b⟩:=iLs b (F_2 q) U
   refine yY (yCt O_32 e0 b F1 rfl) (Ym (iV m) (eh G) (bE c fun e3 V c=>yY (yIa SL_32 e0 e0 b (rdI F0) V) ?_))
   obtain ⟨g2,g3,b⟩:=iLd b F0 V
   obtain ⟨g4,g5,rfl,b⟩:=b.eltP
   obtain ⟨rfl,b⟩:=b.eltB
   obtain ⟨e4,rfl,b⟩:=b.eltS
   refine yY (yCtn (cs:=[.bool e3.1,e4.v]) ST_31 rfl e0 b F1) (bE c fun o e5 c=>yC (yCall FN_78 (a1 e0)) (sparseref01_Norm_ok e5 F0 b) ?_)
   rintro _ w ⟨A,rfl,b⟩
   refine ⟨_,rfl,?_⟩
   refine bE c fun p e6 c=>yC (yCall FN_84 (a1 rfl)) (sparseref01_FromInt_ok e6 b) ?_
   rintro _ w ⟨B,rfl,b⟩
   refine ⟨_,rfl,?_⟩
   refine yY (ybuild (us:=[.bool o.1,A.v,.bool p.1,B.v]) [(0,.agg #[.bool o.1,A.v]),(1,.agg #[.bool p.1,B.v])] SO_80 (bp2 e0 e0) rfl) (yH (rLt (n:=1) (l:=[(o.1,o.2,p.1,p.2)]) (((b.k17).fz).fz) SL_81 [.agg #[.bool o.1,A.v,.bool p.1,B.v]] (bp1 e0) rfl rfl (mks1 (cs:=[.bool o.1,A.v,.bool p.1,B.v]) rfl (mkP mkB (mkP (mkS F1) (mkP mkB (mkS F0)))) mks0)) fun g6 w b=>bE c fun g7 e7 c=>yH (rAp (b.k13) SL_81 e0 e0 rO1 e7) fun e8 w b=>Ya e8.v e0 (wN (e2 _ _ _ (e1 _ _ (wR (Ym (iV m) (eh G) (yY (yadd e0 rfl) (Ya (iV (wa .i64 m 1)) e0 ?_))))))))
   refine wN ?_
   cases c
   exact d4 _ _ _ rfl ⟨_,_,_,_,rfl,rfl,y,R,z,rfl,rfl,((b.k1b).facts (allT (allT (allT (allT (allT (allT (allT (allT allI)))))))))⟩
  ·refine wp_exit (d7 _ _ _ rfl ?_)
   cases c
   exact d5 _ _ _ _ rfl rfl (c6 _ _ _ _ y R z S (b.facts (allT (allT allI))) (d3 _ rfl))
 ·refine wp_exit (b4 _ _ _ rfl ?_)
  cases g
  exact b2 _ _ _ _ rfl rfl (a7 _ _ _ _ _ L b (b0 _ rfl))
theorem sparseref01_Sign_ok {d:Bool} {j:LI} {f:Hdr} {out:Int} (b:sparseref01_Sign d j=some out) (l:imm (rI .u32) f.v j∈ros) (a:St w0 ros rs w):
  Calls Tryz.prog 34 #[.agg #[.bool d,f.v]] w (fun e w=>e=.returned (iV out)∧St w0 ros rs w):=by
 refine enterQ Tryz.func34 rfl Tryz.ntmps34 rfl fun Q g=>sR fun _ m=>yBb (r_box (vals:=[.bool d,f.v]) a e0 rfl) fun z w a=>Ya (iV 0) rfl (wK m (sR fun _ n=>yY (lbs_ [.bool d,f.v] ST_31 e0 a R0) (bE b fun c o b=>yC (yCall FN_78 (a1 e0)) (sparseref01_Norm_ok o l a) ?_)))
 rintro _ w ⟨h,rfl,a⟩
 refine ⟨_,rfl,?_⟩
 refine yT (r_stbn (vals':=[.bool c.1,h.v]) (us:=[.bool c.1,h.v]) (a.k17) ST_31 e0 e0 rfl rfl (one_of rfl) rfl) fun w a=>wK n (seqQ fun A p k=>blockQ fun _ i=>sR fun _ q=>yY (yFb FL_31_1 e0) (yY (lb_ h.v O_29 e0 a R0) (yY (yLen SL_29 e0 a rO1) (yY (yeql e0 rfl) (Ya (.bool (decide ((c.2.length:Int)=0))) e0 (wN ?_))))))
 refine q _ _ ?_
 refine cIf e0 b (fun r b=>?_) fun r b=>?_
 ·refine sR fun _ s=>Ya (iV 0) rfl (wK s (wp_ret (i _ _ _ (k _ _ _ rfl ?_))))
  cases b
  exact g _ _ _ (fin1r Tryz.results34 ⟨rfl,rfl⟩ ⟨rfl,(a.k19)⟩)
 ·refine sR fun _ t=>yY (yFb FL_31_0 e0) (yY (lb_ (.bool c.1) O_4 e0 a R0) (Ya (.bool c.1) e0 (wK t (cB e0 b (fun u b=>?_) fun u b=>?_))))
  ·refine sR fun _ x=>Ya (iV (-1)) rfl (wK x (wp_ret (i _ _ _ (k _ _ _ rfl ?_))))
   cases b
   exact g _ _ _ (fin1r Tryz.results34 ⟨rfl,rfl⟩ ⟨rfl,(a.k19)⟩)
  ·refine wp_skip (i _ _ _ (p _ _ (sR fun _ y=>Ya (iV 1) rfl (wK y (wp_ret ?_)))))
   cases b
   exact g _ _ _ (fin1r Tryz.results34 ⟨rfl,rfl⟩ ⟨rfl,(a.k19)⟩)
theorem sparseref08_zero_ok {b:Bool} {h:LI} {d:Bool} {i:LI} {c f:Hdr} {out:Bool} (g:sparseref08_zero b h d i=some out) (j:imm (rI .u32) c.v h∈ros) (p:imm (rI .u32) f.v i∈ros) (a:St w0 ros rs w):
  Calls Tryz.prog 106 #[.agg #[.bool b,c.v,.bool d,f.v]] w (fun e w=>e=.returned (.bool out)∧St w0 ros rs w):=by
 refine enterQ Tryz.func106 rfl Tryz.ntmps106 rfl fun Q k=>sR fun _ l=>yBb (r_box (vals:=[.bool b,c.v,.bool d,f.v]) a e0 rfl) fun q w a=>Ya (.bool false) rfl (wK l (sR fun _ m=>yY (yFb FL_80_0 e0) (yY (lbs_ [.bool b,c.v] ST_31 e0 a R0) (bE g fun n o g=>yC (yCall FN_34 (a1 e0)) (sparseref01_Sign_ok o j a) ?_))))
 rintro _ w ⟨rfl,a⟩
 refine ⟨_,rfl,?_⟩
 refine yY (yeql e0 rfl) (Ya (.bool (decide (n=0))) e0 (wK m (wp_ret ?_)))
 cases g
 exact k _ _ _ (fin1r Tryz.results106 ⟨rfl,rfl⟩ ⟨rfl,(a.k10)⟩)
theorem sparseref01_Neg_ok {b:Bool} {f:LI} {c:Hdr} {out:Bool×LI} (d:sparseref01_Neg b f=some out) (j:imm (rI .u32) c.v f∈ros) (a:St w0 ros rs w):
  Calls Tryz.prog 71 #[.agg #[.bool b,c.v]] w (fun e w=>∃ (g:Hdr),e=.returned (.agg #[.bool out.1,g.v])∧St w0 ros (row 103 (rI .u32) g.v out.2::rs) w):=by
 refine enterQ Tryz.func71 rfl Tryz.ntmps71 rfl fun Q k=>sR fun _ l=>yBb (r_box (vals:=[.bool b,c.v]) a e0 rfl) fun o w a=>yBb (rAl a ZT_31) fun p w a=>wK l (sR fun _ m=>yY (yFb FL_31_0 e0) (yY (lb_ (.bool b) O_4 e0 a R1) (yY (ynot e0) ?_)))
 refine yY (yFb FL_31_1 e0) (yY (lb_ c.v O_29 e0 a R1) (bE d fun h n d=>yC (yCall FN_110 (a2 e0 e0)) (sparseref01_make1_ok n j a) ?_))
 rintro _ w ⟨i,rfl,a⟩
 refine ⟨_,rfl,?_⟩
 refine yT (r_stbn (vals':=[.bool h.1,i.v]) (us:=[.bool h.1,i.v]) (a.k17) ST_31 e0 e0 rfl rfl (one_of rfl) rfl) fun w a=>wK m (wp_ret ?_)
 cases d
 exact k _ _ _ (fin1r Tryz.results71 (rcs2 rfl rfl a R0 ST_31 rfl) ⟨_,rfl,(a.k11)⟩)
theorem sparseref01_mulMag_ok {F G:LI} {l h:Hdr} {out:LI} (m:sparseref01_mulMag F G=some out) (x:imm (rI .u32) l.v F∈ros) (n:imm (rI .u32) h.v G∈ros) (b:St w0 ros rs w):
  Calls Tryz.prog 115 #[l.v,h.v] w (fun e w=>∃ (H:Hdr),e=.returned (H.v)∧St w0 ros (row 103 (rI .u32) H.v out::rs) w):=by
 refine enterQ Tryz.func115 rfl Tryz.ntmps115 rfl fun Q X=>sR fun _ Z=>Ya hnil.v rfl (wK Z (sR fun _ a0=>Ym l.v e0 (yY (yLen SL_29 e0 b (rdI x)) (Ym h.v e0 (yY (yLen SL_29 e0 b (rdI n)) (yY (yadd e0 e0) (bE m fun e3 a1 m=>?_)))))))
 refine yH (rMk b SL_29 e0 a1) fun c w b=>Ya c.v e0 (wK a0 (sQ fun _ a2=>sR fun _ a3=>Ya (iV 0) rfl (wK a3 (blockQ fun a4 a5=>bE m fun a6 a7 m=>?_))))
 have a8:∀ (A:LI) (f:FV) w,f 5=c.v→St w0 ros (row 103 (rI .u32) c.v A::rs) w→A=a6→a4 (.exit 0) (fr 66 f) w:=by
  intro A f w a9 b ho
  subst ho
  refine a5 _ _ _ (a2 _ _ (sR fun _ b0=>Ym c.v (eh a9) (Ya c.v e0 (wK b0 (wp_ret ?_)))))
  cases m
  exact X _ _ _ (fin1r Tryz.results115 ⟨rfl,rfl⟩ ⟨_,rfl,b⟩)
 refine loopQ (fun s a w=>∃ (B:LI) (g:Int) (f:FV),(B,g)=s∧a=fr 66 f∧f 0=l.v∧f 1=h.v∧f 5=c.v∧f 6=iV g∧St w0 ros (row 103 (rI .u32) c.v B::rs) w) a7 ⟨_,_,_,rfl,rfl,rfl,rfl,rfl,rfl,b⟩ ?_
 rintro _ _ w e4 ⟨B,g,f,rfl,rfl,I,b1,J,K,b⟩ i b2 e5 b3 b4
 refine seqQ fun e6 b5 b6=>sR fun _ b7=>Ym (iV g) (eh K) (Ym l.v (eh I) (yY (yLen SL_29 e0 b (rdI x)) (yY (ylss e0 e0) (wK b7 ?_))))
 refine cIf e0 i (fun b8 i=>?_) fun b8 i=>?_
 ·refine wp_skip (b5 _ _ (sQ fun _ b9=>blockQ fun _ c0=>sR fun _ c1=>Ya (.int .u64 0) rfl (wK c1 (sQ fun _ c2=>sR fun _ c3=>Ya (iV 0) rfl (wN ?_)))))
  refine c3 _ _ (blockQ fun c4 c5=>bE i fun c6 c7 i=>?_)
  have c8:∀ (C:LI) (o:Int) (f:FV) w,f 0=l.v→f 1=h.v→f 5=c.v→f 6=iV g→f 7=.int .u64 o→St w0 ros (row 103 (rI .u32) c.v C::rs) w→(C,o)=c6→c4 (.exit 2) (fr 66 f) w:=by
   intro C o f w c9 L N O d0 b ho
   subst ho
   refine c5 _ _ _ (c2 _ _ (wR (Ym c.v (eh N) (Ym (iV g) (eh O) (Ym h.v (eh L) (yY (yLen SL_29 e0 b (rdI n)) (yY (yadd e0 e0) (Ym (.int .u64 o) (eh d0) (yY (ycv (k':=.u32) (by kernel_rfl) (by kernel_rfl) e0) (bE i fun e7 R i=>yY (yIs SL_29 e0 e0 b rO0 R) (yT (r_sti (cs:=[.int .u32 (wc .u32 o)]) b O_103 rfl e0 e0 rfl mkI R) fun w b=>?_)))))))))))
   refine wN (c0 _ _ _ (b9 _ _ (wR (Ym (iV g) (eh O) (yY (yadd e0 rfl) (Ya (iV (wa .i64 g 1)) e0 (wN ?_)))))))
   cases i
   exact b3 _ _ _ rfl ⟨_,_,_,rfl,rfl,c9,L,N,rfl,b⟩
  refine loopQ (fun s a w=>∃ (D:LI) (j k:Int) (f:FV),(D,j,k)=s∧a=fr 66 f∧f 0=l.v∧f 1=h.v∧f 5=c.v∧f 6=iV g∧f 7=.int .u64 j∧f 8=iV k∧St w0 ros (row 103 (rI .u32) c.v D::rs) w) c7 ⟨_,_,_,_,rfl,rfl,I,b1,J,K,rfl,rfl,b⟩ ?_
  rintro _ _ w e8 ⟨D,j,k,f,rfl,rfl,E,y,z,p,S,q,b⟩ d d1 e9 d2 d3
  refine seqQ fun f0 d4 d5=>sR fun _ d6=>Ym (iV k) (eh q) (Ym h.v (eh y) (yY (yLen SL_29 e0 b (rdI n)) (yY (ylss e0 e0) (wK d6 ?_))))
  refine cIf e0 d (fun d7 d=>?_) fun d7 d=>?_
  ·refine wp_skip (d4 _ _ (sQ fun _ d8=>blockQ fun _ d9=>sQ fun _ e1=>bE d fun r T d=>bE d fun t U d=>bE d fun u V d=>dR [0,0,0,6,14,30,0,0,192,448,960,2046,4095,0,0,0,49152,122880,253952,516096,1048575,2097151] [21] 1 folM ?_))
   replace b:=b.drew
   refine Dn [0,1,2,3,4,5,6,7,8,9,10,11,12,13,14,15,16,17,18,19,20] [] [21] (yR rfl (m_ (.int .u64 j) (eh S)) (yR rfl (m_ l.v (eh E)) (yR rfl (m_ (iV g) (eh p)) (yR rfl (yIa SL_29 e0 e0 b (rdI x) T) (yR rfl (yI O_103 e0 b (rdI x) T) (yR rfl (ycv (k':=.u64) (by kernel_rfl) (by kernel_rfl) e0) (yR rfl (m_ h.v (eh y)) (yR rfl (m_ (iV k) (eh q)) (yR rfl (yIa SL_29 e0 e0 b (rdI n) U) (yR rfl (yI O_103 e0 b (rdI n) U) (yR rfl (ycv (k':=.u64) (by kernel_rfl) (by kernel_rfl) e0) (yR rfl (ymul e0 e0) (yR rfl (yadd e0 e0) ?_)))))))))))))
   refine yR rfl (m_ c.v (eh z)) (yR rfl (m_ (iV g) (eh p)) (yR rfl (m_ (iV k) (eh q)) (yR rfl (yadd e0 e0) (yR rfl (yIa SL_29 e0 e0 b rO0 V) (yR rfl (yI O_103 e0 b rO0 V) (yR rfl (ycv (k':=.u64) (by kernel_rfl) (by kernel_rfl) e0) (yR rfl (yadd e0 e0) (Rn QSn ?_))))))))
   refine Lc1 rfl ?_
   refine Ly wn (a_ (.int .u64 (wa .u64 (wa .u64 j (wm .u64 (wc .u64 r) (wc .u64 t))) (wc .u64 u))) e0) (Dz [] [] (Rn QSn (e1 _ _ (sR fun _ e2=>Ym c.v (eh z) (Ym (iV g) (eh p) (Ym (iV k) (eh q) (yY (yadd e0 e0) (Ym (.int .u64 (wa .u64 (wa .u64 j (wm .u64 (wc .u64 r) (wc .u64 t))) (wc .u64 u))) e0 (yY (ycv (k':=.u32) (by kernel_rfl) (by kernel_rfl) e0) (bE d fun f1 W d=>yY (yIs SL_29 e0 e0 b rO0 W) ?_))))))))))
   refine yT (r_sti (cs:=[.int .u32 (wc .u32 (wa .u64 (wa .u64 j (wm .u64 (wc .u64 r) (wc .u64 t))) (wc .u64 u)))]) b O_103 rfl e0 e0 rfl mkI W) fun w b=>wK e2 (wR (Ym (.int .u64 (wa .u64 (wa .u64 j (wm .u64 (wc .u64 r) (wc .u64 t))) (wc .u64 u))) e0 (yY (yshrc e0 rfl) (Ya (.int .u64 (wsrc .u64 (wa .u64 (wa .u64 j (wm .u64 (wc .u64 r) (wc .u64 t))) (wc .u64 u)) 32)) e0 (wN (d9 _ _ _ (d8 _ _ (wR (Ym (iV k) (eh q) (yY (yadd e0 rfl) ?_))))))))))
   refine Ya (iV (wa .i64 k 1)) e0 (wN ?_)
   cases d
   exact d2 _ _ _ rfl ⟨_,_,_,_,rfl,rfl,E,y,z,p,rfl,rfl,b⟩
  ·refine wp_exit (d5 _ _ _ rfl ?_)
   cases d
   exact d3 _ _ _ _ rfl rfl (c8 _ _ _ _ E y z p S b (d1 _ rfl))
 ·refine wp_exit (b6 _ _ _ rfl ?_)
  cases i
  exact b4 _ _ _ _ rfl rfl (a8 _ _ _ J b (b2 _ rfl))
end Go.Proofs.YtpfmbaidflhamaaGreatDoor
