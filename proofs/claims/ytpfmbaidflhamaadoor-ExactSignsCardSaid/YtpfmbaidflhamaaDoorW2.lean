/- Walks: each function computes its model, printed. -/
import Derived.Test.YtpfmbaidflhamaaDoorW1
namespace Go.Proofs.YtpfmbaidflhamaaDoor
open Go Sx M
set_option maxRecDepth 100000
set_option maxHeartbeats 40000000
set_option linter.unusedVariables false
attribute [local irreducible] wpList Code.wp Calls DR QR QS LA LS St
variable {w0:World} {ros:List Fact} {rs:List Res} {w:World}
theorem integer_short_ok {o:LI} {k:Int} {j:Hdr} {out:LI×Int} (g:integer_short o k=some out) (m:imm (rI .u32) j.v o∈ros) (b:St w0 ros rs w):
  Calls Tryd.prog 43 #[j.v,.int .u32 k] w (fun e w=>∃ (x:Hdr),e=.returned (.tuple #[x.v,.int .u32 out.2])∧St w0 (imm (rI .u32) x.v out.1::ros) rs w):=by
 refine enterQ Tryd.func43 rfl Tryd.ntmps43 rfl fun Q C=>sR fun _ D=>Ya hnil.v rfl (Ya (.int .u32 0) rfl (wK D (sR fun _ E=>Ym j.v e0 (yY (yLen SL_32 e0 b (rdI m)) (bE g fun b3 F g=>yH (rMk b SL_32 e0 F) fun h w b=>?_)))))
 refine Ya h.v e0 (wK E (sR fun _ G=>Ya (.int .u64 0) rfl (wK G (sQ fun _ H=>sR fun _ I=>Ym j.v e0 (yY (yLen SL_32 e0 b (rdI m)) (yY (ysub e0 rfl) ?_))))))
 refine Ya (iV (ws .i64 (o.length:Int) 1)) e0 (wK I (blockQ fun J K=>bE g fun L N g=>?_))
 have O:∀ (p:LI) (l:Int) (f:FV) w,f 6=h.v→f 7=.int .u64 l→St w0 ros (row 58 (rI .u32) h.v p::rs) w→(p,l)=L→J (.exit 0) (fr 44 f) w:=by
  intro p l f w R S b ho
  subst ho
  refine K _ _ _ (H _ _ (sR fun _ T=>Ym h.v (eh R) (bE g fun b4 U g=>?_)))
  replace b:=b.fz
  refine yC (yCall FN_30 (a1 e0)) (integer_trim_ok U F0 b) ?_
  rintro _ w ⟨V,rfl,b⟩
  refine ⟨_,rfl,?_⟩
  refine Ym (.int .u64 l) (eh S) (yY (ycv (k':=.u32) (by kernel_rfl) (by kernel_rfl) e0) (Ya V.v e0 (Ya (.int .u32 (wc .u32 l)) e0 (wK T (wp_ret ?_)))))
  cases g
  exact C _ _ _ (fin2r Tryd.results43 ⟨rfl,rfl⟩ ⟨rfl,rfl⟩ ⟨_,rfl,(b.facts (allC F0 (allT (allT allI))))⟩)
 refine loopQ (fun s a w=>∃ (q:LI) (i d:Int) (f:FV),(q,i,d)=s∧a=fr 44 f∧f 0=j.v∧f 1=.int .u32 k∧f 6=h.v∧f 7=.int .u64 i∧f 8=iV d∧St w0 ros (row 58 (rI .u32) h.v q::rs) w) N ⟨_,_,_,_,rfl,rfl,rfl,rfl,rfl,rfl,rfl,b⟩ ?_
 rintro _ _ w b5 ⟨q,i,d,f,rfl,rfl,y,r,t,z,n,b⟩ c W b6 X Z
 refine seqQ fun b7 a0 a2=>sR fun _ a3=>Ym (iV d) (eh n) (yY (ygeq e0 rfl) (wK a3 ?_))
 refine cIf e0 c (fun a4 c=>?_) fun a4 c=>?_
 ·refine wp_skip (a0 _ _ (sQ fun _ a5=>blockQ fun _ a6=>sR fun _ a7=>Ym (.int .u64 i) (eh z) (yY (yshlc e0 rfl) (Ym j.v (eh y) (Ym (iV d) (eh n) (bE c fun u A c=>yY (yIa SL_32 e0 e0 b (rdI m) A) (yY (yI O_58 e0 b (rdI m) A) (yY (ycv (k':=.u64) (by kernel_rfl) (by kernel_rfl) e0) ?_))))))))
  refine yY (yor e0 e0) (Ya (.int .u64 (wor .u64 (wslc .u64 i 32) (wc .u64 u))) e0 (wK a7 (sR fun _ a8=>Ym h.v (eh t) (Ym (iV d) (eh n) (Ym (.int .u64 (wor .u64 (wslc .u64 i 32) (wc .u64 u))) e0 (Ym (.int .u32 k) (eh r) (yY (ycv (k':=.u64) (by kernel_rfl) (by kernel_rfl) e0) (bE c fun a9 b0 c=>yY (yquo e0 e0 b0) (yY (ycv (k':=.u32) (by kernel_rfl) (by kernel_rfl) e0) ?_)))))))))
  refine bE c fun b8 B c=>yY (yIs SL_32 e0 e0 b rO0 B) (yT (r_sti (cs:=[.int .u32 (wc .u32 a9)]) b O_58 rfl e0 e0 rfl mkI B) fun w b=>wK a8 (wR (Ym (.int .u64 (wor .u64 (wslc .u64 i 32) (wc .u64 u))) e0 (Ym (.int .u32 k) (eh r) (yY (ycv (k':=.u64) (by kernel_rfl) (by kernel_rfl) e0) (bE c fun b1 b2 c=>yY (yrem e0 e0 b2) (Ya (.int .u64 b1) e0 (wN ?_))))))))
  refine a6 _ _ _ (a5 _ _ (wR (Ym (iV d) (eh n) (yY (ysub e0 rfl) (Ya (iV (ws .i64 d 1)) e0 (wN ?_))))))
  cases c
  exact X _ _ _ rfl ⟨_,_,_,_,rfl,rfl,y,r,t,rfl,rfl,b⟩
 ·refine wp_exit (a2 _ _ _ rfl ?_)
  cases c
  exact Z _ _ _ _ rfl rfl (O _ _ _ _ t z b (W _ rfl))
theorem math_bits_Len32_ok {d out:Int} (a:math_bits_Len32 d=some out) (b:St w0 ros rs w):
  Calls Tryd.prog 100 #[.int .u32 d] w (fun e w=>e=.returned (iV out)∧St w0 ros rs w):=by
 refine enterQ Tryd.func100 rfl Tryd.ntmps100 rfl fun Q n=>sR fun _ o=>Ya (iV 0) rfl (wK o (sQ fun p q=>sR fun _ r=>Ym (.int .u32 d) e0 (yY (ygeq e0 rfl) (wK r ?_))))
 have k:∀ (c g:Int) (f:FV) w,f 0=.int .u32 c→f 2=iV g→St w0 ros rs w→math_bits_Len32_j1 c g=some out→p .normal (fr 19 f) w:=by
  intro c g f w j l b a
  refine q _ _ (sQ fun s t=>sR fun _ u=>Ym (.int .u32 c) (eh j) (yY (ygeq e0 rfl) (wK u ?_)))
  have m:∀ (i h:Int) (f:FV) w,f 0=.int .u32 i→f 2=iV h→St w0 ros rs w→math_bits_Len32_j2 i h=some out→s .normal (fr 19 f) w:=by
   intro i h f w v x b a
   refine t _ _ (sR fun _ y=>Ym (iV h) (eh x) (Ym (.int .u32 i) (eh v) (yY (ycv (k':=.u8) (by kernel_rfl) (by kernel_rfl) e0) (bE a fun z A a=>yY (yixs (by kernel_rfl) rfl e0 (by kernel_rfl) A) (yY (ycv (k':=.i64) (by kernel_rfl) (by kernel_rfl) e0) (yY (yadd e0 e0) (Ya (iV (wa .i64 h (wc .i64 z))) e0 (wK y (wp_ret ?_)))))))))
   cases a
   exact n _ _ _ (fin1r Tryd.results100 ⟨rfl,rfl⟩ ⟨rfl,b⟩)
  refine cIf e0 a (fun B a=>?_) fun B a=>?_
  ·exact sR fun _ C=>Ym (.int .u32 c) (eh j) (yY (yshrc e0 rfl) (Ya (.int .u32 (wsrc .u32 c 8)) e0 (wK C (wR (Ym (iV g) (eh l) (yY (yadd e0 rfl) (Ya (iV (wa .i64 g 8)) e0 (wN (m _ _ _ _ rfl rfl b a)))))))))
  ·exact wp_skip (m _ _ _ _ j l b a)
 refine cIf e0 a (fun D a=>?_) fun D a=>?_
 ·exact sR fun _ E=>Ym (.int .u32 d) e0 (yY (yshrc e0 rfl) (Ya (.int .u32 (wsrc .u32 d 16)) e0 (wK E (wR (Ya (iV 16) rfl (wN (k _ _ _ _ rfl rfl b a)))))))
 ·exact wp_skip (k _ _ _ _ rfl rfl b a)
theorem math_bits_LeadingZeros32_ok {a out:Int} (b:math_bits_LeadingZeros32 a=some out) (c:St w0 ros rs w):
  Calls Tryd.prog 91 #[.int .u32 a] w (fun e w=>e=.returned (iV out)∧St w0 ros rs w):=by
 refine enterQ Tryd.func91 rfl Tryd.ntmps91 rfl fun Q d=>sR fun _ f=>Ya (iV 0) rfl (wK f (sR fun _ g=>Ym (.int .u32 a) e0 (bE b fun h i b=>yC (yCall FN_100 (a1 e0)) (math_bits_Len32_ok i c) ?_)))
 rintro _ w ⟨rfl,c⟩
 refine ⟨_,rfl,?_⟩
 refine yY (ysub rfl e0) (Ya (iV (ws .i64 32 h)) e0 (wK g (wp_ret ?_)))
 cases b
 exact d _ _ _ (fin1r Tryd.results91 ⟨rfl,rfl⟩ ⟨rfl,c⟩)
theorem integer_up_ok {o:LI} {d:Int} {j:Hdr} {out:LI} (g:integer_up o d=some out) (k:imm (rI .u32) j.v o∈ros) (b:St w0 ros rs w):
  Calls Tryd.prog 92 #[j.v,iV d] w (fun e w=>∃ (t:Hdr),e=.returned (t.v)∧St w0 (imm (rI .u32) t.v out::ros) rs w):=by
 refine enterQ Tryd.func92 rfl Tryd.ntmps92 rfl fun Q u=>sR fun _ F=>Ya hnil.v rfl (wK F (seqQ fun b8 G H=>sR fun _ I=>Ym j.v e0 (yY (yLen SL_32 e0 b (rdI k)) (yY (yeql e0 rfl) (wK I ?_)))))
 refine cIf e0 g (fun J g=>?_) fun J g=>?_
 ·refine sR fun _ K=>Ya hnil.v rfl (wK K (wp_ret (H _ _ _ rfl ?_)))
  cases g
  replace b:=b.immNh (rI .u32)
  exact u _ _ _ (fin1r Tryd.results92 ⟨rfl,rfl⟩ ⟨_,rfl,b⟩)
 ·refine wp_skip (G _ _ (sR fun _ L=>Ym (iV d) e0 (yY (yquoc e0 rfl (by decide)) (Ym (iV d) e0 (yY (yremc e0 rfl (by decide)) (yY (ycv (k':=.u64) (by kernel_rfl) (by kernel_rfl) e0) (Ya (iV (wqc .i64 d 32)) e0 (Ya (.int .u64 (wc .u64 (wrc d 32))) e0 (wK L (sQ fun _ N=>?_))))))))))
  refine wR (Ym (iV (wqc .i64 d 32)) e0 (Ym j.v e0 (yY (yLen SL_32 e0 b (rdI k)) (yY (yadd e0 e0) (yY (yadd e0 rfl) (bE g fun b9 O g=>yH (rMk b SL_32 e0 O) fun h w b=>Ya h.v e0 (wK N (sQ fun _ R=>sQ fun _ S=>?_))))))))
  refine wR (Ym j.v e0 (yY (yLen SL_32 e0 b (rdI k)) (Ym (iV 0) rfl (wK S (blockQ fun T U=>bE g fun V W g=>?_)))))
  have X:∀ (p:LI) (f:FV) w,f 7=h.v→St w0 ros (row 58 (rI .u32) h.v p::rs) w→p=V→T (.exit 0) (fr 59 f) w:=by
   intro p f w Z b ho
   subst ho
   refine U _ _ _ (R _ _ (sR fun _ a0=>Ym h.v (eh Z) (bE g fun c0 a2 g=>?_)))
   replace b:=b.fz
   refine yC (yCall FN_30 (a1 e0)) (integer_trim_ok a2 F0 b) ?_
   rintro _ w ⟨a3,rfl,b⟩
   refine ⟨_,rfl,?_⟩
   refine Ya a3.v e0 (wK a0 (wp_ret ?_))
   cases g
   exact u _ _ _ (fin1r Tryd.results92 ⟨rfl,rfl⟩ ⟨_,rfl,(b.facts (allC F0 (allT (allT allI))))⟩)
  refine loopQ (fun s a w=>∃ (q:LI) (i:Int) (f:FV),(q,i)=s∧a=fr 59 f∧f 5=iV (wqc .i64 d 32)∧f 6=.int .u64 (wc .u64 (wrc d 32))∧f 7=h.v∧f 25=j.v∧f 26=iV (o.length:Int)∧f 27=iV i∧St w0 ros (row 58 (rI .u32) h.v q::rs) w) W ⟨_,_,_,rfl,rfl,rfl,rfl,rfl,rfl,rfl,rfl,b⟩ ?_
  rintro _ _ w c1 ⟨q,i,f,rfl,rfl,r,x,m,y,z,n,b⟩ c a4 c2 a5 a6
  refine sR fun _ a7=>yY (ylss (eh n) (eh z)) (wK a7 (seqQ fun c3 a8 a9=>?_))
  refine cIf e0 c (fun b0 c=>?_) fun b0 c=>?_
  ·refine wp_skip (a8 _ _ (sQ fun _ b1=>blockQ fun _ b2=>sR fun _ b3=>Ym (iV i) (eh n) (bE c fun A B c=>yY (yIa SL_32 (eh y) (eh n) b (rdI k) B) (yY (yI O_58 e0 b (rdI k) B) (Ya (iV i) e0 (Ya (.int .u32 A) e0 (wK b3 ?_)))))))
   refine sR fun _ b4=>Ym (.int .u32 A) e0 (yY (ycv (k':=.u64) (by kernel_rfl) (by kernel_rfl) e0) (Ym (.int .u64 (wc .u64 (wrc d 32))) (eh x) (bE c fun l b5 c=>yY (yshl e0 e0 b5) (Ya (.int .u64 l) e0 (wK b4 (sR fun _ b6=>Ym h.v (eh m) (Ym (iV (wqc .i64 d 32)) (eh r) ?_)))))))
   refine Ym (iV i) e0 (yY (yadd e0 e0) (bE c fun b7 C c=>yY (yIa SL_32 e0 e0 b rO0 C) (yY (yI O_58 e0 b rO0 C) (Ym (.int .u64 l) e0 (yY (yand e0 rfl) (yY (ycv (k':=.u32) (by kernel_rfl) (by kernel_rfl) e0) (yY (yor e0 e0) (bE c fun c5 D c=>yY (yIs SL_32 e0 e0 b rO0 D) (yT (r_sti (cs:=[.int .u32 (wor .u32 b7 (wc .u32 (wand .u64 l 4294967295)))]) b O_58 rfl e0 e0 rfl mkI D) fun w b=>wN ?_)))))))))
   refine b6 _ _ (wR (Ym h.v (eh m) (Ym (iV (wqc .i64 d 32)) (eh r) (Ym (iV i) e0 (yY (yadd e0 e0) (yY (yadd e0 rfl) (Ym (.int .u64 l) e0 (yY (yshrc e0 rfl) (yY (ycv (k':=.u32) (by kernel_rfl) (by kernel_rfl) e0) (bE c fun c6 E c=>yY (yIs SL_32 e0 e0 b rO0 E) (yT (r_sti (cs:=[.int .u32 (wc .u32 (wsrc .u64 l 32))]) b O_58 rfl e0 e0 rfl mkI E) fun w b=>?_)))))))))))
   refine wN (b2 _ _ _ (b1 _ _ (wR (yY (yadd (eh n) rfl) (Ym (iV (wa .i64 i 1)) e0 (wN ?_))))))
   cases c
   exact a5 _ _ _ rfl ⟨_,_,_,rfl,rfl,r,x,m,y,z,rfl,b⟩
  ·refine wp_exit (a9 _ _ _ rfl ?_)
   cases c
   exact a6 _ _ _ _ rfl rfl (X _ _ _ m b (a4 _ rfl))
theorem integer_digit_ok {G:LI} {j k:Int} {h:LI} {g l:Hdr} {out:LI×Int} (d:integer_digit G j k h=some out) (m:imm (rI .u32) l.v h∈ros) (b:St w0 ros (row 58 (rI .u32) g.v G::rs) w):
  Calls Tryd.prog 93 #[(subH g 1 j k).v,l.v] w (fun e w=>e=.returned (.int .u32 out.2)∧St w0 ros (row 58 (rI .u32) g.v out.1::rs) w):=by
 refine enterQ Tryd.func93 rfl Tryd.ntmps93 rfl fun Q b2=>sR fun _ f1=>Ya (.int .u32 0) rfl (wK f1 (sR fun _ f2=>Ym l.v e0 (yY (yLen SL_32 e0 b (rdI m)) (Ya (iV (h.length:Int)) e0 (wK f2 (sQ fun _ f3=>?_))))))
 refine bE d fun L b3 d=>bE d fun N b4 d=>dR [0,0,3,7,15,31,0,0,128,448,960,1984,4095,8191] [13] 1 folM ?_
 replace b:=b.drew
 refine Dn [0,1,2,3,4,5,6,7,8,9,10,11,12] [] [13] (yR rfl (m_ ((subH g 1 j k).v) e0) (yR rfl (m_ (iV (h.length:Int)) e0) (yR rfl (yIaW SL_32 e0 e0 b rO0 b3) (yR rfl (yI O_58 e0 b rO0 (getW_g b3)) (yR rfl (ycv (k':=.u64) (by kernel_rfl) (by kernel_rfl) e0) (yR rfl (yshlc e0 rfl) (yR rfl (m_ ((subH g 1 j k).v) e0) (yR rfl (m_ (iV (h.length:Int)) e0) (yR rfl (ysub e0 rfl) (yR rfl (yIaW SL_32 e0 e0 b rO0 b4) (yR rfl (yI O_58 e0 b rO0 (getW_g b4)) (yR rfl (ycv (k':=.u64) (by kernel_rfl) (by kernel_rfl) e0) (yR rfl (yor e0 e0) ?_)))))))))))))
 refine Rn QSn ?_
 refine Lc1 rfl ?_
 refine Ly wn (a_ (.int .u64 (wor .u64 (wslc .u64 (wc .u64 L) 32) (wc .u64 N))) e0) (Dz [] [] (Rn QSn (f3 _ _ (sQ fun _ f4=>bE d fun o5 b5 d=>bE d fun f5 f6 d=>bE d fun o6 O d=>bE d fun f7 b6 d=>dR [0,0,0,4,14,30,62,127,0,0,0,1024,3584,7680,15872,32512,255,131071] [16,17] 2 folM ?_))))
 replace b:=b.drew
 refine Dn [0,1,2,3,4,5,6,7,8,9,10,11,12,13,14,15] [] [16] (yR rfl (m_ (.int .u64 (wor .u64 (wslc .u64 (wc .u64 L) 32) (wc .u64 N))) e0) (yR rfl (m_ l.v e0) (yR rfl (m_ (iV (h.length:Int)) e0) (yR rfl (ysub e0 rfl) (yR rfl (yIa SL_32 e0 e0 b (rdI m) b5) (yR rfl (yI O_58 e0 b (rdI m) b5) (yR rfl (ycv (k':=.u64) (by kernel_rfl) (by kernel_rfl) e0) (yR rfl (yquo e0 e0 f6) (yR rfl (m_ (.int .u64 (wor .u64 (wslc .u64 (wc .u64 L) 32) (wc .u64 N))) e0) (yR rfl (m_ l.v e0) (yR rfl (m_ (iV (h.length:Int)) e0) (yR rfl (ysub e0 rfl) (yR rfl (yIa SL_32 e0 e0 b (rdI m) O) ?_)))))))))))))
 refine yR rfl (yI O_58 e0 b (rdI m) O) (yR rfl (ycv (k':=.u64) (by kernel_rfl) (by kernel_rfl) e0) (yR rfl (yrem e0 e0 b6) (Rn QSn ?_)))
 refine Lc1 rfl ?_
 refine Ly wn (a_ (.int .u64 f5) e0) (Dn [] [8,9,10,11,12,13,14,15] [17] (Rn (yS rfl (m_ (.int .u64 (wor .u64 (wslc .u64 (wc .u64 L) 32) (wc .u64 N))) e0) (yS rfl (m_ l.v e0) (yS rfl (m_ (iV (h.length:Int)) e0) (yS rfl (ysub e0 rfl) (yS rfl (yIa SL_32 e0 e0 b (rdI m) O) (yS rfl (yI O_58 e0 b (rdI m) O) (yS rfl (ycv (k':=.u64) (by kernel_rfl) (by kernel_rfl) e0) (yS rfl (yrem e0 e0 b6) QSn)))))))) ?_))
 refine Lc1 rfl ?_
 refine Ly wn (a_ (.int .u64 f7) e0) (Dz [] [] (Rn QSn (f4 _ _ (sQ fun _ f8=>blockQ fun f9 g0=>bE d fun g1 g2 d=>?_))))
 have b7:∀ (i:Int) (f:FV) w,f 0=(subH g 1 j k).v→f 1=l.v→f 5=iV (h.length:Int)→f 7=.int .u64 i→St w0 ros (row 58 (rI .u32) g.v G::rs) w→i=g1→f9 (.exit 0) (fr 177 f) w:=by
  intro i f w g3 b8 g4 g5 b ho
  subst ho
  refine g0 _ _ _ (f8 _ _ (sR fun _ g6=>Ya (.int .u64 0) rfl (Ya (.int .u64 0) rfl (wK g6 (sQ fun _ g7=>sR fun _ g8=>Ym l.v (eh b8) (yY (yLen SL_32 e0 b (rdI m)) (Ym (iV 0) rfl ?_)))))))
  refine wK g8 (blockQ fun g9 h0=>bE d fun h1 h2 d=>?_)
  have h3:∀ (a0:LI) (A B:Int) (f:FV) w,f 0=(subH g 1 j k).v→f 1=l.v→f 5=iV (h.length:Int)→f 7=.int .u64 i→f 9=.int .u64 A→f 10=.int .u64 B→St w0 ros (row 58 (rI .u32) g.v a0::rs) w→(a0,A,B)=h1→g9 (.exit 2) (fr 177 f) w:=by
   intro a0 A B f w a1 h5 a2 b9 h7 h8 b ho
   subst ho
   refine h0 _ _ _ (g7 _ _ (sR fun _ h9=>Ym ((subH g 1 j k).v) (eh a1) (Ym (iV (h.length:Int)) (eh a2) (bE d fun R c0 d=>yY (yIaW SL_32 e0 e0 b rO0 c0) (yY (yI O_58 e0 b rO0 (getW_g c0)) (yY (ycv (k':=.u64) (by kernel_rfl) (by kernel_rfl) e0) (Ym (.int .u64 A) (eh h7) (yY (ysub e0 e0) (Ym (.int .u64 B) (eh h8) (yY (ysub e0 e0) ?_))))))))))
   refine Ya (.int .u64 (ws .u64 (ws .u64 (wc .u64 R) A) B)) e0 (wK h9 (sR fun _ i0=>Ym ((subH g 1 j k).v) (eh a1) (Ym (iV (h.length:Int)) (eh a2) (Ym (.int .u64 (ws .u64 (ws .u64 (wc .u64 R) A) B)) e0 (yY (yand e0 rfl) (yY (ycv (k':=.u32) (by kernel_rfl) (by kernel_rfl) e0) (bE d fun o7 c1 d=>yY (yIsW SL_32 e0 e0 b rO0 c1) (yT (r_sti (cs:=[.int .u32 (wc .u32 (wand .u64 (ws .u64 (ws .u64 (wc .u64 R) A) B) 4294967295))]) b O_58 rfl e0 e0 rfl mkI (setW_g c1)) fun w b=>?_))))))))
   refine wK i0 (seqQ fun o8 i1 i2=>sR fun _ i3=>Ym (.int .u64 (ws .u64 (ws .u64 (wc .u64 R) A) B)) e0 (yY (yshrc e0 rfl) (yY (yand e0 rfl) (yY (yeql e0 rfl) (wK i3 ?_)))))
   refine cIf e0 d (fun i4 d=>?_) fun i4 d=>?_
   ·refine sR fun _ i5=>Ym (.int .u64 i) (eh b9) (yY (ycv (k':=.u32) (by kernel_rfl) (by kernel_rfl) e0) (Ya (.int .u32 (wc .u32 i)) e0 (wK i5 (wp_ret (i2 _ _ _ rfl ?_)))))
    cases d
    exact b2 _ _ _ (fin1r Tryd.results93 ⟨rfl,rfl⟩ ⟨rfl,b⟩)
   ·refine wp_skip (i1 _ _ (sR fun _ i6=>Ya (.int .u64 0) rfl (wK i6 (sQ fun _ i7=>sR fun _ i8=>Ym l.v (eh h5) (yY (yLen SL_32 e0 b (rdI m)) (Ym (iV 0) rfl (wN ?_)))))))
    refine i8 _ _ (blockQ fun i9 j0=>bE d fun j1 j2 d=>?_)
    have j3:∀ (a3:LI) (H:Int) (f:FV) w,f 0=(subH g 1 j k).v→f 5=iV (h.length:Int)→f 7=.int .u64 i→f 9=.int .u64 H→St w0 ros (row 58 (rI .u32) g.v a3::rs) w→(a3,H)=j1→i9 (.exit 4) (fr 177 f) w:=by
     intro a3 H f w j4 j5 j6 j7 b ho
     subst ho
     refine j0 _ _ _ (i7 _ _ (sR fun _ j8=>Ym ((subH g 1 j k).v) (eh j4) (Ym (iV (h.length:Int)) (eh j5) (bE d fun j9 c2 d=>yY (yIaW SL_32 e0 e0 b rO0 c2) (yY (yI O_58 e0 b rO0 (getW_g c2)) (Ym (.int .u64 H) (eh j7) (yY (ycv (k':=.u32) (by kernel_rfl) (by kernel_rfl) e0) (yY (yadd e0 e0) (bE d fun o9 c3 d=>yY (yIsW SL_32 e0 e0 b rO0 c3) ?_)))))))))
     refine yT (r_sti (cs:=[.int .u32 (wa .u32 j9 (wc .u32 H))]) b O_58 rfl e0 e0 rfl mkI (setW_g c3)) fun w b=>wK j8 (sR fun _ k0=>Ym (.int .u64 i) (eh j6) (yY (ysub e0 rfl) (yY (ycv (k':=.u32) (by kernel_rfl) (by kernel_rfl) e0) (Ya (.int .u32 (wc .u32 (ws .u64 i 1))) e0 (wK k0 (wp_ret ?_))))))
     cases d
     exact b2 _ _ _ (fin1r Tryd.results93 ⟨rfl,rfl⟩ ⟨rfl,b⟩)
    refine loopQ (fun s a w=>∃ (a4:LI) (x C:Int) (f:FV),(a4,x,C)=s∧a=fr 177 f∧f 0=(subH g 1 j k).v∧f 5=iV (h.length:Int)∧f 7=.int .u64 i∧f 9=.int .u64 x∧f 140=l.v∧f 141=iV (h.length:Int)∧f 142=iV C∧St w0 ros (row 58 (rI .u32) g.v a4::rs) w) j2 ⟨_,_,_,_,rfl,rfl,a1,a2,b9,rfl,rfl,rfl,rfl,b⟩ ?_
    rintro _ _ w p0 ⟨a4,x,C,f,rfl,rfl,S,c4,c5,c6,c7,c8,T,b⟩ q k6 p1 k7 k8
    refine sR fun _ k9=>yY (ylss (eh T) (eh c8)) (wK k9 (seqQ fun p2 l0 l1=>?_))
    refine cIf e0 q (fun l2 q=>?_) fun l2 q=>?_
    ·refine wp_skip (l0 _ _ (sQ fun _ l3=>blockQ fun _ l4=>sR fun _ l5=>Ym (iV C) (eh T) (bE q fun F c9 q=>yY (yIa SL_32 (eh c7) (eh T) b (rdI m) c9) (yY (yI O_58 e0 b (rdI m) c9) (Ya (iV C) e0 (Ya (.int .u32 F) e0 (wK l5 ?_)))))))
     refine sR fun _ l6=>Ym ((subH g 1 j k).v) (eh S) (Ym (iV C) e0 (bE q fun I d0 q=>yY (yIaW SL_32 e0 e0 b rO0 d0) (yY (yI O_58 e0 b rO0 (getW_g d0)) (yY (ycv (k':=.u64) (by kernel_rfl) (by kernel_rfl) e0) (Ym (.int .u32 F) e0 (yY (ycv (k':=.u64) (by kernel_rfl) (by kernel_rfl) e0) (yY (yadd e0 e0) (Ym (.int .u64 x) (eh c6) (yY (yadd e0 e0) (Ya (.int .u64 (wa .u64 (wa .u64 (wc .u64 I) (wc .u64 F)) x)) e0 ?_))))))))))
     refine wK l6 (sR fun _ l7=>Ym ((subH g 1 j k).v) (eh S) (Ym (iV C) e0 (Ym (.int .u64 (wa .u64 (wa .u64 (wc .u64 I) (wc .u64 F)) x)) e0 (yY (yand e0 rfl) (yY (ycv (k':=.u32) (by kernel_rfl) (by kernel_rfl) e0) (bE q fun p3 d1 q=>yY (yIsW SL_32 e0 e0 b rO0 d1) (yT (r_sti (cs:=[.int .u32 (wc .u32 (wand .u64 (wa .u64 (wa .u64 (wc .u64 I) (wc .u64 F)) x) 4294967295))]) b O_58 rfl e0 e0 rfl mkI (setW_g d1)) fun w b=>wN ?_)))))))
     refine l7 _ _ (wR (Ym (.int .u64 (wa .u64 (wa .u64 (wc .u64 I) (wc .u64 F)) x)) e0 (yY (yshrc e0 rfl) (Ya (.int .u64 (wsrc .u64 (wa .u64 (wa .u64 (wc .u64 I) (wc .u64 F)) x) 32)) e0 (wN (l4 _ _ _ (l3 _ _ (wR (yY (yadd (eh T) rfl) (Ym (iV (wa .i64 C 1)) e0 (wN ?_)))))))))))
     cases q
     exact k7 _ _ _ rfl ⟨_,_,_,_,rfl,rfl,S,c4,c5,rfl,c7,c8,rfl,b⟩
    ·refine wp_exit (l1 _ _ _ rfl ?_)
     cases q
     exact k8 _ _ _ _ rfl rfl (j3 _ _ _ _ S c4 c5 c6 b (k6 _ rfl))
  refine loopQ (fun s a w=>∃ (a5:LI) (o y D:Int) (f:FV),(a5,o,y,D)=s∧a=fr 177 f∧f 0=(subH g 1 j k).v∧f 1=l.v∧f 5=iV (h.length:Int)∧f 7=.int .u64 i∧f 9=.int .u64 o∧f 10=.int .u64 y∧f 84=l.v∧f 85=iV (h.length:Int)∧f 86=iV D∧St w0 ros (row 58 (rI .u32) g.v a5::rs) w) h2 ⟨_,_,_,_,_,rfl,rfl,g3,b8,g4,g5,rfl,rfl,rfl,rfl,rfl,b⟩ ?_
  rintro _ _ w p4 ⟨a5,o,y,D,f,rfl,rfl,U,d2,d3,a6,d4,d5,d6,d7,V,b⟩ r l8 p5 l9 m0
  refine sR fun _ m1=>yY (ylss (eh V) (eh d7)) (wK m1 (seqQ fun p6 m2 m3=>?_))
  refine cIf e0 r (fun m4 r=>?_) fun m4 r=>?_
  ·refine wp_skip (m2 _ _ (sQ fun _ m5=>blockQ fun _ m6=>sR fun _ m7=>Ym (iV D) (eh V) (bE r fun t d8 r=>yY (yIa SL_32 (eh d6) (eh V) b (rdI m) d8) (yY (yI O_58 e0 b (rdI m) d8) (Ya (iV D) e0 (Ya (.int .u32 t) e0 (wK m7 ?_)))))))
   refine sR fun _ m8=>Ym (.int .u64 i) (eh a6) (Ym (.int .u32 t) e0 (yY (ycv (k':=.u64) (by kernel_rfl) (by kernel_rfl) e0) (yY (ymul e0 e0) (Ym (.int .u64 o) (eh d4) (yY (yadd e0 e0) (Ya (.int .u64 (wa .u64 (wm .u64 i (wc .u64 t)) o)) e0 (wK m8 (sR fun _ m9=>Ym (.int .u64 (wa .u64 (wm .u64 i (wc .u64 t)) o)) e0 ?_))))))))
   refine yY (yshrc e0 rfl) (Ya (.int .u64 (wsrc .u64 (wa .u64 (wm .u64 i (wc .u64 t)) o) 32)) e0 (wK m9 (sR fun _ n0=>Ym ((subH g 1 j k).v) (eh U) (Ym (iV D) e0 (bE r fun J d9 r=>yY (yIaW SL_32 e0 e0 b rO0 d9) (yY (yI O_58 e0 b rO0 (getW_g d9)) (yY (ycv (k':=.u64) (by kernel_rfl) (by kernel_rfl) e0) (Ym (.int .u64 (wa .u64 (wm .u64 i (wc .u64 t)) o)) e0 (yY (yand e0 rfl) ?_)))))))))
   refine yY (ysub e0 e0) (Ym (.int .u64 y) (eh d5) (yY (ysub e0 e0) (Ya (.int .u64 (ws .u64 (ws .u64 (wc .u64 J) (wand .u64 (wa .u64 (wm .u64 i (wc .u64 t)) o) 4294967295)) y)) e0 (wK n0 (sR fun _ n1=>Ym ((subH g 1 j k).v) (eh U) (Ym (iV D) e0 (Ym (.int .u64 (ws .u64 (ws .u64 (wc .u64 J) (wand .u64 (wa .u64 (wm .u64 i (wc .u64 t)) o) 4294967295)) y)) e0 (yY (yand e0 rfl) (yY (ycv (k':=.u32) (by kernel_rfl) (by kernel_rfl) e0) (bE r fun p7 e1 r=>?_))))))))))
   refine yY (yIsW SL_32 e0 e0 b rO0 e1) (yT (r_sti (cs:=[.int .u32 (wc .u32 (wand .u64 (ws .u64 (ws .u64 (wc .u64 J) (wand .u64 (wa .u64 (wm .u64 i (wc .u64 t)) o) 4294967295)) y) 4294967295))]) b O_58 rfl e0 e0 rfl mkI (setW_g e1)) fun w b=>wK n1 (wR (Ym (.int .u64 (ws .u64 (ws .u64 (wc .u64 J) (wand .u64 (wa .u64 (wm .u64 i (wc .u64 t)) o) 4294967295)) y)) e0 (yY (yshrc e0 rfl) (yY (yand e0 rfl) (Ya (.int .u64 (wand .u64 (wsrc .u64 (ws .u64 (ws .u64 (wc .u64 J) (wand .u64 (wa .u64 (wm .u64 i (wc .u64 t)) o) 4294967295)) y) 32) 1)) e0 (wN (m6 _ _ _ (m5 _ _ (wR ?_))))))))))
   refine yY (yadd (eh V) rfl) (Ym (iV (wa .i64 D 1)) e0 (wN ?_))
   cases r
   exact l9 _ _ _ rfl ⟨_,_,_,_,_,rfl,rfl,U,d2,d3,a6,rfl,rfl,d6,d7,rfl,b⟩
  ·refine wp_exit (m3 _ _ _ rfl ?_)
   cases r
   exact m0 _ _ _ _ rfl rfl (h3 _ _ _ _ _ U d2 d3 a6 d4 d5 b (l8 _ rfl))
 refine loopQ (fun s a w=>∃ (u E:Int) (f:FV),(u,E)=s∧a=fr 177 f∧f 0=(subH g 1 j k).v∧f 1=l.v∧f 5=iV (h.length:Int)∧f 7=.int .u64 u∧f 8=.int .u64 E∧St w0 ros (row 58 (rI .u32) g.v G::rs) w) g2 ⟨_,_,_,rfl,rfl,rfl,rfl,rfl,rfl,rfl,b⟩ ?_
 rintro _ _ w p8 ⟨u,E,f,rfl,rfl,a7,a8,W,K,a9,b⟩ p e2 p9 n2 e3
 refine seqQ fun q0 n3 n4=>sQ fun _ n5=>bE p fun b0 z p=>?_
 refine joinN (n:=177) (fun f w=>f 0=(subH g 1 j k).v∧f 1=l.v∧f 5=iV (h.length:Int)∧f 7=.int .u64 u∧f 8=.int .u64 E∧f 71=.bool b0∧St w0 ros (row 58 (rI .u32) g.v G::rs) w) (fun e4=>?_) ?_
 ·rcases iteS z with ⟨c,z⟩ | ⟨c,z⟩
  ·have n6:=someI z
   refine dR [0,1,3,7,7,7,39,119,247,503,1023,7,2055,7,7,16391,57351,122887,253959,522247,1048575,2097151] [] 0 folM ?_
   replace b:=b.drew
   refine Dz [0,1,2,3,4,5,6,7,8,9,10,11,12,13,14,15,16,17,18,19,20,21] [] (yR rfl (m_ (.int .u64 u) (eh K)) (yR rfl (ygtr e0 rfl) (yR rfl (m_ (.bool (decide ((4294967295:Int) < u))) e0) (Rx rfl rfl (wX (dT c)) (Rx rfl rfl (wX (dT c)) (Rx rfl rfl (wX (dT c)) (Rx rfl rfl (wX (dT c)) (Rx rfl rfl (wX (dT c)) (Rx rfl rfl (wX (dT c)) (Rx rfl rfl (wX (dT c)) (Rx rfl rfl (wX (dT c)) (Rx rfl rfl (wX (dT c)) (Rx rfl rfl (wX (dT c)) ?_)))))))))))))
   exact Rx rfl rfl (wX (dT c)) (Rx rfl rfl (wX (dT c)) (Rx rfl rfl (wX (dT c)) (Rx rfl rfl (wX (dT c)) (Rx rfl rfl (wX (dT c)) (Rx rfl rfl (wX (dT c)) (Rx rfl rfl (wX (dT c)) (Rx rfl rfl (wX (dT c)) (yR rfl (pt_ (.bool b0) e0 (dT c) (eqv n6 rfl)) (Rn QSn (e4 _ _ ⟨a7,a8,W,K,a9,rfl,b⟩))))))))))
  ·refine bE z fun q2 e5 z=>bE z fun q3 e6 z=>?_
   have n7:=someI z
   refine dR [0,1,3,7,7,7,39,119,247,503,1023,7,2055,7,7,16391,57351,122887,253959,522247,1048575,2097151] [] 0 folM ?_
   replace b:=b.drew
   refine Dz [0,1,2,3,4,5,6,7,8,9,10,11,12,13,14,15,16,17,18,19,20,21] [] (yR rfl (m_ (.int .u64 u) (eh K)) (yR rfl (ygtr e0 rfl) (yR rfl (m_ (.bool (decide ((4294967295:Int) < u))) e0) (Ry rfl rfl (wG (dF c)) (m_ (.int .u64 u) (eh K)) (Ry rfl rfl (wG (dF c)) (m_ l.v (eh a8)) (Ry rfl rfl (wG (dF c)) (m_ (iV (h.length:Int)) (eh W)) (Ry rfl rfl (wG (dF c)) (ysub e0 rfl) (Ry rfl rfl (wG (dF c)) (yIa SL_32 e0 e0 b (rdI m) e5) (Ry rfl rfl (wG (dF c)) (yI O_58 e0 b (rdI m) e5) (Ry rfl rfl (wG (dF c)) (ycv (k':=.u64) (by kernel_rfl) (by kernel_rfl) e0) (Ry rfl rfl (wG (dF c)) (ymul e0 e0) (Ry rfl rfl (wG (dF c)) (m_ (.int .u64 E) (eh a9)) (Ry rfl rfl (wG (dF c)) (yshlc e0 rfl) ?_)))))))))))))
   exact Ry rfl rfl (wG (dF c)) (m_ ((subH g 1 j k).v) (eh a7)) (Ry rfl rfl (wG (dF c)) (m_ (iV (h.length:Int)) (eh W)) (Ry rfl rfl (wG (dF c)) (ysub e0 rfl) (Ry rfl rfl (wG (dF c)) (yIaW SL_32 e0 e0 b rO0 e6) (Ry rfl rfl (wG (dF c)) (yI O_58 e0 b rO0 (getW_g e6)) (Ry rfl rfl (wG (dF c)) (ycv (k':=.u64) (by kernel_rfl) (by kernel_rfl) e0) (Ry rfl rfl (wG (dF c)) (yor e0 e0) (Ry rfl rfl (wG (dF c)) (ygtr e0 e0) (yR rfl (pf_ (.bool b0) e0 (dF c) (eqv n7 e0)) (Rn QSn (e4 _ _ ⟨a7,a8,W,K,a9,rfl,b⟩))))))))))
 rintro f w ⟨b1,X,Z,e7,n8,n9,b⟩
 refine n5 _ _ (cB (eh n9) p (fun o0 p=>?_) fun o0 p=>?_)
 ·refine wp_skip (n3 _ _ (blockQ fun _ e8=>sR fun _ o1=>Ym (.int .u64 u) (eh e7) (yY (ysub e0 rfl) (Ya (.int .u64 (ws .u64 u 1)) e0 (wK o1 (sR fun _ o2=>Ym (.int .u64 E) (eh n8) (Ym l.v (eh X) ?_)))))))
  refine Ym (iV (h.length:Int)) (eh Z) (yY (ysub e0 rfl) (bE p fun e9 f0 p=>yY (yIa SL_32 e0 e0 b (rdI m) f0) (yY (yI O_58 e0 b (rdI m) f0) (yY (ycv (k':=.u64) (by kernel_rfl) (by kernel_rfl) e0) (yY (yadd e0 e0) (Ya (.int .u64 (wa .u64 E (wc .u64 e9))) e0 (wK o2 (sR fun _ o3=>Ym (.int .u64 (wa .u64 E (wc .u64 e9))) e0 (yY (ygtr e0 rfl) ?_)))))))))
  refine wK o3 ?_
  refine cIf e0 p (fun o4 p=>?_) fun o4 p=>?_
  ·refine wp_exit (e8 _ _ _ ?_)
   cases p
   exact e3 _ _ _ _ rfl rfl (b7 _ _ _ b1 X Z rfl b (e2 _ rfl))
  ·refine wp_skip (e8 _ _ _ ?_)
   cases p
   exact n2 _ _ _ rfl ⟨_,_,_,rfl,rfl,b1,X,Z,rfl,rfl,b⟩
 ·refine wp_exit (n4 _ _ _ rfl ?_)
  cases p
  exact e3 _ _ _ _ rfl rfl (b7 _ _ _ b1 X Z e7 b (e2 _ rfl))
theorem integer_down_1_ok {a:Int} {out:Bool} (b:integer_down_1 a=some out) (c:St w0 ros rs w):
  Calls Tryd.prog 102 #[.int .u32 a] w (fun e w=>e=.returned (.bool out)∧St w0 ros rs w):=by
 refine enterQ Tryd.func102 rfl Tryd.ntmps102 rfl fun Q d=>sR fun _ f=>Ya (.bool false) rfl (wK f (sR fun _ g=>Ym (.int .u32 a) e0 (yY (yneq e0 rfl) (Ya (.bool (!(decide (a=0)))) e0 (wK g (wp_ret ?_))))))
 cases b
 exact d _ _ _ (fin1r Tryd.results102 ⟨rfl,rfl⟩ ⟨rfl,c⟩)
theorem slices_IndexFunc_uint32_ok {i:LI} {g:Hdr} {out:Int} (h:slices_IndexFunc_uint32 i=some out) (j:imm (rI .u32) g.v i∈ros) (b:St w0 ros rs w):
  Calls Tryd.prog 105 #[g.v,.func (.func 102) #[] #[]] w (fun e w=>e=.returned (iV out)∧St w0 ros rs w):=by
 refine enterQ Tryd.func105 rfl Tryd.ntmps105 rfl fun Q m=>sR fun _ A=>Ya (iV 0) rfl (wK A (seqQ fun Z B C=>sR fun _ D=>Ym g.v e0 (yY (yLen SL_32 e0 b (rdI j)) (Ym (iV 0) rfl (wK D ?_)))))
 refine blockQ fun n o=>bE h fun p E h=>?_
 have F:∀ (f:FV) w,St w0 ros rs w→.inl ()=p→n (.exit 0) (fr 19 f) w:=by
  intro f w b ho
  subst ho
  refine o _ _ _ (B _ _ (sR fun _ G=>Ya (iV (-1)) rfl (wK G (wp_ret ?_))))
  cases h
  exact m _ _ _ (fin1r Tryd.results105 ⟨rfl,rfl⟩ ⟨rfl,b⟩)
 have H:∀ (k:Int) (f:FV) w,f 4=iV k→St w0 ros rs w→.inr k=p→n .ret (fr 19 f) w:=by
  intro k f w I b ho
  subst ho
  refine o _ _ _ (C _ _ _ rfl ?_)
  cases h
  exact m _ _ _ (fin1r Tryd.results105 ⟨rfl,I⟩ ⟨rfl,b⟩)
 refine loopQ (fun s a w=>∃ (d:Int) (f:FV),d=s∧a=fr 19 f∧f 0=g.v∧f 1=.func (.func 102) #[] #[]∧f 7=iV (i.length:Int)∧f 8=iV d∧St w0 ros rs w) E ⟨_,_,rfl,rfl,rfl,rfl,rfl,rfl,b⟩ ?_
 rintro _ _ w a0 ⟨d,f,rfl,rfl,q,r,t,l,b⟩ c u a2 J x
 refine sR fun _ K=>yY (ylss (eh l) (eh t)) (wK K (seqQ fun a3 L N=>?_))
 refine cIf e0 c (fun O c=>?_) fun O c=>?_
 ·refine wp_skip (L _ _ (seqQ fun a4 R S=>blockQ fun _ y=>sR fun _ T=>Ym (iV d) (eh l) (Ya (iV d) e0 (wK T (sR fun _ U=>Ym (.func (.func 102) #[] #[]) (eh r) (Ym g.v (eh q) ?_))))))
  refine Ym (iV d) e0 (bE c fun a5 z c=>yY (yIa SL_32 e0 e0 b (rdI j) z) (yY (yI O_58 e0 b (rdI j) z) (bE c fun a6 V c=>yC (yCallw FN_102 e0 (a1 e0)) (integer_down_1_ok V b) ?_)))
  rintro _ w ⟨rfl,b⟩
  refine ⟨_,rfl,?_⟩
  refine wK U (cB e0 c (fun W c=>?_) fun W c=>?_)
  ·refine sR fun _ X=>Ym (iV d) e0 (Ya (iV d) e0 (wK X (wp_ret (y _ _ _ (S _ _ _ rfl ?_)))))
   cases c
   exact x _ _ _ _ rfl rfl (H _ _ _ rfl b (u _ rfl))
  ·refine wp_skip (y _ _ _ (R _ _ (wR (yY (yadd (eh l) rfl) (Ym (iV (wa .i64 d 1)) e0 (wN ?_))))))
   cases c
   exact J _ _ _ rfl ⟨_,_,rfl,rfl,q,r,t,rfl,b⟩
 ·refine wp_exit (N _ _ _ rfl ?_)
  cases c
  exact x _ _ _ _ rfl rfl (F _ _ b (u _ rfl))
theorem slices_ContainsFunc_uint32_ok {d:LI} {a:Hdr} {out:Bool} (b:slices_ContainsFunc_uint32 d=some out) (f:imm (rI .u32) a.v d∈ros) (c:St w0 ros rs w):
  Calls Tryd.prog 101 #[a.v,.func (.func 102) #[] #[]] w (fun e w=>e=.returned (.bool out)∧St w0 ros rs w):=by
 refine enterQ Tryd.func101 rfl Tryd.ntmps101 rfl fun Q g=>sR fun _ h=>Ya (.bool false) rfl (wK h (sR fun _ i=>Ym a.v e0 (Ym (.func (.func 102) #[] #[]) e0 (bE b fun j k b=>yC (yCall FN_105 (a2 e0 e0)) (slices_IndexFunc_uint32_ok k f c) ?_))))
 rintro _ w ⟨rfl,c⟩
 refine ⟨_,rfl,?_⟩
 refine yY (ygeq e0 rfl) (Ya (.bool (decide ((0:Int)≤j))) e0 (wK i (wp_ret ?_)))
 cases b
 exact g _ _ _ (fin1r Tryd.results101 ⟨rfl,rfl⟩ ⟨rfl,c⟩)
theorem integer_down_ok {u:LI} {d:Int} {h:Hdr} {out:LI×Bool} (c:integer_down u d=some out) (k:imm (rI .u32) h.v u∈ros) (b:St w0 ros rs w):
  Calls Tryd.prog 94 #[h.v,iV d] w (fun e w=>∃ (C:Hdr),e=.returned (.tuple #[C.v,.bool out.2])∧St w0 (imm (rI .u32) C.v out.1::ros) rs w):=by
 refine enterQ Tryd.func94 rfl Tryd.ntmps94 rfl fun Q D=>sR fun _ k1=>Ya hnil.v rfl (Ya (.bool false) rfl (wK k1 (sR fun _ U=>Ym (iV d) e0 (yY (yquoc e0 rfl (by decide)) (Ym (iV d) e0 (yY (yremc e0 rfl (by decide)) (yY (ycv (k':=.u64) (by kernel_rfl) (by kernel_rfl) e0) ?_)))))))
 refine Ya (iV (wqc .i64 d 32)) e0 (Ya (.int .u64 (wc .u64 (wrc d 32))) e0 (wK U (seqQ fun f3 V W=>sR fun _ X=>Ym (iV (wqc .i64 d 32)) e0 (Ym h.v e0 (yY (yLen SL_32 e0 b (rdI k)) (yY (ygeq e0 e0) (wK X ?_)))))))
 refine cIf e0 c (fun Z c=>?_) fun Z c=>?_
 ·refine sR fun _ a0=>Ym h.v e0 (yY (yLen SL_32 e0 b (rdI k)) (yY (ygtr e0 rfl) (Ya hnil.v rfl (Ya (.bool (decide ((0:Int) < (u.length:Int)))) e0 (wK a0 (wp_ret (W _ _ _ rfl ?_)))))))
  cases c
  replace b:=b.immNh (rI .u32)
  exact D _ _ _ (fin2r Tryd.results94 ⟨rfl,rfl⟩ ⟨rfl,rfl⟩ ⟨_,rfl,b⟩)
 ·refine wp_skip (V _ _ (sR fun _ a3=>Ym h.v e0 (Ym (iV (wqc .i64 d 32)) e0 (bE c fun f4 E c=>yY (ySl (k1:=.i64) SL_32 e0 b (rdI k) (.inr ⟨rfl,rfl⟩) (.inl (congrArg some e0)) E) ?_))))
  replace b:=b.sub k E
  refine bE c fun a4 a5 c=>yC (yCall FN_101 (a2 e0 rfl)) (slices_ContainsFunc_uint32_ok a5 F0 b) ?_
  rintro _ w ⟨rfl,b⟩
  refine ⟨_,rfl,?_⟩
  refine Ym (.bool a4) e0 (bE c fun n m c=>?_)
  refine joinW 10 (fun f w=>f 0=h.v∧f 6=iV (wqc .i64 d 32)∧f 7=.int .u64 (wc .u64 (wrc d 32))∧f 38=.bool n∧St w0 ros rs w) (fun F=>?_) ?_
  ·rcases iteS m with ⟨g,m⟩ | ⟨g,m⟩
   ·refine gN g (gN g (gN g (gN g (gN g (gN g (gN g (gN g (gN g (yY (pt_ (.bool true) e0 g rfl) ?_)))))))))
    cases m
    exact F _ _ ⟨rfl,rfl,rfl,rfl,(b.facts (allT allI))⟩
   ·refine yG (bfalse g) (m_ h.v e0) (yG (bfalse g) (m_ (iV (wqc .i64 d 32)) e0) (bE m fun a6 G m=>yG (bfalse g) (yIa SL_32 e0 e0 b (rdI (mtF k)) G) (yG (bfalse g) (yI O_58 e0 b (rdI (mtF k)) G) (yG (bfalse g) (m_ (.int .u64 (wc .u64 (wrc d 32))) e0) (bE m fun a7 a8 m=>yG (bfalse g) (yshl rfl e0 a8) (yG (bfalse g) (ysub e0 rfl) (yG (bfalse g) (yand e0 e0) (yG (bfalse g) (yneq e0 rfl) (yY (pf_ (.bool (!(decide ((wand .u32 a6 (ws .u32 a7 1))=0)))) e0 (bfalse g) e0) ?_)))))))))
    cases m
    exact F _ _ ⟨rfl,rfl,rfl,rfl,(b.facts (allT allI))⟩
  rintro f w ⟨H,I,a9,b0,b⟩
  refine Ya (.bool n) (eh b0) (wK a3 (sR fun _ b1=>Ym h.v (eh H) (yY (yLen SL_32 e0 b (rdI k)) (Ym (iV (wqc .i64 d 32)) (eh I) (yY (ysub e0 e0) (bE c fun J b2 c=>yH (rMk b SL_32 e0 b2) fun l w b=>Ya l.v e0 (wN ?_)))))))
  refine b1 _ _ (sQ fun _ b3=>sR fun _ b4=>Ym l.v e0 (yY (yLen SL_32 e0 b rO0) (Ym (iV 0) rfl (wK b4 (blockQ fun b5 b6=>bE c fun b7 b8 c=>?_)))))
  have b9:∀ (x:LI) (f:FV) w,f 8=.bool n→f 9=l.v→St w0 ros (row 58 (rI .u32) l.v x::rs) w→x=b7→b5 (.exit 0) (fr 86 f) w:=by
   intro x f w c0 c1 b ho
   subst ho
   refine b6 _ _ _ (b3 _ _ (sR fun _ c2=>Ym l.v (eh c1) (bE c fun f5 c3 c=>?_)))
   replace b:=b.fz
   refine yC (yCall FN_30 (a1 e0)) (integer_trim_ok c3 F0 b) ?_
   rintro _ w ⟨c5,rfl,b⟩
   refine ⟨_,rfl,?_⟩
   refine Ym (.bool n) (eh c0) (Ya c5.v e0 (Ya (.bool n) e0 (wK c2 (wp_ret ?_))))
   cases c
   exact D _ _ _ (fin2r Tryd.results94 ⟨rfl,rfl⟩ ⟨rfl,rfl⟩ ⟨_,rfl,(b.facts (allC F0 (allT (allT allI))))⟩)
  refine loopQ (fun s a w=>∃ (o:LI) (i:Int) (f:FV),(o,i)=s∧a=fr 86 f∧f 0=h.v∧f 6=iV (wqc .i64 d 32)∧f 7=.int .u64 (wc .u64 (wrc d 32))∧f 8=.bool n∧f 9=l.v∧f 45=iV (J.length:Int)∧f 46=iV i∧St w0 ros (row 58 (rI .u32) l.v o::rs) w) b8 ⟨_,_,_,rfl,rfl,H,I,a9,rfl,rfl,rfl,rfl,b⟩ ?_
  rintro _ _ w c6 ⟨o,i,f,rfl,rfl,p,q,K,y,z,A,r,b⟩ j c7 f6 c8 c9
  refine sR fun _ d0=>yY (ylss (eh r) (eh A)) (wK d0 (seqQ fun f7 d1 d2=>?_))
  refine cIf e0 j (fun d3 j=>?_) fun d3 j=>?_
  ·refine wp_skip (d1 _ _ (sQ fun _ d4=>blockQ fun _ d5=>sR fun _ d6=>Ym (iV i) (eh r) (Ya (iV i) e0 (wK d6 (sR fun _ d7=>Ym h.v (eh p) (Ym (iV (wqc .i64 d 32)) (eh q) ?_))))))
   refine Ym (iV i) e0 (yY (yadd e0 e0) (bE j fun B L j=>yY (yIa SL_32 e0 e0 b (rdI k) L) (yY (yI O_58 e0 b (rdI k) L) (yY (ycv (k':=.u64) (by kernel_rfl) (by kernel_rfl) e0) (Ya (.int .u64 (wc .u64 B)) e0 (wK d7 (sQ fun d8 d9=>sR fun _ e1=>Ym (iV (wqc .i64 d 32)) (eh q) (Ym (iV i) e0 ?_))))))))
   refine yY (yadd e0 e0) (yY (yadd e0 rfl) (Ym h.v (eh p) (yY (yLen SL_32 e0 b (rdI k)) (yY (ylss e0 e0) (wK e1 ?_)))))
   have N:∀ (t:Int) (f:FV) w,f 0=h.v→f 6=iV (wqc .i64 d 32)→f 7=.int .u64 (wc .u64 (wrc d 32))→f 8=.bool n→f 9=l.v→f 10=iV i→f 11=.int .u64 t→f 45=iV (J.length:Int)→f 46=iV i→St w0 ros (row 58 (rI .u32) l.v o::rs) w→integer_down_j5 d o i t=some c6→d8 .normal (fr 86 f) w:=by
    intro t f w e2 e3 O e4 R e5 e6 e7 e8 b c
    refine d9 _ _ (wR (Ym l.v (eh R) (Ym (iV i) (eh e5) (Ym (.int .u64 t) (eh e6) (Ym (.int .u64 (wc .u64 (wrc d 32))) (eh O) (bE c fun e9 f0 c=>yY (yshr e0 e0 f0) (yY (yand e0 rfl) (yY (ycv (k':=.u32) (by kernel_rfl) (by kernel_rfl) e0) (bE c fun f8 S c=>yY (yIs SL_32 e0 e0 b rO0 S) (yT (r_sti (cs:=[.int .u32 (wc .u32 (wand .u64 e9 4294967295))]) b O_58 rfl e0 e0 rfl mkI S) fun w b=>?_))))))))))
    refine wN (d5 _ _ _ (d4 _ _ (wR (yY (yadd (eh e8) rfl) (Ym (iV (wa .i64 i 1)) e0 (wN ?_))))))
    cases c
    exact c8 _ _ _ rfl ⟨_,_,_,rfl,rfl,e2,e3,O,e4,R,e7,rfl,b⟩
   refine cIf e0 j (fun f1 j=>?_) fun f1 j=>?_
   ·refine wR (Ym (.int .u64 (wc .u64 B)) e0 (Ym h.v (eh p) (Ym (iV (wqc .i64 d 32)) (eh q) (Ym (iV i) e0 (yY (yadd e0 e0) (yY (yadd e0 rfl) (bE j fun f2 T j=>yY (yIa SL_32 e0 e0 b (rdI k) T) (yY (yI O_58 e0 b (rdI k) T) (yY (ycv (k':=.u64) (by kernel_rfl) (by kernel_rfl) e0) (yY (yshlc e0 rfl) (yY (yor e0 e0) (Ya (.int .u64 (wor .u64 (wc .u64 B) (wslc .u64 (wc .u64 f2) 32))) e0 ?_))))))))))))
    exact wN (N _ _ _ p q K y z rfl rfl A r b j)
   ·exact wp_skip (N _ _ _ p q K y z rfl rfl A r b j)
  ·refine wp_exit (d2 _ _ _ rfl ?_)
   cases j
   exact c9 _ _ _ _ rfl rfl (b9 _ _ _ y z b (c7 _ rfl))
theorem integer_divide_ok {H I:LI} {m i:Hdr} {out:LI×LI} (c:integer_divide H I=some out) (r:imm (rI .u32) m.v H∈ros) (j:imm (rI .u32) i.v I∈ros) (b:St w0 ros rs w):
  Calls Tryd.prog 83 #[m.v,i.v] w (fun e w=>∃ (J K:Hdr),e=.returned (.tuple #[J.v,K.v])∧St w0 (imm (rI .u32) J.v out.1::imm (rI .u32) K.v out.2::ros) rs w):=by
 refine enterQ Tryd.func83 rfl Tryd.ntmps83 rfl fun Q z=>sR fun _ k1=>Ya hnil.v rfl (Ya hnil.v rfl (wK k1 (seqQ fun g0 V W=>sR fun _ X=>Ym m.v e0 (Ym i.v e0 (bE c fun g1 Z c=>yC (yCall FN_32 (a2 e0 e0)) (integer_compare_ok Z r j b) ?_)))))
 rintro _ w ⟨rfl,b⟩
 refine ⟨_,rfl,?_⟩
 refine yY (ylss e0 rfl) (wK X ?_)
 refine cIf e0 c (fun a0 c=>?_) fun a0 c=>?_
 ·refine sR fun _ a3=>Ym m.v e0 (bE c fun g2 a4 c=>yC (yCall FN_29 (a1 e0)) (slices_Clone_uint32_ok a4 r b) ?_)
  rintro _ w ⟨a5,rfl,b⟩
  refine ⟨_,rfl,?_⟩
  refine Ya hnil.v rfl (Ya a5.v e0 (wK a3 (wp_ret (W _ _ _ rfl ?_))))
  cases c
  replace b:=(b.immNh (rI .u32)).fz
  exact z _ _ _ (fin2r Tryd.results83 ⟨rfl,rfl⟩ ⟨rfl,rfl⟩ ⟨_,_,rfl,(b.facts (allC F1 (allC F0 (allT (allT allI)))))⟩)
 ·refine wp_skip (V _ _ (seqQ fun g3 a6 a7=>sR fun _ a8=>Ym i.v e0 (yY (yLen SL_32 e0 b (rdI j)) (yY (yeql e0 rfl) (wK a8 ?_)))))
  refine cIf e0 c (fun a9 c=>?_) fun a9 c=>?_
  ·refine sR fun _ b0=>Ym m.v e0 (Ym i.v e0 (bE c fun g4 L c=>yY (yIa SL_32 e0 rfl b (rdI j) L) (yY (yI O_58 e0 b (rdI j) L) (bE c fun o b1 c=>yC (yCall FN_43 (a2 e0 e0)) (integer_short_ok b1 r b) ?_))))
   rintro _ w ⟨t,rfl,b⟩
   refine ⟨_,rfl,?_⟩
   refine Ym (.tuple #[t.v,.int .u32 o.2]) e0 (yY (x_ t.v e0) (yY (x_ (.int .u32 o.2) e0) (Ya t.v e0 (Ya (.int .u32 o.2) e0 (wK b0 (sR fun _ b2=>Ym t.v e0 (Ym (.int .u32 o.2) e0 (yH (rLt (n:=1) (l:=[o.2]) b SL_32 [.int .u32 o.2] (bp1 e0) rfl rfl (mks1 (cs:=[.int .u32 o.2]) rfl mkI mks0)) fun g5 w b=>bE c fun g6 b3 c=>?_))))))))
   replace b:=b.fz
   refine yC (yCall FN_30 (a1 e0)) (integer_trim_ok b3 F0 b) ?_
   rintro _ w ⟨b4,rfl,b⟩
   refine ⟨_,rfl,?_⟩
   refine Ya t.v e0 (Ya b4.v e0 (wK b2 (wp_ret (a7 _ _ _ rfl ?_))))
   cases c
   exact z _ _ _ (fin2r Tryd.results83 ⟨rfl,rfl⟩ ⟨rfl,rfl⟩ ⟨_,_,rfl,(b.facts (allC F2 (allC F0 (allT (allT (allT allI))))))⟩)
  ·refine wp_skip (a6 _ _ (sR fun _ b5=>Ym i.v e0 (Ym i.v e0 (yY (yLen SL_32 e0 b (rdI j)) (yY (ysub e0 rfl) (bE c fun g7 N c=>yY (yIa SL_32 e0 e0 b (rdI j) N) (yY (yI O_58 e0 b (rdI j) N) (bE c fun q b6 c=>yC (yCall FN_91 (a1 e0)) (math_bits_LeadingZeros32_ok b6 b) ?_))))))))
   rintro _ w ⟨rfl,b⟩
   refine ⟨_,rfl,?_⟩
   refine Ya (iV q) e0 (wK b5 (sR fun _ b7=>Ym i.v e0 (Ym (iV q) e0 (bE c fun p b8 c=>yC (yCall FN_92 (a2 e0 e0)) (integer_up_ok b8 j b) ?_))))
   rintro _ w ⟨u,rfl,b⟩
   refine ⟨_,rfl,?_⟩
   refine Ya u.v e0 (wK b7 (sR fun _ b9=>Ym m.v e0 (yY (yLen SL_32 e0 b (rdI (mtF r))) (yY (yadd e0 rfl) (bE c fun g8 c0 c=>yH (rMk b SL_32 e0 c0) fun g w b=>Ya g.v e0 (wK b9 ?_))))))
   refine sR fun _ c1=>Ym g.v e0 (Ym m.v e0 (Ym (iV q) e0 (bE c fun g9 c2 c=>yC (yCall FN_92 (a2 e0 e0)) (integer_up_ok c2 (mtF r) b) ?_)))
   rintro _ w ⟨h0,rfl,b⟩
   refine ⟨_,rfl,?_⟩
   refine bE c fun h1 c3 c=>YV wn rfl (rCp b SL_32 rfl e0 (.inr ⟨rfl,rfl,rfl⟩) e0 (rdI F0) c3) fun w b=>wK c1 (sR fun _ c4=>Ym u.v e0 (yY (yLen SL_32 e0 b (rdI F1)) (Ya (iV (p.length:Int)) e0 (wK c4 (sR fun _ c5=>?_)))))
   refine Ym g.v e0 (yY (yLen SL_32 e0 b rO0) (Ym (iV (p.length:Int)) e0 (yY (ysub e0 e0) (bE c fun c7 c8 c=>yH (rMk b SL_32 e0 c8) fun k w b=>Ya k.v e0 (wK c5 (sQ fun _ d0=>sR fun _ d1=>Ym k.v e0 ?_))))))
   refine yY (yLen SL_32 e0 b rO0) (yY (ysub e0 rfl) (Ya (iV (ws .i64 (c7.length:Int) 1)) e0 (wK d1 (blockQ fun d2 d3=>bE c fun d4 d5 c=>?_))))
   have d6:∀ (A B:LI) (f:FV) w,f 4=k.v→f 8=iV q→f 10=g.v→f 11=iV (p.length:Int)→St w0 ros (row 58 (rI .u32) k.v A::row 58 (rI .u32) g.v B::rs) w→(A,B)=d4→d2 (.exit 0) (fr 91 f) w:=by
    intro A B f w d7 d8 d9 e1 b ho
    subst ho
    refine d3 _ _ _ (d0 _ _ (sR fun _ e2=>Ym g.v (eh d9) (Ym (iV (p.length:Int)) (eh e1) (bE c fun h3 O c=>?_))))
    replace b:=(b.k10).fz
    refine yY (ySl (k1:=.i64) SL_32 e0 b (rdI F0) (.inr ⟨rfl,rfl⟩) (.inl (congrArg some e0)) O) ?_
    replace b:=b.sub F0 O
    refine bE c fun h5 e3 c=>yC (yCall FN_30 (a1 e0)) (integer_trim_ok e3 F0 b) ?_
    rintro _ w ⟨h6,rfl,b⟩
    refine ⟨_,rfl,?_⟩
    refine Ym (iV q) (eh d8) (bE c fun R e4 c=>yC (yCall FN_94 (a2 e0 e0)) (integer_down_ok e4 F0 b) ?_)
    rintro _ w ⟨x,rfl,b⟩
    refine ⟨_,rfl,?_⟩
    refine Ym (.tuple #[x.v,.bool R.2]) e0 (yY (x_ x.v e0) (yY (x_ (.bool R.2) e0) (Ya x.v e0 (wK e2 (sR fun _ e5=>Ym k.v (eh d7) (bE c fun h7 e6 c=>?_))))))
    replace b:=b.fz
    refine yC (yCall FN_30 (a1 e0)) (integer_trim_ok e6 F0 b) ?_
    rintro _ w ⟨e7,rfl,b⟩
    refine ⟨_,rfl,?_⟩
    refine Ym x.v e0 (Ya e7.v e0 (Ya x.v e0 (wK e5 (wp_ret ?_))))
    cases c
    exact z _ _ _ (fin2r Tryd.results83 ⟨rfl,rfl⟩ ⟨rfl,rfl⟩ ⟨_,_,rfl,(b.facts (allC F0 (allC F2 (allT (allT (allT (allT (allT (allT allI)))))))))⟩)
   refine loopQ (fun s a w=>∃ (C D:LI) (h:Int) (f:FV),(C,D,h)=s∧a=fr 91 f∧f 4=k.v∧f 8=iV q∧f 9=u.v∧f 10=g.v∧f 11=iV (p.length:Int)∧f 12=iV h∧St w0 (imm (rI .u32) u.v p::ros) (row 58 (rI .u32) k.v C::row 58 (rI .u32) g.v D::rs) w) d5 ⟨_,_,_,_,rfl,rfl,rfl,rfl,rfl,rfl,rfl,rfl,(b.facts (allC F1 (allT (allT allI))))⟩ ?_
   rintro _ _ w h9 ⟨C,D,h,f,rfl,rfl,E,S,T,F,G,y,b⟩ d e8 i0 e9 f0
   refine seqQ fun i1 f1 f2=>sR fun _ f3=>Ym (iV h) (eh y) (yY (ygeq e0 rfl) (wK f3 ?_))
   refine cIf e0 d (fun f4 d=>?_) fun f4 d=>?_
   ·refine wp_skip (f1 _ _ (sQ fun _ f5=>blockQ fun _ f6=>wR (Ym k.v (eh E) (Ym (iV h) (eh y) (Ym g.v (eh F) (Ym (iV h) (eh y) (Ym (iV h) (eh y) (Ym (iV (p.length:Int)) (eh G) (yY (yadd e0 e0) (yY (yadd e0 rfl) (bE d fun i2 f7 d=>?_)))))))))))
    refine yY (ySl SL_32 e0 b rO1 (.inl (congrArg some e0)) (.inl (congrArg some e0)) f7) (Ym u.v (eh T) (bE d fun f8 f9 d=>?_))
    replace b:=b.k10
    refine yC (yCall FN_93 (a2 e0 e0)) (integer_digit_ok f9 F0 b) ?_
    rintro _ w ⟨rfl,b⟩
    refine ⟨_,rfl,?_⟩
    refine bE d fun i3 U d=>yY (yIs SL_32 e0 e0 b rO1 U) (yT (r_sti (cs:=[.int .u32 f8.2]) (b.k10) O_58 rfl e0 e0 rfl mkI U) fun w b=>wN (f6 _ _ _ (f5 _ _ (wR (Ym (iV h) (eh y) (yY (ysub e0 rfl) (Ya (iV (ws .i64 h 1)) e0 (wN ?_))))))))
    cases d
    exact e9 _ _ _ rfl ⟨_,_,_,_,rfl,rfl,E,S,T,F,G,rfl,b⟩
   ·refine wp_exit (f2 _ _ _ rfl ?_)
    cases d
    exact f0 _ _ _ _ rfl rfl (d6 _ _ _ _ E S F G (b.facts (allT allI)) (e8 _ rfl))
theorem integer_DivMod_ok {c:Bool} {z:LI} {g:Bool} {A:LI} {i j:Hdr} {out:Bool×LI×Bool×LI×Int} (b:integer_DivMod c z g A=some out) (V:imm (rI .u32) i.v z∈ros) (W:imm (rI .u32) j.v A∈ros) (a:St w0 ros rs w):
  Calls Tryd.prog 67 #[.agg #[.bool c,i.v],.agg #[.bool g,j.v]] w (fun e w=>∃ (B C:Hdr),e=.returned (.tuple #[.agg #[.bool out.1,B.v],.agg #[.bool out.2.2.1,C.v],iV out.2.2.2.2])∧St w0 (imm (rI .u32) B.v out.2.1::imm (rI .u32) C.v out.2.2.2.1::ros) rs w):=by
 refine enterQ Tryd.func67 rfl Tryd.ntmps67 rfl fun Q D=>sR fun _ X=>yBb (r_box (vals:=[.bool c,i.v]) a e0 rfl) fun o w a=>yBb (r_box (vals:=[.bool g,j.v]) a e0 rfl) fun p w a=>yBb (rAl a ZT_34) fun q w a=>yBb (rAl a ZT_34) fun r w a=>Ya (iV 0) rfl (wK X ?_)
 refine sR fun _ Z=>yY (yFb FL_34_1 e0) (yY (lb_ j.v O_32 e0 a R2) (bE b fun a0 a3 b=>yC (yCall FN_30 (a1 e0)) (integer_trim_ok a3 W a) ?_))
 rintro _ w ⟨k,rfl,a⟩
 refine ⟨_,rfl,?_⟩
 refine Ya k.v e0 (wK Z (seqQ fun d2 a4 a5=>sR fun _ a6=>Ym k.v e0 (yY (yLen SL_32 e0 a (rdI F0)) (yY (yeql e0 rfl) (wK a6 ?_)))))
 refine cIf e0 b (fun a7 b=>?_) fun a7 b=>?_
 ·refine sR fun _ a8=>yY (ybuild (us:=[.bool false,hnil.v]) [] SO_34 bp0 rfl) (yY (ybuild (us:=[.bool false,hnil.v]) [] SO_34 bp0 rfl) (yT (r_stbn (vals':=[.bool false,hnil.v]) (us:=[.bool false,hnil.v]) (a.k10) ST_34 e0 e0 rfl rfl (one_of rfl) rfl) fun w a=>yT (r_stbn (vals':=[.bool false,hnil.v]) (us:=[.bool false,hnil.v]) (a.k10) ST_34 e0 e0 rfl rfl (one_of rfl) rfl) fun w a=>Ya (iV 8) rfl (wK a8 (wp_ret (a5 _ _ _ rfl ?_)))))
  cases b
  replace a:=a.immNh (rI .u32)
  exact D _ _ _ (fin3r Tryd.results67 (rcs2 rfl rfl a R1 ST_34 rfl) (rcs2 rfl rfl a R0 ST_34 rfl) ⟨rfl,rfl⟩ ⟨_,_,rfl,((a.k1d).facts (allC F0 (allC F0 (allT (allT allI)))))⟩)
 ·refine wp_skip (a4 _ _ (sR fun _ a9=>yY (yFb FL_34_1 e0) (yY (lb_ i.v O_32 e0 a R3) (bE b fun d3 b0 b=>yC (yCall FN_30 (a1 e0)) (integer_trim_ok b0 (mtF V) a) ?_))))
  rintro _ w ⟨d4,rfl,a⟩
  refine ⟨_,rfl,?_⟩
  refine Ym k.v e0 (bE b fun s b1 b=>yC (yCall FN_83 (a2 e0 e0)) (integer_divide_ok b1 F0 F1 a) ?_)
  rintro _ w ⟨m,h,rfl,a⟩
  refine ⟨_,rfl,?_⟩
  refine Ym (.tuple #[m.v,h.v]) e0 (yY (x_ m.v e0) (yY (x_ h.v e0) (Ya m.v e0 (Ya h.v e0 (wK a9 (sQ fun b2 b3=>sR fun _ b4=>yY (yFb FL_34_0 e0) (yY (lb_ (.bool c) O_4 e0 a R3) (Ym (.bool c) e0 ?_))))))))
  refine joinW 4 (fun f w=>f 2=(pB o)∧f 3=(pB p)∧f 4=(pB q)∧f 5=(pB r)∧f 7=k.v∧f 8=m.v∧f 9=h.v∧f 32=.bool (c && (decide ((0:Int) < (s.2.length:Int))))∧St w0 (imm (rI .u32) k.v a0::imm (rI .u32) m.v s.1::imm (rI .u32) h.v s.2::ros) (box o 34 [.bool c,i.v]::box p 34 [.bool g,j.v]::box q 34 [.bool false,hnil.v]::box r 34 [.bool false,hnil.v]::rs) w) (fun E=>?_) ?_
  ·rcases Bool.eq_false_or_eq_true c with d | d
   ·exact yG d (m_ h.v e0) (yG d (yLen SL_32 e0 a (rdI F1)) (yG d (ygtr e0 rfl) (yY (pt_ (.bool (decide ((0:Int) < (s.2.length:Int)))) e0 d e0) (E _ _ ⟨rfl,rfl,rfl,rfl,rfl,rfl,rfl,(congrArg Value.bool (andT d)),((a.k1e).facts (allC F3 (allC F0 (allC F1 (allT (allT (allT (allT allI))))))))⟩))))
   ·exact gN d (gN d (gN d (yY (pf_ (.bool false) e0 d rfl) (E _ _ ⟨rfl,rfl,rfl,rfl,rfl,rfl,rfl,(congrArg Value.bool (andF d)),((a.k1e).facts (allC F3 (allC F0 (allC F1 (allT (allT (allT (allT allI))))))))⟩))))
  rintro f w ⟨F,G,H,I,b5,J,K,b6,a⟩
  refine wK b4 ?_
  have L:∀ (x y:LI) (t u:Hdr) (f:FV) w,f 2=(pB o)→f 3=(pB p)→f 4=(pB q)→f 5=(pB r)→f 8=t.v→f 9=u.v→St w0 (imm (rI .u32) t.v x::imm (rI .u32) u.v y::ros) (box o 34 [.bool c,i.v]::box p 34 [.bool g,j.v]::box q 34 [.bool false,hnil.v]::box r 34 [.bool false,hnil.v]::rs) w→integer_DivMod_j2 c g x y=some out→b2 .normal (fr 48 f) w:=by
   intro x y t u f w c0 c1 N O c2 c3 a b
   refine b3 _ _ (sR fun _ c4=>yY (yFb FL_34_0 (eh c0)) (yY (lb_ (.bool c) O_4 e0 a R0) (yY (yFb FL_34_0 (eh c1)) (yY (lb_ (.bool g) O_4 e0 a R1) (yY (yneb (by kernel_rfl) e0 e0) (Ym t.v (eh c2) (bE b fun R c5 b=>yC (yCall FN_28 (a2 e0 e0)) (integer_big_ok c5 F0 a) ?_)))))))
   rintro _ w ⟨S,rfl,a⟩
   refine ⟨_,rfl,?_⟩
   refine Ym u.v (eh c3) (bE b fun T c6 b=>yC (yCall FN_28 (a2 rfl e0)) (integer_big_ok c6 F2 a) ?_)
   rintro _ w ⟨U,rfl,a⟩
   refine ⟨_,rfl,?_⟩
   refine yT (r_stbn (vals':=[.bool R.1,S.v]) (us:=[.bool R.1,S.v]) (a.k1f) ST_34 (eh N) e0 rfl rfl (one_of rfl) rfl) fun w a=>yT (r_stbn (vals':=[.bool T.1,U.v]) (us:=[.bool T.1,U.v]) (a.k17) ST_34 (eh O) e0 rfl rfl (one_of rfl) rfl) fun w a=>Ya (iV 0) rfl (wK c4 (wp_ret ?_))
   cases b
   exact D _ _ _ (fin3r Tryd.results67 (rcs2 rfl N a R1 ST_34 rfl) (rcs2 rfl O a R0 ST_34 rfl) ⟨rfl,rfl⟩ ⟨_,_,rfl,((a.k1d).facts (allC F1 (allC F0 (allT (allT (allT (allT allI)))))))⟩)
  refine cB (eh b6) b (fun c7 b=>?_) fun c7 b=>?_
  ·refine wR (Ym m.v (eh J) (yH (rLt (n:=1) (l:=[1]) a SL_32 [.int .u32 1] (bp1 rfl) rfl rfl (mks1 (cs:=[.int .u32 1]) rfl mkI mks0)) fun d5 w a=>bE b fun d6 c8 b=>?_))
   replace a:=a.fz
   refine yC (yCall FN_31 (a2 e0 e0)) (integer_plus_ok c8 F2 F0 a) ?_
   rintro _ w ⟨c9,rfl,a⟩
   refine ⟨_,rfl,?_⟩
   refine Ym k.v (eh b5) (Ym h.v (eh K) (bE b fun d7 d0 b=>yC (yCall FN_33 (a2 e0 e0)) (integer_minus_ok d0 F2 F4 a) ?_))
   rintro _ w ⟨d1,rfl,a⟩
   refine ⟨_,rfl,?_⟩
   exact Ya c9.v e0 (Ya d1.v e0 (wN (L _ _ _ _ _ _ F G H I rfl rfl (a.facts (allC F1 (allC F0 (allT (allT (allT (allT (allT (allT allI))))))))) b)))
  ·exact wp_skip (L _ _ _ _ _ _ F G H I J K (a.facts (allC F1 (allC F2 (allT (allT (allT allI)))))) b)
theorem integer_Quo_ok {i:Bool} {n:LI} {j:Bool} {o:LI} {k l:Hdr} {out:Bool×LI×Int} (g:integer_Quo i n j o=some out) (u:imm (rI .u32) k.v n∈ros) (x:imm (rI .u32) l.v o∈ros) (a:St w0 ros rs w):
  Calls Tryd.prog 50 #[.agg #[.bool i,k.v],.agg #[.bool j,l.v]] w (fun e w=>∃ (p:Hdr),e=.returned (.tuple #[.agg #[.bool out.1,p.v],iV out.2.2])∧St w0 (imm (rI .u32) p.v out.2.1::ros) rs w):=by
 refine enterQ Tryd.func50 rfl Tryd.ntmps50 rfl fun Q q=>sR fun _ y=>yBb (r_box (vals:=[.bool i,k.v]) a e0 rfl) fun K w a=>yBb (r_box (vals:=[.bool j,l.v]) a e0 rfl) fun L w a=>yBb (rAl a ZT_34) fun r w a=>Ya (iV 0) rfl (wK y (sR fun _ z=>?_))
 refine yY (lbs_ [.bool i,k.v] ST_34 e0 a R2) (yY (lbs_ [.bool j,l.v] ST_34 e0 a R1) (bE g fun b A g=>yC (yCall FN_67 (a2 e0 e0)) (integer_DivMod_ok A u x a) ?_))
 rintro _ w ⟨d,h,rfl,a⟩
 refine ⟨_,rfl,?_⟩
 refine Ym (.tuple #[.agg #[.bool b.1,d.v],.agg #[.bool b.2.2.1,h.v],iV b.2.2.2.2]) e0 (yY (x_ (.agg #[.bool b.1,d.v]) e0) (yY (x_ (.agg #[.bool b.2.2.1,h.v]) e0) (yY (x_ (iV b.2.2.2.2) e0) (yBb (rAl a ZT_34) fun s w a=>yBb (rAl a ZT_34) fun N w a=>yT (r_stbn (vals':=[.bool b.1,d.v]) (us:=[.bool b.1,d.v]) (a.k10) ST_34 e0 e0 rfl rfl (one_of rfl) rfl) fun w a=>yT (r_stbn (vals':=[.bool b.2.2.1,h.v]) (us:=[.bool b.2.2.1,h.v]) (a.k10) ST_34 e0 e0 rfl rfl (one_of rfl) rfl) fun w a=>Ya (iV b.2.2.2.2) e0 (wN ?_)))))
 refine z _ _ (seqQ fun O B C=>sR fun _ D=>Ym (iV b.2.2.2.2) e0 (yY (yeql e0 rfl) (Ym (.bool (decide (b.2.2.2.2=0))) e0 ?_)))
 refine joinW 5 (fun f w=>f 4=(pB r)∧f 6=(pB s)∧f 8=iV b.2.2.2.2∧f 23=.bool ((decide (b.2.2.2.2=0)) && (decide ((0:Int) < (b.2.2.2.1.length:Int))))∧St w0 (imm (rI .u32) d.v b.2.1::ros) (box r 34 [.bool false,hnil.v]::box s 34 [.bool b.1,d.v]::rs) w) (fun t=>?_) ?_
 ·rcases Bool.eq_false_or_eq_true (decide (b.2.2.2.2=0)) with c | c
  ·exact yG c (yFb FL_34_1 e0) (yG c (lb_ h.v O_32 e0 a R0) (yG c (yLen SL_32 e0 a (rdI F1)) (yG c (ygtr e0 rfl) (yY (pt_ (.bool (decide ((0:Int) < (b.2.2.2.1.length:Int)))) e0 c e0) (t _ _ ⟨rfl,rfl,rfl,(congrArg Value.bool (andT c)),((a.k1g).facts (allC F0 (allT (allT allI))))⟩)))))
  ·exact gN c (gN c (gN c (gN c (yY (pf_ (.bool false) e0 c rfl) (t _ _ ⟨rfl,rfl,rfl,(congrArg Value.bool (andF c)),((a.k1g).facts (allC F0 (allT (allT allI))))⟩)))))
 rintro f w ⟨m,E,F,G,a⟩
 refine wK D (cB (eh G) g (fun H g=>?_) fun H g=>?_)
 ·refine sR fun _ I=>yY (ybuild (us:=[.bool false,hnil.v]) [] SO_34 bp0 rfl) (yT (r_stbn (vals':=[.bool false,hnil.v]) (us:=[.bool false,hnil.v]) a ST_34 (eh m) e0 rfl rfl (one_of rfl) rfl) fun w a=>Ya (iV 10) rfl (wK I (wp_ret (C _ _ _ rfl ?_))))
  cases g
  replace a:=a.immNh (rI .u32)
  exact q _ _ _ (fin2r Tryd.results50 (rcs2 rfl m a R0 ST_34 rfl) ⟨rfl,rfl⟩ ⟨_,rfl,((a.k14).facts (allC F0 (allT (allT allI))))⟩)
 ·refine wp_skip (B _ _ (sR fun _ J=>yY (lbs_ [.bool b.1,d.v] ST_34 (eh E) a R1) (Ym (iV b.2.2.2.2) (eh F) (yT (r_stbn (vals':=[.bool b.1,d.v]) (us:=[.bool b.1,d.v]) a ST_34 (eh m) e0 rfl rfl (one_of rfl) rfl) fun w a=>Ya (iV b.2.2.2.2) e0 (wK J (wp_ret ?_))))))
  cases g
  exact q _ _ _ (fin2r Tryd.results50 (rcs2 rfl m a R0 ST_34 rfl) ⟨rfl,rfl⟩ ⟨_,rfl,(a.k14)⟩)
theorem exact_sweep_ok {D l:List (Bool×LI)} {m:Bool} {E:LI} {p:Bool} {F:LI} {h:Bool} {G:LI} {d j n q i:Hdr} {out:(List (Bool×LI))} (y:exact_sweep D l m E p F h G=some out) (T:imm (rI .u32) n.v E∈ros) (U:imm (rI .u32) q.v F∈ros) (V:imm (rI .u32) i.v G∈ros) (b:St w0 ros (row 34 (rP rB (rS (rI .u32))) d.v D::row 34 (rP rB (rS (rI .u32))) j.v l::rs) w):
  Calls Tryd.prog 71 #[d.v,j.v,.agg #[.bool m,n.v],.agg #[.bool p,q.v],.agg #[.bool h,i.v]] w (fun e w=>e=.returned (.tuple #[])∧St w0 ros (row 34 (rP rB (rS (rI .u32))) d.v out::row 34 (rP rB (rS (rI .u32))) j.v l::rs) w):=by
 refine enterQ Tryd.func71 rfl Tryd.ntmps71 rfl fun Q W=>sR fun _ X=>yBb (r_box (vals:=[.bool m,n.v]) b e0 rfl) fun H w b=>yBb (r_box (vals:=[.bool p,q.v]) b e0 rfl) fun I w b=>yBb (r_box (vals:=[.bool h,i.v]) b e0 rfl) fun J w b=>wK X (sR fun _ Z=>Ym j.v e0 ?_)
 refine yY (yLen SL_31 e0 b rO4) (Ym (iV 0) rfl (wK Z (blockQ fun a0 a1=>bE y fun a3 a4 y=>?_)))
 have a5:∀ (z:List (Bool×LI)) (f:FV) w,St w0 ros (row 34 (rP rB (rS (rI .u32))) d.v z::row 34 (rP rB (rS (rI .u32))) j.v l::rs) w→z=a3→a0 (.exit 0) (fr 38 f) w:=by
  intro z f w b ho
  subst ho
  refine a1 _ _ _ ?_
  cases y
  exact W _ _ _ (fin0n Tryd.results71 ⟨rfl,b⟩)
 refine loopQ (fun s a w=>∃ (A:List (Bool×LI)) (g:Int) (f:FV),(A,g)=s∧a=fr 38 f∧f 0=d.v∧f 7=(pB H)∧f 8=(pB I)∧f 9=(pB J)∧f 12=j.v∧f 13=iV (l.length:Int)∧f 14=iV g∧St w0 ros (row 34 (rP rB (rS (rI .u32))) d.v A::row 34 (rP rB (rS (rI .u32))) j.v l::box H 34 [.bool m,n.v]::box I 34 [.bool p,q.v]::box J 34 [.bool h,i.v]::rs) w) a4 ⟨_,_,_,rfl,rfl,rfl,rfl,rfl,rfl,rfl,rfl,rfl,(b.k1h)⟩ ?_
 rintro _ _ w c2 ⟨A,g,f,rfl,rfl,k,B,K,r,L,N,x,b⟩ c a6 c3 a7 a8
 refine sR fun _ a9=>yY (ylss (eh x) (eh N)) (wK a9 (seqQ fun c4 b0 b1=>?_))
 refine cIf e0 c (fun b2 c=>?_) fun b2 c=>?_
 ·refine wp_skip (b0 _ _ (sQ fun _ b3=>blockQ fun _ b4=>sR fun _ b5=>Ym (iV g) (eh x) (bE c fun t O c=>yY (yIa SL_31 (eh L) (eh x) b rO1 O) ?_)))
  obtain ⟨c5,c6,cc67,b⟩:=b.ld rO1 O
  replace b:=b.eltP
  obtain ⟨c7,c8,rfl,b⟩:=b
  replace b:=b.eltB
  obtain ⟨rfl,b⟩:=b
  replace b:=b.eltS
  obtain ⟨u,rfl,b⟩:=b
  refine yY (yCn (cs:=[.bool t.1,u.v]) ST_34 rfl e0 cc67) (yBb (rAl b ZT_34) fun c9 w b=>Ya (iV g) e0 (yT (r_stbn (vals':=[.bool t.1,u.v]) (us:=[.bool t.1,u.v]) b ST_34 e0 e0 rfl rfl (one_of rfl) rfl) fun w b=>wK b5 (bE c fun b6 R c=>bE c fun d0 b7 c=>bE c fun d1 b8 c=>bE c fun d2 b9 c=>bE c fun o c0 c=>bE c fun d3 S c=>?_)))
  refine dR [0,0,0,0,0,24,56,124,0,0,1020,2044,0,8188,16380,32764,32764,65535,196607] [7,10,11,13,18] 5 folM ?_
  replace b:=b.drew
  refine Dn [0,1,2,3,4,5,6,8,9,12] [] [7] (yR rfl (m_ d.v (eh k)) (yR rfl (m_ (iV g) e0) (yR rfl (lbs_ [.bool p,q.v] ST_34 (eh K) b R4) (yR rfl (m_ d.v (eh k)) (yR rfl (m_ (iV g) e0) (yR rfl (yIa SL_31 e0 e0 b rO1 R) ?_))))))
  obtain ⟨d4,d5,cc82,b⟩:=b.ld rO1 R
  replace b:=b.eltP
  obtain ⟨d6,d7,rfl,b⟩:=b
  replace b:=b.eltB
  obtain ⟨rfl,b⟩:=b
  replace b:=b.eltS
  obtain ⟨c1,rfl,b⟩:=b
  refine yR rfl (yCn (cs:=[.bool b6.1,c1.v]) ST_34 rfl e0 cc82) (yR rfl (lbs_ [.bool m,n.v] ST_34 (eh B) b R3) (yR rfl (lbs_ [.bool t.1,u.v] ST_34 e0 b R0) (yR rfl (lbs_ [.bool h,i.v] ST_34 (eh r) b R5) (Rn QSn ?_))))
  refine Lc1 rfl ?_
  refine Lk wn (yCall FN_13 (a2 e0 e0)) (integer_Mul_ok b7 (F_2 U) F0 b) ?_
  rintro _ w ⟨d8,rfl,b⟩
  refine ⟨_,rfl,?_⟩
  refine Dn [] [0,1,8,9,12] [10] (Rn (yS rfl (m_ d.v (eh k)) (yS rfl (m_ (iV g) e0) (yS rfl (lbs_ [.bool m,n.v] ST_34 (eh B) b R3) (yS rfl (lbs_ [.bool t.1,u.v] ST_34 e0 b R0) (yS rfl (lbs_ [.bool h,i.v] ST_34 (eh r) b R5) QSn))))) ?_)
  refine Lc1 rfl ?_
  refine Lk wn (yCall FN_13 (a2 e0 e0)) (integer_Mul_ok b8 (F_3 T) F2 b) ?_
  rintro _ w ⟨d9,rfl,b⟩
  refine ⟨_,rfl,?_⟩
  refine Dn [] [0,1,12] [11] (Rn (yS rfl (m_ d.v (eh k)) (yS rfl (m_ (iV g) e0) (yS rfl (lbs_ [.bool h,i.v] ST_34 (eh r) b R5) QSn))) ?_)
  refine Lc1 rfl ?_
  refine Lk wn (yCall FN_84 (a2 e0 e0)) (integer_Sub_ok b9 F1 F0 b) ?_
  rintro _ w ⟨e1,rfl,b⟩
  refine ⟨_,rfl,?_⟩
  refine Dn [] [0,1,12] [13] (Rn (yS rfl (m_ d.v (eh k)) (yS rfl (m_ (iV g) e0) (yS rfl (lbs_ [.bool h,i.v] ST_34 (eh r) b R5) QSn))) ?_)
  refine Lc1 rfl ?_
  refine Lk wn (yCall FN_50 (a2 e0 e0)) (integer_Quo_ok c0 F0 (F_5 V) b) ?_
  rintro _ w ⟨C,rfl,b⟩
  refine ⟨_,rfl,?_⟩
  refine Dn [14,15,16,17] [0,1] [18] (yR rfl (m_ (.tuple #[.agg #[.bool o.1,C.v],iV o.2.2]) e0) (yR rfl (x_ (.agg #[.bool o.1,C.v]) e0) (yR rfl (x_ (iV o.2.2) e0) (yR rfl (yIs SL_31 e0 e0 b rO1 S) (Rn (yS rfl (m_ d.v (eh k)) (yS rfl (m_ (iV g) e0) QSn)) ?_)))))
  refine Lc1 rfl ?_
  replace b:=b.k10
  refine LT wn (r_stn (cs:=[.bool o.1,C.v]) b ST_34 e0 e0 rfl (mkP mkB (mkS F0)) S) fun w b=>Dz [] [16] (Rn (yS rfl (x_ (iV o.2.2) e0) QSn) (b4 _ _ _ (b3 _ _ (wR (yY (yadd (eh x) rfl) (Ym (iV (wa .i64 g 1)) e0 (wN ?_)))))))
  cases c
  exact a7 _ _ _ rfl ⟨_,_,_,rfl,rfl,k,B,K,r,L,N,rfl,((b.k1i).facts (allT (allT (allT (allT (allT (allT allI)))))))⟩
 ·refine wp_exit (b1 _ _ _ rfl ?_)
  cases c
  exact a8 _ _ _ _ rfl rfl (a5 _ _ _ (b.k1j) (a6 _ rfl))
theorem exact_reduced_step_ok {a9:List (List (Bool×LI))} {z:LI} {p:Bool} {S:LI} {G k o A:Int} {c:Nat} {g:Hdr} {b0:List Hdr} {m q:Hdr} {out:(List (List (Bool×LI)))×LI×Bool×LI×Int} (d:exact_reduced_step a9 z p S G k o A=some out) (c7:imm (rI .u32) q.v S∈ros) (b:St w0 ros (box c 62 [g.v,m.v,.bool p,q.v,iV G]::row 31 rH g.v b0::fam 34 (rP rB (rS (rI .u32))) b0 a9::row 3 I1 m.v z::rs) w):
  Calls Tryd.prog 55 #[(pB c),iV k,iV o,iV A] w (fun e w=>∃ (b2:List Hdr) (b3 b4:Hdr),e=.returned (.tuple #[])∧St w0 (imm (rI .u32) b4.v out.2.2.2.1::ros) (row 31 rH g.v b2::fam 34 (rP rB (rS (rI .u32))) b2 out.1::row 3 I1 b3.v out.2.1::box c 62 [g.v,b3.v,.bool out.2.2.1,b4.v,iV out.2.2.2.2]::rs) w):=by
 refine enterQ Tryd.func55 rfl Tryd.ntmps55 rfl fun Q c8=>sQ fun c9 d0=>sR fun _ d1=>Ym (iV A) e0 (Ym (iV o) e0 (yY (ygtr e0 e0) (wK d1 ?_)))
 have b5:∀ (D:List (List (Bool×LI))) (y:Int) (r:List Hdr) (f:FV) w,f 0=(pB c)→f 1=iV k→f 2=iV o→St w0 ros (row 31 rH g.v r::fam 34 (rP rB (rS (rI .u32))) r D::row 3 I1 m.v z::box c 62 [g.v,m.v,.bool p,q.v,iV y]::rs) w→exact_reduced_step_j1 o k p S z D y=some out→c9 .normal (fr 104 f) w:=by
  intro D y r f w T b6 b7 b d
  refine d0 _ _ (sR fun _ d2=>Ym (pB c) (eh T) (yY (yn e0) (yY (yFb FL_62_0 e0) (yY (lb_ g.v O_25 e0 b R3) (Ym (iV o) (eh b7) (bE d fun g9 U d=>?_))))))
  obtain ⟨h0,H⟩:=b.famI R1 U
  refine yY (yIa SLH_25 e0 e0 b rO0 H) (yY (yF1 O_31 e0 b rO0 H rfl) (Ym (iV k) (eh b6) (bE d fun i b8 d=>yY (yIa SL_31 e0 e0 b (rdF R1 H U) b8) ?_)))
  obtain ⟨h1,h2,cc29,b⟩:=b.ld (rdF R1 H U) b8
  replace b:=b.eltP
  obtain ⟨h4,h5,rfl,b⟩:=b
  replace b:=b.eltB
  obtain ⟨rfl,b⟩:=b
  replace b:=b.eltS
  obtain ⟨j,rfl,b⟩:=b
  refine yY (yCn (cs:=[.bool i.1,j.v]) ST_34 rfl e0 cc29) (yBb (rAl b ZT_34) fun B w b=>yT (r_stbn (vals':=[.bool i.1,j.v]) (us:=[.bool i.1,j.v]) b ST_34 e0 e0 rfl rfl (one_of rfl) rfl) fun w b=>wK d2 (sQ fun _ d3=>sR fun _ d4=>Ym (pB c) (eh T) (yY (yn e0) (yY (yFb FL_62_0 e0) (yY (lb_ g.v O_25 e0 b R4) ?_)))))
  refine yY (yLenF SLH_25 e0 b rO1 R2) (Ym (iV 0) rfl (wK d4 (blockQ fun d5 d6=>bE d fun d7 d8 d=>?_)))
  have d9:∀ (V:List (List (Bool×LI))) (f:FV) w,f 0=(pB c)→f 1=iV k→f 8=(pB B)→St w0 (imm (rI .u32) j.v i.2::ros) (row 31 rH g.v r::fam 34 (rP rB (rS (rI .u32))) r V::row 3 I1 m.v z::box c 62 [g.v,m.v,.bool p,q.v,iV y]::box B 34 [.bool i.1,j.v]::rs) w→V=d7→d5 (.exit 0) (fr 104 f) w:=by
   intro V f w t e1 I b ho
   subst ho
   refine d6 _ _ _ (d3 _ _ (bE d fun h7 e2 d=>dR [0,0,0,4,12,28,0,64,252,0,509,1533,3581,8191,16383,32767] [7,8,12,15] 4 folM ?_))
   replace b:=b.drew
   refine Dn [0,1,2,3,4,5,6,9] [] [7] (yR rfl (m_ (pB c) (eh t)) (yR rfl (m_ (pB c) (eh t)) (yR rfl (m_ (pB c) (eh t)) (yR rfl (yn e0) (yR rfl (yFb FL_62_1 e0) (yR rfl (lb_ m.v O_22 e0 b R3) (yR rfl (m_ (iV k) (eh e1)) (yR rfl (lbs_ [.bool i.1,j.v] ST_34 (eh I) b R4) (Rn QSn ?_)))))))))
   refine Lc1 rfl ?_
   refine LH wn (rLt (n:=1) (l:=[k]) b SL_22 [iV k] (bp1 e0) rfl rfl (mks1 (cs:=[iV k]) rfl mkI mks0)) fun h8 w b=>Dn [] [0,1,2,3,4,5,9] [8] (Rn (yS rfl (m_ (pB c) (eh t)) (yS rfl (m_ (pB c) (eh t)) (yS rfl (m_ (pB c) (eh t)) (yS rfl (yn e0) (yS rfl (yFb FL_62_1 e0) (yS rfl (lb_ m.v O_22 e0 b R4) (yS rfl (lbs_ [.bool i.1,j.v] ST_34 (eh I) b R5) QSn))))))) ?_)
   refine Lc1 rfl ?_
   replace b:=b.k17
   refine LH wn (rAp b SL_22 e0 e0 rO1 e2) fun b9 w b=>Dn [10,11] [0,1,9] [12] (yR rfl (yn e0) (yR rfl (yFb FL_62_1 e0) (Rn (yS rfl (m_ (pB c) (eh t)) (yS rfl (m_ (pB c) (eh t)) (yS rfl (lbs_ [.bool i.1,j.v] ST_34 (eh I) b R5) QSn))) ?_)))
   refine Lc1 rfl ?_
   replace b:=b.k1a
   refine LT wn (r_stb1 (vals':=[g.v,b9.v,.bool p,q.v,iV y]) b O_22 e0 e0 rfl rfl rfl rfl) fun w b=>Dn [13,14] [1,9] [15] (yR rfl (yn e0) (yR rfl (yFb FL_62_2 e0) (Rn (yS rfl (m_ (pB c) (eh t)) (yS rfl (lbs_ [.bool i.1,j.v] ST_34 (eh I) b R5) QSn)) ?_)))
   refine Lc1 rfl ?_
   refine LT wn (r_stbn (vals':=[g.v,b9.v,.bool i.1,j.v,iV y]) (us:=[.bool i.1,j.v]) b ST_34 e0 e0 rfl rfl (one_of rfl) rfl) fun w b=>Dz [] [] (Rn QSn ?_)
   cases d
   exact c8 _ _ _ (fin0n Tryd.results55 ⟨_,_,_,rfl,(b.k1k)⟩)
  refine loopQ (fun s a w=>∃ (W:List (List (Bool×LI))) (x:Int) (f:FV),(W,x)=s∧a=fr 104 f∧f 0=(pB c)∧f 1=iV k∧f 2=iV o∧f 8=(pB B)∧f 61=g.v∧f 62=iV (D.length:Int)∧f 63=iV x∧St w0 (imm (rI .u32) j.v i.2::ros) (row 31 rH g.v r::fam 34 (rP rB (rS (rI .u32))) r W::row 3 I1 m.v z::box c 62 [g.v,m.v,.bool p,q.v,iV y]::box B 34 [.bool i.1,j.v]::rs) w) d8 ⟨_,_,_,rfl,rfl,T,b6,b7,rfl,rfl,rfl,rfl,(b.k1l)⟩ ?_
  rintro _ _ w e3 ⟨W,x,f,rfl,rfl,E,J,K,L,X,Z,F,b⟩ h e4 i0 e5 e6
  refine sR fun _ e7=>yY (ylss (eh F) (eh Z)) (wK e7 (seqQ fun i1 e8 e9=>?_))
  refine cIf e0 h (fun f0 h=>?_) fun f0 h=>?_
  ·refine wp_skip (e8 _ _ (sQ fun _ f1=>blockQ fun f2 f3=>sR fun _ f4=>Ym (iV x) (eh F) (bE h fun i2 N h=>?_)))
   obtain ⟨a0,C⟩:=b.famI R1 N
   refine yY (yIa SLH_25 (eh X) (eh F) b rO0 C) (yY (yF1 O_31 e0 b rO0 C rfl) (Ya (iV x) e0 (Ya a0.v e0 (wK f4 (sR fun _ f5=>Ym (iV x) e0 (Ym (iV o) (eh K) (yY (yneq e0 e0) (wK f5 ?_))))))))
   have c0:∀ (a1:List (List (Bool×LI))) (f:FV) w,f 0=(pB c)→f 1=iV k→f 2=iV o→f 8=(pB B)→f 61=g.v→f 62=iV (D.length:Int)→f 63=iV x→St w0 (imm (rI .u32) j.v i.2::ros) (row 31 rH g.v r::fam 34 (rP rB (rS (rI .u32))) r a1::row 3 I1 m.v z::box c 62 [g.v,m.v,.bool p,q.v,iV y]::box B 34 [.bool i.1,j.v]::rs) w→exact_reduced_step_j5 x a1=some e3→f2 .normal (fr 104 f) w:=by
    intro a1 f w f6 f7 f8 f9 g0 g1 g2 b d
    refine f3 _ _ _ (f1 _ _ (wR (yY (yadd (eh g2) rfl) (Ym (iV (wa .i64 x 1)) e0 (wN ?_)))))
    cases d
    exact e5 _ _ _ rfl ⟨_,_,_,rfl,rfl,f6,f7,f8,f9,g0,g1,rfl,b⟩
   rcases iteS h with ⟨a2,h⟩ | ⟨a2,h⟩
   ·exact condF e0 (nF (dT a2)) (wp_skip (c0 _ _ _ E J K L X Z F b h))
   ·refine condT e0 (nT (dF a2)) (bE h fun i3 a3 h=>bE h fun g3 c1 h=>bE h fun u110 gu110 h=>bE h fun i4 g4 h=>bE h fun i5 g5 h=>dR [0,0,2,6,14,0,62,126,0,0,768,1792,0,0,8192,24576,57344,131071] [17] 1 folM ?_)
    replace b:=b.drew
    refine Dn [0,1,2,3,4,5,6,7,8,9,10,11,12,13,14,15,16] [] [17] (yR rfl (m_ a0.v e0) (yR rfl (m_ (pB c) (eh E)) (yR rfl (yn e0) (yR rfl (yFb FL_62_0 e0) (yR rfl (lb_ g.v O_25 e0 b R3) (yR rfl (m_ (iV o) (eh K)) ?_))))))
    obtain ⟨i6,O⟩:=b.famI R1 a3
    refine yR rfl (yIa SLH_25 e0 e0 b rO0 O) (yR rfl (yF1 O_31 e0 b rO0 O rfl) (yR rfl (m_ a0.v e0) (yR rfl (m_ (iV k) (eh J)) (yR rfl (yIa SL_31 e0 e0 b (rdF R1 C N) c1) ?_))))
    obtain ⟨i7,i8,cc113,b⟩:=b.ld (rdF R1 C N) c1
    replace b:=b.eltP
    obtain ⟨i9,j0,rfl,b⟩:=b
    replace b:=b.eltB
    obtain ⟨rfl,b⟩:=b
    replace b:=b.eltS
    obtain ⟨g6,rfl,b⟩:=b
    refine yR rfl (yCn (cs:=[.bool g3.1,g6.v]) ST_34 rfl e0 cc113) (yR rfl (lbs_ [.bool i.1,j.v] ST_34 (eh L) b R4) (yR rfl (m_ (pB c) (eh E)) (yR rfl (yn e0) (yR rfl (yFb FL_62_2 e0) (yR rfl (lbs_ [.bool p,q.v] ST_34 e0 b R3) (Rn QSn ?_))))))
    refine Lc1 rfl ?_
    replace b:=(b.k10).foc2 gu110 C N O a3
    refine Lk wn (yCall FN_71 (a5 e0 e0 e0 e0 e0)) (exact_sweep_ok g4 F0 F1 (F_2 c7) b) ?_
    rintro _ w ⟨rfl,b⟩
    refine ⟨_,rfl,?_⟩
    replace b:=b.unfoc2 gu110 C O a3 g5
    exact Dz [] [] (Rn QSn (c0 _ _ _ E J K L X Z F ((b.k1m).facts (allC F1 (allT (allT allI)))) h))
  ·refine wp_exit (e9 _ _ _ rfl ?_)
   cases h
   exact e6 _ _ _ _ rfl rfl (d9 _ _ _ E J L b (e4 _ rfl))
 refine cIf e0 d (fun g7 d=>?_) fun g7 d=>?_
 ·refine sQ fun _ g8=>bE d fun j2 c2 d=>bE d fun j3 c3 d=>bE d fun j4 a4 d=>bE d fun j6 c4 d=>dR [0,1,3,7,0,0,32,96,224,0,0,1024,3072,7168,0,31744,64512,0,131072,393216,917504,0,4063232,8257536,16776703,33553919,67108863,134217727] [25,27] 2 folM ?_
  replace b:=b.drew
  refine Dn [0,1,2,3,4,5,6,7,8,9,10,11,12,13,14,15,16,17,18,19,20,21,22,23,24] [] [25] (yR rfl (m_ (pB c) e0) (yR rfl (yn e0) (yR rfl (yFb FL_62_0 e0) (yR rfl (lb_ g.v O_25 e0 b R0) (yR rfl (m_ (iV o) e0) (yR rfl (m_ (pB c) e0) (yR rfl (yn e0) (yR rfl (yFb FL_62_0 e0) (yR rfl (lb_ g.v O_25 e0 b R0) (yR rfl (m_ (iV A) e0) (yR rfl (m_ (pB c) e0) (yR rfl (yn e0) (yR rfl (yFb FL_62_0 e0) ?_)))))))))))))
  refine yR rfl (lb_ g.v O_25 e0 b R0) (yR rfl (m_ (iV A) e0) ?_)
  obtain ⟨c5,a6⟩:=b.famI R2 c2
  refine yR rfl (yIa SLH_25 e0 e0 b rO1 a6) (yR rfl (yF1 O_31 e0 b rO1 a6 rfl) (yR rfl (m_ (pB c) e0) (yR rfl (yn e0) (yR rfl (yFb FL_62_0 e0) (yR rfl (lb_ g.v O_25 e0 b R0) (yR rfl (m_ (iV o) e0) ?_))))))
  obtain ⟨c6,a7⟩:=b.famI R2 c3
  refine yR rfl (yIa SLH_25 e0 e0 b rO1 a7) (yR rfl (yF1 O_31 e0 b rO1 a7 rfl) ?_)
  obtain ⟨j7,R⟩:=setI_len (u:=c5) a4 (b.famL (mtR (mtR mhR)))
  refine yR rfl (yIs SLH_25 e0 e0 b rO1 R) (Rn QSn ?_)
  refine Lc1 rfl ?_
  replace b:=b.k10
  refine LT wn (r_sti (cs:=[c5.v]) b O_31 rfl e0 e0 rfl (mkF rfl) R) fun w b=>Dn [26] [9] [27] ?_
  obtain ⟨j8,a8⟩:=setI_len (u:=c6) c4 (swap_len a4 R (b.famL (mtR (mtR mhR))))
  refine yR rfl (yIs SLH_25 e0 e0 b rO0 a8) (Rn (yS rfl (m_ (iV A) e0) QSn) ?_)
  refine Lc1 rfl ?_
  refine LT wn (r_sti (cs:=[c6.v]) b O_31 rfl e0 e0 rfl (mkF rfl) a8) fun w b=>?_
  replace b:=(b.k1f).fswap a6 c2 a7 c3 R a4 a8 c4
  refine Dz [] [] (Rn QSn (g8 _ _ (wR (Ym (pB c) e0 (Ym (pB c) e0 (yY (yn e0) (yY (yFb FL_62_3 e0) (yY (lb_ (iV G) O_3 e0 b R2) (yY (yneg e0) (yY (yn e0) (yY (yFb FL_62_3 e0) (yT (r_stb1 (vals':=[g.v,m.v,.bool p,q.v,iV (wneg .i64 G)]) (b.k1f) O_3 e0 e0 rfl rfl rfl rfl) fun w b=>?_))))))))))))
  exact wN (b5 _ _ _ _ _ rfl rfl rfl (b.k1n) d)
 ·exact wp_skip (b5 _ _ _ _ _ rfl rfl rfl (b.k1o) d)
end Go.Proofs.YtpfmbaidflhamaaDoor
