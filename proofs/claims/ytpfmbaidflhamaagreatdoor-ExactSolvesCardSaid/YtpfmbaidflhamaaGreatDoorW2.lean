/- Walks: each function computes its model, printed. -/
import Derived.Test.YtpfmbaidflhamaaGreatDoorW1
namespace Go.Proofs.YtpfmbaidflhamaaGreatDoor
open Go Sx M
set_option maxRecDepth 100000
set_option maxHeartbeats 40000000
set_option linter.unusedVariables false
attribute [local irreducible] wpList Code.wp Calls DR QR QS LA LS St
variable {w0:World} {ros:List Fact} {rs:List Res} {w:World}
theorem integer_minus_ok {p A:LI} {k l:Hdr} {out:LI} (g:integer_minus p A=some out) (q:imm (rI .u32) k.v p∈ros) (t:imm (rI .u32) l.v A∈ros) (b:St w0 ros rs w):
  Calls Tryz.prog 113 #[k.v,l.v] w (fun e w=>∃ (B:Hdr),e=.returned (B.v)∧St w0 (imm (rI .u32) B.v out::ros) rs w):=by
 refine enterQ Tryz.func113 rfl Tryz.ntmps113 rfl fun Q I=>sR fun _ J=>Ya hnil.v rfl (wK J (sR fun _ K=>Ym k.v e0 (yY (yLen SL_29 e0 b (rdI q)) (bE g fun c7 L g=>yH (rMk b SL_29 e0 L) fun h w b=>Ya h.v e0 ?_))))
 refine wK K (sR fun _ N=>Ya (.int .u64 0) rfl (wK N (sQ fun _ O=>sR fun _ R=>Ym k.v e0 (yY (yLen SL_29 e0 b (rdI q)) (Ym (iV 0) rfl (wN ?_))))))
 refine R _ _ (blockQ fun S T=>bE g fun U V g=>?_)
 have W:∀ (u:LI) (f:FV) w,f 5=h.v→St w0 ros (row 103 (rI .u32) h.v u::rs) w→u=U→S (.exit 0) (fr 47 f) w:=by
  intro u f w X b ho
  subst ho
  refine T _ _ _ (O _ _ (sR fun _ Z=>Ym h.v (eh X) (bE g fun c8 a0 g=>?_)))
  replace b:=b.fz
  refine yC (yCall FN_73 (a1 e0)) (integer_trim_ok a0 F0 b) ?_
  rintro _ w ⟨a2,rfl,b⟩
  refine ⟨_,rfl,?_⟩
  refine Ya a2.v e0 (wK Z (wp_ret ?_))
  cases g
  exact I _ _ _ (fin1r Tryz.results113 ⟨rfl,rfl⟩ ⟨_,rfl,(b.facts (allC F0 (allT (allT allI))))⟩)
 refine loopQ (fun s a w=>∃ (m:LI) (i d:Int) (f:FV),(m,i,d)=s∧a=fr 47 f∧f 1=l.v∧f 5=h.v∧f 6=.int .u64 i∧f 13=k.v∧f 14=iV (p.length:Int)∧f 15=iV d∧St w0 ros (row 103 (rI .u32) h.v m::rs) w) V ⟨_,_,_,_,rfl,rfl,rfl,rfl,rfl,rfl,rfl,rfl,b⟩ ?_
 rintro _ _ w a3 ⟨m,i,d,f,rfl,rfl,r,x,a4,y,z,n,b⟩ c a5 c9 a6 a7
 refine sR fun _ a8=>yY (ylss (eh n) (eh z)) (wK a8 (seqQ fun d0 a9 b0=>?_))
 refine cIf e0 c (fun b1 c=>?_) fun b1 c=>?_
 ·refine wp_skip (a9 _ _ (sQ fun _ b2=>blockQ fun _ b3=>sR fun _ b4=>Ym (iV d) (eh n) (bE c fun o C c=>yY (yIa SL_29 (eh y) (eh n) b (rdI q) C) (yY (yI O_103 e0 b (rdI q) C) (Ya (iV d) e0 (Ya (.int .u32 o) e0 (wK b4 ?_)))))))
  refine sR fun _ b5=>Ym (.int .u32 o) e0 (yY (ycv (k':=.u64) (by kernel_rfl) (by kernel_rfl) e0) (Ym (.int .u64 i) (eh a4) (yY (ysub e0 e0) (Ya (.int .u64 (ws .u64 (wc .u64 o) i)) e0 (wK b5 (sQ fun b6 b7=>sR fun _ b8=>Ym (iV d) e0 (Ym l.v (eh r) ?_)))))))
  refine yY (yLen SL_29 e0 b (rdI t)) (yY (ylss e0 e0) (wK b8 ?_))
  have D:∀ (j:Int) (f:FV) w,f 1=l.v→f 5=h.v→f 7=iV d→f 9=.int .u64 j→f 13=k.v→f 14=iV (p.length:Int)→f 15=iV d→St w0 ros (row 103 (rI .u32) h.v m::rs) w→integer_minus_j4 m d j=some a3→b6 .normal (fr 47 f) w:=by
   intro j f w b9 E c0 F c1 c2 c3 b g
   refine b7 _ _ (sR fun _ c4=>Ym h.v (eh E) (Ym (iV d) (eh c0) (Ym (.int .u64 j) (eh F) (yY (yand e0 rfl) (yY (ycv (k':=.u32) (by kernel_rfl) (by kernel_rfl) e0) (bE g fun d1 G g=>yY (yIs SL_29 e0 e0 b rO0 G) (yT (r_sti (cs:=[.int .u32 (wc .u32 (wand .u64 j 4294967295))]) b O_103 rfl e0 e0 rfl mkI G) fun w b=>wK c4 ?_)))))))
   refine wR (Ym (.int .u64 j) (eh F) (yY (yshrc e0 rfl) (yY (yand e0 rfl) (Ya (.int .u64 (wand .u64 (wsrc .u64 j 32) 1)) e0 (wN (b3 _ _ _ (b2 _ _ (wR (yY (yadd (eh c3) rfl) (Ym (iV (wa .i64 d 1)) e0 (wN ?_)))))))))))
   cases g
   exact a6 _ _ _ rfl ⟨_,_,_,_,rfl,rfl,b9,E,rfl,c1,c2,rfl,b⟩
  refine cIf e0 c (fun c5 c=>?_) fun c5 c=>?_
  ·exact wR (Ym (.int .u64 (ws .u64 (wc .u64 o) i)) e0 (Ym l.v (eh r) (Ym (iV d) e0 (bE c fun c6 H c=>yY (yIa SL_29 e0 e0 b (rdI t) H) (yY (yI O_103 e0 b (rdI t) H) (yY (ycv (k':=.u64) (by kernel_rfl) (by kernel_rfl) e0) (yY (ysub e0 e0) (Ya (.int .u64 (ws .u64 (ws .u64 (wc .u64 o) i) (wc .u64 c6))) e0 (wN (D _ _ _ r x rfl rfl y z n b c))))))))))
  ·exact wp_skip (D _ _ _ r x rfl rfl y z n b c)
 ·refine wp_exit (b0 _ _ _ rfl ?_)
  cases c
  exact a7 _ _ _ _ rfl rfl (W _ _ _ x b (a5 _ rfl))
theorem integer_Add_ok {c:Bool} {l:LI} {d:Bool} {m:LI} {i f:Hdr} {out:Bool×LI} (b:integer_Add c l d m=some out) (x:imm (rI .u32) i.v l∈ros) (y:imm (rI .u32) f.v m∈ros) (a:St w0 ros rs w):
  Calls Tryz.prog 75 #[.agg #[.bool c,i.v],.agg #[.bool d,f.v]] w (fun e w=>∃ (n:Hdr),e=.returned (.agg #[.bool out.1,n.v])∧St w0 (imm (rI .u32) n.v out.2::ros) rs w):=by
 refine enterQ Tryz.func75 rfl Tryz.ntmps75 rfl fun Q j=>sR fun _ z=>yBb (r_box (vals:=[.bool c,i.v]) a e0 rfl) fun W w a=>yBb (r_box (vals:=[.bool d,f.v]) a e0 rfl) fun X w a=>yBb (rAl a ZT_31) fun Z w a=>wK z (sQ fun _ A=>bE b fun a0 B b=>bE b fun a3 C b=>?_)
 refine dR [0,1,3,0,8,31,63,127] [2,5,6,7] 4 folM ?_
 replace a:=a.drew
 refine Dn [0,1,3,4] [] [2] (yR rfl (yFb FL_31_1 e0) (yR rfl (lb_ i.v O_29 e0 a R2) (yR rfl (yFb FL_31_1 e0) (yR rfl (lb_ f.v O_29 e0 a R1) (Rn QSn ?_)))))
 refine Lc1 rfl ?_
 refine Lk wn (yCall FN_73 (a1 e0)) (integer_trim_ok B x a) ?_
 rintro _ w ⟨g,rfl,a⟩
 refine ⟨_,rfl,?_⟩
 refine Dn [] [3,4] [5] (Rn (yS rfl (yFb FL_31_1 e0) (yS rfl (lb_ f.v O_29 e0 a R1) QSn)) ?_)
 refine Lc1 rfl ?_
 refine Lk wn (yCall FN_73 (a1 e0)) (integer_trim_ok C (mtF y) a) ?_
 rintro _ w ⟨h,rfl,a⟩
 refine ⟨_,rfl,?_⟩
 refine Dn [] [] [6] (Rn QSn ?_)
 refine Lc1 rfl ?_
 refine Ly wn (a_ g.v e0) (Dn [] [] [7] (Rn QSn ?_))
 refine Lc1 rfl ?_
 refine Ly wn (a_ h.v e0) (Dz [] [] (Rn QSn (A _ _ (seqQ fun a4 D o=>blockQ fun _ k=>sR fun _ E=>yY (yFb FL_31_0 e0) (yY (lb_ (.bool c) O_4 e0 a R2) (yY (yFb FL_31_0 e0) (yY (lb_ (.bool d) O_4 e0 a R1) (yY (yeqb (by kernel_rfl) e0 e0) (Ya (.bool (c == d)) e0 ?_)))))))))
 refine wK E (cB e0 b (fun F b=>?_) fun F b=>?_)
 ·refine sQ fun _ G=>bE b fun a5 H b=>bE b fun p I b=>dR [0,1,0,0,12,31,63] [4,5,6] 3 folM ?_
  replace a:=a.drew
  refine Dn [0,1,2,3] [] [4] (yR rfl (yFb FL_31_0 e0) (yR rfl (lb_ (.bool c) O_4 e0 a R2) (yR rfl (m_ g.v e0) (yR rfl (m_ h.v e0) (Rn QSn ?_)))))
  refine Lc1 rfl ?_
  refine Lk wn (yCall FN_112 (a2 e0 e0)) (integer_plus_ok H F1 F0 a) ?_
  rintro _ w ⟨a6,rfl,a⟩
  refine ⟨_,rfl,?_⟩
  refine Dn [] [0,1] [5] (Rn (yS rfl (yFb FL_31_0 e0) (yS rfl (lb_ (.bool c) O_4 e0 a R2) QSn)) ?_)
  refine Lc1 rfl ?_
  refine Lk wn (yCall FN_76 (a2 e0 e0)) (integer_big_ok I F0 a) ?_
  rintro _ w ⟨q,rfl,a⟩
  refine ⟨_,rfl,?_⟩
  refine Dn [] [] [6] (Rn QSn ?_)
  refine Lc1 rfl ?_
  refine LT wn (r_stbn (vals':=[.bool p.1,q.v]) (us:=[.bool p.1,q.v]) a ST_31 e0 e0 rfl rfl (one_of rfl) rfl) fun w a=>Dz [] [] (Rn QSn (G _ _ (wp_ret (k _ _ _ (o _ _ _ rfl ?_)))))
  cases b
  exact j _ _ _ (fin1r Tryz.results75 (rcs2 rfl rfl a R0 ST_31 rfl) ⟨_,rfl,((a.k1c).facts (allC F0 (allT (allT (allT (allT allI))))))⟩)
 ·refine sR fun _ J=>Ym g.v e0 (Ym h.v e0 (bE b fun K L b=>yC (yCall FN_99 (a2 e0 e0)) (integer_compare_ok L F1 F0 a) ?_))
  rintro _ w ⟨rfl,a⟩
  refine ⟨_,rfl,?_⟩
  refine yY (ygeq e0 rfl) (Ya (.bool (decide ((0:Int)≤K))) e0 (wK J ?_))
  refine cIf e0 b (fun N b=>?_) fun N b=>?_
  ·refine sQ fun _ O=>bE b fun a7 R b=>bE b fun r S b=>dR [0,1,0,0,12,31,63] [4,5,6] 3 folM ?_
   replace a:=a.drew
   refine Dn [0,1,2,3] [] [4] (yR rfl (yFb FL_31_0 e0) (yR rfl (lb_ (.bool c) O_4 e0 a R2) (yR rfl (m_ g.v e0) (yR rfl (m_ h.v e0) (Rn QSn ?_)))))
   refine Lc1 rfl ?_
   refine Lk wn (yCall FN_113 (a2 e0 e0)) (integer_minus_ok R F1 F0 a) ?_
   rintro _ w ⟨a8,rfl,a⟩
   refine ⟨_,rfl,?_⟩
   refine Dn [] [0,1] [5] (Rn (yS rfl (yFb FL_31_0 e0) (yS rfl (lb_ (.bool c) O_4 e0 a R2) QSn)) ?_)
   refine Lc1 rfl ?_
   refine Lk wn (yCall FN_76 (a2 e0 e0)) (integer_big_ok S F0 a) ?_
   rintro _ w ⟨s,rfl,a⟩
   refine ⟨_,rfl,?_⟩
   refine Dn [] [] [6] (Rn QSn ?_)
   refine Lc1 rfl ?_
   refine LT wn (r_stbn (vals':=[.bool r.1,s.v]) (us:=[.bool r.1,s.v]) a ST_31 e0 e0 rfl rfl (one_of rfl) rfl) fun w a=>Dz [] [] (Rn QSn (O _ _ (wp_ret (k _ _ _ (o _ _ _ rfl ?_)))))
   cases b
   exact j _ _ _ (fin1r Tryz.results75 (rcs2 rfl rfl a R0 ST_31 rfl) ⟨_,rfl,((a.k1c).facts (allC F0 (allT (allT (allT (allT allI))))))⟩)
  ·refine wp_skip (k _ _ _ (D _ _ (sQ fun _ T=>bE b fun a9 U b=>bE b fun t V b=>dR [0,1,0,0,12,31,63] [4,5,6] 3 folM ?_)))
   replace a:=a.drew
   refine Dn [0,1,2,3] [] [4] (yR rfl (yFb FL_31_0 e0) (yR rfl (lb_ (.bool d) O_4 e0 a R1) (yR rfl (m_ h.v e0) (yR rfl (m_ g.v e0) (Rn QSn ?_)))))
   refine Lc1 rfl ?_
   refine Lk wn (yCall FN_113 (a2 e0 e0)) (integer_minus_ok U F0 F1 a) ?_
   rintro _ w ⟨b0,rfl,a⟩
   refine ⟨_,rfl,?_⟩
   refine Dn [] [0,1] [5] (Rn (yS rfl (yFb FL_31_0 e0) (yS rfl (lb_ (.bool d) O_4 e0 a R1) QSn)) ?_)
   refine Lc1 rfl ?_
   refine Lk wn (yCall FN_76 (a2 e0 e0)) (integer_big_ok V F0 a) ?_
   rintro _ w ⟨u,rfl,a⟩
   refine ⟨_,rfl,?_⟩
   refine Dn [] [] [6] (Rn QSn ?_)
   refine Lc1 rfl ?_
   refine LT wn (r_stbn (vals':=[.bool t.1,u.v]) (us:=[.bool t.1,u.v]) a ST_31 e0 e0 rfl rfl (one_of rfl) rfl) fun w a=>Dz [] [] (Rn QSn (T _ _ (wp_ret ?_)))
   cases b
   exact j _ _ _ (fin1r Tryz.results75 (rcs2 rfl rfl a R0 ST_31 rfl) ⟨_,rfl,((a.k1c).facts (allC F0 (allT (allT (allT (allT allI))))))⟩)
theorem integer_Sub_ok {d:Bool} {h:LI} {b:Bool} {i:LI} {f c:Hdr} {out:Bool×LI} (g:integer_Sub d h b i=some out) (m:imm (rI .u32) f.v h∈ros) (n:imm (rI .u32) c.v i∈ros) (a:St w0 ros rs w):
  Calls Tryz.prog 31 #[.agg #[.bool d,f.v],.agg #[.bool b,c.v]] w (fun e w=>∃ (j:Hdr),e=.returned (.agg #[.bool out.1,j.v])∧St w0 (imm (rI .u32) j.v out.2::ros) rs w):=by
 refine enterQ Tryz.func31 rfl Tryz.ntmps31 rfl fun Q o=>sR fun _ p=>yBb (r_box (vals:=[.bool d,f.v]) a e0 rfl) fun t w a=>yBb (r_box (vals:=[.bool b,c.v]) a e0 rfl) fun u w a=>yBb (rAl a ZT_31) fun x w a=>wK p (sR fun _ q=>yY (yFb FL_31_0 e0) ?_)
 refine yY (lb_ (.bool b) O_4 e0 a R1) (yY (ynot e0) (yY (yFb FL_31_0 e0) (yT (r_stb1 (vals':=[.bool (!b),c.v]) (a.k11) O_4 e0 e0 rfl rfl rfl rfl) fun w a=>wK q (sR fun _ r=>yY (lbs_ [.bool d,f.v] ST_31 e0 a R2) (yY (lbs_ [.bool (!b),c.v] ST_31 e0 a R0) (bE g fun k s g=>yC (yCall FN_75 (a2 e0 e0)) (integer_Add_ok s m n a) ?_))))))
 rintro _ w ⟨l,rfl,a⟩
 refine ⟨_,rfl,?_⟩
 refine yT (r_stbn (vals':=[.bool k.1,l.v]) (us:=[.bool k.1,l.v]) (a.k11) ST_31 e0 e0 rfl rfl (one_of rfl) rfl) fun w a=>wK r (wp_ret ?_)
 cases g
 exact o _ _ _ (fin1r Tryz.results31 (rcs2 rfl rfl a R0 ST_31 rfl) ⟨_,rfl,(a.k1c)⟩)
theorem integer_short_ok {o:LI} {k:Int} {j:Hdr} {out:LI×Int} (g:integer_short o k=some out) (m:imm (rI .u32) j.v o∈ros) (b:St w0 ros rs w):
  Calls Tryz.prog 94 #[j.v,.int .u32 k] w (fun e w=>∃ (x:Hdr),e=.returned (.tuple #[x.v,.int .u32 out.2])∧St w0 (imm (rI .u32) x.v out.1::ros) rs w):=by
 refine enterQ Tryz.func94 rfl Tryz.ntmps94 rfl fun Q C=>sR fun _ D=>Ya hnil.v rfl (Ya (.int .u32 0) rfl (wK D (sR fun _ E=>Ym j.v e0 (yY (yLen SL_29 e0 b (rdI m)) (bE g fun b3 F g=>yH (rMk b SL_29 e0 F) fun h w b=>?_)))))
 refine Ya h.v e0 (wK E (sR fun _ G=>Ya (.int .u64 0) rfl (wK G (sQ fun _ H=>sR fun _ I=>Ym j.v e0 (yY (yLen SL_29 e0 b (rdI m)) (yY (ysub e0 rfl) ?_))))))
 refine Ya (iV (ws .i64 (o.length:Int) 1)) e0 (wK I (blockQ fun J K=>bE g fun L N g=>?_))
 have O:∀ (p:LI) (l:Int) (f:FV) w,f 6=h.v→f 7=.int .u64 l→St w0 ros (row 103 (rI .u32) h.v p::rs) w→(p,l)=L→J (.exit 0) (fr 44 f) w:=by
  intro p l f w R S b ho
  subst ho
  refine K _ _ _ (H _ _ (sR fun _ T=>Ym h.v (eh R) (bE g fun b4 U g=>?_)))
  replace b:=b.fz
  refine yC (yCall FN_73 (a1 e0)) (integer_trim_ok U F0 b) ?_
  rintro _ w ⟨V,rfl,b⟩
  refine ⟨_,rfl,?_⟩
  refine Ym (.int .u64 l) (eh S) (yY (ycv (k':=.u32) (by kernel_rfl) (by kernel_rfl) e0) (Ya V.v e0 (Ya (.int .u32 (wc .u32 l)) e0 (wK T (wp_ret ?_)))))
  cases g
  exact C _ _ _ (fin2r Tryz.results94 ⟨rfl,rfl⟩ ⟨rfl,rfl⟩ ⟨_,rfl,(b.facts (allC F0 (allT (allT allI))))⟩)
 refine loopQ (fun s a w=>∃ (q:LI) (i d:Int) (f:FV),(q,i,d)=s∧a=fr 44 f∧f 0=j.v∧f 1=.int .u32 k∧f 6=h.v∧f 7=.int .u64 i∧f 8=iV d∧St w0 ros (row 103 (rI .u32) h.v q::rs) w) N ⟨_,_,_,_,rfl,rfl,rfl,rfl,rfl,rfl,rfl,b⟩ ?_
 rintro _ _ w b5 ⟨q,i,d,f,rfl,rfl,y,r,t,z,n,b⟩ c W b6 X Z
 refine seqQ fun b7 a0 a2=>sR fun _ a3=>Ym (iV d) (eh n) (yY (ygeq e0 rfl) (wK a3 ?_))
 refine cIf e0 c (fun a4 c=>?_) fun a4 c=>?_
 ·refine wp_skip (a0 _ _ (sQ fun _ a5=>blockQ fun _ a6=>sR fun _ a7=>Ym (.int .u64 i) (eh z) (yY (yshlc e0 rfl) (Ym j.v (eh y) (Ym (iV d) (eh n) (bE c fun u A c=>yY (yIa SL_29 e0 e0 b (rdI m) A) (yY (yI O_103 e0 b (rdI m) A) (yY (ycv (k':=.u64) (by kernel_rfl) (by kernel_rfl) e0) ?_))))))))
  refine yY (yor e0 e0) (Ya (.int .u64 (wor .u64 (wslc .u64 i 32) (wc .u64 u))) e0 (wK a7 (sR fun _ a8=>Ym h.v (eh t) (Ym (iV d) (eh n) (Ym (.int .u64 (wor .u64 (wslc .u64 i 32) (wc .u64 u))) e0 (Ym (.int .u32 k) (eh r) (yY (ycv (k':=.u64) (by kernel_rfl) (by kernel_rfl) e0) (bE c fun a9 b0 c=>yY (yquo e0 e0 b0) (yY (ycv (k':=.u32) (by kernel_rfl) (by kernel_rfl) e0) ?_)))))))))
  refine bE c fun b8 B c=>yY (yIs SL_29 e0 e0 b rO0 B) (yT (r_sti (cs:=[.int .u32 (wc .u32 a9)]) b O_103 rfl e0 e0 rfl mkI B) fun w b=>wK a8 (wR (Ym (.int .u64 (wor .u64 (wslc .u64 i 32) (wc .u64 u))) e0 (Ym (.int .u32 k) (eh r) (yY (ycv (k':=.u64) (by kernel_rfl) (by kernel_rfl) e0) (bE c fun b1 b2 c=>yY (yrem e0 e0 b2) (Ya (.int .u64 b1) e0 (wN ?_))))))))
  refine a6 _ _ _ (a5 _ _ (wR (Ym (iV d) (eh n) (yY (ysub e0 rfl) (Ya (iV (ws .i64 d 1)) e0 (wN ?_))))))
  cases c
  exact X _ _ _ rfl ⟨_,_,_,_,rfl,rfl,y,r,t,rfl,rfl,b⟩
 ·refine wp_exit (a2 _ _ _ rfl ?_)
  cases c
  exact Z _ _ _ _ rfl rfl (O _ _ _ _ t z b (W _ rfl))
theorem math_bits_Len32_ok {d out:Int} (a:math_bits_Len32 d=some out) (b:St w0 ros rs w):
  Calls Tryz.prog 147 #[.int .u32 d] w (fun e w=>e=.returned (iV out)∧St w0 ros rs w):=by
 refine enterQ Tryz.func147 rfl Tryz.ntmps147 rfl fun Q n=>sR fun _ o=>Ya (iV 0) rfl (wK o (sQ fun p q=>sR fun _ r=>Ym (.int .u32 d) e0 (yY (ygeq e0 rfl) (wK r ?_))))
 have k:∀ (c g:Int) (f:FV) w,f 0=.int .u32 c→f 2=iV g→St w0 ros rs w→math_bits_Len32_j1 c g=some out→p .normal (fr 19 f) w:=by
  intro c g f w j l b a
  refine q _ _ (sQ fun s t=>sR fun _ u=>Ym (.int .u32 c) (eh j) (yY (ygeq e0 rfl) (wK u ?_)))
  have m:∀ (i h:Int) (f:FV) w,f 0=.int .u32 i→f 2=iV h→St w0 ros rs w→math_bits_Len32_j2 i h=some out→s .normal (fr 19 f) w:=by
   intro i h f w v x b a
   refine t _ _ (sR fun _ y=>Ym (iV h) (eh x) (Ym (.int .u32 i) (eh v) (yY (ycv (k':=.u8) (by kernel_rfl) (by kernel_rfl) e0) (bE a fun z A a=>yY (yixs (by kernel_rfl) rfl e0 (by kernel_rfl) A) (yY (ycv (k':=.i64) (by kernel_rfl) (by kernel_rfl) e0) (yY (yadd e0 e0) (Ya (iV (wa .i64 h (wc .i64 z))) e0 (wK y (wp_ret ?_)))))))))
   cases a
   exact n _ _ _ (fin1r Tryz.results147 ⟨rfl,rfl⟩ ⟨rfl,b⟩)
  refine cIf e0 a (fun B a=>?_) fun B a=>?_
  ·exact sR fun _ C=>Ym (.int .u32 c) (eh j) (yY (yshrc e0 rfl) (Ya (.int .u32 (wsrc .u32 c 8)) e0 (wK C (wR (Ym (iV g) (eh l) (yY (yadd e0 rfl) (Ya (iV (wa .i64 g 8)) e0 (wN (m _ _ _ _ rfl rfl b a)))))))))
  ·exact wp_skip (m _ _ _ _ j l b a)
 refine cIf e0 a (fun D a=>?_) fun D a=>?_
 ·exact sR fun _ E=>Ym (.int .u32 d) e0 (yY (yshrc e0 rfl) (Ya (.int .u32 (wsrc .u32 d 16)) e0 (wK E (wR (Ya (iV 16) rfl (wN (k _ _ _ _ rfl rfl b a)))))))
 ·exact wp_skip (k _ _ _ _ rfl rfl b a)
theorem math_bits_LeadingZeros32_ok {a out:Int} (b:math_bits_LeadingZeros32 a=some out) (c:St w0 ros rs w):
  Calls Tryz.prog 126 #[.int .u32 a] w (fun e w=>e=.returned (iV out)∧St w0 ros rs w):=by
 refine enterQ Tryz.func126 rfl Tryz.ntmps126 rfl fun Q d=>sR fun _ f=>Ya (iV 0) rfl (wK f (sR fun _ g=>Ym (.int .u32 a) e0 (bE b fun h i b=>yC (yCall FN_147 (a1 e0)) (math_bits_Len32_ok i c) ?_)))
 rintro _ w ⟨rfl,c⟩
 refine ⟨_,rfl,?_⟩
 refine yY (ysub rfl e0) (Ya (iV (ws .i64 32 h)) e0 (wK g (wp_ret ?_)))
 cases b
 exact d _ _ _ (fin1r Tryz.results126 ⟨rfl,rfl⟩ ⟨rfl,c⟩)
theorem integer_up_ok {o:LI} {d:Int} {j:Hdr} {out:LI} (g:integer_up o d=some out) (k:imm (rI .u32) j.v o∈ros) (b:St w0 ros rs w):
  Calls Tryz.prog 127 #[j.v,iV d] w (fun e w=>∃ (t:Hdr),e=.returned (t.v)∧St w0 (imm (rI .u32) t.v out::ros) rs w):=by
 refine enterQ Tryz.func127 rfl Tryz.ntmps127 rfl fun Q u=>sR fun _ F=>Ya hnil.v rfl (wK F (seqQ fun b8 G H=>sR fun _ I=>Ym j.v e0 (yY (yLen SL_29 e0 b (rdI k)) (yY (yeql e0 rfl) (wK I ?_)))))
 refine cIf e0 g (fun J g=>?_) fun J g=>?_
 ·refine sR fun _ K=>Ya hnil.v rfl (wK K (wp_ret (H _ _ _ rfl ?_)))
  cases g
  replace b:=b.immNh (rI .u32)
  exact u _ _ _ (fin1r Tryz.results127 ⟨rfl,rfl⟩ ⟨_,rfl,b⟩)
 ·refine wp_skip (G _ _ (sR fun _ L=>Ym (iV d) e0 (yY (yquoc e0 rfl (by decide)) (Ym (iV d) e0 (yY (yremc e0 rfl (by decide)) (yY (ycv (k':=.u64) (by kernel_rfl) (by kernel_rfl) e0) (Ya (iV (wqc .i64 d 32)) e0 (Ya (.int .u64 (wc .u64 (wrc d 32))) e0 (wK L (sQ fun _ N=>?_))))))))))
  refine wR (Ym (iV (wqc .i64 d 32)) e0 (Ym j.v e0 (yY (yLen SL_29 e0 b (rdI k)) (yY (yadd e0 e0) (yY (yadd e0 rfl) (bE g fun b9 O g=>yH (rMk b SL_29 e0 O) fun h w b=>Ya h.v e0 (wK N (sQ fun _ R=>sQ fun _ S=>?_))))))))
  refine wR (Ym j.v e0 (yY (yLen SL_29 e0 b (rdI k)) (Ym (iV 0) rfl (wK S (blockQ fun T U=>bE g fun V W g=>?_)))))
  have X:∀ (p:LI) (f:FV) w,f 7=h.v→St w0 ros (row 103 (rI .u32) h.v p::rs) w→p=V→T (.exit 0) (fr 59 f) w:=by
   intro p f w Z b ho
   subst ho
   refine U _ _ _ (R _ _ (sR fun _ a0=>Ym h.v (eh Z) (bE g fun c0 a2 g=>?_)))
   replace b:=b.fz
   refine yC (yCall FN_73 (a1 e0)) (integer_trim_ok a2 F0 b) ?_
   rintro _ w ⟨a3,rfl,b⟩
   refine ⟨_,rfl,?_⟩
   refine Ya a3.v e0 (wK a0 (wp_ret ?_))
   cases g
   exact u _ _ _ (fin1r Tryz.results127 ⟨rfl,rfl⟩ ⟨_,rfl,(b.facts (allC F0 (allT (allT allI))))⟩)
  refine loopQ (fun s a w=>∃ (q:LI) (i:Int) (f:FV),(q,i)=s∧a=fr 59 f∧f 5=iV (wqc .i64 d 32)∧f 6=.int .u64 (wc .u64 (wrc d 32))∧f 7=h.v∧f 25=j.v∧f 26=iV (o.length:Int)∧f 27=iV i∧St w0 ros (row 103 (rI .u32) h.v q::rs) w) W ⟨_,_,_,rfl,rfl,rfl,rfl,rfl,rfl,rfl,rfl,b⟩ ?_
  rintro _ _ w c1 ⟨q,i,f,rfl,rfl,r,x,m,y,z,n,b⟩ c a4 c2 a5 a6
  refine sR fun _ a7=>yY (ylss (eh n) (eh z)) (wK a7 (seqQ fun c3 a8 a9=>?_))
  refine cIf e0 c (fun b0 c=>?_) fun b0 c=>?_
  ·refine wp_skip (a8 _ _ (sQ fun _ b1=>blockQ fun _ b2=>sR fun _ b3=>Ym (iV i) (eh n) (bE c fun A B c=>yY (yIa SL_29 (eh y) (eh n) b (rdI k) B) (yY (yI O_103 e0 b (rdI k) B) (Ya (iV i) e0 (Ya (.int .u32 A) e0 (wK b3 ?_)))))))
   refine sR fun _ b4=>Ym (.int .u32 A) e0 (yY (ycv (k':=.u64) (by kernel_rfl) (by kernel_rfl) e0) (Ym (.int .u64 (wc .u64 (wrc d 32))) (eh x) (bE c fun l b5 c=>yY (yshl e0 e0 b5) (Ya (.int .u64 l) e0 (wK b4 (sR fun _ b6=>Ym h.v (eh m) (Ym (iV (wqc .i64 d 32)) (eh r) ?_)))))))
   refine Ym (iV i) e0 (yY (yadd e0 e0) (bE c fun b7 C c=>yY (yIa SL_29 e0 e0 b rO0 C) (yY (yI O_103 e0 b rO0 C) (Ym (.int .u64 l) e0 (yY (yand e0 rfl) (yY (ycv (k':=.u32) (by kernel_rfl) (by kernel_rfl) e0) (yY (yor e0 e0) (bE c fun c5 D c=>yY (yIs SL_29 e0 e0 b rO0 D) (yT (r_sti (cs:=[.int .u32 (wor .u32 b7 (wc .u32 (wand .u64 l 4294967295)))]) b O_103 rfl e0 e0 rfl mkI D) fun w b=>wN ?_)))))))))
   refine b6 _ _ (wR (Ym h.v (eh m) (Ym (iV (wqc .i64 d 32)) (eh r) (Ym (iV i) e0 (yY (yadd e0 e0) (yY (yadd e0 rfl) (Ym (.int .u64 l) e0 (yY (yshrc e0 rfl) (yY (ycv (k':=.u32) (by kernel_rfl) (by kernel_rfl) e0) (bE c fun c6 E c=>yY (yIs SL_29 e0 e0 b rO0 E) (yT (r_sti (cs:=[.int .u32 (wc .u32 (wsrc .u64 l 32))]) b O_103 rfl e0 e0 rfl mkI E) fun w b=>?_)))))))))))
   refine wN (b2 _ _ _ (b1 _ _ (wR (yY (yadd (eh n) rfl) (Ym (iV (wa .i64 i 1)) e0 (wN ?_))))))
   cases c
   exact a5 _ _ _ rfl ⟨_,_,_,rfl,rfl,r,x,m,y,z,rfl,b⟩
  ·refine wp_exit (a9 _ _ _ rfl ?_)
   cases c
   exact a6 _ _ _ _ rfl rfl (X _ _ _ m b (a4 _ rfl))
theorem integer_digit_ok {G:LI} {j k:Int} {h:LI} {g l:Hdr} {out:LI×Int} (d:integer_digit G j k h=some out) (m:imm (rI .u32) l.v h∈ros) (b:St w0 ros (row 103 (rI .u32) g.v G::rs) w):
  Calls Tryz.prog 128 #[(subH g 1 j k).v,l.v] w (fun e w=>e=.returned (.int .u32 out.2)∧St w0 ros (row 103 (rI .u32) g.v out.1::rs) w):=by
 refine enterQ Tryz.func128 rfl Tryz.ntmps128 rfl fun Q b2=>sR fun _ f1=>Ya (.int .u32 0) rfl (wK f1 (sR fun _ f2=>Ym l.v e0 (yY (yLen SL_29 e0 b (rdI m)) (Ya (iV (h.length:Int)) e0 (wK f2 (sQ fun _ f3=>?_))))))
 refine bE d fun L b3 d=>bE d fun N b4 d=>dR [0,0,3,7,15,31,0,0,128,448,960,1984,4095,8191] [13] 1 folM ?_
 replace b:=b.drew
 refine Dn [0,1,2,3,4,5,6,7,8,9,10,11,12] [] [13] (yR rfl (m_ ((subH g 1 j k).v) e0) (yR rfl (m_ (iV (h.length:Int)) e0) (yR rfl (yIaW SL_29 e0 e0 b rO0 b3) (yR rfl (yI O_103 e0 b rO0 (getW_g b3)) (yR rfl (ycv (k':=.u64) (by kernel_rfl) (by kernel_rfl) e0) (yR rfl (yshlc e0 rfl) (yR rfl (m_ ((subH g 1 j k).v) e0) (yR rfl (m_ (iV (h.length:Int)) e0) (yR rfl (ysub e0 rfl) (yR rfl (yIaW SL_29 e0 e0 b rO0 b4) (yR rfl (yI O_103 e0 b rO0 (getW_g b4)) (yR rfl (ycv (k':=.u64) (by kernel_rfl) (by kernel_rfl) e0) (yR rfl (yor e0 e0) ?_)))))))))))))
 refine Rn QSn ?_
 refine Lc1 rfl ?_
 refine Ly wn (a_ (.int .u64 (wor .u64 (wslc .u64 (wc .u64 L) 32) (wc .u64 N))) e0) (Dz [] [] (Rn QSn (f3 _ _ (sQ fun _ f4=>bE d fun o5 b5 d=>bE d fun f5 f6 d=>bE d fun o6 O d=>bE d fun f7 b6 d=>dR [0,0,0,4,14,30,62,127,0,0,0,1024,3584,7680,15872,32512,255,131071] [16,17] 2 folM ?_))))
 replace b:=b.drew
 refine Dn [0,1,2,3,4,5,6,7,8,9,10,11,12,13,14,15] [] [16] (yR rfl (m_ (.int .u64 (wor .u64 (wslc .u64 (wc .u64 L) 32) (wc .u64 N))) e0) (yR rfl (m_ l.v e0) (yR rfl (m_ (iV (h.length:Int)) e0) (yR rfl (ysub e0 rfl) (yR rfl (yIa SL_29 e0 e0 b (rdI m) b5) (yR rfl (yI O_103 e0 b (rdI m) b5) (yR rfl (ycv (k':=.u64) (by kernel_rfl) (by kernel_rfl) e0) (yR rfl (yquo e0 e0 f6) (yR rfl (m_ (.int .u64 (wor .u64 (wslc .u64 (wc .u64 L) 32) (wc .u64 N))) e0) (yR rfl (m_ l.v e0) (yR rfl (m_ (iV (h.length:Int)) e0) (yR rfl (ysub e0 rfl) (yR rfl (yIa SL_29 e0 e0 b (rdI m) O) ?_)))))))))))))
 refine yR rfl (yI O_103 e0 b (rdI m) O) (yR rfl (ycv (k':=.u64) (by kernel_rfl) (by kernel_rfl) e0) (yR rfl (yrem e0 e0 b6) (Rn QSn ?_)))
 refine Lc1 rfl ?_
 refine Ly wn (a_ (.int .u64 f5) e0) (Dn [] [8,9,10,11,12,13,14,15] [17] (Rn (yS rfl (m_ (.int .u64 (wor .u64 (wslc .u64 (wc .u64 L) 32) (wc .u64 N))) e0) (yS rfl (m_ l.v e0) (yS rfl (m_ (iV (h.length:Int)) e0) (yS rfl (ysub e0 rfl) (yS rfl (yIa SL_29 e0 e0 b (rdI m) O) (yS rfl (yI O_103 e0 b (rdI m) O) (yS rfl (ycv (k':=.u64) (by kernel_rfl) (by kernel_rfl) e0) (yS rfl (yrem e0 e0 b6) QSn)))))))) ?_))
 refine Lc1 rfl ?_
 refine Ly wn (a_ (.int .u64 f7) e0) (Dz [] [] (Rn QSn (f4 _ _ (sQ fun _ f8=>blockQ fun f9 g0=>bE d fun g1 g2 d=>?_))))
 have b7:∀ (i:Int) (f:FV) w,f 0=(subH g 1 j k).v→f 1=l.v→f 5=iV (h.length:Int)→f 7=.int .u64 i→St w0 ros (row 103 (rI .u32) g.v G::rs) w→i=g1→f9 (.exit 0) (fr 177 f) w:=by
  intro i f w g3 b8 g4 g5 b ho
  subst ho
  refine g0 _ _ _ (f8 _ _ (sR fun _ g6=>Ya (.int .u64 0) rfl (Ya (.int .u64 0) rfl (wK g6 (sQ fun _ g7=>sR fun _ g8=>Ym l.v (eh b8) (yY (yLen SL_29 e0 b (rdI m)) (Ym (iV 0) rfl ?_)))))))
  refine wK g8 (blockQ fun g9 h0=>bE d fun h1 h2 d=>?_)
  have h3:∀ (a0:LI) (A B:Int) (f:FV) w,f 0=(subH g 1 j k).v→f 1=l.v→f 5=iV (h.length:Int)→f 7=.int .u64 i→f 9=.int .u64 A→f 10=.int .u64 B→St w0 ros (row 103 (rI .u32) g.v a0::rs) w→(a0,A,B)=h1→g9 (.exit 2) (fr 177 f) w:=by
   intro a0 A B f w a1 h5 a2 b9 h7 h8 b ho
   subst ho
   refine h0 _ _ _ (g7 _ _ (sR fun _ h9=>Ym ((subH g 1 j k).v) (eh a1) (Ym (iV (h.length:Int)) (eh a2) (bE d fun R c0 d=>yY (yIaW SL_29 e0 e0 b rO0 c0) (yY (yI O_103 e0 b rO0 (getW_g c0)) (yY (ycv (k':=.u64) (by kernel_rfl) (by kernel_rfl) e0) (Ym (.int .u64 A) (eh h7) (yY (ysub e0 e0) (Ym (.int .u64 B) (eh h8) (yY (ysub e0 e0) ?_))))))))))
   refine Ya (.int .u64 (ws .u64 (ws .u64 (wc .u64 R) A) B)) e0 (wK h9 (sR fun _ i0=>Ym ((subH g 1 j k).v) (eh a1) (Ym (iV (h.length:Int)) (eh a2) (Ym (.int .u64 (ws .u64 (ws .u64 (wc .u64 R) A) B)) e0 (yY (yand e0 rfl) (yY (ycv (k':=.u32) (by kernel_rfl) (by kernel_rfl) e0) (bE d fun o7 c1 d=>yY (yIsW SL_29 e0 e0 b rO0 c1) (yT (r_sti (cs:=[.int .u32 (wc .u32 (wand .u64 (ws .u64 (ws .u64 (wc .u64 R) A) B) 4294967295))]) b O_103 rfl e0 e0 rfl mkI (setW_g c1)) fun w b=>?_))))))))
   refine wK i0 (seqQ fun o8 i1 i2=>sR fun _ i3=>Ym (.int .u64 (ws .u64 (ws .u64 (wc .u64 R) A) B)) e0 (yY (yshrc e0 rfl) (yY (yand e0 rfl) (yY (yeql e0 rfl) (wK i3 ?_)))))
   refine cIf e0 d (fun i4 d=>?_) fun i4 d=>?_
   ·refine sR fun _ i5=>Ym (.int .u64 i) (eh b9) (yY (ycv (k':=.u32) (by kernel_rfl) (by kernel_rfl) e0) (Ya (.int .u32 (wc .u32 i)) e0 (wK i5 (wp_ret (i2 _ _ _ rfl ?_)))))
    cases d
    exact b2 _ _ _ (fin1r Tryz.results128 ⟨rfl,rfl⟩ ⟨rfl,b⟩)
   ·refine wp_skip (i1 _ _ (sR fun _ i6=>Ya (.int .u64 0) rfl (wK i6 (sQ fun _ i7=>sR fun _ i8=>Ym l.v (eh h5) (yY (yLen SL_29 e0 b (rdI m)) (Ym (iV 0) rfl (wN ?_)))))))
    refine i8 _ _ (blockQ fun i9 j0=>bE d fun j1 j2 d=>?_)
    have j3:∀ (a3:LI) (H:Int) (f:FV) w,f 0=(subH g 1 j k).v→f 5=iV (h.length:Int)→f 7=.int .u64 i→f 9=.int .u64 H→St w0 ros (row 103 (rI .u32) g.v a3::rs) w→(a3,H)=j1→i9 (.exit 4) (fr 177 f) w:=by
     intro a3 H f w j4 j5 j6 j7 b ho
     subst ho
     refine j0 _ _ _ (i7 _ _ (sR fun _ j8=>Ym ((subH g 1 j k).v) (eh j4) (Ym (iV (h.length:Int)) (eh j5) (bE d fun j9 c2 d=>yY (yIaW SL_29 e0 e0 b rO0 c2) (yY (yI O_103 e0 b rO0 (getW_g c2)) (Ym (.int .u64 H) (eh j7) (yY (ycv (k':=.u32) (by kernel_rfl) (by kernel_rfl) e0) (yY (yadd e0 e0) (bE d fun o9 c3 d=>yY (yIsW SL_29 e0 e0 b rO0 c3) ?_)))))))))
     refine yT (r_sti (cs:=[.int .u32 (wa .u32 j9 (wc .u32 H))]) b O_103 rfl e0 e0 rfl mkI (setW_g c3)) fun w b=>wK j8 (sR fun _ k0=>Ym (.int .u64 i) (eh j6) (yY (ysub e0 rfl) (yY (ycv (k':=.u32) (by kernel_rfl) (by kernel_rfl) e0) (Ya (.int .u32 (wc .u32 (ws .u64 i 1))) e0 (wK k0 (wp_ret ?_))))))
     cases d
     exact b2 _ _ _ (fin1r Tryz.results128 ⟨rfl,rfl⟩ ⟨rfl,b⟩)
    refine loopQ (fun s a w=>∃ (a4:LI) (x C:Int) (f:FV),(a4,x,C)=s∧a=fr 177 f∧f 0=(subH g 1 j k).v∧f 5=iV (h.length:Int)∧f 7=.int .u64 i∧f 9=.int .u64 x∧f 140=l.v∧f 141=iV (h.length:Int)∧f 142=iV C∧St w0 ros (row 103 (rI .u32) g.v a4::rs) w) j2 ⟨_,_,_,_,rfl,rfl,a1,a2,b9,rfl,rfl,rfl,rfl,b⟩ ?_
    rintro _ _ w p0 ⟨a4,x,C,f,rfl,rfl,S,c4,c5,c6,c7,c8,T,b⟩ q k6 p1 k7 k8
    refine sR fun _ k9=>yY (ylss (eh T) (eh c8)) (wK k9 (seqQ fun p2 l0 l1=>?_))
    refine cIf e0 q (fun l2 q=>?_) fun l2 q=>?_
    ·refine wp_skip (l0 _ _ (sQ fun _ l3=>blockQ fun _ l4=>sR fun _ l5=>Ym (iV C) (eh T) (bE q fun F c9 q=>yY (yIa SL_29 (eh c7) (eh T) b (rdI m) c9) (yY (yI O_103 e0 b (rdI m) c9) (Ya (iV C) e0 (Ya (.int .u32 F) e0 (wK l5 ?_)))))))
     refine sR fun _ l6=>Ym ((subH g 1 j k).v) (eh S) (Ym (iV C) e0 (bE q fun I d0 q=>yY (yIaW SL_29 e0 e0 b rO0 d0) (yY (yI O_103 e0 b rO0 (getW_g d0)) (yY (ycv (k':=.u64) (by kernel_rfl) (by kernel_rfl) e0) (Ym (.int .u32 F) e0 (yY (ycv (k':=.u64) (by kernel_rfl) (by kernel_rfl) e0) (yY (yadd e0 e0) (Ym (.int .u64 x) (eh c6) (yY (yadd e0 e0) (Ya (.int .u64 (wa .u64 (wa .u64 (wc .u64 I) (wc .u64 F)) x)) e0 ?_))))))))))
     refine wK l6 (sR fun _ l7=>Ym ((subH g 1 j k).v) (eh S) (Ym (iV C) e0 (Ym (.int .u64 (wa .u64 (wa .u64 (wc .u64 I) (wc .u64 F)) x)) e0 (yY (yand e0 rfl) (yY (ycv (k':=.u32) (by kernel_rfl) (by kernel_rfl) e0) (bE q fun p3 d1 q=>yY (yIsW SL_29 e0 e0 b rO0 d1) (yT (r_sti (cs:=[.int .u32 (wc .u32 (wand .u64 (wa .u64 (wa .u64 (wc .u64 I) (wc .u64 F)) x) 4294967295))]) b O_103 rfl e0 e0 rfl mkI (setW_g d1)) fun w b=>wN ?_)))))))
     refine l7 _ _ (wR (Ym (.int .u64 (wa .u64 (wa .u64 (wc .u64 I) (wc .u64 F)) x)) e0 (yY (yshrc e0 rfl) (Ya (.int .u64 (wsrc .u64 (wa .u64 (wa .u64 (wc .u64 I) (wc .u64 F)) x) 32)) e0 (wN (l4 _ _ _ (l3 _ _ (wR (yY (yadd (eh T) rfl) (Ym (iV (wa .i64 C 1)) e0 (wN ?_)))))))))))
     cases q
     exact k7 _ _ _ rfl ⟨_,_,_,_,rfl,rfl,S,c4,c5,rfl,c7,c8,rfl,b⟩
    ·refine wp_exit (l1 _ _ _ rfl ?_)
     cases q
     exact k8 _ _ _ _ rfl rfl (j3 _ _ _ _ S c4 c5 c6 b (k6 _ rfl))
  refine loopQ (fun s a w=>∃ (a5:LI) (o y D:Int) (f:FV),(a5,o,y,D)=s∧a=fr 177 f∧f 0=(subH g 1 j k).v∧f 1=l.v∧f 5=iV (h.length:Int)∧f 7=.int .u64 i∧f 9=.int .u64 o∧f 10=.int .u64 y∧f 84=l.v∧f 85=iV (h.length:Int)∧f 86=iV D∧St w0 ros (row 103 (rI .u32) g.v a5::rs) w) h2 ⟨_,_,_,_,_,rfl,rfl,g3,b8,g4,g5,rfl,rfl,rfl,rfl,rfl,b⟩ ?_
  rintro _ _ w p4 ⟨a5,o,y,D,f,rfl,rfl,U,d2,d3,a6,d4,d5,d6,d7,V,b⟩ r l8 p5 l9 m0
  refine sR fun _ m1=>yY (ylss (eh V) (eh d7)) (wK m1 (seqQ fun p6 m2 m3=>?_))
  refine cIf e0 r (fun m4 r=>?_) fun m4 r=>?_
  ·refine wp_skip (m2 _ _ (sQ fun _ m5=>blockQ fun _ m6=>sR fun _ m7=>Ym (iV D) (eh V) (bE r fun t d8 r=>yY (yIa SL_29 (eh d6) (eh V) b (rdI m) d8) (yY (yI O_103 e0 b (rdI m) d8) (Ya (iV D) e0 (Ya (.int .u32 t) e0 (wK m7 ?_)))))))
   refine sR fun _ m8=>Ym (.int .u64 i) (eh a6) (Ym (.int .u32 t) e0 (yY (ycv (k':=.u64) (by kernel_rfl) (by kernel_rfl) e0) (yY (ymul e0 e0) (Ym (.int .u64 o) (eh d4) (yY (yadd e0 e0) (Ya (.int .u64 (wa .u64 (wm .u64 i (wc .u64 t)) o)) e0 (wK m8 (sR fun _ m9=>Ym (.int .u64 (wa .u64 (wm .u64 i (wc .u64 t)) o)) e0 ?_))))))))
   refine yY (yshrc e0 rfl) (Ya (.int .u64 (wsrc .u64 (wa .u64 (wm .u64 i (wc .u64 t)) o) 32)) e0 (wK m9 (sR fun _ n0=>Ym ((subH g 1 j k).v) (eh U) (Ym (iV D) e0 (bE r fun J d9 r=>yY (yIaW SL_29 e0 e0 b rO0 d9) (yY (yI O_103 e0 b rO0 (getW_g d9)) (yY (ycv (k':=.u64) (by kernel_rfl) (by kernel_rfl) e0) (Ym (.int .u64 (wa .u64 (wm .u64 i (wc .u64 t)) o)) e0 (yY (yand e0 rfl) ?_)))))))))
   refine yY (ysub e0 e0) (Ym (.int .u64 y) (eh d5) (yY (ysub e0 e0) (Ya (.int .u64 (ws .u64 (ws .u64 (wc .u64 J) (wand .u64 (wa .u64 (wm .u64 i (wc .u64 t)) o) 4294967295)) y)) e0 (wK n0 (sR fun _ n1=>Ym ((subH g 1 j k).v) (eh U) (Ym (iV D) e0 (Ym (.int .u64 (ws .u64 (ws .u64 (wc .u64 J) (wand .u64 (wa .u64 (wm .u64 i (wc .u64 t)) o) 4294967295)) y)) e0 (yY (yand e0 rfl) (yY (ycv (k':=.u32) (by kernel_rfl) (by kernel_rfl) e0) (bE r fun p7 e1 r=>?_))))))))))
   refine yY (yIsW SL_29 e0 e0 b rO0 e1) (yT (r_sti (cs:=[.int .u32 (wc .u32 (wand .u64 (ws .u64 (ws .u64 (wc .u64 J) (wand .u64 (wa .u64 (wm .u64 i (wc .u64 t)) o) 4294967295)) y) 4294967295))]) b O_103 rfl e0 e0 rfl mkI (setW_g e1)) fun w b=>wK n1 (wR (Ym (.int .u64 (ws .u64 (ws .u64 (wc .u64 J) (wand .u64 (wa .u64 (wm .u64 i (wc .u64 t)) o) 4294967295)) y)) e0 (yY (yshrc e0 rfl) (yY (yand e0 rfl) (Ya (.int .u64 (wand .u64 (wsrc .u64 (ws .u64 (ws .u64 (wc .u64 J) (wand .u64 (wa .u64 (wm .u64 i (wc .u64 t)) o) 4294967295)) y) 32) 1)) e0 (wN (m6 _ _ _ (m5 _ _ (wR ?_))))))))))
   refine yY (yadd (eh V) rfl) (Ym (iV (wa .i64 D 1)) e0 (wN ?_))
   cases r
   exact l9 _ _ _ rfl ⟨_,_,_,_,_,rfl,rfl,U,d2,d3,a6,rfl,rfl,d6,d7,rfl,b⟩
  ·refine wp_exit (m3 _ _ _ rfl ?_)
   cases r
   exact m0 _ _ _ _ rfl rfl (h3 _ _ _ _ _ U d2 d3 a6 d4 d5 b (l8 _ rfl))
 refine loopQ (fun s a w=>∃ (u E:Int) (f:FV),(u,E)=s∧a=fr 177 f∧f 0=(subH g 1 j k).v∧f 1=l.v∧f 5=iV (h.length:Int)∧f 7=.int .u64 u∧f 8=.int .u64 E∧St w0 ros (row 103 (rI .u32) g.v G::rs) w) g2 ⟨_,_,_,rfl,rfl,rfl,rfl,rfl,rfl,rfl,b⟩ ?_
 rintro _ _ w p8 ⟨u,E,f,rfl,rfl,a7,a8,W,K,a9,b⟩ p e2 p9 n2 e3
 refine seqQ fun q0 n3 n4=>sQ fun _ n5=>bE p fun b0 z p=>?_
 refine joinN (n:=177) (fun f w=>f 0=(subH g 1 j k).v∧f 1=l.v∧f 5=iV (h.length:Int)∧f 7=.int .u64 u∧f 8=.int .u64 E∧f 71=.bool b0∧St w0 ros (row 103 (rI .u32) g.v G::rs) w) (fun e4=>?_) ?_
 ·rcases iteS z with ⟨c,z⟩ | ⟨c,z⟩
  ·have n6:=someI z
   refine dR [0,1,3,7,7,7,39,119,247,503,1023,7,2055,7,7,16391,57351,122887,253959,522247,1048575,2097151] [] 0 folM ?_
   replace b:=b.drew
   refine Dz [0,1,2,3,4,5,6,7,8,9,10,11,12,13,14,15,16,17,18,19,20,21] [] (yR rfl (m_ (.int .u64 u) (eh K)) (yR rfl (ygtr e0 rfl) (yR rfl (m_ (.bool (decide ((4294967295:Int) < u))) e0) (Rx rfl rfl (wX (dT c)) (Rx rfl rfl (wX (dT c)) (Rx rfl rfl (wX (dT c)) (Rx rfl rfl (wX (dT c)) (Rx rfl rfl (wX (dT c)) (Rx rfl rfl (wX (dT c)) (Rx rfl rfl (wX (dT c)) (Rx rfl rfl (wX (dT c)) (Rx rfl rfl (wX (dT c)) (Rx rfl rfl (wX (dT c)) ?_)))))))))))))
   exact Rx rfl rfl (wX (dT c)) (Rx rfl rfl (wX (dT c)) (Rx rfl rfl (wX (dT c)) (Rx rfl rfl (wX (dT c)) (Rx rfl rfl (wX (dT c)) (Rx rfl rfl (wX (dT c)) (Rx rfl rfl (wX (dT c)) (Rx rfl rfl (wX (dT c)) (yR rfl (pt_ (.bool b0) e0 (dT c) (eqv n6 rfl)) (Rn QSn (e4 _ _ ⟨a7,a8,W,K,a9,rfl,b⟩))))))))))
  ·refine bE z fun q2 e5 z=>bE z fun q3 e6 z=>?_
   have n7:=someI z
   refine dR [0,1,3,7,7,7,39,119,247,503,1023,7,2055,7,7,16391,57351,122887,253959,522247,1048575,2097151] [] 0 folM ?_
   replace b:=b.drew
   refine Dz [0,1,2,3,4,5,6,7,8,9,10,11,12,13,14,15,16,17,18,19,20,21] [] (yR rfl (m_ (.int .u64 u) (eh K)) (yR rfl (ygtr e0 rfl) (yR rfl (m_ (.bool (decide ((4294967295:Int) < u))) e0) (Ry rfl rfl (wG (dF c)) (m_ (.int .u64 u) (eh K)) (Ry rfl rfl (wG (dF c)) (m_ l.v (eh a8)) (Ry rfl rfl (wG (dF c)) (m_ (iV (h.length:Int)) (eh W)) (Ry rfl rfl (wG (dF c)) (ysub e0 rfl) (Ry rfl rfl (wG (dF c)) (yIa SL_29 e0 e0 b (rdI m) e5) (Ry rfl rfl (wG (dF c)) (yI O_103 e0 b (rdI m) e5) (Ry rfl rfl (wG (dF c)) (ycv (k':=.u64) (by kernel_rfl) (by kernel_rfl) e0) (Ry rfl rfl (wG (dF c)) (ymul e0 e0) (Ry rfl rfl (wG (dF c)) (m_ (.int .u64 E) (eh a9)) (Ry rfl rfl (wG (dF c)) (yshlc e0 rfl) ?_)))))))))))))
   exact Ry rfl rfl (wG (dF c)) (m_ ((subH g 1 j k).v) (eh a7)) (Ry rfl rfl (wG (dF c)) (m_ (iV (h.length:Int)) (eh W)) (Ry rfl rfl (wG (dF c)) (ysub e0 rfl) (Ry rfl rfl (wG (dF c)) (yIaW SL_29 e0 e0 b rO0 e6) (Ry rfl rfl (wG (dF c)) (yI O_103 e0 b rO0 (getW_g e6)) (Ry rfl rfl (wG (dF c)) (ycv (k':=.u64) (by kernel_rfl) (by kernel_rfl) e0) (Ry rfl rfl (wG (dF c)) (yor e0 e0) (Ry rfl rfl (wG (dF c)) (ygtr e0 e0) (yR rfl (pf_ (.bool b0) e0 (dF c) (eqv n7 e0)) (Rn QSn (e4 _ _ ⟨a7,a8,W,K,a9,rfl,b⟩))))))))))
 rintro f w ⟨b1,X,Z,e7,n8,n9,b⟩
 refine n5 _ _ (cB (eh n9) p (fun o0 p=>?_) fun o0 p=>?_)
 ·refine wp_skip (n3 _ _ (blockQ fun _ e8=>sR fun _ o1=>Ym (.int .u64 u) (eh e7) (yY (ysub e0 rfl) (Ya (.int .u64 (ws .u64 u 1)) e0 (wK o1 (sR fun _ o2=>Ym (.int .u64 E) (eh n8) (Ym l.v (eh X) ?_)))))))
  refine Ym (iV (h.length:Int)) (eh Z) (yY (ysub e0 rfl) (bE p fun e9 f0 p=>yY (yIa SL_29 e0 e0 b (rdI m) f0) (yY (yI O_103 e0 b (rdI m) f0) (yY (ycv (k':=.u64) (by kernel_rfl) (by kernel_rfl) e0) (yY (yadd e0 e0) (Ya (.int .u64 (wa .u64 E (wc .u64 e9))) e0 (wK o2 (sR fun _ o3=>Ym (.int .u64 (wa .u64 E (wc .u64 e9))) e0 (yY (ygtr e0 rfl) ?_)))))))))
  refine wK o3 ?_
  refine cIf e0 p (fun o4 p=>?_) fun o4 p=>?_
  ·refine wp_exit (e8 _ _ _ ?_)
   cases p
   exact e3 _ _ _ _ rfl rfl (b7 _ _ _ b1 X Z rfl b (e2 _ rfl))
  ·refine wp_skip (e8 _ _ _ ?_)
   cases p
   exact n2 _ _ _ rfl ⟨_,_,_,rfl,rfl,b1,X,Z,rfl,rfl,b⟩
 ·refine wp_exit (n4 _ _ _ rfl ?_)
  cases p
  exact e3 _ _ _ _ rfl rfl (b7 _ _ _ b1 X Z e7 b (e2 _ rfl))
theorem integer_down_1_ok {a:Int} {out:Bool} (b:integer_down_1 a=some out) (c:St w0 ros rs w):
  Calls Tryz.prog 149 #[.int .u32 a] w (fun e w=>e=.returned (.bool out)∧St w0 ros rs w):=by
 refine enterQ Tryz.func149 rfl Tryz.ntmps149 rfl fun Q d=>sR fun _ f=>Ya (.bool false) rfl (wK f (sR fun _ g=>Ym (.int .u32 a) e0 (yY (yneq e0 rfl) (Ya (.bool (!(decide (a=0)))) e0 (wK g (wp_ret ?_))))))
 cases b
 exact d _ _ _ (fin1r Tryz.results149 ⟨rfl,rfl⟩ ⟨rfl,c⟩)
theorem slices_IndexFunc_uint32_ok {i:LI} {g:Hdr} {out:Int} (h:slices_IndexFunc_uint32 i=some out) (j:imm (rI .u32) g.v i∈ros) (b:St w0 ros rs w):
  Calls Tryz.prog 161 #[g.v,.func (.func 149) #[] #[]] w (fun e w=>e=.returned (iV out)∧St w0 ros rs w):=by
 refine enterQ Tryz.func161 rfl Tryz.ntmps161 rfl fun Q m=>sR fun _ A=>Ya (iV 0) rfl (wK A (seqQ fun Z B C=>sR fun _ D=>Ym g.v e0 (yY (yLen SL_29 e0 b (rdI j)) (Ym (iV 0) rfl (wK D ?_)))))
 refine blockQ fun n o=>bE h fun p E h=>?_
 have F:∀ (f:FV) w,St w0 ros rs w→.inl ()=p→n (.exit 0) (fr 19 f) w:=by
  intro f w b ho
  subst ho
  refine o _ _ _ (B _ _ (sR fun _ G=>Ya (iV (-1)) rfl (wK G (wp_ret ?_))))
  cases h
  exact m _ _ _ (fin1r Tryz.results161 ⟨rfl,rfl⟩ ⟨rfl,b⟩)
 have H:∀ (k:Int) (f:FV) w,f 4=iV k→St w0 ros rs w→.inr k=p→n .ret (fr 19 f) w:=by
  intro k f w I b ho
  subst ho
  refine o _ _ _ (C _ _ _ rfl ?_)
  cases h
  exact m _ _ _ (fin1r Tryz.results161 ⟨rfl,I⟩ ⟨rfl,b⟩)
 refine loopQ (fun s a w=>∃ (d:Int) (f:FV),d=s∧a=fr 19 f∧f 0=g.v∧f 1=.func (.func 149) #[] #[]∧f 7=iV (i.length:Int)∧f 8=iV d∧St w0 ros rs w) E ⟨_,_,rfl,rfl,rfl,rfl,rfl,rfl,b⟩ ?_
 rintro _ _ w a0 ⟨d,f,rfl,rfl,q,r,t,l,b⟩ c u a2 J x
 refine sR fun _ K=>yY (ylss (eh l) (eh t)) (wK K (seqQ fun a3 L N=>?_))
 refine cIf e0 c (fun O c=>?_) fun O c=>?_
 ·refine wp_skip (L _ _ (seqQ fun a4 R S=>blockQ fun _ y=>sR fun _ T=>Ym (iV d) (eh l) (Ya (iV d) e0 (wK T (sR fun _ U=>Ym (.func (.func 149) #[] #[]) (eh r) (Ym g.v (eh q) ?_))))))
  refine Ym (iV d) e0 (bE c fun a5 z c=>yY (yIa SL_29 e0 e0 b (rdI j) z) (yY (yI O_103 e0 b (rdI j) z) (bE c fun a6 V c=>yC (yCallw FN_149 e0 (a1 e0)) (integer_down_1_ok V b) ?_)))
  rintro _ w ⟨rfl,b⟩
  refine ⟨_,rfl,?_⟩
  refine wK U (cB e0 c (fun W c=>?_) fun W c=>?_)
  ·refine sR fun _ X=>Ym (iV d) e0 (Ya (iV d) e0 (wK X (wp_ret (y _ _ _ (S _ _ _ rfl ?_)))))
   cases c
   exact x _ _ _ _ rfl rfl (H _ _ _ rfl b (u _ rfl))
  ·refine wp_skip (y _ _ _ (R _ _ (wR (yY (yadd (eh l) rfl) (Ym (iV (wa .i64 d 1)) e0 (wN ?_))))))
   cases c
   exact J _ _ _ rfl ⟨_,_,rfl,rfl,q,r,t,rfl,b⟩
 ·refine wp_exit (N _ _ _ rfl ?_)
  cases c
  exact x _ _ _ _ rfl rfl (F _ _ b (u _ rfl))
theorem slices_ContainsFunc_uint32_ok {d:LI} {a:Hdr} {out:Bool} (b:slices_ContainsFunc_uint32 d=some out) (f:imm (rI .u32) a.v d∈ros) (c:St w0 ros rs w):
  Calls Tryz.prog 148 #[a.v,.func (.func 149) #[] #[]] w (fun e w=>e=.returned (.bool out)∧St w0 ros rs w):=by
 refine enterQ Tryz.func148 rfl Tryz.ntmps148 rfl fun Q g=>sR fun _ h=>Ya (.bool false) rfl (wK h (sR fun _ i=>Ym a.v e0 (Ym (.func (.func 149) #[] #[]) e0 (bE b fun j k b=>yC (yCall FN_161 (a2 e0 e0)) (slices_IndexFunc_uint32_ok k f c) ?_))))
 rintro _ w ⟨rfl,c⟩
 refine ⟨_,rfl,?_⟩
 refine yY (ygeq e0 rfl) (Ya (.bool (decide ((0:Int)≤j))) e0 (wK i (wp_ret ?_)))
 cases b
 exact g _ _ _ (fin1r Tryz.results148 ⟨rfl,rfl⟩ ⟨rfl,c⟩)
theorem integer_down_ok {u:LI} {d:Int} {h:Hdr} {out:LI×Bool} (c:integer_down u d=some out) (k:imm (rI .u32) h.v u∈ros) (b:St w0 ros rs w):
  Calls Tryz.prog 129 #[h.v,iV d] w (fun e w=>∃ (C:Hdr),e=.returned (.tuple #[C.v,.bool out.2])∧St w0 (imm (rI .u32) C.v out.1::ros) rs w):=by
 refine enterQ Tryz.func129 rfl Tryz.ntmps129 rfl fun Q D=>sR fun _ k1=>Ya hnil.v rfl (Ya (.bool false) rfl (wK k1 (sR fun _ U=>Ym (iV d) e0 (yY (yquoc e0 rfl (by decide)) (Ym (iV d) e0 (yY (yremc e0 rfl (by decide)) (yY (ycv (k':=.u64) (by kernel_rfl) (by kernel_rfl) e0) ?_)))))))
 refine Ya (iV (wqc .i64 d 32)) e0 (Ya (.int .u64 (wc .u64 (wrc d 32))) e0 (wK U (seqQ fun f3 V W=>sR fun _ X=>Ym (iV (wqc .i64 d 32)) e0 (Ym h.v e0 (yY (yLen SL_29 e0 b (rdI k)) (yY (ygeq e0 e0) (wK X ?_)))))))
 refine cIf e0 c (fun Z c=>?_) fun Z c=>?_
 ·refine sR fun _ a0=>Ym h.v e0 (yY (yLen SL_29 e0 b (rdI k)) (yY (ygtr e0 rfl) (Ya hnil.v rfl (Ya (.bool (decide ((0:Int) < (u.length:Int)))) e0 (wK a0 (wp_ret (W _ _ _ rfl ?_)))))))
  cases c
  replace b:=b.immNh (rI .u32)
  exact D _ _ _ (fin2r Tryz.results129 ⟨rfl,rfl⟩ ⟨rfl,rfl⟩ ⟨_,rfl,b⟩)
 ·refine wp_skip (V _ _ (sR fun _ a3=>Ym h.v e0 (Ym (iV (wqc .i64 d 32)) e0 (bE c fun f4 E c=>yY (ySl (k1:=.i64) SL_29 e0 b (rdI k) (.inr ⟨rfl,rfl⟩) (.inl (congrArg some e0)) E) ?_))))
  replace b:=b.sub k E
  refine bE c fun a4 a5 c=>yC (yCall FN_148 (a2 e0 rfl)) (slices_ContainsFunc_uint32_ok a5 F0 b) ?_
  rintro _ w ⟨rfl,b⟩
  refine ⟨_,rfl,?_⟩
  refine Ym (.bool a4) e0 (bE c fun n m c=>?_)
  refine joinW 10 (fun f w=>f 0=h.v∧f 6=iV (wqc .i64 d 32)∧f 7=.int .u64 (wc .u64 (wrc d 32))∧f 38=.bool n∧St w0 ros rs w) (fun F=>?_) ?_
  ·rcases iteS m with ⟨g,m⟩ | ⟨g,m⟩
   ·refine gN g (gN g (gN g (gN g (gN g (gN g (gN g (gN g (gN g (yY (pt_ (.bool true) e0 g rfl) ?_)))))))))
    cases m
    exact F _ _ ⟨rfl,rfl,rfl,rfl,(b.facts (allT allI))⟩
   ·refine yG (bfalse g) (m_ h.v e0) (yG (bfalse g) (m_ (iV (wqc .i64 d 32)) e0) (bE m fun a6 G m=>yG (bfalse g) (yIa SL_29 e0 e0 b (rdI (mtF k)) G) (yG (bfalse g) (yI O_103 e0 b (rdI (mtF k)) G) (yG (bfalse g) (m_ (.int .u64 (wc .u64 (wrc d 32))) e0) (bE m fun a7 a8 m=>yG (bfalse g) (yshl rfl e0 a8) (yG (bfalse g) (ysub e0 rfl) (yG (bfalse g) (yand e0 e0) (yG (bfalse g) (yneq e0 rfl) (yY (pf_ (.bool (!(decide ((wand .u32 a6 (ws .u32 a7 1))=0)))) e0 (bfalse g) e0) ?_)))))))))
    cases m
    exact F _ _ ⟨rfl,rfl,rfl,rfl,(b.facts (allT allI))⟩
  rintro f w ⟨H,I,a9,b0,b⟩
  refine Ya (.bool n) (eh b0) (wK a3 (sR fun _ b1=>Ym h.v (eh H) (yY (yLen SL_29 e0 b (rdI k)) (Ym (iV (wqc .i64 d 32)) (eh I) (yY (ysub e0 e0) (bE c fun J b2 c=>yH (rMk b SL_29 e0 b2) fun l w b=>Ya l.v e0 (wN ?_)))))))
  refine b1 _ _ (sQ fun _ b3=>sR fun _ b4=>Ym l.v e0 (yY (yLen SL_29 e0 b rO0) (Ym (iV 0) rfl (wK b4 (blockQ fun b5 b6=>bE c fun b7 b8 c=>?_)))))
  have b9:∀ (x:LI) (f:FV) w,f 8=.bool n→f 9=l.v→St w0 ros (row 103 (rI .u32) l.v x::rs) w→x=b7→b5 (.exit 0) (fr 86 f) w:=by
   intro x f w c0 c1 b ho
   subst ho
   refine b6 _ _ _ (b3 _ _ (sR fun _ c2=>Ym l.v (eh c1) (bE c fun f5 c3 c=>?_)))
   replace b:=b.fz
   refine yC (yCall FN_73 (a1 e0)) (integer_trim_ok c3 F0 b) ?_
   rintro _ w ⟨c5,rfl,b⟩
   refine ⟨_,rfl,?_⟩
   refine Ym (.bool n) (eh c0) (Ya c5.v e0 (Ya (.bool n) e0 (wK c2 (wp_ret ?_))))
   cases c
   exact D _ _ _ (fin2r Tryz.results129 ⟨rfl,rfl⟩ ⟨rfl,rfl⟩ ⟨_,rfl,(b.facts (allC F0 (allT (allT allI))))⟩)
  refine loopQ (fun s a w=>∃ (o:LI) (i:Int) (f:FV),(o,i)=s∧a=fr 86 f∧f 0=h.v∧f 6=iV (wqc .i64 d 32)∧f 7=.int .u64 (wc .u64 (wrc d 32))∧f 8=.bool n∧f 9=l.v∧f 45=iV (J.length:Int)∧f 46=iV i∧St w0 ros (row 103 (rI .u32) l.v o::rs) w) b8 ⟨_,_,_,rfl,rfl,H,I,a9,rfl,rfl,rfl,rfl,b⟩ ?_
  rintro _ _ w c6 ⟨o,i,f,rfl,rfl,p,q,K,y,z,A,r,b⟩ j c7 f6 c8 c9
  refine sR fun _ d0=>yY (ylss (eh r) (eh A)) (wK d0 (seqQ fun f7 d1 d2=>?_))
  refine cIf e0 j (fun d3 j=>?_) fun d3 j=>?_
  ·refine wp_skip (d1 _ _ (sQ fun _ d4=>blockQ fun _ d5=>sR fun _ d6=>Ym (iV i) (eh r) (Ya (iV i) e0 (wK d6 (sR fun _ d7=>Ym h.v (eh p) (Ym (iV (wqc .i64 d 32)) (eh q) ?_))))))
   refine Ym (iV i) e0 (yY (yadd e0 e0) (bE j fun B L j=>yY (yIa SL_29 e0 e0 b (rdI k) L) (yY (yI O_103 e0 b (rdI k) L) (yY (ycv (k':=.u64) (by kernel_rfl) (by kernel_rfl) e0) (Ya (.int .u64 (wc .u64 B)) e0 (wK d7 (sQ fun d8 d9=>sR fun _ e1=>Ym (iV (wqc .i64 d 32)) (eh q) (Ym (iV i) e0 ?_))))))))
   refine yY (yadd e0 e0) (yY (yadd e0 rfl) (Ym h.v (eh p) (yY (yLen SL_29 e0 b (rdI k)) (yY (ylss e0 e0) (wK e1 ?_)))))
   have N:∀ (t:Int) (f:FV) w,f 0=h.v→f 6=iV (wqc .i64 d 32)→f 7=.int .u64 (wc .u64 (wrc d 32))→f 8=.bool n→f 9=l.v→f 10=iV i→f 11=.int .u64 t→f 45=iV (J.length:Int)→f 46=iV i→St w0 ros (row 103 (rI .u32) l.v o::rs) w→integer_down_j5 d o i t=some c6→d8 .normal (fr 86 f) w:=by
    intro t f w e2 e3 O e4 R e5 e6 e7 e8 b c
    refine d9 _ _ (wR (Ym l.v (eh R) (Ym (iV i) (eh e5) (Ym (.int .u64 t) (eh e6) (Ym (.int .u64 (wc .u64 (wrc d 32))) (eh O) (bE c fun e9 f0 c=>yY (yshr e0 e0 f0) (yY (yand e0 rfl) (yY (ycv (k':=.u32) (by kernel_rfl) (by kernel_rfl) e0) (bE c fun f8 S c=>yY (yIs SL_29 e0 e0 b rO0 S) (yT (r_sti (cs:=[.int .u32 (wc .u32 (wand .u64 e9 4294967295))]) b O_103 rfl e0 e0 rfl mkI S) fun w b=>?_))))))))))
    refine wN (d5 _ _ _ (d4 _ _ (wR (yY (yadd (eh e8) rfl) (Ym (iV (wa .i64 i 1)) e0 (wN ?_))))))
    cases c
    exact c8 _ _ _ rfl ⟨_,_,_,rfl,rfl,e2,e3,O,e4,R,e7,rfl,b⟩
   refine cIf e0 j (fun f1 j=>?_) fun f1 j=>?_
   ·refine wR (Ym (.int .u64 (wc .u64 B)) e0 (Ym h.v (eh p) (Ym (iV (wqc .i64 d 32)) (eh q) (Ym (iV i) e0 (yY (yadd e0 e0) (yY (yadd e0 rfl) (bE j fun f2 T j=>yY (yIa SL_29 e0 e0 b (rdI k) T) (yY (yI O_103 e0 b (rdI k) T) (yY (ycv (k':=.u64) (by kernel_rfl) (by kernel_rfl) e0) (yY (yshlc e0 rfl) (yY (yor e0 e0) (Ya (.int .u64 (wor .u64 (wc .u64 B) (wslc .u64 (wc .u64 f2) 32))) e0 ?_))))))))))))
    exact wN (N _ _ _ p q K y z rfl rfl A r b j)
   ·exact wp_skip (N _ _ _ p q K y z rfl rfl A r b j)
  ·refine wp_exit (d2 _ _ _ rfl ?_)
   cases j
   exact c9 _ _ _ _ rfl rfl (b9 _ _ _ y z b (c7 _ rfl))
theorem integer_divide_ok {H I:LI} {m i:Hdr} {out:LI×LI} (c:integer_divide H I=some out) (r:imm (rI .u32) m.v H∈ros) (j:imm (rI .u32) i.v I∈ros) (b:St w0 ros rs w):
  Calls Tryz.prog 93 #[m.v,i.v] w (fun e w=>∃ (J K:Hdr),e=.returned (.tuple #[J.v,K.v])∧St w0 (imm (rI .u32) J.v out.1::imm (rI .u32) K.v out.2::ros) rs w):=by
 refine enterQ Tryz.func93 rfl Tryz.ntmps93 rfl fun Q z=>sR fun _ k1=>Ya hnil.v rfl (Ya hnil.v rfl (wK k1 (seqQ fun g0 V W=>sR fun _ X=>Ym m.v e0 (Ym i.v e0 (bE c fun g1 Z c=>yC (yCall FN_99 (a2 e0 e0)) (integer_compare_ok Z r j b) ?_)))))
 rintro _ w ⟨rfl,b⟩
 refine ⟨_,rfl,?_⟩
 refine yY (ylss e0 rfl) (wK X ?_)
 refine cIf e0 c (fun a0 c=>?_) fun a0 c=>?_
 ·refine sR fun _ a3=>Ym m.v e0 (bE c fun g2 a4 c=>yC (yCall FN_92 (a1 e0)) (slices_Clone_uint32_ok a4 r b) ?_)
  rintro _ w ⟨a5,rfl,b⟩
  refine ⟨_,rfl,?_⟩
  refine Ya hnil.v rfl (Ya a5.v e0 (wK a3 (wp_ret (W _ _ _ rfl ?_))))
  cases c
  replace b:=(b.immNh (rI .u32)).fz
  exact z _ _ _ (fin2r Tryz.results93 ⟨rfl,rfl⟩ ⟨rfl,rfl⟩ ⟨_,_,rfl,(b.facts (allC F1 (allC F0 (allT (allT allI)))))⟩)
 ·refine wp_skip (V _ _ (seqQ fun g3 a6 a7=>sR fun _ a8=>Ym i.v e0 (yY (yLen SL_29 e0 b (rdI j)) (yY (yeql e0 rfl) (wK a8 ?_)))))
  refine cIf e0 c (fun a9 c=>?_) fun a9 c=>?_
  ·refine sR fun _ b0=>Ym m.v e0 (Ym i.v e0 (bE c fun g4 L c=>yY (yIa SL_29 e0 rfl b (rdI j) L) (yY (yI O_103 e0 b (rdI j) L) (bE c fun o b1 c=>yC (yCall FN_94 (a2 e0 e0)) (integer_short_ok b1 r b) ?_))))
   rintro _ w ⟨t,rfl,b⟩
   refine ⟨_,rfl,?_⟩
   refine Ym (.tuple #[t.v,.int .u32 o.2]) e0 (yY (x_ t.v e0) (yY (x_ (.int .u32 o.2) e0) (Ya t.v e0 (Ya (.int .u32 o.2) e0 (wK b0 (sR fun _ b2=>Ym t.v e0 (Ym (.int .u32 o.2) e0 (yH (rLt (n:=1) (l:=[o.2]) b SL_29 [.int .u32 o.2] (bp1 e0) rfl rfl (mks1 (cs:=[.int .u32 o.2]) rfl mkI mks0)) fun g5 w b=>bE c fun g6 b3 c=>?_))))))))
   replace b:=b.fz
   refine yC (yCall FN_73 (a1 e0)) (integer_trim_ok b3 F0 b) ?_
   rintro _ w ⟨b4,rfl,b⟩
   refine ⟨_,rfl,?_⟩
   refine Ya t.v e0 (Ya b4.v e0 (wK b2 (wp_ret (a7 _ _ _ rfl ?_))))
   cases c
   exact z _ _ _ (fin2r Tryz.results93 ⟨rfl,rfl⟩ ⟨rfl,rfl⟩ ⟨_,_,rfl,(b.facts (allC F2 (allC F0 (allT (allT (allT allI))))))⟩)
  ·refine wp_skip (a6 _ _ (sR fun _ b5=>Ym i.v e0 (Ym i.v e0 (yY (yLen SL_29 e0 b (rdI j)) (yY (ysub e0 rfl) (bE c fun g7 N c=>yY (yIa SL_29 e0 e0 b (rdI j) N) (yY (yI O_103 e0 b (rdI j) N) (bE c fun q b6 c=>yC (yCall FN_126 (a1 e0)) (math_bits_LeadingZeros32_ok b6 b) ?_))))))))
   rintro _ w ⟨rfl,b⟩
   refine ⟨_,rfl,?_⟩
   refine Ya (iV q) e0 (wK b5 (sR fun _ b7=>Ym i.v e0 (Ym (iV q) e0 (bE c fun p b8 c=>yC (yCall FN_127 (a2 e0 e0)) (integer_up_ok b8 j b) ?_))))
   rintro _ w ⟨u,rfl,b⟩
   refine ⟨_,rfl,?_⟩
   refine Ya u.v e0 (wK b7 (sR fun _ b9=>Ym m.v e0 (yY (yLen SL_29 e0 b (rdI (mtF r))) (yY (yadd e0 rfl) (bE c fun g8 c0 c=>yH (rMk b SL_29 e0 c0) fun g w b=>Ya g.v e0 (wK b9 ?_))))))
   refine sR fun _ c1=>Ym g.v e0 (Ym m.v e0 (Ym (iV q) e0 (bE c fun g9 c2 c=>yC (yCall FN_127 (a2 e0 e0)) (integer_up_ok c2 (mtF r) b) ?_)))
   rintro _ w ⟨h0,rfl,b⟩
   refine ⟨_,rfl,?_⟩
   refine bE c fun h1 c3 c=>YV wn rfl (rCp b SL_29 rfl e0 (.inr ⟨rfl,rfl,rfl⟩) e0 (rdI F0) c3) fun w b=>wK c1 (sR fun _ c4=>Ym u.v e0 (yY (yLen SL_29 e0 b (rdI F1)) (Ya (iV (p.length:Int)) e0 (wK c4 (sR fun _ c5=>?_)))))
   refine Ym g.v e0 (yY (yLen SL_29 e0 b rO0) (Ym (iV (p.length:Int)) e0 (yY (ysub e0 e0) (bE c fun c7 c8 c=>yH (rMk b SL_29 e0 c8) fun k w b=>Ya k.v e0 (wK c5 (sQ fun _ d0=>sR fun _ d1=>Ym k.v e0 ?_))))))
   refine yY (yLen SL_29 e0 b rO0) (yY (ysub e0 rfl) (Ya (iV (ws .i64 (c7.length:Int) 1)) e0 (wK d1 (blockQ fun d2 d3=>bE c fun d4 d5 c=>?_))))
   have d6:∀ (A B:LI) (f:FV) w,f 4=k.v→f 8=iV q→f 10=g.v→f 11=iV (p.length:Int)→St w0 ros (row 103 (rI .u32) k.v A::row 103 (rI .u32) g.v B::rs) w→(A,B)=d4→d2 (.exit 0) (fr 91 f) w:=by
    intro A B f w d7 d8 d9 e1 b ho
    subst ho
    refine d3 _ _ _ (d0 _ _ (sR fun _ e2=>Ym g.v (eh d9) (Ym (iV (p.length:Int)) (eh e1) (bE c fun h3 O c=>?_))))
    replace b:=(b.k11).fz
    refine yY (ySl (k1:=.i64) SL_29 e0 b (rdI F0) (.inr ⟨rfl,rfl⟩) (.inl (congrArg some e0)) O) ?_
    replace b:=b.sub F0 O
    refine bE c fun h5 e3 c=>yC (yCall FN_73 (a1 e0)) (integer_trim_ok e3 F0 b) ?_
    rintro _ w ⟨h6,rfl,b⟩
    refine ⟨_,rfl,?_⟩
    refine Ym (iV q) (eh d8) (bE c fun R e4 c=>yC (yCall FN_129 (a2 e0 e0)) (integer_down_ok e4 F0 b) ?_)
    rintro _ w ⟨x,rfl,b⟩
    refine ⟨_,rfl,?_⟩
    refine Ym (.tuple #[x.v,.bool R.2]) e0 (yY (x_ x.v e0) (yY (x_ (.bool R.2) e0) (Ya x.v e0 (wK e2 (sR fun _ e5=>Ym k.v (eh d7) (bE c fun h7 e6 c=>?_))))))
    replace b:=b.fz
    refine yC (yCall FN_73 (a1 e0)) (integer_trim_ok e6 F0 b) ?_
    rintro _ w ⟨e7,rfl,b⟩
    refine ⟨_,rfl,?_⟩
    refine Ym x.v e0 (Ya e7.v e0 (Ya x.v e0 (wK e5 (wp_ret ?_))))
    cases c
    exact z _ _ _ (fin2r Tryz.results93 ⟨rfl,rfl⟩ ⟨rfl,rfl⟩ ⟨_,_,rfl,(b.facts (allC F0 (allC F2 (allT (allT (allT (allT (allT (allT allI)))))))))⟩)
   refine loopQ (fun s a w=>∃ (C D:LI) (h:Int) (f:FV),(C,D,h)=s∧a=fr 91 f∧f 4=k.v∧f 8=iV q∧f 9=u.v∧f 10=g.v∧f 11=iV (p.length:Int)∧f 12=iV h∧St w0 (imm (rI .u32) u.v p::ros) (row 103 (rI .u32) k.v C::row 103 (rI .u32) g.v D::rs) w) d5 ⟨_,_,_,_,rfl,rfl,rfl,rfl,rfl,rfl,rfl,rfl,(b.facts (allC F1 (allT (allT allI))))⟩ ?_
   rintro _ _ w h9 ⟨C,D,h,f,rfl,rfl,E,S,T,F,G,y,b⟩ d e8 i0 e9 f0
   refine seqQ fun i1 f1 f2=>sR fun _ f3=>Ym (iV h) (eh y) (yY (ygeq e0 rfl) (wK f3 ?_))
   refine cIf e0 d (fun f4 d=>?_) fun f4 d=>?_
   ·refine wp_skip (f1 _ _ (sQ fun _ f5=>blockQ fun _ f6=>wR (Ym k.v (eh E) (Ym (iV h) (eh y) (Ym g.v (eh F) (Ym (iV h) (eh y) (Ym (iV h) (eh y) (Ym (iV (p.length:Int)) (eh G) (yY (yadd e0 e0) (yY (yadd e0 rfl) (bE d fun i2 f7 d=>?_)))))))))))
    refine yY (ySl SL_29 e0 b rO1 (.inl (congrArg some e0)) (.inl (congrArg some e0)) f7) (Ym u.v (eh T) (bE d fun f8 f9 d=>?_))
    replace b:=b.k11
    refine yC (yCall FN_128 (a2 e0 e0)) (integer_digit_ok f9 F0 b) ?_
    rintro _ w ⟨rfl,b⟩
    refine ⟨_,rfl,?_⟩
    refine bE d fun i3 U d=>yY (yIs SL_29 e0 e0 b rO1 U) (yT (r_sti (cs:=[.int .u32 f8.2]) (b.k11) O_103 rfl e0 e0 rfl mkI U) fun w b=>wN (f6 _ _ _ (f5 _ _ (wR (Ym (iV h) (eh y) (yY (ysub e0 rfl) (Ya (iV (ws .i64 h 1)) e0 (wN ?_))))))))
    cases d
    exact e9 _ _ _ rfl ⟨_,_,_,_,rfl,rfl,E,S,T,F,G,rfl,b⟩
   ·refine wp_exit (f2 _ _ _ rfl ?_)
    cases d
    exact f0 _ _ _ _ rfl rfl (d6 _ _ _ _ E S F G (b.facts (allT allI)) (e8 _ rfl))
theorem integer_DivMod_ok {c:Bool} {z:LI} {g:Bool} {A:LI} {i j:Hdr} {out:Bool×LI×Bool×LI×Int} (b:integer_DivMod c z g A=some out) (V:imm (rI .u32) i.v z∈ros) (W:imm (rI .u32) j.v A∈ros) (a:St w0 ros rs w):
  Calls Tryz.prog 114 #[.agg #[.bool c,i.v],.agg #[.bool g,j.v]] w (fun e w=>∃ (B C:Hdr),e=.returned (.tuple #[.agg #[.bool out.1,B.v],.agg #[.bool out.2.2.1,C.v],iV out.2.2.2.2])∧St w0 (imm (rI .u32) B.v out.2.1::imm (rI .u32) C.v out.2.2.2.1::ros) rs w):=by
 refine enterQ Tryz.func114 rfl Tryz.ntmps114 rfl fun Q D=>sR fun _ X=>yBb (r_box (vals:=[.bool c,i.v]) a e0 rfl) fun o w a=>yBb (r_box (vals:=[.bool g,j.v]) a e0 rfl) fun p w a=>yBb (rAl a ZT_31) fun q w a=>yBb (rAl a ZT_31) fun r w a=>Ya (iV 0) rfl (wK X ?_)
 refine sR fun _ Z=>yY (yFb FL_31_1 e0) (yY (lb_ j.v O_29 e0 a R2) (bE b fun a0 a3 b=>yC (yCall FN_73 (a1 e0)) (integer_trim_ok a3 W a) ?_))
 rintro _ w ⟨k,rfl,a⟩
 refine ⟨_,rfl,?_⟩
 refine Ya k.v e0 (wK Z (seqQ fun d2 a4 a5=>sR fun _ a6=>Ym k.v e0 (yY (yLen SL_29 e0 a (rdI F0)) (yY (yeql e0 rfl) (wK a6 ?_)))))
 refine cIf e0 b (fun a7 b=>?_) fun a7 b=>?_
 ·refine sR fun _ a8=>yY (ybuild (us:=[.bool false,hnil.v]) [] SO_31 bp0 rfl) (yY (ybuild (us:=[.bool false,hnil.v]) [] SO_31 bp0 rfl) (yT (r_stbn (vals':=[.bool false,hnil.v]) (us:=[.bool false,hnil.v]) (a.k11) ST_31 e0 e0 rfl rfl (one_of rfl) rfl) fun w a=>yT (r_stbn (vals':=[.bool false,hnil.v]) (us:=[.bool false,hnil.v]) (a.k11) ST_31 e0 e0 rfl rfl (one_of rfl) rfl) fun w a=>Ya (iV 8) rfl (wK a8 (wp_ret (a5 _ _ _ rfl ?_)))))
  cases b
  replace a:=a.immNh (rI .u32)
  exact D _ _ _ (fin3r Tryz.results114 (rcs2 rfl rfl a R1 ST_31 rfl) (rcs2 rfl rfl a R0 ST_31 rfl) ⟨rfl,rfl⟩ ⟨_,_,rfl,((a.k1d).facts (allC F0 (allC F0 (allT (allT allI)))))⟩)
 ·refine wp_skip (a4 _ _ (sR fun _ a9=>yY (yFb FL_31_1 e0) (yY (lb_ i.v O_29 e0 a R3) (bE b fun d3 b0 b=>yC (yCall FN_73 (a1 e0)) (integer_trim_ok b0 (mtF V) a) ?_))))
  rintro _ w ⟨d4,rfl,a⟩
  refine ⟨_,rfl,?_⟩
  refine Ym k.v e0 (bE b fun s b1 b=>yC (yCall FN_93 (a2 e0 e0)) (integer_divide_ok b1 F0 F1 a) ?_)
  rintro _ w ⟨m,h,rfl,a⟩
  refine ⟨_,rfl,?_⟩
  refine Ym (.tuple #[m.v,h.v]) e0 (yY (x_ m.v e0) (yY (x_ h.v e0) (Ya m.v e0 (Ya h.v e0 (wK a9 (sQ fun b2 b3=>sR fun _ b4=>yY (yFb FL_31_0 e0) (yY (lb_ (.bool c) O_4 e0 a R3) (Ym (.bool c) e0 ?_))))))))
  refine joinW 4 (fun f w=>f 2=(pB o)∧f 3=(pB p)∧f 4=(pB q)∧f 5=(pB r)∧f 7=k.v∧f 8=m.v∧f 9=h.v∧f 32=.bool (c && (decide ((0:Int) < (s.2.length:Int))))∧St w0 (imm (rI .u32) k.v a0::imm (rI .u32) m.v s.1::imm (rI .u32) h.v s.2::ros) (box o 31 [.bool c,i.v]::box p 31 [.bool g,j.v]::box q 31 [.bool false,hnil.v]::box r 31 [.bool false,hnil.v]::rs) w) (fun E=>?_) ?_
  ·rcases Bool.eq_false_or_eq_true c with d | d
   ·exact yG d (m_ h.v e0) (yG d (yLen SL_29 e0 a (rdI F1)) (yG d (ygtr e0 rfl) (yY (pt_ (.bool (decide ((0:Int) < (s.2.length:Int)))) e0 d e0) (E _ _ ⟨rfl,rfl,rfl,rfl,rfl,rfl,rfl,(congrArg Value.bool (andT d)),((a.k1e).facts (allC F3 (allC F0 (allC F1 (allT (allT (allT (allT allI))))))))⟩))))
   ·exact gN d (gN d (gN d (yY (pf_ (.bool false) e0 d rfl) (E _ _ ⟨rfl,rfl,rfl,rfl,rfl,rfl,rfl,(congrArg Value.bool (andF d)),((a.k1e).facts (allC F3 (allC F0 (allC F1 (allT (allT (allT (allT allI))))))))⟩))))
  rintro f w ⟨F,G,H,I,b5,J,K,b6,a⟩
  refine wK b4 ?_
  have L:∀ (x y:LI) (t u:Hdr) (f:FV) w,f 2=(pB o)→f 3=(pB p)→f 4=(pB q)→f 5=(pB r)→f 8=t.v→f 9=u.v→St w0 (imm (rI .u32) t.v x::imm (rI .u32) u.v y::ros) (box o 31 [.bool c,i.v]::box p 31 [.bool g,j.v]::box q 31 [.bool false,hnil.v]::box r 31 [.bool false,hnil.v]::rs) w→integer_DivMod_j2 c g x y=some out→b2 .normal (fr 48 f) w:=by
   intro x y t u f w c0 c1 N O c2 c3 a b
   refine b3 _ _ (sR fun _ c4=>yY (yFb FL_31_0 (eh c0)) (yY (lb_ (.bool c) O_4 e0 a R0) (yY (yFb FL_31_0 (eh c1)) (yY (lb_ (.bool g) O_4 e0 a R1) (yY (yneb (by kernel_rfl) e0 e0) (Ym t.v (eh c2) (bE b fun R c5 b=>yC (yCall FN_76 (a2 e0 e0)) (integer_big_ok c5 F0 a) ?_)))))))
   rintro _ w ⟨S,rfl,a⟩
   refine ⟨_,rfl,?_⟩
   refine Ym u.v (eh c3) (bE b fun T c6 b=>yC (yCall FN_76 (a2 rfl e0)) (integer_big_ok c6 F2 a) ?_)
   rintro _ w ⟨U,rfl,a⟩
   refine ⟨_,rfl,?_⟩
   refine yT (r_stbn (vals':=[.bool R.1,S.v]) (us:=[.bool R.1,S.v]) (a.k1f) ST_31 (eh N) e0 rfl rfl (one_of rfl) rfl) fun w a=>yT (r_stbn (vals':=[.bool T.1,U.v]) (us:=[.bool T.1,U.v]) (a.k17) ST_31 (eh O) e0 rfl rfl (one_of rfl) rfl) fun w a=>Ya (iV 0) rfl (wK c4 (wp_ret ?_))
   cases b
   exact D _ _ _ (fin3r Tryz.results114 (rcs2 rfl N a R1 ST_31 rfl) (rcs2 rfl O a R0 ST_31 rfl) ⟨rfl,rfl⟩ ⟨_,_,rfl,((a.k1d).facts (allC F1 (allC F0 (allT (allT (allT (allT allI)))))))⟩)
  refine cB (eh b6) b (fun c7 b=>?_) fun c7 b=>?_
  ·refine wR (Ym m.v (eh J) (yH (rLt (n:=1) (l:=[1]) a SL_29 [.int .u32 1] (bp1 rfl) rfl rfl (mks1 (cs:=[.int .u32 1]) rfl mkI mks0)) fun d5 w a=>bE b fun d6 c8 b=>?_))
   replace a:=a.fz
   refine yC (yCall FN_112 (a2 e0 e0)) (integer_plus_ok c8 F2 F0 a) ?_
   rintro _ w ⟨c9,rfl,a⟩
   refine ⟨_,rfl,?_⟩
   refine Ym k.v (eh b5) (Ym h.v (eh K) (bE b fun d7 d0 b=>yC (yCall FN_113 (a2 e0 e0)) (integer_minus_ok d0 F2 F4 a) ?_))
   rintro _ w ⟨d1,rfl,a⟩
   refine ⟨_,rfl,?_⟩
   exact Ya c9.v e0 (Ya d1.v e0 (wN (L _ _ _ _ _ _ F G H I rfl rfl (a.facts (allC F1 (allC F0 (allT (allT (allT (allT (allT (allT allI))))))))) b)))
  ·exact wp_skip (L _ _ _ _ _ _ F G H I J K (a.facts (allC F1 (allC F2 (allT (allT (allT allI)))))) b)
end Go.Proofs.YtpfmbaidflhamaaGreatDoor
