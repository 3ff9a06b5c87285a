/- The library's digits of small numbers and its Join. -/
import Derived.KernelRfl
import Derived.Shelf.Strconv.Itoa3
import Derived.Shelf.Strings.OnBuilder
import Derived.Test.YtpfmbaidflhamaaDoorTy
namespace Go.Proofs.YtpfmbaidflhamaaDoor
open Go Go.Shelf
set_option maxRecDepth 100000
set_option maxHeartbeats 4000000
set_option linter.unusedVariables false
def Tryd.lays171_r:Ren:=⟨(fun x=>match x with | 171=>44 | 243=>60 | 246=>77 | 283=>85 | 284=>86 | 285=>87 | 286=>88 | 129=>96 | 317=>95 | 318=>97 | 319=>98 | 320=>99 | 337=>103 | 338=>104 | _=>0),(fun x=>match x with | 3=>3 | 9=>9 | 2=>2 | 4=>4 | 171=>110 | 0=>0 | 53=>76 | 37=>85 | 5=>5 | 173=>113 | 212=>125 | 51=>58 | 20=>20 | 213=>126 | 46=>51 | 232=>130 | 233=>131 | _=>0),(fun x=>match x with | 17=>0 | 18=>2 | 19=>3 | _=>0)⟩
theorem Tryd.lays171:Lays.n171 Tryd.prog Tryd.lays171_r where
  mixed:=by kernel_rfl
  f129:=by kernel_rfl
  f171:=by kernel_rfl
  f243:=by kernel_rfl
  f246:=by kernel_rfl
  f283:=by kernel_rfl
  f284:=by kernel_rfl
  f285:=by kernel_rfl
  f286:=by kernel_rfl
  f317:=by kernel_rfl
  f318:=by kernel_rfl
  f319:=by kernel_rfl
  f320:=by kernel_rfl
  f337:=by kernel_rfl
  f338:=by kernel_rfl
  t0:=by kernel_rfl
  a0:=fun w=>by kernel_rfl
  z0:=fun w=>by kernel_rfl
  v0:=fun w=>by kernel_rfl
  t2:=by kernel_rfl
  a2:=fun w=>by kernel_rfl
  z2:=fun w=>by kernel_rfl
  v2:=fun w=>by kernel_rfl
  t3:=by kernel_rfl
  a3:=fun w=>by kernel_rfl
  z3:=fun w=>by kernel_rfl
  v3:=fun w=>by kernel_rfl
  t4:=by kernel_rfl
  a4:=fun w=>by kernel_rfl
  z4:=fun w=>by kernel_rfl
  v4:=fun w=>by kernel_rfl
  t5:=by kernel_rfl
  a5:=fun w=>by kernel_rfl
  z5:=fun w=>by kernel_rfl
  v5:=fun w=>by kernel_rfl
  t9:=by kernel_rfl
  a9:=fun w=>by kernel_rfl
  z9:=fun w=>by kernel_rfl
  v9:=fun w=>by kernel_rfl
  t20:=by kernel_rfl
  a20:=fun w=>by kernel_rfl
  z20:=fun w=>by kernel_rfl
  v20:=fun w=>by kernel_rfl
  t37:=by kernel_rfl
  a37:=fun w=>by kernel_rfl
  z37:=fun w=>by kernel_rfl
  v37:=fun w=>by kernel_rfl
  t46:=by kernel_rfl
  a46:=fun w=>by kernel_rfl
  z46:=fun w=>by kernel_rfl
  v46:=fun w=>by kernel_rfl
  t51:=by kernel_rfl
  a51:=fun w=>by kernel_rfl
  z51:=fun w=>by kernel_rfl
  v51:=fun w=>by kernel_rfl
  t53:=by kernel_rfl
  a53:=fun w=>by kernel_rfl
  z53:=fun w=>by kernel_rfl
  v53:=fun w=>by kernel_rfl
  t171:=by kernel_rfl
  a171:=fun w=>by kernel_rfl
  z171:=fun w=>by kernel_rfl
  v171:=fun w=>by kernel_rfl
  t173:=by kernel_rfl
  a173:=fun w=>by kernel_rfl
  z173:=fun w=>by kernel_rfl
  v173:=fun w=>by kernel_rfl
  t212:=by kernel_rfl
  a212:=fun w=>by kernel_rfl
  z212:=fun w=>by kernel_rfl
  v212:=fun w=>by kernel_rfl
  t213:=by kernel_rfl
  a213:=fun w=>by kernel_rfl
  z213:=fun w=>by kernel_rfl
  t232:=by kernel_rfl
  a232:=fun w=>by kernel_rfl
  z232:=fun w=>by kernel_rfl
  v232:=fun w=>by kernel_rfl
  t233:=by kernel_rfl
  a233:=fun w=>by kernel_rfl
  z233:=fun w=>by kernel_rfl
  v233:=fun w=>by kernel_rfl
  g17:=by kernel_rfl
  g18:=by kernel_rfl
  g19:=by kernel_rfl
def Tryd.lays156_r:Ren:=⟨(fun x=>match x with | 156=>47 | 165=>63 | 166=>64 | 169=>66 | 240=>81 | 241=>82 | 276=>89 | 277=>90 | _=>0),(fun x=>match x with | 31=>67 | 9=>9 | 3=>3 | 4=>4 | 0=>0 | 20=>20 | 72=>87 | 76=>91 | 70=>84 | 37=>85 | 75=>90 | 127=>107 | 164=>115 | 5=>5 | 80=>94 | _=>0),(fun x=>x)⟩
theorem Tryd.lays156:Lays.n156 Tryd.prog Tryd.lays156_r where
  mixed:=by kernel_rfl
  f156:=by kernel_rfl
  f165:=by kernel_rfl
  f166:=by kernel_rfl
  f169:=by kernel_rfl
  f240:=by kernel_rfl
  f241:=by kernel_rfl
  f276:=by kernel_rfl
  f277:=by kernel_rfl
  t0:=by kernel_rfl
  a0:=fun w=>by kernel_rfl
  z0:=fun w=>by kernel_rfl
  v0:=fun w=>by kernel_rfl
  t3:=by kernel_rfl
  a3:=fun w=>by kernel_rfl
  z3:=fun w=>by kernel_rfl
  v3:=fun w=>by kernel_rfl
  t4:=by kernel_rfl
  a4:=fun w=>by kernel_rfl
  z4:=fun w=>by kernel_rfl
  v4:=fun w=>by kernel_rfl
  t9:=by kernel_rfl
  a9:=fun w=>by kernel_rfl
  z9:=fun w=>by kernel_rfl
  v9:=fun w=>by kernel_rfl
  t20:=by kernel_rfl
  a20:=fun w=>by kernel_rfl
  z20:=fun w=>by kernel_rfl
  v20:=fun w=>by kernel_rfl
  t31:=by kernel_rfl
  a31:=fun w=>by kernel_rfl
  z31:=fun w=>by kernel_rfl
  v31:=fun w=>by kernel_rfl
  t37:=by kernel_rfl
  a37:=fun w=>by kernel_rfl
  z37:=fun w=>by kernel_rfl
  v37:=fun w=>by kernel_rfl
  t70:=by kernel_rfl
  a70:=fun w=>by kernel_rfl
  z70:=fun w=>by kernel_rfl
  v70:=fun w=>by kernel_rfl
  t72:=by kernel_rfl
  a72:=fun w=>by kernel_rfl
  z72:=fun w=>by kernel_rfl
  v72:=fun w=>by kernel_rfl
  t75:=by kernel_rfl
  a75:=fun w=>by kernel_rfl
  z75:=fun w=>by kernel_rfl
  v75:=fun w=>by kernel_rfl
  t76:=by kernel_rfl
  a76:=fun w=>by kernel_rfl
  z76:=fun w=>by kernel_rfl
  v76:=fun w=>by kernel_rfl
  t127:=by kernel_rfl
  a127:=fun w=>by kernel_rfl
  z127:=fun w=>by kernel_rfl
  v127:=fun w=>by kernel_rfl
  t164:=by kernel_rfl
  a164:=fun w=>by kernel_rfl
  z164:=fun w=>by kernel_rfl
  v164:=fun w=>by kernel_rfl
theorem Tryd.bExtra:Builder.Extra Tryd.prog Tryd.lays156_r where
  sizeBuilder:=by kernel_rfl
  liesBuilder:=by kernel_rfl
  t5:=by kernel_rfl
  a5:=fun w=>by kernel_rfl
  z5:=fun w=>by kernel_rfl
  v5:=fun w=>by kernel_rfl
  infoByte:=by kernel_rfl
  cellsByte:=by kernel_rfl
  sizeByte:=by kernel_rfl
  neB5:=by decide
open Sx in
theorem itoaG_ok {w0:World} {ros:List Fact} {rs:List Res} {w:World} {x1:Int} {out:ByteArray} (hM:itoaG x1=some out) (hst:St w0 ros (rs) w):
    Calls Tryd.prog 44 #[.int .i64 x1] w (fun e w=>e=.returned (.string out)∧St w0 ros (rs) w):=by
  unfold itoaG at hM
  split at hM
  · rename_i hx
    obtain ⟨h1,h2⟩:=hx
    obtain rfl:=Option.some.inj hM
    obtain ⟨n,rfl⟩:=Int.eq_ofNat_of_zero_le h1
    refine (Any.strconv_Itoa_small Tryd.lays171 n (by omega) w).mono ?_
    rintro e w' ⟨rfl,rfl⟩
    refine ⟨?_,hst⟩
    have:Go.Lib.decDigits n=[UInt8.ofNat (48+n)]:=by unfold Go.Lib.decDigits; rw [dif_pos (by omega)]
    rw [this]
    rfl
  · cases hM
open Sx in
theorem joinG_ok {w0:World} {ros:List Fact} {rs:List Res} {w:World} {x1:List ByteArray} {x2:ByteArray} {h1:Hdr} {out:ByteArray} (hM:joinG x1 x2=some out) (q1:imm rG h1.v x1∈ros) (hst:St w0 ros (rs) w):
    Calls Tryd.prog 47 #[h1.v,.string x2] w (fun e w=>e=.returned (.string out)∧St w0 ros (rs) w):=by
  unfold joinG at hM
  split at hM
  · rename_i hx
    obtain rfl:=Option.some.inj hM
    have hI:∃ X,Imm w X rG h1.v x1∧∀ b,X b→b < w.heap.size:=by
      obtain ⟨X,hX⟩:=hst
      exact ⟨X,hX.ro _ q1,hX.xlt⟩
    obtain ⟨X,hI,hlt⟩:=hI
    obtain ⟨⟨a,cap,hv,hc,hm,hx'⟩,hb⟩:=hI
    by_cases h0:x1=[]
    · subst h0
      rw [hv]
      refine (Any.strings_Join_none Tryd.lays156 Tryd.bExtra a cap x2 w).mono ?_
      rintro e w' ⟨rfl,rfl⟩
      exact ⟨by simp [joinB,List.intercalate],hst⟩
    · have hp:0 < x1.length:=List.length_pos_iff.2 h0
      have h2:=hx' 0 x1[0] (List.getElem?_eq_getElem hp)
      have ha:=h2.1
      rw [hv] at ha hb hx' ⊢
      cases a with
      | none=>cases ha
      | some A=>
        have hA:sAddr (.slice (some A) x1.length cap)=A:=rfl
        rw [hA] at hx'
        have hblk:A.block < w.heap.size:=hlt _ (hb h0 A.block rfl)
        have cell:∀ (j:Nat) x,x1[j]?=some x→w.cell? (A.add j)=some (.string x):=fun j x hj=>by
          obtain ⟨_,cs,hr,hcs⟩:=hx' j x hj
          have hr':cs=[.string x]:=hr
          subst hr'
          have:=hcs 0 _ rfl
          have hs1:(rG).s=1:=rfl
          rw [hs1,Nat.mul_one,Nat.add_zero] at this
          exact this
        have hsp:A.spot=none:=by
          have h3:w.cell? A=some (.string x1[0]):=by
            have:=cell 0 _ (List.getElem?_eq_getElem hp)
            unfold Addr.add at this
            rwa [if_pos rfl] at this
          cases hs:A.spot with
          | none=>rfl
          | some k=>
            exfalso
            unfold World.cell? at h3
            split at h3
            · rw [if_pos (by rw [hs]; rfl)] at h3; cases h3
            · cases h3
        obtain ⟨bk,o,sp⟩:=A
        simp only at hsp hblk
        subst hsp
        refine (Any.strings_Join Tryd.lays156 Tryd.bExtra bk o cap x1 x2 w (fun j x hj=>by have:=cell j x hj; rwa [add_row] at this) hblk (by omega) hc (by have h6:=hx.2; unfold joinB at h6; unfold Go.Lib.join; omega)).mono ?_
        rintro e w' ⟨rfl,hw⟩
        exact ⟨rfl,hst.grow ⟨hw.os,hw.tape,hw.output,hw.size,fun b hb _=>hw.block b hb⟩⟩
  · cases hM
end Go.Proofs.YtpfmbaidflhamaaDoor
