/- Models of functions of the program, printed. -/
import Derived.Test.YthpeajepbffinaaGreatM5
namespace M
open Sx
set_option linter.unusedVariables false
def sparsekit_Graph (x1 : List (List Int)) (x3 : List (List Int)) : Option (Bool) :=
 (sparsekit_Lists x1 x3).bind fun r7 =>
 some r7

def sparsekit_Weighted (x1 : List (List Int)) (x3 : List Int) (x5 : List (List Int)) (x7 : List (List Int)) (x9 : List Int) (x11 : List (List Int)) : Option (Bool) :=
 (sparsekit_Graph x1 x7).bind fun r15 =>
 (if r15 = true then
  (sparsekit_Ints x3 x9).bind fun r20 =>
  some r20
 else
  some false).bind fun r17 =>
 (if r17 = true then
  (sparsekit_Lists x5 x11).bind fun r25 =>
  some r25
 else
  some false).bind fun r22 =>
 some r22

def sparselaw18_DissectMade (x1 : Int) (x2 : List Int) (x4 : List Int) : Option (Bool) :=
 if ((decide ((90 : Int) < (x2.length : Int))) || (decide ((60 : Int) < (x4.length : Int)))) = true then
  (sparselaw18_awake).bind fun r9 =>
  some r9
 else
  (sparsekit_Place x1 25).bind fun r10 =>
  (sparsemake_Weighted r10 x2 x4).bind fun r11 =>
  (dissect_Match r11.1 r11.2.1 r11.2.2).bind fun r16 =>
  (sparseref18_Match r11.1 r11.2.1 r11.2.2).bind fun r18 =>
  (if r16.2 = 0 then
   (sparsekit_Ints r16.1 r18.1).bind fun r24 =>
   some (!(r24))
  else
   some true).bind fun r21 =>
  if r21 = true then
   some false
  else
   (dissect_Coarsen r11.1 r11.2.1 r11.2.2 r16.1).bind fun r26 =>
   (sparseref18_Coarsen r11.1 r11.2.1 r11.2.2 r18.1).bind fun r34 =>
   (dissect_Bisect r11.1 r11.2.1 r11.2.2).bind fun r42 =>
   (sparseref18_Bisect FUEL r11.1 r11.2.1 r11.2.2).bind fun r44 =>
   (if ((decide (r26.2.2.2.2 = 0)) && (decide (r42.2 = 0))) = true then
    (sparsekit_Weighted r26.1 r26.2.1 r26.2.2.1 r34.1 r34.2.1 r34.2.2.1).bind fun r52 =>
    some r52
   else
    some false).bind fun r49 =>
   (if r49 = true then
    (sparsekit_Ints r26.2.2.2.1 r34.2.2.2.1).bind fun r57 =>
    some r57
   else
    some false).bind fun r54 =>
   (if r54 = true then
    (sparsekit_Ints r42.1 r44.1).bind fun r62 =>
    some r62
   else
    some false).bind fun r59 =>
   (if r59 = true then
    (sparselaw18_awake).bind fun r67 =>
    some r67
   else
    some false).bind fun r64 =>
   some r64
end M
