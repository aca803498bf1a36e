/- Calls that have been run: facts i >= 0, and the two checks of lists of them. -/
import Derived.Test.YtfhkpkhgbcdcdaaGreatDoorSzB

set_option maxRecDepth 100000
namespace Go.AX.Run
open Go.RowKit Go.Proofs Go.AX
noncomputable section
/-- The text of i < 100. -/
def wh (i : Nat) : AV := bif Nat.blt i 10 then sb [Nat.add 48 i] else sb [Nat.add 48 (Nat.div i 10), Nat.add 48 (Nat.mod i 10)]
def fct (i : Nat) : List AV := [i6 0, .ro [[sb [49]]], wh i, sb [48]]
def rng (a n : Nat) : List Nat := List.range' a n
def rWhole : Tbl := (rng 0 70).map fun i => ([.v (.int .i64 (.ofNat i))], wh i)
def U0 : Tab := T0.also 8 rWhole
theorem U0_ok : TabOK Tryz.prog U0 := T0_ok.also hP (k := 60) (by kernel_rfl)
def rChk (a n : Nat) : Tbl := (rng a n).map fun i => ([wh i], i6 0)
def rCmp (a n : Nat) : Tbl := (rng a n).map fun i => ([wh i, wh (Nat.succ i)], .tup [i6 (-1), i6 0])
def rGcd (a n : Nat) : Tbl := (rng a n).map fun i => ([sb [49], wh i], .tup [sb [49], i6 0])
def rOne1 : Tbl := [([sb [49], sb [49]], .tup [i6 0, i6 0])]
def rOne2 : Tbl := [([sb [48], sb [49]], .tup [sb [49], i6 0])]
def rOne3 : Tbl := [([sb [49]], .tup [i6 1, i6 0])]
def rCon (a n : Nat) : Tbl := (rng a n).map fun i => ([.agg (fct i), i6 1], i6 0)
def rRed (a n : Nat) : Tbl := (rng a n).map fun i => ([.agg (fct i)], bo true)
def rOrd (a n : Nat) : Tbl := (rng a n).map fun i => ([.agg (fct i), .agg (fct (Nat.succ i))], i6 (-1))
def V1 : Tab := U0.also 41 rOne3
theorem V1_ok : TabOK Tryz.prog V1 := TabOK.also (T := U0) hP U0_ok (k := 60) (by kernel_rfl)
def V2 : Tab := V1.also 38 rOne1
theorem V2_ok : TabOK Tryz.prog V2 := TabOK.also (T := V1) hP V1_ok (k := 60) (by kernel_rfl)
def V3 : Tab := V2.also 38 (rCmp 0 18)
theorem V3_ok : TabOK Tryz.prog V3 := TabOK.also (T := V2) hP V2_ok (k := 60) (by kernel_rfl)
def V4 : Tab := V3.also 38 (rCmp 18 18)
theorem V4_ok : TabOK Tryz.prog V4 := TabOK.also (T := V3) hP V3_ok (k := 60) (by kernel_rfl)
def V5 : Tab := V4.also 38 (rCmp 36 18)
theorem V5_ok : TabOK Tryz.prog V5 := TabOK.also (T := V4) hP V4_ok (k := 60) (by kernel_rfl)
def V6 : Tab := V5.also 38 (rCmp 54 15)
theorem V6_ok : TabOK Tryz.prog V6 := TabOK.also (T := V5) hP V5_ok (k := 60) (by kernel_rfl)
def V7 : Tab := V6.also 71 rOne2
theorem V7_ok : TabOK Tryz.prog V7 := TabOK.also (T := V6) hP V6_ok (k := 60) (by kernel_rfl)
def V8 : Tab := V7.also 71 (rGcd 0 18)
theorem V8_ok : TabOK Tryz.prog V8 := TabOK.also (T := V7) hP V7_ok (k := 60) (by kernel_rfl)
def V9 : Tab := V8.also 71 (rGcd 18 18)
theorem V9_ok : TabOK Tryz.prog V9 := TabOK.also (T := V8) hP V8_ok (k := 60) (by kernel_rfl)
def V10 : Tab := V9.also 71 (rGcd 36 18)
theorem V10_ok : TabOK Tryz.prog V10 := TabOK.also (T := V9) hP V9_ok (k := 60) (by kernel_rfl)
def V11 : Tab := V10.also 71 (rGcd 54 16)
theorem V11_ok : TabOK Tryz.prog V11 := TabOK.also (T := V10) hP V10_ok (k := 60) (by kernel_rfl)
def V12 : Tab := V11.also 102 (rChk 0 35)
theorem V12_ok : TabOK Tryz.prog V12 := TabOK.also (T := V11) hP V11_ok (k := 60) (by kernel_rfl)
def V13 : Tab := V12.also 102 (rChk 35 35)
theorem V13_ok : TabOK Tryz.prog V13 := TabOK.also (T := V12) hP V12_ok (k := 60) (by kernel_rfl)
def V14 : Tab := V13.also 21 (rCon 0 70)
theorem V14_ok : TabOK Tryz.prog V14 := TabOK.also (T := V13) hP V13_ok (k := 60) (by kernel_rfl)
def V15 : Tab := V14.also 22 (rRed 0 70)
theorem V15_ok : TabOK Tryz.prog V15 := TabOK.also (T := V14) hP V14_ok (k := 60) (by kernel_rfl)
def V16 : Tab := V15.also 23 (rOrd 0 69)
theorem V16_ok : TabOK Tryz.prog V16 := TabOK.also (T := V15) hP V15_ok (k := 60) (by kernel_rfl)
def V17 : Tab := V16.also 25 (rCon 0 70)
theorem V17_ok : TabOK Tryz.prog V17 := TabOK.also (T := V16) hP V16_ok (k := 60) (by kernel_rfl)
def V18 : Tab := V17.also 26 (rRed 0 70)
theorem V18_ok : TabOK Tryz.prog V18 := TabOK.also (T := V17) hP V17_ok (k := 60) (by kernel_rfl)
def V19 : Tab := V18.also 27 (rOrd 0 69)
theorem V19_ok : TabOK Tryz.prog V19 := TabOK.also (T := V18) hP V18_ok (k := 60) (by kernel_rfl)
def Wt : Tab := V19
theorem Wt_ok : TabOK Tryz.prog Wt := V19_ok
end
end Go.AX.Run
